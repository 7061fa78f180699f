-- Written by a program of this session for this claim (wip/print2.sh). Lean checks it.
import Derived.Test.YthejabcfbbmkeaaDoorPFx0
import Derived.Test.YthejabcfbbmkeaaDoorPFx2
import Derived.Test.YthejabcfbbmkeaaDoorHand
namespace Go.Proofs.YthejabcfbbmkeaaDoor.PF
open Go.Proofs.YthejabcfbbmkeaaDoorW.PrintWords
attribute [local go_sem high] fx_eql fx_neq fx_lss fx_leq fx_gtr fx_geq fx_add fx_sub fx_mul fx_neg fx_toint cxx_add cxx_sub cxx_mul cxx_eql cxx_neq cxx_pick st_float st_complex
open Go.RowKit Go.Proofs.YthejabcfbbmkeaaDoorW.PrintWords Go.Proofs.YthejabcfbbmkeaaDoorW.PrintLast Go.Proofs.YthejabcfbbmkeaaDoorW.PrintMore
attribute [local go_sem] max2_int min2_int max_two min_two max_three min_three max_four min_four   -- for this text's walks alone
set_option linter.unusedVariables false
set_option linter.unusedSimpArgs false

/-! ### pylonlaw01_FixHalves: function 3 -/
def pylonlaw01_FixHalves.j0 : Nat → Int → Int → Int → Int → Int → Bool → Option (Bool)
  | 0, _, _, _, _, _, _ => none
  | k + 1, x7, x8, x9, x10, x12, x75 => if x75 = true then (some false) else ((pylonlaw01_near.f (wrap64 (x7 * x8)) x9 x10).bind fun t144 => (if t144 = true then ((pylonlaw01_near.f x7 x9 x12).bind fun t145 => (some t145)) else (some false)))
def pylonlaw01_FixHalves.f (k : Nat) (a0 : Int) (a1 : Int) (a2 : Int) : Option (Bool) := (pylonlaw01_awake.f k).bind fun t139 => (if t139 = true then ((fix_MulDiv.f k (wrap64 (Int.tmod a0 1048576)) (wrap64 (Int.tmod a1 1048576)) (wrap64 (Int.tmod a2 1048576))).bind fun bt140 => ((fix_Half.f k (wrap64 (Int.tmod a0 1048576)) (wrap64 (Int.tmod a2 1048576))).bind fun bt142 => (if (wrap64 (Int.tmod a2 1048576)) = 0 then (if bt140.2 = 6 then (if bt142.2 = 6 then (if bt140.1 = 0 then (some (bt142.1 == 0)) else (some false)) else (some false)) else (some false)) else (if bt140.1 > 2199023255552 then (pylonlaw01_FixHalves.j0 k (wrap64 (Int.tmod a0 1048576)) (wrap64 (Int.tmod a1 1048576)) (wrap64 (Int.tmod a2 1048576)) bt140.1 bt142.1 true) else (if bt140.1 < (-2199023255552) then (pylonlaw01_FixHalves.j0 k (wrap64 (Int.tmod a0 1048576)) (wrap64 (Int.tmod a1 1048576)) (wrap64 (Int.tmod a2 1048576)) bt140.1 bt142.1 true) else (if bt142.1 > 2097152 then (pylonlaw01_FixHalves.j0 k (wrap64 (Int.tmod a0 1048576)) (wrap64 (Int.tmod a1 1048576)) (wrap64 (Int.tmod a2 1048576)) bt140.1 bt142.1 true) else (if bt142.1 < (-2097152) then (pylonlaw01_FixHalves.j0 k (wrap64 (Int.tmod a0 1048576)) (wrap64 (Int.tmod a1 1048576)) (wrap64 (Int.tmod a2 1048576)) bt140.1 bt142.1 true) else (if bt140.2 = 0 then (pylonlaw01_FixHalves.j0 k (wrap64 (Int.tmod a0 1048576)) (wrap64 (Int.tmod a1 1048576)) (wrap64 (Int.tmod a2 1048576)) bt140.1 bt142.1 (bt142.2 != 0)) else (pylonlaw01_FixHalves.j0 k (wrap64 (Int.tmod a0 1048576)) (wrap64 (Int.tmod a1 1048576)) (wrap64 (Int.tmod a2 1048576)) bt140.1 bt142.1 true))))))))) else (some false))
theorem pylonlaw01_FixHalves.mono_l : ∀ k, (∀ y0 y1 y2 y3 y4 y5, LeO (pylonlaw01_FixHalves.j0 k y0 y1 y2 y3 y4 y5) (pylonlaw01_FixHalves.j0 (k + 1) y0 y1 y2 y3 y4 y5))
  | 0 => fun _ _ _ _ _ _ r h => by simp [pylonlaw01_FixHalves.j0] at h
  | k + 1 => by
    have ih0 := pylonlaw01_FixHalves.mono_l k
    · intro y0 y1 y2 y3 y4 y5
      unfold pylonlaw01_FixHalves.j0
      repeat' first
      | (with_reducible exact ih0 _ _ _ _ _ _)
      | (with_reducible exact fix_Half.mono _ _ _)
      | (with_reducible exact fix_MulDiv.mono _ _ _ _)
      | (with_reducible exact pylonlaw01_awake.mono _)
      | (with_reducible exact LeO.refl _)
      | (with_reducible exact LeO.none _)
      | (with_reducible refine LeO.ite ?_ ?_)
      | (with_reducible refine LeO.bind ?_ (fun _ => ?_))
      | exact ih0 _ _ _ _ _ _
      | exact fix_Half.mono _ _ _
      | exact fix_MulDiv.mono _ _ _ _
      | exact pylonlaw01_awake.mono _
      | exact LeO.none _
      | refine LeO.ite ?_ ?_
      | refine LeO.bind ?_ (fun _ => ?_)
theorem pylonlaw01_FixHalves.mono : ∀ a0 a1 a2 k, LeO (pylonlaw01_FixHalves.f k a0 a1 a2) (pylonlaw01_FixHalves.f (k + 1) a0 a1 a2) := by
  intro a0 a1 a2 k
  have ih0 := pylonlaw01_FixHalves.mono_l k
  unfold pylonlaw01_FixHalves.f
  repeat' first
      | (with_reducible exact ih0 _ _ _ _ _ _)
      | (with_reducible exact fix_Half.mono _ _ _)
      | (with_reducible exact fix_MulDiv.mono _ _ _ _)
      | (with_reducible exact pylonlaw01_awake.mono _)
      | (with_reducible exact LeO.refl _)
      | (with_reducible exact LeO.none _)
      | (with_reducible refine LeO.ite ?_ ?_)
      | (with_reducible refine LeO.bind ?_ (fun _ => ?_))
      | exact ih0 _ _ _ _ _ _
      | exact fix_Half.mono _ _ _
      | exact fix_MulDiv.mono _ _ _ _
      | exact pylonlaw01_awake.mono _
      | exact LeO.none _
      | refine LeO.ite ?_ ?_
      | refine LeO.bind ?_ (fun _ => ?_)
set_option maxHeartbeats 8000000 in
set_option maxRecDepth 100000 in
theorem pylonlaw01_FixHalves.calls (k : Nat) (a0 : Int) (a1 : Int) (a2 : Int) (r : Bool) (w : World) (hT_ : Go.Proofs.YthejabcfbbmkeaaDoor.Hand.T1 w) (h : pylonlaw01_FixHalves.f k a0 a1 a2 = some r) :
    Calls Tryd.prog 3 #[.int .i32 a0, .int .i32 a1, .int .i32 a2] w fun e w' => e = .returned (.bool r) ∧ Below w.heap.size w w' := by
  have HTB := Aside0.mk hT_
  clear hT_
  have HB := Aside0.mk (Below.refl w.heap.size w)
  have H : ((pylonlaw01_awake.f k).bind fun t139 => (if t139 = true then ((fix_MulDiv.f k (wrap64 (Int.tmod a0 1048576)) (wrap64 (Int.tmod a1 1048576)) (wrap64 (Int.tmod a2 1048576))).bind fun bt140 => ((fix_Half.f k (wrap64 (Int.tmod a0 1048576)) (wrap64 (Int.tmod a2 1048576))).bind fun bt142 => (if (wrap64 (Int.tmod a2 1048576)) = 0 then (if bt140.2 = 6 then (if bt142.2 = 6 then (if bt140.1 = 0 then (some (bt142.1 == 0)) else (some false)) else (some false)) else (some false)) else (if bt140.1 > 2199023255552 then (pylonlaw01_FixHalves.j0 k (wrap64 (Int.tmod a0 1048576)) (wrap64 (Int.tmod a1 1048576)) (wrap64 (Int.tmod a2 1048576)) bt140.1 bt142.1 true) else (if bt140.1 < (-2199023255552) then (pylonlaw01_FixHalves.j0 k (wrap64 (Int.tmod a0 1048576)) (wrap64 (Int.tmod a1 1048576)) (wrap64 (Int.tmod a2 1048576)) bt140.1 bt142.1 true) else (if bt142.1 > 2097152 then (pylonlaw01_FixHalves.j0 k (wrap64 (Int.tmod a0 1048576)) (wrap64 (Int.tmod a1 1048576)) (wrap64 (Int.tmod a2 1048576)) bt140.1 bt142.1 true) else (if bt142.1 < (-2097152) then (pylonlaw01_FixHalves.j0 k (wrap64 (Int.tmod a0 1048576)) (wrap64 (Int.tmod a1 1048576)) (wrap64 (Int.tmod a2 1048576)) bt140.1 bt142.1 true) else (if bt140.2 = 0 then (pylonlaw01_FixHalves.j0 k (wrap64 (Int.tmod a0 1048576)) (wrap64 (Int.tmod a1 1048576)) (wrap64 (Int.tmod a2 1048576)) bt140.1 bt142.1 (bt142.2 != 0)) else (pylonlaw01_FixHalves.j0 k (wrap64 (Int.tmod a0 1048576)) (wrap64 (Int.tmod a1 1048576)) (wrap64 (Int.tmod a2 1048576)) bt140.1 bt142.1 true))))))))) else (some false))) = some r := h
  clear h
  replace H := Option.bind_eq_some_iff.mp H
  obtain ⟨t139, A40, H⟩ := H
  replace H : (if t139 = true then ((fix_MulDiv.f k (wrap64 (Int.tmod a0 1048576)) (wrap64 (Int.tmod a1 1048576)) (wrap64 (Int.tmod a2 1048576))).bind fun bt140 => ((fix_Half.f k (wrap64 (Int.tmod a0 1048576)) (wrap64 (Int.tmod a2 1048576))).bind fun bt142 => (if (wrap64 (Int.tmod a2 1048576)) = 0 then (if bt140.2 = 6 then (if bt142.2 = 6 then (if bt140.1 = 0 then (some (bt142.1 == 0)) else (some false)) else (some false)) else (some false)) else (if bt140.1 > 2199023255552 then (pylonlaw01_FixHalves.j0 k (wrap64 (Int.tmod a0 1048576)) (wrap64 (Int.tmod a1 1048576)) (wrap64 (Int.tmod a2 1048576)) bt140.1 bt142.1 true) else (if bt140.1 < (-2199023255552) then (pylonlaw01_FixHalves.j0 k (wrap64 (Int.tmod a0 1048576)) (wrap64 (Int.tmod a1 1048576)) (wrap64 (Int.tmod a2 1048576)) bt140.1 bt142.1 true) else (if bt142.1 > 2097152 then (pylonlaw01_FixHalves.j0 k (wrap64 (Int.tmod a0 1048576)) (wrap64 (Int.tmod a1 1048576)) (wrap64 (Int.tmod a2 1048576)) bt140.1 bt142.1 true) else (if bt142.1 < (-2097152) then (pylonlaw01_FixHalves.j0 k (wrap64 (Int.tmod a0 1048576)) (wrap64 (Int.tmod a1 1048576)) (wrap64 (Int.tmod a2 1048576)) bt140.1 bt142.1 true) else (if bt140.2 = 0 then (pylonlaw01_FixHalves.j0 k (wrap64 (Int.tmod a0 1048576)) (wrap64 (Int.tmod a1 1048576)) (wrap64 (Int.tmod a2 1048576)) bt140.1 bt142.1 (bt142.2 != 0)) else (pylonlaw01_FixHalves.j0 k (wrap64 (Int.tmod a0 1048576)) (wrap64 (Int.tmod a1 1048576)) (wrap64 (Int.tmod a2 1048576)) bt140.1 bt142.1 true))))))))) else (some false)) = some r := H
  have A4 := Aside0.mk A40
  clear A40
  by_cases c5 : t139 = true
  · subst c5
    have H1 : ((fix_MulDiv.f k (wrap64 (Int.tmod a0 1048576)) (wrap64 (Int.tmod a1 1048576)) (wrap64 (Int.tmod a2 1048576))).bind fun bt140 => ((fix_Half.f k (wrap64 (Int.tmod a0 1048576)) (wrap64 (Int.tmod a2 1048576))).bind fun bt142 => (if (wrap64 (Int.tmod a2 1048576)) = 0 then (if bt140.2 = 6 then (if bt142.2 = 6 then (if bt140.1 = 0 then (some (bt142.1 == 0)) else (some false)) else (some false)) else (some false)) else (if bt140.1 > 2199023255552 then (pylonlaw01_FixHalves.j0 k (wrap64 (Int.tmod a0 1048576)) (wrap64 (Int.tmod a1 1048576)) (wrap64 (Int.tmod a2 1048576)) bt140.1 bt142.1 true) else (if bt140.1 < (-2199023255552) then (pylonlaw01_FixHalves.j0 k (wrap64 (Int.tmod a0 1048576)) (wrap64 (Int.tmod a1 1048576)) (wrap64 (Int.tmod a2 1048576)) bt140.1 bt142.1 true) else (if bt142.1 > 2097152 then (pylonlaw01_FixHalves.j0 k (wrap64 (Int.tmod a0 1048576)) (wrap64 (Int.tmod a1 1048576)) (wrap64 (Int.tmod a2 1048576)) bt140.1 bt142.1 true) else (if bt142.1 < (-2097152) then (pylonlaw01_FixHalves.j0 k (wrap64 (Int.tmod a0 1048576)) (wrap64 (Int.tmod a1 1048576)) (wrap64 (Int.tmod a2 1048576)) bt140.1 bt142.1 true) else (if bt140.2 = 0 then (pylonlaw01_FixHalves.j0 k (wrap64 (Int.tmod a0 1048576)) (wrap64 (Int.tmod a1 1048576)) (wrap64 (Int.tmod a2 1048576)) bt140.1 bt142.1 (bt142.2 != 0)) else (pylonlaw01_FixHalves.j0 k (wrap64 (Int.tmod a0 1048576)) (wrap64 (Int.tmod a1 1048576)) (wrap64 (Int.tmod a2 1048576)) bt140.1 bt142.1 true))))))))) = some r := by rw [if_pos rfl] at H; exact H
    clear H
    have H := H1
    clear H1
    replace H := Option.bind_eq_some_iff.mp H
    obtain ⟨⟨t140, t141⟩, A60, H⟩ := H
    replace H : ((fix_Half.f k (wrap64 (Int.tmod a0 1048576)) (wrap64 (Int.tmod a2 1048576))).bind fun bt142 => (if (wrap64 (Int.tmod a2 1048576)) = 0 then (if t141 = 6 then (if bt142.2 = 6 then (if t140 = 0 then (some (bt142.1 == 0)) else (some false)) else (some false)) else (some false)) else (if t140 > 2199023255552 then (pylonlaw01_FixHalves.j0 k (wrap64 (Int.tmod a0 1048576)) (wrap64 (Int.tmod a1 1048576)) (wrap64 (Int.tmod a2 1048576)) t140 bt142.1 true) else (if t140 < (-2199023255552) then (pylonlaw01_FixHalves.j0 k (wrap64 (Int.tmod a0 1048576)) (wrap64 (Int.tmod a1 1048576)) (wrap64 (Int.tmod a2 1048576)) t140 bt142.1 true) else (if bt142.1 > 2097152 then (pylonlaw01_FixHalves.j0 k (wrap64 (Int.tmod a0 1048576)) (wrap64 (Int.tmod a1 1048576)) (wrap64 (Int.tmod a2 1048576)) t140 bt142.1 true) else (if bt142.1 < (-2097152) then (pylonlaw01_FixHalves.j0 k (wrap64 (Int.tmod a0 1048576)) (wrap64 (Int.tmod a1 1048576)) (wrap64 (Int.tmod a2 1048576)) t140 bt142.1 true) else (if t141 = 0 then (pylonlaw01_FixHalves.j0 k (wrap64 (Int.tmod a0 1048576)) (wrap64 (Int.tmod a1 1048576)) (wrap64 (Int.tmod a2 1048576)) t140 bt142.1 (bt142.2 != 0)) else (pylonlaw01_FixHalves.j0 k (wrap64 (Int.tmod a0 1048576)) (wrap64 (Int.tmod a1 1048576)) (wrap64 (Int.tmod a2 1048576)) t140 bt142.1 true)))))))) = some r := H
    have A6 := Aside0.mk A60
    clear A60
    replace H := Option.bind_eq_some_iff.mp H
    obtain ⟨⟨t142, t143⟩, A70, H⟩ := H
    replace H : (if (wrap64 (Int.tmod a2 1048576)) = 0 then (if t141 = 6 then (if t143 = 6 then (if t140 = 0 then (some (t142 == 0)) else (some false)) else (some false)) else (some false)) else (if t140 > 2199023255552 then (pylonlaw01_FixHalves.j0 k (wrap64 (Int.tmod a0 1048576)) (wrap64 (Int.tmod a1 1048576)) (wrap64 (Int.tmod a2 1048576)) t140 t142 true) else (if t140 < (-2199023255552) then (pylonlaw01_FixHalves.j0 k (wrap64 (Int.tmod a0 1048576)) (wrap64 (Int.tmod a1 1048576)) (wrap64 (Int.tmod a2 1048576)) t140 t142 true) else (if t142 > 2097152 then (pylonlaw01_FixHalves.j0 k (wrap64 (Int.tmod a0 1048576)) (wrap64 (Int.tmod a1 1048576)) (wrap64 (Int.tmod a2 1048576)) t140 t142 true) else (if t142 < (-2097152) then (pylonlaw01_FixHalves.j0 k (wrap64 (Int.tmod a0 1048576)) (wrap64 (Int.tmod a1 1048576)) (wrap64 (Int.tmod a2 1048576)) t140 t142 true) else (if t141 = 0 then (pylonlaw01_FixHalves.j0 k (wrap64 (Int.tmod a0 1048576)) (wrap64 (Int.tmod a1 1048576)) (wrap64 (Int.tmod a2 1048576)) t140 t142 (t143 != 0)) else (pylonlaw01_FixHalves.j0 k (wrap64 (Int.tmod a0 1048576)) (wrap64 (Int.tmod a1 1048576)) (wrap64 (Int.tmod a2 1048576)) t140 t142 true))))))) = some r := H
    have A7 := Aside0.mk A70
    clear A70
    by_cases c8 : (wrap64 (Int.tmod a2 1048576)) = 0
    · rw [if_pos c8] at H
      have c8b0 : ((wrap64 (Int.tmod a2 1048576)) == 0) = true := beq_iff_eq.mpr c8
      have c8b1 : ((wrap64 (Int.tmod a2 1048576)) != 0) = false := bne_eq_false_iff_eq.mpr c8
      clear c8
      by_cases c9 : t141 = 6
      · rw [if_pos c9] at H
        have c9b0 : (t141 == 6) = true := beq_iff_eq.mpr c9
        have c9b1 : (t141 != 6) = false := bne_eq_false_iff_eq.mpr c9
        clear c9
        by_cases c10 : t143 = 6
        · rw [if_pos c10] at H
          have c10b0 : (t143 == 6) = true := beq_iff_eq.mpr c10
          have c10b1 : (t143 != 6) = false := bne_eq_false_iff_eq.mpr c10
          clear c10
          by_cases c11 : t140 = 0
          · rw [if_pos c11] at H
            have c11b0 : (t140 == 0) = true := beq_iff_eq.mpr c11
            have c11b1 : (t140 != 0) = false := bne_eq_false_iff_eq.mpr c11
            clear c11
            obtain rfl := Option.some.inj H
            go_enter Tryd.func3, Tryd.ntmps3
            go_wp2_with (first | ((with_reducible refine gate_callee (f := 11) rfl ?_); refine goesL_ (some 14) rfl rfl Tryd.func11 (by kernel_rfl) rfl #[] rfl (by (try simp only [List.map_toArray, List.map_cons, List.map_nil]); first | done | rfl | (simp only [List.length_drop, List.length_take]; rfl)) ?_; (with_reducible refine (pylonlaw01_awake.calls k  true _ ?side1 A4.out).mono ?_); (case side1 => exact Go.Proofs.YthejabcfbbmkeaaDoor.Hand.GW.on HTB.out (by repeat (first | (with_reducible first | exact HB.out | apply below_alloc | apply pw_below_drewN | apply below_drew1) | exact HB.out))); rintro e w12 ⟨rfl, hb⟩; refine ⟨_, rfl, ?_⟩; have n0_ := Aside0.mk (below_step (by repeat (first | (with_reducible first | exact HB.out | apply below_alloc | apply pw_below_drewN | apply below_drew1) | exact HB.out)) hb); clear HB; have HB := n0_; clear n0_; (try clear hb); (try clear hb2); (try clear hk); (try clear hi)) | ((with_reducible refine gate_callee (f := 12) rfl ?_); refine goesL_ (some 29) rfl rfl Tryd.func12 (by kernel_rfl) rfl #[.int .i64 (wrap64 (Int.tmod a0 1048576)), .int .i64 (wrap64 (Int.tmod a1 1048576)), .int .i64 (wrap64 (Int.tmod a2 1048576))] rfl (by (try simp only [List.map_toArray, List.map_cons, List.map_nil]); first | done | rfl | (simp only [List.length_drop, List.length_take]; rfl)) ?_; (with_reducible refine (fix_MulDiv.calls k (wrap64 (Int.tmod a0 1048576)) (wrap64 (Int.tmod a1 1048576)) (wrap64 (Int.tmod a2 1048576)) t140 t141 _ A6.out).mono ?_); rintro e w' ⟨rfl, ⟨nd, rfl⟩⟩; refine ⟨_, rfl, ?_⟩) | ((with_reducible refine gate_callee (f := 13) rfl ?_); refine goesL_ (some 35) rfl rfl Tryd.func13 (by kernel_rfl) rfl #[.int .i64 (wrap64 (Int.tmod a0 1048576)), .int .i64 (wrap64 (Int.tmod a2 1048576))] rfl (by (try simp only [List.map_toArray, List.map_cons, List.map_nil]); first | done | rfl | (simp only [List.length_drop, List.length_take]; rfl)) ?_; (with_reducible refine (fix_Half.calls k (wrap64 (Int.tmod a0 1048576)) (wrap64 (Int.tmod a2 1048576)) t142 t143 _ A7.out).mono ?_); rintro e w' ⟨rfl, ⟨nd, rfl⟩⟩; refine ⟨_, rfl, ?_⟩))
            go_ret
            exact ⟨by first | rfl | (simp [errW_none, errW_some] <;> rfl) | (simp [*, errW_none, errW_some] <;> rfl), by repeat (first | (with_reducible first | exact HB.out | apply below_alloc | apply pw_below_drewN | apply below_drew1) | exact HB.out)⟩
          · rw [if_neg c11] at H
            have c11b0 : (t140 == 0) = false := beq_eq_false_iff_ne.mpr c11
            have c11b1 : (t140 != 0) = true := bne_iff_ne.mpr c11
            obtain rfl := Option.some.inj H
            go_enter Tryd.func3, Tryd.ntmps3
            go_wp2_with (first | ((with_reducible refine gate_callee (f := 11) rfl ?_); refine goesL_ (some 14) rfl rfl Tryd.func11 (by kernel_rfl) rfl #[] rfl (by (try simp only [List.map_toArray, List.map_cons, List.map_nil]); first | done | rfl | (simp only [List.length_drop, List.length_take]; rfl)) ?_; (with_reducible refine (pylonlaw01_awake.calls k  true _ ?side1 A4.out).mono ?_); (case side1 => exact Go.Proofs.YthejabcfbbmkeaaDoor.Hand.GW.on HTB.out (by repeat (first | (with_reducible first | exact HB.out | apply below_alloc | apply pw_below_drewN | apply below_drew1) | exact HB.out))); rintro e w13 ⟨rfl, hb⟩; refine ⟨_, rfl, ?_⟩; have n0_ := Aside0.mk (below_step (by repeat (first | (with_reducible first | exact HB.out | apply below_alloc | apply pw_below_drewN | apply below_drew1) | exact HB.out)) hb); clear HB; have HB := n0_; clear n0_; (try clear hb); (try clear hb2); (try clear hk); (try clear hi)) | ((with_reducible refine gate_callee (f := 12) rfl ?_); refine goesL_ (some 29) rfl rfl Tryd.func12 (by kernel_rfl) rfl #[.int .i64 (wrap64 (Int.tmod a0 1048576)), .int .i64 (wrap64 (Int.tmod a1 1048576)), .int .i64 (wrap64 (Int.tmod a2 1048576))] rfl (by (try simp only [List.map_toArray, List.map_cons, List.map_nil]); first | done | rfl | (simp only [List.length_drop, List.length_take]; rfl)) ?_; (with_reducible refine (fix_MulDiv.calls k (wrap64 (Int.tmod a0 1048576)) (wrap64 (Int.tmod a1 1048576)) (wrap64 (Int.tmod a2 1048576)) t140 t141 _ A6.out).mono ?_); rintro e w' ⟨rfl, ⟨nd, rfl⟩⟩; refine ⟨_, rfl, ?_⟩) | ((with_reducible refine gate_callee (f := 13) rfl ?_); refine goesL_ (some 35) rfl rfl Tryd.func13 (by kernel_rfl) rfl #[.int .i64 (wrap64 (Int.tmod a0 1048576)), .int .i64 (wrap64 (Int.tmod a2 1048576))] rfl (by (try simp only [List.map_toArray, List.map_cons, List.map_nil]); first | done | rfl | (simp only [List.length_drop, List.length_take]; rfl)) ?_; (with_reducible refine (fix_Half.calls k (wrap64 (Int.tmod a0 1048576)) (wrap64 (Int.tmod a2 1048576)) t142 t143 _ A7.out).mono ?_); rintro e w' ⟨rfl, ⟨nd, rfl⟩⟩; refine ⟨_, rfl, ?_⟩))
            go_ret
            exact ⟨by first | rfl | (simp [errW_none, errW_some] <;> rfl) | (simp [*, errW_none, errW_some] <;> rfl), by repeat (first | (with_reducible first | exact HB.out | apply below_alloc | apply pw_below_drewN | apply below_drew1) | exact HB.out)⟩
        · rw [if_neg c10] at H
          have c10b0 : (t143 == 6) = false := beq_eq_false_iff_ne.mpr c10
          have c10b1 : (t143 != 6) = true := bne_iff_ne.mpr c10
          obtain rfl := Option.some.inj H
          go_enter Tryd.func3, Tryd.ntmps3
          go_wp2_with (first | ((with_reducible refine gate_callee (f := 11) rfl ?_); refine goesL_ (some 14) rfl rfl Tryd.func11 (by kernel_rfl) rfl #[] rfl (by (try simp only [List.map_toArray, List.map_cons, List.map_nil]); first | done | rfl | (simp only [List.length_drop, List.length_take]; rfl)) ?_; (with_reducible refine (pylonlaw01_awake.calls k  true _ ?side1 A4.out).mono ?_); (case side1 => exact Go.Proofs.YthejabcfbbmkeaaDoor.Hand.GW.on HTB.out (by repeat (first | (with_reducible first | exact HB.out | apply below_alloc | apply pw_below_drewN | apply below_drew1) | exact HB.out))); rintro e w14 ⟨rfl, hb⟩; refine ⟨_, rfl, ?_⟩; have n0_ := Aside0.mk (below_step (by repeat (first | (with_reducible first | exact HB.out | apply below_alloc | apply pw_below_drewN | apply below_drew1) | exact HB.out)) hb); clear HB; have HB := n0_; clear n0_; (try clear hb); (try clear hb2); (try clear hk); (try clear hi)) | ((with_reducible refine gate_callee (f := 12) rfl ?_); refine goesL_ (some 29) rfl rfl Tryd.func12 (by kernel_rfl) rfl #[.int .i64 (wrap64 (Int.tmod a0 1048576)), .int .i64 (wrap64 (Int.tmod a1 1048576)), .int .i64 (wrap64 (Int.tmod a2 1048576))] rfl (by (try simp only [List.map_toArray, List.map_cons, List.map_nil]); first | done | rfl | (simp only [List.length_drop, List.length_take]; rfl)) ?_; (with_reducible refine (fix_MulDiv.calls k (wrap64 (Int.tmod a0 1048576)) (wrap64 (Int.tmod a1 1048576)) (wrap64 (Int.tmod a2 1048576)) t140 t141 _ A6.out).mono ?_); rintro e w' ⟨rfl, ⟨nd, rfl⟩⟩; refine ⟨_, rfl, ?_⟩) | ((with_reducible refine gate_callee (f := 13) rfl ?_); refine goesL_ (some 35) rfl rfl Tryd.func13 (by kernel_rfl) rfl #[.int .i64 (wrap64 (Int.tmod a0 1048576)), .int .i64 (wrap64 (Int.tmod a2 1048576))] rfl (by (try simp only [List.map_toArray, List.map_cons, List.map_nil]); first | done | rfl | (simp only [List.length_drop, List.length_take]; rfl)) ?_; (with_reducible refine (fix_Half.calls k (wrap64 (Int.tmod a0 1048576)) (wrap64 (Int.tmod a2 1048576)) t142 t143 _ A7.out).mono ?_); rintro e w' ⟨rfl, ⟨nd, rfl⟩⟩; refine ⟨_, rfl, ?_⟩))
          go_ret
          exact ⟨by first | rfl | (simp [errW_none, errW_some] <;> rfl) | (simp [*, errW_none, errW_some] <;> rfl), by repeat (first | (with_reducible first | exact HB.out | apply below_alloc | apply pw_below_drewN | apply below_drew1) | exact HB.out)⟩
      · rw [if_neg c9] at H
        have c9b0 : (t141 == 6) = false := beq_eq_false_iff_ne.mpr c9
        have c9b1 : (t141 != 6) = true := bne_iff_ne.mpr c9
        obtain rfl := Option.some.inj H
        go_enter Tryd.func3, Tryd.ntmps3
        go_wp2_with (first | ((with_reducible refine gate_callee (f := 11) rfl ?_); refine goesL_ (some 14) rfl rfl Tryd.func11 (by kernel_rfl) rfl #[] rfl (by (try simp only [List.map_toArray, List.map_cons, List.map_nil]); first | done | rfl | (simp only [List.length_drop, List.length_take]; rfl)) ?_; (with_reducible refine (pylonlaw01_awake.calls k  true _ ?side1 A4.out).mono ?_); (case side1 => exact Go.Proofs.YthejabcfbbmkeaaDoor.Hand.GW.on HTB.out (by repeat (first | (with_reducible first | exact HB.out | apply below_alloc | apply pw_below_drewN | apply below_drew1) | exact HB.out))); rintro e w15 ⟨rfl, hb⟩; refine ⟨_, rfl, ?_⟩; have n0_ := Aside0.mk (below_step (by repeat (first | (with_reducible first | exact HB.out | apply below_alloc | apply pw_below_drewN | apply below_drew1) | exact HB.out)) hb); clear HB; have HB := n0_; clear n0_; (try clear hb); (try clear hb2); (try clear hk); (try clear hi)) | ((with_reducible refine gate_callee (f := 12) rfl ?_); refine goesL_ (some 29) rfl rfl Tryd.func12 (by kernel_rfl) rfl #[.int .i64 (wrap64 (Int.tmod a0 1048576)), .int .i64 (wrap64 (Int.tmod a1 1048576)), .int .i64 (wrap64 (Int.tmod a2 1048576))] rfl (by (try simp only [List.map_toArray, List.map_cons, List.map_nil]); first | done | rfl | (simp only [List.length_drop, List.length_take]; rfl)) ?_; (with_reducible refine (fix_MulDiv.calls k (wrap64 (Int.tmod a0 1048576)) (wrap64 (Int.tmod a1 1048576)) (wrap64 (Int.tmod a2 1048576)) t140 t141 _ A6.out).mono ?_); rintro e w' ⟨rfl, ⟨nd, rfl⟩⟩; refine ⟨_, rfl, ?_⟩) | ((with_reducible refine gate_callee (f := 13) rfl ?_); refine goesL_ (some 35) rfl rfl Tryd.func13 (by kernel_rfl) rfl #[.int .i64 (wrap64 (Int.tmod a0 1048576)), .int .i64 (wrap64 (Int.tmod a2 1048576))] rfl (by (try simp only [List.map_toArray, List.map_cons, List.map_nil]); first | done | rfl | (simp only [List.length_drop, List.length_take]; rfl)) ?_; (with_reducible refine (fix_Half.calls k (wrap64 (Int.tmod a0 1048576)) (wrap64 (Int.tmod a2 1048576)) t142 t143 _ A7.out).mono ?_); rintro e w' ⟨rfl, ⟨nd, rfl⟩⟩; refine ⟨_, rfl, ?_⟩))
        go_ret
        exact ⟨by first | rfl | (simp [errW_none, errW_some] <;> rfl) | (simp [*, errW_none, errW_some] <;> rfl), by repeat (first | (with_reducible first | exact HB.out | apply below_alloc | apply pw_below_drewN | apply below_drew1) | exact HB.out)⟩
    · rw [if_neg c8] at H
      have c8b0 : ((wrap64 (Int.tmod a2 1048576)) == 0) = false := beq_eq_false_iff_ne.mpr c8
      have c8b1 : ((wrap64 (Int.tmod a2 1048576)) != 0) = true := bne_iff_ne.mpr c8
      have HC16 := Aside0.mk H
      clear H
      go_enter Tryd.func3, Tryd.ntmps3
      go_upto_region 8 with (first | ((with_reducible refine gate_callee (f := 11) rfl ?_); refine goesL_ (some 14) rfl rfl Tryd.func11 (by kernel_rfl) rfl #[] rfl (by (try simp only [List.map_toArray, List.map_cons, List.map_nil]); first | done | rfl | (simp only [List.length_drop, List.length_take]; rfl)) ?_; (with_reducible refine (pylonlaw01_awake.calls k  true _ ?side1 A4.out).mono ?_); (case side1 => exact Go.Proofs.YthejabcfbbmkeaaDoor.Hand.GW.on HTB.out (by repeat (first | (with_reducible first | exact HB.out | apply below_alloc | apply pw_below_drewN | apply below_drew1) | exact HB.out))); rintro e w17 ⟨rfl, hb⟩; refine ⟨_, rfl, ?_⟩; have n0_ := Aside0.mk (below_step (by repeat (first | (with_reducible first | exact HB.out | apply below_alloc | apply pw_below_drewN | apply below_drew1) | exact HB.out)) hb); clear HB; have HB := n0_; clear n0_; (try clear hb); (try clear hb2); (try clear hk); (try clear hi)) | ((with_reducible refine gate_callee (f := 12) rfl ?_); refine goesL_ (some 29) rfl rfl Tryd.func12 (by kernel_rfl) rfl #[.int .i64 (wrap64 (Int.tmod a0 1048576)), .int .i64 (wrap64 (Int.tmod a1 1048576)), .int .i64 (wrap64 (Int.tmod a2 1048576))] rfl (by (try simp only [List.map_toArray, List.map_cons, List.map_nil]); first | done | rfl | (simp only [List.length_drop, List.length_take]; rfl)) ?_; (with_reducible refine (fix_MulDiv.calls k (wrap64 (Int.tmod a0 1048576)) (wrap64 (Int.tmod a1 1048576)) (wrap64 (Int.tmod a2 1048576)) t140 t141 _ A6.out).mono ?_); rintro e w' ⟨rfl, ⟨nd, rfl⟩⟩; refine ⟨_, rfl, ?_⟩) | ((with_reducible refine gate_callee (f := 13) rfl ?_); refine goesL_ (some 35) rfl rfl Tryd.func13 (by kernel_rfl) rfl #[.int .i64 (wrap64 (Int.tmod a0 1048576)), .int .i64 (wrap64 (Int.tmod a2 1048576))] rfl (by (try simp only [List.map_toArray, List.map_cons, List.map_nil]); first | done | rfl | (simp only [List.length_drop, List.length_take]; rfl)) ?_; (with_reducible refine (fix_Half.calls k (wrap64 (Int.tmod a0 1048576)) (wrap64 (Int.tmod a2 1048576)) t142 t143 _ A7.out).mono ?_); rintro e w' ⟨rfl, ⟨nd, rfl⟩⟩; refine ⟨_, rfl, ?_⟩))
      (try simp only [Act.put, List.setIfInBounds_toArray, List.set_cons_zero, List.set_cons_succ])
      go_cut [75] (fun v75 wc => ∃ (kq : Nat) (x75_15 : Bool), v75 = .bool x75_15 ∧ Aside0 (pylonlaw01_FixHalves.j0 kq (wrap64 (Int.tmod a0 1048576)) (wrap64 (Int.tmod a1 1048576)) (wrap64 (Int.tmod a2 1048576)) t140 t142 x75_15 = some r) ∧ Aside0 (kq ≤ k) ∧ Aside0 (Below w.heap.size w wc))
      case first =>
        have H := HC16.out
        clear HC16
        by_cases c18 : t140 > 2199023255552
        · rw [if_pos c18] at H
          have c18b0 : decide (2199023255552 < t140) = true := decide_eq_true c18
          clear c18
          (first | rw [c18b0] | (simp only [i64_w, i32_w]; rw [c18b0]) | skip)
          have H' := Aside0.mk H
          clear H
          go_wp2
          go_meet
          case rel => exact ⟨_, (true), (by first | rfl | (simp; done) | (simp [*]; done)), H', ⟨by first | omega | exact Nat.le_refl _⟩, ⟨by repeat (first | (with_reducible first | exact HB.out | apply below_alloc | apply pw_below_drewN | apply below_drew1) | exact HB.out)⟩⟩
        · rw [if_neg c18] at H
          have c18b0 : decide (2199023255552 < t140) = false := decide_eq_false c18
          clear c18
          (first | rw [c18b0] | (simp only [i64_w, i32_w]; rw [c18b0]) | skip)
          by_cases c19 : t140 < (-2199023255552)
          · rw [if_pos c19] at H
            have c19b0 : decide (t140 < (-2199023255552)) = true := decide_eq_true c19
            clear c19
            have H' := Aside0.mk H
            clear H
            go_wp2
            go_meet
            case rel => exact ⟨_, (true), (by first | rfl | (simp; done) | (simp [*]; done)), H', ⟨by first | omega | exact Nat.le_refl _⟩, ⟨by repeat (first | (with_reducible first | exact HB.out | apply below_alloc | apply pw_below_drewN | apply below_drew1) | exact HB.out)⟩⟩
          · rw [if_neg c19] at H
            have c19b0 : decide (t140 < (-2199023255552)) = false := decide_eq_false c19
            clear c19
            by_cases c20 : t142 > 2097152
            · rw [if_pos c20] at H
              have c20b0 : decide (2097152 < t142) = true := decide_eq_true c20
              clear c20
              have H' := Aside0.mk H
              clear H
              go_wp2
              go_meet
              case rel => exact ⟨_, (true), (by first | rfl | (simp; done) | (simp [*]; done)), H', ⟨by first | omega | exact Nat.le_refl _⟩, ⟨by repeat (first | (with_reducible first | exact HB.out | apply below_alloc | apply pw_below_drewN | apply below_drew1) | exact HB.out)⟩⟩
            · rw [if_neg c20] at H
              have c20b0 : decide (2097152 < t142) = false := decide_eq_false c20
              clear c20
              by_cases c21 : t142 < (-2097152)
              · rw [if_pos c21] at H
                have c21b0 : decide (t142 < (-2097152)) = true := decide_eq_true c21
                clear c21
                have H' := Aside0.mk H
                clear H
                go_wp2
                go_meet
                case rel => exact ⟨_, (true), (by first | rfl | (simp; done) | (simp [*]; done)), H', ⟨by first | omega | exact Nat.le_refl _⟩, ⟨by repeat (first | (with_reducible first | exact HB.out | apply below_alloc | apply pw_below_drewN | apply below_drew1) | exact HB.out)⟩⟩
              · rw [if_neg c21] at H
                have c21b0 : decide (t142 < (-2097152)) = false := decide_eq_false c21
                clear c21
                by_cases c22 : t141 = 0
                · rw [if_pos c22] at H
                  have c22b0 : (t141 == 0) = true := beq_iff_eq.mpr c22
                  have c22b1 : (t141 != 0) = false := bne_eq_false_iff_eq.mpr c22
                  clear c22
                  have H' := Aside0.mk H
                  clear H
                  go_wp2
                  go_meet
                  case rel => exact ⟨_, ((t143 != 0)), (by first | rfl | (simp; done) | (simp [*]; done)), H', ⟨by first | omega | exact Nat.le_refl _⟩, ⟨by repeat (first | (with_reducible first | exact HB.out | apply below_alloc | apply pw_below_drewN | apply below_drew1) | exact HB.out)⟩⟩
                · rw [if_neg c22] at H
                  have c22b0 : (t141 == 0) = false := beq_eq_false_iff_ne.mpr c22
                  have c22b1 : (t141 != 0) = true := bne_iff_ne.mpr c22
                  have H' := Aside0.mk H
                  clear H
                  go_wp2
                  go_meet
                  case rel => exact ⟨_, (true), (by first | rfl | (simp; done) | (simp [*]; done)), H', ⟨by first | omega | exact Nat.le_refl _⟩, ⟨by repeat (first | (with_reducible first | exact HB.out | apply below_alloc | apply pw_below_drewN | apply below_drew1) | exact HB.out)⟩⟩
      case rest =>
        clear HC16
        try clear c1
        try clear c2
        try clear p2
        try clear c3
        try clear c5
        try clear p6
        try clear c8
        try clear c8b0
        try clear c8b1
        try clear c9
        try clear c9b0
        try clear c9b1
        try clear c10
        try clear c10b0
        try clear c10b1
        try clear c11
        try clear c11b0
        try clear c11b1
        try clear c12
        try clear c13
        try clear c18
        try clear c18b0
        try clear c19
        try clear c19b0
        try clear c20
        try clear c20b0
        try clear c21
        try clear c21b0
        try clear c22
        try clear c22b0
        try clear c22b1
        obtain ⟨kq, x75_15, rfl, HA, HJ15, HB⟩ := hcut
        cases kq with
        | zero => exact absurd HA.out (by simp [pylonlaw01_FixHalves.j0])
        | succ kj15 =>
          have H := HA.out
          clear HA
          simp only [pylonlaw01_FixHalves.j0] at H
          by_cases c23 : x75_15 = true
          · subst c23
            have H1 : (some false) = some r := by rw [if_pos rfl] at H; exact H
            clear H
            have H := H1
            clear H1
            obtain rfl := Option.some.inj H
            go_wp2
            go_ret
            exact ⟨by first | rfl | (simp [errW_none, errW_some] <;> rfl) | (simp [*, errW_none, errW_some] <;> rfl), by repeat (first | (with_reducible first | exact HB.out | apply below_alloc | apply pw_below_drewN | apply below_drew1) | exact HB.out)⟩
          · replace c23 := Bool.eq_false_iff.mpr c23
            subst c23
            have H1 : ((pylonlaw01_near.f (wrap64 ((wrap64 (Int.tmod a0 1048576)) * (wrap64 (Int.tmod a1 1048576)))) (wrap64 (Int.tmod a2 1048576)) t140).bind fun t144 => (if t144 = true then ((pylonlaw01_near.f (wrap64 (Int.tmod a0 1048576)) (wrap64 (Int.tmod a2 1048576)) t142).bind fun t145 => (some t145)) else (some false))) = some r := by rw [if_neg (show ¬ (false = true) by decide)] at H; exact H
            clear H
            have H := H1
            clear H1
            replace H := Option.bind_eq_some_iff.mp H
            obtain ⟨t144, A240, H⟩ := H
            replace H : (if t144 = true then ((pylonlaw01_near.f (wrap64 (Int.tmod a0 1048576)) (wrap64 (Int.tmod a2 1048576)) t142).bind fun t145 => (some t145)) else (some false)) = some r := H
            have A24 := Aside0.mk A240
            clear A240
            by_cases c25 : t144 = true
            · subst c25
              have H1 : ((pylonlaw01_near.f (wrap64 (Int.tmod a0 1048576)) (wrap64 (Int.tmod a2 1048576)) t142).bind fun t145 => (some t145)) = some r := by rw [if_pos rfl] at H; exact H
              clear H
              have H := H1
              clear H1
              replace H := Option.bind_eq_some_iff.mp H
              obtain ⟨t145, A260, H⟩ := H
              replace H : (some t145) = some r := H
              have A26 := Aside0.mk A260
              clear A260
              obtain rfl := Option.some.inj H
              go_wp2_with (first | ((with_reducible refine gate_callee (f := 14) rfl ?_); refine goesL_ (some 81) rfl rfl Tryd.func14 (by kernel_rfl) rfl #[.int .i64 (wrap64 ((wrap64 (Int.tmod a0 1048576)) * (wrap64 (Int.tmod a1 1048576)))), .int .i64 (wrap64 (Int.tmod a2 1048576)), .int .i64 t140] rfl (by (try simp only [List.map_toArray, List.map_cons, List.map_nil]); first | done | rfl | (simp only [List.length_drop, List.length_take]; rfl)) ?_; (with_reducible refine (pylonlaw01_near.calls (wrap64 ((wrap64 (Int.tmod a0 1048576)) * (wrap64 (Int.tmod a1 1048576)))) (wrap64 (Int.tmod a2 1048576)) t140 true _ A24.out).mono ?_); rintro e w' ⟨rfl, ⟨nd, rfl⟩⟩; refine ⟨_, rfl, ?_⟩) | (go_at_call 14; (with_reducible refine (pylonlaw01_near.calls (wrap64 (Int.tmod a0 1048576)) (wrap64 (Int.tmod a2 1048576)) t142 t145 _ A26.out).mono ?_); rintro e w' ⟨rfl, ⟨nd, rfl⟩⟩))
              go_ret
              exact ⟨by first | rfl | (simp [errW_none, errW_some] <;> rfl) | (simp [*, errW_none, errW_some] <;> rfl), by repeat (first | (with_reducible first | exact HB.out | apply below_alloc | apply pw_below_drewN | apply below_drew1) | exact HB.out)⟩
            · replace c25 := Bool.eq_false_iff.mpr c25
              subst c25
              have H1 : (some false) = some r := by rw [if_neg (show ¬ (false = true) by decide)] at H; exact H
              clear H
              have H := H1
              clear H1
              obtain rfl := Option.some.inj H
              go_wp2_with (first | ((with_reducible refine gate_callee (f := 14) rfl ?_); refine goesL_ (some 81) rfl rfl Tryd.func14 (by kernel_rfl) rfl #[.int .i64 (wrap64 ((wrap64 (Int.tmod a0 1048576)) * (wrap64 (Int.tmod a1 1048576)))), .int .i64 (wrap64 (Int.tmod a2 1048576)), .int .i64 t140] rfl (by (try simp only [List.map_toArray, List.map_cons, List.map_nil]); first | done | rfl | (simp only [List.length_drop, List.length_take]; rfl)) ?_; (with_reducible refine (pylonlaw01_near.calls (wrap64 ((wrap64 (Int.tmod a0 1048576)) * (wrap64 (Int.tmod a1 1048576)))) (wrap64 (Int.tmod a2 1048576)) t140 false _ A24.out).mono ?_); rintro e w' ⟨rfl, ⟨nd, rfl⟩⟩; refine ⟨_, rfl, ?_⟩))
              go_ret
              exact ⟨by first | rfl | (simp [errW_none, errW_some] <;> rfl) | (simp [*, errW_none, errW_some] <;> rfl), by repeat (first | (with_reducible first | exact HB.out | apply below_alloc | apply pw_below_drewN | apply below_drew1) | exact HB.out)⟩
  · replace c5 := Bool.eq_false_iff.mpr c5
    subst c5
    have H1 : (some false) = some r := by rw [if_neg (show ¬ (false = true) by decide)] at H; exact H
    clear H
    have H := H1
    clear H1
    obtain rfl := Option.some.inj H
    go_enter Tryd.func3, Tryd.ntmps3
    go_wp2_with (first | ((with_reducible refine gate_callee (f := 11) rfl ?_); refine goesL_ (some 14) rfl rfl Tryd.func11 (by kernel_rfl) rfl #[] rfl (by (try simp only [List.map_toArray, List.map_cons, List.map_nil]); first | done | rfl | (simp only [List.length_drop, List.length_take]; rfl)) ?_; (with_reducible refine (pylonlaw01_awake.calls k  false _ ?side1 A4.out).mono ?_); (case side1 => exact Go.Proofs.YthejabcfbbmkeaaDoor.Hand.GW.on HTB.out (by repeat (first | (with_reducible first | exact HB.out | apply below_alloc | apply pw_below_drewN | apply below_drew1) | exact HB.out))); rintro e w27 ⟨rfl, hb⟩; refine ⟨_, rfl, ?_⟩; have n0_ := Aside0.mk (below_step (by repeat (first | (with_reducible first | exact HB.out | apply below_alloc | apply pw_below_drewN | apply below_drew1) | exact HB.out)) hb); clear HB; have HB := n0_; clear n0_; (try clear hb); (try clear hb2); (try clear hk); (try clear hi)))
    go_ret
    exact ⟨by first | rfl | (simp [errW_none, errW_some] <;> rfl) | (simp [*, errW_none, errW_some] <;> rfl), by repeat (first | (with_reducible first | exact HB.out | apply below_alloc | apply pw_below_drewN | apply below_drew1) | exact HB.out)⟩
/-- THE ONE PURE STATEMENT of pylonlaw01_FixHalves. -/
def pylonlaw01_FixHalves.Pure : Prop := ∀ (a0 : Int) (a1 : Int) (a2 : Int), ((Lit.int .i32 a0).wf = true) → ((Lit.int .i32 a1).wf = true) → ((Lit.int .i32 a2).wf = true) → ∃ k, pylonlaw01_FixHalves.f k a0 a1 a2 = some true

-- NOT PRINTED: function 49 (strconv_Itoa_49)

-- NOT PRINTED: function 31 (strconv_Itoa_31)

/-! ### api_Errno_Error: function 15 -/
def api_Errno_Error.f (a0 : Int) : Option (ByteArray) := Go.Proofs.YthejabcfbbmkeaaDoor.Hand.errnoA a0
theorem api_Errno_Error.calls (a0 : Int) (r : ByteArray) (w : World) (hT_ : Go.Proofs.YthejabcfbbmkeaaDoor.Hand.T1 w) (h : api_Errno_Error.f a0 = some r) :
    Calls Tryd.prog 15 #[.int .i64 a0] w fun e w' => e = .returned (.string r) ∧ Below w.heap.size w w' :=
  Go.Proofs.YthejabcfbbmkeaaDoor.Hand.errno_calls a0 r w hT_ h
/-! ### pylonlaw01_FixNames: function 4 -/
def pylonlaw01_FixNames.l0 : Nat → List Int → Int → Int → Option (Bool)
  | 0, _, _, _ => none
  | k + 1, x5, x6, x7 => if x7 < x6 then (if 0 ≤ x7 then (if x7 < (x5.length : Int) then (if (rd x5 x7) = x7 then ((api_Errno_Error.f (rd x5 x7)).bind fun t150 => (if t150.toList = ([] : List UInt8) then (some false) else (pylonlaw01_FixNames.l0 k x5 x6 (wrap64 (x7 + 1))))) else (some false)) else (none)) else (none)) else ((pylonlaw01_awake.f k).bind fun t151 => (if t151 = true then (some true) else (some false)))
def pylonlaw01_FixNames.f (k : Nat)  : Option (Bool) := (some (([0, 1, 2, 3, 4, 5, 6, 7, 8, 9] : List Int) : List Int)).bind fun y146 => (pylonlaw01_FixNames.l0 k y146 (y146.length : Int) 0)
theorem pylonlaw01_FixNames.mono_l : ∀ k, (∀ y0 y1 y2, LeO (pylonlaw01_FixNames.l0 k y0 y1 y2) (pylonlaw01_FixNames.l0 (k + 1) y0 y1 y2))
  | 0 => fun _ _ _ r h => by simp [pylonlaw01_FixNames.l0] at h
  | k + 1 => by
    have ih0 := pylonlaw01_FixNames.mono_l k
    · intro y0 y1 y2
      unfold pylonlaw01_FixNames.l0
      repeat' first
      | (with_reducible exact ih0 _ _ _)
      | (with_reducible exact pylonlaw01_awake.mono _)
      | (with_reducible exact LeO.refl _)
      | (with_reducible exact LeO.none _)
      | (with_reducible refine LeO.ite ?_ ?_)
      | (with_reducible refine LeO.bind ?_ (fun _ => ?_))
      | exact ih0 _ _ _
      | exact pylonlaw01_awake.mono _
      | exact LeO.none _
      | refine LeO.ite ?_ ?_
      | refine LeO.bind ?_ (fun _ => ?_)
theorem pylonlaw01_FixNames.mono : ∀ k, LeO (pylonlaw01_FixNames.f k ) (pylonlaw01_FixNames.f (k + 1) ) := by
  intro  k
  have ih0 := pylonlaw01_FixNames.mono_l k
  unfold pylonlaw01_FixNames.f
  repeat' first
      | (with_reducible exact ih0 _ _ _)
      | (with_reducible exact pylonlaw01_awake.mono _)
      | (with_reducible exact LeO.refl _)
      | (with_reducible exact LeO.none _)
      | (with_reducible refine LeO.ite ?_ ?_)
      | (with_reducible refine LeO.bind ?_ (fun _ => ?_))
      | exact ih0 _ _ _
      | exact pylonlaw01_awake.mono _
      | exact LeO.none _
      | refine LeO.ite ?_ ?_
      | refine LeO.bind ?_ (fun _ => ?_)
set_option maxHeartbeats 8000000 in
set_option maxRecDepth 100000 in
theorem pylonlaw01_FixNames.calls (k : Nat)  (r : Bool) (w : World) (hT_ : Go.Proofs.YthejabcfbbmkeaaDoor.Hand.T1 w) (h : pylonlaw01_FixNames.f k  = some r) :
    Calls Tryd.prog 4 #[] w fun e w' => e = .returned (.bool r) ∧ Below w.heap.size w w' := by
  have HTB := Aside0.mk hT_
  clear hT_
  have HB := Aside0.mk (Below.refl w.heap.size w)
  have H : ((some (([0, 1, 2, 3, 4, 5, 6, 7, 8, 9] : List Int) : List Int)).bind fun y146 => (pylonlaw01_FixNames.l0 k y146 (y146.length : Int) 0)) = some r := h
  clear h
  obtain ⟨y146, hy146⟩ : ∃ y_ : List Int, y_ = (([0, 1, 2, 3, 4, 5, 6, 7, 8, 9] : List Int)) := ⟨_, rfl⟩
  replace H : (pylonlaw01_FixNames.l0 k y146 (y146.length : Int) 0) = some r := by first | (rw [hy146]; with_reducible exact H) | (have H2_ := (Option.bind_some _ _).symm.trans H; rw [hy146]; with_reducible exact H2_) | (have H2_ := (Option.bind_some _ _).symm.trans H; with_reducible exact H2_) | with_reducible exact H | (rw [hy146]; exact H) | exact H
  have Ny146 := Aside0.mk hy146
  clear hy146
  have H' := Aside0.mk H
  clear H
  go_enter Tryd.func4, Tryd.ntmps4
  go_wp2_with (first | ((with_reducible refine gate_dst (N := 4) rfl ?_); refine Kd.R_lit (Kd.int .i64) _ 23 ?hg (N := 4) ?hd (xs := ([0, 1, 2, 3, 4, 5, 6, 7, 8, 9] : List Int)) (inner := [.int .i64 0, .int .i64 1, .int .i64 2, .int .i64 3, .int .i64 4, .int .i64 5, .int .i64 6, .int .i64 7, .int .i64 8, .int .i64 9]) (ok := fun _ => True) (okp := fun _ => True) ?hr ?hp (fun _ hk => hk) trivial (Below.refl _ _) (Nat.le_refl _) (by simp) ?_; (case hd => rfl); (case hg => rfl); (case hr => first | (go_simp; done) | (go_simp; rfl)); (case hp => exact (Reps.one (show Kd.M (Kd.int .i64) _ _ _ 0 [.int .i64 0] from rfl) (Reps.one (show Kd.M (Kd.int .i64) _ _ _ 1 [.int .i64 1] from rfl) (Reps.one (show Kd.M (Kd.int .i64) _ _ _ 2 [.int .i64 2] from rfl) (Reps.one (show Kd.M (Kd.int .i64) _ _ _ 3 [.int .i64 3] from rfl) (Reps.one (show Kd.M (Kd.int .i64) _ _ _ 4 [.int .i64 4] from rfl) (Reps.one (show Kd.M (Kd.int .i64) _ _ _ 5 [.int .i64 5] from rfl) (Reps.one (show Kd.M (Kd.int .i64) _ _ _ 6 [.int .i64 6] from rfl) (Reps.one (show Kd.M (Kd.int .i64) _ _ _ 7 [.int .i64 7] from rfl) (Reps.one (show Kd.M (Kd.int .i64) _ _ _ 8 [.int .i64 8] from rfl) (Reps.one (show Kd.M (Kd.int .i64) _ _ _ 9 [.int .i64 9] from rfl) (Reps.none _ _)))))))))))); intro v147 w1 ho2 hb hg_ hnew_; clear hg_ hnew_; (first | rw [← Ny146.out] at ho2 | (simp only [Int.reduceToNat] at ho2; rw [← Ny146.out] at ho2)); have n0_ := Aside0.mk (Kd.R_lower ho2 (below_size (by repeat (first | (with_reducible first | exact HB.out | apply below_alloc | apply pw_below_drewN | apply below_drew1) | exact HB.out)))); have n1_ := Aside0.mk (below_step (by repeat (first | (with_reducible first | exact HB.out | apply below_alloc | apply pw_below_drewN | apply below_drew1) | exact HB.out)) hb); clear HB; have HO148 := n0_; have HB := n1_; clear n0_ n1_; clear hb ho2; obtain ⟨Ao3, co3, eo3⟩ := Kd.R_slice HO148.out; subst eo3))
  go_loopg [7] k (fun kq v7 w' => ∃ (x7_1 : Int), v7 = .int .i64 x7_1 ∧ Aside0 (pylonlaw01_FixNames.l0 kq y146 (y146.length : Int) x7_1 = some r) ∧ Aside0 (kq ≤ k) ∧ Aside0 (Kd.R (Kd.int .i64) 23 w' w.heap.size (fun _ => True) (.slice Ao3 y146.length co3) y146) ∧ Aside0 (Below w.heap.size w w'))
  case atStart => exact ⟨(0), (by first | rfl | (simp; done) | (simp [*]; done)), H', ⟨Nat.le_refl _⟩, ⟨by (with_reducible repeat (first | apply Kd.R_alloc | apply Kd.R_drewN | apply Kd.R_drew)); exact HO148.out⟩, ⟨by repeat (first | (with_reducible first | exact HB.out | apply below_alloc | apply pw_below_drewN | apply below_drew1) | exact HB.out)⟩⟩
  case round =>
    clear H'
    try clear p2
    obtain ⟨x7_1, rfl, HA, HK1, HO_5, HB⟩ := hrel
    cases gk with
    | zero => exact absurd HA.out (by simp [pylonlaw01_FixNames.l0])
    | succ k1 =>
      have H := HA.out
      clear HA
      simp only [pylonlaw01_FixNames.l0] at H
      by_cases c4 : x7_1 < (y146.length : Int)
      · rw [if_pos c4] at H
        have c4b0 : decide (x7_1 < (y146.length : Int)) = true := decide_eq_true c4
        clear c4
        by_cases c5 : 0 ≤ x7_1
        · rw [if_pos c5] at H
          have c5b0 : decide (0 ≤ x7_1) = true := decide_eq_true c5
          clear c5
          by_cases c6 : x7_1 < (y146.length : Int)
          · rw [if_pos c6] at H
            have c6b0 : decide (x7_1 < (y146.length : Int)) = true := decide_eq_true c6
            clear c6
            by_cases c7 : (rd y146 x7_1) = x7_1
            · rw [if_pos c7] at H
              have c7b0 : ((rd y146 x7_1) == x7_1) = true := beq_iff_eq.mpr c7
              have c7b1 : ((rd y146 x7_1) != x7_1) = false := bne_eq_false_iff_eq.mpr c7
              clear c7
              replace H := Option.bind_eq_some_iff.mp H
              obtain ⟨t150, A80, H⟩ := H
              replace H : (if t150.toList = ([] : List UInt8) then (some false) else (pylonlaw01_FixNames.l0 k1 y146 (y146.length : Int) (wrap64 (x7_1 + 1)))) = some r := H
              have A8 := Aside0.mk A80
              clear A80
              by_cases c9 : t150.toList = ([] : List UInt8)
              · rw [if_pos c9] at H
                have c9b0 : (t150.toList == ([] : List UInt8)) = true := beq_iff_eq.mpr c9
                have c9b1 : (t150.toList != ([] : List UInt8)) = false := bne_eq_false_iff_eq.mpr c9
                clear c9
                obtain rfl := Option.some.inj H
                have p149 : 0 ≤ (x7_1 : Int) := of_decide_eq_true (by first | (with_reducible assumption) | assumption)
                have q149 : x7_1 < (y146.length : Int) := of_decide_eq_true (by first | (with_reducible assumption) | assumption)
                obtain ⟨ad149, e149, hx149_0⟩ := Kd.at_int (Kd.R_reads' HO_5.out).2.2 x7_1 p149 q149
                cases e149
                replace p149 := eq_true p149
                replace q149 := eq_true q149
                go_wp2_with (first | (go_at_call 15; (with_reducible refine (api_Errno_Error.calls (rd y146 x7_1) t150 _ ?side1 A8.out).mono ?_); (case side1 => exact Go.Proofs.YthejabcfbbmkeaaDoor.Hand.GW.on HTB.out (by repeat (first | (with_reducible first | exact HB.out | apply below_alloc | apply pw_below_drewN | apply below_drew1) | exact HB.out))); rintro e w10 ⟨rfl, hb⟩; have n0_ := Aside0.mk (Kd.R_below (by (with_reducible repeat (first | apply Kd.R_alloc | apply Kd.R_drewN | apply Kd.R_drew)); exact HO_5.out) hb); have n1_ := Aside0.mk (below_step (by repeat (first | (with_reducible first | exact HB.out | apply below_alloc | apply pw_below_drewN | apply below_drew1) | exact HB.out)) hb); clear HO_5; clear HB; have HO_5 := n0_; have HB := n1_; clear n0_ n1_; (try clear hb); (try clear hb2); (try clear hk); (try clear hi)))
                go_ret
                exact ⟨by first | rfl | (simp [errW_none, errW_some] <;> rfl) | (simp [*, errW_none, errW_some] <;> rfl), by repeat (first | (with_reducible first | exact HB.out | apply below_alloc | apply pw_below_drewN | apply below_drew1) | exact HB.out)⟩
              · rw [if_neg c9] at H
                have c9b0 : (t150.toList == ([] : List UInt8)) = false := beq_eq_false_iff_ne.mpr c9
                have c9b1 : (t150.toList != ([] : List UInt8)) = true := bne_iff_ne.mpr c9
                have H' := Aside0.mk H
                clear H
                have p149 : 0 ≤ (x7_1 : Int) := of_decide_eq_true (by first | (with_reducible assumption) | assumption)
                have q149 : x7_1 < (y146.length : Int) := of_decide_eq_true (by first | (with_reducible assumption) | assumption)
                obtain ⟨ad149, e149, hx149_0⟩ := Kd.at_int (Kd.R_reads' HO_5.out).2.2 x7_1 p149 q149
                cases e149
                replace p149 := eq_true p149
                replace q149 := eq_true q149
                go_wp2_with (first | (go_at_call 15; (with_reducible refine (api_Errno_Error.calls (rd y146 x7_1) t150 _ ?side1 A8.out).mono ?_); (case side1 => exact Go.Proofs.YthejabcfbbmkeaaDoor.Hand.GW.on HTB.out (by repeat (first | (with_reducible first | exact HB.out | apply below_alloc | apply pw_below_drewN | apply below_drew1) | exact HB.out))); rintro e w11 ⟨rfl, hb⟩; have n0_ := Aside0.mk (Kd.R_below (by (with_reducible repeat (first | apply Kd.R_alloc | apply Kd.R_drewN | apply Kd.R_drew)); exact HO_5.out) hb); have n1_ := Aside0.mk (below_step (by repeat (first | (with_reducible first | exact HB.out | apply below_alloc | apply pw_below_drewN | apply below_drew1) | exact HB.out)) hb); clear HO_5; clear HB; have HO_5 := n0_; have HB := n1_; clear n0_ n1_; (try clear hb); (try clear hb2); (try clear hk); (try clear hi)))
                go_roundg k1
                case measure => have := HK1.out; omega
                case rel => exact ⟨(wrap64 (x7_1 + 1)), (by first | rfl | (simp; done) | (simp [*]; done)), H', ⟨by have := HK1.out; omega⟩, ⟨by (with_reducible repeat (first | apply Kd.R_alloc | apply Kd.R_drewN | apply Kd.R_drew)); exact HO_5.out⟩, ⟨by repeat (first | (with_reducible first | exact HB.out | apply below_alloc | apply pw_below_drewN | apply below_drew1) | exact HB.out)⟩⟩
            · rw [if_neg c7] at H
              have c7b0 : ((rd y146 x7_1) == x7_1) = false := beq_eq_false_iff_ne.mpr c7
              have c7b1 : ((rd y146 x7_1) != x7_1) = true := bne_iff_ne.mpr c7
              obtain rfl := Option.some.inj H
              have p149 : 0 ≤ (x7_1 : Int) := of_decide_eq_true (by first | (with_reducible assumption) | assumption)
              have q149 : x7_1 < (y146.length : Int) := of_decide_eq_true (by first | (with_reducible assumption) | assumption)
              obtain ⟨ad149, e149, hx149_0⟩ := Kd.at_int (Kd.R_reads' HO_5.out).2.2 x7_1 p149 q149
              cases e149
              replace p149 := eq_true p149
              replace q149 := eq_true q149
              go_wp2
              go_ret
              exact ⟨by first | rfl | (simp [errW_none, errW_some] <;> rfl) | (simp [*, errW_none, errW_some] <;> rfl), by repeat (first | (with_reducible first | exact HB.out | apply below_alloc | apply pw_below_drewN | apply below_drew1) | exact HB.out)⟩
          · rw [if_neg c6] at H
            exact absurd H (by simp)
        · rw [if_neg c5] at H
          exact absurd H (by simp)
      · rw [if_neg c4] at H
        have c4b0 : decide (x7_1 < (y146.length : Int)) = false := decide_eq_false c4
        clear c4
        replace H := Option.bind_eq_some_iff.mp H
        obtain ⟨t151, A120, H⟩ := H
        replace H : (if t151 = true then (some true) else (some false)) = some r := H
        have A12 := Aside0.mk A120
        clear A120
        by_cases c13 : t151 = true
        · subst c13
          have H1 : (some true) = some r := by rw [if_pos rfl] at H; exact H
          clear H
          have H := H1
          clear H1
          obtain rfl := Option.some.inj H
          go_wp2_with (first | ((with_reducible refine gate_callee (f := 11) rfl ?_); refine goesL_ (some 21) rfl rfl Tryd.func11 (by kernel_rfl) rfl #[] rfl (by (try simp only [List.map_toArray, List.map_cons, List.map_nil]); first | done | rfl | (simp only [List.length_drop, List.length_take]; rfl)) ?_; (with_reducible refine (pylonlaw01_awake.calls k1  true _ ?side1 A12.out).mono ?_); (case side1 => exact Go.Proofs.YthejabcfbbmkeaaDoor.Hand.GW.on HTB.out (by repeat (first | (with_reducible first | exact HB.out | apply below_alloc | apply pw_below_drewN | apply below_drew1) | exact HB.out))); rintro e w14 ⟨rfl, hb⟩; refine ⟨_, rfl, ?_⟩; have n0_ := Aside0.mk (Kd.R_below (by (with_reducible repeat (first | apply Kd.R_alloc | apply Kd.R_drewN | apply Kd.R_drew)); exact HO_5.out) hb); have n1_ := Aside0.mk (below_step (by repeat (first | (with_reducible first | exact HB.out | apply below_alloc | apply pw_below_drewN | apply below_drew1) | exact HB.out)) hb); clear HO_5; clear HB; have HO_5 := n0_; have HB := n1_; clear n0_ n1_; (try clear hb); (try clear hb2); (try clear hk); (try clear hi)))
          go_ret
          exact ⟨by first | rfl | (simp [errW_none, errW_some] <;> rfl) | (simp [*, errW_none, errW_some] <;> rfl), by repeat (first | (with_reducible first | exact HB.out | apply below_alloc | apply pw_below_drewN | apply below_drew1) | exact HB.out)⟩
        · replace c13 := Bool.eq_false_iff.mpr c13
          subst c13
          have H1 : (some false) = some r := by rw [if_neg (show ¬ (false = true) by decide)] at H; exact H
          clear H
          have H := H1
          clear H1
          obtain rfl := Option.some.inj H
          go_wp2_with (first | ((with_reducible refine gate_callee (f := 11) rfl ?_); refine goesL_ (some 21) rfl rfl Tryd.func11 (by kernel_rfl) rfl #[] rfl (by (try simp only [List.map_toArray, List.map_cons, List.map_nil]); first | done | rfl | (simp only [List.length_drop, List.length_take]; rfl)) ?_; (with_reducible refine (pylonlaw01_awake.calls k1  false _ ?side1 A12.out).mono ?_); (case side1 => exact Go.Proofs.YthejabcfbbmkeaaDoor.Hand.GW.on HTB.out (by repeat (first | (with_reducible first | exact HB.out | apply below_alloc | apply pw_below_drewN | apply below_drew1) | exact HB.out))); rintro e w15 ⟨rfl, hb⟩; refine ⟨_, rfl, ?_⟩; have n0_ := Aside0.mk (Kd.R_below (by (with_reducible repeat (first | apply Kd.R_alloc | apply Kd.R_drewN | apply Kd.R_drew)); exact HO_5.out) hb); have n1_ := Aside0.mk (below_step (by repeat (first | (with_reducible first | exact HB.out | apply below_alloc | apply pw_below_drewN | apply below_drew1) | exact HB.out)) hb); clear HO_5; clear HB; have HO_5 := n0_; have HB := n1_; clear n0_ n1_; (try clear hb); (try clear hb2); (try clear hk); (try clear hi)))
          go_ret
          exact ⟨by first | rfl | (simp [errW_none, errW_some] <;> rfl) | (simp [*, errW_none, errW_some] <;> rfl), by repeat (first | (with_reducible first | exact HB.out | apply below_alloc | apply pw_below_drewN | apply below_drew1) | exact HB.out)⟩
/-- THE ONE PURE STATEMENT of pylonlaw01_FixNames. -/
def pylonlaw01_FixNames.Pure : Prop := ∃ k, pylonlaw01_FixNames.f k  = some true

/-! ### fix_Div: function 16 -/
def fix_Div.j0 : Nat → Int → Int → Bool → Option (Int × Int × Int)
  | 0, _, _, _ => none
  | k + 1, x0, x1, x14 => if x14 = true then (some (0, 0, 5)) else (if x1 = 0 then (none) else (if (Int.tmod x0 x1) ≥ 0 then (some (wrap64 (Int.tdiv x0 x1), Int.tmod x0 x1, 0)) else (if x1 > 0 then (some (wrap64 ((wrap64 (Int.tdiv x0 x1)) - 1), wrap64 ((Int.tmod x0 x1) + x1), 0)) else (some (wrap64 ((wrap64 (Int.tdiv x0 x1)) + 1), wrap64 ((Int.tmod x0 x1) - x1), 0)))))
def fix_Div.f (k : Nat) (a0 : Int) (a1 : Int) : Option (Int × Int × Int) := if a1 = 0 then (some (0, 0, 6)) else (if a0 = (-9223372036854775808) then (fix_Div.j0 k a0 a1 (a1 == (-1))) else (fix_Div.j0 k a0 a1 false))
theorem fix_Div.mono_l : ∀ k, (∀ y0 y1 y2, LeO (fix_Div.j0 k y0 y1 y2) (fix_Div.j0 (k + 1) y0 y1 y2))
  | 0 => fun _ _ _ r h => by simp [fix_Div.j0] at h
  | k + 1 => by
    have ih0 := fix_Div.mono_l k
    · intro y0 y1 y2
      unfold fix_Div.j0
      repeat' first
      | (with_reducible exact ih0 _ _ _)
      | (with_reducible exact LeO.refl _)
      | (with_reducible exact LeO.none _)
      | (with_reducible refine LeO.ite ?_ ?_)
      | (with_reducible refine LeO.bind ?_ (fun _ => ?_))
      | exact ih0 _ _ _
      | exact LeO.none _
      | refine LeO.ite ?_ ?_
      | refine LeO.bind ?_ (fun _ => ?_)
theorem fix_Div.mono : ∀ a0 a1 k, LeO (fix_Div.f k a0 a1) (fix_Div.f (k + 1) a0 a1) := by
  intro a0 a1 k
  have ih0 := fix_Div.mono_l k
  unfold fix_Div.f
  repeat' first
      | (with_reducible exact ih0 _ _ _)
      | (with_reducible exact LeO.refl _)
      | (with_reducible exact LeO.none _)
      | (with_reducible refine LeO.ite ?_ ?_)
      | (with_reducible refine LeO.bind ?_ (fun _ => ?_))
      | exact ih0 _ _ _
      | exact LeO.none _
      | refine LeO.ite ?_ ?_
      | refine LeO.bind ?_ (fun _ => ?_)
set_option maxHeartbeats 8000000 in
set_option maxRecDepth 100000 in
theorem fix_Div.calls (k : Nat) (a0 : Int) (a1 : Int) (r1 : Int) (r2 : Int) (r3 : Int) (w : World) (h : fix_Div.f k a0 a1 = some (r1, r2, r3)) :
    Calls Tryd.prog 16 #[.int .i64 a0, .int .i64 a1] w fun e w' => e = .returned (.tuple #[.int .i64 r1, .int .i64 r2, .int .i64 r3]) ∧ Drawn0 w w' := by
  have H : (if a1 = 0 then (some (0, 0, 6)) else (if a0 = (-9223372036854775808) then (fix_Div.j0 k a0 a1 (a1 == (-1))) else (fix_Div.j0 k a0 a1 false))) = some (r1, r2, r3) := h
  clear h
  by_cases c3 : a1 = 0
  · rw [if_pos c3] at H
    have c3b0 : (a1 == 0) = true := beq_iff_eq.mpr c3
    have c3b1 : (a1 != 0) = false := bne_eq_false_iff_eq.mpr c3
    clear c3
    simp only [Option.some.injEq, Prod.mk.injEq] at H
    obtain ⟨rfl, rfl, rfl⟩ := H
    go_enter Tryd.func16, Tryd.ntmps16
    go_wp2
    repeat (go_quiet (fail); try go_wp2)
    go_ret3
    exact ⟨by first | rfl | (simp; done) | (simp [*]; done), by repeat (first | exact Drawn0.refl _ | apply Drawn0.step)⟩
  · rw [if_neg c3] at H
    have c3b0 : (a1 == 0) = false := beq_eq_false_iff_ne.mpr c3
    have c3b1 : (a1 != 0) = true := bne_iff_ne.mpr c3
    have HC4 := Aside0.mk H
    clear H
    go_enter Tryd.func16, Tryd.ntmps16
    go_upto_region 3 with (fail)
    repeat (go_quiet (fail); go_upto_region 3 with (fail))
    go_cut [14] (fun v14 wc => ∃ (kq : Nat) (x14_3 : Bool), v14 = .bool x14_3 ∧ Aside0 (fix_Div.j0 kq a0 a1 x14_3 = some (r1, r2, r3)) ∧ Aside0 (kq ≤ k) ∧ Drawn0 w wc)
    case first =>
      have H := HC4.out
      clear HC4
      by_cases c5 : a0 = (-9223372036854775808)
      · rw [if_pos c5] at H
        have c5b0 : (a0 == (-9223372036854775808)) = true := beq_iff_eq.mpr c5
        have c5b1 : (a0 != (-9223372036854775808)) = false := bne_eq_false_iff_eq.mpr c5
        clear c5
        (first | rw [c5b0] | (simp only [i64_w, i32_w]; rw [c5b0]) | skip)
        have H' := Aside0.mk H
        clear H
        go_wp2
        repeat (go_quiet (fail); try go_wp2)
        go_meet
        case rel => exact ⟨_, ((a1 == (-1))), (by first | rfl | (simp; done) | (simp [*]; done)), H', ⟨by first | omega | exact Nat.le_refl _⟩, by repeat (first | exact Drawn0.refl _ | apply Drawn0.step)⟩
      · rw [if_neg c5] at H
        have c5b0 : (a0 == (-9223372036854775808)) = false := beq_eq_false_iff_ne.mpr c5
        have c5b1 : (a0 != (-9223372036854775808)) = true := bne_iff_ne.mpr c5
        (first | rw [c5b0] | (simp only [i64_w, i32_w]; rw [c5b0]) | skip)
        have H' := Aside0.mk H
        clear H
        go_wp2
        repeat (go_quiet (fail); try go_wp2)
        go_meet
        case rel => exact ⟨_, (false), (by first | rfl | (simp; done) | (simp [*]; done)), H', ⟨by first | omega | exact Nat.le_refl _⟩, by repeat (first | exact Drawn0.refl _ | apply Drawn0.step)⟩
    case rest =>
      clear HC4
      try clear c1
      try clear p2
      try clear c3
      try clear c3b0
      try clear c3b1
      try clear c5
      try clear c5b0
      try clear c5b1
      obtain ⟨kq, x14_3, rfl, HA, HJ3, ⟨mc3, rfl⟩⟩ := hcut
      cases kq with
      | zero => exact absurd HA.out (by simp [fix_Div.j0])
      | succ kj3 =>
        have H := HA.out
        clear HA
        simp only [fix_Div.j0] at H
        by_cases c6 : x14_3 = true
        · subst c6
          have H1 : (some (0, 0, 5)) = some (r1, r2, r3) := by rw [if_pos rfl] at H; exact H
          clear H
          have H := H1
          clear H1
          simp only [Option.some.injEq, Prod.mk.injEq] at H
          obtain ⟨rfl, rfl, rfl⟩ := H
          go_wp2
          repeat (go_quiet (fail); try go_wp2)
          go_ret3
          exact ⟨by first | rfl | (simp; done) | (simp [*]; done), by repeat (first | exact Drawn0.refl _ | apply Drawn0.step)⟩
        · replace c6 := Bool.eq_false_iff.mpr c6
          subst c6
          have H1 : (if a1 = 0 then (none) else (if (Int.tmod a0 a1) ≥ 0 then (some (wrap64 (Int.tdiv a0 a1), Int.tmod a0 a1, 0)) else (if a1 > 0 then (some (wrap64 ((wrap64 (Int.tdiv a0 a1)) - 1), wrap64 ((Int.tmod a0 a1) + a1), 0)) else (some (wrap64 ((wrap64 (Int.tdiv a0 a1)) + 1), wrap64 ((Int.tmod a0 a1) - a1), 0))))) = some (r1, r2, r3) := by rw [if_neg (show ¬ (false = true) by decide)] at H; exact H
          clear H
          have H := H1
          clear H1
          by_cases c7 : a1 = 0
          · rw [if_pos c7] at H
            exact absurd H (by simp)
          · rw [if_neg c7] at H
            have c7b0 : (a1 == 0) = false := beq_eq_false_iff_ne.mpr c7
            have c7b1 : (a1 != 0) = true := bne_iff_ne.mpr c7
            by_cases c8 : (Int.tmod a0 a1) ≥ 0
            · rw [if_pos c8] at H
              have c8b0 : decide (0 ≤ (Int.tmod a0 a1)) = true := decide_eq_true c8
              clear c8
              simp only [Option.some.injEq, Prod.mk.injEq] at H
              obtain ⟨rfl, rfl, rfl⟩ := H
              go_wp2
              repeat (go_quiet (fail); try go_wp2)
              go_ret3
              exact ⟨by first | rfl | (simp; done) | (simp [*]; done), by repeat (first | exact Drawn0.refl _ | apply Drawn0.step)⟩
            · rw [if_neg c8] at H
              have c8b0 : decide (0 ≤ (Int.tmod a0 a1)) = false := decide_eq_false c8
              clear c8
              by_cases c9 : a1 > 0
              · rw [if_pos c9] at H
                have c9b0 : decide (0 < a1) = true := decide_eq_true c9
                clear c9
                simp only [Option.some.injEq, Prod.mk.injEq] at H
                obtain ⟨rfl, rfl, rfl⟩ := H
                go_wp2
                repeat (go_quiet (fail); try go_wp2)
                go_ret3
                exact ⟨by first | rfl | (simp; done) | (simp [*]; done), by repeat (first | exact Drawn0.refl _ | apply Drawn0.step)⟩
              · rw [if_neg c9] at H
                have c9b0 : decide (0 < a1) = false := decide_eq_false c9
                clear c9
                simp only [Option.some.injEq, Prod.mk.injEq] at H
                obtain ⟨rfl, rfl, rfl⟩ := H
                go_wp2
                repeat (go_quiet (fail); try go_wp2)
                go_ret3
                exact ⟨by first | rfl | (simp; done) | (simp [*]; done), by repeat (first | exact Drawn0.refl _ | apply Drawn0.step)⟩

/-! ### pylonlaw01_FixDivs: function 5 -/
def pylonlaw01_FixDivs.f (k : Nat) (a0 : Int) (a1 : Int) : Option (Bool) := (pylonlaw01_awake.f k).bind fun t152 => (if t152 = true then ((fix_Div.f k (wrap64 (a0)) (wrap64 (a1))).bind fun bt153 => (if a1 = 0 then (if bt153.2.2 = 6 then (if bt153.1 = 0 then (some (bt153.2.1 == 0)) else (some false)) else (some false)) else (if (wrap64 (a1)) < 0 then (if bt153.1 > 4294967296 then (some false) else (if bt153.1 < (-4294967296) then (some false) else (if bt153.2.2 = 0 then (if (wrap64 ((wrap64 (bt153.1 * (wrap64 (a1)))) + bt153.2.1)) = (wrap64 (a0)) then (if bt153.2.1 ≥ 0 then (some (decide (bt153.2.1 < (wrap64 (-(wrap64 (a1))))))) else (some false)) else (some false)) else (some false)))) else (if bt153.1 > 4294967296 then (some false) else (if bt153.1 < (-4294967296) then (some false) else (if bt153.2.2 = 0 then (if (wrap64 ((wrap64 (bt153.1 * (wrap64 (a1)))) + bt153.2.1)) = (wrap64 (a0)) then (if bt153.2.1 ≥ 0 then (some (decide (bt153.2.1 < (wrap64 (a1))))) else (some false)) else (some false)) else (some false))))))) else (some false))
theorem pylonlaw01_FixDivs.mono : ∀ a0 a1 k, LeO (pylonlaw01_FixDivs.f k a0 a1) (pylonlaw01_FixDivs.f (k + 1) a0 a1) := by
  intro a0 a1 k
  unfold pylonlaw01_FixDivs.f
  repeat' first
      | (with_reducible exact fix_Div.mono _ _ _)
      | (with_reducible exact pylonlaw01_awake.mono _)
      | (with_reducible exact LeO.refl _)
      | (with_reducible exact LeO.none _)
      | (with_reducible refine LeO.ite ?_ ?_)
      | (with_reducible refine LeO.bind ?_ (fun _ => ?_))
      | exact fix_Div.mono _ _ _
      | exact pylonlaw01_awake.mono _
      | exact LeO.none _
      | refine LeO.ite ?_ ?_
      | refine LeO.bind ?_ (fun _ => ?_)
set_option maxHeartbeats 8000000 in
set_option maxRecDepth 100000 in
theorem pylonlaw01_FixDivs.calls (k : Nat) (a0 : Int) (a1 : Int) (r : Bool) (w : World) (hT_ : Go.Proofs.YthejabcfbbmkeaaDoor.Hand.T1 w) (h : pylonlaw01_FixDivs.f k a0 a1 = some r) :
    Calls Tryd.prog 5 #[.int .i32 a0, .int .i32 a1] w fun e w' => e = .returned (.bool r) ∧ Below w.heap.size w w' := by
  have HTB := Aside0.mk hT_
  clear hT_
  have HB := Aside0.mk (Below.refl w.heap.size w)
  have H : ((pylonlaw01_awake.f k).bind fun t152 => (if t152 = true then ((fix_Div.f k (wrap64 (a0)) (wrap64 (a1))).bind fun bt153 => (if a1 = 0 then (if bt153.2.2 = 6 then (if bt153.1 = 0 then (some (bt153.2.1 == 0)) else (some false)) else (some false)) else (if (wrap64 (a1)) < 0 then (if bt153.1 > 4294967296 then (some false) else (if bt153.1 < (-4294967296) then (some false) else (if bt153.2.2 = 0 then (if (wrap64 ((wrap64 (bt153.1 * (wrap64 (a1)))) + bt153.2.1)) = (wrap64 (a0)) then (if bt153.2.1 ≥ 0 then (some (decide (bt153.2.1 < (wrap64 (-(wrap64 (a1))))))) else (some false)) else (some false)) else (some false)))) else (if bt153.1 > 4294967296 then (some false) else (if bt153.1 < (-4294967296) then (some false) else (if bt153.2.2 = 0 then (if (wrap64 ((wrap64 (bt153.1 * (wrap64 (a1)))) + bt153.2.1)) = (wrap64 (a0)) then (if bt153.2.1 ≥ 0 then (some (decide (bt153.2.1 < (wrap64 (a1))))) else (some false)) else (some false)) else (some false))))))) else (some false))) = some r := h
  clear h
  replace H := Option.bind_eq_some_iff.mp H
  obtain ⟨t152, A30, H⟩ := H
  replace H : (if t152 = true then ((fix_Div.f k (wrap64 (a0)) (wrap64 (a1))).bind fun bt153 => (if a1 = 0 then (if bt153.2.2 = 6 then (if bt153.1 = 0 then (some (bt153.2.1 == 0)) else (some false)) else (some false)) else (if (wrap64 (a1)) < 0 then (if bt153.1 > 4294967296 then (some false) else (if bt153.1 < (-4294967296) then (some false) else (if bt153.2.2 = 0 then (if (wrap64 ((wrap64 (bt153.1 * (wrap64 (a1)))) + bt153.2.1)) = (wrap64 (a0)) then (if bt153.2.1 ≥ 0 then (some (decide (bt153.2.1 < (wrap64 (-(wrap64 (a1))))))) else (some false)) else (some false)) else (some false)))) else (if bt153.1 > 4294967296 then (some false) else (if bt153.1 < (-4294967296) then (some false) else (if bt153.2.2 = 0 then (if (wrap64 ((wrap64 (bt153.1 * (wrap64 (a1)))) + bt153.2.1)) = (wrap64 (a0)) then (if bt153.2.1 ≥ 0 then (some (decide (bt153.2.1 < (wrap64 (a1))))) else (some false)) else (some false)) else (some false))))))) else (some false)) = some r := H
  have A3 := Aside0.mk A30
  clear A30
  by_cases c4 : t152 = true
  · subst c4
    have H1 : ((fix_Div.f k (wrap64 (a0)) (wrap64 (a1))).bind fun bt153 => (if a1 = 0 then (if bt153.2.2 = 6 then (if bt153.1 = 0 then (some (bt153.2.1 == 0)) else (some false)) else (some false)) else (if (wrap64 (a1)) < 0 then (if bt153.1 > 4294967296 then (some false) else (if bt153.1 < (-4294967296) then (some false) else (if bt153.2.2 = 0 then (if (wrap64 ((wrap64 (bt153.1 * (wrap64 (a1)))) + bt153.2.1)) = (wrap64 (a0)) then (if bt153.2.1 ≥ 0 then (some (decide (bt153.2.1 < (wrap64 (-(wrap64 (a1))))))) else (some false)) else (some false)) else (some false)))) else (if bt153.1 > 4294967296 then (some false) else (if bt153.1 < (-4294967296) then (some false) else (if bt153.2.2 = 0 then (if (wrap64 ((wrap64 (bt153.1 * (wrap64 (a1)))) + bt153.2.1)) = (wrap64 (a0)) then (if bt153.2.1 ≥ 0 then (some (decide (bt153.2.1 < (wrap64 (a1))))) else (some false)) else (some false)) else (some false))))))) = some r := by rw [if_pos rfl] at H; exact H
    clear H
    have H := H1
    clear H1
    replace H := Option.bind_eq_some_iff.mp H
    obtain ⟨⟨t153, t154, t155⟩, A50, H⟩ := H
    replace H : (if a1 = 0 then (if t155 = 6 then (if t153 = 0 then (some (t154 == 0)) else (some false)) else (some false)) else (if (wrap64 (a1)) < 0 then (if t153 > 4294967296 then (some false) else (if t153 < (-4294967296) then (some false) else (if t155 = 0 then (if (wrap64 ((wrap64 (t153 * (wrap64 (a1)))) + t154)) = (wrap64 (a0)) then (if t154 ≥ 0 then (some (decide (t154 < (wrap64 (-(wrap64 (a1))))))) else (some false)) else (some false)) else (some false)))) else (if t153 > 4294967296 then (some false) else (if t153 < (-4294967296) then (some false) else (if t155 = 0 then (if (wrap64 ((wrap64 (t153 * (wrap64 (a1)))) + t154)) = (wrap64 (a0)) then (if t154 ≥ 0 then (some (decide (t154 < (wrap64 (a1))))) else (some false)) else (some false)) else (some false)))))) = some r := H
    have A5 := Aside0.mk A50
    clear A50
    by_cases c6 : a1 = 0
    · rw [if_pos c6] at H
      have c6b0 : (a1 == 0) = true := beq_iff_eq.mpr c6
      have c6b1 : (a1 != 0) = false := bne_eq_false_iff_eq.mpr c6
      clear c6
      by_cases c7 : t155 = 6
      · rw [if_pos c7] at H
        have c7b0 : (t155 == 6) = true := beq_iff_eq.mpr c7
        have c7b1 : (t155 != 6) = false := bne_eq_false_iff_eq.mpr c7
        clear c7
        by_cases c8 : t153 = 0
        · rw [if_pos c8] at H
          have c8b0 : (t153 == 0) = true := beq_iff_eq.mpr c8
          have c8b1 : (t153 != 0) = false := bne_eq_false_iff_eq.mpr c8
          clear c8
          obtain rfl := Option.some.inj H
          go_enter Tryd.func5, Tryd.ntmps5
          go_wp2_with (first | ((with_reducible refine gate_callee (f := 11) rfl ?_); refine goesL_ (some 9) rfl rfl Tryd.func11 (by kernel_rfl) rfl #[] rfl (by (try simp only [List.map_toArray, List.map_cons, List.map_nil]); first | done | rfl | (simp only [List.length_drop, List.length_take]; rfl)) ?_; (with_reducible refine (pylonlaw01_awake.calls k  true _ ?side1 A3.out).mono ?_); (case side1 => exact Go.Proofs.YthejabcfbbmkeaaDoor.Hand.GW.on HTB.out (by repeat (first | (with_reducible first | exact HB.out | apply below_alloc | apply pw_below_drewN | apply below_drew1) | exact HB.out))); rintro e w9 ⟨rfl, hb⟩; refine ⟨_, rfl, ?_⟩; have n0_ := Aside0.mk (below_step (by repeat (first | (with_reducible first | exact HB.out | apply below_alloc | apply pw_below_drewN | apply below_drew1) | exact HB.out)) hb); clear HB; have HB := n0_; clear n0_; (try clear hb); (try clear hb2); (try clear hk); (try clear hi)) | ((with_reducible refine gate_callee (f := 16) rfl ?_); refine goesL_ (some 16) rfl rfl Tryd.func16 (by kernel_rfl) rfl #[.int .i64 (wrap64 (a0)), .int .i64 (wrap64 (a1))] rfl (by (try simp only [List.map_toArray, List.map_cons, List.map_nil]); first | done | rfl | (simp only [List.length_drop, List.length_take]; rfl)) ?_; (with_reducible refine (fix_Div.calls k (wrap64 (a0)) (wrap64 (a1)) t153 t154 t155 _ A5.out).mono ?_); rintro e w' ⟨rfl, ⟨nd, rfl⟩⟩; refine ⟨_, rfl, ?_⟩))
          go_ret
          exact ⟨by first | rfl | (simp [errW_none, errW_some] <;> rfl) | (simp [*, errW_none, errW_some] <;> rfl), by repeat (first | (with_reducible first | exact HB.out | apply below_alloc | apply pw_below_drewN | apply below_drew1) | exact HB.out)⟩
        · rw [if_neg c8] at H
          have c8b0 : (t153 == 0) = false := beq_eq_false_iff_ne.mpr c8
          have c8b1 : (t153 != 0) = true := bne_iff_ne.mpr c8
          obtain rfl := Option.some.inj H
          go_enter Tryd.func5, Tryd.ntmps5
          go_wp2_with (first | ((with_reducible refine gate_callee (f := 11) rfl ?_); refine goesL_ (some 9) rfl rfl Tryd.func11 (by kernel_rfl) rfl #[] rfl (by (try simp only [List.map_toArray, List.map_cons, List.map_nil]); first | done | rfl | (simp only [List.length_drop, List.length_take]; rfl)) ?_; (with_reducible refine (pylonlaw01_awake.calls k  true _ ?side1 A3.out).mono ?_); (case side1 => exact Go.Proofs.YthejabcfbbmkeaaDoor.Hand.GW.on HTB.out (by repeat (first | (with_reducible first | exact HB.out | apply below_alloc | apply pw_below_drewN | apply below_drew1) | exact HB.out))); rintro e w10 ⟨rfl, hb⟩; refine ⟨_, rfl, ?_⟩; have n0_ := Aside0.mk (below_step (by repeat (first | (with_reducible first | exact HB.out | apply below_alloc | apply pw_below_drewN | apply below_drew1) | exact HB.out)) hb); clear HB; have HB := n0_; clear n0_; (try clear hb); (try clear hb2); (try clear hk); (try clear hi)) | ((with_reducible refine gate_callee (f := 16) rfl ?_); refine goesL_ (some 16) rfl rfl Tryd.func16 (by kernel_rfl) rfl #[.int .i64 (wrap64 (a0)), .int .i64 (wrap64 (a1))] rfl (by (try simp only [List.map_toArray, List.map_cons, List.map_nil]); first | done | rfl | (simp only [List.length_drop, List.length_take]; rfl)) ?_; (with_reducible refine (fix_Div.calls k (wrap64 (a0)) (wrap64 (a1)) t153 t154 t155 _ A5.out).mono ?_); rintro e w' ⟨rfl, ⟨nd, rfl⟩⟩; refine ⟨_, rfl, ?_⟩))
          go_ret
          exact ⟨by first | rfl | (simp [errW_none, errW_some] <;> rfl) | (simp [*, errW_none, errW_some] <;> rfl), by repeat (first | (with_reducible first | exact HB.out | apply below_alloc | apply pw_below_drewN | apply below_drew1) | exact HB.out)⟩
      · rw [if_neg c7] at H
        have c7b0 : (t155 == 6) = false := beq_eq_false_iff_ne.mpr c7
        have c7b1 : (t155 != 6) = true := bne_iff_ne.mpr c7
        obtain rfl := Option.some.inj H
        go_enter Tryd.func5, Tryd.ntmps5
        go_wp2_with (first | ((with_reducible refine gate_callee (f := 11) rfl ?_); refine goesL_ (some 9) rfl rfl Tryd.func11 (by kernel_rfl) rfl #[] rfl (by (try simp only [List.map_toArray, List.map_cons, List.map_nil]); first | done | rfl | (simp only [List.length_drop, List.length_take]; rfl)) ?_; (with_reducible refine (pylonlaw01_awake.calls k  true _ ?side1 A3.out).mono ?_); (case side1 => exact Go.Proofs.YthejabcfbbmkeaaDoor.Hand.GW.on HTB.out (by repeat (first | (with_reducible first | exact HB.out | apply below_alloc | apply pw_below_drewN | apply below_drew1) | exact HB.out))); rintro e w11 ⟨rfl, hb⟩; refine ⟨_, rfl, ?_⟩; have n0_ := Aside0.mk (below_step (by repeat (first | (with_reducible first | exact HB.out | apply below_alloc | apply pw_below_drewN | apply below_drew1) | exact HB.out)) hb); clear HB; have HB := n0_; clear n0_; (try clear hb); (try clear hb2); (try clear hk); (try clear hi)) | ((with_reducible refine gate_callee (f := 16) rfl ?_); refine goesL_ (some 16) rfl rfl Tryd.func16 (by kernel_rfl) rfl #[.int .i64 (wrap64 (a0)), .int .i64 (wrap64 (a1))] rfl (by (try simp only [List.map_toArray, List.map_cons, List.map_nil]); first | done | rfl | (simp only [List.length_drop, List.length_take]; rfl)) ?_; (with_reducible refine (fix_Div.calls k (wrap64 (a0)) (wrap64 (a1)) t153 t154 t155 _ A5.out).mono ?_); rintro e w' ⟨rfl, ⟨nd, rfl⟩⟩; refine ⟨_, rfl, ?_⟩))
        go_ret
        exact ⟨by first | rfl | (simp [errW_none, errW_some] <;> rfl) | (simp [*, errW_none, errW_some] <;> rfl), by repeat (first | (with_reducible first | exact HB.out | apply below_alloc | apply pw_below_drewN | apply below_drew1) | exact HB.out)⟩
    · rw [if_neg c6] at H
      have c6b0 : (a1 == 0) = false := beq_eq_false_iff_ne.mpr c6
      have c6b1 : (a1 != 0) = true := bne_iff_ne.mpr c6
      by_cases c12 : (wrap64 (a1)) < 0
      · rw [if_pos c12] at H
        have c12b0 : decide ((wrap64 (a1)) < 0) = true := decide_eq_true c12
        clear c12
        by_cases c13 : t153 > 4294967296
        · rw [if_pos c13] at H
          have c13b0 : decide (4294967296 < t153) = true := decide_eq_true c13
          clear c13
          obtain rfl := Option.some.inj H
          go_enter Tryd.func5, Tryd.ntmps5
          go_wp2_with (first | ((with_reducible refine gate_callee (f := 11) rfl ?_); refine goesL_ (some 9) rfl rfl Tryd.func11 (by kernel_rfl) rfl #[] rfl (by (try simp only [List.map_toArray, List.map_cons, List.map_nil]); first | done | rfl | (simp only [List.length_drop, List.length_take]; rfl)) ?_; (with_reducible refine (pylonlaw01_awake.calls k  true _ ?side1 A3.out).mono ?_); (case side1 => exact Go.Proofs.YthejabcfbbmkeaaDoor.Hand.GW.on HTB.out (by repeat (first | (with_reducible first | exact HB.out | apply below_alloc | apply pw_below_drewN | apply below_drew1) | exact HB.out))); rintro e w14 ⟨rfl, hb⟩; refine ⟨_, rfl, ?_⟩; have n0_ := Aside0.mk (below_step (by repeat (first | (with_reducible first | exact HB.out | apply below_alloc | apply pw_below_drewN | apply below_drew1) | exact HB.out)) hb); clear HB; have HB := n0_; clear n0_; (try clear hb); (try clear hb2); (try clear hk); (try clear hi)) | ((with_reducible refine gate_callee (f := 16) rfl ?_); refine goesL_ (some 16) rfl rfl Tryd.func16 (by kernel_rfl) rfl #[.int .i64 (wrap64 (a0)), .int .i64 (wrap64 (a1))] rfl (by (try simp only [List.map_toArray, List.map_cons, List.map_nil]); first | done | rfl | (simp only [List.length_drop, List.length_take]; rfl)) ?_; (with_reducible refine (fix_Div.calls k (wrap64 (a0)) (wrap64 (a1)) t153 t154 t155 _ A5.out).mono ?_); rintro e w' ⟨rfl, ⟨nd, rfl⟩⟩; refine ⟨_, rfl, ?_⟩))
          go_ret
          exact ⟨by first | rfl | (simp [errW_none, errW_some] <;> rfl) | (simp [*, errW_none, errW_some] <;> rfl), by repeat (first | (with_reducible first | exact HB.out | apply below_alloc | apply pw_below_drewN | apply below_drew1) | exact HB.out)⟩
        · rw [if_neg c13] at H
          have c13b0 : decide (4294967296 < t153) = false := decide_eq_false c13
          clear c13
          by_cases c15 : t153 < (-4294967296)
          · rw [if_pos c15] at H
            have c15b0 : decide (t153 < (-4294967296)) = true := decide_eq_true c15
            clear c15
            obtain rfl := Option.some.inj H
            go_enter Tryd.func5, Tryd.ntmps5
            go_wp2_with (first | ((with_reducible refine gate_callee (f := 11) rfl ?_); refine goesL_ (some 9) rfl rfl Tryd.func11 (by kernel_rfl) rfl #[] rfl (by (try simp only [List.map_toArray, List.map_cons, List.map_nil]); first | done | rfl | (simp only [List.length_drop, List.length_take]; rfl)) ?_; (with_reducible refine (pylonlaw01_awake.calls k  true _ ?side1 A3.out).mono ?_); (case side1 => exact Go.Proofs.YthejabcfbbmkeaaDoor.Hand.GW.on HTB.out (by repeat (first | (with_reducible first | exact HB.out | apply below_alloc | apply pw_below_drewN | apply below_drew1) | exact HB.out))); rintro e w16 ⟨rfl, hb⟩; refine ⟨_, rfl, ?_⟩; have n0_ := Aside0.mk (below_step (by repeat (first | (with_reducible first | exact HB.out | apply below_alloc | apply pw_below_drewN | apply below_drew1) | exact HB.out)) hb); clear HB; have HB := n0_; clear n0_; (try clear hb); (try clear hb2); (try clear hk); (try clear hi)) | ((with_reducible refine gate_callee (f := 16) rfl ?_); refine goesL_ (some 16) rfl rfl Tryd.func16 (by kernel_rfl) rfl #[.int .i64 (wrap64 (a0)), .int .i64 (wrap64 (a1))] rfl (by (try simp only [List.map_toArray, List.map_cons, List.map_nil]); first | done | rfl | (simp only [List.length_drop, List.length_take]; rfl)) ?_; (with_reducible refine (fix_Div.calls k (wrap64 (a0)) (wrap64 (a1)) t153 t154 t155 _ A5.out).mono ?_); rintro e w' ⟨rfl, ⟨nd, rfl⟩⟩; refine ⟨_, rfl, ?_⟩))
            go_ret
            exact ⟨by first | rfl | (simp [errW_none, errW_some] <;> rfl) | (simp [*, errW_none, errW_some] <;> rfl), by repeat (first | (with_reducible first | exact HB.out | apply below_alloc | apply pw_below_drewN | apply below_drew1) | exact HB.out)⟩
          · rw [if_neg c15] at H
            have c15b0 : decide (t153 < (-4294967296)) = false := decide_eq_false c15
            clear c15
            by_cases c17 : t155 = 0
            · rw [if_pos c17] at H
              have c17b0 : (t155 == 0) = true := beq_iff_eq.mpr c17
              have c17b1 : (t155 != 0) = false := bne_eq_false_iff_eq.mpr c17
              clear c17
              by_cases c18 : (wrap64 ((wrap64 (t153 * (wrap64 (a1)))) + t154)) = (wrap64 (a0))
              · rw [if_pos c18] at H
                have c18b0 : ((wrap64 ((wrap64 (t153 * (wrap64 (a1)))) + t154)) == (wrap64 (a0))) = true := beq_iff_eq.mpr c18
                have c18b1 : ((wrap64 ((wrap64 (t153 * (wrap64 (a1)))) + t154)) != (wrap64 (a0))) = false := bne_eq_false_iff_eq.mpr c18
                clear c18
                by_cases c19 : t154 ≥ 0
                · rw [if_pos c19] at H
                  have c19b0 : decide (0 ≤ t154) = true := decide_eq_true c19
                  clear c19
                  obtain rfl := Option.some.inj H
                  go_enter Tryd.func5, Tryd.ntmps5
                  go_wp2_with (first | ((with_reducible refine gate_callee (f := 11) rfl ?_); refine goesL_ (some 9) rfl rfl Tryd.func11 (by kernel_rfl) rfl #[] rfl (by (try simp only [List.map_toArray, List.map_cons, List.map_nil]); first | done | rfl | (simp only [List.length_drop, List.length_take]; rfl)) ?_; (with_reducible refine (pylonlaw01_awake.calls k  true _ ?side1 A3.out).mono ?_); (case side1 => exact Go.Proofs.YthejabcfbbmkeaaDoor.Hand.GW.on HTB.out (by repeat (first | (with_reducible first | exact HB.out | apply below_alloc | apply pw_below_drewN | apply below_drew1) | exact HB.out))); rintro e w20 ⟨rfl, hb⟩; refine ⟨_, rfl, ?_⟩; have n0_ := Aside0.mk (below_step (by repeat (first | (with_reducible first | exact HB.out | apply below_alloc | apply pw_below_drewN | apply below_drew1) | exact HB.out)) hb); clear HB; have HB := n0_; clear n0_; (try clear hb); (try clear hb2); (try clear hk); (try clear hi)) | ((with_reducible refine gate_callee (f := 16) rfl ?_); refine goesL_ (some 16) rfl rfl Tryd.func16 (by kernel_rfl) rfl #[.int .i64 (wrap64 (a0)), .int .i64 (wrap64 (a1))] rfl (by (try simp only [List.map_toArray, List.map_cons, List.map_nil]); first | done | rfl | (simp only [List.length_drop, List.length_take]; rfl)) ?_; (with_reducible refine (fix_Div.calls k (wrap64 (a0)) (wrap64 (a1)) t153 t154 t155 _ A5.out).mono ?_); rintro e w' ⟨rfl, ⟨nd, rfl⟩⟩; refine ⟨_, rfl, ?_⟩))
                  go_ret
                  exact ⟨by first | rfl | (simp [errW_none, errW_some] <;> rfl) | (simp [*, errW_none, errW_some] <;> rfl), by repeat (first | (with_reducible first | exact HB.out | apply below_alloc | apply pw_below_drewN | apply below_drew1) | exact HB.out)⟩
                · rw [if_neg c19] at H
                  have c19b0 : decide (0 ≤ t154) = false := decide_eq_false c19
                  clear c19
                  obtain rfl := Option.some.inj H
                  go_enter Tryd.func5, Tryd.ntmps5
                  go_wp2_with (first | ((with_reducible refine gate_callee (f := 11) rfl ?_); refine goesL_ (some 9) rfl rfl Tryd.func11 (by kernel_rfl) rfl #[] rfl (by (try simp only [List.map_toArray, List.map_cons, List.map_nil]); first | done | rfl | (simp only [List.length_drop, List.length_take]; rfl)) ?_; (with_reducible refine (pylonlaw01_awake.calls k  true _ ?side1 A3.out).mono ?_); (case side1 => exact Go.Proofs.YthejabcfbbmkeaaDoor.Hand.GW.on HTB.out (by repeat (first | (with_reducible first | exact HB.out | apply below_alloc | apply pw_below_drewN | apply below_drew1) | exact HB.out))); rintro e w21 ⟨rfl, hb⟩; refine ⟨_, rfl, ?_⟩; have n0_ := Aside0.mk (below_step (by repeat (first | (with_reducible first | exact HB.out | apply below_alloc | apply pw_below_drewN | apply below_drew1) | exact HB.out)) hb); clear HB; have HB := n0_; clear n0_; (try clear hb); (try clear hb2); (try clear hk); (try clear hi)) | ((with_reducible refine gate_callee (f := 16) rfl ?_); refine goesL_ (some 16) rfl rfl Tryd.func16 (by kernel_rfl) rfl #[.int .i64 (wrap64 (a0)), .int .i64 (wrap64 (a1))] rfl (by (try simp only [List.map_toArray, List.map_cons, List.map_nil]); first | done | rfl | (simp only [List.length_drop, List.length_take]; rfl)) ?_; (with_reducible refine (fix_Div.calls k (wrap64 (a0)) (wrap64 (a1)) t153 t154 t155 _ A5.out).mono ?_); rintro e w' ⟨rfl, ⟨nd, rfl⟩⟩; refine ⟨_, rfl, ?_⟩))
                  go_ret
                  exact ⟨by first | rfl | (simp [errW_none, errW_some] <;> rfl) | (simp [*, errW_none, errW_some] <;> rfl), by repeat (first | (with_reducible first | exact HB.out | apply below_alloc | apply pw_below_drewN | apply below_drew1) | exact HB.out)⟩
              · rw [if_neg c18] at H
                have c18b0 : ((wrap64 ((wrap64 (t153 * (wrap64 (a1)))) + t154)) == (wrap64 (a0))) = false := beq_eq_false_iff_ne.mpr c18
                have c18b1 : ((wrap64 ((wrap64 (t153 * (wrap64 (a1)))) + t154)) != (wrap64 (a0))) = true := bne_iff_ne.mpr c18
                obtain rfl := Option.some.inj H
                go_enter Tryd.func5, Tryd.ntmps5
                go_wp2_with (first | ((with_reducible refine gate_callee (f := 11) rfl ?_); refine goesL_ (some 9) rfl rfl Tryd.func11 (by kernel_rfl) rfl #[] rfl (by (try simp only [List.map_toArray, List.map_cons, List.map_nil]); first | done | rfl | (simp only [List.length_drop, List.length_take]; rfl)) ?_; (with_reducible refine (pylonlaw01_awake.calls k  true _ ?side1 A3.out).mono ?_); (case side1 => exact Go.Proofs.YthejabcfbbmkeaaDoor.Hand.GW.on HTB.out (by repeat (first | (with_reducible first | exact HB.out | apply below_alloc | apply pw_below_drewN | apply below_drew1) | exact HB.out))); rintro e w22 ⟨rfl, hb⟩; refine ⟨_, rfl, ?_⟩; have n0_ := Aside0.mk (below_step (by repeat (first | (with_reducible first | exact HB.out | apply below_alloc | apply pw_below_drewN | apply below_drew1) | exact HB.out)) hb); clear HB; have HB := n0_; clear n0_; (try clear hb); (try clear hb2); (try clear hk); (try clear hi)) | ((with_reducible refine gate_callee (f := 16) rfl ?_); refine goesL_ (some 16) rfl rfl Tryd.func16 (by kernel_rfl) rfl #[.int .i64 (wrap64 (a0)), .int .i64 (wrap64 (a1))] rfl (by (try simp only [List.map_toArray, List.map_cons, List.map_nil]); first | done | rfl | (simp only [List.length_drop, List.length_take]; rfl)) ?_; (with_reducible refine (fix_Div.calls k (wrap64 (a0)) (wrap64 (a1)) t153 t154 t155 _ A5.out).mono ?_); rintro e w' ⟨rfl, ⟨nd, rfl⟩⟩; refine ⟨_, rfl, ?_⟩))
                go_ret
                exact ⟨by first | rfl | (simp [errW_none, errW_some] <;> rfl) | (simp [*, errW_none, errW_some] <;> rfl), by repeat (first | (with_reducible first | exact HB.out | apply below_alloc | apply pw_below_drewN | apply below_drew1) | exact HB.out)⟩
            · rw [if_neg c17] at H
              have c17b0 : (t155 == 0) = false := beq_eq_false_iff_ne.mpr c17
              have c17b1 : (t155 != 0) = true := bne_iff_ne.mpr c17
              obtain rfl := Option.some.inj H
              go_enter Tryd.func5, Tryd.ntmps5
              go_wp2_with (first | ((with_reducible refine gate_callee (f := 11) rfl ?_); refine goesL_ (some 9) rfl rfl Tryd.func11 (by kernel_rfl) rfl #[] rfl (by (try simp only [List.map_toArray, List.map_cons, List.map_nil]); first | done | rfl | (simp only [List.length_drop, List.length_take]; rfl)) ?_; (with_reducible refine (pylonlaw01_awake.calls k  true _ ?side1 A3.out).mono ?_); (case side1 => exact Go.Proofs.YthejabcfbbmkeaaDoor.Hand.GW.on HTB.out (by repeat (first | (with_reducible first | exact HB.out | apply below_alloc | apply pw_below_drewN | apply below_drew1) | exact HB.out))); rintro e w23 ⟨rfl, hb⟩; refine ⟨_, rfl, ?_⟩; have n0_ := Aside0.mk (below_step (by repeat (first | (with_reducible first | exact HB.out | apply below_alloc | apply pw_below_drewN | apply below_drew1) | exact HB.out)) hb); clear HB; have HB := n0_; clear n0_; (try clear hb); (try clear hb2); (try clear hk); (try clear hi)) | ((with_reducible refine gate_callee (f := 16) rfl ?_); refine goesL_ (some 16) rfl rfl Tryd.func16 (by kernel_rfl) rfl #[.int .i64 (wrap64 (a0)), .int .i64 (wrap64 (a1))] rfl (by (try simp only [List.map_toArray, List.map_cons, List.map_nil]); first | done | rfl | (simp only [List.length_drop, List.length_take]; rfl)) ?_; (with_reducible refine (fix_Div.calls k (wrap64 (a0)) (wrap64 (a1)) t153 t154 t155 _ A5.out).mono ?_); rintro e w' ⟨rfl, ⟨nd, rfl⟩⟩; refine ⟨_, rfl, ?_⟩))
              go_ret
              exact ⟨by first | rfl | (simp [errW_none, errW_some] <;> rfl) | (simp [*, errW_none, errW_some] <;> rfl), by repeat (first | (with_reducible first | exact HB.out | apply below_alloc | apply pw_below_drewN | apply below_drew1) | exact HB.out)⟩
      · rw [if_neg c12] at H
        have c12b0 : decide ((wrap64 (a1)) < 0) = false := decide_eq_false c12
        clear c12
        by_cases c24 : t153 > 4294967296
        · rw [if_pos c24] at H
          have c24b0 : decide (4294967296 < t153) = true := decide_eq_true c24
          clear c24
          obtain rfl := Option.some.inj H
          go_enter Tryd.func5, Tryd.ntmps5
          go_wp2_with (first | ((with_reducible refine gate_callee (f := 11) rfl ?_); refine goesL_ (some 9) rfl rfl Tryd.func11 (by kernel_rfl) rfl #[] rfl (by (try simp only [List.map_toArray, List.map_cons, List.map_nil]); first | done | rfl | (simp only [List.length_drop, List.length_take]; rfl)) ?_; (with_reducible refine (pylonlaw01_awake.calls k  true _ ?side1 A3.out).mono ?_); (case side1 => exact Go.Proofs.YthejabcfbbmkeaaDoor.Hand.GW.on HTB.out (by repeat (first | (with_reducible first | exact HB.out | apply below_alloc | apply pw_below_drewN | apply below_drew1) | exact HB.out))); rintro e w25 ⟨rfl, hb⟩; refine ⟨_, rfl, ?_⟩; have n0_ := Aside0.mk (below_step (by repeat (first | (with_reducible first | exact HB.out | apply below_alloc | apply pw_below_drewN | apply below_drew1) | exact HB.out)) hb); clear HB; have HB := n0_; clear n0_; (try clear hb); (try clear hb2); (try clear hk); (try clear hi)) | ((with_reducible refine gate_callee (f := 16) rfl ?_); refine goesL_ (some 16) rfl rfl Tryd.func16 (by kernel_rfl) rfl #[.int .i64 (wrap64 (a0)), .int .i64 (wrap64 (a1))] rfl (by (try simp only [List.map_toArray, List.map_cons, List.map_nil]); first | done | rfl | (simp only [List.length_drop, List.length_take]; rfl)) ?_; (with_reducible refine (fix_Div.calls k (wrap64 (a0)) (wrap64 (a1)) t153 t154 t155 _ A5.out).mono ?_); rintro e w' ⟨rfl, ⟨nd, rfl⟩⟩; refine ⟨_, rfl, ?_⟩))
          go_ret
          exact ⟨by first | rfl | (simp [errW_none, errW_some] <;> rfl) | (simp [*, errW_none, errW_some] <;> rfl), by repeat (first | (with_reducible first | exact HB.out | apply below_alloc | apply pw_below_drewN | apply below_drew1) | exact HB.out)⟩
        · rw [if_neg c24] at H
          have c24b0 : decide (4294967296 < t153) = false := decide_eq_false c24
          clear c24
          by_cases c26 : t153 < (-4294967296)
          · rw [if_pos c26] at H
            have c26b0 : decide (t153 < (-4294967296)) = true := decide_eq_true c26
            clear c26
            obtain rfl := Option.some.inj H
            go_enter Tryd.func5, Tryd.ntmps5
            go_wp2_with (first | ((with_reducible refine gate_callee (f := 11) rfl ?_); refine goesL_ (some 9) rfl rfl Tryd.func11 (by kernel_rfl) rfl #[] rfl (by (try simp only [List.map_toArray, List.map_cons, List.map_nil]); first | done | rfl | (simp only [List.length_drop, List.length_take]; rfl)) ?_; (with_reducible refine (pylonlaw01_awake.calls k  true _ ?side1 A3.out).mono ?_); (case side1 => exact Go.Proofs.YthejabcfbbmkeaaDoor.Hand.GW.on HTB.out (by repeat (first | (with_reducible first | exact HB.out | apply below_alloc | apply pw_below_drewN | apply below_drew1) | exact HB.out))); rintro e w27 ⟨rfl, hb⟩; refine ⟨_, rfl, ?_⟩; have n0_ := Aside0.mk (below_step (by repeat (first | (with_reducible first | exact HB.out | apply below_alloc | apply pw_below_drewN | apply below_drew1) | exact HB.out)) hb); clear HB; have HB := n0_; clear n0_; (try clear hb); (try clear hb2); (try clear hk); (try clear hi)) | ((with_reducible refine gate_callee (f := 16) rfl ?_); refine goesL_ (some 16) rfl rfl Tryd.func16 (by kernel_rfl) rfl #[.int .i64 (wrap64 (a0)), .int .i64 (wrap64 (a1))] rfl (by (try simp only [List.map_toArray, List.map_cons, List.map_nil]); first | done | rfl | (simp only [List.length_drop, List.length_take]; rfl)) ?_; (with_reducible refine (fix_Div.calls k (wrap64 (a0)) (wrap64 (a1)) t153 t154 t155 _ A5.out).mono ?_); rintro e w' ⟨rfl, ⟨nd, rfl⟩⟩; refine ⟨_, rfl, ?_⟩))
            go_ret
            exact ⟨by first | rfl | (simp [errW_none, errW_some] <;> rfl) | (simp [*, errW_none, errW_some] <;> rfl), by repeat (first | (with_reducible first | exact HB.out | apply below_alloc | apply pw_below_drewN | apply below_drew1) | exact HB.out)⟩
          · rw [if_neg c26] at H
            have c26b0 : decide (t153 < (-4294967296)) = false := decide_eq_false c26
            clear c26
            by_cases c28 : t155 = 0
            · rw [if_pos c28] at H
              have c28b0 : (t155 == 0) = true := beq_iff_eq.mpr c28
              have c28b1 : (t155 != 0) = false := bne_eq_false_iff_eq.mpr c28
              clear c28
              by_cases c29 : (wrap64 ((wrap64 (t153 * (wrap64 (a1)))) + t154)) = (wrap64 (a0))
              · rw [if_pos c29] at H
                have c29b0 : ((wrap64 ((wrap64 (t153 * (wrap64 (a1)))) + t154)) == (wrap64 (a0))) = true := beq_iff_eq.mpr c29
                have c29b1 : ((wrap64 ((wrap64 (t153 * (wrap64 (a1)))) + t154)) != (wrap64 (a0))) = false := bne_eq_false_iff_eq.mpr c29
                clear c29
                by_cases c30 : t154 ≥ 0
                · rw [if_pos c30] at H
                  have c30b0 : decide (0 ≤ t154) = true := decide_eq_true c30
                  clear c30
                  obtain rfl := Option.some.inj H
                  go_enter Tryd.func5, Tryd.ntmps5
                  go_wp2_with (first | ((with_reducible refine gate_callee (f := 11) rfl ?_); refine goesL_ (some 9) rfl rfl Tryd.func11 (by kernel_rfl) rfl #[] rfl (by (try simp only [List.map_toArray, List.map_cons, List.map_nil]); first | done | rfl | (simp only [List.length_drop, List.length_take]; rfl)) ?_; (with_reducible refine (pylonlaw01_awake.calls k  true _ ?side1 A3.out).mono ?_); (case side1 => exact Go.Proofs.YthejabcfbbmkeaaDoor.Hand.GW.on HTB.out (by repeat (first | (with_reducible first | exact HB.out | apply below_alloc | apply pw_below_drewN | apply below_drew1) | exact HB.out))); rintro e w31 ⟨rfl, hb⟩; refine ⟨_, rfl, ?_⟩; have n0_ := Aside0.mk (below_step (by repeat (first | (with_reducible first | exact HB.out | apply below_alloc | apply pw_below_drewN | apply below_drew1) | exact HB.out)) hb); clear HB; have HB := n0_; clear n0_; (try clear hb); (try clear hb2); (try clear hk); (try clear hi)) | ((with_reducible refine gate_callee (f := 16) rfl ?_); refine goesL_ (some 16) rfl rfl Tryd.func16 (by kernel_rfl) rfl #[.int .i64 (wrap64 (a0)), .int .i64 (wrap64 (a1))] rfl (by (try simp only [List.map_toArray, List.map_cons, List.map_nil]); first | done | rfl | (simp only [List.length_drop, List.length_take]; rfl)) ?_; (with_reducible refine (fix_Div.calls k (wrap64 (a0)) (wrap64 (a1)) t153 t154 t155 _ A5.out).mono ?_); rintro e w' ⟨rfl, ⟨nd, rfl⟩⟩; refine ⟨_, rfl, ?_⟩))
                  go_ret
                  exact ⟨by first | rfl | (simp [errW_none, errW_some] <;> rfl) | (simp [*, errW_none, errW_some] <;> rfl), by repeat (first | (with_reducible first | exact HB.out | apply below_alloc | apply pw_below_drewN | apply below_drew1) | exact HB.out)⟩
                · rw [if_neg c30] at H
                  have c30b0 : decide (0 ≤ t154) = false := decide_eq_false c30
                  clear c30
                  obtain rfl := Option.some.inj H
                  go_enter Tryd.func5, Tryd.ntmps5
                  go_wp2_with (first | ((with_reducible refine gate_callee (f := 11) rfl ?_); refine goesL_ (some 9) rfl rfl Tryd.func11 (by kernel_rfl) rfl #[] rfl (by (try simp only [List.map_toArray, List.map_cons, List.map_nil]); first | done | rfl | (simp only [List.length_drop, List.length_take]; rfl)) ?_; (with_reducible refine (pylonlaw01_awake.calls k  true _ ?side1 A3.out).mono ?_); (case side1 => exact Go.Proofs.YthejabcfbbmkeaaDoor.Hand.GW.on HTB.out (by repeat (first | (with_reducible first | exact HB.out | apply below_alloc | apply pw_below_drewN | apply below_drew1) | exact HB.out))); rintro e w32 ⟨rfl, hb⟩; refine ⟨_, rfl, ?_⟩; have n0_ := Aside0.mk (below_step (by repeat (first | (with_reducible first | exact HB.out | apply below_alloc | apply pw_below_drewN | apply below_drew1) | exact HB.out)) hb); clear HB; have HB := n0_; clear n0_; (try clear hb); (try clear hb2); (try clear hk); (try clear hi)) | ((with_reducible refine gate_callee (f := 16) rfl ?_); refine goesL_ (some 16) rfl rfl Tryd.func16 (by kernel_rfl) rfl #[.int .i64 (wrap64 (a0)), .int .i64 (wrap64 (a1))] rfl (by (try simp only [List.map_toArray, List.map_cons, List.map_nil]); first | done | rfl | (simp only [List.length_drop, List.length_take]; rfl)) ?_; (with_reducible refine (fix_Div.calls k (wrap64 (a0)) (wrap64 (a1)) t153 t154 t155 _ A5.out).mono ?_); rintro e w' ⟨rfl, ⟨nd, rfl⟩⟩; refine ⟨_, rfl, ?_⟩))
                  go_ret
                  exact ⟨by first | rfl | (simp [errW_none, errW_some] <;> rfl) | (simp [*, errW_none, errW_some] <;> rfl), by repeat (first | (with_reducible first | exact HB.out | apply below_alloc | apply pw_below_drewN | apply below_drew1) | exact HB.out)⟩
              · rw [if_neg c29] at H
                have c29b0 : ((wrap64 ((wrap64 (t153 * (wrap64 (a1)))) + t154)) == (wrap64 (a0))) = false := beq_eq_false_iff_ne.mpr c29
                have c29b1 : ((wrap64 ((wrap64 (t153 * (wrap64 (a1)))) + t154)) != (wrap64 (a0))) = true := bne_iff_ne.mpr c29
                obtain rfl := Option.some.inj H
                go_enter Tryd.func5, Tryd.ntmps5
                go_wp2_with (first | ((with_reducible refine gate_callee (f := 11) rfl ?_); refine goesL_ (some 9) rfl rfl Tryd.func11 (by kernel_rfl) rfl #[] rfl (by (try simp only [List.map_toArray, List.map_cons, List.map_nil]); first | done | rfl | (simp only [List.length_drop, List.length_take]; rfl)) ?_; (with_reducible refine (pylonlaw01_awake.calls k  true _ ?side1 A3.out).mono ?_); (case side1 => exact Go.Proofs.YthejabcfbbmkeaaDoor.Hand.GW.on HTB.out (by repeat (first | (with_reducible first | exact HB.out | apply below_alloc | apply pw_below_drewN | apply below_drew1) | exact HB.out))); rintro e w33 ⟨rfl, hb⟩; refine ⟨_, rfl, ?_⟩; have n0_ := Aside0.mk (below_step (by repeat (first | (with_reducible first | exact HB.out | apply below_alloc | apply pw_below_drewN | apply below_drew1) | exact HB.out)) hb); clear HB; have HB := n0_; clear n0_; (try clear hb); (try clear hb2); (try clear hk); (try clear hi)) | ((with_reducible refine gate_callee (f := 16) rfl ?_); refine goesL_ (some 16) rfl rfl Tryd.func16 (by kernel_rfl) rfl #[.int .i64 (wrap64 (a0)), .int .i64 (wrap64 (a1))] rfl (by (try simp only [List.map_toArray, List.map_cons, List.map_nil]); first | done | rfl | (simp only [List.length_drop, List.length_take]; rfl)) ?_; (with_reducible refine (fix_Div.calls k (wrap64 (a0)) (wrap64 (a1)) t153 t154 t155 _ A5.out).mono ?_); rintro e w' ⟨rfl, ⟨nd, rfl⟩⟩; refine ⟨_, rfl, ?_⟩))
                go_ret
                exact ⟨by first | rfl | (simp [errW_none, errW_some] <;> rfl) | (simp [*, errW_none, errW_some] <;> rfl), by repeat (first | (with_reducible first | exact HB.out | apply below_alloc | apply pw_below_drewN | apply below_drew1) | exact HB.out)⟩
            · rw [if_neg c28] at H
              have c28b0 : (t155 == 0) = false := beq_eq_false_iff_ne.mpr c28
              have c28b1 : (t155 != 0) = true := bne_iff_ne.mpr c28
              obtain rfl := Option.some.inj H
              go_enter Tryd.func5, Tryd.ntmps5
              go_wp2_with (first | ((with_reducible refine gate_callee (f := 11) rfl ?_); refine goesL_ (some 9) rfl rfl Tryd.func11 (by kernel_rfl) rfl #[] rfl (by (try simp only [List.map_toArray, List.map_cons, List.map_nil]); first | done | rfl | (simp only [List.length_drop, List.length_take]; rfl)) ?_; (with_reducible refine (pylonlaw01_awake.calls k  true _ ?side1 A3.out).mono ?_); (case side1 => exact Go.Proofs.YthejabcfbbmkeaaDoor.Hand.GW.on HTB.out (by repeat (first | (with_reducible first | exact HB.out | apply below_alloc | apply pw_below_drewN | apply below_drew1) | exact HB.out))); rintro e w34 ⟨rfl, hb⟩; refine ⟨_, rfl, ?_⟩; have n0_ := Aside0.mk (below_step (by repeat (first | (with_reducible first | exact HB.out | apply below_alloc | apply pw_below_drewN | apply below_drew1) | exact HB.out)) hb); clear HB; have HB := n0_; clear n0_; (try clear hb); (try clear hb2); (try clear hk); (try clear hi)) | ((with_reducible refine gate_callee (f := 16) rfl ?_); refine goesL_ (some 16) rfl rfl Tryd.func16 (by kernel_rfl) rfl #[.int .i64 (wrap64 (a0)), .int .i64 (wrap64 (a1))] rfl (by (try simp only [List.map_toArray, List.map_cons, List.map_nil]); first | done | rfl | (simp only [List.length_drop, List.length_take]; rfl)) ?_; (with_reducible refine (fix_Div.calls k (wrap64 (a0)) (wrap64 (a1)) t153 t154 t155 _ A5.out).mono ?_); rintro e w' ⟨rfl, ⟨nd, rfl⟩⟩; refine ⟨_, rfl, ?_⟩))
              go_ret
              exact ⟨by first | rfl | (simp [errW_none, errW_some] <;> rfl) | (simp [*, errW_none, errW_some] <;> rfl), by repeat (first | (with_reducible first | exact HB.out | apply below_alloc | apply pw_below_drewN | apply below_drew1) | exact HB.out)⟩
  · replace c4 := Bool.eq_false_iff.mpr c4
    subst c4
    have H1 : (some false) = some r := by rw [if_neg (show ¬ (false = true) by decide)] at H; exact H
    clear H
    have H := H1
    clear H1
    obtain rfl := Option.some.inj H
    go_enter Tryd.func5, Tryd.ntmps5
    go_wp2_with (first | ((with_reducible refine gate_callee (f := 11) rfl ?_); refine goesL_ (some 9) rfl rfl Tryd.func11 (by kernel_rfl) rfl #[] rfl (by (try simp only [List.map_toArray, List.map_cons, List.map_nil]); first | done | rfl | (simp only [List.length_drop, List.length_take]; rfl)) ?_; (with_reducible refine (pylonlaw01_awake.calls k  false _ ?side1 A3.out).mono ?_); (case side1 => exact Go.Proofs.YthejabcfbbmkeaaDoor.Hand.GW.on HTB.out (by repeat (first | (with_reducible first | exact HB.out | apply below_alloc | apply pw_below_drewN | apply below_drew1) | exact HB.out))); rintro e w35 ⟨rfl, hb⟩; refine ⟨_, rfl, ?_⟩; have n0_ := Aside0.mk (below_step (by repeat (first | (with_reducible first | exact HB.out | apply below_alloc | apply pw_below_drewN | apply below_drew1) | exact HB.out)) hb); clear HB; have HB := n0_; clear n0_; (try clear hb); (try clear hb2); (try clear hk); (try clear hi)))
    go_ret
    exact ⟨by first | rfl | (simp [errW_none, errW_some] <;> rfl) | (simp [*, errW_none, errW_some] <;> rfl), by repeat (first | (with_reducible first | exact HB.out | apply below_alloc | apply pw_below_drewN | apply below_drew1) | exact HB.out)⟩
/-- THE ONE PURE STATEMENT of pylonlaw01_FixDivs. -/
def pylonlaw01_FixDivs.Pure : Prop := ∀ (a0 : Int) (a1 : Int), ((Lit.int .i32 a0).wf = true) → ((Lit.int .i32 a1).wf = true) → ∃ k, pylonlaw01_FixDivs.f k a0 a1 = some true

end Go.Proofs.YthejabcfbbmkeaaDoor.PF
