-- Written by a program of this session for this claim (wip/print2.sh). Lean checks it.
import Derived.Test.YthejabcfbbmkeaaDoorPGx0
import Derived.Test.YthejabcfbbmkeaaDoorPGx1
import Derived.Test.YthejabcfbbmkeaaDoorPGx3
import Derived.Test.YthejabcfbbmkeaaDoorPGx8
import Derived.Test.YthejabcfbbmkeaaDoorPGx12
import Derived.Test.YthejabcfbbmkeaaDoorHand
namespace Go.Proofs.YthejabcfbbmkeaaDoor.PG
open Go.Proofs.YthejabcfbbmkeaaDoorW.PrintWords
attribute [local go_sem high] fx_eql fx_neq fx_lss fx_leq fx_gtr fx_geq fx_add fx_sub fx_mul fx_neg fx_toint cxx_add cxx_sub cxx_mul cxx_eql cxx_neq cxx_pick st_float st_complex
open Go.RowKit Go.Proofs.YthejabcfbbmkeaaDoorW.PrintWords Go.Proofs.YthejabcfbbmkeaaDoorW.PrintLast Go.Proofs.YthejabcfbbmkeaaDoorW.PrintMore
attribute [local go_sem] max2_int min2_int max_two min_two max_three min_three max_four min_four   -- for this text's walks alone
set_option linter.unusedVariables false
set_option linter.unusedSimpArgs false

attribute [local go_sem high] eqA45
/-! ### pylonlaw01_FixAll: function 10 -/
def pylonlaw01_FixAll.l0 : Nat → List (S48) → Int → Int → Option (Bool)
  | 0, _, _, _ => none
  | k + 1, x0, x7, x8 => if x8 < x7 then (if 0 ≤ x8 then (if x8 < (x0.length : Int) then ((pylonlaw01_plays.f k ((rd_T48 x0 x8).f0) ((rd_T48 x0 x8).f1) ((rd_T48 x0 x8).f2) ((rd_T48 x0 x8).f3) ((rd_T48 x0 x8).f4) ((rd_T48 x0 x8).f5)).bind fun bt328 => ((pylonlaw01_wants.f k ((rd_T48 x0 x8).f0) ((rd_T48 x0 x8).f1) ((rd_T48 x0 x8).f2) ((rd_T48 x0 x8).f3) ((rd_T48 x0 x8).f4) ((rd_T48 x0 x8).f5)).bind fun bt333 => (if (!(bt328.1 == bt333.1) || (!(bt328.2.1 == bt333.2.1) || (!(bt328.2.2.1.toList == bt333.2.2.1.toList) || (!(bt328.2.2.2 == bt333.2.2.2))))) = true then (some false) else (pylonlaw01_FixAll.l0 k x0 x7 (wrap64 (x8 + 1)))))) else (none)) else (none)) else (some true)
def pylonlaw01_FixAll.f (k : Nat) (l0 : List (S48)) : Option (Bool) := (pylonlaw01_awake.f k).bind fun t326 => (if t326 = true then (pylonlaw01_FixAll.l0 k l0 (l0.length : Int) 0) else (some false))
theorem pylonlaw01_FixAll.mono_l : ∀ k, (∀ y0 y1 y2, LeO (pylonlaw01_FixAll.l0 k y0 y1 y2) (pylonlaw01_FixAll.l0 (k + 1) y0 y1 y2))
  | 0 => fun _ _ _ r h => by simp [pylonlaw01_FixAll.l0] at h
  | k + 1 => by
    have ih0 := pylonlaw01_FixAll.mono_l k
    · intro y0 y1 y2
      unfold pylonlaw01_FixAll.l0
      repeat' first
      | (with_reducible exact ih0 _ _ _)
      | (with_reducible exact pylonlaw01_awake.mono _)
      | (with_reducible exact pylonlaw01_plays.mono _ _ _ _ _ _ _)
      | (with_reducible exact pylonlaw01_wants.mono _ _ _ _ _ _ _)
      | (with_reducible exact LeO.refl _)
      | (with_reducible exact LeO.none _)
      | (with_reducible refine LeO.ite ?_ ?_)
      | (with_reducible refine LeO.bind ?_ (fun _ => ?_))
      | exact ih0 _ _ _
      | exact pylonlaw01_awake.mono _
      | exact pylonlaw01_plays.mono _ _ _ _ _ _ _
      | exact pylonlaw01_wants.mono _ _ _ _ _ _ _
      | exact LeO.none _
      | refine LeO.ite ?_ ?_
      | refine LeO.bind ?_ (fun _ => ?_)
theorem pylonlaw01_FixAll.mono : ∀ a0 k, LeO (pylonlaw01_FixAll.f k a0) (pylonlaw01_FixAll.f (k + 1) a0) := by
  intro a0 k
  have ih0 := pylonlaw01_FixAll.mono_l k
  unfold pylonlaw01_FixAll.f
  repeat' first
      | (with_reducible exact ih0 _ _ _)
      | (with_reducible exact pylonlaw01_awake.mono _)
      | (with_reducible exact pylonlaw01_plays.mono _ _ _ _ _ _ _)
      | (with_reducible exact pylonlaw01_wants.mono _ _ _ _ _ _ _)
      | (with_reducible exact LeO.refl _)
      | (with_reducible exact LeO.none _)
      | (with_reducible refine LeO.ite ?_ ?_)
      | (with_reducible refine LeO.bind ?_ (fun _ => ?_))
      | exact ih0 _ _ _
      | exact pylonlaw01_awake.mono _
      | exact pylonlaw01_plays.mono _ _ _ _ _ _ _
      | exact pylonlaw01_wants.mono _ _ _ _ _ _ _
      | exact LeO.none _
      | refine LeO.ite ?_ ?_
      | refine LeO.bind ?_ (fun _ => ?_)
def pylonlaw01_FixAll.T6 : Bool × List (List Nat × List Nat) := (true, [([], []), ([], []), ([0, 1], [0, 1]), ([2], [2]), ([3], [3]), ([], []), ([], []), ([5, 6], [5, 6]), ([7], [7]), ([8, 4], [8]), ([4, 9], [4, 9])])
def pylonlaw01_FixAll.B6 : List Nat := [0, 0, 3, 7, 15, 0, 0, 96, 224, 511, 1023]
theorem pylonlaw01_FixAll.tab6 : rtab .any (opsOf Tryd.f10 6) = pylonlaw01_FixAll.T6 := by kernel_rfl
theorem pylonlaw01_FixAll.bits6 : waitsOk pylonlaw01_FixAll.T6.2 pylonlaw01_FixAll.B6 = true := by kernel_rfl
set_option maxHeartbeats 8000000 in
set_option maxRecDepth 100000 in
theorem pylonlaw01_FixAll.calls (k : Nat) (A0 : Option Addr) (c0 : Nat) (l0 : List (S48)) (r : Bool) (w : World) (hT_ : Go.Proofs.YthejabcfbbmkeaaDoor.Hand.T2 w) (hr0 : Kd.C k48 w A0 l0.length l0) (hc0 : l0.length ≤ c0) (h : pylonlaw01_FixAll.f k l0 = some r) :
    Calls Tryd.prog 10 #[.slice A0 l0.length c0] w fun e w' => e = .returned (.bool r) ∧ Below w.heap.size w w' := by
  have hu48 := Tryd.underlying48
  have HTB := Aside0.mk hT_
  clear hT_
  have HR0 := Aside0.mk hr0
  have HC0 := Aside0.mk hc0
  clear hr0 hc0
  have HB := Aside0.mk (Below.refl w.heap.size w)
  have H : ((pylonlaw01_awake.f k).bind fun t326 => (if t326 = true then (pylonlaw01_FixAll.l0 k l0 (l0.length : Int) 0) else (some false))) = some r := h
  clear h
  replace H := Option.bind_eq_some_iff.mp H
  obtain ⟨t326, A20, H⟩ := H
  replace H : (if t326 = true then (pylonlaw01_FixAll.l0 k l0 (l0.length : Int) 0) else (some false)) = some r := H
  have A2 := Aside0.mk A20
  clear A20
  by_cases c3 : t326 = true
  · subst c3
    have H1 : (pylonlaw01_FixAll.l0 k l0 (l0.length : Int) 0) = some r := by rw [if_pos rfl] at H; exact H
    clear H
    have H := H1
    clear H1
    have H' := Aside0.mk H
    clear H
    go_enter Tryd.func10, Tryd.ntmps10
    go_wp2_with (first | ((with_reducible refine gate_callee (f := 11) rfl ?_); refine goesL_ (some 4) rfl rfl Tryd.func11 (by kernel_rfl) rfl #[] rfl (by (try simp only [List.map_toArray, List.map_cons, List.map_nil]); first | done | rfl | (simp only [List.length_drop, List.length_take]; rfl)) ?_; (with_reducible refine (pylonlaw01_awake.calls k  true _ ?side1 A2.out).mono ?_); (case side1 => exact Go.Proofs.YthejabcfbbmkeaaDoor.Hand.GW.on HTB.out (by repeat (first | (with_reducible first | exact HB.out | apply below_alloc | apply pw_below_drewN | apply below_drew1) | exact HB.out))); rintro e w4 ⟨rfl, hb⟩; refine ⟨_, rfl, ?_⟩; have n0_ := Aside0.mk (below_step (by repeat (first | (with_reducible first | exact HB.out | apply below_alloc | apply pw_below_drewN | apply below_drew1) | exact HB.out)) hb); clear HB; have HB := n0_; clear n0_; (try clear hb); (try clear hb2); (try clear hk); (try clear hi)))
    go_loopg [8] k (fun kq v8 w' => ∃ (x8_1 : Int), v8 = .int .i64 x8_1 ∧ Aside0 (pylonlaw01_FixAll.l0 kq l0 (l0.length : Int) x8_1 = some r) ∧ Aside0 (kq ≤ k) ∧ Aside0 (Below w.heap.size w w'))
    case atStart => exact ⟨(0), (by first | rfl | (simp; done) | (simp [*]; done)), H', ⟨Nat.le_refl _⟩, ⟨by repeat (first | (with_reducible first | exact HB.out | apply below_alloc | apply pw_below_drewN | apply below_drew1) | exact HB.out)⟩⟩
    case round =>
      clear H'
      try clear c1
      try clear p2
      try clear c3
      obtain ⟨x8_1, rfl, HA, HK1, HB⟩ := hrel
      cases gk with
      | zero => exact absurd HA.out (by simp [pylonlaw01_FixAll.l0])
      | succ k1 =>
        have H := HA.out
        clear HA
        simp only [pylonlaw01_FixAll.l0] at H
        by_cases c5 : x8_1 < (l0.length : Int)
        · rw [if_pos c5] at H
          have c5b0 : decide (x8_1 < (l0.length : Int)) = true := decide_eq_true c5
          clear c5
          by_cases c6 : 0 ≤ x8_1
          · rw [if_pos c6] at H
            have c6b0 : decide (0 ≤ x8_1) = true := decide_eq_true c6
            clear c6
            by_cases c7 : x8_1 < (l0.length : Int)
            · rw [if_pos c7] at H
              have c7b0 : decide (x8_1 < (l0.length : Int)) = true := decide_eq_true c7
              clear c7
              replace H := Option.bind_eq_some_iff.mp H
              obtain ⟨⟨t328, t329, t330, t331⟩, A80, H⟩ := H
              replace H : ((pylonlaw01_wants.f k1 ((rd_T48 l0 x8_1).f0) ((rd_T48 l0 x8_1).f1) ((rd_T48 l0 x8_1).f2) ((rd_T48 l0 x8_1).f3) ((rd_T48 l0 x8_1).f4) ((rd_T48 l0 x8_1).f5)).bind fun bt333 => (if (!(t328 == bt333.1) || (!(t329 == bt333.2.1) || (!(t330.toList == bt333.2.2.1.toList) || (!(t331 == bt333.2.2.2))))) = true then (some false) else (pylonlaw01_FixAll.l0 k1 l0 (l0.length : Int) (wrap64 (x8_1 + 1))))) = some r := H
              have A8 := Aside0.mk A80
              clear A80
              replace H := Option.bind_eq_some_iff.mp H
              obtain ⟨⟨t333, t334, t335, t336⟩, A90, H⟩ := H
              replace H : (if (!(t328 == t333) || (!(t329 == t334) || (!(t330.toList == t335.toList) || (!(t331 == t336))))) = true then (some false) else (pylonlaw01_FixAll.l0 k1 l0 (l0.length : Int) (wrap64 (x8_1 + 1)))) = some r := H
              have A9 := Aside0.mk A90
              clear A90
              by_cases c10 : (!(t328 == t333) || (!(t329 == t334) || (!(t330.toList == t335.toList) || (!(t331 == t336))))) = true
              · rw [if_pos c10] at H
                have c10b0 : (!(t328 == t333) || (!(t329 == t334) || (!(t330.toList == t335.toList) || (!(t331 == t336))))) = true := c10
                clear c10
                obtain rfl := Option.some.inj H
                try go_wp2
                have n0_ := Aside0.mk (below_drew1 HB.out)
                clear HB
                have HB := n0_
                clear n0_
                have p327 : 0 ≤ (x8_1 : Int) := of_decide_eq_true (by first | (with_reducible assumption) | assumption)
                have q327 : x8_1 < (l0.length : Int) := of_decide_eq_true (by first | (with_reducible assumption) | assumption)
                obtain ⟨ad327, A327_5, c327_5, e327, hx327_0, hx327_1, hx327_2, hx327_3, hx327_4, hx327_5, hl327_5, hi327_5⟩ := at_T48 HR0.out x8_1 p327 q327
                have hw327_5 := hx327_5
                have hw327_4 := hx327_4
                have hw327_3 := hx327_3
                have hw327_2 := hx327_2
                have hw327_1 := hx327_1
                have hw327_0 := hx327_0
                cases e327
                replace hx327_0 := (HB.out.cell (World.block_lt_of_cell? w _ hx327_0)).trans hx327_0
                replace hx327_1 := (HB.out.cell (World.block_lt_of_cell? w _ hx327_1)).trans hx327_1
                replace hx327_2 := (HB.out.cell (World.block_lt_of_cell? w _ hx327_2)).trans hx327_2
                replace hx327_3 := (HB.out.cell (World.block_lt_of_cell? w _ hx327_3)).trans hx327_3
                replace hx327_4 := (HB.out.cell (World.block_lt_of_cell? w _ hx327_4)).trans hx327_4
                replace hx327_5 := (HB.out.cell (World.block_lt_of_cell? w _ hx327_5)).trans hx327_5
                have HR327_5 := Aside0.mk hi327_5
                have HC327_5 := Aside0.mk hl327_5
                clear hi327_5 hl327_5
                replace p327 := eq_true p327
                replace q327 := eq_true q327
                have p332 : 0 ≤ (x8_1 : Int) := of_decide_eq_true (by first | (with_reducible assumption) | assumption)
                have q332 : x8_1 < (l0.length : Int) := of_decide_eq_true (by first | (with_reducible assumption) | assumption)
                obtain ⟨ad332, A332_5, c332_5, e332, hx332_0, hx332_1, hx332_2, hx332_3, hx332_4, hx332_5, hl332_5, hi332_5⟩ := at_T48 HR0.out x8_1 p332 q332
                have hw332_5 := hx332_5
                have hw332_4 := hx332_4
                have hw332_3 := hx332_3
                have hw332_2 := hx332_2
                have hw332_1 := hx332_1
                have hw332_0 := hx332_0
                obtain rfl : ad327 = ad332 := (by injection e332)
                replace hx332_0 := (HB.out.cell (World.block_lt_of_cell? w _ hx332_0)).trans hx332_0
                replace hx332_1 := (HB.out.cell (World.block_lt_of_cell? w _ hx332_1)).trans hx332_1
                replace hx332_2 := (HB.out.cell (World.block_lt_of_cell? w _ hx332_2)).trans hx332_2
                replace hx332_3 := (HB.out.cell (World.block_lt_of_cell? w _ hx332_3)).trans hx332_3
                replace hx332_4 := (HB.out.cell (World.block_lt_of_cell? w _ hx332_4)).trans hx332_4
                replace hx332_5 := (HB.out.cell (World.block_lt_of_cell? w _ hx332_5)).trans hx332_5
                have HR332_5 := Aside0.mk hi332_5
                have HC332_5 := Aside0.mk hl332_5
                clear hi332_5 hl332_5
                replace p332 := eq_true p332
                replace q332 := eq_true q332
                have ea_ := Option.some.inj (hx327_5.symm.trans hx332_5)
                injection ea_ with ea_ en_ ec_
                subst ea_
                subst ec_
                clear en_
                refine start_ (n := 11) (S := fun w' => w'.cell? (ad327.add ((x8_1).toNat * 6)) = some (.int .i64 ((rd_T48 l0 x8_1).f0)) ∧ w'.cell? ⟨(ad327.add ((x8_1).toNat * 6)).block, (ad327.add ((x8_1).toNat * 6)).off + 1, none⟩ = some (.int .i64 ((rd_T48 l0 x8_1).f1)) ∧ w'.cell? ⟨(ad327.add ((x8_1).toNat * 6)).block, (ad327.add ((x8_1).toNat * 6)).off + 2, none⟩ = some (.int .i64 ((rd_T48 l0 x8_1).f2)) ∧ w'.cell? ⟨(ad327.add ((x8_1).toNat * 6)).block, (ad327.add ((x8_1).toNat * 6)).off + 3, none⟩ = some (.int .i64 ((rd_T48 l0 x8_1).f3)) ∧ w'.cell? ⟨(ad327.add ((x8_1).toNat * 6)).block, (ad327.add ((x8_1).toNat * 6)).off + 4, none⟩ = some (.string ((rd_T48 l0 x8_1).f4)) ∧ w'.cell? ⟨(ad327.add ((x8_1).toNat * 6)).block, (ad327.add ((x8_1).toNat * 6)).off + 5, none⟩ = some (.slice A327_5 ((rd_T48 l0 x8_1).f5).length c327_5) ∧ w'.cell? (ad327.add ((x8_1).toNat * 6)) = some (.int .i64 ((rd_T48 l0 x8_1).f0)) ∧ w'.cell? ⟨(ad327.add ((x8_1).toNat * 6)).block, (ad327.add ((x8_1).toNat * 6)).off + 1, none⟩ = some (.int .i64 ((rd_T48 l0 x8_1).f1)) ∧ w'.cell? ⟨(ad327.add ((x8_1).toNat * 6)).block, (ad327.add ((x8_1).toNat * 6)).off + 2, none⟩ = some (.int .i64 ((rd_T48 l0 x8_1).f2)) ∧ w'.cell? ⟨(ad327.add ((x8_1).toNat * 6)).block, (ad327.add ((x8_1).toNat * 6)).off + 3, none⟩ = some (.int .i64 ((rd_T48 l0 x8_1).f3)) ∧ w'.cell? ⟨(ad327.add ((x8_1).toNat * 6)).block, (ad327.add ((x8_1).toNat * 6)).off + 4, none⟩ = some (.string ((rd_T48 l0 x8_1).f4)) ∧ w'.cell? ⟨(ad327.add ((x8_1).toNat * 6)).block, (ad327.add ((x8_1).toNat * 6)).off + 5, none⟩ = some (.slice A327_5 ((rd_T48 l0 x8_1).f5).length c327_5)) (ds := []) #[false, false, false, false, false, false, false, false, false, false, false] (by kernel_rfl) rfl rfl ⟨((HB.out.cell (World.block_lt_of_cell? w _ hw327_0)).trans hw327_0), ((HB.out.cell (World.block_lt_of_cell? w _ hw327_1)).trans hw327_1), ((HB.out.cell (World.block_lt_of_cell? w _ hw327_2)).trans hw327_2), ((HB.out.cell (World.block_lt_of_cell? w _ hw327_3)).trans hw327_3), ((HB.out.cell (World.block_lt_of_cell? w _ hw327_4)).trans hw327_4), ((HB.out.cell (World.block_lt_of_cell? w _ hw327_5)).trans hw327_5), ((HB.out.cell (World.block_lt_of_cell? w _ hw332_0)).trans hw332_0), ((HB.out.cell (World.block_lt_of_cell? w _ hw332_1)).trans hw332_1), ((HB.out.cell (World.block_lt_of_cell? w _ hw332_2)).trans hw332_2), ((HB.out.cell (World.block_lt_of_cell? w _ hw332_3)).trans hw332_3), ((HB.out.cell (World.block_lt_of_cell? w _ hw332_4)).trans hw332_4), ((HB.out.cell (World.block_lt_of_cell? w _ hw332_5)).trans hw332_5)⟩ (fun hHeld => ?_); refine with_tabW pylonlaw01_FixAll.tab6 pylonlaw01_FixAll.bits6 (fun HT_ HW_ => ?_)
                generalize wr.drew = w11 at HB HR327_5 HR332_5 hx327_0 hx327_1 hx327_2 hx327_3 hx327_4 hx327_5 hx332_0 hx332_1 hx332_2 hx332_3 hx332_4 hx332_5 hHeld ⊢
                refine pure_ (i := 0) (N := some 11) (v := ?_) (a' := ?_) #[true, false, false, false, false, false, false, false, false, false, false] rfl rfl (any_of HT_.out (by kernel_rfl)) (fun _ _ _ h => h) (Or.inl ⟨by rfl, ?_⟩) ?_ ?_
                rotate_left
                · intro w'
                  go_simp
                  with_reducible rfl
                rotate_left
                · simp only [Act.put, List.setIfInBounds_toArray, List.set_cons_zero, List.set_cons_succ, i64_w, i32_w]
                  rfl
                refine pure_ (i := 1) (N := some 12) (v := ?_) (a' := ?_) #[true, true, false, false, false, false, false, false, false, false, false] rfl rfl (any_of HT_.out (by kernel_rfl)) (fun _ _ _ h => h) (Or.inl ⟨by rfl, ?_⟩) ?_ ?_
                rotate_left
                · intro w'
                  go_simp
                  with_reducible rfl
                rotate_left
                · simp only [Act.put, List.setIfInBounds_toArray, List.set_cons_zero, List.set_cons_succ, i64_w, i32_w]
                  rfl
                refine pure_ (i := 2) (N := some 13) (v := ?_) (a' := ?_) #[true, true, true, false, false, false, false, false, false, false, false] rfl rfl (any_of HT_.out (by kernel_rfl)) (fun _ _ _ h => h) (Or.inl ⟨by rfl, ?_⟩) ?_ ?_
                rotate_left
                · intro w'
                  go_simp
                  with_reducible rfl
                rotate_left
                · simp only [Act.put, List.setIfInBounds_toArray, List.set_cons_zero, List.set_cons_succ, i64_w, i32_w]
                  rfl
                refine pure_ (i := 5) (N := some 16) (v := ?_) (a' := ?_) #[true, true, true, false, false, true, false, false, false, false, false] rfl rfl (any_of HT_.out (by kernel_rfl)) (fun _ _ _ h => h) (Or.inl ⟨by rfl, ?_⟩) ?_ ?_
                rotate_left
                · intro w'
                  go_simp
                  with_reducible rfl
                rotate_left
                · simp only [Act.put, List.setIfInBounds_toArray, List.set_cons_zero, List.set_cons_succ, i64_w, i32_w]
                  rfl
                refine pure_ (i := 6) (N := some 17) (v := ?_) (a' := ?_) #[true, true, true, false, false, true, true, false, false, false, false] rfl rfl (any_of HT_.out (by kernel_rfl)) (fun _ _ _ h => h) (Or.inl ⟨by rfl, ?_⟩) ?_ ?_
                rotate_left
                · intro w'
                  go_simp
                  with_reducible rfl
                rotate_left
                · simp only [Act.put, List.setIfInBounds_toArray, List.set_cons_zero, List.set_cons_succ, i64_w, i32_w]
                  rfl
                refine pure_ (i := 7) (N := some 18) (v := ?_) (a' := ?_) #[true, true, true, false, false, true, true, true, false, false, false] rfl rfl (any_of HT_.out (by kernel_rfl)) (fun _ _ _ h => h) (Or.inl ⟨by rfl, ?_⟩) ?_ ?_
                rotate_left
                · intro w'
                  go_simp
                  with_reducible rfl
                rotate_left
                · simp only [Act.put, List.setIfInBounds_toArray, List.set_cons_zero, List.set_cons_succ, i64_w, i32_w]
                  rfl
                refine take_ (i := 3) (N := some 14) (v := ?_) (a' := ?_) #[true, true, true, true, false, true, true, true, false, false, false] rfl rfl (take_ofW HT_.out HW_.out (by kernel_rfl)) (fun _ _ _ h => h) (Or.inl ⟨by rfl, ?_⟩) hHeld ?_ ?_
                rotate_left
                · rintro w' ⟨s0, s1, s2, s3, s4, s5, s6, s7, s8, s9, s10, s11⟩
                  go_simp
                  with_reducible rfl
                rotate_left
                · simp only [Act.put, List.setIfInBounds_toArray, List.set_cons_zero, List.set_cons_succ, i64_w, i32_w]
                  rfl
                refine take_ (i := 8) (N := some 19) (v := ?_) (a' := ?_) #[true, true, true, true, false, true, true, true, true, false, false] rfl rfl (take_ofW HT_.out HW_.out (by kernel_rfl)) (fun _ _ _ h => h) (Or.inl ⟨by rfl, ?_⟩) hHeld ?_ ?_
                rotate_left
                · rintro w' ⟨s0, s1, s2, s3, s4, s5, s6, s7, s8, s9, s10, s11⟩
                  go_simp
                  with_reducible rfl
                rotate_left
                · simp only [Act.put, List.setIfInBounds_toArray, List.set_cons_zero, List.set_cons_succ, i64_w, i32_w]
                  rfl
                refine one_ (i := 4) (N := some 15) #[true, true, true, true, true, true, true, true, true, false, false] rfl rfl (one_of HT_.out (by kernel_rfl)) (by decide) (fun K hK => ?_)
                refine goes_ Tryd.func24 (by kernel_rfl) rfl #[.agg #[.int .i64 ((rd_T48 l0 x8_1).f0), .int .i64 ((rd_T48 l0 x8_1).f1), .int .i64 ((rd_T48 l0 x8_1).f2), .int .i64 ((rd_T48 l0 x8_1).f3), .string ((rd_T48 l0 x8_1).f4), .slice A327_5 ((rd_T48 l0 x8_1).f5).length c327_5]] (by rfl) rfl rfl (by (try simp only [List.map_toArray, List.map_cons, List.map_nil]); first | done | rfl | (simp only [List.length_drop, List.length_take]; rfl)) ?_
                with_reducible refine (pylonlaw01_plays.calls k1 ((rd_T48 l0 x8_1).f0) ((rd_T48 l0 x8_1).f1) ((rd_T48 l0 x8_1).f2) ((rd_T48 l0 x8_1).f3) ((rd_T48 l0 x8_1).f4) _ _ ((rd_T48 l0 x8_1).f5) t328 t329 t330 t331 _ ?side3 ?side1 ?side2 A8.out).mono ?_
                (case side1 => repeat (first | exact (Kd.C_below HR327_5.out HB.out) | (with_reducible refine Kd.C_alloc ?_ _) | (with_reducible refine Kd.C_drewN ?_ _) | (with_reducible refine Kd.C_drew ?_)))
                (case side2 => exact HC327_5.out)
                (case side3 => exact Go.Proofs.YthejabcfbbmkeaaDoor.Hand.GW.on HTB.out (by repeat (first | (with_reducible first | exact HB.out | apply below_alloc | apply pw_below_drewN | apply below_drew1) | exact HB.out)))
                rintro e w12 ⟨rfl, hb⟩
                refine ⟨_, rfl, ?_⟩
                have n0_ := Aside0.mk (below_step (by repeat (first | (with_reducible first | exact HB.out | apply below_alloc | apply pw_below_drewN | apply below_drew1) | exact HB.out)) hb)
                clear HB
                have HB := n0_
                clear n0_
                (try clear hb)
                (try clear hb2)
                (try clear hk)
                (try clear hi)
                refine hK.out _ _ ⟨((HB.out.cell (World.block_lt_of_cell? w _ hw327_0)).trans hw327_0), ((HB.out.cell (World.block_lt_of_cell? w _ hw327_1)).trans hw327_1), ((HB.out.cell (World.block_lt_of_cell? w _ hw327_2)).trans hw327_2), ((HB.out.cell (World.block_lt_of_cell? w _ hw327_3)).trans hw327_3), ((HB.out.cell (World.block_lt_of_cell? w _ hw327_4)).trans hw327_4), ((HB.out.cell (World.block_lt_of_cell? w _ hw327_5)).trans hw327_5), ((HB.out.cell (World.block_lt_of_cell? w _ hw332_0)).trans hw332_0), ((HB.out.cell (World.block_lt_of_cell? w _ hw332_1)).trans hw332_1), ((HB.out.cell (World.block_lt_of_cell? w _ hw332_2)).trans hw332_2), ((HB.out.cell (World.block_lt_of_cell? w _ hw332_3)).trans hw332_3), ((HB.out.cell (World.block_lt_of_cell? w _ hw332_4)).trans hw332_4), ((HB.out.cell (World.block_lt_of_cell? w _ hw332_5)).trans hw332_5)⟩ (fun hHeld => ?_)
                clear hK K
                refine norm_ (a' := ?_) ?_ ?_
                rotate_left
                · show Act.put _ (some 15) _ = _
                  simp only [Act.put, List.setIfInBounds_toArray, List.set_cons_zero, List.set_cons_succ, i64_w, i32_w]
                  rfl
                refine one_ (i := 9) (N := some 20) #[true, true, true, true, true, true, true, true, true, true, false] rfl rfl (one_of HT_.out (by kernel_rfl)) (by decide) (fun K hK => ?_)
                refine goes_ Tryd.func25 (by kernel_rfl) rfl #[.agg #[.int .i64 ((rd_T48 l0 x8_1).f0), .int .i64 ((rd_T48 l0 x8_1).f1), .int .i64 ((rd_T48 l0 x8_1).f2), .int .i64 ((rd_T48 l0 x8_1).f3), .string ((rd_T48 l0 x8_1).f4), .slice A327_5 ((rd_T48 l0 x8_1).f5).length c327_5]] (by rfl) rfl rfl (by (try simp only [List.map_toArray, List.map_cons, List.map_nil]); first | done | rfl | (simp only [List.length_drop, List.length_take]; rfl)) ?_
                with_reducible refine (pylonlaw01_wants.calls k1 ((rd_T48 l0 x8_1).f0) ((rd_T48 l0 x8_1).f1) ((rd_T48 l0 x8_1).f2) ((rd_T48 l0 x8_1).f3) ((rd_T48 l0 x8_1).f4) _ _ ((rd_T48 l0 x8_1).f5) t333 t334 t335 t336 _ ?side1 ?side2 A9.out).mono ?_
                (case side1 => repeat (first | exact (Kd.C_below HR332_5.out HB.out) | (with_reducible refine Kd.C_alloc ?_ _) | (with_reducible refine Kd.C_drewN ?_ _) | (with_reducible refine Kd.C_drew ?_)))
                (case side2 => exact HC332_5.out)
                rintro e w13 ⟨rfl, hb⟩
                refine ⟨_, rfl, ?_⟩
                have n0_ := Aside0.mk (below_step (by repeat (first | (with_reducible first | exact HB.out | apply below_alloc | apply pw_below_drewN | apply below_drew1) | exact HB.out)) hb)
                clear HB
                have HB := n0_
                clear n0_
                (try clear hb)
                (try clear hb2)
                (try clear hk)
                (try clear hi)
                refine hK.out _ _ ⟨((HB.out.cell (World.block_lt_of_cell? w _ hw327_0)).trans hw327_0), ((HB.out.cell (World.block_lt_of_cell? w _ hw327_1)).trans hw327_1), ((HB.out.cell (World.block_lt_of_cell? w _ hw327_2)).trans hw327_2), ((HB.out.cell (World.block_lt_of_cell? w _ hw327_3)).trans hw327_3), ((HB.out.cell (World.block_lt_of_cell? w _ hw327_4)).trans hw327_4), ((HB.out.cell (World.block_lt_of_cell? w _ hw327_5)).trans hw327_5), ((HB.out.cell (World.block_lt_of_cell? w _ hw332_0)).trans hw332_0), ((HB.out.cell (World.block_lt_of_cell? w _ hw332_1)).trans hw332_1), ((HB.out.cell (World.block_lt_of_cell? w _ hw332_2)).trans hw332_2), ((HB.out.cell (World.block_lt_of_cell? w _ hw332_3)).trans hw332_3), ((HB.out.cell (World.block_lt_of_cell? w _ hw332_4)).trans hw332_4), ((HB.out.cell (World.block_lt_of_cell? w _ hw332_5)).trans hw332_5)⟩ (fun hHeld => ?_)
                clear hK K
                refine norm_ (a' := ?_) ?_ ?_
                rotate_left
                · show Act.put _ (some 20) _ = _
                  simp only [Act.put, List.setIfInBounds_toArray, List.set_cons_zero, List.set_cons_succ, i64_w, i32_w]
                  rfl
                refine pure_ (i := 10) (N := some 21) (v := ?_) (a' := ?_) #[true, true, true, true, true, true, true, true, true, true, true] rfl rfl (any_of HT_.out (by kernel_rfl)) (fun _ _ _ h => h) (Or.inl ⟨by rfl, ?_⟩) ?_ ?_
                rotate_left
                · intro w'
                  go_simp
                  with_reducible rfl
                rotate_left
                · simp only [Act.put, List.setIfInBounds_toArray, List.set_cons_zero, List.set_cons_succ, i64_w, i32_w]
                  rfl
                refine done_ (done_of HT_.out (by kernel_rfl)) ?_
                try go_wp2
                go_ret
                exact ⟨by first | rfl | (simp [errW_none, errW_some] <;> rfl) | (simp [*, errW_none, errW_some] <;> rfl), by repeat (first | (with_reducible first | exact HB.out | apply below_alloc | apply pw_below_drewN | apply below_drew1) | exact HB.out)⟩
              · rw [if_neg c10] at H
                have c10b0 : (!(t328 == t333) || (!(t329 == t334) || (!(t330.toList == t335.toList) || (!(t331 == t336))))) = false := Bool.eq_false_iff.mpr c10
                clear c10
                have H' := Aside0.mk H
                clear H
                try go_wp2
                have n0_ := Aside0.mk (below_drew1 HB.out)
                clear HB
                have HB := n0_
                clear n0_
                have p327 : 0 ≤ (x8_1 : Int) := of_decide_eq_true (by first | (with_reducible assumption) | assumption)
                have q327 : x8_1 < (l0.length : Int) := of_decide_eq_true (by first | (with_reducible assumption) | assumption)
                obtain ⟨ad327, A327_5, c327_5, e327, hx327_0, hx327_1, hx327_2, hx327_3, hx327_4, hx327_5, hl327_5, hi327_5⟩ := at_T48 HR0.out x8_1 p327 q327
                have hw327_5 := hx327_5
                have hw327_4 := hx327_4
                have hw327_3 := hx327_3
                have hw327_2 := hx327_2
                have hw327_1 := hx327_1
                have hw327_0 := hx327_0
                cases e327
                replace hx327_0 := (HB.out.cell (World.block_lt_of_cell? w _ hx327_0)).trans hx327_0
                replace hx327_1 := (HB.out.cell (World.block_lt_of_cell? w _ hx327_1)).trans hx327_1
                replace hx327_2 := (HB.out.cell (World.block_lt_of_cell? w _ hx327_2)).trans hx327_2
                replace hx327_3 := (HB.out.cell (World.block_lt_of_cell? w _ hx327_3)).trans hx327_3
                replace hx327_4 := (HB.out.cell (World.block_lt_of_cell? w _ hx327_4)).trans hx327_4
                replace hx327_5 := (HB.out.cell (World.block_lt_of_cell? w _ hx327_5)).trans hx327_5
                have HR327_5 := Aside0.mk hi327_5
                have HC327_5 := Aside0.mk hl327_5
                clear hi327_5 hl327_5
                replace p327 := eq_true p327
                replace q327 := eq_true q327
                have p332 : 0 ≤ (x8_1 : Int) := of_decide_eq_true (by first | (with_reducible assumption) | assumption)
                have q332 : x8_1 < (l0.length : Int) := of_decide_eq_true (by first | (with_reducible assumption) | assumption)
                obtain ⟨ad332, A332_5, c332_5, e332, hx332_0, hx332_1, hx332_2, hx332_3, hx332_4, hx332_5, hl332_5, hi332_5⟩ := at_T48 HR0.out x8_1 p332 q332
                have hw332_5 := hx332_5
                have hw332_4 := hx332_4
                have hw332_3 := hx332_3
                have hw332_2 := hx332_2
                have hw332_1 := hx332_1
                have hw332_0 := hx332_0
                obtain rfl : ad327 = ad332 := (by injection e332)
                replace hx332_0 := (HB.out.cell (World.block_lt_of_cell? w _ hx332_0)).trans hx332_0
                replace hx332_1 := (HB.out.cell (World.block_lt_of_cell? w _ hx332_1)).trans hx332_1
                replace hx332_2 := (HB.out.cell (World.block_lt_of_cell? w _ hx332_2)).trans hx332_2
                replace hx332_3 := (HB.out.cell (World.block_lt_of_cell? w _ hx332_3)).trans hx332_3
                replace hx332_4 := (HB.out.cell (World.block_lt_of_cell? w _ hx332_4)).trans hx332_4
                replace hx332_5 := (HB.out.cell (World.block_lt_of_cell? w _ hx332_5)).trans hx332_5
                have HR332_5 := Aside0.mk hi332_5
                have HC332_5 := Aside0.mk hl332_5
                clear hi332_5 hl332_5
                replace p332 := eq_true p332
                replace q332 := eq_true q332
                have ea_ := Option.some.inj (hx327_5.symm.trans hx332_5)
                injection ea_ with ea_ en_ ec_
                subst ea_
                subst ec_
                clear en_
                refine start_ (n := 11) (S := fun w' => w'.cell? (ad327.add ((x8_1).toNat * 6)) = some (.int .i64 ((rd_T48 l0 x8_1).f0)) ∧ w'.cell? ⟨(ad327.add ((x8_1).toNat * 6)).block, (ad327.add ((x8_1).toNat * 6)).off + 1, none⟩ = some (.int .i64 ((rd_T48 l0 x8_1).f1)) ∧ w'.cell? ⟨(ad327.add ((x8_1).toNat * 6)).block, (ad327.add ((x8_1).toNat * 6)).off + 2, none⟩ = some (.int .i64 ((rd_T48 l0 x8_1).f2)) ∧ w'.cell? ⟨(ad327.add ((x8_1).toNat * 6)).block, (ad327.add ((x8_1).toNat * 6)).off + 3, none⟩ = some (.int .i64 ((rd_T48 l0 x8_1).f3)) ∧ w'.cell? ⟨(ad327.add ((x8_1).toNat * 6)).block, (ad327.add ((x8_1).toNat * 6)).off + 4, none⟩ = some (.string ((rd_T48 l0 x8_1).f4)) ∧ w'.cell? ⟨(ad327.add ((x8_1).toNat * 6)).block, (ad327.add ((x8_1).toNat * 6)).off + 5, none⟩ = some (.slice A327_5 ((rd_T48 l0 x8_1).f5).length c327_5) ∧ w'.cell? (ad327.add ((x8_1).toNat * 6)) = some (.int .i64 ((rd_T48 l0 x8_1).f0)) ∧ w'.cell? ⟨(ad327.add ((x8_1).toNat * 6)).block, (ad327.add ((x8_1).toNat * 6)).off + 1, none⟩ = some (.int .i64 ((rd_T48 l0 x8_1).f1)) ∧ w'.cell? ⟨(ad327.add ((x8_1).toNat * 6)).block, (ad327.add ((x8_1).toNat * 6)).off + 2, none⟩ = some (.int .i64 ((rd_T48 l0 x8_1).f2)) ∧ w'.cell? ⟨(ad327.add ((x8_1).toNat * 6)).block, (ad327.add ((x8_1).toNat * 6)).off + 3, none⟩ = some (.int .i64 ((rd_T48 l0 x8_1).f3)) ∧ w'.cell? ⟨(ad327.add ((x8_1).toNat * 6)).block, (ad327.add ((x8_1).toNat * 6)).off + 4, none⟩ = some (.string ((rd_T48 l0 x8_1).f4)) ∧ w'.cell? ⟨(ad327.add ((x8_1).toNat * 6)).block, (ad327.add ((x8_1).toNat * 6)).off + 5, none⟩ = some (.slice A327_5 ((rd_T48 l0 x8_1).f5).length c327_5)) (ds := []) #[false, false, false, false, false, false, false, false, false, false, false] (by kernel_rfl) rfl rfl ⟨((HB.out.cell (World.block_lt_of_cell? w _ hw327_0)).trans hw327_0), ((HB.out.cell (World.block_lt_of_cell? w _ hw327_1)).trans hw327_1), ((HB.out.cell (World.block_lt_of_cell? w _ hw327_2)).trans hw327_2), ((HB.out.cell (World.block_lt_of_cell? w _ hw327_3)).trans hw327_3), ((HB.out.cell (World.block_lt_of_cell? w _ hw327_4)).trans hw327_4), ((HB.out.cell (World.block_lt_of_cell? w _ hw327_5)).trans hw327_5), ((HB.out.cell (World.block_lt_of_cell? w _ hw332_0)).trans hw332_0), ((HB.out.cell (World.block_lt_of_cell? w _ hw332_1)).trans hw332_1), ((HB.out.cell (World.block_lt_of_cell? w _ hw332_2)).trans hw332_2), ((HB.out.cell (World.block_lt_of_cell? w _ hw332_3)).trans hw332_3), ((HB.out.cell (World.block_lt_of_cell? w _ hw332_4)).trans hw332_4), ((HB.out.cell (World.block_lt_of_cell? w _ hw332_5)).trans hw332_5)⟩ (fun hHeld => ?_); refine with_tabW pylonlaw01_FixAll.tab6 pylonlaw01_FixAll.bits6 (fun HT_ HW_ => ?_)
                generalize wr.drew = w14 at HB HR327_5 HR332_5 hx327_0 hx327_1 hx327_2 hx327_3 hx327_4 hx327_5 hx332_0 hx332_1 hx332_2 hx332_3 hx332_4 hx332_5 hHeld ⊢
                refine pure_ (i := 0) (N := some 11) (v := ?_) (a' := ?_) #[true, false, false, false, false, false, false, false, false, false, false] rfl rfl (any_of HT_.out (by kernel_rfl)) (fun _ _ _ h => h) (Or.inl ⟨by rfl, ?_⟩) ?_ ?_
                rotate_left
                · intro w'
                  go_simp
                  with_reducible rfl
                rotate_left
                · simp only [Act.put, List.setIfInBounds_toArray, List.set_cons_zero, List.set_cons_succ, i64_w, i32_w]
                  rfl
                refine pure_ (i := 1) (N := some 12) (v := ?_) (a' := ?_) #[true, true, false, false, false, false, false, false, false, false, false] rfl rfl (any_of HT_.out (by kernel_rfl)) (fun _ _ _ h => h) (Or.inl ⟨by rfl, ?_⟩) ?_ ?_
                rotate_left
                · intro w'
                  go_simp
                  with_reducible rfl
                rotate_left
                · simp only [Act.put, List.setIfInBounds_toArray, List.set_cons_zero, List.set_cons_succ, i64_w, i32_w]
                  rfl
                refine pure_ (i := 2) (N := some 13) (v := ?_) (a' := ?_) #[true, true, true, false, false, false, false, false, false, false, false] rfl rfl (any_of HT_.out (by kernel_rfl)) (fun _ _ _ h => h) (Or.inl ⟨by rfl, ?_⟩) ?_ ?_
                rotate_left
                · intro w'
                  go_simp
                  with_reducible rfl
                rotate_left
                · simp only [Act.put, List.setIfInBounds_toArray, List.set_cons_zero, List.set_cons_succ, i64_w, i32_w]
                  rfl
                refine pure_ (i := 5) (N := some 16) (v := ?_) (a' := ?_) #[true, true, true, false, false, true, false, false, false, false, false] rfl rfl (any_of HT_.out (by kernel_rfl)) (fun _ _ _ h => h) (Or.inl ⟨by rfl, ?_⟩) ?_ ?_
                rotate_left
                · intro w'
                  go_simp
                  with_reducible rfl
                rotate_left
                · simp only [Act.put, List.setIfInBounds_toArray, List.set_cons_zero, List.set_cons_succ, i64_w, i32_w]
                  rfl
                refine pure_ (i := 6) (N := some 17) (v := ?_) (a' := ?_) #[true, true, true, false, false, true, true, false, false, false, false] rfl rfl (any_of HT_.out (by kernel_rfl)) (fun _ _ _ h => h) (Or.inl ⟨by rfl, ?_⟩) ?_ ?_
                rotate_left
                · intro w'
                  go_simp
                  with_reducible rfl
                rotate_left
                · simp only [Act.put, List.setIfInBounds_toArray, List.set_cons_zero, List.set_cons_succ, i64_w, i32_w]
                  rfl
                refine pure_ (i := 7) (N := some 18) (v := ?_) (a' := ?_) #[true, true, true, false, false, true, true, true, false, false, false] rfl rfl (any_of HT_.out (by kernel_rfl)) (fun _ _ _ h => h) (Or.inl ⟨by rfl, ?_⟩) ?_ ?_
                rotate_left
                · intro w'
                  go_simp
                  with_reducible rfl
                rotate_left
                · simp only [Act.put, List.setIfInBounds_toArray, List.set_cons_zero, List.set_cons_succ, i64_w, i32_w]
                  rfl
                refine take_ (i := 3) (N := some 14) (v := ?_) (a' := ?_) #[true, true, true, true, false, true, true, true, false, false, false] rfl rfl (take_ofW HT_.out HW_.out (by kernel_rfl)) (fun _ _ _ h => h) (Or.inl ⟨by rfl, ?_⟩) hHeld ?_ ?_
                rotate_left
                · rintro w' ⟨s0, s1, s2, s3, s4, s5, s6, s7, s8, s9, s10, s11⟩
                  go_simp
                  with_reducible rfl
                rotate_left
                · simp only [Act.put, List.setIfInBounds_toArray, List.set_cons_zero, List.set_cons_succ, i64_w, i32_w]
                  rfl
                refine take_ (i := 8) (N := some 19) (v := ?_) (a' := ?_) #[true, true, true, true, false, true, true, true, true, false, false] rfl rfl (take_ofW HT_.out HW_.out (by kernel_rfl)) (fun _ _ _ h => h) (Or.inl ⟨by rfl, ?_⟩) hHeld ?_ ?_
                rotate_left
                · rintro w' ⟨s0, s1, s2, s3, s4, s5, s6, s7, s8, s9, s10, s11⟩
                  go_simp
                  with_reducible rfl
                rotate_left
                · simp only [Act.put, List.setIfInBounds_toArray, List.set_cons_zero, List.set_cons_succ, i64_w, i32_w]
                  rfl
                refine one_ (i := 4) (N := some 15) #[true, true, true, true, true, true, true, true, true, false, false] rfl rfl (one_of HT_.out (by kernel_rfl)) (by decide) (fun K hK => ?_)
                refine goes_ Tryd.func24 (by kernel_rfl) rfl #[.agg #[.int .i64 ((rd_T48 l0 x8_1).f0), .int .i64 ((rd_T48 l0 x8_1).f1), .int .i64 ((rd_T48 l0 x8_1).f2), .int .i64 ((rd_T48 l0 x8_1).f3), .string ((rd_T48 l0 x8_1).f4), .slice A327_5 ((rd_T48 l0 x8_1).f5).length c327_5]] (by rfl) rfl rfl (by (try simp only [List.map_toArray, List.map_cons, List.map_nil]); first | done | rfl | (simp only [List.length_drop, List.length_take]; rfl)) ?_
                with_reducible refine (pylonlaw01_plays.calls k1 ((rd_T48 l0 x8_1).f0) ((rd_T48 l0 x8_1).f1) ((rd_T48 l0 x8_1).f2) ((rd_T48 l0 x8_1).f3) ((rd_T48 l0 x8_1).f4) _ _ ((rd_T48 l0 x8_1).f5) t328 t329 t330 t331 _ ?side3 ?side1 ?side2 A8.out).mono ?_
                (case side1 => repeat (first | exact (Kd.C_below HR327_5.out HB.out) | (with_reducible refine Kd.C_alloc ?_ _) | (with_reducible refine Kd.C_drewN ?_ _) | (with_reducible refine Kd.C_drew ?_)))
                (case side2 => exact HC327_5.out)
                (case side3 => exact Go.Proofs.YthejabcfbbmkeaaDoor.Hand.GW.on HTB.out (by repeat (first | (with_reducible first | exact HB.out | apply below_alloc | apply pw_below_drewN | apply below_drew1) | exact HB.out)))
                rintro e w15 ⟨rfl, hb⟩
                refine ⟨_, rfl, ?_⟩
                have n0_ := Aside0.mk (below_step (by repeat (first | (with_reducible first | exact HB.out | apply below_alloc | apply pw_below_drewN | apply below_drew1) | exact HB.out)) hb)
                clear HB
                have HB := n0_
                clear n0_
                (try clear hb)
                (try clear hb2)
                (try clear hk)
                (try clear hi)
                refine hK.out _ _ ⟨((HB.out.cell (World.block_lt_of_cell? w _ hw327_0)).trans hw327_0), ((HB.out.cell (World.block_lt_of_cell? w _ hw327_1)).trans hw327_1), ((HB.out.cell (World.block_lt_of_cell? w _ hw327_2)).trans hw327_2), ((HB.out.cell (World.block_lt_of_cell? w _ hw327_3)).trans hw327_3), ((HB.out.cell (World.block_lt_of_cell? w _ hw327_4)).trans hw327_4), ((HB.out.cell (World.block_lt_of_cell? w _ hw327_5)).trans hw327_5), ((HB.out.cell (World.block_lt_of_cell? w _ hw332_0)).trans hw332_0), ((HB.out.cell (World.block_lt_of_cell? w _ hw332_1)).trans hw332_1), ((HB.out.cell (World.block_lt_of_cell? w _ hw332_2)).trans hw332_2), ((HB.out.cell (World.block_lt_of_cell? w _ hw332_3)).trans hw332_3), ((HB.out.cell (World.block_lt_of_cell? w _ hw332_4)).trans hw332_4), ((HB.out.cell (World.block_lt_of_cell? w _ hw332_5)).trans hw332_5)⟩ (fun hHeld => ?_)
                clear hK K
                refine norm_ (a' := ?_) ?_ ?_
                rotate_left
                · show Act.put _ (some 15) _ = _
                  simp only [Act.put, List.setIfInBounds_toArray, List.set_cons_zero, List.set_cons_succ, i64_w, i32_w]
                  rfl
                refine one_ (i := 9) (N := some 20) #[true, true, true, true, true, true, true, true, true, true, false] rfl rfl (one_of HT_.out (by kernel_rfl)) (by decide) (fun K hK => ?_)
                refine goes_ Tryd.func25 (by kernel_rfl) rfl #[.agg #[.int .i64 ((rd_T48 l0 x8_1).f0), .int .i64 ((rd_T48 l0 x8_1).f1), .int .i64 ((rd_T48 l0 x8_1).f2), .int .i64 ((rd_T48 l0 x8_1).f3), .string ((rd_T48 l0 x8_1).f4), .slice A327_5 ((rd_T48 l0 x8_1).f5).length c327_5]] (by rfl) rfl rfl (by (try simp only [List.map_toArray, List.map_cons, List.map_nil]); first | done | rfl | (simp only [List.length_drop, List.length_take]; rfl)) ?_
                with_reducible refine (pylonlaw01_wants.calls k1 ((rd_T48 l0 x8_1).f0) ((rd_T48 l0 x8_1).f1) ((rd_T48 l0 x8_1).f2) ((rd_T48 l0 x8_1).f3) ((rd_T48 l0 x8_1).f4) _ _ ((rd_T48 l0 x8_1).f5) t333 t334 t335 t336 _ ?side1 ?side2 A9.out).mono ?_
                (case side1 => repeat (first | exact (Kd.C_below HR332_5.out HB.out) | (with_reducible refine Kd.C_alloc ?_ _) | (with_reducible refine Kd.C_drewN ?_ _) | (with_reducible refine Kd.C_drew ?_)))
                (case side2 => exact HC332_5.out)
                rintro e w16 ⟨rfl, hb⟩
                refine ⟨_, rfl, ?_⟩
                have n0_ := Aside0.mk (below_step (by repeat (first | (with_reducible first | exact HB.out | apply below_alloc | apply pw_below_drewN | apply below_drew1) | exact HB.out)) hb)
                clear HB
                have HB := n0_
                clear n0_
                (try clear hb)
                (try clear hb2)
                (try clear hk)
                (try clear hi)
                refine hK.out _ _ ⟨((HB.out.cell (World.block_lt_of_cell? w _ hw327_0)).trans hw327_0), ((HB.out.cell (World.block_lt_of_cell? w _ hw327_1)).trans hw327_1), ((HB.out.cell (World.block_lt_of_cell? w _ hw327_2)).trans hw327_2), ((HB.out.cell (World.block_lt_of_cell? w _ hw327_3)).trans hw327_3), ((HB.out.cell (World.block_lt_of_cell? w _ hw327_4)).trans hw327_4), ((HB.out.cell (World.block_lt_of_cell? w _ hw327_5)).trans hw327_5), ((HB.out.cell (World.block_lt_of_cell? w _ hw332_0)).trans hw332_0), ((HB.out.cell (World.block_lt_of_cell? w _ hw332_1)).trans hw332_1), ((HB.out.cell (World.block_lt_of_cell? w _ hw332_2)).trans hw332_2), ((HB.out.cell (World.block_lt_of_cell? w _ hw332_3)).trans hw332_3), ((HB.out.cell (World.block_lt_of_cell? w _ hw332_4)).trans hw332_4), ((HB.out.cell (World.block_lt_of_cell? w _ hw332_5)).trans hw332_5)⟩ (fun hHeld => ?_)
                clear hK K
                refine norm_ (a' := ?_) ?_ ?_
                rotate_left
                · show Act.put _ (some 20) _ = _
                  simp only [Act.put, List.setIfInBounds_toArray, List.set_cons_zero, List.set_cons_succ, i64_w, i32_w]
                  rfl
                refine pure_ (i := 10) (N := some 21) (v := ?_) (a' := ?_) #[true, true, true, true, true, true, true, true, true, true, true] rfl rfl (any_of HT_.out (by kernel_rfl)) (fun _ _ _ h => h) (Or.inl ⟨by rfl, ?_⟩) ?_ ?_
                rotate_left
                · intro w'
                  go_simp
                  with_reducible rfl
                rotate_left
                · simp only [Act.put, List.setIfInBounds_toArray, List.set_cons_zero, List.set_cons_succ, i64_w, i32_w]
                  rfl
                refine done_ (done_of HT_.out (by kernel_rfl)) ?_
                try go_wp2
                go_roundg k1
                case measure => have := HK1.out; omega
                case rel => exact ⟨(wrap64 (x8_1 + 1)), (by first | rfl | (simp; done) | (simp [*]; done)), H', ⟨by have := HK1.out; omega⟩, ⟨by repeat (first | (with_reducible first | exact HB.out | apply below_alloc | apply pw_below_drewN | apply below_drew1) | exact HB.out)⟩⟩
            · rw [if_neg c7] at H
              exact absurd H (by simp)
          · rw [if_neg c6] at H
            exact absurd H (by simp)
        · rw [if_neg c5] at H
          have c5b0 : decide (x8_1 < (l0.length : Int)) = false := decide_eq_false c5
          clear c5
          obtain rfl := Option.some.inj H
          go_wp2
          go_ret
          exact ⟨by first | rfl | (simp [errW_none, errW_some] <;> rfl) | (simp [*, errW_none, errW_some] <;> rfl), by repeat (first | (with_reducible first | exact HB.out | apply below_alloc | apply pw_below_drewN | apply below_drew1) | exact HB.out)⟩
  · replace c3 := Bool.eq_false_iff.mpr c3
    subst c3
    have H1 : (some false) = some r := by rw [if_neg (show ¬ (false = true) by decide)] at H; exact H
    clear H
    have H := H1
    clear H1
    obtain rfl := Option.some.inj H
    go_enter Tryd.func10, Tryd.ntmps10
    go_wp2_with (first | ((with_reducible refine gate_callee (f := 11) rfl ?_); refine goesL_ (some 4) rfl rfl Tryd.func11 (by kernel_rfl) rfl #[] rfl (by (try simp only [List.map_toArray, List.map_cons, List.map_nil]); first | done | rfl | (simp only [List.length_drop, List.length_take]; rfl)) ?_; (with_reducible refine (pylonlaw01_awake.calls k  false _ ?side1 A2.out).mono ?_); (case side1 => exact Go.Proofs.YthejabcfbbmkeaaDoor.Hand.GW.on HTB.out (by repeat (first | (with_reducible first | exact HB.out | apply below_alloc | apply pw_below_drewN | apply below_drew1) | exact HB.out))); rintro e w17 ⟨rfl, hb⟩; refine ⟨_, rfl, ?_⟩; have n0_ := Aside0.mk (below_step (by repeat (first | (with_reducible first | exact HB.out | apply below_alloc | apply pw_below_drewN | apply below_drew1) | exact HB.out)) hb); clear HB; have HB := n0_; clear n0_; (try clear hb); (try clear hb2); (try clear hk); (try clear hi)))
    go_ret
    exact ⟨by first | rfl | (simp [errW_none, errW_some] <;> rfl) | (simp [*, errW_none, errW_some] <;> rfl), by repeat (first | (with_reducible first | exact HB.out | apply below_alloc | apply pw_below_drewN | apply below_drew1) | exact HB.out)⟩
/-- THE ONE PURE STATEMENT of pylonlaw01_FixAll. -/
def pylonlaw01_FixAll.Pure : Prop := ∀ (l0 : List (S48)), (l0.length * 72 ≤ 140737488351232 ∧ ∀ y_ ∈ l0, okS48 y_) → ∃ k, pylonlaw01_FixAll.f k l0 = some true

end Go.Proofs.YthejabcfbbmkeaaDoor.PG
