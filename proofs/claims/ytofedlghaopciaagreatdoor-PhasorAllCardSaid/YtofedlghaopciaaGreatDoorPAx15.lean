-- Written by a program of this session for this claim (wip/print2.sh). Lean checks it.
import Derived.Test.YtofedlghaopciaaGreatDoorPAx0
import Derived.Test.YtofedlghaopciaaGreatDoorPAx11
import Derived.Test.YtofedlghaopciaaGreatDoorPAx14
namespace Go.Proofs.YtofedlghaopciaaGreatDoor.PA
open Go.Proofs.YtofedlghaopciaaGreatDoorW.PrintWords
attribute [local go_sem high] fx_eql fx_neq fx_lss fx_leq fx_gtr fx_geq fx_add fx_sub fx_mul fx_neg fx_toint cxx_add cxx_sub cxx_mul cxx_eql cxx_neq cxx_pick st_float st_complex
open Go.RowKit Go.Proofs.YtofedlghaopciaaGreatDoorW.PrintWords Go.Proofs.YtofedlghaopciaaGreatDoorW.PrintLast Go.Proofs.YtofedlghaopciaaGreatDoorW.PrintMore
attribute [local go_sem] max2_int min2_int max_two min_two max_three min_three max_four min_four   -- for this text's walks alone
set_option linter.unusedVariables false
set_option linter.unusedSimpArgs false

/-! ### pylonref02_Read: function 34 -/
def pylonref02_Read.l0 : Nat → ByteArray → Int → Option (Cx × Int)
 | 0, _, _ => none
 | k + 1, x0, x4 => if x4 < (x0.size : Int) then (if 0 ≤ x4 then (if (bt x0 x4) = 43 then (if x4 ≤ (x0.size : Int) then (if 0 ≤ (wrap64 (x4 + 1)) then (if (wrap64 (x4 + 1)) ≤ (x0.size : Int) then ((pylonref01_Read.f k (x0.extract 0 (x4 : Int).toNat)).bind fun bt381 => ((pylonref01_Read.f k (x0.extract ((wrap64 (x4 + 1)) : Int).toNat x0.size)).bind fun bt383 => (if bt381.2 = 0 then (if bt383.2 = 0 then (if bt383.1 < 0 then (some (cx 0 0, 1)) else ((pylonref02_Of.f bt381.1 bt383.1).bind fun bt385 => (if bt385.2 = 0 then (some (bt385.1, 0)) else (some (cx 0 0, 1))))) else (some (cx 0 0, 1))) else (some (cx 0 0, 1))))) else (none)) else (none)) else (none)) else (if (bt x0 x4) = 45 then (if x4 ≤ (x0.size : Int) then ((pylonref01_Read.f k (x0.extract 0 (x4 : Int).toNat)).bind fun bt387 => ((pylonref01_Read.f k (x0.extract (x4 : Int).toNat x0.size)).bind fun bt389 => (if bt387.2 = 0 then (if bt389.2 = 0 then ((pylonref02_Of.f bt387.1 bt389.1).bind fun bt391 => (if bt391.2 = 0 then (some (bt391.1, 0)) else (some (cx 0 0, 1)))) else (some (cx 0 0, 1))) else (some (cx 0 0, 1))))) else (none)) else (pylonref02_Read.l0 k x0 (wrap64 (x4 + 1))))) else (none)) else (some (cx 0 0, 1))
def pylonref02_Read.f (k : Nat) (a0 : ByteArray) : Option (Cx × Int) := if (a0.size : Int) = 0 then (some (cx 0 0, 1)) else (if 0 ≤ (wrap64 ((a0.size : Int) - 1)) then (if (wrap64 ((a0.size : Int) - 1)) < (a0.size : Int) then (if (bt a0 (wrap64 ((a0.size : Int) - 1))) = 105 then (if (wrap64 ((a0.size : Int) - 1)) ≤ (a0.size : Int) then (pylonref02_Read.l0 k (a0.extract 0 ((wrap64 ((a0.size : Int) - 1)) : Int).toNat) 1) else (none)) else (some (cx 0 0, 1))) else (none)) else (none))
theorem pylonref02_Read.mono_l : ∀ k, (∀ y0 y1, LeO (pylonref02_Read.l0 k y0 y1) (pylonref02_Read.l0 (k + 1) y0 y1))
 | 0 => fun _ _ r h => by simp [pylonref02_Read.l0] at h
 | k + 1 => by
  have ih0 := pylonref02_Read.mono_l k
  ·
   intro y0 y1
   unfold pylonref02_Read.l0
   repeat' first
   | (with_reducible exact ih0 _ _)
   | (with_reducible exact pylonref01_Read.mono _ _)
   | (with_reducible exact LeO.refl _)
   | (with_reducible exact LeO.none _)
   | (with_reducible refine LeO.ite ?_ ?_)
   | (with_reducible refine LeO.bind ?_ (fun _ => ?_))
   | exact ih0 _ _
   | exact pylonref01_Read.mono _ _
   | exact LeO.none _
   | refine LeO.ite ?_ ?_
   | refine LeO.bind ?_ (fun _ => ?_)
theorem pylonref02_Read.mono : ∀ a0 k, LeO (pylonref02_Read.f k a0) (pylonref02_Read.f (k + 1) a0) := by
 intro a0 k
 have ih0 := pylonref02_Read.mono_l k
 unfold pylonref02_Read.f
 repeat' first
   | (with_reducible exact ih0 _ _)
   | (with_reducible exact pylonref01_Read.mono _ _)
   | (with_reducible exact LeO.refl _)
   | (with_reducible exact LeO.none _)
   | (with_reducible refine LeO.ite ?_ ?_)
   | (with_reducible refine LeO.bind ?_ (fun _ => ?_))
   | exact ih0 _ _
   | exact pylonref01_Read.mono _ _
   | exact LeO.none _
   | refine LeO.ite ?_ ?_
   | refine LeO.bind ?_ (fun _ => ?_)
set_option maxHeartbeats 8000000 in
set_option maxRecDepth 100000 in
theorem pylonref02_Read.calls (k : Nat) (a0 : ByteArray) (r1 : Cx) (r2 : Int) (w : World) (h : pylonref02_Read.f k a0 = some (r1, r2)) :
  Calls Tryz.prog 34 #[.string a0] w fun e w' => e = .returned (.tuple #[.complex .f64 r1.re r1.im, .int .i64 r2]) ∧ Below w.heap.size w w' := by
 have HB := Aside0.mk (Below.refl w.heap.size w)
 have H : (if (a0.size : Int) = 0 then (some (cx 0 0, 1)) else (if 0 ≤ (wrap64 ((a0.size : Int) - 1)) then (if (wrap64 ((a0.size : Int) - 1)) < (a0.size : Int) then (if (bt a0 (wrap64 ((a0.size : Int) - 1))) = 105 then (if (wrap64 ((a0.size : Int) - 1)) ≤ (a0.size : Int) then (pylonref02_Read.l0 k (a0.extract 0 ((wrap64 ((a0.size : Int) - 1)) : Int).toNat) 1) else (none)) else (some (cx 0 0, 1))) else (none)) else (none))) = some (r1, r2) := h
 clear h
 by_cases c2 : (a0.size : Int) = 0
 ·
  rw [if_pos c2] at H
  obtain ⟨c2b0, c2b1⟩ := eqT_ c2
  clear c2
  simp only [Option.some.injEq, Prod.mk.injEq] at H
  obtain ⟨rfl, rfl⟩ := H
  go_enter Tryz.func34, Tryz.ntmps34
  go_wp2
  go_ret2
  exact fin_
 ·
  rw [if_neg c2] at H
  obtain ⟨c2b0, c2b1⟩ := eqF_ c2
  obtain ⟨ji3, hji3⟩ : ∃ j_ : Int, (wrap64 ((a0.size : Int) - 1)) = j_ := ⟨_, rfl⟩
  replace H : (if 0 ≤ (ji3) then (if (ji3) < (a0.size : Int) then (if (bt a0 (ji3)) = 105 then (if (ji3) ≤ (a0.size : Int) then (pylonref02_Read.l0 k (a0.extract 0 ((ji3) : Int).toNat) 1) else (none)) else (some (cx 0 0, 1))) else (none)) else (none)) = some (r1, r2) := by first | (rw [hji3] at H; exact H) | (simp only [hji3] at H ⊢; exact H)
  have hji3w : (IntKind.i64.wrap ((a0.size : Int) - 1)) = ji3 := (i64_w _).trans hji3
  by_cases c4 : 0 ≤ (ji3)
  ·
   rw [if_pos c4] at H
   have c4b0 : decide (0 ≤ (ji3)) = true := decide_eq_true c4
   clear c4
   by_cases c5 : (ji3) < (a0.size : Int)
   ·
    rw [if_pos c5] at H
    have c5b0 : decide ((ji3) < (a0.size : Int)) = true := decide_eq_true c5
    clear c5
    by_cases c7 : (bt a0 (ji3)) = 105
    ·
     rw [if_pos c7] at H
     obtain ⟨c7b0, c7b1⟩ := eqT_ c7
     clear c7
     have c8b0 := eq_true (of_decide_eq_true (by first | (with_reducible assumption) | assumption) : 0 ≤ (ji3))
     by_cases c9 : (ji3) ≤ (a0.size : Int)
     ·
      rw [if_pos c9] at H
      have c9b0 := eq_true c9
      have c9b1 : decide ((ji3) ≤ (a0.size : Int)) = true := decide_eq_true c9
      clear c9
      have H' := Aside0.mk H
      clear H
      have p6 : 0 ≤ ((ji3) : Int) := of_decide_eq_true (by first | (with_reducible assumption) | assumption)
      have q6 : (ji3) < (a0.size : Int) := of_decide_eq_true (by first | (with_reducible assumption) | assumption)
      have hx6 := bt_at a0 (ji3)
      replace p6 := eq_true p6
      replace q6 := eq_true q6
      go_enter Tryz.func34, Tryz.ntmps34
      go_wp2
      generalize a0.extract 0 ((ji3) : Int).toNat = s1 at H' ⊢
      go_loopg [4] k (fun kq v4 w' => ∃ (x4_1 : Int), v4 = .int .i64 x4_1 ∧ Aside0 (pylonref02_Read.l0 kq s1 x4_1 = some (r1, r2)) ∧ Aside0 (kq ≤ k) ∧ Aside0 (Below w.heap.size w w'))
      case atStart => exact ⟨(1), (by first | rfl | (simp; done) | (simp [*]; done)), H', ⟨Nat.le_refl _⟩, ⟨bl_⟩⟩
      case round =>
       clear H'
       try clear c2
       try clear c2b0
       try clear c2b1
       try clear p2
       try clear c3
       try clear c4
       try clear c4b0
       try clear c5
       try clear c5b0
       try clear p6
       try clear q6
       try clear hx6
       try clear c7
       try clear c7b0
       try clear c7b1
       try clear c8
       try clear c8b0
       try clear c9
       try clear c9b0
       try clear c9b1
       try clear p6
       try clear q6
       obtain ⟨x4_1, rfl, HA, HK1, HB⟩ := hrel
       cases gk with
       | zero => exact absurd HA.out (by simp [pylonref02_Read.l0])
       | succ k1 =>
        have H := HA.out
        clear HA
        simp only [pylonref02_Read.l0] at H
        by_cases c10 : x4_1 < (s1.size : Int)
        ·
         rw [if_pos c10] at H
         have c10b0 : decide (x4_1 < (s1.size : Int)) = true := decide_eq_true c10
         clear c10
         by_cases c11 : 0 ≤ x4_1
         ·
          rw [if_pos c11] at H
          have c11b0 : decide (0 ≤ x4_1) = true := decide_eq_true c11
          clear c11
          by_cases c13 : (bt s1 x4_1) = 43
          ·
           rw [if_pos c13] at H
           obtain ⟨c13b0, c13b1⟩ := eqT_ c13
           clear c13
           have c14b0 := eq_true (of_decide_eq_true (by first | (with_reducible assumption) | assumption) : 0 ≤ x4_1)
           by_cases c15 : x4_1 ≤ (s1.size : Int)
           ·
            rw [if_pos c15] at H
            have c15b0 := eq_true c15
            have c15b1 : decide (x4_1 ≤ (s1.size : Int)) = true := decide_eq_true c15
            clear c15
            obtain ⟨ji17, hji17⟩ : ∃ j_ : Int, (wrap64 (x4_1 + 1)) = j_ := ⟨_, rfl⟩
            replace H : (if 0 ≤ (ji17) then (if (ji17) ≤ (s1.size : Int) then ((pylonref01_Read.f k1 (s1.extract 0 (x4_1 : Int).toNat)).bind fun bt381 => ((pylonref01_Read.f k1 (s1.extract ((ji17) : Int).toNat s1.size)).bind fun bt383 => (if bt381.2 = 0 then (if bt383.2 = 0 then (if bt383.1 < 0 then (some (cx 0 0, 1)) else ((pylonref02_Of.f bt381.1 bt383.1).bind fun bt385 => (if bt385.2 = 0 then (some (bt385.1, 0)) else (some (cx 0 0, 1))))) else (some (cx 0 0, 1))) else (some (cx 0 0, 1))))) else (none)) else (none)) = some (r1, r2) := by first | (rw [hji17] at H; exact H) | (simp only [hji17] at H ⊢; exact H)
            have hji17w : (IntKind.i64.wrap (x4_1 + 1)) = ji17 := (i64_w _).trans hji17
            by_cases c18 : 0 ≤ (ji17)
            ·
             rw [if_pos c18] at H
             have c18b0 := eq_true c18
             have c18b1 : decide (0 ≤ (ji17)) = true := decide_eq_true c18
             clear c18
             by_cases c19 : (ji17) ≤ (s1.size : Int)
             ·
              rw [if_pos c19] at H
              have c19b0 := eq_true c19
              have c19b1 : decide ((ji17) ≤ (s1.size : Int)) = true := decide_eq_true c19
              clear c19
              have c20b0 := eq_true (of_decide_eq_true (by first | (with_reducible assumption) | assumption) : 0 ≤ x4_1)
              have c21b0 := eq_true (of_decide_eq_true (by first | (with_reducible assumption) | assumption) : x4_1 ≤ (s1.size : Int))
              replace H := Option.bind_eq_some_iff.mp H
              obtain ⟨⟨t381, t382⟩, A220, H⟩ := H
              replace H : ((pylonref01_Read.f k1 (s1.extract ((ji17) : Int).toNat s1.size)).bind fun bt383 => (if t382 = 0 then (if bt383.2 = 0 then (if bt383.1 < 0 then (some (cx 0 0, 1)) else ((pylonref02_Of.f t381 bt383.1).bind fun bt385 => (if bt385.2 = 0 then (some (bt385.1, 0)) else (some (cx 0 0, 1))))) else (some (cx 0 0, 1))) else (some (cx 0 0, 1)))) = some (r1, r2) := H
              have A22 := Aside0.mk A220
              clear A220
              replace H := Option.bind_eq_some_iff.mp H
              obtain ⟨⟨t383, t384⟩, A230, H⟩ := H
              replace H : (if t382 = 0 then (if t384 = 0 then (if t383 < 0 then (some (cx 0 0, 1)) else ((pylonref02_Of.f t381 t383).bind fun bt385 => (if bt385.2 = 0 then (some (bt385.1, 0)) else (some (cx 0 0, 1))))) else (some (cx 0 0, 1))) else (some (cx 0 0, 1))) = some (r1, r2) := H
              have A23 := Aside0.mk A230
              clear A230
              by_cases c24 : t382 = 0
              ·
               rw [if_pos c24] at H
               obtain ⟨c24b0, c24b1⟩ := eqT_ c24
               clear c24
               by_cases c25 : t384 = 0
               ·
                rw [if_pos c25] at H
                obtain ⟨c25b0, c25b1⟩ := eqT_ c25
                clear c25
                by_cases c27 : t383 < 0
                ·
                 rw [if_pos c27] at H
                 have c27b0 : decide (t383 < 0) = true := decide_eq_true c27
                 clear c27
                 simp only [Option.some.injEq, Prod.mk.injEq] at H
                 obtain ⟨rfl, rfl⟩ := H
                 have p12 : 0 ≤ (x4_1 : Int) := of_decide_eq_true (by first | (with_reducible assumption) | assumption)
                 have q12 : x4_1 < (s1.size : Int) := of_decide_eq_true (by first | (with_reducible assumption) | assumption)
                 have hx12 := bt_at s1 x4_1
                 replace p12 := eq_true p12
                 replace q12 := eq_true q12
                 have p16 : 0 ≤ (x4_1 : Int) := of_decide_eq_true (by first | (with_reducible assumption) | assumption)
                 have q16 : x4_1 < (s1.size : Int) := of_decide_eq_true (by first | (with_reducible assumption) | assumption)
                 have hx16 := bt_at s1 x4_1
                 replace p16 := eq_true p16
                 replace q16 := eq_true q16
                 go_wp2_with (first | ((with_reducible refine gate_callee (f := 54) rfl ?_); refine goesL_ (some 59) rfl rfl Tryz.func54 (by kernel_rfl) rfl #[.string (s1.extract 0 (x4_1 : Int).toNat)] rfl (by (try simp only [List.map_toArray, List.map_cons, List.map_nil]); first | done | (simp only [hji3]; rfl) | rfl | (simp only [List.length_drop, List.length_take]; rfl)) ?_; (with_reducible refine (pylonref01_Read.calls k1 (s1.extract 0 (x4_1 : Int).toNat) t381 t382 _ A22.out).mono ?_); rintro e w' ⟨rfl, ⟨nd, rfl⟩⟩; refine ⟨_, rfl, ?_⟩) | ((with_reducible refine gate_callee (f := 54) rfl ?_); refine goesL_ (some 64) rfl rfl Tryz.func54 (by kernel_rfl) rfl #[.string (s1.extract ((ji17) : Int).toNat s1.size)] rfl (by (try simp only [List.map_toArray, List.map_cons, List.map_nil]); first | done | (simp only [hji17, hji3]; rfl) | rfl | (simp only [List.length_drop, List.length_take]; rfl)) ?_; (with_reducible refine (pylonref01_Read.calls k1 (s1.extract ((ji17) : Int).toNat s1.size) t383 t384 _ A23.out).mono ?_); rintro e w' ⟨rfl, ⟨nd, rfl⟩⟩; refine ⟨_, rfl, ?_⟩; have p26 : 0 ≤ (x4_1 : Int) := of_decide_eq_true (by first | (with_reducible assumption) | assumption); have q26 : x4_1 < (s1.size : Int) := of_decide_eq_true (by first | (with_reducible assumption) | assumption); have hx26 := bt_at s1 x4_1; replace p26 := eq_true p26; replace q26 := eq_true q26))
                 go_ret2
                 exact ⟨by first | rfl | (simp [errW_none, errW_some] <;> rfl) | (simp only [← hji3, ← hji17]; first | rfl | (simp [errW_none, errW_some] <;> rfl)) | (simp [*, errW_none, errW_some] <;> rfl), by repeat (first | (with_reducible first | exact HB.out | apply below_alloc | apply pw_below_drewN | apply below_drew1) | exact HB.out)⟩
                ·
                 rw [if_neg c27] at H
                 have c27b0 : decide (t383 < 0) = false := decide_eq_false c27
                 clear c27
                 replace H := Option.bind_eq_some_iff.mp H
                 obtain ⟨⟨t385, t386⟩, A280, H⟩ := H
                 replace H : (if t386 = 0 then (some (t385, 0)) else (some (cx 0 0, 1))) = some (r1, r2) := H
                 have A28 := Aside0.mk A280
                 clear A280
                 by_cases c29 : t386 = 0
                 ·
                  rw [if_pos c29] at H
                  obtain ⟨c29b0, c29b1⟩ := eqT_ c29
                  clear c29
                  simp only [Option.some.injEq, Prod.mk.injEq] at H
                  obtain ⟨rfl, rfl⟩ := H
                  have p12 : 0 ≤ (x4_1 : Int) := of_decide_eq_true (by first | (with_reducible assumption) | assumption)
                  have q12 : x4_1 < (s1.size : Int) := of_decide_eq_true (by first | (with_reducible assumption) | assumption)
                  have hx12 := bt_at s1 x4_1
                  replace p12 := eq_true p12
                  replace q12 := eq_true q12
                  have p16 : 0 ≤ (x4_1 : Int) := of_decide_eq_true (by first | (with_reducible assumption) | assumption)
                  have q16 : x4_1 < (s1.size : Int) := of_decide_eq_true (by first | (with_reducible assumption) | assumption)
                  have hx16 := bt_at s1 x4_1
                  replace p16 := eq_true p16
                  replace q16 := eq_true q16
                  go_wp2_with (first | ((with_reducible refine gate_callee (f := 54) rfl ?_); refine goesL_ (some 59) rfl rfl Tryz.func54 (by kernel_rfl) rfl #[.string (s1.extract 0 (x4_1 : Int).toNat)] rfl (by (try simp only [List.map_toArray, List.map_cons, List.map_nil]); first | done | (simp only [hji3]; rfl) | rfl | (simp only [List.length_drop, List.length_take]; rfl)) ?_; (with_reducible refine (pylonref01_Read.calls k1 (s1.extract 0 (x4_1 : Int).toNat) t381 t382 _ A22.out).mono ?_); rintro e w' ⟨rfl, ⟨nd, rfl⟩⟩; refine ⟨_, rfl, ?_⟩) | ((with_reducible refine gate_callee (f := 54) rfl ?_); refine goesL_ (some 64) rfl rfl Tryz.func54 (by kernel_rfl) rfl #[.string (s1.extract ((ji17) : Int).toNat s1.size)] rfl (by (try simp only [List.map_toArray, List.map_cons, List.map_nil]); first | done | (simp only [hji17, hji3]; rfl) | rfl | (simp only [List.length_drop, List.length_take]; rfl)) ?_; (with_reducible refine (pylonref01_Read.calls k1 (s1.extract ((ji17) : Int).toNat s1.size) t383 t384 _ A23.out).mono ?_); rintro e w' ⟨rfl, ⟨nd, rfl⟩⟩; refine ⟨_, rfl, ?_⟩; have p26 : 0 ≤ (x4_1 : Int) := of_decide_eq_true (by first | (with_reducible assumption) | assumption); have q26 : x4_1 < (s1.size : Int) := of_decide_eq_true (by first | (with_reducible assumption) | assumption); have hx26 := bt_at s1 x4_1; replace p26 := eq_true p26; replace q26 := eq_true q26) | ((with_reducible refine gate_callee (f := 24) rfl ?_); refine gL_ (some 86) Tryz.func24 #[.int .i64 t381, .int .i64 t383] ?_; (with_reducible refine (pylonref02_Of.calls t381 t383 t385 t386 _ A28.out).mono ?_); rintro e w30 ⟨rfl, hb⟩; refine ⟨_, rfl, ?_⟩; replace HB := Aside0.mk (bst_ hb); (try clear hb); (try clear hb2); (try clear hk); (try clear hi)))
                  go_ret2
                  exact ⟨by first | rfl | (simp [errW_none, errW_some] <;> rfl) | (simp only [← hji3, ← hji17]; first | rfl | (simp [errW_none, errW_some] <;> rfl)) | (simp [*, errW_none, errW_some] <;> rfl), by repeat (first | (with_reducible first | exact HB.out | apply below_alloc | apply pw_below_drewN | apply below_drew1) | exact HB.out)⟩
                 ·
                  rw [if_neg c29] at H
                  obtain ⟨c29b0, c29b1⟩ := eqF_ c29
                  simp only [Option.some.injEq, Prod.mk.injEq] at H
                  obtain ⟨rfl, rfl⟩ := H
                  have p12 : 0 ≤ (x4_1 : Int) := of_decide_eq_true (by first | (with_reducible assumption) | assumption)
                  have q12 : x4_1 < (s1.size : Int) := of_decide_eq_true (by first | (with_reducible assumption) | assumption)
                  have hx12 := bt_at s1 x4_1
                  replace p12 := eq_true p12
                  replace q12 := eq_true q12
                  have p16 : 0 ≤ (x4_1 : Int) := of_decide_eq_true (by first | (with_reducible assumption) | assumption)
                  have q16 : x4_1 < (s1.size : Int) := of_decide_eq_true (by first | (with_reducible assumption) | assumption)
                  have hx16 := bt_at s1 x4_1
                  replace p16 := eq_true p16
                  replace q16 := eq_true q16
                  go_wp2_with (first | ((with_reducible refine gate_callee (f := 54) rfl ?_); refine goesL_ (some 59) rfl rfl Tryz.func54 (by kernel_rfl) rfl #[.string (s1.extract 0 (x4_1 : Int).toNat)] rfl (by (try simp only [List.map_toArray, List.map_cons, List.map_nil]); first | done | (simp only [hji3]; rfl) | rfl | (simp only [List.length_drop, List.length_take]; rfl)) ?_; (with_reducible refine (pylonref01_Read.calls k1 (s1.extract 0 (x4_1 : Int).toNat) t381 t382 _ A22.out).mono ?_); rintro e w' ⟨rfl, ⟨nd, rfl⟩⟩; refine ⟨_, rfl, ?_⟩) | ((with_reducible refine gate_callee (f := 54) rfl ?_); refine goesL_ (some 64) rfl rfl Tryz.func54 (by kernel_rfl) rfl #[.string (s1.extract ((ji17) : Int).toNat s1.size)] rfl (by (try simp only [List.map_toArray, List.map_cons, List.map_nil]); first | done | (simp only [hji17, hji3]; rfl) | rfl | (simp only [List.length_drop, List.length_take]; rfl)) ?_; (with_reducible refine (pylonref01_Read.calls k1 (s1.extract ((ji17) : Int).toNat s1.size) t383 t384 _ A23.out).mono ?_); rintro e w' ⟨rfl, ⟨nd, rfl⟩⟩; refine ⟨_, rfl, ?_⟩; have p26 : 0 ≤ (x4_1 : Int) := of_decide_eq_true (by first | (with_reducible assumption) | assumption); have q26 : x4_1 < (s1.size : Int) := of_decide_eq_true (by first | (with_reducible assumption) | assumption); have hx26 := bt_at s1 x4_1; replace p26 := eq_true p26; replace q26 := eq_true q26) | ((with_reducible refine gate_callee (f := 24) rfl ?_); refine gL_ (some 86) Tryz.func24 #[.int .i64 t381, .int .i64 t383] ?_; (with_reducible refine (pylonref02_Of.calls t381 t383 t385 t386 _ A28.out).mono ?_); rintro e w31 ⟨rfl, hb⟩; refine ⟨_, rfl, ?_⟩; replace HB := Aside0.mk (bst_ hb); (try clear hb); (try clear hb2); (try clear hk); (try clear hi)))
                  go_ret2
                  exact ⟨by first | rfl | (simp [errW_none, errW_some] <;> rfl) | (simp only [← hji3, ← hji17]; first | rfl | (simp [errW_none, errW_some] <;> rfl)) | (simp [*, errW_none, errW_some] <;> rfl), by repeat (first | (with_reducible first | exact HB.out | apply below_alloc | apply pw_below_drewN | apply below_drew1) | exact HB.out)⟩
               ·
                rw [if_neg c25] at H
                obtain ⟨c25b0, c25b1⟩ := eqF_ c25
                simp only [Option.some.injEq, Prod.mk.injEq] at H
                obtain ⟨rfl, rfl⟩ := H
                have p12 : 0 ≤ (x4_1 : Int) := of_decide_eq_true (by first | (with_reducible assumption) | assumption)
                have q12 : x4_1 < (s1.size : Int) := of_decide_eq_true (by first | (with_reducible assumption) | assumption)
                have hx12 := bt_at s1 x4_1
                replace p12 := eq_true p12
                replace q12 := eq_true q12
                have p16 : 0 ≤ (x4_1 : Int) := of_decide_eq_true (by first | (with_reducible assumption) | assumption)
                have q16 : x4_1 < (s1.size : Int) := of_decide_eq_true (by first | (with_reducible assumption) | assumption)
                have hx16 := bt_at s1 x4_1
                replace p16 := eq_true p16
                replace q16 := eq_true q16
                go_wp2_with (first | ((with_reducible refine gate_callee (f := 54) rfl ?_); refine goesL_ (some 59) rfl rfl Tryz.func54 (by kernel_rfl) rfl #[.string (s1.extract 0 (x4_1 : Int).toNat)] rfl (by (try simp only [List.map_toArray, List.map_cons, List.map_nil]); first | done | (simp only [hji3]; rfl) | rfl | (simp only [List.length_drop, List.length_take]; rfl)) ?_; (with_reducible refine (pylonref01_Read.calls k1 (s1.extract 0 (x4_1 : Int).toNat) t381 t382 _ A22.out).mono ?_); rintro e w' ⟨rfl, ⟨nd, rfl⟩⟩; refine ⟨_, rfl, ?_⟩) | ((with_reducible refine gate_callee (f := 54) rfl ?_); refine goesL_ (some 64) rfl rfl Tryz.func54 (by kernel_rfl) rfl #[.string (s1.extract ((ji17) : Int).toNat s1.size)] rfl (by (try simp only [List.map_toArray, List.map_cons, List.map_nil]); first | done | (simp only [hji17, hji3]; rfl) | rfl | (simp only [List.length_drop, List.length_take]; rfl)) ?_; (with_reducible refine (pylonref01_Read.calls k1 (s1.extract ((ji17) : Int).toNat s1.size) t383 t384 _ A23.out).mono ?_); rintro e w' ⟨rfl, ⟨nd, rfl⟩⟩; refine ⟨_, rfl, ?_⟩))
                go_ret2
                exact ⟨by first | rfl | (simp [errW_none, errW_some] <;> rfl) | (simp only [← hji3, ← hji17]; first | rfl | (simp [errW_none, errW_some] <;> rfl)) | (simp [*, errW_none, errW_some] <;> rfl), by repeat (first | (with_reducible first | exact HB.out | apply below_alloc | apply pw_below_drewN | apply below_drew1) | exact HB.out)⟩
              ·
               rw [if_neg c24] at H
               obtain ⟨c24b0, c24b1⟩ := eqF_ c24
               simp only [Option.some.injEq, Prod.mk.injEq] at H
               obtain ⟨rfl, rfl⟩ := H
               have p12 : 0 ≤ (x4_1 : Int) := of_decide_eq_true (by first | (with_reducible assumption) | assumption)
               have q12 : x4_1 < (s1.size : Int) := of_decide_eq_true (by first | (with_reducible assumption) | assumption)
               have hx12 := bt_at s1 x4_1
               replace p12 := eq_true p12
               replace q12 := eq_true q12
               have p16 : 0 ≤ (x4_1 : Int) := of_decide_eq_true (by first | (with_reducible assumption) | assumption)
               have q16 : x4_1 < (s1.size : Int) := of_decide_eq_true (by first | (with_reducible assumption) | assumption)
               have hx16 := bt_at s1 x4_1
               replace p16 := eq_true p16
               replace q16 := eq_true q16
               go_wp2_with (first | ((with_reducible refine gate_callee (f := 54) rfl ?_); refine goesL_ (some 59) rfl rfl Tryz.func54 (by kernel_rfl) rfl #[.string (s1.extract 0 (x4_1 : Int).toNat)] rfl (by (try simp only [List.map_toArray, List.map_cons, List.map_nil]); first | done | (simp only [hji3]; rfl) | rfl | (simp only [List.length_drop, List.length_take]; rfl)) ?_; (with_reducible refine (pylonref01_Read.calls k1 (s1.extract 0 (x4_1 : Int).toNat) t381 t382 _ A22.out).mono ?_); rintro e w' ⟨rfl, ⟨nd, rfl⟩⟩; refine ⟨_, rfl, ?_⟩) | ((with_reducible refine gate_callee (f := 54) rfl ?_); refine goesL_ (some 64) rfl rfl Tryz.func54 (by kernel_rfl) rfl #[.string (s1.extract ((ji17) : Int).toNat s1.size)] rfl (by (try simp only [List.map_toArray, List.map_cons, List.map_nil]); first | done | (simp only [hji17, hji3]; rfl) | rfl | (simp only [List.length_drop, List.length_take]; rfl)) ?_; (with_reducible refine (pylonref01_Read.calls k1 (s1.extract ((ji17) : Int).toNat s1.size) t383 t384 _ A23.out).mono ?_); rintro e w' ⟨rfl, ⟨nd, rfl⟩⟩; refine ⟨_, rfl, ?_⟩))
               go_ret2
               exact ⟨by first | rfl | (simp [errW_none, errW_some] <;> rfl) | (simp only [← hji3, ← hji17]; first | rfl | (simp [errW_none, errW_some] <;> rfl)) | (simp [*, errW_none, errW_some] <;> rfl), by repeat (first | (with_reducible first | exact HB.out | apply below_alloc | apply pw_below_drewN | apply below_drew1) | exact HB.out)⟩
             ·
              rw [if_neg c19] at H
              exact absurd H (by simp)
            ·
             rw [if_neg c18] at H
             exact absurd H (by simp)
           ·
            rw [if_neg c15] at H
            exact absurd H (by simp)
          ·
           rw [if_neg c13] at H
           obtain ⟨c13b0, c13b1⟩ := eqF_ c13
           by_cases c33 : (bt s1 x4_1) = 45
           ·
            rw [if_pos c33] at H
            obtain ⟨c33b0, c33b1⟩ := eqT_ c33
            clear c33
            have c34b0 := eq_true (of_decide_eq_true (by first | (with_reducible assumption) | assumption) : 0 ≤ x4_1)
            by_cases c35 : x4_1 ≤ (s1.size : Int)
            ·
             rw [if_pos c35] at H
             have c35b0 := eq_true c35
             have c35b1 : decide (x4_1 ≤ (s1.size : Int)) = true := decide_eq_true c35
             clear c35
             have c37b0 := eq_true (of_decide_eq_true (by first | (with_reducible assumption) | assumption) : 0 ≤ x4_1)
             have c38b0 := eq_true (of_decide_eq_true (by first | (with_reducible assumption) | assumption) : x4_1 ≤ (s1.size : Int))
             replace H := Option.bind_eq_some_iff.mp H
             obtain ⟨⟨t387, t388⟩, A390, H⟩ := H
             replace H : ((pylonref01_Read.f k1 (s1.extract (x4_1 : Int).toNat s1.size)).bind fun bt389 => (if t388 = 0 then (if bt389.2 = 0 then ((pylonref02_Of.f t387 bt389.1).bind fun bt391 => (if bt391.2 = 0 then (some (bt391.1, 0)) else (some (cx 0 0, 1)))) else (some (cx 0 0, 1))) else (some (cx 0 0, 1)))) = some (r1, r2) := H
             have A39 := Aside0.mk A390
             clear A390
             replace H := Option.bind_eq_some_iff.mp H
             obtain ⟨⟨t389, t390⟩, A400, H⟩ := H
             replace H : (if t388 = 0 then (if t390 = 0 then ((pylonref02_Of.f t387 t389).bind fun bt391 => (if bt391.2 = 0 then (some (bt391.1, 0)) else (some (cx 0 0, 1)))) else (some (cx 0 0, 1))) else (some (cx 0 0, 1))) = some (r1, r2) := H
             have A40 := Aside0.mk A400
             clear A400
             by_cases c41 : t388 = 0
             ·
              rw [if_pos c41] at H
              obtain ⟨c41b0, c41b1⟩ := eqT_ c41
              clear c41
              by_cases c42 : t390 = 0
              ·
               rw [if_pos c42] at H
               obtain ⟨c42b0, c42b1⟩ := eqT_ c42
               clear c42
               replace H := Option.bind_eq_some_iff.mp H
               obtain ⟨⟨t391, t392⟩, A440, H⟩ := H
               replace H : (if t392 = 0 then (some (t391, 0)) else (some (cx 0 0, 1))) = some (r1, r2) := H
               have A44 := Aside0.mk A440
               clear A440
               by_cases c45 : t392 = 0
               ·
                rw [if_pos c45] at H
                obtain ⟨c45b0, c45b1⟩ := eqT_ c45
                clear c45
                simp only [Option.some.injEq, Prod.mk.injEq] at H
                obtain ⟨rfl, rfl⟩ := H
                have p12 : 0 ≤ (x4_1 : Int) := of_decide_eq_true (by first | (with_reducible assumption) | assumption)
                have q12 : x4_1 < (s1.size : Int) := of_decide_eq_true (by first | (with_reducible assumption) | assumption)
                have hx12 := bt_at s1 x4_1
                replace p12 := eq_true p12
                replace q12 := eq_true q12
                have p32 : 0 ≤ (x4_1 : Int) := of_decide_eq_true (by first | (with_reducible assumption) | assumption)
                have q32 : x4_1 < (s1.size : Int) := of_decide_eq_true (by first | (with_reducible assumption) | assumption)
                have hx32 := bt_at s1 x4_1
                replace p32 := eq_true p32
                replace q32 := eq_true q32
                have p36 : 0 ≤ (x4_1 : Int) := of_decide_eq_true (by first | (with_reducible assumption) | assumption)
                have q36 : x4_1 < (s1.size : Int) := of_decide_eq_true (by first | (with_reducible assumption) | assumption)
                have hx36 := bt_at s1 x4_1
                replace p36 := eq_true p36
                replace q36 := eq_true q36
                go_wp2_with (first | ((with_reducible refine gate_callee (f := 54) rfl ?_); refine goesL_ (some 59) rfl rfl Tryz.func54 (by kernel_rfl) rfl #[.string (s1.extract 0 (x4_1 : Int).toNat)] rfl (by (try simp only [List.map_toArray, List.map_cons, List.map_nil]); first | done | (simp only [hji3]; rfl) | rfl | (simp only [List.length_drop, List.length_take]; rfl)) ?_; (with_reducible refine (pylonref01_Read.calls k1 (s1.extract 0 (x4_1 : Int).toNat) t387 t388 _ A39.out).mono ?_); rintro e w' ⟨rfl, ⟨nd, rfl⟩⟩; refine ⟨_, rfl, ?_⟩) | ((with_reducible refine gate_callee (f := 54) rfl ?_); refine goesL_ (some 64) rfl rfl Tryz.func54 (by kernel_rfl) rfl #[.string (s1.extract (x4_1 : Int).toNat s1.size)] rfl (by (try simp only [List.map_toArray, List.map_cons, List.map_nil]); first | done | (simp only [hji3]; rfl) | rfl | (simp only [List.length_drop, List.length_take]; rfl)) ?_; (with_reducible refine (pylonref01_Read.calls k1 (s1.extract (x4_1 : Int).toNat s1.size) t389 t390 _ A40.out).mono ?_); rintro e w' ⟨rfl, ⟨nd, rfl⟩⟩; refine ⟨_, rfl, ?_⟩; have p43 : 0 ≤ (x4_1 : Int) := of_decide_eq_true (by first | (with_reducible assumption) | assumption); have q43 : x4_1 < (s1.size : Int) := of_decide_eq_true (by first | (with_reducible assumption) | assumption); have hx43 := bt_at s1 x4_1; replace p43 := eq_true p43; replace q43 := eq_true q43) | ((with_reducible refine gate_callee (f := 24) rfl ?_); refine gL_ (some 86) Tryz.func24 #[.int .i64 t387, .int .i64 t389] ?_; (with_reducible refine (pylonref02_Of.calls t387 t389 t391 t392 _ A44.out).mono ?_); rintro e w46 ⟨rfl, hb⟩; refine ⟨_, rfl, ?_⟩; replace HB := Aside0.mk (bst_ hb); (try clear hb); (try clear hb2); (try clear hk); (try clear hi)))
                go_ret2
                exact ⟨by first | rfl | (simp [errW_none, errW_some] <;> rfl) | (simp only [← hji3]; first | rfl | (simp [errW_none, errW_some] <;> rfl)) | (simp [*, errW_none, errW_some] <;> rfl), by repeat (first | (with_reducible first | exact HB.out | apply below_alloc | apply pw_below_drewN | apply below_drew1) | exact HB.out)⟩
               ·
                rw [if_neg c45] at H
                obtain ⟨c45b0, c45b1⟩ := eqF_ c45
                simp only [Option.some.injEq, Prod.mk.injEq] at H
                obtain ⟨rfl, rfl⟩ := H
                have p12 : 0 ≤ (x4_1 : Int) := of_decide_eq_true (by first | (with_reducible assumption) | assumption)
                have q12 : x4_1 < (s1.size : Int) := of_decide_eq_true (by first | (with_reducible assumption) | assumption)
                have hx12 := bt_at s1 x4_1
                replace p12 := eq_true p12
                replace q12 := eq_true q12
                have p32 : 0 ≤ (x4_1 : Int) := of_decide_eq_true (by first | (with_reducible assumption) | assumption)
                have q32 : x4_1 < (s1.size : Int) := of_decide_eq_true (by first | (with_reducible assumption) | assumption)
                have hx32 := bt_at s1 x4_1
                replace p32 := eq_true p32
                replace q32 := eq_true q32
                have p36 : 0 ≤ (x4_1 : Int) := of_decide_eq_true (by first | (with_reducible assumption) | assumption)
                have q36 : x4_1 < (s1.size : Int) := of_decide_eq_true (by first | (with_reducible assumption) | assumption)
                have hx36 := bt_at s1 x4_1
                replace p36 := eq_true p36
                replace q36 := eq_true q36
                go_wp2_with (first | ((with_reducible refine gate_callee (f := 54) rfl ?_); refine goesL_ (some 59) rfl rfl Tryz.func54 (by kernel_rfl) rfl #[.string (s1.extract 0 (x4_1 : Int).toNat)] rfl (by (try simp only [List.map_toArray, List.map_cons, List.map_nil]); first | done | (simp only [hji3]; rfl) | rfl | (simp only [List.length_drop, List.length_take]; rfl)) ?_; (with_reducible refine (pylonref01_Read.calls k1 (s1.extract 0 (x4_1 : Int).toNat) t387 t388 _ A39.out).mono ?_); rintro e w' ⟨rfl, ⟨nd, rfl⟩⟩; refine ⟨_, rfl, ?_⟩) | ((with_reducible refine gate_callee (f := 54) rfl ?_); refine goesL_ (some 64) rfl rfl Tryz.func54 (by kernel_rfl) rfl #[.string (s1.extract (x4_1 : Int).toNat s1.size)] rfl (by (try simp only [List.map_toArray, List.map_cons, List.map_nil]); first | done | (simp only [hji3]; rfl) | rfl | (simp only [List.length_drop, List.length_take]; rfl)) ?_; (with_reducible refine (pylonref01_Read.calls k1 (s1.extract (x4_1 : Int).toNat s1.size) t389 t390 _ A40.out).mono ?_); rintro e w' ⟨rfl, ⟨nd, rfl⟩⟩; refine ⟨_, rfl, ?_⟩; have p43 : 0 ≤ (x4_1 : Int) := of_decide_eq_true (by first | (with_reducible assumption) | assumption); have q43 : x4_1 < (s1.size : Int) := of_decide_eq_true (by first | (with_reducible assumption) | assumption); have hx43 := bt_at s1 x4_1; replace p43 := eq_true p43; replace q43 := eq_true q43) | ((with_reducible refine gate_callee (f := 24) rfl ?_); refine gL_ (some 86) Tryz.func24 #[.int .i64 t387, .int .i64 t389] ?_; (with_reducible refine (pylonref02_Of.calls t387 t389 t391 t392 _ A44.out).mono ?_); rintro e w47 ⟨rfl, hb⟩; refine ⟨_, rfl, ?_⟩; replace HB := Aside0.mk (bst_ hb); (try clear hb); (try clear hb2); (try clear hk); (try clear hi)))
                go_ret2
                exact ⟨by first | rfl | (simp [errW_none, errW_some] <;> rfl) | (simp only [← hji3]; first | rfl | (simp [errW_none, errW_some] <;> rfl)) | (simp [*, errW_none, errW_some] <;> rfl), by repeat (first | (with_reducible first | exact HB.out | apply below_alloc | apply pw_below_drewN | apply below_drew1) | exact HB.out)⟩
              ·
               rw [if_neg c42] at H
               obtain ⟨c42b0, c42b1⟩ := eqF_ c42
               simp only [Option.some.injEq, Prod.mk.injEq] at H
               obtain ⟨rfl, rfl⟩ := H
               have p12 : 0 ≤ (x4_1 : Int) := of_decide_eq_true (by first | (with_reducible assumption) | assumption)
               have q12 : x4_1 < (s1.size : Int) := of_decide_eq_true (by first | (with_reducible assumption) | assumption)
               have hx12 := bt_at s1 x4_1
               replace p12 := eq_true p12
               replace q12 := eq_true q12
               have p32 : 0 ≤ (x4_1 : Int) := of_decide_eq_true (by first | (with_reducible assumption) | assumption)
               have q32 : x4_1 < (s1.size : Int) := of_decide_eq_true (by first | (with_reducible assumption) | assumption)
               have hx32 := bt_at s1 x4_1
               replace p32 := eq_true p32
               replace q32 := eq_true q32
               have p36 : 0 ≤ (x4_1 : Int) := of_decide_eq_true (by first | (with_reducible assumption) | assumption)
               have q36 : x4_1 < (s1.size : Int) := of_decide_eq_true (by first | (with_reducible assumption) | assumption)
               have hx36 := bt_at s1 x4_1
               replace p36 := eq_true p36
               replace q36 := eq_true q36
               go_wp2_with (first | ((with_reducible refine gate_callee (f := 54) rfl ?_); refine goesL_ (some 59) rfl rfl Tryz.func54 (by kernel_rfl) rfl #[.string (s1.extract 0 (x4_1 : Int).toNat)] rfl (by (try simp only [List.map_toArray, List.map_cons, List.map_nil]); first | done | (simp only [hji3]; rfl) | rfl | (simp only [List.length_drop, List.length_take]; rfl)) ?_; (with_reducible refine (pylonref01_Read.calls k1 (s1.extract 0 (x4_1 : Int).toNat) t387 t388 _ A39.out).mono ?_); rintro e w' ⟨rfl, ⟨nd, rfl⟩⟩; refine ⟨_, rfl, ?_⟩) | ((with_reducible refine gate_callee (f := 54) rfl ?_); refine goesL_ (some 64) rfl rfl Tryz.func54 (by kernel_rfl) rfl #[.string (s1.extract (x4_1 : Int).toNat s1.size)] rfl (by (try simp only [List.map_toArray, List.map_cons, List.map_nil]); first | done | (simp only [hji3]; rfl) | rfl | (simp only [List.length_drop, List.length_take]; rfl)) ?_; (with_reducible refine (pylonref01_Read.calls k1 (s1.extract (x4_1 : Int).toNat s1.size) t389 t390 _ A40.out).mono ?_); rintro e w' ⟨rfl, ⟨nd, rfl⟩⟩; refine ⟨_, rfl, ?_⟩))
               go_ret2
               exact ⟨by first | rfl | (simp [errW_none, errW_some] <;> rfl) | (simp only [← hji3]; first | rfl | (simp [errW_none, errW_some] <;> rfl)) | (simp [*, errW_none, errW_some] <;> rfl), by repeat (first | (with_reducible first | exact HB.out | apply below_alloc | apply pw_below_drewN | apply below_drew1) | exact HB.out)⟩
             ·
              rw [if_neg c41] at H
              obtain ⟨c41b0, c41b1⟩ := eqF_ c41
              simp only [Option.some.injEq, Prod.mk.injEq] at H
              obtain ⟨rfl, rfl⟩ := H
              have p12 : 0 ≤ (x4_1 : Int) := of_decide_eq_true (by first | (with_reducible assumption) | assumption)
              have q12 : x4_1 < (s1.size : Int) := of_decide_eq_true (by first | (with_reducible assumption) | assumption)
              have hx12 := bt_at s1 x4_1
              replace p12 := eq_true p12
              replace q12 := eq_true q12
              have p32 : 0 ≤ (x4_1 : Int) := of_decide_eq_true (by first | (with_reducible assumption) | assumption)
              have q32 : x4_1 < (s1.size : Int) := of_decide_eq_true (by first | (with_reducible assumption) | assumption)
              have hx32 := bt_at s1 x4_1
              replace p32 := eq_true p32
              replace q32 := eq_true q32
              have p36 : 0 ≤ (x4_1 : Int) := of_decide_eq_true (by first | (with_reducible assumption) | assumption)
              have q36 : x4_1 < (s1.size : Int) := of_decide_eq_true (by first | (with_reducible assumption) | assumption)
              have hx36 := bt_at s1 x4_1
              replace p36 := eq_true p36
              replace q36 := eq_true q36
              go_wp2_with (first | ((with_reducible refine gate_callee (f := 54) rfl ?_); refine goesL_ (some 59) rfl rfl Tryz.func54 (by kernel_rfl) rfl #[.string (s1.extract 0 (x4_1 : Int).toNat)] rfl (by (try simp only [List.map_toArray, List.map_cons, List.map_nil]); first | done | (simp only [hji3]; rfl) | rfl | (simp only [List.length_drop, List.length_take]; rfl)) ?_; (with_reducible refine (pylonref01_Read.calls k1 (s1.extract 0 (x4_1 : Int).toNat) t387 t388 _ A39.out).mono ?_); rintro e w' ⟨rfl, ⟨nd, rfl⟩⟩; refine ⟨_, rfl, ?_⟩) | ((with_reducible refine gate_callee (f := 54) rfl ?_); refine goesL_ (some 64) rfl rfl Tryz.func54 (by kernel_rfl) rfl #[.string (s1.extract (x4_1 : Int).toNat s1.size)] rfl (by (try simp only [List.map_toArray, List.map_cons, List.map_nil]); first | done | (simp only [hji3]; rfl) | rfl | (simp only [List.length_drop, List.length_take]; rfl)) ?_; (with_reducible refine (pylonref01_Read.calls k1 (s1.extract (x4_1 : Int).toNat s1.size) t389 t390 _ A40.out).mono ?_); rintro e w' ⟨rfl, ⟨nd, rfl⟩⟩; refine ⟨_, rfl, ?_⟩))
              go_ret2
              exact ⟨by first | rfl | (simp [errW_none, errW_some] <;> rfl) | (simp only [← hji3]; first | rfl | (simp [errW_none, errW_some] <;> rfl)) | (simp [*, errW_none, errW_some] <;> rfl), by repeat (first | (with_reducible first | exact HB.out | apply below_alloc | apply pw_below_drewN | apply below_drew1) | exact HB.out)⟩
            ·
             rw [if_neg c35] at H
             exact absurd H (by simp)
           ·
            rw [if_neg c33] at H
            obtain ⟨c33b0, c33b1⟩ := eqF_ c33
            have H' := Aside0.mk H
            clear H
            have p12 : 0 ≤ (x4_1 : Int) := of_decide_eq_true (by first | (with_reducible assumption) | assumption)
            have q12 : x4_1 < (s1.size : Int) := of_decide_eq_true (by first | (with_reducible assumption) | assumption)
            have hx12 := bt_at s1 x4_1
            replace p12 := eq_true p12
            replace q12 := eq_true q12
            have p32 : 0 ≤ (x4_1 : Int) := of_decide_eq_true (by first | (with_reducible assumption) | assumption)
            have q32 : x4_1 < (s1.size : Int) := of_decide_eq_true (by first | (with_reducible assumption) | assumption)
            have hx32 := bt_at s1 x4_1
            replace p32 := eq_true p32
            replace q32 := eq_true q32
            go_wp2
            go_roundg k1
            case measure => have := HK1.out; omega
            case rel => exact ⟨(wrap64 (x4_1 + 1)), (by first | rfl | (simp; done) | (simp [*]; done)), H', ⟨by have := HK1.out; omega⟩, ⟨bl_⟩⟩
         ·
          rw [if_neg c11] at H
          exact absurd H (by simp)
        ·
         rw [if_neg c10] at H
         have c10b0 : decide (x4_1 < (s1.size : Int)) = false := decide_eq_false c10
         clear c10
         simp only [Option.some.injEq, Prod.mk.injEq] at H
         obtain ⟨rfl, rfl⟩ := H
         go_wp2
         go_ret2
         exact ⟨by first | rfl | (simp [errW_none, errW_some] <;> rfl) | (simp only [← hji3]; first | rfl | (simp [errW_none, errW_some] <;> rfl)) | (simp [*, errW_none, errW_some] <;> rfl), by repeat (first | (with_reducible first | exact HB.out | apply below_alloc | apply pw_below_drewN | apply below_drew1) | exact HB.out)⟩
     ·
      rw [if_neg c9] at H
      exact absurd H (by simp)
    ·
     rw [if_neg c7] at H
     obtain ⟨c7b0, c7b1⟩ := eqF_ c7
     simp only [Option.some.injEq, Prod.mk.injEq] at H
     obtain ⟨rfl, rfl⟩ := H
     have p6 : 0 ≤ ((ji3) : Int) := of_decide_eq_true (by first | (with_reducible assumption) | assumption)
     have q6 : (ji3) < (a0.size : Int) := of_decide_eq_true (by first | (with_reducible assumption) | assumption)
     have hx6 := bt_at a0 (ji3)
     replace p6 := eq_true p6
     replace q6 := eq_true q6
     go_enter Tryz.func34, Tryz.ntmps34
     go_wp2
     go_ret2
     exact ⟨by first | rfl | (simp [errW_none, errW_some] <;> rfl) | (simp only [← hji3]; first | rfl | (simp [errW_none, errW_some] <;> rfl)) | (simp [*, errW_none, errW_some] <;> rfl), by repeat (first | (with_reducible first | exact HB.out | apply below_alloc | apply pw_below_drewN | apply below_drew1) | exact HB.out)⟩
   ·
    rw [if_neg c5] at H
    exact absurd H (by simp)
  ·
   rw [if_neg c4] at H
   exact absurd H (by simp)

end Go.Proofs.YtofedlghaopciaaGreatDoor.PA
