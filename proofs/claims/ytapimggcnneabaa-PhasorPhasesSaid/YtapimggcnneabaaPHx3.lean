-- Written by a program of this session for this claim (wip/print2.sh). Lean checks it.
import Derived.Test.YtapimggcnneabaaPHx0
import Derived.Test.YtapimggcnneabaaPHx1
import Derived.Test.YtapimggcnneabaaPHx2
namespace Go.Proofs.Ytapimggcnneabaa.PH
open Go.Proofs.YtapimggcnneabaaW.PrintWords
attribute [local go_sem high] fx_eql fx_neq fx_lss fx_leq fx_gtr fx_geq fx_add fx_sub fx_mul fx_neg fx_toint cxx_add cxx_sub cxx_mul cxx_eql cxx_neq cxx_pick st_float st_complex
open Go.RowKit Go.Proofs.YtapimggcnneabaaW.PrintWords Go.Proofs.YtapimggcnneabaaW.PrintLast Go.Proofs.YtapimggcnneabaaW.PrintMore
attribute [local go_sem] max2_int min2_int max_two min_two max_three min_three max_four min_four   -- for this text's walks alone
set_option linter.unusedVariables false
set_option linter.unusedSimpArgs false

/-! ### pylonlaw02_PhasorPhases: function 7 -/
mutual
def pylonlaw02_PhasorPhases.j0 : Nat → List (S105) → List (S105) → List (S105) → List (S105) → Bool → Option (Bool)
  | 0, _, _, _, _, _ => none
  | k + 1, x0, x1, x2, x3, x46 => if x46 = true then (some true) else ((pylonlaw02_numbers.f k x0).bind fun t141 => ((pylonlaw02_numbers.f k x1).bind fun t144 => ((pylonlaw02_numbers.f k x2).bind fun t147 => ((pylonlaw02_numbers.f k x3).bind fun t150 => ((phasor_Phases.f k t141 t144).bind fun bt153 => ((phasor_Phases.f k t147 t150).bind fun bt155 => ((some (([] : List Cx) : List Cx)).bind fun y157 => (if y157.length + t141.length < 8796093022208 then ((some (y157 ++ t141 : List Cx)).bind fun y160 => (if y160.length + t147.length < 8796093022208 then ((some (([] : List Cx) : List Cx)).bind fun y166 => (if y166.length + t144.length < 8796093022208 then ((some (y166 ++ t144 : List Cx)).bind fun y169 => (if y169.length + t150.length < 8796093022208 then ((phasor_Phases.f k (y160 ++ t147) (y169 ++ t150)).bind fun bt175 => (if bt153.2 = 0 then (pylonlaw02_PhasorPhases.j1 k t141 t144 t147 t150 bt153.1 bt153.2 bt155.1 bt155.2 bt175.1 bt175.2 (bt155.2 != 0)) else (pylonlaw02_PhasorPhases.j1 k t141 t144 t147 t150 bt153.1 bt153.2 bt155.1 bt155.2 bt175.1 bt175.2 true))) else (none))) else (none))) else (none))) else (none)))))))))
def pylonlaw02_PhasorPhases.j1 : Nat → List Cx → List Cx → List Cx → List Cx → Cx → Int → Cx → Int → Cx → Int → Bool → Option (Bool)
  | 0, _, _, _, _, _, _, _, _, _, _, _ => none
  | k + 1, x9, x10, x11, x12, x13, x14, x15, x16, x17, x18, x86 => if x86 = true then (if x18 = 5 then (if ceq x17.re x17.im 0 0 = true then (if x14 = 0 then (if x16 = 0 then (some true) else (some (x16 == 5))) else (if x14 = 5 then (if x16 = 0 then (some true) else (some (x16 == 5))) else (some false))) else (some false)) else (some false)) else (if x18 = 0 then (if caddok x13.re x13.im x15.re x15.im = true then (pylonlaw02_PhasorPhases.j2 k x9 x10 x11 x12 x13 x17 (!(ceq x17.re x17.im (caddre x13.re x13.im x15.re x15.im) (caddim x13.re x13.im x15.re x15.im)))) else (none)) else (pylonlaw02_PhasorPhases.j2 k x9 x10 x11 x12 x13 x17 true))
def pylonlaw02_PhasorPhases.j2 : Nat → List Cx → List Cx → List Cx → List Cx → Cx → Cx → Bool → Option (Bool)
  | 0, _, _, _, _, _, _, _ => none
  | k + 1, x9, x10, x11, x12, x13, x17, x117 => if x117 = true then (some false) else (if (x9.length : Int) = 1 then (pylonlaw02_PhasorPhases.j3 k x9 x10 x11 x12 x13 x17 ((x11.length : Int) == 1)) else (pylonlaw02_PhasorPhases.j3 k x9 x10 x11 x12 x13 x17 false))
def pylonlaw02_PhasorPhases.j3 : Nat → List Cx → List Cx → List Cx → List Cx → Cx → Cx → Bool → Option (Bool)
  | 0, _, _, _, _, _, _, _ => none
  | k + 1, x9, x10, x11, x12, x13, x17, x125 => if x125 = true then (if 0 < (x9.length : Int) then (if 0 < (x10.length : Int) then ((phasor_Power.f (rdOf (cx 0 0) x9 0) (rdOf (cx 0 0) x10 0)).bind fun bt179 => (if 0 < (x11.length : Int) then (if 0 < (x12.length : Int) then ((phasor_Aron.f (rdOf (cx 0 0) x9 0) (rdOf (cx 0 0) x11 0) (rdOf (cx 0 0) x10 0) (rdOf (cx 0 0) x12 0)).bind fun bt185 => (if bt179.2 = 0 then (if bt185.2 = 0 then (if ceq bt179.1.re bt179.1.im x13.re x13.im = true then (some (ceq bt185.1.re bt185.1.im x17.re x17.im)) else (some false)) else (some false)) else (some false))) else (none)) else (none))) else (none)) else (none)) else (some true)
end
def pylonlaw02_PhasorPhases.f (k : Nat) (l0 : List (S105)) (l1 : List (S105)) (l2 : List (S105)) (l3 : List (S105)) : Option (Bool) := (pylonlaw02_awake.f).bind fun t140 => (if t140 = true then (if (l0.length : Int) = (l1.length : Int) then (if (l2.length : Int) = (l3.length : Int) then (if (l0.length : Int) > 2 then (pylonlaw02_PhasorPhases.j0 k l0 l1 l2 l3 true) else (pylonlaw02_PhasorPhases.j0 k l0 l1 l2 l3 (decide ((l2.length : Int) > 2)))) else (pylonlaw02_PhasorPhases.j0 k l0 l1 l2 l3 true)) else (pylonlaw02_PhasorPhases.j0 k l0 l1 l2 l3 true)) else (some false))
theorem pylonlaw02_PhasorPhases.mono_l : ∀ k, (∀ y0 y1 y2 y3 y4, LeO (pylonlaw02_PhasorPhases.j0 k y0 y1 y2 y3 y4) (pylonlaw02_PhasorPhases.j0 (k + 1) y0 y1 y2 y3 y4)) ∧ (∀ y0 y1 y2 y3 y4 y5 y6 y7 y8 y9 y10, LeO (pylonlaw02_PhasorPhases.j1 k y0 y1 y2 y3 y4 y5 y6 y7 y8 y9 y10) (pylonlaw02_PhasorPhases.j1 (k + 1) y0 y1 y2 y3 y4 y5 y6 y7 y8 y9 y10)) ∧ (∀ y0 y1 y2 y3 y4 y5 y6, LeO (pylonlaw02_PhasorPhases.j2 k y0 y1 y2 y3 y4 y5 y6) (pylonlaw02_PhasorPhases.j2 (k + 1) y0 y1 y2 y3 y4 y5 y6)) ∧ (∀ y0 y1 y2 y3 y4 y5 y6, LeO (pylonlaw02_PhasorPhases.j3 k y0 y1 y2 y3 y4 y5 y6) (pylonlaw02_PhasorPhases.j3 (k + 1) y0 y1 y2 y3 y4 y5 y6))
  | 0 => ⟨fun _ _ _ _ _ r h => by simp [pylonlaw02_PhasorPhases.j0] at h, fun _ _ _ _ _ _ _ _ _ _ _ r h => by simp [pylonlaw02_PhasorPhases.j1] at h, fun _ _ _ _ _ _ _ r h => by simp [pylonlaw02_PhasorPhases.j2] at h, fun _ _ _ _ _ _ _ r h => by simp [pylonlaw02_PhasorPhases.j3] at h⟩
  | k + 1 => by
    obtain ⟨ih0, ih1, ih2, ih3⟩ := pylonlaw02_PhasorPhases.mono_l k
    refine ⟨?_, ?_, ?_, ?_⟩
    · intro y0 y1 y2 y3 y4
      unfold pylonlaw02_PhasorPhases.j0
      repeat' first
      | (with_reducible exact ih0 _ _ _ _ _)
      | (with_reducible exact ih1 _ _ _ _ _ _ _ _ _ _ _)
      | (with_reducible exact ih2 _ _ _ _ _ _ _)
      | (with_reducible exact ih3 _ _ _ _ _ _ _)
      | (with_reducible exact phasor_Phases.mono _ _ _)
      | (with_reducible exact pylonlaw02_numbers.mono _ _)
      | (with_reducible exact LeO.refl _)
      | (with_reducible exact LeO.none _)
      | (with_reducible refine LeO.ite ?_ ?_)
      | (with_reducible refine LeO.bind ?_ (fun _ => ?_))
      | exact ih0 _ _ _ _ _
      | exact ih1 _ _ _ _ _ _ _ _ _ _ _
      | exact ih2 _ _ _ _ _ _ _
      | exact ih3 _ _ _ _ _ _ _
      | exact phasor_Phases.mono _ _ _
      | exact pylonlaw02_numbers.mono _ _
      | exact LeO.none _
      | refine LeO.ite ?_ ?_
      | refine LeO.bind ?_ (fun _ => ?_)
    · intro y0 y1 y2 y3 y4 y5 y6 y7 y8 y9 y10
      unfold pylonlaw02_PhasorPhases.j1
      repeat' first
      | (with_reducible exact ih0 _ _ _ _ _)
      | (with_reducible exact ih1 _ _ _ _ _ _ _ _ _ _ _)
      | (with_reducible exact ih2 _ _ _ _ _ _ _)
      | (with_reducible exact ih3 _ _ _ _ _ _ _)
      | (with_reducible exact phasor_Phases.mono _ _ _)
      | (with_reducible exact pylonlaw02_numbers.mono _ _)
      | (with_reducible exact LeO.refl _)
      | (with_reducible exact LeO.none _)
      | (with_reducible refine LeO.ite ?_ ?_)
      | (with_reducible refine LeO.bind ?_ (fun _ => ?_))
      | exact ih0 _ _ _ _ _
      | exact ih1 _ _ _ _ _ _ _ _ _ _ _
      | exact ih2 _ _ _ _ _ _ _
      | exact ih3 _ _ _ _ _ _ _
      | exact phasor_Phases.mono _ _ _
      | exact pylonlaw02_numbers.mono _ _
      | exact LeO.none _
      | refine LeO.ite ?_ ?_
      | refine LeO.bind ?_ (fun _ => ?_)
    · intro y0 y1 y2 y3 y4 y5 y6
      unfold pylonlaw02_PhasorPhases.j2
      repeat' first
      | (with_reducible exact ih0 _ _ _ _ _)
      | (with_reducible exact ih1 _ _ _ _ _ _ _ _ _ _ _)
      | (with_reducible exact ih2 _ _ _ _ _ _ _)
      | (with_reducible exact ih3 _ _ _ _ _ _ _)
      | (with_reducible exact phasor_Phases.mono _ _ _)
      | (with_reducible exact pylonlaw02_numbers.mono _ _)
      | (with_reducible exact LeO.refl _)
      | (with_reducible exact LeO.none _)
      | (with_reducible refine LeO.ite ?_ ?_)
      | (with_reducible refine LeO.bind ?_ (fun _ => ?_))
      | exact ih0 _ _ _ _ _
      | exact ih1 _ _ _ _ _ _ _ _ _ _ _
      | exact ih2 _ _ _ _ _ _ _
      | exact ih3 _ _ _ _ _ _ _
      | exact phasor_Phases.mono _ _ _
      | exact pylonlaw02_numbers.mono _ _
      | exact LeO.none _
      | refine LeO.ite ?_ ?_
      | refine LeO.bind ?_ (fun _ => ?_)
    · intro y0 y1 y2 y3 y4 y5 y6
      unfold pylonlaw02_PhasorPhases.j3
      repeat' first
      | (with_reducible exact ih0 _ _ _ _ _)
      | (with_reducible exact ih1 _ _ _ _ _ _ _ _ _ _ _)
      | (with_reducible exact ih2 _ _ _ _ _ _ _)
      | (with_reducible exact ih3 _ _ _ _ _ _ _)
      | (with_reducible exact phasor_Phases.mono _ _ _)
      | (with_reducible exact pylonlaw02_numbers.mono _ _)
      | (with_reducible exact LeO.refl _)
      | (with_reducible exact LeO.none _)
      | (with_reducible refine LeO.ite ?_ ?_)
      | (with_reducible refine LeO.bind ?_ (fun _ => ?_))
      | exact ih0 _ _ _ _ _
      | exact ih1 _ _ _ _ _ _ _ _ _ _ _
      | exact ih2 _ _ _ _ _ _ _
      | exact ih3 _ _ _ _ _ _ _
      | exact phasor_Phases.mono _ _ _
      | exact pylonlaw02_numbers.mono _ _
      | exact LeO.none _
      | refine LeO.ite ?_ ?_
      | refine LeO.bind ?_ (fun _ => ?_)
theorem pylonlaw02_PhasorPhases.mono : ∀ a0 a1 a2 a3 k, LeO (pylonlaw02_PhasorPhases.f k a0 a1 a2 a3) (pylonlaw02_PhasorPhases.f (k + 1) a0 a1 a2 a3) := by
  intro a0 a1 a2 a3 k
  obtain ⟨ih0, ih1, ih2, ih3⟩ := pylonlaw02_PhasorPhases.mono_l k
  unfold pylonlaw02_PhasorPhases.f
  repeat' first
      | (with_reducible exact ih0 _ _ _ _ _)
      | (with_reducible exact ih1 _ _ _ _ _ _ _ _ _ _ _)
      | (with_reducible exact ih2 _ _ _ _ _ _ _)
      | (with_reducible exact ih3 _ _ _ _ _ _ _)
      | (with_reducible exact phasor_Phases.mono _ _ _)
      | (with_reducible exact pylonlaw02_numbers.mono _ _)
      | (with_reducible exact LeO.refl _)
      | (with_reducible exact LeO.none _)
      | (with_reducible refine LeO.ite ?_ ?_)
      | (with_reducible refine LeO.bind ?_ (fun _ => ?_))
      | exact ih0 _ _ _ _ _
      | exact ih1 _ _ _ _ _ _ _ _ _ _ _
      | exact ih2 _ _ _ _ _ _ _
      | exact ih3 _ _ _ _ _ _ _
      | exact phasor_Phases.mono _ _ _
      | exact pylonlaw02_numbers.mono _ _
      | exact LeO.none _
      | refine LeO.ite ?_ ?_
      | refine LeO.bind ?_ (fun _ => ?_)
def pylonlaw02_PhasorPhases.T14 : Bool × List (List Nat × List Nat) := (true, [([], []), ([0], [0]), ([1], [1]), ([], []), ([3], [3]), ([4], [4]), ([2, 5], [2, 5]), ([6], [6]), ([7], [7]), ([7], [7]), ([8, 6, 0, 1, 2, 3, 4, 5, 6, 7, 8], [8]), ([9, 10, 0, 1, 2, 3, 4, 5, 6, 7, 8, 9, 10], [9])])
def pylonlaw02_PhasorPhases.B14 : List Nat := [0, 1, 3, 0, 8, 24, 63, 127, 255, 255, 511, 2047]
theorem pylonlaw02_PhasorPhases.tab14 : rtab .any (opsOf Try.f7 14) = pylonlaw02_PhasorPhases.T14 := by kernel_rfl
theorem pylonlaw02_PhasorPhases.bits14 : waitsOk pylonlaw02_PhasorPhases.T14.2 pylonlaw02_PhasorPhases.B14 = true := by kernel_rfl
def pylonlaw02_PhasorPhases.T15 : Bool × List (List Nat × List Nat) := (true, [([], []), ([0], [0]), ([1], [1]), ([], []), ([3], [3]), ([4], [4]), ([], []), ([6], [6]), ([7], [7]), ([], []), ([9], [9]), ([10], [10]), ([2, 5, 8, 11], [2, 5, 8, 11]), ([12], [12]), ([13], [13]), ([13], [13]), ([14, 12, 0, 1, 2, 3, 4, 5, 6, 7, 8, 9, 10, 11, 12, 13, 14], [14]), ([15, 16, 0, 1, 2, 3, 4, 5, 6, 7, 8, 9, 10, 11, 12, 13, 14, 15, 16], [15])])
def pylonlaw02_PhasorPhases.B15 : List Nat := [0, 1, 3, 0, 8, 24, 0, 64, 192, 0, 512, 1536, 4095, 8191, 16383, 16383, 32767, 131071]
theorem pylonlaw02_PhasorPhases.tab15 : rtab .any (opsOf Try.f7 15) = pylonlaw02_PhasorPhases.T15 := by kernel_rfl
theorem pylonlaw02_PhasorPhases.bits15 : waitsOk pylonlaw02_PhasorPhases.T15.2 pylonlaw02_PhasorPhases.B15 = true := by kernel_rfl
set_option maxHeartbeats 8000000 in
set_option maxRecDepth 100000 in
theorem pylonlaw02_PhasorPhases.calls (k : Nat) (A0 : Option Addr) (c0 : Nat) (l0 : List (S105)) (A1 : Option Addr) (c1 : Nat) (l1 : List (S105)) (A2 : Option Addr) (c2 : Nat) (l2 : List (S105)) (A3 : Option Addr) (c3 : Nat) (l3 : List (S105)) (r : Bool) (w : World) (hr0 : Kd.C k105 w A0 l0.length l0) (hc0 : l0.length ≤ c0) (hr1 : Kd.C k105 w A1 l1.length l1) (hc1 : l1.length ≤ c1) (hr2 : Kd.C k105 w A2 l2.length l2) (hc2 : l2.length ≤ c2) (hr3 : Kd.C k105 w A3 l3.length l3) (hc3 : l3.length ≤ c3) (h : pylonlaw02_PhasorPhases.f k l0 l1 l2 l3 = some r) :
    Calls Try.prog 7 #[.slice A0 l0.length c0, .slice A1 l1.length c1, .slice A2 l2.length c2, .slice A3 l3.length c3] w fun e w' => e = .returned (.bool r) ∧ Below w.heap.size w w' := by
  have HR0 := Aside0.mk hr0
  have HC0 := Aside0.mk hc0
  clear hr0 hc0
  have HR1 := Aside0.mk hr1
  have HC1 := Aside0.mk hc1
  clear hr1 hc1
  have HR2 := Aside0.mk hr2
  have HC2 := Aside0.mk hc2
  clear hr2 hc2
  have HR3 := Aside0.mk hr3
  have HC3 := Aside0.mk hc3
  clear hr3 hc3
  have HB := Aside0.mk (Below.refl w.heap.size w)
  have H : ((pylonlaw02_awake.f).bind fun t140 => (if t140 = true then (if (l0.length : Int) = (l1.length : Int) then (if (l2.length : Int) = (l3.length : Int) then (if (l0.length : Int) > 2 then (pylonlaw02_PhasorPhases.j0 k l0 l1 l2 l3 true) else (pylonlaw02_PhasorPhases.j0 k l0 l1 l2 l3 (decide ((l2.length : Int) > 2)))) else (pylonlaw02_PhasorPhases.j0 k l0 l1 l2 l3 true)) else (pylonlaw02_PhasorPhases.j0 k l0 l1 l2 l3 true)) else (some false))) = some r := h
  clear h
  replace H := Option.bind_eq_some_iff.mp H
  obtain ⟨t140, A50, H⟩ := H
  replace H : (if t140 = true then (if (l0.length : Int) = (l1.length : Int) then (if (l2.length : Int) = (l3.length : Int) then (if (l0.length : Int) > 2 then (pylonlaw02_PhasorPhases.j0 k l0 l1 l2 l3 true) else (pylonlaw02_PhasorPhases.j0 k l0 l1 l2 l3 (decide ((l2.length : Int) > 2)))) else (pylonlaw02_PhasorPhases.j0 k l0 l1 l2 l3 true)) else (pylonlaw02_PhasorPhases.j0 k l0 l1 l2 l3 true)) else (some false)) = some r := H
  have A5 := Aside0.mk A50
  clear A50
  by_cases c6 : t140 = true
  · subst c6
    have H1 : (if (l0.length : Int) = (l1.length : Int) then (if (l2.length : Int) = (l3.length : Int) then (if (l0.length : Int) > 2 then (pylonlaw02_PhasorPhases.j0 k l0 l1 l2 l3 true) else (pylonlaw02_PhasorPhases.j0 k l0 l1 l2 l3 (decide ((l2.length : Int) > 2)))) else (pylonlaw02_PhasorPhases.j0 k l0 l1 l2 l3 true)) else (pylonlaw02_PhasorPhases.j0 k l0 l1 l2 l3 true)) = some r := by rw [if_pos rfl] at H; exact H
    clear H
    have H := H1
    clear H1
    have HC7 := Aside0.mk H
    clear H
    go_enter Try.func7, Try.ntmps7
    go_upto_region 3 with (first | ((with_reducible refine gate_callee (f := 24) rfl ?_); refine goesL_ (some 23) rfl rfl Try.func24 (by kernel_rfl) rfl #[] rfl (by (try simp only [List.map_toArray, List.map_cons, List.map_nil]); first | done | rfl | (simp only [List.length_drop, List.length_take]; rfl)) ?_; (with_reducible refine (pylonlaw02_awake.calls  true _ A5.out).mono ?_); rintro e w8 ⟨rfl, hb⟩; refine ⟨_, rfl, ?_⟩; have n0_ := Aside0.mk (below_step (by repeat (first | (with_reducible first | exact HB.out | apply below_alloc | apply pw_below_drewN | apply below_drew1) | exact HB.out)) hb); clear HB; have HB := n0_; clear n0_; (try clear hb); (try clear hb2); (try clear hk); (try clear hi)))
    (try simp only [Act.put, List.setIfInBounds_toArray, List.set_cons_zero, List.set_cons_succ])
    go_cut [46] (fun v46 wc => ∃ (kq : Nat) (x46_6 : Bool), v46 = .bool x46_6 ∧ Aside0 (pylonlaw02_PhasorPhases.j0 kq l0 l1 l2 l3 x46_6 = some r) ∧ Aside0 (kq ≤ k) ∧ Aside0 (Below w.heap.size w wc))
    case first =>
      have H := HC7.out
      clear HC7
      by_cases c9 : (l0.length : Int) = (l1.length : Int)
      · rw [if_pos c9] at H
        have c9b0 : ((l0.length : Int) == (l1.length : Int)) = true := beq_iff_eq.mpr c9
        have c9b1 : ((l0.length : Int) != (l1.length : Int)) = false := bne_eq_false_iff_eq.mpr c9
        have c9b2 : (l0.length == l1.length) = true := by first | simpa using c9 | (simp at c9 ⊢; omega)
        clear c9
        (first | rw [c9b0] | (simp only [i64_w, i32_w]; rw [c9b0]) | skip)
        by_cases c10 : (l2.length : Int) = (l3.length : Int)
        · rw [if_pos c10] at H
          have c10b0 : ((l2.length : Int) == (l3.length : Int)) = true := beq_iff_eq.mpr c10
          have c10b1 : ((l2.length : Int) != (l3.length : Int)) = false := bne_eq_false_iff_eq.mpr c10
          have c10b2 : (l2.length == l3.length) = true := by first | simpa using c10 | (simp at c10 ⊢; omega)
          clear c10
          by_cases c11 : (l0.length : Int) > 2
          · rw [if_pos c11] at H
            have c11b0 : decide (2 < (l0.length : Int)) = true := decide_eq_true c11
            have c11b1 : decide (2 < l0.length) = true := decide_eq_true (by omega)
            clear c11
            have H' := Aside0.mk H
            clear H
            go_wp2
            go_meet
            case rel => exact ⟨_, (true), (by first | rfl | (simp; done) | (simp [*]; done)), H', ⟨by first | omega | exact Nat.le_refl _⟩, ⟨by repeat (first | (with_reducible first | exact HB.out | apply below_alloc | apply pw_below_drewN | apply below_drew1) | exact HB.out)⟩⟩
          · rw [if_neg c11] at H
            have c11b0 : decide (2 < (l0.length : Int)) = false := decide_eq_false c11
            have c11b1 : decide (2 < l0.length) = false := decide_eq_false (by omega)
            clear c11
            have H' := Aside0.mk H
            clear H
            go_wp2
            go_meet
            case rel => exact ⟨_, (decide ((l2.length : Int) > 2)), (by first | rfl | (simp; done) | (simp [*]; done) | (by_cases hdp0_ : (l2.length : Int) > 2 <;> simp [*] <;> done)), H', ⟨by first | omega | exact Nat.le_refl _⟩, ⟨by repeat (first | (with_reducible first | exact HB.out | apply below_alloc | apply pw_below_drewN | apply below_drew1) | exact HB.out)⟩⟩
        · rw [if_neg c10] at H
          have c10b0 : ((l2.length : Int) == (l3.length : Int)) = false := beq_eq_false_iff_ne.mpr c10
          have c10b1 : ((l2.length : Int) != (l3.length : Int)) = true := bne_iff_ne.mpr c10
          have c10b2 : (l2.length == l3.length) = false := by first | simpa using c10 | (simp at c10 ⊢; omega)
          have H' := Aside0.mk H
          clear H
          go_wp2
          go_meet
          case rel => exact ⟨_, (true), (by first | rfl | (simp; done) | (simp [*]; done)), H', ⟨by first | omega | exact Nat.le_refl _⟩, ⟨by repeat (first | (with_reducible first | exact HB.out | apply below_alloc | apply pw_below_drewN | apply below_drew1) | exact HB.out)⟩⟩
      · rw [if_neg c9] at H
        have c9b0 : ((l0.length : Int) == (l1.length : Int)) = false := beq_eq_false_iff_ne.mpr c9
        have c9b1 : ((l0.length : Int) != (l1.length : Int)) = true := bne_iff_ne.mpr c9
        have c9b2 : (l0.length == l1.length) = false := by first | simpa using c9 | (simp at c9 ⊢; omega)
        (first | rw [c9b0] | (simp only [i64_w, i32_w]; rw [c9b0]) | skip)
        have H' := Aside0.mk H
        clear H
        go_wp2
        go_meet
        case rel => exact ⟨_, (true), (by first | rfl | (simp; done) | (simp [*]; done)), H', ⟨by first | omega | exact Nat.le_refl _⟩, ⟨by repeat (first | (with_reducible first | exact HB.out | apply below_alloc | apply pw_below_drewN | apply below_drew1) | exact HB.out)⟩⟩
    case rest =>
      clear HC7
      try clear c1
      try clear c2
      try clear p2
      try clear c3
      try clear c6
      try clear c7
      try clear c9
      try clear c9b0
      try clear c9b1
      try clear c9b2
      try clear c10
      try clear c10b0
      try clear c10b1
      try clear c10b2
      try clear c11
      try clear c11b0
      try clear c11b1
      obtain ⟨kq, x46_6, rfl, HA, HJ6, HB⟩ := hcut
      cases kq with
      | zero => exact absurd HA.out (by simp [pylonlaw02_PhasorPhases.j0])
      | succ kj6 =>
        have H := HA.out
        clear HA
        simp only [pylonlaw02_PhasorPhases.j0] at H
        by_cases c12 : x46_6 = true
        · subst c12
          have H1 : (some true) = some r := by rw [if_pos rfl] at H; exact H
          clear H
          have H := H1
          clear H1
          obtain rfl := Option.some.inj H
          go_wp2
          go_ret
          exact ⟨by first | rfl | (simp [errW_none, errW_some] <;> rfl) | (simp [*, errW_none, errW_some] <;> rfl), by repeat (first | (with_reducible first | exact HB.out | apply below_alloc | apply pw_below_drewN | apply below_drew1) | exact HB.out)⟩
        · replace c12 := Bool.eq_false_iff.mpr c12
          subst c12
          have H1 : ((pylonlaw02_numbers.f kj6 l0).bind fun t141 => ((pylonlaw02_numbers.f kj6 l1).bind fun t144 => ((pylonlaw02_numbers.f kj6 l2).bind fun t147 => ((pylonlaw02_numbers.f kj6 l3).bind fun t150 => ((phasor_Phases.f kj6 t141 t144).bind fun bt153 => ((phasor_Phases.f kj6 t147 t150).bind fun bt155 => ((some (([] : List Cx) : List Cx)).bind fun y157 => (if y157.length + t141.length < 8796093022208 then ((some (y157 ++ t141 : List Cx)).bind fun y160 => (if y160.length + t147.length < 8796093022208 then ((some (([] : List Cx) : List Cx)).bind fun y166 => (if y166.length + t144.length < 8796093022208 then ((some (y166 ++ t144 : List Cx)).bind fun y169 => (if y169.length + t150.length < 8796093022208 then ((phasor_Phases.f kj6 (y160 ++ t147) (y169 ++ t150)).bind fun bt175 => (if bt153.2 = 0 then (pylonlaw02_PhasorPhases.j1 kj6 t141 t144 t147 t150 bt153.1 bt153.2 bt155.1 bt155.2 bt175.1 bt175.2 (bt155.2 != 0)) else (pylonlaw02_PhasorPhases.j1 kj6 t141 t144 t147 t150 bt153.1 bt153.2 bt155.1 bt155.2 bt175.1 bt175.2 true))) else (none))) else (none))) else (none))) else (none))))))))) = some r := by rw [if_neg (show ¬ (false = true) by decide)] at H; exact H
          clear H
          have H := H1
          clear H1
          replace H := Option.bind_eq_some_iff.mp H
          obtain ⟨t141, A130, H⟩ := H
          replace H : ((pylonlaw02_numbers.f kj6 l1).bind fun t144 => ((pylonlaw02_numbers.f kj6 l2).bind fun t147 => ((pylonlaw02_numbers.f kj6 l3).bind fun t150 => ((phasor_Phases.f kj6 t141 t144).bind fun bt153 => ((phasor_Phases.f kj6 t147 t150).bind fun bt155 => ((some (([] : List Cx) : List Cx)).bind fun y157 => (if y157.length + t141.length < 8796093022208 then ((some (y157 ++ t141 : List Cx)).bind fun y160 => (if y160.length + t147.length < 8796093022208 then ((some (([] : List Cx) : List Cx)).bind fun y166 => (if y166.length + t144.length < 8796093022208 then ((some (y166 ++ t144 : List Cx)).bind fun y169 => (if y169.length + t150.length < 8796093022208 then ((phasor_Phases.f kj6 (y160 ++ t147) (y169 ++ t150)).bind fun bt175 => (if bt153.2 = 0 then (pylonlaw02_PhasorPhases.j1 kj6 t141 t144 t147 t150 bt153.1 bt153.2 bt155.1 bt155.2 bt175.1 bt175.2 (bt155.2 != 0)) else (pylonlaw02_PhasorPhases.j1 kj6 t141 t144 t147 t150 bt153.1 bt153.2 bt155.1 bt155.2 bt175.1 bt175.2 true))) else (none))) else (none))) else (none))) else (none)))))))) = some r := H
          have A13 := Aside0.mk A130
          clear A130
          replace H := Option.bind_eq_some_iff.mp H
          obtain ⟨t144, A140, H⟩ := H
          replace H : ((pylonlaw02_numbers.f kj6 l2).bind fun t147 => ((pylonlaw02_numbers.f kj6 l3).bind fun t150 => ((phasor_Phases.f kj6 t141 t144).bind fun bt153 => ((phasor_Phases.f kj6 t147 t150).bind fun bt155 => ((some (([] : List Cx) : List Cx)).bind fun y157 => (if y157.length + t141.length < 8796093022208 then ((some (y157 ++ t141 : List Cx)).bind fun y160 => (if y160.length + t147.length < 8796093022208 then ((some (([] : List Cx) : List Cx)).bind fun y166 => (if y166.length + t144.length < 8796093022208 then ((some (y166 ++ t144 : List Cx)).bind fun y169 => (if y169.length + t150.length < 8796093022208 then ((phasor_Phases.f kj6 (y160 ++ t147) (y169 ++ t150)).bind fun bt175 => (if bt153.2 = 0 then (pylonlaw02_PhasorPhases.j1 kj6 t141 t144 t147 t150 bt153.1 bt153.2 bt155.1 bt155.2 bt175.1 bt175.2 (bt155.2 != 0)) else (pylonlaw02_PhasorPhases.j1 kj6 t141 t144 t147 t150 bt153.1 bt153.2 bt155.1 bt155.2 bt175.1 bt175.2 true))) else (none))) else (none))) else (none))) else (none))))))) = some r := H
          have A14 := Aside0.mk A140
          clear A140
          replace H := Option.bind_eq_some_iff.mp H
          obtain ⟨t147, A150, H⟩ := H
          replace H : ((pylonlaw02_numbers.f kj6 l3).bind fun t150 => ((phasor_Phases.f kj6 t141 t144).bind fun bt153 => ((phasor_Phases.f kj6 t147 t150).bind fun bt155 => ((some (([] : List Cx) : List Cx)).bind fun y157 => (if y157.length + t141.length < 8796093022208 then ((some (y157 ++ t141 : List Cx)).bind fun y160 => (if y160.length + t147.length < 8796093022208 then ((some (([] : List Cx) : List Cx)).bind fun y166 => (if y166.length + t144.length < 8796093022208 then ((some (y166 ++ t144 : List Cx)).bind fun y169 => (if y169.length + t150.length < 8796093022208 then ((phasor_Phases.f kj6 (y160 ++ t147) (y169 ++ t150)).bind fun bt175 => (if bt153.2 = 0 then (pylonlaw02_PhasorPhases.j1 kj6 t141 t144 t147 t150 bt153.1 bt153.2 bt155.1 bt155.2 bt175.1 bt175.2 (bt155.2 != 0)) else (pylonlaw02_PhasorPhases.j1 kj6 t141 t144 t147 t150 bt153.1 bt153.2 bt155.1 bt155.2 bt175.1 bt175.2 true))) else (none))) else (none))) else (none))) else (none)))))) = some r := H
          have A15 := Aside0.mk A150
          clear A150
          replace H := Option.bind_eq_some_iff.mp H
          obtain ⟨t150, A160, H⟩ := H
          replace H : ((phasor_Phases.f kj6 t141 t144).bind fun bt153 => ((phasor_Phases.f kj6 t147 t150).bind fun bt155 => ((some (([] : List Cx) : List Cx)).bind fun y157 => (if y157.length + t141.length < 8796093022208 then ((some (y157 ++ t141 : List Cx)).bind fun y160 => (if y160.length + t147.length < 8796093022208 then ((some (([] : List Cx) : List Cx)).bind fun y166 => (if y166.length + t144.length < 8796093022208 then ((some (y166 ++ t144 : List Cx)).bind fun y169 => (if y169.length + t150.length < 8796093022208 then ((phasor_Phases.f kj6 (y160 ++ t147) (y169 ++ t150)).bind fun bt175 => (if bt153.2 = 0 then (pylonlaw02_PhasorPhases.j1 kj6 t141 t144 t147 t150 bt153.1 bt153.2 bt155.1 bt155.2 bt175.1 bt175.2 (bt155.2 != 0)) else (pylonlaw02_PhasorPhases.j1 kj6 t141 t144 t147 t150 bt153.1 bt153.2 bt155.1 bt155.2 bt175.1 bt175.2 true))) else (none))) else (none))) else (none))) else (none))))) = some r := H
          have A16 := Aside0.mk A160
          clear A160
          replace H := Option.bind_eq_some_iff.mp H
          obtain ⟨⟨t153, t154⟩, A170, H⟩ := H
          replace H : ((phasor_Phases.f kj6 t147 t150).bind fun bt155 => ((some (([] : List Cx) : List Cx)).bind fun y157 => (if y157.length + t141.length < 8796093022208 then ((some (y157 ++ t141 : List Cx)).bind fun y160 => (if y160.length + t147.length < 8796093022208 then ((some (([] : List Cx) : List Cx)).bind fun y166 => (if y166.length + t144.length < 8796093022208 then ((some (y166 ++ t144 : List Cx)).bind fun y169 => (if y169.length + t150.length < 8796093022208 then ((phasor_Phases.f kj6 (y160 ++ t147) (y169 ++ t150)).bind fun bt175 => (if t154 = 0 then (pylonlaw02_PhasorPhases.j1 kj6 t141 t144 t147 t150 t153 t154 bt155.1 bt155.2 bt175.1 bt175.2 (bt155.2 != 0)) else (pylonlaw02_PhasorPhases.j1 kj6 t141 t144 t147 t150 t153 t154 bt155.1 bt155.2 bt175.1 bt175.2 true))) else (none))) else (none))) else (none))) else (none)))) = some r := H
          have A17 := Aside0.mk A170
          clear A170
          replace H := Option.bind_eq_some_iff.mp H
          obtain ⟨⟨t155, t156⟩, A180, H⟩ := H
          replace H : ((some (([] : List Cx) : List Cx)).bind fun y157 => (if y157.length + t141.length < 8796093022208 then ((some (y157 ++ t141 : List Cx)).bind fun y160 => (if y160.length + t147.length < 8796093022208 then ((some (([] : List Cx) : List Cx)).bind fun y166 => (if y166.length + t144.length < 8796093022208 then ((some (y166 ++ t144 : List Cx)).bind fun y169 => (if y169.length + t150.length < 8796093022208 then ((phasor_Phases.f kj6 (y160 ++ t147) (y169 ++ t150)).bind fun bt175 => (if t154 = 0 then (pylonlaw02_PhasorPhases.j1 kj6 t141 t144 t147 t150 t153 t154 t155 t156 bt175.1 bt175.2 (t156 != 0)) else (pylonlaw02_PhasorPhases.j1 kj6 t141 t144 t147 t150 t153 t154 t155 t156 bt175.1 bt175.2 true))) else (none))) else (none))) else (none))) else (none))) = some r := H
          have A18 := Aside0.mk A180
          clear A180
          obtain ⟨y157, hy157⟩ : ∃ y_ : List Cx, y_ = (([] : List Cx)) := ⟨_, rfl⟩
          replace H : (if y157.length + t141.length < 8796093022208 then ((some (y157 ++ t141 : List Cx)).bind fun y160 => (if y160.length + t147.length < 8796093022208 then ((some (([] : List Cx) : List Cx)).bind fun y166 => (if y166.length + t144.length < 8796093022208 then ((some (y166 ++ t144 : List Cx)).bind fun y169 => (if y169.length + t150.length < 8796093022208 then ((phasor_Phases.f kj6 (y160 ++ t147) (y169 ++ t150)).bind fun bt175 => (if t154 = 0 then (pylonlaw02_PhasorPhases.j1 kj6 t141 t144 t147 t150 t153 t154 t155 t156 bt175.1 bt175.2 (t156 != 0)) else (pylonlaw02_PhasorPhases.j1 kj6 t141 t144 t147 t150 t153 t154 t155 t156 bt175.1 bt175.2 true))) else (none))) else (none))) else (none))) else (none)) = some r := by first | (rw [hy157]; with_reducible exact H) | (have H2_ := (Option.bind_some _ _).symm.trans H; rw [hy157]; with_reducible exact H2_) | (have H2_ := (Option.bind_some _ _).symm.trans H; with_reducible exact H2_) | with_reducible exact H | (rw [hy157]; exact H) | exact H
          have Ny157 := Aside0.mk hy157
          clear hy157
          by_cases c19 : y157.length + t141.length < 8796093022208
          · rw [if_pos c19] at H
            have LMc19 := Aside0.mk c19
            clear c19
            obtain ⟨y160, hy160⟩ : ∃ y_ : List Cx, y_ = (y157 ++ t141) := ⟨_, rfl⟩
            replace H : (if y160.length + t147.length < 8796093022208 then ((some (([] : List Cx) : List Cx)).bind fun y166 => (if y166.length + t144.length < 8796093022208 then ((some (y166 ++ t144 : List Cx)).bind fun y169 => (if y169.length + t150.length < 8796093022208 then ((phasor_Phases.f kj6 (y160 ++ t147) (y169 ++ t150)).bind fun bt175 => (if t154 = 0 then (pylonlaw02_PhasorPhases.j1 kj6 t141 t144 t147 t150 t153 t154 t155 t156 bt175.1 bt175.2 (t156 != 0)) else (pylonlaw02_PhasorPhases.j1 kj6 t141 t144 t147 t150 t153 t154 t155 t156 bt175.1 bt175.2 true))) else (none))) else (none))) else (none)) = some r := by first | (rw [hy160]; with_reducible exact H) | (have H2_ := (Option.bind_some _ _).symm.trans H; rw [hy160]; with_reducible exact H2_) | (have H2_ := (Option.bind_some _ _).symm.trans H; with_reducible exact H2_) | with_reducible exact H | (rw [hy160]; exact H) | exact H
            have Ny160 := Aside0.mk hy160
            clear hy160
            by_cases c20 : y160.length + t147.length < 8796093022208
            · rw [if_pos c20] at H
              have LMc20 := Aside0.mk c20
              clear c20
              obtain ⟨y163, hy163⟩ : ∃ y_ : List Cx, y_ = (y160 ++ t147) := ⟨_, rfl⟩
              replace H : ((some (([] : List Cx) : List Cx)).bind fun y166 => (if y166.length + t144.length < 8796093022208 then ((some (y166 ++ t144 : List Cx)).bind fun y169 => (if y169.length + t150.length < 8796093022208 then ((phasor_Phases.f kj6 y163 (y169 ++ t150)).bind fun bt175 => (if t154 = 0 then (pylonlaw02_PhasorPhases.j1 kj6 t141 t144 t147 t150 t153 t154 t155 t156 bt175.1 bt175.2 (t156 != 0)) else (pylonlaw02_PhasorPhases.j1 kj6 t141 t144 t147 t150 t153 t154 t155 t156 bt175.1 bt175.2 true))) else (none))) else (none))) = some r := by first | (rw [hy163]; with_reducible exact H) | (have H2_ := (Option.bind_some _ _).symm.trans H; rw [hy163]; with_reducible exact H2_) | (have H2_ := (Option.bind_some _ _).symm.trans H; with_reducible exact H2_) | with_reducible exact H | (rw [hy163]; exact H) | exact H
              have Ny163 := Aside0.mk hy163
              clear hy163
              obtain ⟨y166, hy166⟩ : ∃ y_ : List Cx, y_ = (([] : List Cx)) := ⟨_, rfl⟩
              replace H : (if y166.length + t144.length < 8796093022208 then ((some (y166 ++ t144 : List Cx)).bind fun y169 => (if y169.length + t150.length < 8796093022208 then ((phasor_Phases.f kj6 y163 (y169 ++ t150)).bind fun bt175 => (if t154 = 0 then (pylonlaw02_PhasorPhases.j1 kj6 t141 t144 t147 t150 t153 t154 t155 t156 bt175.1 bt175.2 (t156 != 0)) else (pylonlaw02_PhasorPhases.j1 kj6 t141 t144 t147 t150 t153 t154 t155 t156 bt175.1 bt175.2 true))) else (none))) else (none)) = some r := by first | (rw [hy166]; with_reducible exact H) | (have H2_ := (Option.bind_some _ _).symm.trans H; rw [hy166]; with_reducible exact H2_) | (have H2_ := (Option.bind_some _ _).symm.trans H; with_reducible exact H2_) | with_reducible exact H | (rw [hy166]; exact H) | exact H
              have Ny166 := Aside0.mk hy166
              clear hy166
              by_cases c21 : y166.length + t144.length < 8796093022208
              · rw [if_pos c21] at H
                have LMc21 := Aside0.mk c21
                clear c21
                obtain ⟨y169, hy169⟩ : ∃ y_ : List Cx, y_ = (y166 ++ t144) := ⟨_, rfl⟩
                replace H : (if y169.length + t150.length < 8796093022208 then ((phasor_Phases.f kj6 y163 (y169 ++ t150)).bind fun bt175 => (if t154 = 0 then (pylonlaw02_PhasorPhases.j1 kj6 t141 t144 t147 t150 t153 t154 t155 t156 bt175.1 bt175.2 (t156 != 0)) else (pylonlaw02_PhasorPhases.j1 kj6 t141 t144 t147 t150 t153 t154 t155 t156 bt175.1 bt175.2 true))) else (none)) = some r := by first | (rw [hy169]; with_reducible exact H) | (have H2_ := (Option.bind_some _ _).symm.trans H; rw [hy169]; with_reducible exact H2_) | (have H2_ := (Option.bind_some _ _).symm.trans H; with_reducible exact H2_) | with_reducible exact H | (rw [hy169]; exact H) | exact H
                have Ny169 := Aside0.mk hy169
                clear hy169
                by_cases c22 : y169.length + t150.length < 8796093022208
                · rw [if_pos c22] at H
                  have LMc22 := Aside0.mk c22
                  clear c22
                  obtain ⟨y172, hy172⟩ : ∃ y_ : List Cx, y_ = (y169 ++ t150) := ⟨_, rfl⟩
                  replace H : ((phasor_Phases.f kj6 y163 y172).bind fun bt175 => (if t154 = 0 then (pylonlaw02_PhasorPhases.j1 kj6 t141 t144 t147 t150 t153 t154 t155 t156 bt175.1 bt175.2 (t156 != 0)) else (pylonlaw02_PhasorPhases.j1 kj6 t141 t144 t147 t150 t153 t154 t155 t156 bt175.1 bt175.2 true))) = some r := by first | (rw [hy172]; with_reducible exact H) | (have H2_ := (Option.bind_some _ _).symm.trans H; rw [hy172]; with_reducible exact H2_) | (have H2_ := (Option.bind_some _ _).symm.trans H; with_reducible exact H2_) | with_reducible exact H | (rw [hy172]; exact H) | exact H
                  have Ny172 := Aside0.mk hy172
                  clear hy172
                  replace H := Option.bind_eq_some_iff.mp H
                  obtain ⟨⟨t175, t176⟩, A230, H⟩ := H
                  replace H : (if t154 = 0 then (pylonlaw02_PhasorPhases.j1 kj6 t141 t144 t147 t150 t153 t154 t155 t156 t175 t176 (t156 != 0)) else (pylonlaw02_PhasorPhases.j1 kj6 t141 t144 t147 t150 t153 t154 t155 t156 t175 t176 true)) = some r := H
                  have A23 := Aside0.mk A230
                  clear A230
                  have HC24 := Aside0.mk H
                  clear H
                  go_upto_region 9 with (first | ((with_reducible refine gate_callee (f := 32) rfl ?_); refine goesL_ (some 48) rfl rfl Try.func32 (by kernel_rfl) rfl #[.slice A0 l0.length c0] rfl (by (try simp only [List.map_toArray, List.map_cons, List.map_nil]); first | done | rfl | (simp only [List.length_drop, List.length_take]; rfl)) ?_; (with_reducible refine (pylonlaw02_numbers.calls kj6 _ _ l0 t141 _ ?side1 ?side2 A13.out).mono ?_); (case side1 => repeat (first | exact (Kd.C_below HR0.out HB.out) | (with_reducible refine Kd.C_alloc ?_ _) | (with_reducible refine Kd.C_drewN ?_ _) | (with_reducible refine Kd.C_drew ?_))); (case side2 => exact HC0.out); rintro e w25 ⟨v142, rfl, ho0, hb⟩; refine ⟨_, rfl, ?_⟩; have n0_ := Aside0.mk (Kd.R_lower ho0 (below_size (by repeat (first | (with_reducible first | exact HB.out | apply below_alloc | apply pw_below_drewN | apply below_drew1) | exact HB.out)))); have n1_ := Aside0.mk (below_step (by repeat (first | (with_reducible first | exact HB.out | apply below_alloc | apply pw_below_drewN | apply below_drew1) | exact HB.out)) hb); clear HB; have HO143 := n0_; have HB := n1_; clear n0_ n1_; (try clear hb); (try clear hb2); (try clear hk); (try clear hi); (try clear ho0)) | ((with_reducible refine gate_callee (f := 32) rfl ?_); refine goesL_ (some 50) rfl rfl Try.func32 (by kernel_rfl) rfl #[.slice A1 l1.length c1] rfl (by (try simp only [List.map_toArray, List.map_cons, List.map_nil]); first | done | rfl | (simp only [List.length_drop, List.length_take]; rfl)) ?_; (with_reducible refine (pylonlaw02_numbers.calls kj6 _ _ l1 t144 _ ?side1 ?side2 A14.out).mono ?_); (case side1 => repeat (first | exact (Kd.C_below HR1.out HB.out) | (with_reducible refine Kd.C_alloc ?_ _) | (with_reducible refine Kd.C_drewN ?_ _) | (with_reducible refine Kd.C_drew ?_))); (case side2 => exact HC1.out); rintro e w26 ⟨v145, rfl, ho0, hb⟩; refine ⟨_, rfl, ?_⟩; have n0_ := Aside0.mk (Kd.R_elder' (by (with_reducible repeat (first | apply Kd.R_alloc | apply Kd.R_drewN | apply Kd.R_drew)); exact HO143.out) (Kd.R_base ho0) hb); have n1_ := Aside0.mk (Kd.R_lower (Kd.R_new' ho0 (Kd.R_lt (by (with_reducible repeat (first | apply Kd.R_alloc | apply Kd.R_drewN | apply Kd.R_drew)); exact HO143.out))) (below_size (by repeat (first | (with_reducible first | exact HB.out | apply below_alloc | apply pw_below_drewN | apply below_drew1) | exact HB.out)))); have n2_ := Aside0.mk (below_step (by repeat (first | (with_reducible first | exact HB.out | apply below_alloc | apply pw_below_drewN | apply below_drew1) | exact HB.out)) hb); clear HO143; clear HB; have HO143 := n0_; have HO146 := n1_; have HB := n2_; clear n0_ n1_ n2_; (try clear hb); (try clear hb2); (try clear hk); (try clear hi); (try clear ho0)) | ((with_reducible refine gate_callee (f := 32) rfl ?_); refine goesL_ (some 52) rfl rfl Try.func32 (by kernel_rfl) rfl #[.slice A2 l2.length c2] rfl (by (try simp only [List.map_toArray, List.map_cons, List.map_nil]); first | done | rfl | (simp only [List.length_drop, List.length_take]; rfl)) ?_; (with_reducible refine (pylonlaw02_numbers.calls kj6 _ _ l2 t147 _ ?side1 ?side2 A15.out).mono ?_); (case side1 => repeat (first | exact (Kd.C_below HR2.out HB.out) | (with_reducible refine Kd.C_alloc ?_ _) | (with_reducible refine Kd.C_drewN ?_ _) | (with_reducible refine Kd.C_drew ?_))); (case side2 => exact HC2.out); rintro e w27 ⟨v148, rfl, ho0, hb⟩; refine ⟨_, rfl, ?_⟩; have n0_ := Aside0.mk (Kd.R_elder' (by (with_reducible repeat (first | apply Kd.R_alloc | apply Kd.R_drewN | apply Kd.R_drew)); exact HO143.out) (Kd.R_base ho0) hb); have n1_ := Aside0.mk (Kd.R_elder' (by (with_reducible repeat (first | apply Kd.R_alloc | apply Kd.R_drewN | apply Kd.R_drew)); exact HO146.out) (Kd.R_base ho0) hb); have n2_ := Aside0.mk (Kd.R_lower (Kd.R_new' (Kd.R_new' ho0 (Kd.R_lt (by (with_reducible repeat (first | apply Kd.R_alloc | apply Kd.R_drewN | apply Kd.R_drew)); exact HO143.out))) (Kd.R_lt (by (with_reducible repeat (first | apply Kd.R_alloc | apply Kd.R_drewN | apply Kd.R_drew)); exact HO146.out))) (below_size (by repeat (first | (with_reducible first | exact HB.out | apply below_alloc | apply pw_below_drewN | apply below_drew1) | exact HB.out)))); have n3_ := Aside0.mk (below_step (by repeat (first | (with_reducible first | exact HB.out | apply below_alloc | apply pw_below_drewN | apply below_drew1) | exact HB.out)) hb); clear HO143; clear HO146; clear HB; have HO143 := n0_; have HO146 := n1_; have HO149 := n2_; have HB := n3_; clear n0_ n1_ n2_ n3_; (try clear hb); (try clear hb2); (try clear hk); (try clear hi); (try clear ho0)) | ((with_reducible refine gate_callee (f := 32) rfl ?_); refine goesL_ (some 54) rfl rfl Try.func32 (by kernel_rfl) rfl #[.slice A3 l3.length c3] rfl (by (try simp only [List.map_toArray, List.map_cons, List.map_nil]); first | done | rfl | (simp only [List.length_drop, List.length_take]; rfl)) ?_; (with_reducible refine (pylonlaw02_numbers.calls kj6 _ _ l3 t150 _ ?side1 ?side2 A16.out).mono ?_); (case side1 => repeat (first | exact (Kd.C_below HR3.out HB.out) | (with_reducible refine Kd.C_alloc ?_ _) | (with_reducible refine Kd.C_drewN ?_ _) | (with_reducible refine Kd.C_drew ?_))); (case side2 => exact HC3.out); rintro e w28 ⟨v151, rfl, ho0, hb⟩; refine ⟨_, rfl, ?_⟩; have n0_ := Aside0.mk (Kd.R_elder' (by (with_reducible repeat (first | apply Kd.R_alloc | apply Kd.R_drewN | apply Kd.R_drew)); exact HO143.out) (Kd.R_base ho0) hb); have n1_ := Aside0.mk (Kd.R_elder' (by (with_reducible repeat (first | apply Kd.R_alloc | apply Kd.R_drewN | apply Kd.R_drew)); exact HO146.out) (Kd.R_base ho0) hb); have n2_ := Aside0.mk (Kd.R_elder' (by (with_reducible repeat (first | apply Kd.R_alloc | apply Kd.R_drewN | apply Kd.R_drew)); exact HO149.out) (Kd.R_base ho0) hb); have n3_ := Aside0.mk (Kd.R_lower (Kd.R_new' (Kd.R_new' (Kd.R_new' ho0 (Kd.R_lt (by (with_reducible repeat (first | apply Kd.R_alloc | apply Kd.R_drewN | apply Kd.R_drew)); exact HO143.out))) (Kd.R_lt (by (with_reducible repeat (first | apply Kd.R_alloc | apply Kd.R_drewN | apply Kd.R_drew)); exact HO146.out))) (Kd.R_lt (by (with_reducible repeat (first | apply Kd.R_alloc | apply Kd.R_drewN | apply Kd.R_drew)); exact HO149.out))) (below_size (by repeat (first | (with_reducible first | exact HB.out | apply below_alloc | apply pw_below_drewN | apply below_drew1) | exact HB.out)))); have n4_ := Aside0.mk (below_step (by repeat (first | (with_reducible first | exact HB.out | apply below_alloc | apply pw_below_drewN | apply below_drew1) | exact HB.out)) hb); clear HO143; clear HO146; clear HO149; clear HB; have HO143 := n0_; have HO146 := n1_; have HO149 := n2_; have HO152 := n3_; have HB := n4_; clear n0_ n1_ n2_ n3_ n4_; (try clear hb); (try clear hb2); (try clear hk); (try clear hi); (try clear ho0); obtain ⟨Ao29, co29, eo29⟩ := Kd.R_slice HO143.out; subst eo29; obtain ⟨Ao30, co30, eo30⟩ := Kd.R_slice HO146.out; subst eo30) | ((with_reducible refine gate_callee (f := 33) rfl ?_); refine goesL_ (some 58) rfl rfl Try.func33 (by kernel_rfl) rfl #[.slice Ao29 t141.length co29, .slice Ao30 t144.length co30] rfl (by (try simp only [List.map_toArray, List.map_cons, List.map_nil]); first | done | rfl | (simp only [List.length_drop, List.length_take]; rfl)) ?_; (with_reducible refine (phasor_Phases.calls kj6 _ _ t141 _ _ t144 t153 t154 _ ?side1 ?side2 ?side3 ?side4 A17.out).mono ?_); (case side1 => repeat (first | exact (Kd.R_reads' HO143.out).2.2 | (with_reducible refine Kd.C_alloc ?_ _) | (with_reducible refine Kd.C_drewN ?_ _) | (with_reducible refine Kd.C_drew ?_))); (case side2 => exact (Kd.R_reads' HO143.out).2.1); (case side3 => repeat (first | exact (Kd.R_reads' HO146.out).2.2 | (with_reducible refine Kd.C_alloc ?_ _) | (with_reducible refine Kd.C_drewN ?_ _) | (with_reducible refine Kd.C_drew ?_))); (case side4 => exact (Kd.R_reads' HO146.out).2.1); rintro e w31 ⟨rfl, hb⟩; refine ⟨_, rfl, ?_⟩; have n0_ := Aside0.mk (Kd.R_below (by (with_reducible repeat (first | apply Kd.R_alloc | apply Kd.R_drewN | apply Kd.R_drew)); exact HO143.out) hb); have n1_ := Aside0.mk (Kd.R_below (by (with_reducible repeat (first | apply Kd.R_alloc | apply Kd.R_drewN | apply Kd.R_drew)); exact HO146.out) hb); have n2_ := Aside0.mk (Kd.R_below (by (with_reducible repeat (first | apply Kd.R_alloc | apply Kd.R_drewN | apply Kd.R_drew)); exact HO149.out) hb); have n3_ := Aside0.mk (Kd.R_below (by (with_reducible repeat (first | apply Kd.R_alloc | apply Kd.R_drewN | apply Kd.R_drew)); exact HO152.out) hb); have n4_ := Aside0.mk (below_step (by repeat (first | (with_reducible first | exact HB.out | apply below_alloc | apply pw_below_drewN | apply below_drew1) | exact HB.out)) hb); clear HO143; clear HO146; clear HO149; clear HO152; clear HB; have HO143 := n0_; have HO146 := n1_; have HO149 := n2_; have HO152 := n3_; have HB := n4_; clear n0_ n1_ n2_ n3_ n4_; (try clear hb); (try clear hb2); (try clear hk); (try clear hi); obtain ⟨Ao32, co32, eo32⟩ := Kd.R_slice HO149.out; subst eo32; obtain ⟨Ao33, co33, eo33⟩ := Kd.R_slice HO152.out; subst eo33) | ((with_reducible refine gate_callee (f := 33) rfl ?_); refine goesL_ (some 64) rfl rfl Try.func33 (by kernel_rfl) rfl #[.slice Ao32 t147.length co32, .slice Ao33 t150.length co33] rfl (by (try simp only [List.map_toArray, List.map_cons, List.map_nil]); first | done | rfl | (simp only [List.length_drop, List.length_take]; rfl)) ?_; (with_reducible refine (phasor_Phases.calls kj6 _ _ t147 _ _ t150 t155 t156 _ ?side1 ?side2 ?side3 ?side4 A18.out).mono ?_); (case side1 => repeat (first | exact (Kd.R_reads' HO149.out).2.2 | (with_reducible refine Kd.C_alloc ?_ _) | (with_reducible refine Kd.C_drewN ?_ _) | (with_reducible refine Kd.C_drew ?_))); (case side2 => exact (Kd.R_reads' HO149.out).2.1); (case side3 => repeat (first | exact (Kd.R_reads' HO152.out).2.2 | (with_reducible refine Kd.C_alloc ?_ _) | (with_reducible refine Kd.C_drewN ?_ _) | (with_reducible refine Kd.C_drew ?_))); (case side4 => exact (Kd.R_reads' HO152.out).2.1); rintro e w34 ⟨rfl, hb⟩; refine ⟨_, rfl, ?_⟩; have n0_ := Aside0.mk (Kd.R_below (by (with_reducible repeat (first | apply Kd.R_alloc | apply Kd.R_drewN | apply Kd.R_drew)); exact HO143.out) hb); have n1_ := Aside0.mk (Kd.R_below (by (with_reducible repeat (first | apply Kd.R_alloc | apply Kd.R_drewN | apply Kd.R_drew)); exact HO146.out) hb); have n2_ := Aside0.mk (Kd.R_below (by (with_reducible repeat (first | apply Kd.R_alloc | apply Kd.R_drewN | apply Kd.R_drew)); exact HO149.out) hb); have n3_ := Aside0.mk (Kd.R_below (by (with_reducible repeat (first | apply Kd.R_alloc | apply Kd.R_drewN | apply Kd.R_drew)); exact HO152.out) hb); have n4_ := Aside0.mk (below_step (by repeat (first | (with_reducible first | exact HB.out | apply below_alloc | apply pw_below_drewN | apply below_drew1) | exact HB.out)) hb); clear HO143; clear HO146; clear HO149; clear HO152; clear HB; have HO143 := n0_; have HO146 := n1_; have HO149 := n2_; have HO152 := n3_; have HB := n4_; clear n0_ n1_ n2_ n3_ n4_; (try clear hb); (try clear hb2); (try clear hk); (try clear hi)) | ((with_reducible refine gate_dst (N := 68) rfl ?_); (try (refine gate_guard (by rfl) ?_; dsimp only)); refine Kd.R_lit Kd.c128 _ 31 ?hg (N := 68) ?hd (xs := ([] : List Cx)) (inner := []) (ok := fun _ => True) (okp := fun _ => True) ?hr ?hp (fun _ hk => hk) trivial (Below.refl _ _) (Nat.le_refl _) (by simp) ?_; (case hd => rfl); (case hg => rfl); (case hr => first | (go_simp; done) | (go_simp; rfl)); (case hp => exact (Reps.none _ _)); intro v158 w35 ho36 hb hg_ hnew_; clear hg_ hnew_; (first | rw [← Ny157.out] at ho36 | (simp only [Int.reduceToNat] at ho36; rw [← Ny157.out] at ho36)); have n0_ := Aside0.mk (Kd.R_elder' (by (with_reducible repeat (first | apply Kd.R_alloc | apply Kd.R_drewN | apply Kd.R_drew)); exact HO143.out) (Kd.R_base ho36) hb); have n1_ := Aside0.mk (Kd.R_elder' (by (with_reducible repeat (first | apply Kd.R_alloc | apply Kd.R_drewN | apply Kd.R_drew)); exact HO146.out) (Kd.R_base ho36) hb); have n2_ := Aside0.mk (Kd.R_elder' (by (with_reducible repeat (first | apply Kd.R_alloc | apply Kd.R_drewN | apply Kd.R_drew)); exact HO149.out) (Kd.R_base ho36) hb); have n3_ := Aside0.mk (Kd.R_elder' (by (with_reducible repeat (first | apply Kd.R_alloc | apply Kd.R_drewN | apply Kd.R_drew)); exact HO152.out) (Kd.R_base ho36) hb); have n4_ := Aside0.mk (Kd.R_lower (Kd.R_new' (Kd.R_new' (Kd.R_new' (Kd.R_new' ho36 (Kd.R_lt (by (with_reducible repeat (first | apply Kd.R_alloc | apply Kd.R_drewN | apply Kd.R_drew)); exact HO143.out))) (Kd.R_lt (by (with_reducible repeat (first | apply Kd.R_alloc | apply Kd.R_drewN | apply Kd.R_drew)); exact HO146.out))) (Kd.R_lt (by (with_reducible repeat (first | apply Kd.R_alloc | apply Kd.R_drewN | apply Kd.R_drew)); exact HO149.out))) (Kd.R_lt (by (with_reducible repeat (first | apply Kd.R_alloc | apply Kd.R_drewN | apply Kd.R_drew)); exact HO152.out))) (below_size (by repeat (first | (with_reducible first | exact HB.out | apply below_alloc | apply pw_below_drewN | apply below_drew1) | exact HB.out)))); have n5_ := Aside0.mk (below_step (by repeat (first | (with_reducible first | exact HB.out | apply below_alloc | apply pw_below_drewN | apply below_drew1) | exact HB.out)) hb); clear HO143; clear HO146; clear HO149; clear HO152; clear HB; have HO143 := n0_; have HO146 := n1_; have HO149 := n2_; have HO152 := n3_; have HO159 := n4_; have HB := n5_; clear n0_ n1_ n2_ n3_ n4_ n5_; clear hb ho36) | ((with_reducible refine gate_builtin (b := .append) (xs := #[.tmp 68, .tmp 69]) rfl ?_); (try (refine gate_guard (by rfl) ?_; dsimp only)); at_builtin; refine Kd.R_append_rows Kd.c128 (w0 := w) w.heap.size rfl (.tmp 68) (.tmp 69) 26 31 (.complex .f64 0 0) 16 rfl Try.underlying26 info31 rfl (by decide) (by omega) v158 y157 t141 _ _ _ (fun k_ => some k_ ≠ (.slice Ao29 t141.length co29 : Value).ownBlock ∧ some k_ ≠ (.slice Ao30 t144.length co30 : Value).ownBlock ∧ some k_ ≠ (.slice Ao32 t147.length co32 : Value).ownBlock ∧ some k_ ≠ (.slice Ao33 t150.length co33 : Value).ownBlock) (fun _ => False) rfl rfl ?aO ?aR (fun _ _ h => h) (fun _ h => h.elim) ?aF ?aB ?aS ?aL ?_; (case aR => repeat (first | exact (Kd.R_reads' HO143.out).2.2 | (with_reducible refine Kd.C_alloc ?_ _) | (with_reducible refine Kd.C_drewN ?_ _) | (with_reducible refine Kd.C_drew ?_))); (case aB => exact (by repeat (first | (with_reducible first | exact HB.out | apply below_alloc | apply pw_below_drewN | apply below_drew1) | exact HB.out))); (case aF => exact (fun k_ hk => ⟨Kd.fresh' (Kd.R_lt (by (with_reducible repeat (first | apply Kd.R_alloc | apply Kd.R_drewN | apply Kd.R_drew)); exact HO143.out)) k_ hk, Kd.fresh' (Kd.R_lt (by (with_reducible repeat (first | apply Kd.R_alloc | apply Kd.R_drewN | apply Kd.R_drew)); exact HO146.out)) k_ hk, Kd.fresh' (Kd.R_lt (by (with_reducible repeat (first | apply Kd.R_alloc | apply Kd.R_drewN | apply Kd.R_drew)); exact HO149.out)) k_ hk, Kd.fresh' (Kd.R_lt (by (with_reducible repeat (first | apply Kd.R_alloc | apply Kd.R_drewN | apply Kd.R_drew)); exact HO152.out)) k_ hk⟩)); (case aO => exact (by (with_reducible repeat (first | apply Kd.R_alloc | apply Kd.R_drewN | apply Kd.R_drew)); exact Kd.R_mono HO159.out (fun _ hk => ⟨hk.1.1.1.2, ⟨hk.1.1.2, ⟨hk.1.2, hk.2⟩⟩⟩))); (case aS => exact (below_size (by repeat (first | (with_reducible first | exact HB.out | apply below_alloc | apply pw_below_drewN | apply below_drew1) | exact HB.out)))); (case aL => have := LMc19.out; omega); intro v161 w37 ho hb hg hat; rw [← Ny160.out] at ho; have n0_ := Aside0.mk (Kd.R_after (ok := (fun k_ => some k_ ≠ (.slice Ao30 t144.length co30 : Value).ownBlock ∧ some k_ ≠ (.slice Ao32 t147.length co32 : Value).ownBlock ∧ some k_ ≠ (.slice Ao33 t150.length co33 : Value).ownBlock)) (by (with_reducible repeat (first | apply Kd.R_alloc | apply Kd.R_drewN | apply Kd.R_drew)); exact Kd.R_mono HO143.out (fun _ hk => ⟨⟨hk.1.1.1.2, ⟨hk.1.1.2, hk.1.2⟩⟩, hk.2⟩)) hg hat); have n1_ := Aside0.mk (Kd.R_after (ok := (fun k_ => some k_ ≠ (.slice Ao29 t141.length co29 : Value).ownBlock ∧ some k_ ≠ (.slice Ao32 t147.length co32 : Value).ownBlock ∧ some k_ ≠ (.slice Ao33 t150.length co33 : Value).ownBlock)) (by (with_reducible repeat (first | apply Kd.R_alloc | apply Kd.R_drewN | apply Kd.R_drew)); exact Kd.R_mono HO146.out (fun _ hk => ⟨⟨hk.1.1.1.2, ⟨hk.1.1.2, hk.1.2⟩⟩, hk.2⟩)) hg hat); have n2_ := Aside0.mk (Kd.R_after (ok := (fun k_ => some k_ ≠ (.slice Ao29 t141.length co29 : Value).ownBlock ∧ some k_ ≠ (.slice Ao30 t144.length co30 : Value).ownBlock ∧ some k_ ≠ (.slice Ao33 t150.length co33 : Value).ownBlock)) (by (with_reducible repeat (first | apply Kd.R_alloc | apply Kd.R_drewN | apply Kd.R_drew)); exact Kd.R_mono HO149.out (fun _ hk => ⟨⟨hk.1.1.1.2, ⟨hk.1.1.2, hk.1.2⟩⟩, hk.2⟩)) hg hat); have n3_ := Aside0.mk (Kd.R_after (ok := (fun k_ => some k_ ≠ (.slice Ao29 t141.length co29 : Value).ownBlock ∧ some k_ ≠ (.slice Ao30 t144.length co30 : Value).ownBlock ∧ some k_ ≠ (.slice Ao32 t147.length co32 : Value).ownBlock)) (by (with_reducible repeat (first | apply Kd.R_alloc | apply Kd.R_drewN | apply Kd.R_drew)); exact Kd.R_mono HO152.out (fun _ hk => ⟨⟨hk.1.1.1.2, ⟨hk.1.1.2, hk.1.2⟩⟩, hk.2⟩)) hg hat); have n4_ := Aside0.mk (hb); have n5_ := Aside0.mk (ho); clear HO143; clear HO146; clear HO149; clear HO152; clear HB; clear HO159; have HO143 := n0_; have HO146 := n1_; have HO149 := n2_; have HO152 := n3_; have HB := n4_; have HO162 := n5_; clear n0_ n1_ n2_ n3_ n4_ n5_; clear ho hb hg hat) | ((with_reducible refine gate_builtin (b := .append) (xs := #[.tmp 70, .tmp 71]) rfl ?_); (try (refine gate_guard (by rfl) ?_; dsimp only)); at_builtin; refine Kd.R_append_rows Kd.c128 (w0 := w) w.heap.size rfl (.tmp 70) (.tmp 71) 26 31 (.complex .f64 0 0) 16 rfl Try.underlying26 info31 rfl (by decide) (by omega) v161 y160 t147 _ _ _ (fun k_ => some k_ ≠ (.slice Ao29 t141.length co29 : Value).ownBlock ∧ some k_ ≠ (.slice Ao30 t144.length co30 : Value).ownBlock ∧ some k_ ≠ (.slice Ao32 t147.length co32 : Value).ownBlock ∧ some k_ ≠ (.slice Ao33 t150.length co33 : Value).ownBlock) (fun _ => False) rfl rfl ?aO ?aR (fun _ _ h => h) (fun _ h => h.elim) ?aF ?aB ?aS ?aL ?_; (case aR => repeat (first | exact (Kd.R_reads' HO149.out).2.2 | (with_reducible refine Kd.C_alloc ?_ _) | (with_reducible refine Kd.C_drewN ?_ _) | (with_reducible refine Kd.C_drew ?_))); (case aB => exact (by repeat (first | (with_reducible first | exact HB.out | apply below_alloc | apply pw_below_drewN | apply below_drew1) | exact HB.out))); (case aF => exact (fun k_ hk => ⟨Kd.fresh' (Kd.R_lt (by (with_reducible repeat (first | apply Kd.R_alloc | apply Kd.R_drewN | apply Kd.R_drew)); exact HO143.out)) k_ hk, Kd.fresh' (Kd.R_lt (by (with_reducible repeat (first | apply Kd.R_alloc | apply Kd.R_drewN | apply Kd.R_drew)); exact HO146.out)) k_ hk, Kd.fresh' (Kd.R_lt (by (with_reducible repeat (first | apply Kd.R_alloc | apply Kd.R_drewN | apply Kd.R_drew)); exact HO149.out)) k_ hk, Kd.fresh' (Kd.R_lt (by (with_reducible repeat (first | apply Kd.R_alloc | apply Kd.R_drewN | apply Kd.R_drew)); exact HO152.out)) k_ hk⟩)); (case aO => exact (by (with_reducible repeat (first | apply Kd.R_alloc | apply Kd.R_drewN | apply Kd.R_drew)); exact HO162.out)); (case aS => exact (below_size (by repeat (first | (with_reducible first | exact HB.out | apply below_alloc | apply pw_below_drewN | apply below_drew1) | exact HB.out)))); (case aL => have := LMc20.out; omega); intro v164 w38 ho hb hg hat; rw [← Ny163.out] at ho; have n0_ := Aside0.mk (Kd.R_after (ok := (fun k_ => some k_ ≠ (.slice Ao30 t144.length co30 : Value).ownBlock ∧ some k_ ≠ (.slice Ao32 t147.length co32 : Value).ownBlock ∧ some k_ ≠ (.slice Ao33 t150.length co33 : Value).ownBlock)) (by (with_reducible repeat (first | apply Kd.R_alloc | apply Kd.R_drewN | apply Kd.R_drew)); exact HO143.out) hg hat); have n1_ := Aside0.mk (Kd.R_after (ok := (fun k_ => some k_ ≠ (.slice Ao29 t141.length co29 : Value).ownBlock ∧ some k_ ≠ (.slice Ao32 t147.length co32 : Value).ownBlock ∧ some k_ ≠ (.slice Ao33 t150.length co33 : Value).ownBlock)) (by (with_reducible repeat (first | apply Kd.R_alloc | apply Kd.R_drewN | apply Kd.R_drew)); exact HO146.out) hg hat); have n2_ := Aside0.mk (Kd.R_after (ok := (fun k_ => some k_ ≠ (.slice Ao29 t141.length co29 : Value).ownBlock ∧ some k_ ≠ (.slice Ao30 t144.length co30 : Value).ownBlock ∧ some k_ ≠ (.slice Ao33 t150.length co33 : Value).ownBlock)) (by (with_reducible repeat (first | apply Kd.R_alloc | apply Kd.R_drewN | apply Kd.R_drew)); exact HO149.out) hg hat); have n3_ := Aside0.mk (Kd.R_after (ok := (fun k_ => some k_ ≠ (.slice Ao29 t141.length co29 : Value).ownBlock ∧ some k_ ≠ (.slice Ao30 t144.length co30 : Value).ownBlock ∧ some k_ ≠ (.slice Ao32 t147.length co32 : Value).ownBlock)) (by (with_reducible repeat (first | apply Kd.R_alloc | apply Kd.R_drewN | apply Kd.R_drew)); exact HO152.out) hg hat); have n4_ := Aside0.mk (hb); have n5_ := Aside0.mk (ho); clear HO143; clear HO146; clear HO149; clear HO152; clear HB; clear HO162; have HO143 := n0_; have HO146 := n1_; have HO149 := n2_; have HO152 := n3_; have HB := n4_; have HO165 := n5_; clear n0_ n1_ n2_ n3_ n4_ n5_; clear ho hb hg hat) | ((with_reducible refine gate_dst (N := 73) rfl ?_); (try (refine gate_guard (by rfl) ?_; dsimp only)); refine Kd.R_lit Kd.c128 _ 31 ?hg (N := 73) ?hd (xs := ([] : List Cx)) (inner := []) (ok := fun _ => True) (okp := fun _ => True) ?hr ?hp (fun _ hk => hk) trivial (Below.refl _ _) (Nat.le_refl _) (by simp) ?_; (case hd => rfl); (case hg => rfl); (case hr => first | (go_simp; done) | (go_simp; rfl)); (case hp => exact (Reps.none _ _)); intro v167 w39 ho40 hb hg_ hnew_; clear hg_ hnew_; (first | rw [← Ny166.out] at ho40 | (simp only [Int.reduceToNat] at ho40; rw [← Ny166.out] at ho40)); have n0_ := Aside0.mk (Kd.R_elder' (by (with_reducible repeat (first | apply Kd.R_alloc | apply Kd.R_drewN | apply Kd.R_drew)); exact HO143.out) (Kd.R_base ho40) hb); have n1_ := Aside0.mk (Kd.R_elder' (by (with_reducible repeat (first | apply Kd.R_alloc | apply Kd.R_drewN | apply Kd.R_drew)); exact HO146.out) (Kd.R_base ho40) hb); have n2_ := Aside0.mk (Kd.R_elder' (by (with_reducible repeat (first | apply Kd.R_alloc | apply Kd.R_drewN | apply Kd.R_drew)); exact HO149.out) (Kd.R_base ho40) hb); have n3_ := Aside0.mk (Kd.R_elder' (by (with_reducible repeat (first | apply Kd.R_alloc | apply Kd.R_drewN | apply Kd.R_drew)); exact HO152.out) (Kd.R_base ho40) hb); have n4_ := Aside0.mk (Kd.R_elder' (by (with_reducible repeat (first | apply Kd.R_alloc | apply Kd.R_drewN | apply Kd.R_drew)); exact HO165.out) (Kd.R_base ho40) hb); have n5_ := Aside0.mk (Kd.R_lower (Kd.R_new' (Kd.R_new' (Kd.R_new' (Kd.R_new' (Kd.R_new' ho40 (Kd.R_lt (by (with_reducible repeat (first | apply Kd.R_alloc | apply Kd.R_drewN | apply Kd.R_drew)); exact HO143.out))) (Kd.R_lt (by (with_reducible repeat (first | apply Kd.R_alloc | apply Kd.R_drewN | apply Kd.R_drew)); exact HO146.out))) (Kd.R_lt (by (with_reducible repeat (first | apply Kd.R_alloc | apply Kd.R_drewN | apply Kd.R_drew)); exact HO149.out))) (Kd.R_lt (by (with_reducible repeat (first | apply Kd.R_alloc | apply Kd.R_drewN | apply Kd.R_drew)); exact HO152.out))) (Kd.R_lt (by (with_reducible repeat (first | apply Kd.R_alloc | apply Kd.R_drewN | apply Kd.R_drew)); exact HO165.out))) (below_size (by repeat (first | (with_reducible first | exact HB.out | apply below_alloc | apply pw_below_drewN | apply below_drew1) | exact HB.out)))); have n6_ := Aside0.mk (below_step (by repeat (first | (with_reducible first | exact HB.out | apply below_alloc | apply pw_below_drewN | apply below_drew1) | exact HB.out)) hb); clear HO143; clear HO146; clear HO149; clear HO152; clear HO165; clear HB; have HO143 := n0_; have HO146 := n1_; have HO149 := n2_; have HO152 := n3_; have HO165 := n4_; have HO168 := n5_; have HB := n6_; clear n0_ n1_ n2_ n3_ n4_ n5_ n6_; clear hb ho40) | ((with_reducible refine gate_builtin (b := .append) (xs := #[.tmp 73, .tmp 74]) rfl ?_); (try (refine gate_guard (by rfl) ?_; dsimp only)); at_builtin; refine Kd.R_append_rows Kd.c128 (w0 := w) w.heap.size rfl (.tmp 73) (.tmp 74) 26 31 (.complex .f64 0 0) 16 rfl Try.underlying26 info31 rfl (by decide) (by omega) v167 y166 t144 _ _ _ (fun k_ => some k_ ≠ (.slice Ao29 t141.length co29 : Value).ownBlock ∧ some k_ ≠ (.slice Ao30 t144.length co30 : Value).ownBlock ∧ some k_ ≠ (.slice Ao32 t147.length co32 : Value).ownBlock ∧ some k_ ≠ (.slice Ao33 t150.length co33 : Value).ownBlock ∧ some k_ ≠ (v164 : Value).ownBlock) (fun _ => False) rfl rfl ?aO ?aR (fun _ _ h => h) (fun _ h => h.elim) ?aF ?aB ?aS ?aL ?_; (case aR => repeat (first | exact (Kd.R_reads' HO146.out).2.2 | (with_reducible refine Kd.C_alloc ?_ _) | (with_reducible refine Kd.C_drewN ?_ _) | (with_reducible refine Kd.C_drew ?_))); (case aB => exact (by repeat (first | (with_reducible first | exact HB.out | apply below_alloc | apply pw_below_drewN | apply below_drew1) | exact HB.out))); (case aF => exact (fun k_ hk => ⟨Kd.fresh' (Kd.R_lt (by (with_reducible repeat (first | apply Kd.R_alloc | apply Kd.R_drewN | apply Kd.R_drew)); exact HO143.out)) k_ hk, Kd.fresh' (Kd.R_lt (by (with_reducible repeat (first | apply Kd.R_alloc | apply Kd.R_drewN | apply Kd.R_drew)); exact HO146.out)) k_ hk, Kd.fresh' (Kd.R_lt (by (with_reducible repeat (first | apply Kd.R_alloc | apply Kd.R_drewN | apply Kd.R_drew)); exact HO149.out)) k_ hk, Kd.fresh' (Kd.R_lt (by (with_reducible repeat (first | apply Kd.R_alloc | apply Kd.R_drewN | apply Kd.R_drew)); exact HO152.out)) k_ hk, Kd.fresh' (Kd.R_lt (by (with_reducible repeat (first | apply Kd.R_alloc | apply Kd.R_drewN | apply Kd.R_drew)); exact HO165.out)) k_ hk⟩)); (case aO => exact (by (with_reducible repeat (first | apply Kd.R_alloc | apply Kd.R_drewN | apply Kd.R_drew)); exact Kd.R_mono HO168.out (fun _ hk => ⟨hk.1.1.1.1.2, ⟨hk.1.1.1.2, ⟨hk.1.1.2, ⟨hk.1.2, hk.2⟩⟩⟩⟩))); (case aS => exact (below_size (by repeat (first | (with_reducible first | exact HB.out | apply below_alloc | apply pw_below_drewN | apply below_drew1) | exact HB.out)))); (case aL => have := LMc21.out; omega); intro v170 w41 ho hb hg hat; rw [← Ny169.out] at ho; have n0_ := Aside0.mk (Kd.R_after (ok := (fun k_ => some k_ ≠ (.slice Ao30 t144.length co30 : Value).ownBlock ∧ some k_ ≠ (.slice Ao32 t147.length co32 : Value).ownBlock ∧ some k_ ≠ (.slice Ao33 t150.length co33 : Value).ownBlock ∧ some k_ ≠ (v164 : Value).ownBlock)) (by (with_reducible repeat (first | apply Kd.R_alloc | apply Kd.R_drewN | apply Kd.R_drew)); exact Kd.R_mono HO143.out (fun _ hk => ⟨⟨hk.1.1.1, ⟨hk.1.1.2.1, ⟨hk.1.1.2.2, hk.1.2⟩⟩⟩, hk.2⟩)) hg hat); have n1_ := Aside0.mk (Kd.R_after (ok := (fun k_ => some k_ ≠ (.slice Ao29 t141.length co29 : Value).ownBlock ∧ some k_ ≠ (.slice Ao32 t147.length co32 : Value).ownBlock ∧ some k_ ≠ (.slice Ao33 t150.length co33 : Value).ownBlock ∧ some k_ ≠ (v164 : Value).ownBlock)) (by (with_reducible repeat (first | apply Kd.R_alloc | apply Kd.R_drewN | apply Kd.R_drew)); exact Kd.R_mono HO146.out (fun _ hk => ⟨⟨hk.1.1.1, ⟨hk.1.1.2.1, ⟨hk.1.1.2.2, hk.1.2⟩⟩⟩, hk.2⟩)) hg hat); have n2_ := Aside0.mk (Kd.R_after (ok := (fun k_ => some k_ ≠ (.slice Ao29 t141.length co29 : Value).ownBlock ∧ some k_ ≠ (.slice Ao30 t144.length co30 : Value).ownBlock ∧ some k_ ≠ (.slice Ao33 t150.length co33 : Value).ownBlock ∧ some k_ ≠ (v164 : Value).ownBlock)) (by (with_reducible repeat (first | apply Kd.R_alloc | apply Kd.R_drewN | apply Kd.R_drew)); exact Kd.R_mono HO149.out (fun _ hk => ⟨⟨hk.1.1.1, ⟨hk.1.1.2.1, ⟨hk.1.1.2.2, hk.1.2⟩⟩⟩, hk.2⟩)) hg hat); have n3_ := Aside0.mk (Kd.R_after (ok := (fun k_ => some k_ ≠ (.slice Ao29 t141.length co29 : Value).ownBlock ∧ some k_ ≠ (.slice Ao30 t144.length co30 : Value).ownBlock ∧ some k_ ≠ (.slice Ao32 t147.length co32 : Value).ownBlock ∧ some k_ ≠ (v164 : Value).ownBlock)) (by (with_reducible repeat (first | apply Kd.R_alloc | apply Kd.R_drewN | apply Kd.R_drew)); exact Kd.R_mono HO152.out (fun _ hk => ⟨⟨hk.1.1.1, ⟨hk.1.1.2.1, ⟨hk.1.1.2.2, hk.1.2⟩⟩⟩, hk.2⟩)) hg hat); have n4_ := Aside0.mk (Kd.R_after (ok := (fun k_ => some k_ ≠ (.slice Ao29 t141.length co29 : Value).ownBlock ∧ some k_ ≠ (.slice Ao30 t144.length co30 : Value).ownBlock ∧ some k_ ≠ (.slice Ao32 t147.length co32 : Value).ownBlock ∧ some k_ ≠ (.slice Ao33 t150.length co33 : Value).ownBlock)) (by (with_reducible repeat (first | apply Kd.R_alloc | apply Kd.R_drewN | apply Kd.R_drew)); exact HO165.out) hg hat); have n5_ := Aside0.mk (hb); have n6_ := Aside0.mk (ho); clear HO143; clear HO146; clear HO149; clear HO152; clear HO165; clear HB; clear HO168; have HO143 := n0_; have HO146 := n1_; have HO149 := n2_; have HO152 := n3_; have HO165 := n4_; have HB := n5_; have HO171 := n6_; clear n0_ n1_ n2_ n3_ n4_ n5_ n6_; clear ho hb hg hat) | ((with_reducible refine gate_builtin (b := .append) (xs := #[.tmp 75, .tmp 76]) rfl ?_); (try (refine gate_guard (by rfl) ?_; dsimp only)); at_builtin; refine Kd.R_append_rows Kd.c128 (w0 := w) w.heap.size rfl (.tmp 75) (.tmp 76) 26 31 (.complex .f64 0 0) 16 rfl Try.underlying26 info31 rfl (by decide) (by omega) v170 y169 t150 _ _ _ (fun k_ => some k_ ≠ (.slice Ao29 t141.length co29 : Value).ownBlock ∧ some k_ ≠ (.slice Ao30 t144.length co30 : Value).ownBlock ∧ some k_ ≠ (.slice Ao32 t147.length co32 : Value).ownBlock ∧ some k_ ≠ (.slice Ao33 t150.length co33 : Value).ownBlock ∧ some k_ ≠ (v164 : Value).ownBlock) (fun _ => False) rfl rfl ?aO ?aR (fun _ _ h => h) (fun _ h => h.elim) ?aF ?aB ?aS ?aL ?_; (case aR => repeat (first | exact (Kd.R_reads' HO152.out).2.2 | (with_reducible refine Kd.C_alloc ?_ _) | (with_reducible refine Kd.C_drewN ?_ _) | (with_reducible refine Kd.C_drew ?_))); (case aB => exact (by repeat (first | (with_reducible first | exact HB.out | apply below_alloc | apply pw_below_drewN | apply below_drew1) | exact HB.out))); (case aF => exact (fun k_ hk => ⟨Kd.fresh' (Kd.R_lt (by (with_reducible repeat (first | apply Kd.R_alloc | apply Kd.R_drewN | apply Kd.R_drew)); exact HO143.out)) k_ hk, Kd.fresh' (Kd.R_lt (by (with_reducible repeat (first | apply Kd.R_alloc | apply Kd.R_drewN | apply Kd.R_drew)); exact HO146.out)) k_ hk, Kd.fresh' (Kd.R_lt (by (with_reducible repeat (first | apply Kd.R_alloc | apply Kd.R_drewN | apply Kd.R_drew)); exact HO149.out)) k_ hk, Kd.fresh' (Kd.R_lt (by (with_reducible repeat (first | apply Kd.R_alloc | apply Kd.R_drewN | apply Kd.R_drew)); exact HO152.out)) k_ hk, Kd.fresh' (Kd.R_lt (by (with_reducible repeat (first | apply Kd.R_alloc | apply Kd.R_drewN | apply Kd.R_drew)); exact HO165.out)) k_ hk⟩)); (case aO => exact (by (with_reducible repeat (first | apply Kd.R_alloc | apply Kd.R_drewN | apply Kd.R_drew)); exact HO171.out)); (case aS => exact (below_size (by repeat (first | (with_reducible first | exact HB.out | apply below_alloc | apply pw_below_drewN | apply below_drew1) | exact HB.out)))); (case aL => have := LMc22.out; omega); intro v173 w42 ho hb hg hat; rw [← Ny172.out] at ho; have n0_ := Aside0.mk (Kd.R_after (ok := (fun k_ => some k_ ≠ (.slice Ao30 t144.length co30 : Value).ownBlock ∧ some k_ ≠ (.slice Ao32 t147.length co32 : Value).ownBlock ∧ some k_ ≠ (.slice Ao33 t150.length co33 : Value).ownBlock ∧ some k_ ≠ (v164 : Value).ownBlock)) (by (with_reducible repeat (first | apply Kd.R_alloc | apply Kd.R_drewN | apply Kd.R_drew)); exact HO143.out) hg hat); have n1_ := Aside0.mk (Kd.R_after (ok := (fun k_ => some k_ ≠ (.slice Ao29 t141.length co29 : Value).ownBlock ∧ some k_ ≠ (.slice Ao32 t147.length co32 : Value).ownBlock ∧ some k_ ≠ (.slice Ao33 t150.length co33 : Value).ownBlock ∧ some k_ ≠ (v164 : Value).ownBlock)) (by (with_reducible repeat (first | apply Kd.R_alloc | apply Kd.R_drewN | apply Kd.R_drew)); exact HO146.out) hg hat); have n2_ := Aside0.mk (Kd.R_after (ok := (fun k_ => some k_ ≠ (.slice Ao29 t141.length co29 : Value).ownBlock ∧ some k_ ≠ (.slice Ao30 t144.length co30 : Value).ownBlock ∧ some k_ ≠ (.slice Ao33 t150.length co33 : Value).ownBlock ∧ some k_ ≠ (v164 : Value).ownBlock)) (by (with_reducible repeat (first | apply Kd.R_alloc | apply Kd.R_drewN | apply Kd.R_drew)); exact HO149.out) hg hat); have n3_ := Aside0.mk (Kd.R_after (ok := (fun k_ => some k_ ≠ (.slice Ao29 t141.length co29 : Value).ownBlock ∧ some k_ ≠ (.slice Ao30 t144.length co30 : Value).ownBlock ∧ some k_ ≠ (.slice Ao32 t147.length co32 : Value).ownBlock ∧ some k_ ≠ (v164 : Value).ownBlock)) (by (with_reducible repeat (first | apply Kd.R_alloc | apply Kd.R_drewN | apply Kd.R_drew)); exact HO152.out) hg hat); have n4_ := Aside0.mk (Kd.R_after (ok := (fun k_ => some k_ ≠ (.slice Ao29 t141.length co29 : Value).ownBlock ∧ some k_ ≠ (.slice Ao30 t144.length co30 : Value).ownBlock ∧ some k_ ≠ (.slice Ao32 t147.length co32 : Value).ownBlock ∧ some k_ ≠ (.slice Ao33 t150.length co33 : Value).ownBlock)) (by (with_reducible repeat (first | apply Kd.R_alloc | apply Kd.R_drewN | apply Kd.R_drew)); exact HO165.out) hg hat); have n5_ := Aside0.mk (hb); have n6_ := Aside0.mk (ho); clear HO143; clear HO146; clear HO149; clear HO152; clear HO165; clear HB; clear HO171; have HO143 := n0_; have HO146 := n1_; have HO149 := n2_; have HO152 := n3_; have HO165 := n4_; have HB := n5_; have HO174 := n6_; clear n0_ n1_ n2_ n3_ n4_ n5_ n6_; clear ho hb hg hat; obtain ⟨Ao43, co43, eo43⟩ := Kd.R_slice HO165.out; subst eo43; obtain ⟨Ao44, co44, eo44⟩ := Kd.R_slice HO174.out; subst eo44) | ((with_reducible refine gate_callee (f := 33) rfl ?_); refine goesL_ (some 78) rfl rfl Try.func33 (by kernel_rfl) rfl #[.slice Ao43 y163.length co43, .slice Ao44 y172.length co44] rfl (by (try simp only [List.map_toArray, List.map_cons, List.map_nil]); first | done | rfl | (simp only [List.length_drop, List.length_take]; rfl)) ?_; (with_reducible refine (phasor_Phases.calls kj6 _ _ y163 _ _ y172 t175 t176 _ ?side1 ?side2 ?side3 ?side4 A23.out).mono ?_); (case side1 => repeat (first | exact (Kd.R_reads' HO165.out).2.2 | (with_reducible refine Kd.C_alloc ?_ _) | (with_reducible refine Kd.C_drewN ?_ _) | (with_reducible refine Kd.C_drew ?_))); (case side2 => exact (Kd.R_reads' HO165.out).2.1); (case side3 => repeat (first | exact (Kd.R_reads' HO174.out).2.2 | (with_reducible refine Kd.C_alloc ?_ _) | (with_reducible refine Kd.C_drewN ?_ _) | (with_reducible refine Kd.C_drew ?_))); (case side4 => exact (Kd.R_reads' HO174.out).2.1); rintro e w45 ⟨rfl, hb⟩; refine ⟨_, rfl, ?_⟩; have n0_ := Aside0.mk (Kd.R_below (by (with_reducible repeat (first | apply Kd.R_alloc | apply Kd.R_drewN | apply Kd.R_drew)); exact HO143.out) hb); have n1_ := Aside0.mk (Kd.R_below (by (with_reducible repeat (first | apply Kd.R_alloc | apply Kd.R_drewN | apply Kd.R_drew)); exact HO146.out) hb); have n2_ := Aside0.mk (Kd.R_below (by (with_reducible repeat (first | apply Kd.R_alloc | apply Kd.R_drewN | apply Kd.R_drew)); exact HO149.out) hb); have n3_ := Aside0.mk (Kd.R_below (by (with_reducible repeat (first | apply Kd.R_alloc | apply Kd.R_drewN | apply Kd.R_drew)); exact HO152.out) hb); have n4_ := Aside0.mk (Kd.R_below (by (with_reducible repeat (first | apply Kd.R_alloc | apply Kd.R_drewN | apply Kd.R_drew)); exact HO165.out) hb); have n5_ := Aside0.mk (Kd.R_below (by (with_reducible repeat (first | apply Kd.R_alloc | apply Kd.R_drewN | apply Kd.R_drew)); exact HO174.out) hb); have n6_ := Aside0.mk (below_step (by repeat (first | (with_reducible first | exact HB.out | apply below_alloc | apply pw_below_drewN | apply below_drew1) | exact HB.out)) hb); clear HO143; clear HO146; clear HO149; clear HO152; clear HO165; clear HO174; clear HB; have HO143 := n0_; have HO146 := n1_; have HO149 := n2_; have HO152 := n3_; have HO165 := n4_; have HO174 := n5_; have HB := n6_; clear n0_ n1_ n2_ n3_ n4_ n5_ n6_; (try clear hb); (try clear hb2); (try clear hk); (try clear hi)))
                  (try simp only [Act.put, List.setIfInBounds_toArray, List.set_cons_zero, List.set_cons_succ])
                  go_cut [86] (fun v86 wc => ∃ (kq : Nat) (x86_23 : Bool), v86 = .bool x86_23 ∧ Aside0 (pylonlaw02_PhasorPhases.j1 kq t141 t144 t147 t150 t153 t154 t155 t156 t175 t176 x86_23 = some r) ∧ Aside0 (kq ≤ kj6) ∧ Aside0 (Kd.R Kd.c128 31 wc w.heap.size (fun k_ => some k_ ≠ ((.slice Ao30 t144.length co30) : Value).ownBlock ∧ some k_ ≠ ((.slice Ao32 t147.length co32) : Value).ownBlock ∧ some k_ ≠ ((.slice Ao33 t150.length co33) : Value).ownBlock) (.slice Ao29 t141.length co29) t141) ∧ Aside0 (Kd.R Kd.c128 31 wc w.heap.size (fun k_ => some k_ ≠ ((.slice Ao29 t141.length co29) : Value).ownBlock ∧ some k_ ≠ ((.slice Ao32 t147.length co32) : Value).ownBlock ∧ some k_ ≠ ((.slice Ao33 t150.length co33) : Value).ownBlock) (.slice Ao30 t144.length co30) t144) ∧ Aside0 (Kd.R Kd.c128 31 wc w.heap.size (fun k_ => some k_ ≠ ((.slice Ao29 t141.length co29) : Value).ownBlock ∧ some k_ ≠ ((.slice Ao30 t144.length co30) : Value).ownBlock ∧ some k_ ≠ ((.slice Ao33 t150.length co33) : Value).ownBlock) (.slice Ao32 t147.length co32) t147) ∧ Aside0 (Kd.R Kd.c128 31 wc w.heap.size (fun k_ => some k_ ≠ ((.slice Ao29 t141.length co29) : Value).ownBlock ∧ some k_ ≠ ((.slice Ao30 t144.length co30) : Value).ownBlock ∧ some k_ ≠ ((.slice Ao32 t147.length co32) : Value).ownBlock) (.slice Ao33 t150.length co33) t150) ∧ Aside0 (Below w.heap.size w wc))
                  case first =>
                    have H := HC24.out
                    clear HC24
                    by_cases c46 : t154 = 0
                    · rw [if_pos c46] at H
                      have c46b0 : (t154 == 0) = true := beq_iff_eq.mpr c46
                      have c46b1 : (t154 != 0) = false := bne_eq_false_iff_eq.mpr c46
                      clear c46
                      (first | rw [c46b0] | (simp only [i64_w, i32_w]; rw [c46b0]) | skip)
                      have H' := Aside0.mk H
                      clear H
                      go_wp2
                      go_meet
                      case rel => exact ⟨_, ((t156 != 0)), (by first | rfl | (simp; done) | (simp [*]; done)), H', ⟨by have := HJ6.out; first | omega | exact Nat.le_refl _⟩, ⟨by (with_reducible repeat (first | apply Kd.R_alloc | apply Kd.R_drewN | apply Kd.R_drew)); exact Kd.R_mono HO143.out (fun _ hk => ⟨hk.1.1, ⟨hk.1.2.1, hk.1.2.2.1⟩⟩)⟩, ⟨by (with_reducible repeat (first | apply Kd.R_alloc | apply Kd.R_drewN | apply Kd.R_drew)); exact Kd.R_mono HO146.out (fun _ hk => ⟨hk.1.1, ⟨hk.1.2.1, hk.1.2.2.1⟩⟩)⟩, ⟨by (with_reducible repeat (first | apply Kd.R_alloc | apply Kd.R_drewN | apply Kd.R_drew)); exact Kd.R_mono HO149.out (fun _ hk => ⟨hk.1.1, ⟨hk.1.2.1, hk.1.2.2.1⟩⟩)⟩, ⟨by (with_reducible repeat (first | apply Kd.R_alloc | apply Kd.R_drewN | apply Kd.R_drew)); exact Kd.R_mono HO152.out (fun _ hk => ⟨hk.1.1, ⟨hk.1.2.1, hk.1.2.2.1⟩⟩)⟩, ⟨by repeat (first | (with_reducible first | exact HB.out | apply below_alloc | apply pw_below_drewN | apply below_drew1) | exact HB.out)⟩⟩
                    · rw [if_neg c46] at H
                      have c46b0 : (t154 == 0) = false := beq_eq_false_iff_ne.mpr c46
                      have c46b1 : (t154 != 0) = true := bne_iff_ne.mpr c46
                      (first | rw [c46b0] | (simp only [i64_w, i32_w]; rw [c46b0]) | skip)
                      have H' := Aside0.mk H
                      clear H
                      go_wp2
                      go_meet
                      case rel => exact ⟨_, (true), (by first | rfl | (simp; done) | (simp [*]; done)), H', ⟨by have := HJ6.out; first | omega | exact Nat.le_refl _⟩, ⟨by (with_reducible repeat (first | apply Kd.R_alloc | apply Kd.R_drewN | apply Kd.R_drew)); exact Kd.R_mono HO143.out (fun _ hk => ⟨hk.1.1, ⟨hk.1.2.1, hk.1.2.2.1⟩⟩)⟩, ⟨by (with_reducible repeat (first | apply Kd.R_alloc | apply Kd.R_drewN | apply Kd.R_drew)); exact Kd.R_mono HO146.out (fun _ hk => ⟨hk.1.1, ⟨hk.1.2.1, hk.1.2.2.1⟩⟩)⟩, ⟨by (with_reducible repeat (first | apply Kd.R_alloc | apply Kd.R_drewN | apply Kd.R_drew)); exact Kd.R_mono HO149.out (fun _ hk => ⟨hk.1.1, ⟨hk.1.2.1, hk.1.2.2.1⟩⟩)⟩, ⟨by (with_reducible repeat (first | apply Kd.R_alloc | apply Kd.R_drewN | apply Kd.R_drew)); exact Kd.R_mono HO152.out (fun _ hk => ⟨hk.1.1, ⟨hk.1.2.1, hk.1.2.2.1⟩⟩)⟩, ⟨by repeat (first | (with_reducible first | exact HB.out | apply below_alloc | apply pw_below_drewN | apply below_drew1) | exact HB.out)⟩⟩
                  case rest =>
                    clear HC24
                    try clear c1
                    try clear c2
                    try clear p2
                    try clear c3
                    try clear c4
                    try clear c6
                    try clear c7
                    try clear c9
                    try clear c9b0
                    try clear c9b1
                    try clear c9b2
                    try clear c10
                    try clear c10b0
                    try clear c10b1
                    try clear c10b2
                    try clear c11
                    try clear c11b0
                    try clear c11b1
                    try clear c12
                    try clear c19
                    try clear c20
                    try clear c21
                    try clear c22
                    try clear c24
                    try clear c32
                    try clear c33
                    try clear c46
                    try clear c46b0
                    try clear c46b1
                    try clear p2
                    obtain ⟨kq, x86_23, rfl, HA, HJ23, HO_9, HO_10, HO_11, HO_12, HB⟩ := hcut
                    cases kq with
                    | zero => exact absurd HA.out (by simp [pylonlaw02_PhasorPhases.j1])
                    | succ kj23 =>
                      have H := HA.out
                      clear HA
                      simp only [pylonlaw02_PhasorPhases.j1] at H
                      by_cases c47 : x86_23 = true
                      · subst c47
                        have H1 : (if t176 = 5 then (if ceq t175.re t175.im 0 0 = true then (if t154 = 0 then (if t156 = 0 then (some true) else (some (t156 == 5))) else (if t154 = 5 then (if t156 = 0 then (some true) else (some (t156 == 5))) else (some false))) else (some false)) else (some false)) = some r := by rw [if_pos rfl] at H; exact H
                        clear H
                        have H := H1
                        clear H1
                        by_cases c48 : t176 = 5
                        · rw [if_pos c48] at H
                          have c48b0 : (t176 == 5) = true := beq_iff_eq.mpr c48
                          have c48b1 : (t176 != 5) = false := bne_eq_false_iff_eq.mpr c48
                          clear c48
                          by_cases c49 : ceq t175.re t175.im 0 0 = true
                          · rw [if_pos c49] at H
                            have c49b0 : ceq t175.re t175.im 0 0 = true := c49
                            clear c49
                            by_cases c50 : t154 = 0
                            · rw [if_pos c50] at H
                              have c50b0 : (t154 == 0) = true := beq_iff_eq.mpr c50
                              have c50b1 : (t154 != 0) = false := bne_eq_false_iff_eq.mpr c50
                              clear c50
                              by_cases c51 : t156 = 0
                              · rw [if_pos c51] at H
                                have c51b0 : (t156 == 0) = true := beq_iff_eq.mpr c51
                                have c51b1 : (t156 != 0) = false := bne_eq_false_iff_eq.mpr c51
                                clear c51
                                obtain rfl := Option.some.inj H
                                go_wp2
                                go_ret
                                exact ⟨by first | rfl | (simp [errW_none, errW_some] <;> rfl) | (simp [*, errW_none, errW_some] <;> rfl), by repeat (first | (with_reducible first | exact HB.out | apply below_alloc | apply pw_below_drewN | apply below_drew1) | exact HB.out)⟩
                              · rw [if_neg c51] at H
                                have c51b0 : (t156 == 0) = false := beq_eq_false_iff_ne.mpr c51
                                have c51b1 : (t156 != 0) = true := bne_iff_ne.mpr c51
                                obtain rfl := Option.some.inj H
                                go_wp2
                                go_ret
                                exact ⟨by first | rfl | (simp [errW_none, errW_some] <;> rfl) | (simp [*, errW_none, errW_some] <;> rfl), by repeat (first | (with_reducible first | exact HB.out | apply below_alloc | apply pw_below_drewN | apply below_drew1) | exact HB.out)⟩
                            · rw [if_neg c50] at H
                              have c50b0 : (t154 == 0) = false := beq_eq_false_iff_ne.mpr c50
                              have c50b1 : (t154 != 0) = true := bne_iff_ne.mpr c50
                              by_cases c52 : t154 = 5
                              · rw [if_pos c52] at H
                                have c52b0 : (t154 == 5) = true := beq_iff_eq.mpr c52
                                have c52b1 : (t154 != 5) = false := bne_eq_false_iff_eq.mpr c52
                                clear c52
                                by_cases c53 : t156 = 0
                                · rw [if_pos c53] at H
                                  have c53b0 : (t156 == 0) = true := beq_iff_eq.mpr c53
                                  have c53b1 : (t156 != 0) = false := bne_eq_false_iff_eq.mpr c53
                                  clear c53
                                  obtain rfl := Option.some.inj H
                                  go_wp2
                                  go_ret
                                  exact ⟨by first | rfl | (simp [errW_none, errW_some] <;> rfl) | (simp [*, errW_none, errW_some] <;> rfl), by repeat (first | (with_reducible first | exact HB.out | apply below_alloc | apply pw_below_drewN | apply below_drew1) | exact HB.out)⟩
                                · rw [if_neg c53] at H
                                  have c53b0 : (t156 == 0) = false := beq_eq_false_iff_ne.mpr c53
                                  have c53b1 : (t156 != 0) = true := bne_iff_ne.mpr c53
                                  obtain rfl := Option.some.inj H
                                  go_wp2
                                  go_ret
                                  exact ⟨by first | rfl | (simp [errW_none, errW_some] <;> rfl) | (simp [*, errW_none, errW_some] <;> rfl), by repeat (first | (with_reducible first | exact HB.out | apply below_alloc | apply pw_below_drewN | apply below_drew1) | exact HB.out)⟩
                              · rw [if_neg c52] at H
                                have c52b0 : (t154 == 5) = false := beq_eq_false_iff_ne.mpr c52
                                have c52b1 : (t154 != 5) = true := bne_iff_ne.mpr c52
                                obtain rfl := Option.some.inj H
                                go_wp2
                                go_ret
                                exact ⟨by first | rfl | (simp [errW_none, errW_some] <;> rfl) | (simp [*, errW_none, errW_some] <;> rfl), by repeat (first | (with_reducible first | exact HB.out | apply below_alloc | apply pw_below_drewN | apply below_drew1) | exact HB.out)⟩
                          · rw [if_neg c49] at H
                            have c49b0 : ceq t175.re t175.im 0 0 = false := Bool.eq_false_iff.mpr c49
                            clear c49
                            obtain rfl := Option.some.inj H
                            go_wp2
                            go_ret
                            exact ⟨by first | rfl | (simp [errW_none, errW_some] <;> rfl) | (simp [*, errW_none, errW_some] <;> rfl), by repeat (first | (with_reducible first | exact HB.out | apply below_alloc | apply pw_below_drewN | apply below_drew1) | exact HB.out)⟩
                        · rw [if_neg c48] at H
                          have c48b0 : (t176 == 5) = false := beq_eq_false_iff_ne.mpr c48
                          have c48b1 : (t176 != 5) = true := bne_iff_ne.mpr c48
                          obtain rfl := Option.some.inj H
                          go_wp2
                          go_ret
                          exact ⟨by first | rfl | (simp [errW_none, errW_some] <;> rfl) | (simp [*, errW_none, errW_some] <;> rfl), by repeat (first | (with_reducible first | exact HB.out | apply below_alloc | apply pw_below_drewN | apply below_drew1) | exact HB.out)⟩
                      · replace c47 := Bool.eq_false_iff.mpr c47
                        subst c47
                        have H1 : (if t176 = 0 then (if caddok t153.re t153.im t155.re t155.im = true then (pylonlaw02_PhasorPhases.j2 kj23 t141 t144 t147 t150 t153 t175 (!(ceq t175.re t175.im (caddre t153.re t153.im t155.re t155.im) (caddim t153.re t153.im t155.re t155.im)))) else (none)) else (pylonlaw02_PhasorPhases.j2 kj23 t141 t144 t147 t150 t153 t175 true)) = some r := by rw [if_neg (show ¬ (false = true) by decide)] at H; exact H
                        clear H
                        have H := H1
                        clear H1
                        have HC54 := Aside0.mk H
                        clear H
                        go_upto_region 11 with (fail)
                        go_cut [117] (fun v117 wc => ∃ (kq : Nat) (x117_53 : Bool), v117 = .bool x117_53 ∧ Aside0 (pylonlaw02_PhasorPhases.j2 kq t141 t144 t147 t150 t153 t175 x117_53 = some r) ∧ Aside0 (kq ≤ kj23) ∧ Aside0 (Kd.R Kd.c128 31 wc w.heap.size (fun k_ => some k_ ≠ ((.slice Ao30 t144.length co30) : Value).ownBlock ∧ some k_ ≠ ((.slice Ao32 t147.length co32) : Value).ownBlock ∧ some k_ ≠ ((.slice Ao33 t150.length co33) : Value).ownBlock) (.slice Ao29 t141.length co29) t141) ∧ Aside0 (Kd.R Kd.c128 31 wc w.heap.size (fun k_ => some k_ ≠ ((.slice Ao29 t141.length co29) : Value).ownBlock ∧ some k_ ≠ ((.slice Ao32 t147.length co32) : Value).ownBlock ∧ some k_ ≠ ((.slice Ao33 t150.length co33) : Value).ownBlock) (.slice Ao30 t144.length co30) t144) ∧ Aside0 (Kd.R Kd.c128 31 wc w.heap.size (fun k_ => some k_ ≠ ((.slice Ao29 t141.length co29) : Value).ownBlock ∧ some k_ ≠ ((.slice Ao30 t144.length co30) : Value).ownBlock ∧ some k_ ≠ ((.slice Ao33 t150.length co33) : Value).ownBlock) (.slice Ao32 t147.length co32) t147) ∧ Aside0 (Kd.R Kd.c128 31 wc w.heap.size (fun k_ => some k_ ≠ ((.slice Ao29 t141.length co29) : Value).ownBlock ∧ some k_ ≠ ((.slice Ao30 t144.length co30) : Value).ownBlock ∧ some k_ ≠ ((.slice Ao32 t147.length co32) : Value).ownBlock) (.slice Ao33 t150.length co33) t150) ∧ Aside0 (Below w.heap.size w wc))
                        case first =>
                          have H := HC54.out
                          clear HC54
                          by_cases c55 : t176 = 0
                          · rw [if_pos c55] at H
                            have c55b0 : (t176 == 0) = true := beq_iff_eq.mpr c55
                            have c55b1 : (t176 != 0) = false := bne_eq_false_iff_eq.mpr c55
                            clear c55
                            (first | rw [c55b0] | (simp only [i64_w, i32_w]; rw [c55b0]) | skip)
                            by_cases c56 : caddok t153.re t153.im t155.re t155.im = true
                            · rw [if_pos c56] at H
                              have c56b0 := eq_true c56
                              have c56b1 : decide (caddok t153.re t153.im t155.re t155.im = true) = true := decide_eq_true c56
                              clear c56
                              have H' := Aside0.mk H
                              clear H
                              go_wp2
                              go_meet
                              case rel => exact ⟨_, (!(ceq t175.re t175.im (caddre t153.re t153.im t155.re t155.im) (caddim t153.re t153.im t155.re t155.im))), (by first | rfl | (simp; done) | (simp [*]; done)), H', ⟨by have := HJ6.out; have := HJ23.out; first | omega | exact Nat.le_refl _⟩, ⟨by (with_reducible repeat (first | apply Kd.R_alloc | apply Kd.R_drewN | apply Kd.R_drew)); exact HO_9.out⟩, ⟨by (with_reducible repeat (first | apply Kd.R_alloc | apply Kd.R_drewN | apply Kd.R_drew)); exact HO_10.out⟩, ⟨by (with_reducible repeat (first | apply Kd.R_alloc | apply Kd.R_drewN | apply Kd.R_drew)); exact HO_11.out⟩, ⟨by (with_reducible repeat (first | apply Kd.R_alloc | apply Kd.R_drewN | apply Kd.R_drew)); exact HO_12.out⟩, ⟨by repeat (first | (with_reducible first | exact HB.out | apply below_alloc | apply pw_below_drewN | apply below_drew1) | exact HB.out)⟩⟩
                            · rw [if_neg c56] at H
                              exact absurd H (by simp)
                          · rw [if_neg c55] at H
                            have c55b0 : (t176 == 0) = false := beq_eq_false_iff_ne.mpr c55
                            have c55b1 : (t176 != 0) = true := bne_iff_ne.mpr c55
                            (first | rw [c55b0] | (simp only [i64_w, i32_w]; rw [c55b0]) | skip)
                            have H' := Aside0.mk H
                            clear H
                            go_wp2
                            go_meet
                            case rel => exact ⟨_, (true), (by first | rfl | (simp; done) | (simp [*]; done)), H', ⟨by have := HJ6.out; have := HJ23.out; first | omega | exact Nat.le_refl _⟩, ⟨by (with_reducible repeat (first | apply Kd.R_alloc | apply Kd.R_drewN | apply Kd.R_drew)); exact HO_9.out⟩, ⟨by (with_reducible repeat (first | apply Kd.R_alloc | apply Kd.R_drewN | apply Kd.R_drew)); exact HO_10.out⟩, ⟨by (with_reducible repeat (first | apply Kd.R_alloc | apply Kd.R_drewN | apply Kd.R_drew)); exact HO_11.out⟩, ⟨by (with_reducible repeat (first | apply Kd.R_alloc | apply Kd.R_drewN | apply Kd.R_drew)); exact HO_12.out⟩, ⟨by repeat (first | (with_reducible first | exact HB.out | apply below_alloc | apply pw_below_drewN | apply below_drew1) | exact HB.out)⟩⟩
                        case rest =>
                          clear HC54
                          try clear c1
                          try clear c2
                          try clear p2
                          try clear c3
                          try clear c4
                          try clear c5
                          try clear c6
                          try clear c7
                          try clear c9
                          try clear c9b0
                          try clear c9b1
                          try clear c9b2
                          try clear c10
                          try clear c10b0
                          try clear c10b1
                          try clear c10b2
                          try clear c11
                          try clear c11b0
                          try clear c11b1
                          try clear c12
                          try clear c19
                          try clear c20
                          try clear c21
                          try clear c22
                          try clear c24
                          try clear c32
                          try clear c33
                          try clear c46
                          try clear c46b0
                          try clear c46b1
                          try clear c47
                          try clear c48
                          try clear c48b0
                          try clear c48b1
                          try clear c49
                          try clear c49b0
                          try clear c50
                          try clear c50b0
                          try clear c50b1
                          try clear c51
                          try clear c51b0
                          try clear c51b1
                          try clear c52
                          try clear c52b0
                          try clear c52b1
                          try clear c53
                          try clear c53b0
                          try clear c53b1
                          try clear c55
                          try clear c55b0
                          try clear c55b1
                          try clear c56
                          try clear c56b0
                          try clear c56b1
                          try clear p2
                          obtain ⟨kq, x117_53, rfl, HA, HJ53, HO_9, HO_10, HO_11, HO_12, HB⟩ := hcut
                          cases kq with
                          | zero => exact absurd HA.out (by simp [pylonlaw02_PhasorPhases.j2])
                          | succ kj53 =>
                            have H := HA.out
                            clear HA
                            simp only [pylonlaw02_PhasorPhases.j2] at H
                            by_cases c57 : x117_53 = true
                            · subst c57
                              have H1 : (some false) = some r := by rw [if_pos rfl] at H; exact H
                              clear H
                              have H := H1
                              clear H1
                              obtain rfl := Option.some.inj H
                              go_wp2
                              go_ret
                              exact ⟨by first | rfl | (simp [errW_none, errW_some] <;> rfl) | (simp [*, errW_none, errW_some] <;> rfl), by repeat (first | (with_reducible first | exact HB.out | apply below_alloc | apply pw_below_drewN | apply below_drew1) | exact HB.out)⟩
                            · replace c57 := Bool.eq_false_iff.mpr c57
                              subst c57
                              have H1 : (if (t141.length : Int) = 1 then (pylonlaw02_PhasorPhases.j3 kj53 t141 t144 t147 t150 t153 t175 ((t147.length : Int) == 1)) else (pylonlaw02_PhasorPhases.j3 kj53 t141 t144 t147 t150 t153 t175 false)) = some r := by rw [if_neg (show ¬ (false = true) by decide)] at H; exact H
                              clear H
                              have H := H1
                              clear H1
                              have HC58 := Aside0.mk H
                              clear H
                              go_upto_region 13 with (fail)
                              go_cut [125] (fun v125 wc => ∃ (kq : Nat) (x125_57 : Bool), v125 = .bool x125_57 ∧ Aside0 (pylonlaw02_PhasorPhases.j3 kq t141 t144 t147 t150 t153 t175 x125_57 = some r) ∧ Aside0 (kq ≤ kj53) ∧ Aside0 (Kd.R Kd.c128 31 wc w.heap.size (fun k_ => some k_ ≠ ((.slice Ao30 t144.length co30) : Value).ownBlock ∧ some k_ ≠ ((.slice Ao32 t147.length co32) : Value).ownBlock ∧ some k_ ≠ ((.slice Ao33 t150.length co33) : Value).ownBlock) (.slice Ao29 t141.length co29) t141) ∧ Aside0 (Kd.R Kd.c128 31 wc w.heap.size (fun k_ => some k_ ≠ ((.slice Ao29 t141.length co29) : Value).ownBlock ∧ some k_ ≠ ((.slice Ao32 t147.length co32) : Value).ownBlock ∧ some k_ ≠ ((.slice Ao33 t150.length co33) : Value).ownBlock) (.slice Ao30 t144.length co30) t144) ∧ Aside0 (Kd.R Kd.c128 31 wc w.heap.size (fun k_ => some k_ ≠ ((.slice Ao29 t141.length co29) : Value).ownBlock ∧ some k_ ≠ ((.slice Ao30 t144.length co30) : Value).ownBlock ∧ some k_ ≠ ((.slice Ao33 t150.length co33) : Value).ownBlock) (.slice Ao32 t147.length co32) t147) ∧ Aside0 (Kd.R Kd.c128 31 wc w.heap.size (fun k_ => some k_ ≠ ((.slice Ao29 t141.length co29) : Value).ownBlock ∧ some k_ ≠ ((.slice Ao30 t144.length co30) : Value).ownBlock ∧ some k_ ≠ ((.slice Ao32 t147.length co32) : Value).ownBlock) (.slice Ao33 t150.length co33) t150) ∧ Aside0 (Below w.heap.size w wc))
                              case first =>
                                have H := HC58.out
                                clear HC58
                                by_cases c59 : (t141.length : Int) = 1
                                · rw [if_pos c59] at H
                                  have c59b0 : ((t141.length : Int) == 1) = true := beq_iff_eq.mpr c59
                                  have c59b1 : ((t141.length : Int) != 1) = false := bne_eq_false_iff_eq.mpr c59
                                  clear c59
                                  (first | rw [c59b0] | (simp only [i64_w, i32_w]; rw [c59b0]) | skip)
                                  have H' := Aside0.mk H
                                  clear H
                                  go_wp2
                                  go_meet
                                  case rel => exact ⟨_, (((t147.length : Int) == 1)), (by first | rfl | (simp; done) | (simp [*]; done)), H', ⟨by have := HJ6.out; have := HJ23.out; have := HJ53.out; first | omega | exact Nat.le_refl _⟩, ⟨by (with_reducible repeat (first | apply Kd.R_alloc | apply Kd.R_drewN | apply Kd.R_drew)); exact HO_9.out⟩, ⟨by (with_reducible repeat (first | apply Kd.R_alloc | apply Kd.R_drewN | apply Kd.R_drew)); exact HO_10.out⟩, ⟨by (with_reducible repeat (first | apply Kd.R_alloc | apply Kd.R_drewN | apply Kd.R_drew)); exact HO_11.out⟩, ⟨by (with_reducible repeat (first | apply Kd.R_alloc | apply Kd.R_drewN | apply Kd.R_drew)); exact HO_12.out⟩, ⟨by repeat (first | (with_reducible first | exact HB.out | apply below_alloc | apply pw_below_drewN | apply below_drew1) | exact HB.out)⟩⟩
                                · rw [if_neg c59] at H
                                  have c59b0 : ((t141.length : Int) == 1) = false := beq_eq_false_iff_ne.mpr c59
                                  have c59b1 : ((t141.length : Int) != 1) = true := bne_iff_ne.mpr c59
                                  (first | rw [c59b0] | (simp only [i64_w, i32_w]; rw [c59b0]) | skip)
                                  have H' := Aside0.mk H
                                  clear H
                                  go_wp2
                                  go_meet
                                  case rel => exact ⟨_, (false), (by first | rfl | (simp; done) | (simp [*]; done)), H', ⟨by have := HJ6.out; have := HJ23.out; have := HJ53.out; first | omega | exact Nat.le_refl _⟩, ⟨by (with_reducible repeat (first | apply Kd.R_alloc | apply Kd.R_drewN | apply Kd.R_drew)); exact HO_9.out⟩, ⟨by (with_reducible repeat (first | apply Kd.R_alloc | apply Kd.R_drewN | apply Kd.R_drew)); exact HO_10.out⟩, ⟨by (with_reducible repeat (first | apply Kd.R_alloc | apply Kd.R_drewN | apply Kd.R_drew)); exact HO_11.out⟩, ⟨by (with_reducible repeat (first | apply Kd.R_alloc | apply Kd.R_drewN | apply Kd.R_drew)); exact HO_12.out⟩, ⟨by repeat (first | (with_reducible first | exact HB.out | apply below_alloc | apply pw_below_drewN | apply below_drew1) | exact HB.out)⟩⟩
                              case rest =>
                                clear HC58
                                try clear c1
                                try clear c2
                                try clear p2
                                try clear c3
                                try clear c4
                                try clear c5
                                try clear c6
                                try clear c7
                                try clear c9
                                try clear c9b0
                                try clear c9b1
                                try clear c9b2
                                try clear c10
                                try clear c10b0
                                try clear c10b1
                                try clear c10b2
                                try clear c11
                                try clear c11b0
                                try clear c11b1
                                try clear c12
                                try clear c19
                                try clear c20
                                try clear c21
                                try clear c22
                                try clear c24
                                try clear c32
                                try clear c33
                                try clear c46
                                try clear c46b0
                                try clear c46b1
                                try clear c47
                                try clear c48
                                try clear c48b0
                                try clear c48b1
                                try clear c49
                                try clear c49b0
                                try clear c50
                                try clear c50b0
                                try clear c50b1
                                try clear c51
                                try clear c51b0
                                try clear c51b1
                                try clear c52
                                try clear c52b0
                                try clear c52b1
                                try clear c53
                                try clear c53b0
                                try clear c53b1
                                try clear c55
                                try clear c55b0
                                try clear c55b1
                                try clear c56
                                try clear c56b0
                                try clear c56b1
                                try clear c57
                                try clear c59
                                try clear c59b0
                                try clear c59b1
                                try clear p2
                                obtain ⟨kq, x125_57, rfl, HA, HJ57, HO_9, HO_10, HO_11, HO_12, HB⟩ := hcut
                                cases kq with
                                | zero => exact absurd HA.out (by simp [pylonlaw02_PhasorPhases.j3])
                                | succ kj57 =>
                                  have H := HA.out
                                  clear HA
                                  simp only [pylonlaw02_PhasorPhases.j3] at H
                                  by_cases c60 : x125_57 = true
                                  · subst c60
                                    have H1 : (if 0 < (t141.length : Int) then (if 0 < (t144.length : Int) then ((phasor_Power.f (rdOf (cx 0 0) t141 0) (rdOf (cx 0 0) t144 0)).bind fun bt179 => (if 0 < (t147.length : Int) then (if 0 < (t150.length : Int) then ((phasor_Aron.f (rdOf (cx 0 0) t141 0) (rdOf (cx 0 0) t147 0) (rdOf (cx 0 0) t144 0) (rdOf (cx 0 0) t150 0)).bind fun bt185 => (if bt179.2 = 0 then (if bt185.2 = 0 then (if ceq bt179.1.re bt179.1.im t153.re t153.im = true then (some (ceq bt185.1.re bt185.1.im t175.re t175.im)) else (some false)) else (some false)) else (some false))) else (none)) else (none))) else (none)) else (none)) = some r := by rw [if_pos rfl] at H; exact H
                                    clear H
                                    have H := H1
                                    clear H1
                                    by_cases c61 : 0 < (t141.length : Int)
                                    · rw [if_pos c61] at H
                                      have c61b0 : decide (0 < (t141.length : Int)) = true := decide_eq_true c61
                                      have c61b1 : decide (0 < t141.length) = true := decide_eq_true (by omega)
                                      clear c61
                                      by_cases c62 : 0 < (t144.length : Int)
                                      · rw [if_pos c62] at H
                                        have c62b0 : decide (0 < (t144.length : Int)) = true := decide_eq_true c62
                                        have c62b1 : decide (0 < t144.length) = true := decide_eq_true (by omega)
                                        clear c62
                                        replace H := Option.bind_eq_some_iff.mp H
                                        obtain ⟨⟨t179, t180⟩, A630, H⟩ := H
                                        replace H : (if 0 < (t147.length : Int) then (if 0 < (t150.length : Int) then ((phasor_Aron.f (rdOf (cx 0 0) t141 0) (rdOf (cx 0 0) t147 0) (rdOf (cx 0 0) t144 0) (rdOf (cx 0 0) t150 0)).bind fun bt185 => (if t180 = 0 then (if bt185.2 = 0 then (if ceq t179.re t179.im t153.re t153.im = true then (some (ceq bt185.1.re bt185.1.im t175.re t175.im)) else (some false)) else (some false)) else (some false))) else (none)) else (none)) = some r := H
                                        have A63 := Aside0.mk A630
                                        clear A630
                                        by_cases c64 : 0 < (t147.length : Int)
                                        · rw [if_pos c64] at H
                                          have c64b0 : decide (0 < (t147.length : Int)) = true := decide_eq_true c64
                                          have c64b1 : decide (0 < t147.length) = true := decide_eq_true (by omega)
                                          clear c64
                                          by_cases c65 : 0 < (t150.length : Int)
                                          · rw [if_pos c65] at H
                                            have c65b0 : decide (0 < (t150.length : Int)) = true := decide_eq_true c65
                                            have c65b1 : decide (0 < t150.length) = true := decide_eq_true (by omega)
                                            clear c65
                                            replace H := Option.bind_eq_some_iff.mp H
                                            obtain ⟨⟨t185, t186⟩, A660, H⟩ := H
                                            replace H : (if t180 = 0 then (if t186 = 0 then (if ceq t179.re t179.im t153.re t153.im = true then (some (ceq t185.re t185.im t175.re t175.im)) else (some false)) else (some false)) else (some false)) = some r := H
                                            have A66 := Aside0.mk A660
                                            clear A660
                                            by_cases c67 : t180 = 0
                                            · rw [if_pos c67] at H
                                              have c67b0 : (t180 == 0) = true := beq_iff_eq.mpr c67
                                              have c67b1 : (t180 != 0) = false := bne_eq_false_iff_eq.mpr c67
                                              clear c67
                                              by_cases c68 : t186 = 0
                                              · rw [if_pos c68] at H
                                                have c68b0 : (t186 == 0) = true := beq_iff_eq.mpr c68
                                                have c68b1 : (t186 != 0) = false := bne_eq_false_iff_eq.mpr c68
                                                clear c68
                                                by_cases c69 : ceq t179.re t179.im t153.re t153.im = true
                                                · rw [if_pos c69] at H
                                                  have c69b0 : ceq t179.re t179.im t153.re t153.im = true := c69
                                                  clear c69
                                                  obtain rfl := Option.some.inj H
                                                  try go_wp2
                                                  have n0_ := Aside0.mk (Kd.R_drew HO_9.out)
                                                  have n1_ := Aside0.mk (Kd.R_drew HO_10.out)
                                                  have n2_ := Aside0.mk (Kd.R_drew HO_11.out)
                                                  have n3_ := Aside0.mk (Kd.R_drew HO_12.out)
                                                  have n4_ := Aside0.mk (below_drew1 HB.out)
                                                  clear HO_9
                                                  clear HO_10
                                                  clear HO_11
                                                  clear HO_12
                                                  clear HB
                                                  have HO_9 := n0_
                                                  have HO_10 := n1_
                                                  have HO_11 := n2_
                                                  have HO_12 := n3_
                                                  have HB := n4_
                                                  clear n0_ n1_ n2_ n3_ n4_
                                                  have p177 : 0 ≤ (0 : Int) := (by omega)
                                                  have q177 : 0 < (t141.length : Int) := of_decide_eq_true (by first | (with_reducible assumption) | assumption)
                                                  obtain ⟨ad177, e177, hx177_0⟩ := Kd.at_c128 (Kd.R_reads' HO_9.out).2.2 0 p177 q177
                                                  cases e177
                                                  have qi177 : (0 < t141.length) = True := eq_true (by omega)
                                                  (try rw [show ((0 : Int)).toNat = 0 from rfl] at hx177_0)
                                                  (try rw [Addr.add_zero'] at hx177_0)
                                                  replace p177 := eq_true p177
                                                  replace q177 := eq_true q177
                                                  have p178 : 0 ≤ (0 : Int) := (by omega)
                                                  have q178 : 0 < (t144.length : Int) := of_decide_eq_true (by first | (with_reducible assumption) | assumption)
                                                  obtain ⟨ad178, e178, hx178_0⟩ := Kd.at_c128 (Kd.R_reads' HO_10.out).2.2 0 p178 q178
                                                  cases e178
                                                  have qi178 : (0 < t144.length) = True := eq_true (by omega)
                                                  (try rw [show ((0 : Int)).toNat = 0 from rfl] at hx178_0)
                                                  (try rw [Addr.add_zero'] at hx178_0)
                                                  replace p178 := eq_true p178
                                                  replace q178 := eq_true q178
                                                  refine start_ (n := 12) (S := fun w' => w'.cell? ad177 = some (.complex .f64 (rdOf (cx 0 0) t141 0).re (rdOf (cx 0 0) t141 0).im) ∧ w'.cell? ad178 = some (.complex .f64 (rdOf (cx 0 0) t144 0).re (rdOf (cx 0 0) t144 0).im)) (ds := []) #[false, false, false, false, false, false, false, false, false, false, false, false] (by kernel_rfl) rfl rfl ⟨hx177_0, hx178_0⟩ (fun hHeld => ?_); refine with_tabW pylonlaw02_PhasorPhases.tab14 pylonlaw02_PhasorPhases.bits14 (fun HT_ HW_ => ?_)
                                                  generalize wc.drew = w70 at HO_9 HO_10 HO_11 HO_12 HB hx177_0 hx178_0 hHeld ⊢
                                                  refine pure_ (i := 0) (N := some 127) (v := ?_) (a' := ?_) #[true, false, false, false, false, false, false, false, false, false, false, false] rfl rfl (any_of HT_.out (by kernel_rfl)) (fun _ _ _ h => h) (Or.inl ⟨by rfl, ?_⟩) ?_ ?_
                                                  rotate_left
                                                  · intro w'
                                                    go_simp
                                                    with_reducible rfl
                                                  rotate_left
                                                  · simp only [Act.put, List.setIfInBounds_toArray, List.set_cons_zero, List.set_cons_succ, i64_w, i32_w]
                                                    rfl
                                                  refine pure_ (i := 1) (N := some 128) (v := ?_) (a' := ?_) #[true, true, false, false, false, false, false, false, false, false, false, false] rfl rfl (any_of HT_.out (by kernel_rfl)) (fun _ _ _ h => h) (Or.inl ⟨by rfl, ?_⟩) ?_ ?_
                                                  rotate_left
                                                  · intro w'
                                                    go_simp
                                                    with_reducible rfl
                                                  rotate_left
                                                  · simp only [Act.put, List.setIfInBounds_toArray, List.set_cons_zero, List.set_cons_succ, i64_w, i32_w]
                                                    rfl
                                                  refine pure_ (i := 3) (N := some 130) (v := ?_) (a' := ?_) #[true, true, false, true, false, false, false, false, false, false, false, false] rfl rfl (any_of HT_.out (by kernel_rfl)) (fun _ _ _ h => h) (Or.inl ⟨by rfl, ?_⟩) ?_ ?_
                                                  rotate_left
                                                  · intro w'
                                                    go_simp
                                                    with_reducible rfl
                                                  rotate_left
                                                  · simp only [Act.put, List.setIfInBounds_toArray, List.set_cons_zero, List.set_cons_succ, i64_w, i32_w]
                                                    rfl
                                                  refine pure_ (i := 4) (N := some 131) (v := ?_) (a' := ?_) #[true, true, false, true, true, false, false, false, false, false, false, false] rfl rfl (any_of HT_.out (by kernel_rfl)) (fun _ _ _ h => h) (Or.inl ⟨by rfl, ?_⟩) ?_ ?_
                                                  rotate_left
                                                  · intro w'
                                                    go_simp
                                                    with_reducible rfl
                                                  rotate_left
                                                  · simp only [Act.put, List.setIfInBounds_toArray, List.set_cons_zero, List.set_cons_succ, i64_w, i32_w]
                                                    rfl
                                                  refine take_ (i := 2) (N := some 129) (v := ?_) (a' := ?_) #[true, true, true, true, true, false, false, false, false, false, false, false] rfl rfl (take_ofW HT_.out HW_.out (by kernel_rfl)) (fun _ _ _ h => h) (Or.inl ⟨by rfl, ?_⟩) hHeld ?_ ?_
                                                  rotate_left
                                                  · rintro w' ⟨s0, s1⟩
                                                    go_simp
                                                    with_reducible rfl
                                                  rotate_left
                                                  · simp only [Act.put, List.setIfInBounds_toArray, List.set_cons_zero, List.set_cons_succ, i64_w, i32_w]
                                                    rfl
                                                  refine take_ (i := 5) (N := some 132) (v := ?_) (a' := ?_) #[true, true, true, true, true, true, false, false, false, false, false, false] rfl rfl (take_ofW HT_.out HW_.out (by kernel_rfl)) (fun _ _ _ h => h) (Or.inl ⟨by rfl, ?_⟩) hHeld ?_ ?_
                                                  rotate_left
                                                  · rintro w' ⟨s0, s1⟩
                                                    go_simp
                                                    with_reducible rfl
                                                  rotate_left
                                                  · simp only [Act.put, List.setIfInBounds_toArray, List.set_cons_zero, List.set_cons_succ, i64_w, i32_w]
                                                    rfl
                                                  refine one_ (i := 6) (N := some 133) #[true, true, true, true, true, true, true, false, false, false, false, false] rfl rfl (one_of HT_.out (by kernel_rfl)) (by decide) (fun K hK => ?_)
                                                  refine goes_ Try.func26 (by kernel_rfl) rfl #[.complex .f64 (rdOf (cx 0 0) t141 0).re (rdOf (cx 0 0) t141 0).im, .complex .f64 (rdOf (cx 0 0) t144 0).re (rdOf (cx 0 0) t144 0).im] (by rfl) rfl rfl (by (try simp only [List.map_toArray, List.map_cons, List.map_nil]); first | done | rfl | (simp only [List.length_drop, List.length_take]; rfl)) ?_
                                                  with_reducible refine (phasor_Power.calls (rdOf (cx 0 0) t141 0) (rdOf (cx 0 0) t144 0) t179 t180 _ A63.out).mono ?_
                                                  rintro e w71 ⟨rfl, hb⟩
                                                  have HS0_ := (hb.cell (World.block_lt_of_cell? _ _ (hHeld.1))).trans (hHeld.1)
                                                  have HS1_ := (hb.cell (World.block_lt_of_cell? _ _ (hHeld.2))).trans (hHeld.2)
                                                  refine ⟨_, rfl, ?_⟩
                                                  have n0_ := Aside0.mk (Kd.R_below (by (with_reducible repeat (first | apply Kd.R_alloc | apply Kd.R_drewN | apply Kd.R_drew)); exact HO_9.out) hb)
                                                  have n1_ := Aside0.mk (Kd.R_below (by (with_reducible repeat (first | apply Kd.R_alloc | apply Kd.R_drewN | apply Kd.R_drew)); exact HO_10.out) hb)
                                                  have n2_ := Aside0.mk (Kd.R_below (by (with_reducible repeat (first | apply Kd.R_alloc | apply Kd.R_drewN | apply Kd.R_drew)); exact HO_11.out) hb)
                                                  have n3_ := Aside0.mk (Kd.R_below (by (with_reducible repeat (first | apply Kd.R_alloc | apply Kd.R_drewN | apply Kd.R_drew)); exact HO_12.out) hb)
                                                  have n4_ := Aside0.mk (below_step (by repeat (first | (with_reducible first | exact HB.out | apply below_alloc | apply pw_below_drewN | apply below_drew1) | exact HB.out)) hb)
                                                  clear HO_9
                                                  clear HO_10
                                                  clear HO_11
                                                  clear HO_12
                                                  clear HB
                                                  have HO_9 := n0_
                                                  have HO_10 := n1_
                                                  have HO_11 := n2_
                                                  have HO_12 := n3_
                                                  have HB := n4_
                                                  clear n0_ n1_ n2_ n3_ n4_
                                                  (try clear hb)
                                                  (try clear hb2)
                                                  (try clear hk)
                                                  (try clear hi)
                                                  refine hK.out _ _ ⟨HS0_, HS1_⟩ (fun hHeld => ?_)
                                                  clear hK K
                                                  refine norm_ (a' := ?_) ?_ ?_
                                                  rotate_left
                                                  · show Act.put _ (some 133) _ = _
                                                    simp only [Act.put, List.setIfInBounds_toArray, List.set_cons_zero, List.set_cons_succ, i64_w, i32_w]
                                                    rfl
                                                  refine pure_ (i := 7) (N := some 126) (v := ?_) (a' := ?_) #[true, true, true, true, true, true, true, true, false, false, false, false] rfl rfl (any_of HT_.out (by kernel_rfl)) (fun _ _ _ h => h) (Or.inl ⟨by rfl, ?_⟩) ?_ ?_
                                                  rotate_left
                                                  · intro w'
                                                    go_simp
                                                    with_reducible rfl
                                                  rotate_left
                                                  · simp only [Act.put, List.setIfInBounds_toArray, List.set_cons_zero, List.set_cons_succ, i64_w, i32_w]
                                                    rfl
                                                  refine pure_ (i := 8) (N := some 134) (v := ?_) (a' := ?_) #[true, true, true, true, true, true, true, true, true, false, false, false] rfl rfl (any_of HT_.out (by kernel_rfl)) (fun _ _ _ h => h) (Or.inl ⟨by rfl, ?_⟩) ?_ ?_
                                                  rotate_left
                                                  · intro w'
                                                    go_simp
                                                    with_reducible rfl
                                                  rotate_left
                                                  · simp only [Act.put, List.setIfInBounds_toArray, List.set_cons_zero, List.set_cons_succ, i64_w, i32_w]
                                                    rfl
                                                  refine pure_ (i := 9) (N := some 135) (v := ?_) (a' := ?_) #[true, true, true, true, true, true, true, true, true, true, false, false] rfl rfl (any_of HT_.out (by kernel_rfl)) (fun _ _ _ h => h) (Or.inl ⟨by rfl, ?_⟩) ?_ ?_
                                                  rotate_left
                                                  · intro w'
                                                    go_simp
                                                    with_reducible rfl
                                                  rotate_left
                                                  · simp only [Act.put, List.setIfInBounds_toArray, List.set_cons_zero, List.set_cons_succ, i64_w, i32_w]
                                                    rfl
                                                  refine pure_ (i := 10) (N := some 19) (v := ?_) (a' := ?_) #[true, true, true, true, true, true, true, true, true, true, true, false] rfl rfl (any_of HT_.out (by kernel_rfl)) (fun _ _ _ h => h) (Or.inl ⟨by rfl, ?_⟩) ?_ ?_
                                                  rotate_left
                                                  · intro w'
                                                    go_simp
                                                    with_reducible rfl
                                                  rotate_left
                                                  · simp only [Act.put, List.setIfInBounds_toArray, List.set_cons_zero, List.set_cons_succ, i64_w, i32_w]
                                                    rfl
                                                  refine pure_ (i := 11) (N := some 20) (v := ?_) (a' := ?_) #[true, true, true, true, true, true, true, true, true, true, true, true] rfl rfl (any_of HT_.out (by kernel_rfl)) (fun _ _ _ h => h) (Or.inl ⟨by rfl, ?_⟩) ?_ ?_
                                                  rotate_left
                                                  · intro w'
                                                    go_simp
                                                    with_reducible rfl
                                                  rotate_left
                                                  · simp only [Act.put, List.setIfInBounds_toArray, List.set_cons_zero, List.set_cons_succ, i64_w, i32_w]
                                                    rfl
                                                  refine done_ (done_of HT_.out (by kernel_rfl)) ?_
                                                  try go_wp2
                                                  have n0_ := Aside0.mk (Kd.R_drew HO_9.out)
                                                  have n1_ := Aside0.mk (Kd.R_drew HO_10.out)
                                                  have n2_ := Aside0.mk (Kd.R_drew HO_11.out)
                                                  have n3_ := Aside0.mk (Kd.R_drew HO_12.out)
                                                  have n4_ := Aside0.mk (below_drew1 HB.out)
                                                  clear HO_9
                                                  clear HO_10
                                                  clear HO_11
                                                  clear HO_12
                                                  clear HB
                                                  have HO_9 := n0_
                                                  have HO_10 := n1_
                                                  have HO_11 := n2_
                                                  have HO_12 := n3_
                                                  have HB := n4_
                                                  clear n0_ n1_ n2_ n3_ n4_
                                                  have p181 : 0 ≤ (0 : Int) := (by omega)
                                                  have q181 : 0 < (t141.length : Int) := of_decide_eq_true (by first | (with_reducible assumption) | assumption)
                                                  obtain ⟨ad181, e181, hx181_0⟩ := Kd.at_c128 (Kd.R_reads' HO_9.out).2.2 0 p181 q181
                                                  obtain rfl : ad177 = ad181 := (by injection e181)
                                                  have qi181 : (0 < t141.length) = True := eq_true (by omega)
                                                  (try rw [show ((0 : Int)).toNat = 0 from rfl] at hx181_0)
                                                  (try rw [Addr.add_zero'] at hx181_0)
                                                  replace p181 := eq_true p181
                                                  replace q181 := eq_true q181
                                                  have p182 : 0 ≤ (0 : Int) := (by omega)
                                                  have q182 : 0 < (t147.length : Int) := of_decide_eq_true (by first | (with_reducible assumption) | assumption)
                                                  obtain ⟨ad182, e182, hx182_0⟩ := Kd.at_c128 (Kd.R_reads' HO_11.out).2.2 0 p182 q182
                                                  cases e182
                                                  have qi182 : (0 < t147.length) = True := eq_true (by omega)
                                                  (try rw [show ((0 : Int)).toNat = 0 from rfl] at hx182_0)
                                                  (try rw [Addr.add_zero'] at hx182_0)
                                                  replace p182 := eq_true p182
                                                  replace q182 := eq_true q182
                                                  have p183 : 0 ≤ (0 : Int) := (by omega)
                                                  have q183 : 0 < (t144.length : Int) := of_decide_eq_true (by first | (with_reducible assumption) | assumption)
                                                  obtain ⟨ad183, e183, hx183_0⟩ := Kd.at_c128 (Kd.R_reads' HO_10.out).2.2 0 p183 q183
                                                  obtain rfl : ad178 = ad183 := (by injection e183)
                                                  have qi183 : (0 < t144.length) = True := eq_true (by omega)
                                                  (try rw [show ((0 : Int)).toNat = 0 from rfl] at hx183_0)
                                                  (try rw [Addr.add_zero'] at hx183_0)
                                                  replace p183 := eq_true p183
                                                  replace q183 := eq_true q183
                                                  have p184 : 0 ≤ (0 : Int) := (by omega)
                                                  have q184 : 0 < (t150.length : Int) := of_decide_eq_true (by first | (with_reducible assumption) | assumption)
                                                  obtain ⟨ad184, e184, hx184_0⟩ := Kd.at_c128 (Kd.R_reads' HO_12.out).2.2 0 p184 q184
                                                  cases e184
                                                  have qi184 : (0 < t150.length) = True := eq_true (by omega)
                                                  (try rw [show ((0 : Int)).toNat = 0 from rfl] at hx184_0)
                                                  (try rw [Addr.add_zero'] at hx184_0)
                                                  replace p184 := eq_true p184
                                                  replace q184 := eq_true q184
                                                  refine start_ (n := 18) (S := fun w' => w'.cell? ad177 = some (.complex .f64 (rdOf (cx 0 0) t141 0).re (rdOf (cx 0 0) t141 0).im) ∧ w'.cell? ad182 = some (.complex .f64 (rdOf (cx 0 0) t147 0).re (rdOf (cx 0 0) t147 0).im) ∧ w'.cell? ad178 = some (.complex .f64 (rdOf (cx 0 0) t144 0).re (rdOf (cx 0 0) t144 0).im) ∧ w'.cell? ad184 = some (.complex .f64 (rdOf (cx 0 0) t150 0).re (rdOf (cx 0 0) t150 0).im)) (ds := []) #[false, false, false, false, false, false, false, false, false, false, false, false, false, false, false, false, false, false] (by kernel_rfl) rfl rfl ⟨hx181_0, hx182_0, hx183_0, hx184_0⟩ (fun hHeld => ?_); refine with_tabW pylonlaw02_PhasorPhases.tab15 pylonlaw02_PhasorPhases.bits15 (fun HT_ HW_ => ?_)
                                                  generalize w71.drew = w72 at HO_9 HO_10 HO_11 HO_12 HB hx181_0 hx182_0 hx183_0 hx184_0 hHeld ⊢
                                                  refine pure_ (i := 0) (N := some 137) (v := ?_) (a' := ?_) #[true, false, false, false, false, false, false, false, false, false, false, false, false, false, false, false, false, false] rfl rfl (any_of HT_.out (by kernel_rfl)) (fun _ _ _ h => h) (Or.inl ⟨by rfl, ?_⟩) ?_ ?_
                                                  rotate_left
                                                  · intro w'
                                                    go_simp
                                                    with_reducible rfl
                                                  rotate_left
                                                  · simp only [Act.put, List.setIfInBounds_toArray, List.set_cons_zero, List.set_cons_succ, i64_w, i32_w]
                                                    rfl
                                                  refine pure_ (i := 1) (N := some 138) (v := ?_) (a' := ?_) #[true, true, false, false, false, false, false, false, false, false, false, false, false, false, false, false, false, false] rfl rfl (any_of HT_.out (by kernel_rfl)) (fun _ _ _ h => h) (Or.inl ⟨by rfl, ?_⟩) ?_ ?_
                                                  rotate_left
                                                  · intro w'
                                                    go_simp
                                                    with_reducible rfl
                                                  rotate_left
                                                  · simp only [Act.put, List.setIfInBounds_toArray, List.set_cons_zero, List.set_cons_succ, i64_w, i32_w]
                                                    rfl
                                                  refine pure_ (i := 3) (N := some 140) (v := ?_) (a' := ?_) #[true, true, false, true, false, false, false, false, false, false, false, false, false, false, false, false, false, false] rfl rfl (any_of HT_.out (by kernel_rfl)) (fun _ _ _ h => h) (Or.inl ⟨by rfl, ?_⟩) ?_ ?_
                                                  rotate_left
                                                  · intro w'
                                                    go_simp
                                                    with_reducible rfl
                                                  rotate_left
                                                  · simp only [Act.put, List.setIfInBounds_toArray, List.set_cons_zero, List.set_cons_succ, i64_w, i32_w]
                                                    rfl
                                                  refine pure_ (i := 4) (N := some 141) (v := ?_) (a' := ?_) #[true, true, false, true, true, false, false, false, false, false, false, false, false, false, false, false, false, false] rfl rfl (any_of HT_.out (by kernel_rfl)) (fun _ _ _ h => h) (Or.inl ⟨by rfl, ?_⟩) ?_ ?_
                                                  rotate_left
                                                  · intro w'
                                                    go_simp
                                                    with_reducible rfl
                                                  rotate_left
                                                  · simp only [Act.put, List.setIfInBounds_toArray, List.set_cons_zero, List.set_cons_succ, i64_w, i32_w]
                                                    rfl
                                                  refine pure_ (i := 6) (N := some 143) (v := ?_) (a' := ?_) #[true, true, false, true, true, false, true, false, false, false, false, false, false, false, false, false, false, false] rfl rfl (any_of HT_.out (by kernel_rfl)) (fun _ _ _ h => h) (Or.inl ⟨by rfl, ?_⟩) ?_ ?_
                                                  rotate_left
                                                  · intro w'
                                                    go_simp
                                                    with_reducible rfl
                                                  rotate_left
                                                  · simp only [Act.put, List.setIfInBounds_toArray, List.set_cons_zero, List.set_cons_succ, i64_w, i32_w]
                                                    rfl
                                                  refine pure_ (i := 7) (N := some 144) (v := ?_) (a' := ?_) #[true, true, false, true, true, false, true, true, false, false, false, false, false, false, false, false, false, false] rfl rfl (any_of HT_.out (by kernel_rfl)) (fun _ _ _ h => h) (Or.inl ⟨by rfl, ?_⟩) ?_ ?_
                                                  rotate_left
                                                  · intro w'
                                                    go_simp
                                                    with_reducible rfl
                                                  rotate_left
                                                  · simp only [Act.put, List.setIfInBounds_toArray, List.set_cons_zero, List.set_cons_succ, i64_w, i32_w]
                                                    rfl
                                                  refine pure_ (i := 9) (N := some 146) (v := ?_) (a' := ?_) #[true, true, false, true, true, false, true, true, false, true, false, false, false, false, false, false, false, false] rfl rfl (any_of HT_.out (by kernel_rfl)) (fun _ _ _ h => h) (Or.inl ⟨by rfl, ?_⟩) ?_ ?_
                                                  rotate_left
                                                  · intro w'
                                                    go_simp
                                                    with_reducible rfl
                                                  rotate_left
                                                  · simp only [Act.put, List.setIfInBounds_toArray, List.set_cons_zero, List.set_cons_succ, i64_w, i32_w]
                                                    rfl
                                                  refine pure_ (i := 10) (N := some 147) (v := ?_) (a' := ?_) #[true, true, false, true, true, false, true, true, false, true, true, false, false, false, false, false, false, false] rfl rfl (any_of HT_.out (by kernel_rfl)) (fun _ _ _ h => h) (Or.inl ⟨by rfl, ?_⟩) ?_ ?_
                                                  rotate_left
                                                  · intro w'
                                                    go_simp
                                                    with_reducible rfl
                                                  rotate_left
                                                  · simp only [Act.put, List.setIfInBounds_toArray, List.set_cons_zero, List.set_cons_succ, i64_w, i32_w]
                                                    rfl
                                                  refine take_ (i := 2) (N := some 139) (v := ?_) (a' := ?_) #[true, true, true, true, true, false, true, true, false, true, true, false, false, false, false, false, false, false] rfl rfl (take_ofW HT_.out HW_.out (by kernel_rfl)) (fun _ _ _ h => h) (Or.inl ⟨by rfl, ?_⟩) hHeld ?_ ?_
                                                  rotate_left
                                                  · rintro w' ⟨s0, s1, s2, s3⟩
                                                    go_simp
                                                    with_reducible rfl
                                                  rotate_left
                                                  · simp only [Act.put, List.setIfInBounds_toArray, List.set_cons_zero, List.set_cons_succ, i64_w, i32_w]
                                                    rfl
                                                  refine take_ (i := 5) (N := some 142) (v := ?_) (a' := ?_) #[true, true, true, true, true, true, true, true, false, true, true, false, false, false, false, false, false, false] rfl rfl (take_ofW HT_.out HW_.out (by kernel_rfl)) (fun _ _ _ h => h) (Or.inl ⟨by rfl, ?_⟩) hHeld ?_ ?_
                                                  rotate_left
                                                  · rintro w' ⟨s0, s1, s2, s3⟩
                                                    go_simp
                                                    with_reducible rfl
                                                  rotate_left
                                                  · simp only [Act.put, List.setIfInBounds_toArray, List.set_cons_zero, List.set_cons_succ, i64_w, i32_w]
                                                    rfl
                                                  refine take_ (i := 8) (N := some 145) (v := ?_) (a' := ?_) #[true, true, true, true, true, true, true, true, true, true, true, false, false, false, false, false, false, false] rfl rfl (take_ofW HT_.out HW_.out (by kernel_rfl)) (fun _ _ _ h => h) (Or.inl ⟨by rfl, ?_⟩) hHeld ?_ ?_
                                                  rotate_left
                                                  · rintro w' ⟨s0, s1, s2, s3⟩
                                                    go_simp
                                                    with_reducible rfl
                                                  rotate_left
                                                  · simp only [Act.put, List.setIfInBounds_toArray, List.set_cons_zero, List.set_cons_succ, i64_w, i32_w]
                                                    rfl
                                                  refine take_ (i := 11) (N := some 148) (v := ?_) (a' := ?_) #[true, true, true, true, true, true, true, true, true, true, true, true, false, false, false, false, false, false] rfl rfl (take_ofW HT_.out HW_.out (by kernel_rfl)) (fun _ _ _ h => h) (Or.inl ⟨by rfl, ?_⟩) hHeld ?_ ?_
                                                  rotate_left
                                                  · rintro w' ⟨s0, s1, s2, s3⟩
                                                    go_simp
                                                    with_reducible rfl
                                                  rotate_left
                                                  · simp only [Act.put, List.setIfInBounds_toArray, List.set_cons_zero, List.set_cons_succ, i64_w, i32_w]
                                                    rfl
                                                  refine one_ (i := 12) (N := some 149) #[true, true, true, true, true, true, true, true, true, true, true, true, true, false, false, false, false, false] rfl rfl (one_of HT_.out (by kernel_rfl)) (by decide) (fun K hK => ?_)
                                                  refine goes_ Try.func34 (by kernel_rfl) rfl #[.complex .f64 (rdOf (cx 0 0) t141 0).re (rdOf (cx 0 0) t141 0).im, .complex .f64 (rdOf (cx 0 0) t147 0).re (rdOf (cx 0 0) t147 0).im, .complex .f64 (rdOf (cx 0 0) t144 0).re (rdOf (cx 0 0) t144 0).im, .complex .f64 (rdOf (cx 0 0) t150 0).re (rdOf (cx 0 0) t150 0).im] (by rfl) rfl rfl (by (try simp only [List.map_toArray, List.map_cons, List.map_nil]); first | done | rfl | (simp only [List.length_drop, List.length_take]; rfl)) ?_
                                                  with_reducible refine (phasor_Aron.calls (rdOf (cx 0 0) t141 0) (rdOf (cx 0 0) t147 0) (rdOf (cx 0 0) t144 0) (rdOf (cx 0 0) t150 0) t185 t186 _ A66.out).mono ?_
                                                  rintro e w73 ⟨rfl, hb⟩
                                                  have HS0_ := (hb.cell (World.block_lt_of_cell? _ _ (hHeld.1))).trans (hHeld.1)
                                                  have HS1_ := (hb.cell (World.block_lt_of_cell? _ _ (hHeld.2.1))).trans (hHeld.2.1)
                                                  have HS2_ := (hb.cell (World.block_lt_of_cell? _ _ (hHeld.2.2.1))).trans (hHeld.2.2.1)
                                                  have HS3_ := (hb.cell (World.block_lt_of_cell? _ _ (hHeld.2.2.2))).trans (hHeld.2.2.2)
                                                  refine ⟨_, rfl, ?_⟩
                                                  have n0_ := Aside0.mk (Kd.R_below (by (with_reducible repeat (first | apply Kd.R_alloc | apply Kd.R_drewN | apply Kd.R_drew)); exact HO_9.out) hb)
                                                  have n1_ := Aside0.mk (Kd.R_below (by (with_reducible repeat (first | apply Kd.R_alloc | apply Kd.R_drewN | apply Kd.R_drew)); exact HO_10.out) hb)
                                                  have n2_ := Aside0.mk (Kd.R_below (by (with_reducible repeat (first | apply Kd.R_alloc | apply Kd.R_drewN | apply Kd.R_drew)); exact HO_11.out) hb)
                                                  have n3_ := Aside0.mk (Kd.R_below (by (with_reducible repeat (first | apply Kd.R_alloc | apply Kd.R_drewN | apply Kd.R_drew)); exact HO_12.out) hb)
                                                  have n4_ := Aside0.mk (below_step (by repeat (first | (with_reducible first | exact HB.out | apply below_alloc | apply pw_below_drewN | apply below_drew1) | exact HB.out)) hb)
                                                  clear HO_9
                                                  clear HO_10
                                                  clear HO_11
                                                  clear HO_12
                                                  clear HB
                                                  have HO_9 := n0_
                                                  have HO_10 := n1_
                                                  have HO_11 := n2_
                                                  have HO_12 := n3_
                                                  have HB := n4_
                                                  clear n0_ n1_ n2_ n3_ n4_
                                                  (try clear hb)
                                                  (try clear hb2)
                                                  (try clear hk)
                                                  (try clear hi)
                                                  refine hK.out _ _ ⟨HS0_, HS1_, HS2_, HS3_⟩ (fun hHeld => ?_)
                                                  clear hK K
                                                  refine norm_ (a' := ?_) ?_ ?_
                                                  rotate_left
                                                  · show Act.put _ (some 149) _ = _
                                                    simp only [Act.put, List.setIfInBounds_toArray, List.set_cons_zero, List.set_cons_succ, i64_w, i32_w]
                                                    rfl
                                                  refine pure_ (i := 13) (N := some 136) (v := ?_) (a' := ?_) #[true, true, true, true, true, true, true, true, true, true, true, true, true, true, false, false, false, false] rfl rfl (any_of HT_.out (by kernel_rfl)) (fun _ _ _ h => h) (Or.inl ⟨by rfl, ?_⟩) ?_ ?_
                                                  rotate_left
                                                  · intro w'
                                                    go_simp
                                                    with_reducible rfl
                                                  rotate_left
                                                  · simp only [Act.put, List.setIfInBounds_toArray, List.set_cons_zero, List.set_cons_succ, i64_w, i32_w]
                                                    rfl
                                                  refine pure_ (i := 14) (N := some 150) (v := ?_) (a' := ?_) #[true, true, true, true, true, true, true, true, true, true, true, true, true, true, true, false, false, false] rfl rfl (any_of HT_.out (by kernel_rfl)) (fun _ _ _ h => h) (Or.inl ⟨by rfl, ?_⟩) ?_ ?_
                                                  rotate_left
                                                  · intro w'
                                                    go_simp
                                                    with_reducible rfl
                                                  rotate_left
                                                  · simp only [Act.put, List.setIfInBounds_toArray, List.set_cons_zero, List.set_cons_succ, i64_w, i32_w]
                                                    rfl
                                                  refine pure_ (i := 15) (N := some 151) (v := ?_) (a' := ?_) #[true, true, true, true, true, true, true, true, true, true, true, true, true, true, true, true, false, false] rfl rfl (any_of HT_.out (by kernel_rfl)) (fun _ _ _ h => h) (Or.inl ⟨by rfl, ?_⟩) ?_ ?_
                                                  rotate_left
                                                  · intro w'
                                                    go_simp
                                                    with_reducible rfl
                                                  rotate_left
                                                  · simp only [Act.put, List.setIfInBounds_toArray, List.set_cons_zero, List.set_cons_succ, i64_w, i32_w]
                                                    rfl
                                                  refine pure_ (i := 16) (N := some 21) (v := ?_) (a' := ?_) #[true, true, true, true, true, true, true, true, true, true, true, true, true, true, true, true, true, false] rfl rfl (any_of HT_.out (by kernel_rfl)) (fun _ _ _ h => h) (Or.inl ⟨by rfl, ?_⟩) ?_ ?_
                                                  rotate_left
                                                  · intro w'
                                                    go_simp
                                                    with_reducible rfl
                                                  rotate_left
                                                  · simp only [Act.put, List.setIfInBounds_toArray, List.set_cons_zero, List.set_cons_succ, i64_w, i32_w]
                                                    rfl
                                                  refine pure_ (i := 17) (N := some 22) (v := ?_) (a' := ?_) #[true, true, true, true, true, true, true, true, true, true, true, true, true, true, true, true, true, true] rfl rfl (any_of HT_.out (by kernel_rfl)) (fun _ _ _ h => h) (Or.inl ⟨by rfl, ?_⟩) ?_ ?_
                                                  rotate_left
                                                  · intro w'
                                                    go_simp
                                                    with_reducible rfl
                                                  rotate_left
                                                  · simp only [Act.put, List.setIfInBounds_toArray, List.set_cons_zero, List.set_cons_succ, i64_w, i32_w]
                                                    rfl
                                                  refine done_ (done_of HT_.out (by kernel_rfl)) ?_
                                                  try go_wp2
                                                  go_ret
                                                  exact ⟨by first | rfl | (simp [errW_none, errW_some] <;> rfl) | (simp [*, errW_none, errW_some] <;> rfl), by repeat (first | (with_reducible first | exact HB.out | apply below_alloc | apply pw_below_drewN | apply below_drew1) | exact HB.out)⟩
                                                · rw [if_neg c69] at H
                                                  have c69b0 : ceq t179.re t179.im t153.re t153.im = false := Bool.eq_false_iff.mpr c69
                                                  clear c69
                                                  obtain rfl := Option.some.inj H
                                                  try go_wp2
                                                  have n0_ := Aside0.mk (Kd.R_drew HO_9.out)
                                                  have n1_ := Aside0.mk (Kd.R_drew HO_10.out)
                                                  have n2_ := Aside0.mk (Kd.R_drew HO_11.out)
                                                  have n3_ := Aside0.mk (Kd.R_drew HO_12.out)
                                                  have n4_ := Aside0.mk (below_drew1 HB.out)
                                                  clear HO_9
                                                  clear HO_10
                                                  clear HO_11
                                                  clear HO_12
                                                  clear HB
                                                  have HO_9 := n0_
                                                  have HO_10 := n1_
                                                  have HO_11 := n2_
                                                  have HO_12 := n3_
                                                  have HB := n4_
                                                  clear n0_ n1_ n2_ n3_ n4_
                                                  have p177 : 0 ≤ (0 : Int) := (by omega)
                                                  have q177 : 0 < (t141.length : Int) := of_decide_eq_true (by first | (with_reducible assumption) | assumption)
                                                  obtain ⟨ad177, e177, hx177_0⟩ := Kd.at_c128 (Kd.R_reads' HO_9.out).2.2 0 p177 q177
                                                  cases e177
                                                  have qi177 : (0 < t141.length) = True := eq_true (by omega)
                                                  (try rw [show ((0 : Int)).toNat = 0 from rfl] at hx177_0)
                                                  (try rw [Addr.add_zero'] at hx177_0)
                                                  replace p177 := eq_true p177
                                                  replace q177 := eq_true q177
                                                  have p178 : 0 ≤ (0 : Int) := (by omega)
                                                  have q178 : 0 < (t144.length : Int) := of_decide_eq_true (by first | (with_reducible assumption) | assumption)
                                                  obtain ⟨ad178, e178, hx178_0⟩ := Kd.at_c128 (Kd.R_reads' HO_10.out).2.2 0 p178 q178
                                                  cases e178
                                                  have qi178 : (0 < t144.length) = True := eq_true (by omega)
                                                  (try rw [show ((0 : Int)).toNat = 0 from rfl] at hx178_0)
                                                  (try rw [Addr.add_zero'] at hx178_0)
                                                  replace p178 := eq_true p178
                                                  replace q178 := eq_true q178
                                                  refine start_ (n := 12) (S := fun w' => w'.cell? ad177 = some (.complex .f64 (rdOf (cx 0 0) t141 0).re (rdOf (cx 0 0) t141 0).im) ∧ w'.cell? ad178 = some (.complex .f64 (rdOf (cx 0 0) t144 0).re (rdOf (cx 0 0) t144 0).im)) (ds := []) #[false, false, false, false, false, false, false, false, false, false, false, false] (by kernel_rfl) rfl rfl ⟨hx177_0, hx178_0⟩ (fun hHeld => ?_); refine with_tabW pylonlaw02_PhasorPhases.tab14 pylonlaw02_PhasorPhases.bits14 (fun HT_ HW_ => ?_)
                                                  generalize wc.drew = w74 at HO_9 HO_10 HO_11 HO_12 HB hx177_0 hx178_0 hHeld ⊢
                                                  refine pure_ (i := 0) (N := some 127) (v := ?_) (a' := ?_) #[true, false, false, false, false, false, false, false, false, false, false, false] rfl rfl (any_of HT_.out (by kernel_rfl)) (fun _ _ _ h => h) (Or.inl ⟨by rfl, ?_⟩) ?_ ?_
                                                  rotate_left
                                                  · intro w'
                                                    go_simp
                                                    with_reducible rfl
                                                  rotate_left
                                                  · simp only [Act.put, List.setIfInBounds_toArray, List.set_cons_zero, List.set_cons_succ, i64_w, i32_w]
                                                    rfl
                                                  refine pure_ (i := 1) (N := some 128) (v := ?_) (a' := ?_) #[true, true, false, false, false, false, false, false, false, false, false, false] rfl rfl (any_of HT_.out (by kernel_rfl)) (fun _ _ _ h => h) (Or.inl ⟨by rfl, ?_⟩) ?_ ?_
                                                  rotate_left
                                                  · intro w'
                                                    go_simp
                                                    with_reducible rfl
                                                  rotate_left
                                                  · simp only [Act.put, List.setIfInBounds_toArray, List.set_cons_zero, List.set_cons_succ, i64_w, i32_w]
                                                    rfl
                                                  refine pure_ (i := 3) (N := some 130) (v := ?_) (a' := ?_) #[true, true, false, true, false, false, false, false, false, false, false, false] rfl rfl (any_of HT_.out (by kernel_rfl)) (fun _ _ _ h => h) (Or.inl ⟨by rfl, ?_⟩) ?_ ?_
                                                  rotate_left
                                                  · intro w'
                                                    go_simp
                                                    with_reducible rfl
                                                  rotate_left
                                                  · simp only [Act.put, List.setIfInBounds_toArray, List.set_cons_zero, List.set_cons_succ, i64_w, i32_w]
                                                    rfl
                                                  refine pure_ (i := 4) (N := some 131) (v := ?_) (a' := ?_) #[true, true, false, true, true, false, false, false, false, false, false, false] rfl rfl (any_of HT_.out (by kernel_rfl)) (fun _ _ _ h => h) (Or.inl ⟨by rfl, ?_⟩) ?_ ?_
                                                  rotate_left
                                                  · intro w'
                                                    go_simp
                                                    with_reducible rfl
                                                  rotate_left
                                                  · simp only [Act.put, List.setIfInBounds_toArray, List.set_cons_zero, List.set_cons_succ, i64_w, i32_w]
                                                    rfl
                                                  refine take_ (i := 2) (N := some 129) (v := ?_) (a' := ?_) #[true, true, true, true, true, false, false, false, false, false, false, false] rfl rfl (take_ofW HT_.out HW_.out (by kernel_rfl)) (fun _ _ _ h => h) (Or.inl ⟨by rfl, ?_⟩) hHeld ?_ ?_
                                                  rotate_left
                                                  · rintro w' ⟨s0, s1⟩
                                                    go_simp
                                                    with_reducible rfl
                                                  rotate_left
                                                  · simp only [Act.put, List.setIfInBounds_toArray, List.set_cons_zero, List.set_cons_succ, i64_w, i32_w]
                                                    rfl
                                                  refine take_ (i := 5) (N := some 132) (v := ?_) (a' := ?_) #[true, true, true, true, true, true, false, false, false, false, false, false] rfl rfl (take_ofW HT_.out HW_.out (by kernel_rfl)) (fun _ _ _ h => h) (Or.inl ⟨by rfl, ?_⟩) hHeld ?_ ?_
                                                  rotate_left
                                                  · rintro w' ⟨s0, s1⟩
                                                    go_simp
                                                    with_reducible rfl
                                                  rotate_left
                                                  · simp only [Act.put, List.setIfInBounds_toArray, List.set_cons_zero, List.set_cons_succ, i64_w, i32_w]
                                                    rfl
                                                  refine one_ (i := 6) (N := some 133) #[true, true, true, true, true, true, true, false, false, false, false, false] rfl rfl (one_of HT_.out (by kernel_rfl)) (by decide) (fun K hK => ?_)
                                                  refine goes_ Try.func26 (by kernel_rfl) rfl #[.complex .f64 (rdOf (cx 0 0) t141 0).re (rdOf (cx 0 0) t141 0).im, .complex .f64 (rdOf (cx 0 0) t144 0).re (rdOf (cx 0 0) t144 0).im] (by rfl) rfl rfl (by (try simp only [List.map_toArray, List.map_cons, List.map_nil]); first | done | rfl | (simp only [List.length_drop, List.length_take]; rfl)) ?_
                                                  with_reducible refine (phasor_Power.calls (rdOf (cx 0 0) t141 0) (rdOf (cx 0 0) t144 0) t179 t180 _ A63.out).mono ?_
                                                  rintro e w75 ⟨rfl, hb⟩
                                                  have HS0_ := (hb.cell (World.block_lt_of_cell? _ _ (hHeld.1))).trans (hHeld.1)
                                                  have HS1_ := (hb.cell (World.block_lt_of_cell? _ _ (hHeld.2))).trans (hHeld.2)
                                                  refine ⟨_, rfl, ?_⟩
                                                  have n0_ := Aside0.mk (Kd.R_below (by (with_reducible repeat (first | apply Kd.R_alloc | apply Kd.R_drewN | apply Kd.R_drew)); exact HO_9.out) hb)
                                                  have n1_ := Aside0.mk (Kd.R_below (by (with_reducible repeat (first | apply Kd.R_alloc | apply Kd.R_drewN | apply Kd.R_drew)); exact HO_10.out) hb)
                                                  have n2_ := Aside0.mk (Kd.R_below (by (with_reducible repeat (first | apply Kd.R_alloc | apply Kd.R_drewN | apply Kd.R_drew)); exact HO_11.out) hb)
                                                  have n3_ := Aside0.mk (Kd.R_below (by (with_reducible repeat (first | apply Kd.R_alloc | apply Kd.R_drewN | apply Kd.R_drew)); exact HO_12.out) hb)
                                                  have n4_ := Aside0.mk (below_step (by repeat (first | (with_reducible first | exact HB.out | apply below_alloc | apply pw_below_drewN | apply below_drew1) | exact HB.out)) hb)
                                                  clear HO_9
                                                  clear HO_10
                                                  clear HO_11
                                                  clear HO_12
                                                  clear HB
                                                  have HO_9 := n0_
                                                  have HO_10 := n1_
                                                  have HO_11 := n2_
                                                  have HO_12 := n3_
                                                  have HB := n4_
                                                  clear n0_ n1_ n2_ n3_ n4_
                                                  (try clear hb)
                                                  (try clear hb2)
                                                  (try clear hk)
                                                  (try clear hi)
                                                  refine hK.out _ _ ⟨HS0_, HS1_⟩ (fun hHeld => ?_)
                                                  clear hK K
                                                  refine norm_ (a' := ?_) ?_ ?_
                                                  rotate_left
                                                  · show Act.put _ (some 133) _ = _
                                                    simp only [Act.put, List.setIfInBounds_toArray, List.set_cons_zero, List.set_cons_succ, i64_w, i32_w]
                                                    rfl
                                                  refine pure_ (i := 7) (N := some 126) (v := ?_) (a' := ?_) #[true, true, true, true, true, true, true, true, false, false, false, false] rfl rfl (any_of HT_.out (by kernel_rfl)) (fun _ _ _ h => h) (Or.inl ⟨by rfl, ?_⟩) ?_ ?_
                                                  rotate_left
                                                  · intro w'
                                                    go_simp
                                                    with_reducible rfl
                                                  rotate_left
                                                  · simp only [Act.put, List.setIfInBounds_toArray, List.set_cons_zero, List.set_cons_succ, i64_w, i32_w]
                                                    rfl
                                                  refine pure_ (i := 8) (N := some 134) (v := ?_) (a' := ?_) #[true, true, true, true, true, true, true, true, true, false, false, false] rfl rfl (any_of HT_.out (by kernel_rfl)) (fun _ _ _ h => h) (Or.inl ⟨by rfl, ?_⟩) ?_ ?_
                                                  rotate_left
                                                  · intro w'
                                                    go_simp
                                                    with_reducible rfl
                                                  rotate_left
                                                  · simp only [Act.put, List.setIfInBounds_toArray, List.set_cons_zero, List.set_cons_succ, i64_w, i32_w]
                                                    rfl
                                                  refine pure_ (i := 9) (N := some 135) (v := ?_) (a' := ?_) #[true, true, true, true, true, true, true, true, true, true, false, false] rfl rfl (any_of HT_.out (by kernel_rfl)) (fun _ _ _ h => h) (Or.inl ⟨by rfl, ?_⟩) ?_ ?_
                                                  rotate_left
                                                  · intro w'
                                                    go_simp
                                                    with_reducible rfl
                                                  rotate_left
                                                  · simp only [Act.put, List.setIfInBounds_toArray, List.set_cons_zero, List.set_cons_succ, i64_w, i32_w]
                                                    rfl
                                                  refine pure_ (i := 10) (N := some 19) (v := ?_) (a' := ?_) #[true, true, true, true, true, true, true, true, true, true, true, false] rfl rfl (any_of HT_.out (by kernel_rfl)) (fun _ _ _ h => h) (Or.inl ⟨by rfl, ?_⟩) ?_ ?_
                                                  rotate_left
                                                  · intro w'
                                                    go_simp
                                                    with_reducible rfl
                                                  rotate_left
                                                  · simp only [Act.put, List.setIfInBounds_toArray, List.set_cons_zero, List.set_cons_succ, i64_w, i32_w]
                                                    rfl
                                                  refine pure_ (i := 11) (N := some 20) (v := ?_) (a' := ?_) #[true, true, true, true, true, true, true, true, true, true, true, true] rfl rfl (any_of HT_.out (by kernel_rfl)) (fun _ _ _ h => h) (Or.inl ⟨by rfl, ?_⟩) ?_ ?_
                                                  rotate_left
                                                  · intro w'
                                                    go_simp
                                                    with_reducible rfl
                                                  rotate_left
                                                  · simp only [Act.put, List.setIfInBounds_toArray, List.set_cons_zero, List.set_cons_succ, i64_w, i32_w]
                                                    rfl
                                                  refine done_ (done_of HT_.out (by kernel_rfl)) ?_
                                                  try go_wp2
                                                  have n0_ := Aside0.mk (Kd.R_drew HO_9.out)
                                                  have n1_ := Aside0.mk (Kd.R_drew HO_10.out)
                                                  have n2_ := Aside0.mk (Kd.R_drew HO_11.out)
                                                  have n3_ := Aside0.mk (Kd.R_drew HO_12.out)
                                                  have n4_ := Aside0.mk (below_drew1 HB.out)
                                                  clear HO_9
                                                  clear HO_10
                                                  clear HO_11
                                                  clear HO_12
                                                  clear HB
                                                  have HO_9 := n0_
                                                  have HO_10 := n1_
                                                  have HO_11 := n2_
                                                  have HO_12 := n3_
                                                  have HB := n4_
                                                  clear n0_ n1_ n2_ n3_ n4_
                                                  have p181 : 0 ≤ (0 : Int) := (by omega)
                                                  have q181 : 0 < (t141.length : Int) := of_decide_eq_true (by first | (with_reducible assumption) | assumption)
                                                  obtain ⟨ad181, e181, hx181_0⟩ := Kd.at_c128 (Kd.R_reads' HO_9.out).2.2 0 p181 q181
                                                  obtain rfl : ad177 = ad181 := (by injection e181)
                                                  have qi181 : (0 < t141.length) = True := eq_true (by omega)
                                                  (try rw [show ((0 : Int)).toNat = 0 from rfl] at hx181_0)
                                                  (try rw [Addr.add_zero'] at hx181_0)
                                                  replace p181 := eq_true p181
                                                  replace q181 := eq_true q181
                                                  have p182 : 0 ≤ (0 : Int) := (by omega)
                                                  have q182 : 0 < (t147.length : Int) := of_decide_eq_true (by first | (with_reducible assumption) | assumption)
                                                  obtain ⟨ad182, e182, hx182_0⟩ := Kd.at_c128 (Kd.R_reads' HO_11.out).2.2 0 p182 q182
                                                  cases e182
                                                  have qi182 : (0 < t147.length) = True := eq_true (by omega)
                                                  (try rw [show ((0 : Int)).toNat = 0 from rfl] at hx182_0)
                                                  (try rw [Addr.add_zero'] at hx182_0)
                                                  replace p182 := eq_true p182
                                                  replace q182 := eq_true q182
                                                  have p183 : 0 ≤ (0 : Int) := (by omega)
                                                  have q183 : 0 < (t144.length : Int) := of_decide_eq_true (by first | (with_reducible assumption) | assumption)
                                                  obtain ⟨ad183, e183, hx183_0⟩ := Kd.at_c128 (Kd.R_reads' HO_10.out).2.2 0 p183 q183
                                                  obtain rfl : ad178 = ad183 := (by injection e183)
                                                  have qi183 : (0 < t144.length) = True := eq_true (by omega)
                                                  (try rw [show ((0 : Int)).toNat = 0 from rfl] at hx183_0)
                                                  (try rw [Addr.add_zero'] at hx183_0)
                                                  replace p183 := eq_true p183
                                                  replace q183 := eq_true q183
                                                  have p184 : 0 ≤ (0 : Int) := (by omega)
                                                  have q184 : 0 < (t150.length : Int) := of_decide_eq_true (by first | (with_reducible assumption) | assumption)
                                                  obtain ⟨ad184, e184, hx184_0⟩ := Kd.at_c128 (Kd.R_reads' HO_12.out).2.2 0 p184 q184
                                                  cases e184
                                                  have qi184 : (0 < t150.length) = True := eq_true (by omega)
                                                  (try rw [show ((0 : Int)).toNat = 0 from rfl] at hx184_0)
                                                  (try rw [Addr.add_zero'] at hx184_0)
                                                  replace p184 := eq_true p184
                                                  replace q184 := eq_true q184
                                                  refine start_ (n := 18) (S := fun w' => w'.cell? ad177 = some (.complex .f64 (rdOf (cx 0 0) t141 0).re (rdOf (cx 0 0) t141 0).im) ∧ w'.cell? ad182 = some (.complex .f64 (rdOf (cx 0 0) t147 0).re (rdOf (cx 0 0) t147 0).im) ∧ w'.cell? ad178 = some (.complex .f64 (rdOf (cx 0 0) t144 0).re (rdOf (cx 0 0) t144 0).im) ∧ w'.cell? ad184 = some (.complex .f64 (rdOf (cx 0 0) t150 0).re (rdOf (cx 0 0) t150 0).im)) (ds := []) #[false, false, false, false, false, false, false, false, false, false, false, false, false, false, false, false, false, false] (by kernel_rfl) rfl rfl ⟨hx181_0, hx182_0, hx183_0, hx184_0⟩ (fun hHeld => ?_); refine with_tabW pylonlaw02_PhasorPhases.tab15 pylonlaw02_PhasorPhases.bits15 (fun HT_ HW_ => ?_)
                                                  generalize w75.drew = w76 at HO_9 HO_10 HO_11 HO_12 HB hx181_0 hx182_0 hx183_0 hx184_0 hHeld ⊢
                                                  refine pure_ (i := 0) (N := some 137) (v := ?_) (a' := ?_) #[true, false, false, false, false, false, false, false, false, false, false, false, false, false, false, false, false, false] rfl rfl (any_of HT_.out (by kernel_rfl)) (fun _ _ _ h => h) (Or.inl ⟨by rfl, ?_⟩) ?_ ?_
                                                  rotate_left
                                                  · intro w'
                                                    go_simp
                                                    with_reducible rfl
                                                  rotate_left
                                                  · simp only [Act.put, List.setIfInBounds_toArray, List.set_cons_zero, List.set_cons_succ, i64_w, i32_w]
                                                    rfl
                                                  refine pure_ (i := 1) (N := some 138) (v := ?_) (a' := ?_) #[true, true, false, false, false, false, false, false, false, false, false, false, false, false, false, false, false, false] rfl rfl (any_of HT_.out (by kernel_rfl)) (fun _ _ _ h => h) (Or.inl ⟨by rfl, ?_⟩) ?_ ?_
                                                  rotate_left
                                                  · intro w'
                                                    go_simp
                                                    with_reducible rfl
                                                  rotate_left
                                                  · simp only [Act.put, List.setIfInBounds_toArray, List.set_cons_zero, List.set_cons_succ, i64_w, i32_w]
                                                    rfl
                                                  refine pure_ (i := 3) (N := some 140) (v := ?_) (a' := ?_) #[true, true, false, true, false, false, false, false, false, false, false, false, false, false, false, false, false, false] rfl rfl (any_of HT_.out (by kernel_rfl)) (fun _ _ _ h => h) (Or.inl ⟨by rfl, ?_⟩) ?_ ?_
                                                  rotate_left
                                                  · intro w'
                                                    go_simp
                                                    with_reducible rfl
                                                  rotate_left
                                                  · simp only [Act.put, List.setIfInBounds_toArray, List.set_cons_zero, List.set_cons_succ, i64_w, i32_w]
                                                    rfl
                                                  refine pure_ (i := 4) (N := some 141) (v := ?_) (a' := ?_) #[true, true, false, true, true, false, false, false, false, false, false, false, false, false, false, false, false, false] rfl rfl (any_of HT_.out (by kernel_rfl)) (fun _ _ _ h => h) (Or.inl ⟨by rfl, ?_⟩) ?_ ?_
                                                  rotate_left
                                                  · intro w'
                                                    go_simp
                                                    with_reducible rfl
                                                  rotate_left
                                                  · simp only [Act.put, List.setIfInBounds_toArray, List.set_cons_zero, List.set_cons_succ, i64_w, i32_w]
                                                    rfl
                                                  refine pure_ (i := 6) (N := some 143) (v := ?_) (a' := ?_) #[true, true, false, true, true, false, true, false, false, false, false, false, false, false, false, false, false, false] rfl rfl (any_of HT_.out (by kernel_rfl)) (fun _ _ _ h => h) (Or.inl ⟨by rfl, ?_⟩) ?_ ?_
                                                  rotate_left
                                                  · intro w'
                                                    go_simp
                                                    with_reducible rfl
                                                  rotate_left
                                                  · simp only [Act.put, List.setIfInBounds_toArray, List.set_cons_zero, List.set_cons_succ, i64_w, i32_w]
                                                    rfl
                                                  refine pure_ (i := 7) (N := some 144) (v := ?_) (a' := ?_) #[true, true, false, true, true, false, true, true, false, false, false, false, false, false, false, false, false, false] rfl rfl (any_of HT_.out (by kernel_rfl)) (fun _ _ _ h => h) (Or.inl ⟨by rfl, ?_⟩) ?_ ?_
                                                  rotate_left
                                                  · intro w'
                                                    go_simp
                                                    with_reducible rfl
                                                  rotate_left
                                                  · simp only [Act.put, List.setIfInBounds_toArray, List.set_cons_zero, List.set_cons_succ, i64_w, i32_w]
                                                    rfl
                                                  refine pure_ (i := 9) (N := some 146) (v := ?_) (a' := ?_) #[true, true, false, true, true, false, true, true, false, true, false, false, false, false, false, false, false, false] rfl rfl (any_of HT_.out (by kernel_rfl)) (fun _ _ _ h => h) (Or.inl ⟨by rfl, ?_⟩) ?_ ?_
                                                  rotate_left
                                                  · intro w'
                                                    go_simp
                                                    with_reducible rfl
                                                  rotate_left
                                                  · simp only [Act.put, List.setIfInBounds_toArray, List.set_cons_zero, List.set_cons_succ, i64_w, i32_w]
                                                    rfl
                                                  refine pure_ (i := 10) (N := some 147) (v := ?_) (a' := ?_) #[true, true, false, true, true, false, true, true, false, true, true, false, false, false, false, false, false, false] rfl rfl (any_of HT_.out (by kernel_rfl)) (fun _ _ _ h => h) (Or.inl ⟨by rfl, ?_⟩) ?_ ?_
                                                  rotate_left
                                                  · intro w'
                                                    go_simp
                                                    with_reducible rfl
                                                  rotate_left
                                                  · simp only [Act.put, List.setIfInBounds_toArray, List.set_cons_zero, List.set_cons_succ, i64_w, i32_w]
                                                    rfl
                                                  refine take_ (i := 2) (N := some 139) (v := ?_) (a' := ?_) #[true, true, true, true, true, false, true, true, false, true, true, false, false, false, false, false, false, false] rfl rfl (take_ofW HT_.out HW_.out (by kernel_rfl)) (fun _ _ _ h => h) (Or.inl ⟨by rfl, ?_⟩) hHeld ?_ ?_
                                                  rotate_left
                                                  · rintro w' ⟨s0, s1, s2, s3⟩
                                                    go_simp
                                                    with_reducible rfl
                                                  rotate_left
                                                  · simp only [Act.put, List.setIfInBounds_toArray, List.set_cons_zero, List.set_cons_succ, i64_w, i32_w]
                                                    rfl
                                                  refine take_ (i := 5) (N := some 142) (v := ?_) (a' := ?_) #[true, true, true, true, true, true, true, true, false, true, true, false, false, false, false, false, false, false] rfl rfl (take_ofW HT_.out HW_.out (by kernel_rfl)) (fun _ _ _ h => h) (Or.inl ⟨by rfl, ?_⟩) hHeld ?_ ?_
                                                  rotate_left
                                                  · rintro w' ⟨s0, s1, s2, s3⟩
                                                    go_simp
                                                    with_reducible rfl
                                                  rotate_left
                                                  · simp only [Act.put, List.setIfInBounds_toArray, List.set_cons_zero, List.set_cons_succ, i64_w, i32_w]
                                                    rfl
                                                  refine take_ (i := 8) (N := some 145) (v := ?_) (a' := ?_) #[true, true, true, true, true, true, true, true, true, true, true, false, false, false, false, false, false, false] rfl rfl (take_ofW HT_.out HW_.out (by kernel_rfl)) (fun _ _ _ h => h) (Or.inl ⟨by rfl, ?_⟩) hHeld ?_ ?_
                                                  rotate_left
                                                  · rintro w' ⟨s0, s1, s2, s3⟩
                                                    go_simp
                                                    with_reducible rfl
                                                  rotate_left
                                                  · simp only [Act.put, List.setIfInBounds_toArray, List.set_cons_zero, List.set_cons_succ, i64_w, i32_w]
                                                    rfl
                                                  refine take_ (i := 11) (N := some 148) (v := ?_) (a' := ?_) #[true, true, true, true, true, true, true, true, true, true, true, true, false, false, false, false, false, false] rfl rfl (take_ofW HT_.out HW_.out (by kernel_rfl)) (fun _ _ _ h => h) (Or.inl ⟨by rfl, ?_⟩) hHeld ?_ ?_
                                                  rotate_left
                                                  · rintro w' ⟨s0, s1, s2, s3⟩
                                                    go_simp
                                                    with_reducible rfl
                                                  rotate_left
                                                  · simp only [Act.put, List.setIfInBounds_toArray, List.set_cons_zero, List.set_cons_succ, i64_w, i32_w]
                                                    rfl
                                                  refine one_ (i := 12) (N := some 149) #[true, true, true, true, true, true, true, true, true, true, true, true, true, false, false, false, false, false] rfl rfl (one_of HT_.out (by kernel_rfl)) (by decide) (fun K hK => ?_)
                                                  refine goes_ Try.func34 (by kernel_rfl) rfl #[.complex .f64 (rdOf (cx 0 0) t141 0).re (rdOf (cx 0 0) t141 0).im, .complex .f64 (rdOf (cx 0 0) t147 0).re (rdOf (cx 0 0) t147 0).im, .complex .f64 (rdOf (cx 0 0) t144 0).re (rdOf (cx 0 0) t144 0).im, .complex .f64 (rdOf (cx 0 0) t150 0).re (rdOf (cx 0 0) t150 0).im] (by rfl) rfl rfl (by (try simp only [List.map_toArray, List.map_cons, List.map_nil]); first | done | rfl | (simp only [List.length_drop, List.length_take]; rfl)) ?_
                                                  with_reducible refine (phasor_Aron.calls (rdOf (cx 0 0) t141 0) (rdOf (cx 0 0) t147 0) (rdOf (cx 0 0) t144 0) (rdOf (cx 0 0) t150 0) t185 t186 _ A66.out).mono ?_
                                                  rintro e w77 ⟨rfl, hb⟩
                                                  have HS0_ := (hb.cell (World.block_lt_of_cell? _ _ (hHeld.1))).trans (hHeld.1)
                                                  have HS1_ := (hb.cell (World.block_lt_of_cell? _ _ (hHeld.2.1))).trans (hHeld.2.1)
                                                  have HS2_ := (hb.cell (World.block_lt_of_cell? _ _ (hHeld.2.2.1))).trans (hHeld.2.2.1)
                                                  have HS3_ := (hb.cell (World.block_lt_of_cell? _ _ (hHeld.2.2.2))).trans (hHeld.2.2.2)
                                                  refine ⟨_, rfl, ?_⟩
                                                  have n0_ := Aside0.mk (Kd.R_below (by (with_reducible repeat (first | apply Kd.R_alloc | apply Kd.R_drewN | apply Kd.R_drew)); exact HO_9.out) hb)
                                                  have n1_ := Aside0.mk (Kd.R_below (by (with_reducible repeat (first | apply Kd.R_alloc | apply Kd.R_drewN | apply Kd.R_drew)); exact HO_10.out) hb)
                                                  have n2_ := Aside0.mk (Kd.R_below (by (with_reducible repeat (first | apply Kd.R_alloc | apply Kd.R_drewN | apply Kd.R_drew)); exact HO_11.out) hb)
                                                  have n3_ := Aside0.mk (Kd.R_below (by (with_reducible repeat (first | apply Kd.R_alloc | apply Kd.R_drewN | apply Kd.R_drew)); exact HO_12.out) hb)
                                                  have n4_ := Aside0.mk (below_step (by repeat (first | (with_reducible first | exact HB.out | apply below_alloc | apply pw_below_drewN | apply below_drew1) | exact HB.out)) hb)
                                                  clear HO_9
                                                  clear HO_10
                                                  clear HO_11
                                                  clear HO_12
                                                  clear HB
                                                  have HO_9 := n0_
                                                  have HO_10 := n1_
                                                  have HO_11 := n2_
                                                  have HO_12 := n3_
                                                  have HB := n4_
                                                  clear n0_ n1_ n2_ n3_ n4_
                                                  (try clear hb)
                                                  (try clear hb2)
                                                  (try clear hk)
                                                  (try clear hi)
                                                  refine hK.out _ _ ⟨HS0_, HS1_, HS2_, HS3_⟩ (fun hHeld => ?_)
                                                  clear hK K
                                                  refine norm_ (a' := ?_) ?_ ?_
                                                  rotate_left
                                                  · show Act.put _ (some 149) _ = _
                                                    simp only [Act.put, List.setIfInBounds_toArray, List.set_cons_zero, List.set_cons_succ, i64_w, i32_w]
                                                    rfl
                                                  refine pure_ (i := 13) (N := some 136) (v := ?_) (a' := ?_) #[true, true, true, true, true, true, true, true, true, true, true, true, true, true, false, false, false, false] rfl rfl (any_of HT_.out (by kernel_rfl)) (fun _ _ _ h => h) (Or.inl ⟨by rfl, ?_⟩) ?_ ?_
                                                  rotate_left
                                                  · intro w'
                                                    go_simp
                                                    with_reducible rfl
                                                  rotate_left
                                                  · simp only [Act.put, List.setIfInBounds_toArray, List.set_cons_zero, List.set_cons_succ, i64_w, i32_w]
                                                    rfl
                                                  refine pure_ (i := 14) (N := some 150) (v := ?_) (a' := ?_) #[true, true, true, true, true, true, true, true, true, true, true, true, true, true, true, false, false, false] rfl rfl (any_of HT_.out (by kernel_rfl)) (fun _ _ _ h => h) (Or.inl ⟨by rfl, ?_⟩) ?_ ?_
                                                  rotate_left
                                                  · intro w'
                                                    go_simp
                                                    with_reducible rfl
                                                  rotate_left
                                                  · simp only [Act.put, List.setIfInBounds_toArray, List.set_cons_zero, List.set_cons_succ, i64_w, i32_w]
                                                    rfl
                                                  refine pure_ (i := 15) (N := some 151) (v := ?_) (a' := ?_) #[true, true, true, true, true, true, true, true, true, true, true, true, true, true, true, true, false, false] rfl rfl (any_of HT_.out (by kernel_rfl)) (fun _ _ _ h => h) (Or.inl ⟨by rfl, ?_⟩) ?_ ?_
                                                  rotate_left
                                                  · intro w'
                                                    go_simp
                                                    with_reducible rfl
                                                  rotate_left
                                                  · simp only [Act.put, List.setIfInBounds_toArray, List.set_cons_zero, List.set_cons_succ, i64_w, i32_w]
                                                    rfl
                                                  refine pure_ (i := 16) (N := some 21) (v := ?_) (a' := ?_) #[true, true, true, true, true, true, true, true, true, true, true, true, true, true, true, true, true, false] rfl rfl (any_of HT_.out (by kernel_rfl)) (fun _ _ _ h => h) (Or.inl ⟨by rfl, ?_⟩) ?_ ?_
                                                  rotate_left
                                                  · intro w'
                                                    go_simp
                                                    with_reducible rfl
                                                  rotate_left
                                                  · simp only [Act.put, List.setIfInBounds_toArray, List.set_cons_zero, List.set_cons_succ, i64_w, i32_w]
                                                    rfl
                                                  refine pure_ (i := 17) (N := some 22) (v := ?_) (a' := ?_) #[true, true, true, true, true, true, true, true, true, true, true, true, true, true, true, true, true, true] rfl rfl (any_of HT_.out (by kernel_rfl)) (fun _ _ _ h => h) (Or.inl ⟨by rfl, ?_⟩) ?_ ?_
                                                  rotate_left
                                                  · intro w'
                                                    go_simp
                                                    with_reducible rfl
                                                  rotate_left
                                                  · simp only [Act.put, List.setIfInBounds_toArray, List.set_cons_zero, List.set_cons_succ, i64_w, i32_w]
                                                    rfl
                                                  refine done_ (done_of HT_.out (by kernel_rfl)) ?_
                                                  try go_wp2
                                                  go_ret
                                                  exact ⟨by first | rfl | (simp [errW_none, errW_some] <;> rfl) | (simp [*, errW_none, errW_some] <;> rfl), by repeat (first | (with_reducible first | exact HB.out | apply below_alloc | apply pw_below_drewN | apply below_drew1) | exact HB.out)⟩
                                              · rw [if_neg c68] at H
                                                have c68b0 : (t186 == 0) = false := beq_eq_false_iff_ne.mpr c68
                                                have c68b1 : (t186 != 0) = true := bne_iff_ne.mpr c68
                                                obtain rfl := Option.some.inj H
                                                try go_wp2
                                                have n0_ := Aside0.mk (Kd.R_drew HO_9.out)
                                                have n1_ := Aside0.mk (Kd.R_drew HO_10.out)
                                                have n2_ := Aside0.mk (Kd.R_drew HO_11.out)
                                                have n3_ := Aside0.mk (Kd.R_drew HO_12.out)
                                                have n4_ := Aside0.mk (below_drew1 HB.out)
                                                clear HO_9
                                                clear HO_10
                                                clear HO_11
                                                clear HO_12
                                                clear HB
                                                have HO_9 := n0_
                                                have HO_10 := n1_
                                                have HO_11 := n2_
                                                have HO_12 := n3_
                                                have HB := n4_
                                                clear n0_ n1_ n2_ n3_ n4_
                                                have p177 : 0 ≤ (0 : Int) := (by omega)
                                                have q177 : 0 < (t141.length : Int) := of_decide_eq_true (by first | (with_reducible assumption) | assumption)
                                                obtain ⟨ad177, e177, hx177_0⟩ := Kd.at_c128 (Kd.R_reads' HO_9.out).2.2 0 p177 q177
                                                cases e177
                                                have qi177 : (0 < t141.length) = True := eq_true (by omega)
                                                (try rw [show ((0 : Int)).toNat = 0 from rfl] at hx177_0)
                                                (try rw [Addr.add_zero'] at hx177_0)
                                                replace p177 := eq_true p177
                                                replace q177 := eq_true q177
                                                have p178 : 0 ≤ (0 : Int) := (by omega)
                                                have q178 : 0 < (t144.length : Int) := of_decide_eq_true (by first | (with_reducible assumption) | assumption)
                                                obtain ⟨ad178, e178, hx178_0⟩ := Kd.at_c128 (Kd.R_reads' HO_10.out).2.2 0 p178 q178
                                                cases e178
                                                have qi178 : (0 < t144.length) = True := eq_true (by omega)
                                                (try rw [show ((0 : Int)).toNat = 0 from rfl] at hx178_0)
                                                (try rw [Addr.add_zero'] at hx178_0)
                                                replace p178 := eq_true p178
                                                replace q178 := eq_true q178
                                                refine start_ (n := 12) (S := fun w' => w'.cell? ad177 = some (.complex .f64 (rdOf (cx 0 0) t141 0).re (rdOf (cx 0 0) t141 0).im) ∧ w'.cell? ad178 = some (.complex .f64 (rdOf (cx 0 0) t144 0).re (rdOf (cx 0 0) t144 0).im)) (ds := []) #[false, false, false, false, false, false, false, false, false, false, false, false] (by kernel_rfl) rfl rfl ⟨hx177_0, hx178_0⟩ (fun hHeld => ?_); refine with_tabW pylonlaw02_PhasorPhases.tab14 pylonlaw02_PhasorPhases.bits14 (fun HT_ HW_ => ?_)
                                                generalize wc.drew = w78 at HO_9 HO_10 HO_11 HO_12 HB hx177_0 hx178_0 hHeld ⊢
                                                refine pure_ (i := 0) (N := some 127) (v := ?_) (a' := ?_) #[true, false, false, false, false, false, false, false, false, false, false, false] rfl rfl (any_of HT_.out (by kernel_rfl)) (fun _ _ _ h => h) (Or.inl ⟨by rfl, ?_⟩) ?_ ?_
                                                rotate_left
                                                · intro w'
                                                  go_simp
                                                  with_reducible rfl
                                                rotate_left
                                                · simp only [Act.put, List.setIfInBounds_toArray, List.set_cons_zero, List.set_cons_succ, i64_w, i32_w]
                                                  rfl
                                                refine pure_ (i := 1) (N := some 128) (v := ?_) (a' := ?_) #[true, true, false, false, false, false, false, false, false, false, false, false] rfl rfl (any_of HT_.out (by kernel_rfl)) (fun _ _ _ h => h) (Or.inl ⟨by rfl, ?_⟩) ?_ ?_
                                                rotate_left
                                                · intro w'
                                                  go_simp
                                                  with_reducible rfl
                                                rotate_left
                                                · simp only [Act.put, List.setIfInBounds_toArray, List.set_cons_zero, List.set_cons_succ, i64_w, i32_w]
                                                  rfl
                                                refine pure_ (i := 3) (N := some 130) (v := ?_) (a' := ?_) #[true, true, false, true, false, false, false, false, false, false, false, false] rfl rfl (any_of HT_.out (by kernel_rfl)) (fun _ _ _ h => h) (Or.inl ⟨by rfl, ?_⟩) ?_ ?_
                                                rotate_left
                                                · intro w'
                                                  go_simp
                                                  with_reducible rfl
                                                rotate_left
                                                · simp only [Act.put, List.setIfInBounds_toArray, List.set_cons_zero, List.set_cons_succ, i64_w, i32_w]
                                                  rfl
                                                refine pure_ (i := 4) (N := some 131) (v := ?_) (a' := ?_) #[true, true, false, true, true, false, false, false, false, false, false, false] rfl rfl (any_of HT_.out (by kernel_rfl)) (fun _ _ _ h => h) (Or.inl ⟨by rfl, ?_⟩) ?_ ?_
                                                rotate_left
                                                · intro w'
                                                  go_simp
                                                  with_reducible rfl
                                                rotate_left
                                                · simp only [Act.put, List.setIfInBounds_toArray, List.set_cons_zero, List.set_cons_succ, i64_w, i32_w]
                                                  rfl
                                                refine take_ (i := 2) (N := some 129) (v := ?_) (a' := ?_) #[true, true, true, true, true, false, false, false, false, false, false, false] rfl rfl (take_ofW HT_.out HW_.out (by kernel_rfl)) (fun _ _ _ h => h) (Or.inl ⟨by rfl, ?_⟩) hHeld ?_ ?_
                                                rotate_left
                                                · rintro w' ⟨s0, s1⟩
                                                  go_simp
                                                  with_reducible rfl
                                                rotate_left
                                                · simp only [Act.put, List.setIfInBounds_toArray, List.set_cons_zero, List.set_cons_succ, i64_w, i32_w]
                                                  rfl
                                                refine take_ (i := 5) (N := some 132) (v := ?_) (a' := ?_) #[true, true, true, true, true, true, false, false, false, false, false, false] rfl rfl (take_ofW HT_.out HW_.out (by kernel_rfl)) (fun _ _ _ h => h) (Or.inl ⟨by rfl, ?_⟩) hHeld ?_ ?_
                                                rotate_left
                                                · rintro w' ⟨s0, s1⟩
                                                  go_simp
                                                  with_reducible rfl
                                                rotate_left
                                                · simp only [Act.put, List.setIfInBounds_toArray, List.set_cons_zero, List.set_cons_succ, i64_w, i32_w]
                                                  rfl
                                                refine one_ (i := 6) (N := some 133) #[true, true, true, true, true, true, true, false, false, false, false, false] rfl rfl (one_of HT_.out (by kernel_rfl)) (by decide) (fun K hK => ?_)
                                                refine goes_ Try.func26 (by kernel_rfl) rfl #[.complex .f64 (rdOf (cx 0 0) t141 0).re (rdOf (cx 0 0) t141 0).im, .complex .f64 (rdOf (cx 0 0) t144 0).re (rdOf (cx 0 0) t144 0).im] (by rfl) rfl rfl (by (try simp only [List.map_toArray, List.map_cons, List.map_nil]); first | done | rfl | (simp only [List.length_drop, List.length_take]; rfl)) ?_
                                                with_reducible refine (phasor_Power.calls (rdOf (cx 0 0) t141 0) (rdOf (cx 0 0) t144 0) t179 t180 _ A63.out).mono ?_
                                                rintro e w79 ⟨rfl, hb⟩
                                                have HS0_ := (hb.cell (World.block_lt_of_cell? _ _ (hHeld.1))).trans (hHeld.1)
                                                have HS1_ := (hb.cell (World.block_lt_of_cell? _ _ (hHeld.2))).trans (hHeld.2)
                                                refine ⟨_, rfl, ?_⟩
                                                have n0_ := Aside0.mk (Kd.R_below (by (with_reducible repeat (first | apply Kd.R_alloc | apply Kd.R_drewN | apply Kd.R_drew)); exact HO_9.out) hb)
                                                have n1_ := Aside0.mk (Kd.R_below (by (with_reducible repeat (first | apply Kd.R_alloc | apply Kd.R_drewN | apply Kd.R_drew)); exact HO_10.out) hb)
                                                have n2_ := Aside0.mk (Kd.R_below (by (with_reducible repeat (first | apply Kd.R_alloc | apply Kd.R_drewN | apply Kd.R_drew)); exact HO_11.out) hb)
                                                have n3_ := Aside0.mk (Kd.R_below (by (with_reducible repeat (first | apply Kd.R_alloc | apply Kd.R_drewN | apply Kd.R_drew)); exact HO_12.out) hb)
                                                have n4_ := Aside0.mk (below_step (by repeat (first | (with_reducible first | exact HB.out | apply below_alloc | apply pw_below_drewN | apply below_drew1) | exact HB.out)) hb)
                                                clear HO_9
                                                clear HO_10
                                                clear HO_11
                                                clear HO_12
                                                clear HB
                                                have HO_9 := n0_
                                                have HO_10 := n1_
                                                have HO_11 := n2_
                                                have HO_12 := n3_
                                                have HB := n4_
                                                clear n0_ n1_ n2_ n3_ n4_
                                                (try clear hb)
                                                (try clear hb2)
                                                (try clear hk)
                                                (try clear hi)
                                                refine hK.out _ _ ⟨HS0_, HS1_⟩ (fun hHeld => ?_)
                                                clear hK K
                                                refine norm_ (a' := ?_) ?_ ?_
                                                rotate_left
                                                · show Act.put _ (some 133) _ = _
                                                  simp only [Act.put, List.setIfInBounds_toArray, List.set_cons_zero, List.set_cons_succ, i64_w, i32_w]
                                                  rfl
                                                refine pure_ (i := 7) (N := some 126) (v := ?_) (a' := ?_) #[true, true, true, true, true, true, true, true, false, false, false, false] rfl rfl (any_of HT_.out (by kernel_rfl)) (fun _ _ _ h => h) (Or.inl ⟨by rfl, ?_⟩) ?_ ?_
                                                rotate_left
                                                · intro w'
                                                  go_simp
                                                  with_reducible rfl
                                                rotate_left
                                                · simp only [Act.put, List.setIfInBounds_toArray, List.set_cons_zero, List.set_cons_succ, i64_w, i32_w]
                                                  rfl
                                                refine pure_ (i := 8) (N := some 134) (v := ?_) (a' := ?_) #[true, true, true, true, true, true, true, true, true, false, false, false] rfl rfl (any_of HT_.out (by kernel_rfl)) (fun _ _ _ h => h) (Or.inl ⟨by rfl, ?_⟩) ?_ ?_
                                                rotate_left
                                                · intro w'
                                                  go_simp
                                                  with_reducible rfl
                                                rotate_left
                                                · simp only [Act.put, List.setIfInBounds_toArray, List.set_cons_zero, List.set_cons_succ, i64_w, i32_w]
                                                  rfl
                                                refine pure_ (i := 9) (N := some 135) (v := ?_) (a' := ?_) #[true, true, true, true, true, true, true, true, true, true, false, false] rfl rfl (any_of HT_.out (by kernel_rfl)) (fun _ _ _ h => h) (Or.inl ⟨by rfl, ?_⟩) ?_ ?_
                                                rotate_left
                                                · intro w'
                                                  go_simp
                                                  with_reducible rfl
                                                rotate_left
                                                · simp only [Act.put, List.setIfInBounds_toArray, List.set_cons_zero, List.set_cons_succ, i64_w, i32_w]
                                                  rfl
                                                refine pure_ (i := 10) (N := some 19) (v := ?_) (a' := ?_) #[true, true, true, true, true, true, true, true, true, true, true, false] rfl rfl (any_of HT_.out (by kernel_rfl)) (fun _ _ _ h => h) (Or.inl ⟨by rfl, ?_⟩) ?_ ?_
                                                rotate_left
                                                · intro w'
                                                  go_simp
                                                  with_reducible rfl
                                                rotate_left
                                                · simp only [Act.put, List.setIfInBounds_toArray, List.set_cons_zero, List.set_cons_succ, i64_w, i32_w]
                                                  rfl
                                                refine pure_ (i := 11) (N := some 20) (v := ?_) (a' := ?_) #[true, true, true, true, true, true, true, true, true, true, true, true] rfl rfl (any_of HT_.out (by kernel_rfl)) (fun _ _ _ h => h) (Or.inl ⟨by rfl, ?_⟩) ?_ ?_
                                                rotate_left
                                                · intro w'
                                                  go_simp
                                                  with_reducible rfl
                                                rotate_left
                                                · simp only [Act.put, List.setIfInBounds_toArray, List.set_cons_zero, List.set_cons_succ, i64_w, i32_w]
                                                  rfl
                                                refine done_ (done_of HT_.out (by kernel_rfl)) ?_
                                                try go_wp2
                                                have n0_ := Aside0.mk (Kd.R_drew HO_9.out)
                                                have n1_ := Aside0.mk (Kd.R_drew HO_10.out)
                                                have n2_ := Aside0.mk (Kd.R_drew HO_11.out)
                                                have n3_ := Aside0.mk (Kd.R_drew HO_12.out)
                                                have n4_ := Aside0.mk (below_drew1 HB.out)
                                                clear HO_9
                                                clear HO_10
                                                clear HO_11
                                                clear HO_12
                                                clear HB
                                                have HO_9 := n0_
                                                have HO_10 := n1_
                                                have HO_11 := n2_
                                                have HO_12 := n3_
                                                have HB := n4_
                                                clear n0_ n1_ n2_ n3_ n4_
                                                have p181 : 0 ≤ (0 : Int) := (by omega)
                                                have q181 : 0 < (t141.length : Int) := of_decide_eq_true (by first | (with_reducible assumption) | assumption)
                                                obtain ⟨ad181, e181, hx181_0⟩ := Kd.at_c128 (Kd.R_reads' HO_9.out).2.2 0 p181 q181
                                                obtain rfl : ad177 = ad181 := (by injection e181)
                                                have qi181 : (0 < t141.length) = True := eq_true (by omega)
                                                (try rw [show ((0 : Int)).toNat = 0 from rfl] at hx181_0)
                                                (try rw [Addr.add_zero'] at hx181_0)
                                                replace p181 := eq_true p181
                                                replace q181 := eq_true q181
                                                have p182 : 0 ≤ (0 : Int) := (by omega)
                                                have q182 : 0 < (t147.length : Int) := of_decide_eq_true (by first | (with_reducible assumption) | assumption)
                                                obtain ⟨ad182, e182, hx182_0⟩ := Kd.at_c128 (Kd.R_reads' HO_11.out).2.2 0 p182 q182
                                                cases e182
                                                have qi182 : (0 < t147.length) = True := eq_true (by omega)
                                                (try rw [show ((0 : Int)).toNat = 0 from rfl] at hx182_0)
                                                (try rw [Addr.add_zero'] at hx182_0)
                                                replace p182 := eq_true p182
                                                replace q182 := eq_true q182
                                                have p183 : 0 ≤ (0 : Int) := (by omega)
                                                have q183 : 0 < (t144.length : Int) := of_decide_eq_true (by first | (with_reducible assumption) | assumption)
                                                obtain ⟨ad183, e183, hx183_0⟩ := Kd.at_c128 (Kd.R_reads' HO_10.out).2.2 0 p183 q183
                                                obtain rfl : ad178 = ad183 := (by injection e183)
                                                have qi183 : (0 < t144.length) = True := eq_true (by omega)
                                                (try rw [show ((0 : Int)).toNat = 0 from rfl] at hx183_0)
                                                (try rw [Addr.add_zero'] at hx183_0)
                                                replace p183 := eq_true p183
                                                replace q183 := eq_true q183
                                                have p184 : 0 ≤ (0 : Int) := (by omega)
                                                have q184 : 0 < (t150.length : Int) := of_decide_eq_true (by first | (with_reducible assumption) | assumption)
                                                obtain ⟨ad184, e184, hx184_0⟩ := Kd.at_c128 (Kd.R_reads' HO_12.out).2.2 0 p184 q184
                                                cases e184
                                                have qi184 : (0 < t150.length) = True := eq_true (by omega)
                                                (try rw [show ((0 : Int)).toNat = 0 from rfl] at hx184_0)
                                                (try rw [Addr.add_zero'] at hx184_0)
                                                replace p184 := eq_true p184
                                                replace q184 := eq_true q184
                                                refine start_ (n := 18) (S := fun w' => w'.cell? ad177 = some (.complex .f64 (rdOf (cx 0 0) t141 0).re (rdOf (cx 0 0) t141 0).im) ∧ w'.cell? ad182 = some (.complex .f64 (rdOf (cx 0 0) t147 0).re (rdOf (cx 0 0) t147 0).im) ∧ w'.cell? ad178 = some (.complex .f64 (rdOf (cx 0 0) t144 0).re (rdOf (cx 0 0) t144 0).im) ∧ w'.cell? ad184 = some (.complex .f64 (rdOf (cx 0 0) t150 0).re (rdOf (cx 0 0) t150 0).im)) (ds := []) #[false, false, false, false, false, false, false, false, false, false, false, false, false, false, false, false, false, false] (by kernel_rfl) rfl rfl ⟨hx181_0, hx182_0, hx183_0, hx184_0⟩ (fun hHeld => ?_); refine with_tabW pylonlaw02_PhasorPhases.tab15 pylonlaw02_PhasorPhases.bits15 (fun HT_ HW_ => ?_)
                                                generalize w79.drew = w80 at HO_9 HO_10 HO_11 HO_12 HB hx181_0 hx182_0 hx183_0 hx184_0 hHeld ⊢
                                                refine pure_ (i := 0) (N := some 137) (v := ?_) (a' := ?_) #[true, false, false, false, false, false, false, false, false, false, false, false, false, false, false, false, false, false] rfl rfl (any_of HT_.out (by kernel_rfl)) (fun _ _ _ h => h) (Or.inl ⟨by rfl, ?_⟩) ?_ ?_
                                                rotate_left
                                                · intro w'
                                                  go_simp
                                                  with_reducible rfl
                                                rotate_left
                                                · simp only [Act.put, List.setIfInBounds_toArray, List.set_cons_zero, List.set_cons_succ, i64_w, i32_w]
                                                  rfl
                                                refine pure_ (i := 1) (N := some 138) (v := ?_) (a' := ?_) #[true, true, false, false, false, false, false, false, false, false, false, false, false, false, false, false, false, false] rfl rfl (any_of HT_.out (by kernel_rfl)) (fun _ _ _ h => h) (Or.inl ⟨by rfl, ?_⟩) ?_ ?_
                                                rotate_left
                                                · intro w'
                                                  go_simp
                                                  with_reducible rfl
                                                rotate_left
                                                · simp only [Act.put, List.setIfInBounds_toArray, List.set_cons_zero, List.set_cons_succ, i64_w, i32_w]
                                                  rfl
                                                refine pure_ (i := 3) (N := some 140) (v := ?_) (a' := ?_) #[true, true, false, true, false, false, false, false, false, false, false, false, false, false, false, false, false, false] rfl rfl (any_of HT_.out (by kernel_rfl)) (fun _ _ _ h => h) (Or.inl ⟨by rfl, ?_⟩) ?_ ?_
                                                rotate_left
                                                · intro w'
                                                  go_simp
                                                  with_reducible rfl
                                                rotate_left
                                                · simp only [Act.put, List.setIfInBounds_toArray, List.set_cons_zero, List.set_cons_succ, i64_w, i32_w]
                                                  rfl
                                                refine pure_ (i := 4) (N := some 141) (v := ?_) (a' := ?_) #[true, true, false, true, true, false, false, false, false, false, false, false, false, false, false, false, false, false] rfl rfl (any_of HT_.out (by kernel_rfl)) (fun _ _ _ h => h) (Or.inl ⟨by rfl, ?_⟩) ?_ ?_
                                                rotate_left
                                                · intro w'
                                                  go_simp
                                                  with_reducible rfl
                                                rotate_left
                                                · simp only [Act.put, List.setIfInBounds_toArray, List.set_cons_zero, List.set_cons_succ, i64_w, i32_w]
                                                  rfl
                                                refine pure_ (i := 6) (N := some 143) (v := ?_) (a' := ?_) #[true, true, false, true, true, false, true, false, false, false, false, false, false, false, false, false, false, false] rfl rfl (any_of HT_.out (by kernel_rfl)) (fun _ _ _ h => h) (Or.inl ⟨by rfl, ?_⟩) ?_ ?_
                                                rotate_left
                                                · intro w'
                                                  go_simp
                                                  with_reducible rfl
                                                rotate_left
                                                · simp only [Act.put, List.setIfInBounds_toArray, List.set_cons_zero, List.set_cons_succ, i64_w, i32_w]
                                                  rfl
                                                refine pure_ (i := 7) (N := some 144) (v := ?_) (a' := ?_) #[true, true, false, true, true, false, true, true, false, false, false, false, false, false, false, false, false, false] rfl rfl (any_of HT_.out (by kernel_rfl)) (fun _ _ _ h => h) (Or.inl ⟨by rfl, ?_⟩) ?_ ?_
                                                rotate_left
                                                · intro w'
                                                  go_simp
                                                  with_reducible rfl
                                                rotate_left
                                                · simp only [Act.put, List.setIfInBounds_toArray, List.set_cons_zero, List.set_cons_succ, i64_w, i32_w]
                                                  rfl
                                                refine pure_ (i := 9) (N := some 146) (v := ?_) (a' := ?_) #[true, true, false, true, true, false, true, true, false, true, false, false, false, false, false, false, false, false] rfl rfl (any_of HT_.out (by kernel_rfl)) (fun _ _ _ h => h) (Or.inl ⟨by rfl, ?_⟩) ?_ ?_
                                                rotate_left
                                                · intro w'
                                                  go_simp
                                                  with_reducible rfl
                                                rotate_left
                                                · simp only [Act.put, List.setIfInBounds_toArray, List.set_cons_zero, List.set_cons_succ, i64_w, i32_w]
                                                  rfl
                                                refine pure_ (i := 10) (N := some 147) (v := ?_) (a' := ?_) #[true, true, false, true, true, false, true, true, false, true, true, false, false, false, false, false, false, false] rfl rfl (any_of HT_.out (by kernel_rfl)) (fun _ _ _ h => h) (Or.inl ⟨by rfl, ?_⟩) ?_ ?_
                                                rotate_left
                                                · intro w'
                                                  go_simp
                                                  with_reducible rfl
                                                rotate_left
                                                · simp only [Act.put, List.setIfInBounds_toArray, List.set_cons_zero, List.set_cons_succ, i64_w, i32_w]
                                                  rfl
                                                refine take_ (i := 2) (N := some 139) (v := ?_) (a' := ?_) #[true, true, true, true, true, false, true, true, false, true, true, false, false, false, false, false, false, false] rfl rfl (take_ofW HT_.out HW_.out (by kernel_rfl)) (fun _ _ _ h => h) (Or.inl ⟨by rfl, ?_⟩) hHeld ?_ ?_
                                                rotate_left
                                                · rintro w' ⟨s0, s1, s2, s3⟩
                                                  go_simp
                                                  with_reducible rfl
                                                rotate_left
                                                · simp only [Act.put, List.setIfInBounds_toArray, List.set_cons_zero, List.set_cons_succ, i64_w, i32_w]
                                                  rfl
                                                refine take_ (i := 5) (N := some 142) (v := ?_) (a' := ?_) #[true, true, true, true, true, true, true, true, false, true, true, false, false, false, false, false, false, false] rfl rfl (take_ofW HT_.out HW_.out (by kernel_rfl)) (fun _ _ _ h => h) (Or.inl ⟨by rfl, ?_⟩) hHeld ?_ ?_
                                                rotate_left
                                                · rintro w' ⟨s0, s1, s2, s3⟩
                                                  go_simp
                                                  with_reducible rfl
                                                rotate_left
                                                · simp only [Act.put, List.setIfInBounds_toArray, List.set_cons_zero, List.set_cons_succ, i64_w, i32_w]
                                                  rfl
                                                refine take_ (i := 8) (N := some 145) (v := ?_) (a' := ?_) #[true, true, true, true, true, true, true, true, true, true, true, false, false, false, false, false, false, false] rfl rfl (take_ofW HT_.out HW_.out (by kernel_rfl)) (fun _ _ _ h => h) (Or.inl ⟨by rfl, ?_⟩) hHeld ?_ ?_
                                                rotate_left
                                                · rintro w' ⟨s0, s1, s2, s3⟩
                                                  go_simp
                                                  with_reducible rfl
                                                rotate_left
                                                · simp only [Act.put, List.setIfInBounds_toArray, List.set_cons_zero, List.set_cons_succ, i64_w, i32_w]
                                                  rfl
                                                refine take_ (i := 11) (N := some 148) (v := ?_) (a' := ?_) #[true, true, true, true, true, true, true, true, true, true, true, true, false, false, false, false, false, false] rfl rfl (take_ofW HT_.out HW_.out (by kernel_rfl)) (fun _ _ _ h => h) (Or.inl ⟨by rfl, ?_⟩) hHeld ?_ ?_
                                                rotate_left
                                                · rintro w' ⟨s0, s1, s2, s3⟩
                                                  go_simp
                                                  with_reducible rfl
                                                rotate_left
                                                · simp only [Act.put, List.setIfInBounds_toArray, List.set_cons_zero, List.set_cons_succ, i64_w, i32_w]
                                                  rfl
                                                refine one_ (i := 12) (N := some 149) #[true, true, true, true, true, true, true, true, true, true, true, true, true, false, false, false, false, false] rfl rfl (one_of HT_.out (by kernel_rfl)) (by decide) (fun K hK => ?_)
                                                refine goes_ Try.func34 (by kernel_rfl) rfl #[.complex .f64 (rdOf (cx 0 0) t141 0).re (rdOf (cx 0 0) t141 0).im, .complex .f64 (rdOf (cx 0 0) t147 0).re (rdOf (cx 0 0) t147 0).im, .complex .f64 (rdOf (cx 0 0) t144 0).re (rdOf (cx 0 0) t144 0).im, .complex .f64 (rdOf (cx 0 0) t150 0).re (rdOf (cx 0 0) t150 0).im] (by rfl) rfl rfl (by (try simp only [List.map_toArray, List.map_cons, List.map_nil]); first | done | rfl | (simp only [List.length_drop, List.length_take]; rfl)) ?_
                                                with_reducible refine (phasor_Aron.calls (rdOf (cx 0 0) t141 0) (rdOf (cx 0 0) t147 0) (rdOf (cx 0 0) t144 0) (rdOf (cx 0 0) t150 0) t185 t186 _ A66.out).mono ?_
                                                rintro e w81 ⟨rfl, hb⟩
                                                have HS0_ := (hb.cell (World.block_lt_of_cell? _ _ (hHeld.1))).trans (hHeld.1)
                                                have HS1_ := (hb.cell (World.block_lt_of_cell? _ _ (hHeld.2.1))).trans (hHeld.2.1)
                                                have HS2_ := (hb.cell (World.block_lt_of_cell? _ _ (hHeld.2.2.1))).trans (hHeld.2.2.1)
                                                have HS3_ := (hb.cell (World.block_lt_of_cell? _ _ (hHeld.2.2.2))).trans (hHeld.2.2.2)
                                                refine ⟨_, rfl, ?_⟩
                                                have n0_ := Aside0.mk (Kd.R_below (by (with_reducible repeat (first | apply Kd.R_alloc | apply Kd.R_drewN | apply Kd.R_drew)); exact HO_9.out) hb)
                                                have n1_ := Aside0.mk (Kd.R_below (by (with_reducible repeat (first | apply Kd.R_alloc | apply Kd.R_drewN | apply Kd.R_drew)); exact HO_10.out) hb)
                                                have n2_ := Aside0.mk (Kd.R_below (by (with_reducible repeat (first | apply Kd.R_alloc | apply Kd.R_drewN | apply Kd.R_drew)); exact HO_11.out) hb)
                                                have n3_ := Aside0.mk (Kd.R_below (by (with_reducible repeat (first | apply Kd.R_alloc | apply Kd.R_drewN | apply Kd.R_drew)); exact HO_12.out) hb)
                                                have n4_ := Aside0.mk (below_step (by repeat (first | (with_reducible first | exact HB.out | apply below_alloc | apply pw_below_drewN | apply below_drew1) | exact HB.out)) hb)
                                                clear HO_9
                                                clear HO_10
                                                clear HO_11
                                                clear HO_12
                                                clear HB
                                                have HO_9 := n0_
                                                have HO_10 := n1_
                                                have HO_11 := n2_
                                                have HO_12 := n3_
                                                have HB := n4_
                                                clear n0_ n1_ n2_ n3_ n4_
                                                (try clear hb)
                                                (try clear hb2)
                                                (try clear hk)
                                                (try clear hi)
                                                refine hK.out _ _ ⟨HS0_, HS1_, HS2_, HS3_⟩ (fun hHeld => ?_)
                                                clear hK K
                                                refine norm_ (a' := ?_) ?_ ?_
                                                rotate_left
                                                · show Act.put _ (some 149) _ = _
                                                  simp only [Act.put, List.setIfInBounds_toArray, List.set_cons_zero, List.set_cons_succ, i64_w, i32_w]
                                                  rfl
                                                refine pure_ (i := 13) (N := some 136) (v := ?_) (a' := ?_) #[true, true, true, true, true, true, true, true, true, true, true, true, true, true, false, false, false, false] rfl rfl (any_of HT_.out (by kernel_rfl)) (fun _ _ _ h => h) (Or.inl ⟨by rfl, ?_⟩) ?_ ?_
                                                rotate_left
                                                · intro w'
                                                  go_simp
                                                  with_reducible rfl
                                                rotate_left
                                                · simp only [Act.put, List.setIfInBounds_toArray, List.set_cons_zero, List.set_cons_succ, i64_w, i32_w]
                                                  rfl
                                                refine pure_ (i := 14) (N := some 150) (v := ?_) (a' := ?_) #[true, true, true, true, true, true, true, true, true, true, true, true, true, true, true, false, false, false] rfl rfl (any_of HT_.out (by kernel_rfl)) (fun _ _ _ h => h) (Or.inl ⟨by rfl, ?_⟩) ?_ ?_
                                                rotate_left
                                                · intro w'
                                                  go_simp
                                                  with_reducible rfl
                                                rotate_left
                                                · simp only [Act.put, List.setIfInBounds_toArray, List.set_cons_zero, List.set_cons_succ, i64_w, i32_w]
                                                  rfl
                                                refine pure_ (i := 15) (N := some 151) (v := ?_) (a' := ?_) #[true, true, true, true, true, true, true, true, true, true, true, true, true, true, true, true, false, false] rfl rfl (any_of HT_.out (by kernel_rfl)) (fun _ _ _ h => h) (Or.inl ⟨by rfl, ?_⟩) ?_ ?_
                                                rotate_left
                                                · intro w'
                                                  go_simp
                                                  with_reducible rfl
                                                rotate_left
                                                · simp only [Act.put, List.setIfInBounds_toArray, List.set_cons_zero, List.set_cons_succ, i64_w, i32_w]
                                                  rfl
                                                refine pure_ (i := 16) (N := some 21) (v := ?_) (a' := ?_) #[true, true, true, true, true, true, true, true, true, true, true, true, true, true, true, true, true, false] rfl rfl (any_of HT_.out (by kernel_rfl)) (fun _ _ _ h => h) (Or.inl ⟨by rfl, ?_⟩) ?_ ?_
                                                rotate_left
                                                · intro w'
                                                  go_simp
                                                  with_reducible rfl
                                                rotate_left
                                                · simp only [Act.put, List.setIfInBounds_toArray, List.set_cons_zero, List.set_cons_succ, i64_w, i32_w]
                                                  rfl
                                                refine pure_ (i := 17) (N := some 22) (v := ?_) (a' := ?_) #[true, true, true, true, true, true, true, true, true, true, true, true, true, true, true, true, true, true] rfl rfl (any_of HT_.out (by kernel_rfl)) (fun _ _ _ h => h) (Or.inl ⟨by rfl, ?_⟩) ?_ ?_
                                                rotate_left
                                                · intro w'
                                                  go_simp
                                                  with_reducible rfl
                                                rotate_left
                                                · simp only [Act.put, List.setIfInBounds_toArray, List.set_cons_zero, List.set_cons_succ, i64_w, i32_w]
                                                  rfl
                                                refine done_ (done_of HT_.out (by kernel_rfl)) ?_
                                                try go_wp2
                                                go_ret
                                                exact ⟨by first | rfl | (simp [errW_none, errW_some] <;> rfl) | (simp [*, errW_none, errW_some] <;> rfl), by repeat (first | (with_reducible first | exact HB.out | apply below_alloc | apply pw_below_drewN | apply below_drew1) | exact HB.out)⟩
                                            · rw [if_neg c67] at H
                                              have c67b0 : (t180 == 0) = false := beq_eq_false_iff_ne.mpr c67
                                              have c67b1 : (t180 != 0) = true := bne_iff_ne.mpr c67
                                              obtain rfl := Option.some.inj H
                                              try go_wp2
                                              have n0_ := Aside0.mk (Kd.R_drew HO_9.out)
                                              have n1_ := Aside0.mk (Kd.R_drew HO_10.out)
                                              have n2_ := Aside0.mk (Kd.R_drew HO_11.out)
                                              have n3_ := Aside0.mk (Kd.R_drew HO_12.out)
                                              have n4_ := Aside0.mk (below_drew1 HB.out)
                                              clear HO_9
                                              clear HO_10
                                              clear HO_11
                                              clear HO_12
                                              clear HB
                                              have HO_9 := n0_
                                              have HO_10 := n1_
                                              have HO_11 := n2_
                                              have HO_12 := n3_
                                              have HB := n4_
                                              clear n0_ n1_ n2_ n3_ n4_
                                              have p177 : 0 ≤ (0 : Int) := (by omega)
                                              have q177 : 0 < (t141.length : Int) := of_decide_eq_true (by first | (with_reducible assumption) | assumption)
                                              obtain ⟨ad177, e177, hx177_0⟩ := Kd.at_c128 (Kd.R_reads' HO_9.out).2.2 0 p177 q177
                                              cases e177
                                              have qi177 : (0 < t141.length) = True := eq_true (by omega)
                                              (try rw [show ((0 : Int)).toNat = 0 from rfl] at hx177_0)
                                              (try rw [Addr.add_zero'] at hx177_0)
                                              replace p177 := eq_true p177
                                              replace q177 := eq_true q177
                                              have p178 : 0 ≤ (0 : Int) := (by omega)
                                              have q178 : 0 < (t144.length : Int) := of_decide_eq_true (by first | (with_reducible assumption) | assumption)
                                              obtain ⟨ad178, e178, hx178_0⟩ := Kd.at_c128 (Kd.R_reads' HO_10.out).2.2 0 p178 q178
                                              cases e178
                                              have qi178 : (0 < t144.length) = True := eq_true (by omega)
                                              (try rw [show ((0 : Int)).toNat = 0 from rfl] at hx178_0)
                                              (try rw [Addr.add_zero'] at hx178_0)
                                              replace p178 := eq_true p178
                                              replace q178 := eq_true q178
                                              refine start_ (n := 12) (S := fun w' => w'.cell? ad177 = some (.complex .f64 (rdOf (cx 0 0) t141 0).re (rdOf (cx 0 0) t141 0).im) ∧ w'.cell? ad178 = some (.complex .f64 (rdOf (cx 0 0) t144 0).re (rdOf (cx 0 0) t144 0).im)) (ds := []) #[false, false, false, false, false, false, false, false, false, false, false, false] (by kernel_rfl) rfl rfl ⟨hx177_0, hx178_0⟩ (fun hHeld => ?_); refine with_tabW pylonlaw02_PhasorPhases.tab14 pylonlaw02_PhasorPhases.bits14 (fun HT_ HW_ => ?_)
                                              generalize wc.drew = w82 at HO_9 HO_10 HO_11 HO_12 HB hx177_0 hx178_0 hHeld ⊢
                                              refine pure_ (i := 0) (N := some 127) (v := ?_) (a' := ?_) #[true, false, false, false, false, false, false, false, false, false, false, false] rfl rfl (any_of HT_.out (by kernel_rfl)) (fun _ _ _ h => h) (Or.inl ⟨by rfl, ?_⟩) ?_ ?_
                                              rotate_left
                                              · intro w'
                                                go_simp
                                                with_reducible rfl
                                              rotate_left
                                              · simp only [Act.put, List.setIfInBounds_toArray, List.set_cons_zero, List.set_cons_succ, i64_w, i32_w]
                                                rfl
                                              refine pure_ (i := 1) (N := some 128) (v := ?_) (a' := ?_) #[true, true, false, false, false, false, false, false, false, false, false, false] rfl rfl (any_of HT_.out (by kernel_rfl)) (fun _ _ _ h => h) (Or.inl ⟨by rfl, ?_⟩) ?_ ?_
                                              rotate_left
                                              · intro w'
                                                go_simp
                                                with_reducible rfl
                                              rotate_left
                                              · simp only [Act.put, List.setIfInBounds_toArray, List.set_cons_zero, List.set_cons_succ, i64_w, i32_w]
                                                rfl
                                              refine pure_ (i := 3) (N := some 130) (v := ?_) (a' := ?_) #[true, true, false, true, false, false, false, false, false, false, false, false] rfl rfl (any_of HT_.out (by kernel_rfl)) (fun _ _ _ h => h) (Or.inl ⟨by rfl, ?_⟩) ?_ ?_
                                              rotate_left
                                              · intro w'
                                                go_simp
                                                with_reducible rfl
                                              rotate_left
                                              · simp only [Act.put, List.setIfInBounds_toArray, List.set_cons_zero, List.set_cons_succ, i64_w, i32_w]
                                                rfl
                                              refine pure_ (i := 4) (N := some 131) (v := ?_) (a' := ?_) #[true, true, false, true, true, false, false, false, false, false, false, false] rfl rfl (any_of HT_.out (by kernel_rfl)) (fun _ _ _ h => h) (Or.inl ⟨by rfl, ?_⟩) ?_ ?_
                                              rotate_left
                                              · intro w'
                                                go_simp
                                                with_reducible rfl
                                              rotate_left
                                              · simp only [Act.put, List.setIfInBounds_toArray, List.set_cons_zero, List.set_cons_succ, i64_w, i32_w]
                                                rfl
                                              refine take_ (i := 2) (N := some 129) (v := ?_) (a' := ?_) #[true, true, true, true, true, false, false, false, false, false, false, false] rfl rfl (take_ofW HT_.out HW_.out (by kernel_rfl)) (fun _ _ _ h => h) (Or.inl ⟨by rfl, ?_⟩) hHeld ?_ ?_
                                              rotate_left
                                              · rintro w' ⟨s0, s1⟩
                                                go_simp
                                                with_reducible rfl
                                              rotate_left
                                              · simp only [Act.put, List.setIfInBounds_toArray, List.set_cons_zero, List.set_cons_succ, i64_w, i32_w]
                                                rfl
                                              refine take_ (i := 5) (N := some 132) (v := ?_) (a' := ?_) #[true, true, true, true, true, true, false, false, false, false, false, false] rfl rfl (take_ofW HT_.out HW_.out (by kernel_rfl)) (fun _ _ _ h => h) (Or.inl ⟨by rfl, ?_⟩) hHeld ?_ ?_
                                              rotate_left
                                              · rintro w' ⟨s0, s1⟩
                                                go_simp
                                                with_reducible rfl
                                              rotate_left
                                              · simp only [Act.put, List.setIfInBounds_toArray, List.set_cons_zero, List.set_cons_succ, i64_w, i32_w]
                                                rfl
                                              refine one_ (i := 6) (N := some 133) #[true, true, true, true, true, true, true, false, false, false, false, false] rfl rfl (one_of HT_.out (by kernel_rfl)) (by decide) (fun K hK => ?_)
                                              refine goes_ Try.func26 (by kernel_rfl) rfl #[.complex .f64 (rdOf (cx 0 0) t141 0).re (rdOf (cx 0 0) t141 0).im, .complex .f64 (rdOf (cx 0 0) t144 0).re (rdOf (cx 0 0) t144 0).im] (by rfl) rfl rfl (by (try simp only [List.map_toArray, List.map_cons, List.map_nil]); first | done | rfl | (simp only [List.length_drop, List.length_take]; rfl)) ?_
                                              with_reducible refine (phasor_Power.calls (rdOf (cx 0 0) t141 0) (rdOf (cx 0 0) t144 0) t179 t180 _ A63.out).mono ?_
                                              rintro e w83 ⟨rfl, hb⟩
                                              have HS0_ := (hb.cell (World.block_lt_of_cell? _ _ (hHeld.1))).trans (hHeld.1)
                                              have HS1_ := (hb.cell (World.block_lt_of_cell? _ _ (hHeld.2))).trans (hHeld.2)
                                              refine ⟨_, rfl, ?_⟩
                                              have n0_ := Aside0.mk (Kd.R_below (by (with_reducible repeat (first | apply Kd.R_alloc | apply Kd.R_drewN | apply Kd.R_drew)); exact HO_9.out) hb)
                                              have n1_ := Aside0.mk (Kd.R_below (by (with_reducible repeat (first | apply Kd.R_alloc | apply Kd.R_drewN | apply Kd.R_drew)); exact HO_10.out) hb)
                                              have n2_ := Aside0.mk (Kd.R_below (by (with_reducible repeat (first | apply Kd.R_alloc | apply Kd.R_drewN | apply Kd.R_drew)); exact HO_11.out) hb)
                                              have n3_ := Aside0.mk (Kd.R_below (by (with_reducible repeat (first | apply Kd.R_alloc | apply Kd.R_drewN | apply Kd.R_drew)); exact HO_12.out) hb)
                                              have n4_ := Aside0.mk (below_step (by repeat (first | (with_reducible first | exact HB.out | apply below_alloc | apply pw_below_drewN | apply below_drew1) | exact HB.out)) hb)
                                              clear HO_9
                                              clear HO_10
                                              clear HO_11
                                              clear HO_12
                                              clear HB
                                              have HO_9 := n0_
                                              have HO_10 := n1_
                                              have HO_11 := n2_
                                              have HO_12 := n3_
                                              have HB := n4_
                                              clear n0_ n1_ n2_ n3_ n4_
                                              (try clear hb)
                                              (try clear hb2)
                                              (try clear hk)
                                              (try clear hi)
                                              refine hK.out _ _ ⟨HS0_, HS1_⟩ (fun hHeld => ?_)
                                              clear hK K
                                              refine norm_ (a' := ?_) ?_ ?_
                                              rotate_left
                                              · show Act.put _ (some 133) _ = _
                                                simp only [Act.put, List.setIfInBounds_toArray, List.set_cons_zero, List.set_cons_succ, i64_w, i32_w]
                                                rfl
                                              refine pure_ (i := 7) (N := some 126) (v := ?_) (a' := ?_) #[true, true, true, true, true, true, true, true, false, false, false, false] rfl rfl (any_of HT_.out (by kernel_rfl)) (fun _ _ _ h => h) (Or.inl ⟨by rfl, ?_⟩) ?_ ?_
                                              rotate_left
                                              · intro w'
                                                go_simp
                                                with_reducible rfl
                                              rotate_left
                                              · simp only [Act.put, List.setIfInBounds_toArray, List.set_cons_zero, List.set_cons_succ, i64_w, i32_w]
                                                rfl
                                              refine pure_ (i := 8) (N := some 134) (v := ?_) (a' := ?_) #[true, true, true, true, true, true, true, true, true, false, false, false] rfl rfl (any_of HT_.out (by kernel_rfl)) (fun _ _ _ h => h) (Or.inl ⟨by rfl, ?_⟩) ?_ ?_
                                              rotate_left
                                              · intro w'
                                                go_simp
                                                with_reducible rfl
                                              rotate_left
                                              · simp only [Act.put, List.setIfInBounds_toArray, List.set_cons_zero, List.set_cons_succ, i64_w, i32_w]
                                                rfl
                                              refine pure_ (i := 9) (N := some 135) (v := ?_) (a' := ?_) #[true, true, true, true, true, true, true, true, true, true, false, false] rfl rfl (any_of HT_.out (by kernel_rfl)) (fun _ _ _ h => h) (Or.inl ⟨by rfl, ?_⟩) ?_ ?_
                                              rotate_left
                                              · intro w'
                                                go_simp
                                                with_reducible rfl
                                              rotate_left
                                              · simp only [Act.put, List.setIfInBounds_toArray, List.set_cons_zero, List.set_cons_succ, i64_w, i32_w]
                                                rfl
                                              refine pure_ (i := 10) (N := some 19) (v := ?_) (a' := ?_) #[true, true, true, true, true, true, true, true, true, true, true, false] rfl rfl (any_of HT_.out (by kernel_rfl)) (fun _ _ _ h => h) (Or.inl ⟨by rfl, ?_⟩) ?_ ?_
                                              rotate_left
                                              · intro w'
                                                go_simp
                                                with_reducible rfl
                                              rotate_left
                                              · simp only [Act.put, List.setIfInBounds_toArray, List.set_cons_zero, List.set_cons_succ, i64_w, i32_w]
                                                rfl
                                              refine pure_ (i := 11) (N := some 20) (v := ?_) (a' := ?_) #[true, true, true, true, true, true, true, true, true, true, true, true] rfl rfl (any_of HT_.out (by kernel_rfl)) (fun _ _ _ h => h) (Or.inl ⟨by rfl, ?_⟩) ?_ ?_
                                              rotate_left
                                              · intro w'
                                                go_simp
                                                with_reducible rfl
                                              rotate_left
                                              · simp only [Act.put, List.setIfInBounds_toArray, List.set_cons_zero, List.set_cons_succ, i64_w, i32_w]
                                                rfl
                                              refine done_ (done_of HT_.out (by kernel_rfl)) ?_
                                              try go_wp2
                                              have n0_ := Aside0.mk (Kd.R_drew HO_9.out)
                                              have n1_ := Aside0.mk (Kd.R_drew HO_10.out)
                                              have n2_ := Aside0.mk (Kd.R_drew HO_11.out)
                                              have n3_ := Aside0.mk (Kd.R_drew HO_12.out)
                                              have n4_ := Aside0.mk (below_drew1 HB.out)
                                              clear HO_9
                                              clear HO_10
                                              clear HO_11
                                              clear HO_12
                                              clear HB
                                              have HO_9 := n0_
                                              have HO_10 := n1_
                                              have HO_11 := n2_
                                              have HO_12 := n3_
                                              have HB := n4_
                                              clear n0_ n1_ n2_ n3_ n4_
                                              have p181 : 0 ≤ (0 : Int) := (by omega)
                                              have q181 : 0 < (t141.length : Int) := of_decide_eq_true (by first | (with_reducible assumption) | assumption)
                                              obtain ⟨ad181, e181, hx181_0⟩ := Kd.at_c128 (Kd.R_reads' HO_9.out).2.2 0 p181 q181
                                              obtain rfl : ad177 = ad181 := (by injection e181)
                                              have qi181 : (0 < t141.length) = True := eq_true (by omega)
                                              (try rw [show ((0 : Int)).toNat = 0 from rfl] at hx181_0)
                                              (try rw [Addr.add_zero'] at hx181_0)
                                              replace p181 := eq_true p181
                                              replace q181 := eq_true q181
                                              have p182 : 0 ≤ (0 : Int) := (by omega)
                                              have q182 : 0 < (t147.length : Int) := of_decide_eq_true (by first | (with_reducible assumption) | assumption)
                                              obtain ⟨ad182, e182, hx182_0⟩ := Kd.at_c128 (Kd.R_reads' HO_11.out).2.2 0 p182 q182
                                              cases e182
                                              have qi182 : (0 < t147.length) = True := eq_true (by omega)
                                              (try rw [show ((0 : Int)).toNat = 0 from rfl] at hx182_0)
                                              (try rw [Addr.add_zero'] at hx182_0)
                                              replace p182 := eq_true p182
                                              replace q182 := eq_true q182
                                              have p183 : 0 ≤ (0 : Int) := (by omega)
                                              have q183 : 0 < (t144.length : Int) := of_decide_eq_true (by first | (with_reducible assumption) | assumption)
                                              obtain ⟨ad183, e183, hx183_0⟩ := Kd.at_c128 (Kd.R_reads' HO_10.out).2.2 0 p183 q183
                                              obtain rfl : ad178 = ad183 := (by injection e183)
                                              have qi183 : (0 < t144.length) = True := eq_true (by omega)
                                              (try rw [show ((0 : Int)).toNat = 0 from rfl] at hx183_0)
                                              (try rw [Addr.add_zero'] at hx183_0)
                                              replace p183 := eq_true p183
                                              replace q183 := eq_true q183
                                              have p184 : 0 ≤ (0 : Int) := (by omega)
                                              have q184 : 0 < (t150.length : Int) := of_decide_eq_true (by first | (with_reducible assumption) | assumption)
                                              obtain ⟨ad184, e184, hx184_0⟩ := Kd.at_c128 (Kd.R_reads' HO_12.out).2.2 0 p184 q184
                                              cases e184
                                              have qi184 : (0 < t150.length) = True := eq_true (by omega)
                                              (try rw [show ((0 : Int)).toNat = 0 from rfl] at hx184_0)
                                              (try rw [Addr.add_zero'] at hx184_0)
                                              replace p184 := eq_true p184
                                              replace q184 := eq_true q184
                                              refine start_ (n := 18) (S := fun w' => w'.cell? ad177 = some (.complex .f64 (rdOf (cx 0 0) t141 0).re (rdOf (cx 0 0) t141 0).im) ∧ w'.cell? ad182 = some (.complex .f64 (rdOf (cx 0 0) t147 0).re (rdOf (cx 0 0) t147 0).im) ∧ w'.cell? ad178 = some (.complex .f64 (rdOf (cx 0 0) t144 0).re (rdOf (cx 0 0) t144 0).im) ∧ w'.cell? ad184 = some (.complex .f64 (rdOf (cx 0 0) t150 0).re (rdOf (cx 0 0) t150 0).im)) (ds := []) #[false, false, false, false, false, false, false, false, false, false, false, false, false, false, false, false, false, false] (by kernel_rfl) rfl rfl ⟨hx181_0, hx182_0, hx183_0, hx184_0⟩ (fun hHeld => ?_); refine with_tabW pylonlaw02_PhasorPhases.tab15 pylonlaw02_PhasorPhases.bits15 (fun HT_ HW_ => ?_)
                                              generalize w83.drew = w84 at HO_9 HO_10 HO_11 HO_12 HB hx181_0 hx182_0 hx183_0 hx184_0 hHeld ⊢
                                              refine pure_ (i := 0) (N := some 137) (v := ?_) (a' := ?_) #[true, false, false, false, false, false, false, false, false, false, false, false, false, false, false, false, false, false] rfl rfl (any_of HT_.out (by kernel_rfl)) (fun _ _ _ h => h) (Or.inl ⟨by rfl, ?_⟩) ?_ ?_
                                              rotate_left
                                              · intro w'
                                                go_simp
                                                with_reducible rfl
                                              rotate_left
                                              · simp only [Act.put, List.setIfInBounds_toArray, List.set_cons_zero, List.set_cons_succ, i64_w, i32_w]
                                                rfl
                                              refine pure_ (i := 1) (N := some 138) (v := ?_) (a' := ?_) #[true, true, false, false, false, false, false, false, false, false, false, false, false, false, false, false, false, false] rfl rfl (any_of HT_.out (by kernel_rfl)) (fun _ _ _ h => h) (Or.inl ⟨by rfl, ?_⟩) ?_ ?_
                                              rotate_left
                                              · intro w'
                                                go_simp
                                                with_reducible rfl
                                              rotate_left
                                              · simp only [Act.put, List.setIfInBounds_toArray, List.set_cons_zero, List.set_cons_succ, i64_w, i32_w]
                                                rfl
                                              refine pure_ (i := 3) (N := some 140) (v := ?_) (a' := ?_) #[true, true, false, true, false, false, false, false, false, false, false, false, false, false, false, false, false, false] rfl rfl (any_of HT_.out (by kernel_rfl)) (fun _ _ _ h => h) (Or.inl ⟨by rfl, ?_⟩) ?_ ?_
                                              rotate_left
                                              · intro w'
                                                go_simp
                                                with_reducible rfl
                                              rotate_left
                                              · simp only [Act.put, List.setIfInBounds_toArray, List.set_cons_zero, List.set_cons_succ, i64_w, i32_w]
                                                rfl
                                              refine pure_ (i := 4) (N := some 141) (v := ?_) (a' := ?_) #[true, true, false, true, true, false, false, false, false, false, false, false, false, false, false, false, false, false] rfl rfl (any_of HT_.out (by kernel_rfl)) (fun _ _ _ h => h) (Or.inl ⟨by rfl, ?_⟩) ?_ ?_
                                              rotate_left
                                              · intro w'
                                                go_simp
                                                with_reducible rfl
                                              rotate_left
                                              · simp only [Act.put, List.setIfInBounds_toArray, List.set_cons_zero, List.set_cons_succ, i64_w, i32_w]
                                                rfl
                                              refine pure_ (i := 6) (N := some 143) (v := ?_) (a' := ?_) #[true, true, false, true, true, false, true, false, false, false, false, false, false, false, false, false, false, false] rfl rfl (any_of HT_.out (by kernel_rfl)) (fun _ _ _ h => h) (Or.inl ⟨by rfl, ?_⟩) ?_ ?_
                                              rotate_left
                                              · intro w'
                                                go_simp
                                                with_reducible rfl
                                              rotate_left
                                              · simp only [Act.put, List.setIfInBounds_toArray, List.set_cons_zero, List.set_cons_succ, i64_w, i32_w]
                                                rfl
                                              refine pure_ (i := 7) (N := some 144) (v := ?_) (a' := ?_) #[true, true, false, true, true, false, true, true, false, false, false, false, false, false, false, false, false, false] rfl rfl (any_of HT_.out (by kernel_rfl)) (fun _ _ _ h => h) (Or.inl ⟨by rfl, ?_⟩) ?_ ?_
                                              rotate_left
                                              · intro w'
                                                go_simp
                                                with_reducible rfl
                                              rotate_left
                                              · simp only [Act.put, List.setIfInBounds_toArray, List.set_cons_zero, List.set_cons_succ, i64_w, i32_w]
                                                rfl
                                              refine pure_ (i := 9) (N := some 146) (v := ?_) (a' := ?_) #[true, true, false, true, true, false, true, true, false, true, false, false, false, false, false, false, false, false] rfl rfl (any_of HT_.out (by kernel_rfl)) (fun _ _ _ h => h) (Or.inl ⟨by rfl, ?_⟩) ?_ ?_
                                              rotate_left
                                              · intro w'
                                                go_simp
                                                with_reducible rfl
                                              rotate_left
                                              · simp only [Act.put, List.setIfInBounds_toArray, List.set_cons_zero, List.set_cons_succ, i64_w, i32_w]
                                                rfl
                                              refine pure_ (i := 10) (N := some 147) (v := ?_) (a' := ?_) #[true, true, false, true, true, false, true, true, false, true, true, false, false, false, false, false, false, false] rfl rfl (any_of HT_.out (by kernel_rfl)) (fun _ _ _ h => h) (Or.inl ⟨by rfl, ?_⟩) ?_ ?_
                                              rotate_left
                                              · intro w'
                                                go_simp
                                                with_reducible rfl
                                              rotate_left
                                              · simp only [Act.put, List.setIfInBounds_toArray, List.set_cons_zero, List.set_cons_succ, i64_w, i32_w]
                                                rfl
                                              refine take_ (i := 2) (N := some 139) (v := ?_) (a' := ?_) #[true, true, true, true, true, false, true, true, false, true, true, false, false, false, false, false, false, false] rfl rfl (take_ofW HT_.out HW_.out (by kernel_rfl)) (fun _ _ _ h => h) (Or.inl ⟨by rfl, ?_⟩) hHeld ?_ ?_
                                              rotate_left
                                              · rintro w' ⟨s0, s1, s2, s3⟩
                                                go_simp
                                                with_reducible rfl
                                              rotate_left
                                              · simp only [Act.put, List.setIfInBounds_toArray, List.set_cons_zero, List.set_cons_succ, i64_w, i32_w]
                                                rfl
                                              refine take_ (i := 5) (N := some 142) (v := ?_) (a' := ?_) #[true, true, true, true, true, true, true, true, false, true, true, false, false, false, false, false, false, false] rfl rfl (take_ofW HT_.out HW_.out (by kernel_rfl)) (fun _ _ _ h => h) (Or.inl ⟨by rfl, ?_⟩) hHeld ?_ ?_
                                              rotate_left
                                              · rintro w' ⟨s0, s1, s2, s3⟩
                                                go_simp
                                                with_reducible rfl
                                              rotate_left
                                              · simp only [Act.put, List.setIfInBounds_toArray, List.set_cons_zero, List.set_cons_succ, i64_w, i32_w]
                                                rfl
                                              refine take_ (i := 8) (N := some 145) (v := ?_) (a' := ?_) #[true, true, true, true, true, true, true, true, true, true, true, false, false, false, false, false, false, false] rfl rfl (take_ofW HT_.out HW_.out (by kernel_rfl)) (fun _ _ _ h => h) (Or.inl ⟨by rfl, ?_⟩) hHeld ?_ ?_
                                              rotate_left
                                              · rintro w' ⟨s0, s1, s2, s3⟩
                                                go_simp
                                                with_reducible rfl
                                              rotate_left
                                              · simp only [Act.put, List.setIfInBounds_toArray, List.set_cons_zero, List.set_cons_succ, i64_w, i32_w]
                                                rfl
                                              refine take_ (i := 11) (N := some 148) (v := ?_) (a' := ?_) #[true, true, true, true, true, true, true, true, true, true, true, true, false, false, false, false, false, false] rfl rfl (take_ofW HT_.out HW_.out (by kernel_rfl)) (fun _ _ _ h => h) (Or.inl ⟨by rfl, ?_⟩) hHeld ?_ ?_
                                              rotate_left
                                              · rintro w' ⟨s0, s1, s2, s3⟩
                                                go_simp
                                                with_reducible rfl
                                              rotate_left
                                              · simp only [Act.put, List.setIfInBounds_toArray, List.set_cons_zero, List.set_cons_succ, i64_w, i32_w]
                                                rfl
                                              refine one_ (i := 12) (N := some 149) #[true, true, true, true, true, true, true, true, true, true, true, true, true, false, false, false, false, false] rfl rfl (one_of HT_.out (by kernel_rfl)) (by decide) (fun K hK => ?_)
                                              refine goes_ Try.func34 (by kernel_rfl) rfl #[.complex .f64 (rdOf (cx 0 0) t141 0).re (rdOf (cx 0 0) t141 0).im, .complex .f64 (rdOf (cx 0 0) t147 0).re (rdOf (cx 0 0) t147 0).im, .complex .f64 (rdOf (cx 0 0) t144 0).re (rdOf (cx 0 0) t144 0).im, .complex .f64 (rdOf (cx 0 0) t150 0).re (rdOf (cx 0 0) t150 0).im] (by rfl) rfl rfl (by (try simp only [List.map_toArray, List.map_cons, List.map_nil]); first | done | rfl | (simp only [List.length_drop, List.length_take]; rfl)) ?_
                                              with_reducible refine (phasor_Aron.calls (rdOf (cx 0 0) t141 0) (rdOf (cx 0 0) t147 0) (rdOf (cx 0 0) t144 0) (rdOf (cx 0 0) t150 0) t185 t186 _ A66.out).mono ?_
                                              rintro e w85 ⟨rfl, hb⟩
                                              have HS0_ := (hb.cell (World.block_lt_of_cell? _ _ (hHeld.1))).trans (hHeld.1)
                                              have HS1_ := (hb.cell (World.block_lt_of_cell? _ _ (hHeld.2.1))).trans (hHeld.2.1)
                                              have HS2_ := (hb.cell (World.block_lt_of_cell? _ _ (hHeld.2.2.1))).trans (hHeld.2.2.1)
                                              have HS3_ := (hb.cell (World.block_lt_of_cell? _ _ (hHeld.2.2.2))).trans (hHeld.2.2.2)
                                              refine ⟨_, rfl, ?_⟩
                                              have n0_ := Aside0.mk (Kd.R_below (by (with_reducible repeat (first | apply Kd.R_alloc | apply Kd.R_drewN | apply Kd.R_drew)); exact HO_9.out) hb)
                                              have n1_ := Aside0.mk (Kd.R_below (by (with_reducible repeat (first | apply Kd.R_alloc | apply Kd.R_drewN | apply Kd.R_drew)); exact HO_10.out) hb)
                                              have n2_ := Aside0.mk (Kd.R_below (by (with_reducible repeat (first | apply Kd.R_alloc | apply Kd.R_drewN | apply Kd.R_drew)); exact HO_11.out) hb)
                                              have n3_ := Aside0.mk (Kd.R_below (by (with_reducible repeat (first | apply Kd.R_alloc | apply Kd.R_drewN | apply Kd.R_drew)); exact HO_12.out) hb)
                                              have n4_ := Aside0.mk (below_step (by repeat (first | (with_reducible first | exact HB.out | apply below_alloc | apply pw_below_drewN | apply below_drew1) | exact HB.out)) hb)
                                              clear HO_9
                                              clear HO_10
                                              clear HO_11
                                              clear HO_12
                                              clear HB
                                              have HO_9 := n0_
                                              have HO_10 := n1_
                                              have HO_11 := n2_
                                              have HO_12 := n3_
                                              have HB := n4_
                                              clear n0_ n1_ n2_ n3_ n4_
                                              (try clear hb)
                                              (try clear hb2)
                                              (try clear hk)
                                              (try clear hi)
                                              refine hK.out _ _ ⟨HS0_, HS1_, HS2_, HS3_⟩ (fun hHeld => ?_)
                                              clear hK K
                                              refine norm_ (a' := ?_) ?_ ?_
                                              rotate_left
                                              · show Act.put _ (some 149) _ = _
                                                simp only [Act.put, List.setIfInBounds_toArray, List.set_cons_zero, List.set_cons_succ, i64_w, i32_w]
                                                rfl
                                              refine pure_ (i := 13) (N := some 136) (v := ?_) (a' := ?_) #[true, true, true, true, true, true, true, true, true, true, true, true, true, true, false, false, false, false] rfl rfl (any_of HT_.out (by kernel_rfl)) (fun _ _ _ h => h) (Or.inl ⟨by rfl, ?_⟩) ?_ ?_
                                              rotate_left
                                              · intro w'
                                                go_simp
                                                with_reducible rfl
                                              rotate_left
                                              · simp only [Act.put, List.setIfInBounds_toArray, List.set_cons_zero, List.set_cons_succ, i64_w, i32_w]
                                                rfl
                                              refine pure_ (i := 14) (N := some 150) (v := ?_) (a' := ?_) #[true, true, true, true, true, true, true, true, true, true, true, true, true, true, true, false, false, false] rfl rfl (any_of HT_.out (by kernel_rfl)) (fun _ _ _ h => h) (Or.inl ⟨by rfl, ?_⟩) ?_ ?_
                                              rotate_left
                                              · intro w'
                                                go_simp
                                                with_reducible rfl
                                              rotate_left
                                              · simp only [Act.put, List.setIfInBounds_toArray, List.set_cons_zero, List.set_cons_succ, i64_w, i32_w]
                                                rfl
                                              refine pure_ (i := 15) (N := some 151) (v := ?_) (a' := ?_) #[true, true, true, true, true, true, true, true, true, true, true, true, true, true, true, true, false, false] rfl rfl (any_of HT_.out (by kernel_rfl)) (fun _ _ _ h => h) (Or.inl ⟨by rfl, ?_⟩) ?_ ?_
                                              rotate_left
                                              · intro w'
                                                go_simp
                                                with_reducible rfl
                                              rotate_left
                                              · simp only [Act.put, List.setIfInBounds_toArray, List.set_cons_zero, List.set_cons_succ, i64_w, i32_w]
                                                rfl
                                              refine pure_ (i := 16) (N := some 21) (v := ?_) (a' := ?_) #[true, true, true, true, true, true, true, true, true, true, true, true, true, true, true, true, true, false] rfl rfl (any_of HT_.out (by kernel_rfl)) (fun _ _ _ h => h) (Or.inl ⟨by rfl, ?_⟩) ?_ ?_
                                              rotate_left
                                              · intro w'
                                                go_simp
                                                with_reducible rfl
                                              rotate_left
                                              · simp only [Act.put, List.setIfInBounds_toArray, List.set_cons_zero, List.set_cons_succ, i64_w, i32_w]
                                                rfl
                                              refine pure_ (i := 17) (N := some 22) (v := ?_) (a' := ?_) #[true, true, true, true, true, true, true, true, true, true, true, true, true, true, true, true, true, true] rfl rfl (any_of HT_.out (by kernel_rfl)) (fun _ _ _ h => h) (Or.inl ⟨by rfl, ?_⟩) ?_ ?_
                                              rotate_left
                                              · intro w'
                                                go_simp
                                                with_reducible rfl
                                              rotate_left
                                              · simp only [Act.put, List.setIfInBounds_toArray, List.set_cons_zero, List.set_cons_succ, i64_w, i32_w]
                                                rfl
                                              refine done_ (done_of HT_.out (by kernel_rfl)) ?_
                                              try go_wp2
                                              go_ret
                                              exact ⟨by first | rfl | (simp [errW_none, errW_some] <;> rfl) | (simp [*, errW_none, errW_some] <;> rfl), by repeat (first | (with_reducible first | exact HB.out | apply below_alloc | apply pw_below_drewN | apply below_drew1) | exact HB.out)⟩
                                          · rw [if_neg c65] at H
                                            exact absurd H (by simp)
                                        · rw [if_neg c64] at H
                                          exact absurd H (by simp)
                                      · rw [if_neg c62] at H
                                        exact absurd H (by simp)
                                    · rw [if_neg c61] at H
                                      exact absurd H (by simp)
                                  · replace c60 := Bool.eq_false_iff.mpr c60
                                    subst c60
                                    have H1 : (some true) = some r := by rw [if_neg (show ¬ (false = true) by decide)] at H; exact H
                                    clear H
                                    have H := H1
                                    clear H1
                                    obtain rfl := Option.some.inj H
                                    go_wp2
                                    go_ret
                                    exact ⟨by first | rfl | (simp [errW_none, errW_some] <;> rfl) | (simp [*, errW_none, errW_some] <;> rfl), by repeat (first | (with_reducible first | exact HB.out | apply below_alloc | apply pw_below_drewN | apply below_drew1) | exact HB.out)⟩
                · rw [if_neg c22] at H
                  exact absurd H (by simp)
              · rw [if_neg c21] at H
                exact absurd H (by simp)
            · rw [if_neg c20] at H
              exact absurd H (by simp)
          · rw [if_neg c19] at H
            exact absurd H (by simp)
  · replace c6 := Bool.eq_false_iff.mpr c6
    subst c6
    have H1 : (some false) = some r := by rw [if_neg (show ¬ (false = true) by decide)] at H; exact H
    clear H
    have H := H1
    clear H1
    obtain rfl := Option.some.inj H
    go_enter Try.func7, Try.ntmps7
    go_wp2_with (first | ((with_reducible refine gate_callee (f := 24) rfl ?_); refine goesL_ (some 23) rfl rfl Try.func24 (by kernel_rfl) rfl #[] rfl (by (try simp only [List.map_toArray, List.map_cons, List.map_nil]); first | done | rfl | (simp only [List.length_drop, List.length_take]; rfl)) ?_; (with_reducible refine (pylonlaw02_awake.calls  false _ A5.out).mono ?_); rintro e w86 ⟨rfl, hb⟩; refine ⟨_, rfl, ?_⟩; have n0_ := Aside0.mk (below_step (by repeat (first | (with_reducible first | exact HB.out | apply below_alloc | apply pw_below_drewN | apply below_drew1) | exact HB.out)) hb); clear HB; have HB := n0_; clear n0_; (try clear hb); (try clear hb2); (try clear hk); (try clear hi)))
    go_ret
    exact ⟨by first | rfl | (simp [errW_none, errW_some] <;> rfl) | (simp [*, errW_none, errW_some] <;> rfl), by repeat (first | (with_reducible first | exact HB.out | apply below_alloc | apply pw_below_drewN | apply below_drew1) | exact HB.out)⟩
/-- THE ONE PURE STATEMENT of pylonlaw02_PhasorPhases. -/
def pylonlaw02_PhasorPhases.Pure : Prop := ∀ (l0 : List (S105)) (l1 : List (S105)) (l2 : List (S105)) (l3 : List (S105)), (l0.length * 16 ≤ 140737488351232 ∧ ∀ y_ ∈ l0, okS105 y_) → (l1.length * 16 ≤ 140737488351232 ∧ ∀ y_ ∈ l1, okS105 y_) → (l2.length * 16 ≤ 140737488351232 ∧ ∀ y_ ∈ l2, okS105 y_) → (l3.length * 16 ≤ 140737488351232 ∧ ∀ y_ ∈ l3, okS105 y_) → ∃ k, pylonlaw02_PhasorPhases.f k l0 l1 l2 l3 = some true

end Go.Proofs.Ytapimggcnneabaa.PH
