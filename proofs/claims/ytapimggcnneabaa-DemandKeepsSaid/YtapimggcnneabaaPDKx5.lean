-- Written by a program of this session for this claim (wip/print2.sh). Lean checks it.
import Derived.Test.YtapimggcnneabaaPDKx0
import Derived.Test.YtapimggcnneabaaPDKx1
import Derived.Test.YtapimggcnneabaaPDKx2
import Derived.Test.YtapimggcnneabaaPDKx4
namespace Go.Proofs.Ytapimggcnneabaa.PDK
open Go.Proofs.YtapimggcnneabaaW.PrintWords
attribute [local go_sem high] fx_eql fx_neq fx_lss fx_leq fx_gtr fx_geq fx_add fx_sub fx_mul fx_neg fx_toint cxx_add cxx_sub cxx_mul cxx_eql cxx_neq cxx_pick st_float st_complex
open Go.RowKit Go.Proofs.YtapimggcnneabaaW.PrintWords Go.Proofs.YtapimggcnneabaaW.PrintLast Go.Proofs.YtapimggcnneabaaW.PrintMore
attribute [local go_sem] max2_int min2_int max_two min_two max_three min_three max_four min_four   -- for this text's walks alone
set_option linter.unusedVariables false
set_option linter.unusedSimpArgs false

attribute [local go_sem high] eqA90
/-! ### pylonref16_Whole: function 48 -/
mutual
def pylonref16_Whole.j0 : Nat → Int → Int → Int → Int → Int → Bool → Option ((List (S90)) × Int)
  | 0, _, _, _, _, _, _ => none
  | k + 1, x0, x1, x2, x3, x4, x50 => if x50 = true then (some (([] : List (S90)), 8)) else (pylonref16_Whole.l0 k x0 x1 x4 (mx x1 x2) ([] : List (S90)) x3)
def pylonref16_Whole.l0 : Nat → Int → Int → Int → Int → List (S90) → Int → Option ((List (S90)) × Int)
  | 0, _, _, _, _, _, _ => none
  | k + 1, x0, x1, x4, x12, x13, x14 => if x1 = 0 then (none) else (if (wrap64 (x14 + (wrap64 (Int.tdiv x12 x1)))) ≤ x4 then (if (wrap64 (60 * x12)) = 0 then (none) else (if (Int.tmod (wrap64 (x0 + (wrap64 ((wrap64 (60 * x1)) * x14)))) (wrap64 (60 * x12))) = 0 then (if x13.length < 8796093022208 then (pylonref16_Whole.l0 k x0 x1 x4 x12 (x13 ++ [(⟨x14, wrap64 (x14 + (wrap64 (Int.tdiv x12 x1)))⟩ : S90)]) (wrap64 (x14 + 1))) else (none)) else (pylonref16_Whole.l0 k x0 x1 x4 x12 x13 (wrap64 (x14 + 1))))) else (some (x13, 0)))
end
def pylonref16_Whole.f (k : Nat) (a0 : Int) (a1 : Int) (a2 : Int) (a3 : Int) (a4 : Int) : Option ((List (S90)) × Int) := (pylonref16_length.f a1).bind fun t129 => (if t129 = true then ((pylonref16_length.f a2).bind fun t130 => (if t130 = true then (if a0 < 0 then (pylonref16_Whole.j0 k a0 a1 a2 a3 a4 true) else (if a0 > 253402300799 then (pylonref16_Whole.j0 k a0 a1 a2 a3 a4 true) else (if (wrap64 (60 * a1)) = 0 then (none) else (if (Int.tmod a0 (wrap64 (60 * a1))) = 0 then (if a3 < 0 then (pylonref16_Whole.j0 k a0 a1 a2 a3 a4 true) else (if a3 > a4 then (pylonref16_Whole.j0 k a0 a1 a2 a3 a4 true) else (pylonref16_Whole.j0 k a0 a1 a2 a3 a4 (decide (a4 > 40000))))) else (pylonref16_Whole.j0 k a0 a1 a2 a3 a4 true))))) else (pylonref16_Whole.j0 k a0 a1 a2 a3 a4 true))) else (pylonref16_Whole.j0 k a0 a1 a2 a3 a4 true))
theorem pylonref16_Whole.mono_l : ∀ k, (∀ y0 y1 y2 y3 y4 y5, LeO (pylonref16_Whole.j0 k y0 y1 y2 y3 y4 y5) (pylonref16_Whole.j0 (k + 1) y0 y1 y2 y3 y4 y5)) ∧ (∀ y0 y1 y2 y3 y4 y5, LeO (pylonref16_Whole.l0 k y0 y1 y2 y3 y4 y5) (pylonref16_Whole.l0 (k + 1) y0 y1 y2 y3 y4 y5))
  | 0 => ⟨fun _ _ _ _ _ _ r h => by simp [pylonref16_Whole.j0] at h, fun _ _ _ _ _ _ r h => by simp [pylonref16_Whole.l0] at h⟩
  | k + 1 => by
    obtain ⟨ih0, ih1⟩ := pylonref16_Whole.mono_l k
    refine ⟨?_, ?_⟩
    · intro y0 y1 y2 y3 y4 y5
      unfold pylonref16_Whole.j0
      repeat' first
      | (with_reducible exact ih0 _ _ _ _ _ _)
      | (with_reducible exact ih1 _ _ _ _ _ _)
      | (with_reducible exact LeO.refl _)
      | (with_reducible exact LeO.none _)
      | (with_reducible refine LeO.ite ?_ ?_)
      | (with_reducible refine LeO.bind ?_ (fun _ => ?_))
      | exact ih0 _ _ _ _ _ _
      | exact ih1 _ _ _ _ _ _
      | exact LeO.none _
      | refine LeO.ite ?_ ?_
      | refine LeO.bind ?_ (fun _ => ?_)
    · intro y0 y1 y2 y3 y4 y5
      unfold pylonref16_Whole.l0
      repeat' first
      | (with_reducible exact ih0 _ _ _ _ _ _)
      | (with_reducible exact ih1 _ _ _ _ _ _)
      | (with_reducible exact LeO.refl _)
      | (with_reducible exact LeO.none _)
      | (with_reducible refine LeO.ite ?_ ?_)
      | (with_reducible refine LeO.bind ?_ (fun _ => ?_))
      | exact ih0 _ _ _ _ _ _
      | exact ih1 _ _ _ _ _ _
      | exact LeO.none _
      | refine LeO.ite ?_ ?_
      | refine LeO.bind ?_ (fun _ => ?_)
theorem pylonref16_Whole.mono : ∀ a0 a1 a2 a3 a4 k, LeO (pylonref16_Whole.f k a0 a1 a2 a3 a4) (pylonref16_Whole.f (k + 1) a0 a1 a2 a3 a4) := by
  intro a0 a1 a2 a3 a4 k
  obtain ⟨ih0, ih1⟩ := pylonref16_Whole.mono_l k
  unfold pylonref16_Whole.f
  repeat' first
      | (with_reducible exact ih0 _ _ _ _ _ _)
      | (with_reducible exact ih1 _ _ _ _ _ _)
      | (with_reducible exact LeO.refl _)
      | (with_reducible exact LeO.none _)
      | (with_reducible refine LeO.ite ?_ ?_)
      | (with_reducible refine LeO.bind ?_ (fun _ => ?_))
      | exact ih0 _ _ _ _ _ _
      | exact ih1 _ _ _ _ _ _
      | exact LeO.none _
      | refine LeO.ite ?_ ?_
      | refine LeO.bind ?_ (fun _ => ?_)
set_option maxHeartbeats 8000000 in
set_option maxRecDepth 100000 in
theorem pylonref16_Whole.calls (k : Nat) (a0 : Int) (a1 : Int) (a2 : Int) (a3 : Int) (a4 : Int) (r1 : List (S90)) (r2 : Int) (w : World) (h : pylonref16_Whole.f k a0 a1 a2 a3 a4 = some (r1, r2)) :
    Calls Try.prog 48 #[.int .i64 a0, .int .i64 a1, .int .i64 a2, .int .i64 a3, .int .i64 a4] w fun e w' => ∃ v0_ : Value, e = .returned (.tuple #[v0_, .int .i64 r2]) ∧ Kd.R k90 90 w' w.heap.size (fun _ => True) v0_ r1 ∧ Below w.heap.size w w' := by
  have hu90 := Try.underlying90
  have HB := Aside0.mk (Below.refl w.heap.size w)
  have H : ((pylonref16_length.f a1).bind fun t129 => (if t129 = true then ((pylonref16_length.f a2).bind fun t130 => (if t130 = true then (if a0 < 0 then (pylonref16_Whole.j0 k a0 a1 a2 a3 a4 true) else (if a0 > 253402300799 then (pylonref16_Whole.j0 k a0 a1 a2 a3 a4 true) else (if (wrap64 (60 * a1)) = 0 then (none) else (if (Int.tmod a0 (wrap64 (60 * a1))) = 0 then (if a3 < 0 then (pylonref16_Whole.j0 k a0 a1 a2 a3 a4 true) else (if a3 > a4 then (pylonref16_Whole.j0 k a0 a1 a2 a3 a4 true) else (pylonref16_Whole.j0 k a0 a1 a2 a3 a4 (decide (a4 > 40000))))) else (pylonref16_Whole.j0 k a0 a1 a2 a3 a4 true))))) else (pylonref16_Whole.j0 k a0 a1 a2 a3 a4 true))) else (pylonref16_Whole.j0 k a0 a1 a2 a3 a4 true))) = some (r1, r2) := h
  clear h
  have HC6 := Aside0.mk H
  clear H
  go_enter Try.func48, Try.ntmps48
  go_upto_region 1 with (fail)
  go_cut [50] (fun v50 wc => ∃ (kq : Nat) (x50_5 : Bool), v50 = .bool x50_5 ∧ Aside0 (pylonref16_Whole.j0 kq a0 a1 a2 a3 a4 x50_5 = some (r1, r2)) ∧ Aside0 (kq ≤ k) ∧ Aside0 (Below w.heap.size w wc))
  case first =>
    have H := HC6.out
    clear HC6
    replace H := Option.bind_eq_some_iff.mp H
    obtain ⟨t129, A70, H⟩ := H
    replace H : (if t129 = true then ((pylonref16_length.f a2).bind fun t130 => (if t130 = true then (if a0 < 0 then (pylonref16_Whole.j0 k a0 a1 a2 a3 a4 true) else (if a0 > 253402300799 then (pylonref16_Whole.j0 k a0 a1 a2 a3 a4 true) else (if (wrap64 (60 * a1)) = 0 then (none) else (if (Int.tmod a0 (wrap64 (60 * a1))) = 0 then (if a3 < 0 then (pylonref16_Whole.j0 k a0 a1 a2 a3 a4 true) else (if a3 > a4 then (pylonref16_Whole.j0 k a0 a1 a2 a3 a4 true) else (pylonref16_Whole.j0 k a0 a1 a2 a3 a4 (decide (a4 > 40000))))) else (pylonref16_Whole.j0 k a0 a1 a2 a3 a4 true))))) else (pylonref16_Whole.j0 k a0 a1 a2 a3 a4 true))) else (pylonref16_Whole.j0 k a0 a1 a2 a3 a4 true)) = some (r1, r2) := H
    have A7 := Aside0.mk A70
    clear A70
    by_cases c8 : t129 = true
    · subst c8
      have H1 : ((pylonref16_length.f a2).bind fun t130 => (if t130 = true then (if a0 < 0 then (pylonref16_Whole.j0 k a0 a1 a2 a3 a4 true) else (if a0 > 253402300799 then (pylonref16_Whole.j0 k a0 a1 a2 a3 a4 true) else (if (wrap64 (60 * a1)) = 0 then (none) else (if (Int.tmod a0 (wrap64 (60 * a1))) = 0 then (if a3 < 0 then (pylonref16_Whole.j0 k a0 a1 a2 a3 a4 true) else (if a3 > a4 then (pylonref16_Whole.j0 k a0 a1 a2 a3 a4 true) else (pylonref16_Whole.j0 k a0 a1 a2 a3 a4 (decide (a4 > 40000))))) else (pylonref16_Whole.j0 k a0 a1 a2 a3 a4 true))))) else (pylonref16_Whole.j0 k a0 a1 a2 a3 a4 true))) = some (r1, r2) := by rw [if_pos rfl] at H; exact H
      clear H
      have H := H1
      clear H1
      replace H := Option.bind_eq_some_iff.mp H
      obtain ⟨t130, A90, H⟩ := H
      replace H : (if t130 = true then (if a0 < 0 then (pylonref16_Whole.j0 k a0 a1 a2 a3 a4 true) else (if a0 > 253402300799 then (pylonref16_Whole.j0 k a0 a1 a2 a3 a4 true) else (if (wrap64 (60 * a1)) = 0 then (none) else (if (Int.tmod a0 (wrap64 (60 * a1))) = 0 then (if a3 < 0 then (pylonref16_Whole.j0 k a0 a1 a2 a3 a4 true) else (if a3 > a4 then (pylonref16_Whole.j0 k a0 a1 a2 a3 a4 true) else (pylonref16_Whole.j0 k a0 a1 a2 a3 a4 (decide (a4 > 40000))))) else (pylonref16_Whole.j0 k a0 a1 a2 a3 a4 true))))) else (pylonref16_Whole.j0 k a0 a1 a2 a3 a4 true)) = some (r1, r2) := H
      have A9 := Aside0.mk A90
      clear A90
      by_cases c10 : t130 = true
      · subst c10
        have H1 : (if a0 < 0 then (pylonref16_Whole.j0 k a0 a1 a2 a3 a4 true) else (if a0 > 253402300799 then (pylonref16_Whole.j0 k a0 a1 a2 a3 a4 true) else (if (wrap64 (60 * a1)) = 0 then (none) else (if (Int.tmod a0 (wrap64 (60 * a1))) = 0 then (if a3 < 0 then (pylonref16_Whole.j0 k a0 a1 a2 a3 a4 true) else (if a3 > a4 then (pylonref16_Whole.j0 k a0 a1 a2 a3 a4 true) else (pylonref16_Whole.j0 k a0 a1 a2 a3 a4 (decide (a4 > 40000))))) else (pylonref16_Whole.j0 k a0 a1 a2 a3 a4 true))))) = some (r1, r2) := by rw [if_pos rfl] at H; exact H
        clear H
        have H := H1
        clear H1
        by_cases c11 : a0 < 0
        · rw [if_pos c11] at H
          have c11b0 : decide (a0 < 0) = true := decide_eq_true c11
          clear c11
          (first | rw [c11b0] | (simp only [i64_w, i32_w]; rw [c11b0]) | skip)
          have H' := Aside0.mk H
          clear H
          go_wp2_with (first | ((with_reducible refine gate_callee (f := 72) rfl ?_); refine goesL_ (some 16) rfl rfl Try.func72 (by kernel_rfl) rfl #[.int .i64 a1] rfl (by (try simp only [List.map_toArray, List.map_cons, List.map_nil]); first | done | rfl | (simp only [List.length_drop, List.length_take]; rfl)) ?_; (with_reducible refine (pylonref16_length.calls a1 true _ A7.out).mono ?_); rintro e w' ⟨rfl, ⟨nd, rfl⟩⟩; refine ⟨_, rfl, ?_⟩) | (go_at_call 72; (with_reducible refine (pylonref16_length.calls a2 true _ A9.out).mono ?_); rintro e w' ⟨rfl, ⟨nd, rfl⟩⟩))
          go_meet
          case rel => exact ⟨_, (true), (by first | rfl | (simp; done) | (simp [*]; done)), H', ⟨by first | omega | exact Nat.le_refl _⟩, ⟨by repeat (first | (with_reducible first | exact HB.out | apply below_alloc | apply pw_below_drewN | apply below_drew1) | exact HB.out)⟩⟩
        · rw [if_neg c11] at H
          have c11b0 : decide (a0 < 0) = false := decide_eq_false c11
          clear c11
          (first | rw [c11b0] | (simp only [i64_w, i32_w]; rw [c11b0]) | skip)
          by_cases c12 : a0 > 253402300799
          · rw [if_pos c12] at H
            have c12b0 : decide (253402300799 < a0) = true := decide_eq_true c12
            clear c12
            have H' := Aside0.mk H
            clear H
            go_wp2_with (first | ((with_reducible refine gate_callee (f := 72) rfl ?_); refine goesL_ (some 16) rfl rfl Try.func72 (by kernel_rfl) rfl #[.int .i64 a1] rfl (by (try simp only [List.map_toArray, List.map_cons, List.map_nil]); first | done | rfl | (simp only [List.length_drop, List.length_take]; rfl)) ?_; (with_reducible refine (pylonref16_length.calls a1 true _ A7.out).mono ?_); rintro e w' ⟨rfl, ⟨nd, rfl⟩⟩; refine ⟨_, rfl, ?_⟩) | (go_at_call 72; (with_reducible refine (pylonref16_length.calls a2 true _ A9.out).mono ?_); rintro e w' ⟨rfl, ⟨nd, rfl⟩⟩))
            go_meet
            case rel => exact ⟨_, (true), (by first | rfl | (simp; done) | (simp [*]; done)), H', ⟨by first | omega | exact Nat.le_refl _⟩, ⟨by repeat (first | (with_reducible first | exact HB.out | apply below_alloc | apply pw_below_drewN | apply below_drew1) | exact HB.out)⟩⟩
          · rw [if_neg c12] at H
            have c12b0 : decide (253402300799 < a0) = false := decide_eq_false c12
            clear c12
            by_cases c13 : (wrap64 (60 * a1)) = 0
            · rw [if_pos c13] at H
              exact absurd H (by simp)
            · rw [if_neg c13] at H
              have c13b0 : ((wrap64 (60 * a1)) == 0) = false := beq_eq_false_iff_ne.mpr c13
              have c13b1 : ((wrap64 (60 * a1)) != 0) = true := bne_iff_ne.mpr c13
              by_cases c14 : (Int.tmod a0 (wrap64 (60 * a1))) = 0
              · rw [if_pos c14] at H
                have c14b0 : ((Int.tmod a0 (wrap64 (60 * a1))) == 0) = true := beq_iff_eq.mpr c14
                have c14b1 : ((Int.tmod a0 (wrap64 (60 * a1))) != 0) = false := bne_eq_false_iff_eq.mpr c14
                clear c14
                by_cases c15 : a3 < 0
                · rw [if_pos c15] at H
                  have c15b0 : decide (a3 < 0) = true := decide_eq_true c15
                  clear c15
                  have H' := Aside0.mk H
                  clear H
                  go_wp2_with (first | ((with_reducible refine gate_callee (f := 72) rfl ?_); refine goesL_ (some 16) rfl rfl Try.func72 (by kernel_rfl) rfl #[.int .i64 a1] rfl (by (try simp only [List.map_toArray, List.map_cons, List.map_nil]); first | done | rfl | (simp only [List.length_drop, List.length_take]; rfl)) ?_; (with_reducible refine (pylonref16_length.calls a1 true _ A7.out).mono ?_); rintro e w' ⟨rfl, ⟨nd, rfl⟩⟩; refine ⟨_, rfl, ?_⟩) | (go_at_call 72; (with_reducible refine (pylonref16_length.calls a2 true _ A9.out).mono ?_); rintro e w' ⟨rfl, ⟨nd, rfl⟩⟩))
                  go_meet
                  case rel => exact ⟨_, (true), (by first | rfl | (simp; done) | (simp [*]; done)), H', ⟨by first | omega | exact Nat.le_refl _⟩, ⟨by repeat (first | (with_reducible first | exact HB.out | apply below_alloc | apply pw_below_drewN | apply below_drew1) | exact HB.out)⟩⟩
                · rw [if_neg c15] at H
                  have c15b0 : decide (a3 < 0) = false := decide_eq_false c15
                  clear c15
                  by_cases c16 : a3 > a4
                  · rw [if_pos c16] at H
                    have c16b0 : decide (a4 < a3) = true := decide_eq_true c16
                    clear c16
                    have H' := Aside0.mk H
                    clear H
                    go_wp2_with (first | ((with_reducible refine gate_callee (f := 72) rfl ?_); refine goesL_ (some 16) rfl rfl Try.func72 (by kernel_rfl) rfl #[.int .i64 a1] rfl (by (try simp only [List.map_toArray, List.map_cons, List.map_nil]); first | done | rfl | (simp only [List.length_drop, List.length_take]; rfl)) ?_; (with_reducible refine (pylonref16_length.calls a1 true _ A7.out).mono ?_); rintro e w' ⟨rfl, ⟨nd, rfl⟩⟩; refine ⟨_, rfl, ?_⟩) | (go_at_call 72; (with_reducible refine (pylonref16_length.calls a2 true _ A9.out).mono ?_); rintro e w' ⟨rfl, ⟨nd, rfl⟩⟩))
                    go_meet
                    case rel => exact ⟨_, (true), (by first | rfl | (simp; done) | (simp [*]; done)), H', ⟨by first | omega | exact Nat.le_refl _⟩, ⟨by repeat (first | (with_reducible first | exact HB.out | apply below_alloc | apply pw_below_drewN | apply below_drew1) | exact HB.out)⟩⟩
                  · rw [if_neg c16] at H
                    have c16b0 : decide (a4 < a3) = false := decide_eq_false c16
                    clear c16
                    have H' := Aside0.mk H
                    clear H
                    go_wp2_with (first | ((with_reducible refine gate_callee (f := 72) rfl ?_); refine goesL_ (some 16) rfl rfl Try.func72 (by kernel_rfl) rfl #[.int .i64 a1] rfl (by (try simp only [List.map_toArray, List.map_cons, List.map_nil]); first | done | rfl | (simp only [List.length_drop, List.length_take]; rfl)) ?_; (with_reducible refine (pylonref16_length.calls a1 true _ A7.out).mono ?_); rintro e w' ⟨rfl, ⟨nd, rfl⟩⟩; refine ⟨_, rfl, ?_⟩) | (go_at_call 72; (with_reducible refine (pylonref16_length.calls a2 true _ A9.out).mono ?_); rintro e w' ⟨rfl, ⟨nd, rfl⟩⟩))
                    go_meet
                    case rel => exact ⟨_, (decide (a4 > 40000)), (by first | rfl | (simp; done) | (simp [*]; done) | (by_cases hdp0_ : a4 > 40000 <;> simp [*] <;> done)), H', ⟨by first | omega | exact Nat.le_refl _⟩, ⟨by repeat (first | (with_reducible first | exact HB.out | apply below_alloc | apply pw_below_drewN | apply below_drew1) | exact HB.out)⟩⟩
              · rw [if_neg c14] at H
                have c14b0 : ((Int.tmod a0 (wrap64 (60 * a1))) == 0) = false := beq_eq_false_iff_ne.mpr c14
                have c14b1 : ((Int.tmod a0 (wrap64 (60 * a1))) != 0) = true := bne_iff_ne.mpr c14
                have H' := Aside0.mk H
                clear H
                go_wp2_with (first | ((with_reducible refine gate_callee (f := 72) rfl ?_); refine goesL_ (some 16) rfl rfl Try.func72 (by kernel_rfl) rfl #[.int .i64 a1] rfl (by (try simp only [List.map_toArray, List.map_cons, List.map_nil]); first | done | rfl | (simp only [List.length_drop, List.length_take]; rfl)) ?_; (with_reducible refine (pylonref16_length.calls a1 true _ A7.out).mono ?_); rintro e w' ⟨rfl, ⟨nd, rfl⟩⟩; refine ⟨_, rfl, ?_⟩) | (go_at_call 72; (with_reducible refine (pylonref16_length.calls a2 true _ A9.out).mono ?_); rintro e w' ⟨rfl, ⟨nd, rfl⟩⟩))
                go_meet
                case rel => exact ⟨_, (true), (by first | rfl | (simp; done) | (simp [*]; done)), H', ⟨by first | omega | exact Nat.le_refl _⟩, ⟨by repeat (first | (with_reducible first | exact HB.out | apply below_alloc | apply pw_below_drewN | apply below_drew1) | exact HB.out)⟩⟩
      · replace c10 := Bool.eq_false_iff.mpr c10
        subst c10
        have H1 : (pylonref16_Whole.j0 k a0 a1 a2 a3 a4 true) = some (r1, r2) := by rw [if_neg (show ¬ (false = true) by decide)] at H; exact H
        clear H
        have H := H1
        clear H1
        have H' := Aside0.mk H
        clear H
        go_wp2_with (first | ((with_reducible refine gate_callee (f := 72) rfl ?_); refine goesL_ (some 16) rfl rfl Try.func72 (by kernel_rfl) rfl #[.int .i64 a1] rfl (by (try simp only [List.map_toArray, List.map_cons, List.map_nil]); first | done | rfl | (simp only [List.length_drop, List.length_take]; rfl)) ?_; (with_reducible refine (pylonref16_length.calls a1 true _ A7.out).mono ?_); rintro e w' ⟨rfl, ⟨nd, rfl⟩⟩; refine ⟨_, rfl, ?_⟩) | (go_at_call 72; (with_reducible refine (pylonref16_length.calls a2 false _ A9.out).mono ?_); rintro e w' ⟨rfl, ⟨nd, rfl⟩⟩))
        go_meet
        case rel => exact ⟨_, (true), (by first | rfl | (simp; done) | (simp [*]; done)), H', ⟨by first | omega | exact Nat.le_refl _⟩, ⟨by repeat (first | (with_reducible first | exact HB.out | apply below_alloc | apply pw_below_drewN | apply below_drew1) | exact HB.out)⟩⟩
    · replace c8 := Bool.eq_false_iff.mpr c8
      subst c8
      have H1 : (pylonref16_Whole.j0 k a0 a1 a2 a3 a4 true) = some (r1, r2) := by rw [if_neg (show ¬ (false = true) by decide)] at H; exact H
      clear H
      have H := H1
      clear H1
      have H' := Aside0.mk H
      clear H
      go_wp2_with (first | ((with_reducible refine gate_callee (f := 72) rfl ?_); refine goesL_ (some 16) rfl rfl Try.func72 (by kernel_rfl) rfl #[.int .i64 a1] rfl (by (try simp only [List.map_toArray, List.map_cons, List.map_nil]); first | done | rfl | (simp only [List.length_drop, List.length_take]; rfl)) ?_; (with_reducible refine (pylonref16_length.calls a1 false _ A7.out).mono ?_); rintro e w' ⟨rfl, ⟨nd, rfl⟩⟩; refine ⟨_, rfl, ?_⟩))
      go_meet
      case rel => exact ⟨_, (true), (by first | rfl | (simp; done) | (simp [*]; done)), H', ⟨by first | omega | exact Nat.le_refl _⟩, ⟨by repeat (first | (with_reducible first | exact HB.out | apply below_alloc | apply pw_below_drewN | apply below_drew1) | exact HB.out)⟩⟩
  case rest =>
    clear HC6
    try clear c1
    try clear p2
    try clear c4
    try clear p6
    try clear c7
    try clear c8
    try clear c10
    try clear c11
    try clear c11b0
    try clear c12
    try clear c12b0
    try clear c13
    try clear c13b0
    try clear c13b1
    try clear c14
    try clear c14b0
    try clear c14b1
    try clear c15
    try clear c15b0
    try clear c16
    try clear c16b0
    obtain ⟨kq, x50_5, rfl, HA, HJ5, HB⟩ := hcut
    cases kq with
    | zero => exact absurd HA.out (by simp [pylonref16_Whole.j0])
    | succ kj5 =>
      have H := HA.out
      clear HA
      simp only [pylonref16_Whole.j0] at H
      by_cases c17 : x50_5 = true
      · subst c17
        have H1 : (some (([] : List (S90)), 8)) = some (r1, r2) := by rw [if_pos rfl] at H; exact H
        clear H
        have H := H1
        clear H1
        simp only [Option.some.injEq, Prod.mk.injEq] at H
        obtain ⟨rfl, rfl⟩ := H
        go_wp2
        go_ret2
        exact ⟨_, by first | rfl | (simp [errW_none, errW_some] <;> rfl) | (simp [*, errW_none, errW_some] <;> rfl), by first | exact Kd.R_nil _ _ _ _ _ | exact Kd.N_nil _ _ _ _ _ | exact Kd.V_nil _ _ _ _ _ | exact Kd.Q_nil _ _ _ _ _ | exact Kd.S_nil _ _ _ _ _, by repeat (first | (with_reducible first | exact HB.out | apply below_alloc | apply pw_below_drewN | apply below_drew1) | exact HB.out)⟩
      · replace c17 := Bool.eq_false_iff.mpr c17
        subst c17
        have H1 : (pylonref16_Whole.l0 kj5 a0 a1 a4 (mx a1 a2) ([] : List (S90)) a3) = some (r1, r2) := by rw [if_neg (show ¬ (false = true) by decide)] at H; exact H
        clear H
        have H := H1
        clear H1
        obtain ⟨ji18, hji18⟩ : ∃ j_ : Int, (mx a1 a2) = j_ := ⟨_, rfl⟩
        replace H : (pylonref16_Whole.l0 kj5 a0 a1 a4 ji18 ([] : List (S90)) a3) = some (r1, r2) := by first | (rw [hji18] at H; exact H) | (simp only [hji18] at H ⊢; exact H)
        have hji18_ : (if a1 < a2 then a2 else a1) = ji18 := hji18
        have H' := Aside0.mk H
        clear H
        go_wp2
        go_loopg [13, 14] kj5 (fun kq v13 v14 w' => ∃ (x13_2 : List (S90)) (x14_2 : Int), v14 = .int .i64 x14_2 ∧ Aside0 (pylonref16_Whole.l0 kq a0 a1 a4 ji18 x13_2 x14_2 = some (r1, r2)) ∧ Aside0 (kq ≤ kj5) ∧ Aside0 (Kd.R k90 90 w' w.heap.size (fun _ => True) v13 x13_2) ∧ Aside0 (Below w.heap.size w w'))
        case atStart => exact ⟨(([] : List (S90))), (a3), (by first | rfl | (simp; done) | (simp [*]; done)), H', ⟨Nat.le_refl _⟩, ⟨by first | exact Kd.R_nil _ _ _ _ _ | exact Kd.N_nil _ _ _ _ _ | exact Kd.V_nil _ _ _ _ _ | exact Kd.Q_nil _ _ _ _ _ | exact Kd.S_nil _ _ _ _ _⟩, ⟨by repeat (first | (with_reducible first | exact HB.out | apply below_alloc | apply pw_below_drewN | apply below_drew1) | exact HB.out)⟩⟩
        case round =>
          clear H'
          try clear c1
          try clear p2
          try clear c4
          try clear p6
          try clear c7
          try clear c8
          try clear c10
          try clear c11
          try clear c11b0
          try clear c12
          try clear c12b0
          try clear c13
          try clear c13b0
          try clear c13b1
          try clear c14
          try clear c14b0
          try clear c14b1
          try clear c15
          try clear c15b0
          try clear c16
          try clear c16b0
          try clear c17
          try clear p2
          try clear p6
          obtain ⟨x13_2, x14_2, rfl, HA, HK2, HO_13, HB⟩ := hrel
          cases gk with
          | zero => exact absurd HA.out (by simp [pylonref16_Whole.l0])
          | succ k2 =>
            have H := HA.out
            clear HA
            simp only [pylonref16_Whole.l0] at H
            by_cases c19 : a1 = 0
            · rw [if_pos c19] at H
              exact absurd H (by simp)
            · rw [if_neg c19] at H
              have c19b0 : (a1 == 0) = false := beq_eq_false_iff_ne.mpr c19
              have c19b1 : (a1 != 0) = true := bne_iff_ne.mpr c19
              by_cases c20 : (wrap64 (x14_2 + (wrap64 (Int.tdiv ji18 a1)))) ≤ a4
              · rw [if_pos c20] at H
                have c20b0 : decide ((wrap64 (x14_2 + (wrap64 (Int.tdiv ji18 a1)))) ≤ a4) = true := decide_eq_true c20
                clear c20
                by_cases c21 : (wrap64 (60 * ji18)) = 0
                · rw [if_pos c21] at H
                  exact absurd H (by simp)
                · rw [if_neg c21] at H
                  have c21b0 : ((wrap64 (60 * ji18)) == 0) = false := beq_eq_false_iff_ne.mpr c21
                  have c21b1 : ((wrap64 (60 * ji18)) != 0) = true := bne_iff_ne.mpr c21
                  by_cases c22 : (Int.tmod (wrap64 (a0 + (wrap64 ((wrap64 (60 * a1)) * x14_2)))) (wrap64 (60 * ji18))) = 0
                  · rw [if_pos c22] at H
                    have c22b0 : ((Int.tmod (wrap64 (a0 + (wrap64 ((wrap64 (60 * a1)) * x14_2)))) (wrap64 (60 * ji18))) == 0) = true := beq_iff_eq.mpr c22
                    have c22b1 : ((Int.tmod (wrap64 (a0 + (wrap64 ((wrap64 (60 * a1)) * x14_2)))) (wrap64 (60 * ji18))) != 0) = false := bne_eq_false_iff_eq.mpr c22
                    clear c22
                    by_cases c23 : x13_2.length < 8796093022208
                    · rw [if_pos c23] at H
                      have LMc23 := Aside0.mk c23
                      clear c23
                      obtain ⟨y131, hy131⟩ : ∃ y_ : List (S90), y_ = (x13_2 ++ [(⟨x14_2, wrap64 (x14_2 + (wrap64 (Int.tdiv ji18 a1)))⟩ : S90)]) := ⟨_, rfl⟩
                      replace H : (pylonref16_Whole.l0 k2 a0 a1 a4 ji18 y131 (wrap64 (x14_2 + 1))) = some (r1, r2) := by first | (rw [hy131]; with_reducible exact H) | (have H2_ := (Option.bind_some _ _).symm.trans H; rw [hy131]; with_reducible exact H2_) | (have H2_ := (Option.bind_some _ _).symm.trans H; with_reducible exact H2_) | with_reducible exact H | (rw [hy131]; exact H) | exact H
                      have Ny131 := Aside0.mk hy131
                      clear hy131
                      have H' := Aside0.mk H
                      clear H
                      go_wp2_with (first | ((with_reducible refine gate_builtin (b := .append) (xs := #[.tmp 74, .tmp 82]) rfl ?_); at_builtin; refine Kd.R_append k90 (w0 := w) w.heap.size rfl (.tmp 74) (.tmp 82) 83 90 (.agg #[(.int .i64 0), (.int .i64 0)]) 16 rfl Try.underlying83 info90 rfl (by decide) (by omega) u13 x13_2 (⟨x14_2, wrap64 (x14_2 + (wrap64 (Int.tdiv ji18 a1)))⟩ : S90) [.int .i64 x14_2, .int .i64 (wrap64 (x14_2 + (wrap64 (Int.tdiv ji18 a1))))] (fun _ => True) (fun _ => False) rfl rfl ?aP (fun _ hk => hk.elim) ?aF ?aO ?aB ?aS ?aL ?_; (case aP => exact k90_mkM _ _ _ (⟨x14_2, wrap64 (x14_2 + (wrap64 (Int.tdiv ji18 a1)))⟩ : S90)); (case aB => exact (by repeat (first | (with_reducible first | exact HB.out | apply below_alloc | apply pw_below_drewN | apply below_drew1) | exact HB.out))); (case aF => exact (fun _ _ => trivial)); (case aO => exact (by (with_reducible repeat (first | apply Kd.R_alloc | apply Kd.R_drewN | apply Kd.R_drew)); exact HO_13.out)); (case aS => exact (below_size (by repeat (first | (with_reducible first | exact HB.out | apply below_alloc | apply pw_below_drewN | apply below_drew1) | exact HB.out)))); (case aL => have := LMc23.out; omega); intro v132 w24 ho hb hg hat; rw [← Ny131.out] at ho; have n0_ := Aside0.mk (hb); have n1_ := Aside0.mk (ho); clear HB; clear HO_13; have HB := n0_; have HO133 := n1_; clear n0_ n1_; clear ho hb hg hat))
                      go_roundg k2
                      case measure => have := HJ5.out; have := HK2.out; omega
                      case rel => exact ⟨(y131), (wrap64 (x14_2 + 1)), (by first | rfl | (simp; done) | (simp [*]; done)), H', ⟨by have := HJ5.out; have := HK2.out; omega⟩, ⟨by (with_reducible repeat (first | apply Kd.R_alloc | apply Kd.R_drewN | apply Kd.R_drew)); exact HO133.out⟩, ⟨by repeat (first | (with_reducible first | exact HB.out | apply below_alloc | apply pw_below_drewN | apply below_drew1) | exact HB.out)⟩⟩
                    · rw [if_neg c23] at H
                      exact absurd H (by simp)
                  · rw [if_neg c22] at H
                    have c22b0 : ((Int.tmod (wrap64 (a0 + (wrap64 ((wrap64 (60 * a1)) * x14_2)))) (wrap64 (60 * ji18))) == 0) = false := beq_eq_false_iff_ne.mpr c22
                    have c22b1 : ((Int.tmod (wrap64 (a0 + (wrap64 ((wrap64 (60 * a1)) * x14_2)))) (wrap64 (60 * ji18))) != 0) = true := bne_iff_ne.mpr c22
                    have H' := Aside0.mk H
                    clear H
                    go_wp2
                    go_roundg k2
                    case measure => have := HJ5.out; have := HK2.out; omega
                    case rel => exact ⟨(x13_2), (wrap64 (x14_2 + 1)), (by first | rfl | (simp; done) | (simp [*]; done)), H', ⟨by have := HJ5.out; have := HK2.out; omega⟩, ⟨by (with_reducible repeat (first | apply Kd.R_alloc | apply Kd.R_drewN | apply Kd.R_drew)); exact HO_13.out⟩, ⟨by repeat (first | (with_reducible first | exact HB.out | apply below_alloc | apply pw_below_drewN | apply below_drew1) | exact HB.out)⟩⟩
              · rw [if_neg c20] at H
                have c20b0 : decide ((wrap64 (x14_2 + (wrap64 (Int.tdiv ji18 a1)))) ≤ a4) = false := decide_eq_false c20
                clear c20
                simp only [Option.some.injEq, Prod.mk.injEq] at H
                obtain ⟨rfl, rfl⟩ := H
                go_wp2
                go_ret2
                exact ⟨_, by first | rfl | (simp [errW_none, errW_some] <;> rfl) | (simp only [← hji18]; first | rfl | (simp [errW_none, errW_some] <;> rfl)) | (simp [*, errW_none, errW_some] <;> rfl), by (with_reducible repeat (first | apply Kd.R_alloc | apply Kd.R_drewN | apply Kd.R_drew)); exact HO_13.out, by repeat (first | (with_reducible first | exact HB.out | apply below_alloc | apply pw_below_drewN | apply below_drew1) | exact HB.out)⟩

/-! ### demand_Whole: function 49 -/
mutual
def demand_Whole.j0 : Nat → Int → Int → Int → Int → Int → Bool → Option ((List (S90)) × Int)
  | 0, _, _, _, _, _, _ => none
  | k + 1, x0, x1, x2, x3, x4, x50 => if x50 = true then (some (([] : List (S90)), 8)) else (if x1 = 0 then (none) else (if (wrap64 (60 * x1)) = 0 then (none) else (if (mx 1 (wrap64 (Int.tdiv x2 x1))) = 0 then (none) else (demand_Whole.l0 k (wrap64 (x3 + (Int.tmod (wrap64 ((mx 1 (wrap64 (Int.tdiv x2 x1))) - (Int.tmod (wrap64 ((wrap64 (Int.tdiv x0 (wrap64 (60 * x1)))) + x3)) (mx 1 (wrap64 (Int.tdiv x2 x1)))))) (mx 1 (wrap64 (Int.tdiv x2 x1)))))) x4 (mx 1 (wrap64 (Int.tdiv x2 x1))) ([] : List (S90))))))
def demand_Whole.l0 : Nat → Int → Int → Int → List (S90) → Option ((List (S90)) × Int)
  | 0, _, _, _, _ => none
  | k + 1, x3, x4, x12, x14 => if (wrap64 (x3 + x12)) ≤ x4 then (if x14.length < 8796093022208 then (demand_Whole.l0 k (wrap64 (x3 + x12)) x4 x12 (x14 ++ [(⟨x3, wrap64 (x3 + x12)⟩ : S90)])) else (none)) else (some (x14, 0))
end
def demand_Whole.f (k : Nat) (a0 : Int) (a1 : Int) (a2 : Int) (a3 : Int) (a4 : Int) : Option ((List (S90)) × Int) := (demand_length.f a1).bind fun t134 => (if t134 = true then ((demand_length.f a2).bind fun t135 => (if t135 = true then (if a0 < 0 then (demand_Whole.j0 k a0 a1 a2 a3 a4 true) else (if a0 > 253402300799 then (demand_Whole.j0 k a0 a1 a2 a3 a4 true) else (if (wrap64 (60 * a1)) = 0 then (none) else (if (Int.tmod a0 (wrap64 (60 * a1))) = 0 then (if a3 < 0 then (demand_Whole.j0 k a0 a1 a2 a3 a4 true) else (if a3 > a4 then (demand_Whole.j0 k a0 a1 a2 a3 a4 true) else (demand_Whole.j0 k a0 a1 a2 a3 a4 (decide (a4 > 40000))))) else (demand_Whole.j0 k a0 a1 a2 a3 a4 true))))) else (demand_Whole.j0 k a0 a1 a2 a3 a4 true))) else (demand_Whole.j0 k a0 a1 a2 a3 a4 true))
theorem demand_Whole.mono_l : ∀ k, (∀ y0 y1 y2 y3 y4 y5, LeO (demand_Whole.j0 k y0 y1 y2 y3 y4 y5) (demand_Whole.j0 (k + 1) y0 y1 y2 y3 y4 y5)) ∧ (∀ y0 y1 y2 y3, LeO (demand_Whole.l0 k y0 y1 y2 y3) (demand_Whole.l0 (k + 1) y0 y1 y2 y3))
  | 0 => ⟨fun _ _ _ _ _ _ r h => by simp [demand_Whole.j0] at h, fun _ _ _ _ r h => by simp [demand_Whole.l0] at h⟩
  | k + 1 => by
    obtain ⟨ih0, ih1⟩ := demand_Whole.mono_l k
    refine ⟨?_, ?_⟩
    · intro y0 y1 y2 y3 y4 y5
      unfold demand_Whole.j0
      repeat' first
      | (with_reducible exact ih0 _ _ _ _ _ _)
      | (with_reducible exact ih1 _ _ _ _)
      | (with_reducible exact LeO.refl _)
      | (with_reducible exact LeO.none _)
      | (with_reducible refine LeO.ite ?_ ?_)
      | (with_reducible refine LeO.bind ?_ (fun _ => ?_))
      | exact ih0 _ _ _ _ _ _
      | exact ih1 _ _ _ _
      | exact LeO.none _
      | refine LeO.ite ?_ ?_
      | refine LeO.bind ?_ (fun _ => ?_)
    · intro y0 y1 y2 y3
      unfold demand_Whole.l0
      repeat' first
      | (with_reducible exact ih0 _ _ _ _ _ _)
      | (with_reducible exact ih1 _ _ _ _)
      | (with_reducible exact LeO.refl _)
      | (with_reducible exact LeO.none _)
      | (with_reducible refine LeO.ite ?_ ?_)
      | (with_reducible refine LeO.bind ?_ (fun _ => ?_))
      | exact ih0 _ _ _ _ _ _
      | exact ih1 _ _ _ _
      | exact LeO.none _
      | refine LeO.ite ?_ ?_
      | refine LeO.bind ?_ (fun _ => ?_)
theorem demand_Whole.mono : ∀ a0 a1 a2 a3 a4 k, LeO (demand_Whole.f k a0 a1 a2 a3 a4) (demand_Whole.f (k + 1) a0 a1 a2 a3 a4) := by
  intro a0 a1 a2 a3 a4 k
  obtain ⟨ih0, ih1⟩ := demand_Whole.mono_l k
  unfold demand_Whole.f
  repeat' first
      | (with_reducible exact ih0 _ _ _ _ _ _)
      | (with_reducible exact ih1 _ _ _ _)
      | (with_reducible exact LeO.refl _)
      | (with_reducible exact LeO.none _)
      | (with_reducible refine LeO.ite ?_ ?_)
      | (with_reducible refine LeO.bind ?_ (fun _ => ?_))
      | exact ih0 _ _ _ _ _ _
      | exact ih1 _ _ _ _
      | exact LeO.none _
      | refine LeO.ite ?_ ?_
      | refine LeO.bind ?_ (fun _ => ?_)
set_option maxHeartbeats 8000000 in
set_option maxRecDepth 100000 in
theorem demand_Whole.calls (k : Nat) (a0 : Int) (a1 : Int) (a2 : Int) (a3 : Int) (a4 : Int) (r1 : List (S90)) (r2 : Int) (w : World) (h : demand_Whole.f k a0 a1 a2 a3 a4 = some (r1, r2)) :
    Calls Try.prog 49 #[.int .i64 a0, .int .i64 a1, .int .i64 a2, .int .i64 a3, .int .i64 a4] w fun e w' => ∃ v0_ : Value, e = .returned (.tuple #[v0_, .int .i64 r2]) ∧ Kd.R k90 90 w' w.heap.size (fun _ => True) v0_ r1 ∧ Below w.heap.size w w' := by
  have hu90 := Try.underlying90
  have HB := Aside0.mk (Below.refl w.heap.size w)
  have H : ((demand_length.f a1).bind fun t134 => (if t134 = true then ((demand_length.f a2).bind fun t135 => (if t135 = true then (if a0 < 0 then (demand_Whole.j0 k a0 a1 a2 a3 a4 true) else (if a0 > 253402300799 then (demand_Whole.j0 k a0 a1 a2 a3 a4 true) else (if (wrap64 (60 * a1)) = 0 then (none) else (if (Int.tmod a0 (wrap64 (60 * a1))) = 0 then (if a3 < 0 then (demand_Whole.j0 k a0 a1 a2 a3 a4 true) else (if a3 > a4 then (demand_Whole.j0 k a0 a1 a2 a3 a4 true) else (demand_Whole.j0 k a0 a1 a2 a3 a4 (decide (a4 > 40000))))) else (demand_Whole.j0 k a0 a1 a2 a3 a4 true))))) else (demand_Whole.j0 k a0 a1 a2 a3 a4 true))) else (demand_Whole.j0 k a0 a1 a2 a3 a4 true))) = some (r1, r2) := h
  clear h
  have HC6 := Aside0.mk H
  clear H
  go_enter Try.func49, Try.ntmps49
  go_upto_region 1 with (fail)
  go_cut [50] (fun v50 wc => ∃ (kq : Nat) (x50_5 : Bool), v50 = .bool x50_5 ∧ Aside0 (demand_Whole.j0 kq a0 a1 a2 a3 a4 x50_5 = some (r1, r2)) ∧ Aside0 (kq ≤ k) ∧ Aside0 (Below w.heap.size w wc))
  case first =>
    have H := HC6.out
    clear HC6
    replace H := Option.bind_eq_some_iff.mp H
    obtain ⟨t134, A70, H⟩ := H
    replace H : (if t134 = true then ((demand_length.f a2).bind fun t135 => (if t135 = true then (if a0 < 0 then (demand_Whole.j0 k a0 a1 a2 a3 a4 true) else (if a0 > 253402300799 then (demand_Whole.j0 k a0 a1 a2 a3 a4 true) else (if (wrap64 (60 * a1)) = 0 then (none) else (if (Int.tmod a0 (wrap64 (60 * a1))) = 0 then (if a3 < 0 then (demand_Whole.j0 k a0 a1 a2 a3 a4 true) else (if a3 > a4 then (demand_Whole.j0 k a0 a1 a2 a3 a4 true) else (demand_Whole.j0 k a0 a1 a2 a3 a4 (decide (a4 > 40000))))) else (demand_Whole.j0 k a0 a1 a2 a3 a4 true))))) else (demand_Whole.j0 k a0 a1 a2 a3 a4 true))) else (demand_Whole.j0 k a0 a1 a2 a3 a4 true)) = some (r1, r2) := H
    have A7 := Aside0.mk A70
    clear A70
    by_cases c8 : t134 = true
    · subst c8
      have H1 : ((demand_length.f a2).bind fun t135 => (if t135 = true then (if a0 < 0 then (demand_Whole.j0 k a0 a1 a2 a3 a4 true) else (if a0 > 253402300799 then (demand_Whole.j0 k a0 a1 a2 a3 a4 true) else (if (wrap64 (60 * a1)) = 0 then (none) else (if (Int.tmod a0 (wrap64 (60 * a1))) = 0 then (if a3 < 0 then (demand_Whole.j0 k a0 a1 a2 a3 a4 true) else (if a3 > a4 then (demand_Whole.j0 k a0 a1 a2 a3 a4 true) else (demand_Whole.j0 k a0 a1 a2 a3 a4 (decide (a4 > 40000))))) else (demand_Whole.j0 k a0 a1 a2 a3 a4 true))))) else (demand_Whole.j0 k a0 a1 a2 a3 a4 true))) = some (r1, r2) := by rw [if_pos rfl] at H; exact H
      clear H
      have H := H1
      clear H1
      replace H := Option.bind_eq_some_iff.mp H
      obtain ⟨t135, A90, H⟩ := H
      replace H : (if t135 = true then (if a0 < 0 then (demand_Whole.j0 k a0 a1 a2 a3 a4 true) else (if a0 > 253402300799 then (demand_Whole.j0 k a0 a1 a2 a3 a4 true) else (if (wrap64 (60 * a1)) = 0 then (none) else (if (Int.tmod a0 (wrap64 (60 * a1))) = 0 then (if a3 < 0 then (demand_Whole.j0 k a0 a1 a2 a3 a4 true) else (if a3 > a4 then (demand_Whole.j0 k a0 a1 a2 a3 a4 true) else (demand_Whole.j0 k a0 a1 a2 a3 a4 (decide (a4 > 40000))))) else (demand_Whole.j0 k a0 a1 a2 a3 a4 true))))) else (demand_Whole.j0 k a0 a1 a2 a3 a4 true)) = some (r1, r2) := H
      have A9 := Aside0.mk A90
      clear A90
      by_cases c10 : t135 = true
      · subst c10
        have H1 : (if a0 < 0 then (demand_Whole.j0 k a0 a1 a2 a3 a4 true) else (if a0 > 253402300799 then (demand_Whole.j0 k a0 a1 a2 a3 a4 true) else (if (wrap64 (60 * a1)) = 0 then (none) else (if (Int.tmod a0 (wrap64 (60 * a1))) = 0 then (if a3 < 0 then (demand_Whole.j0 k a0 a1 a2 a3 a4 true) else (if a3 > a4 then (demand_Whole.j0 k a0 a1 a2 a3 a4 true) else (demand_Whole.j0 k a0 a1 a2 a3 a4 (decide (a4 > 40000))))) else (demand_Whole.j0 k a0 a1 a2 a3 a4 true))))) = some (r1, r2) := by rw [if_pos rfl] at H; exact H
        clear H
        have H := H1
        clear H1
        by_cases c11 : a0 < 0
        · rw [if_pos c11] at H
          have c11b0 : decide (a0 < 0) = true := decide_eq_true c11
          clear c11
          (first | rw [c11b0] | (simp only [i64_w, i32_w]; rw [c11b0]) | skip)
          have H' := Aside0.mk H
          clear H
          go_wp2_with (first | ((with_reducible refine gate_callee (f := 75) rfl ?_); refine goesL_ (some 16) rfl rfl Try.func75 (by kernel_rfl) rfl #[.int .i64 a1] rfl (by (try simp only [List.map_toArray, List.map_cons, List.map_nil]); first | done | rfl | (simp only [List.length_drop, List.length_take]; rfl)) ?_; (with_reducible refine (demand_length.calls a1 true _ A7.out).mono ?_); rintro e w' ⟨rfl, ⟨nd, rfl⟩⟩; refine ⟨_, rfl, ?_⟩) | (go_at_call 75; (with_reducible refine (demand_length.calls a2 true _ A9.out).mono ?_); rintro e w' ⟨rfl, ⟨nd, rfl⟩⟩))
          go_meet
          case rel => exact ⟨_, (true), (by first | rfl | (simp; done) | (simp [*]; done)), H', ⟨by first | omega | exact Nat.le_refl _⟩, ⟨by repeat (first | (with_reducible first | exact HB.out | apply below_alloc | apply pw_below_drewN | apply below_drew1) | exact HB.out)⟩⟩
        · rw [if_neg c11] at H
          have c11b0 : decide (a0 < 0) = false := decide_eq_false c11
          clear c11
          (first | rw [c11b0] | (simp only [i64_w, i32_w]; rw [c11b0]) | skip)
          by_cases c12 : a0 > 253402300799
          · rw [if_pos c12] at H
            have c12b0 : decide (253402300799 < a0) = true := decide_eq_true c12
            clear c12
            have H' := Aside0.mk H
            clear H
            go_wp2_with (first | ((with_reducible refine gate_callee (f := 75) rfl ?_); refine goesL_ (some 16) rfl rfl Try.func75 (by kernel_rfl) rfl #[.int .i64 a1] rfl (by (try simp only [List.map_toArray, List.map_cons, List.map_nil]); first | done | rfl | (simp only [List.length_drop, List.length_take]; rfl)) ?_; (with_reducible refine (demand_length.calls a1 true _ A7.out).mono ?_); rintro e w' ⟨rfl, ⟨nd, rfl⟩⟩; refine ⟨_, rfl, ?_⟩) | (go_at_call 75; (with_reducible refine (demand_length.calls a2 true _ A9.out).mono ?_); rintro e w' ⟨rfl, ⟨nd, rfl⟩⟩))
            go_meet
            case rel => exact ⟨_, (true), (by first | rfl | (simp; done) | (simp [*]; done)), H', ⟨by first | omega | exact Nat.le_refl _⟩, ⟨by repeat (first | (with_reducible first | exact HB.out | apply below_alloc | apply pw_below_drewN | apply below_drew1) | exact HB.out)⟩⟩
          · rw [if_neg c12] at H
            have c12b0 : decide (253402300799 < a0) = false := decide_eq_false c12
            clear c12
            by_cases c13 : (wrap64 (60 * a1)) = 0
            · rw [if_pos c13] at H
              exact absurd H (by simp)
            · rw [if_neg c13] at H
              have c13b0 : ((wrap64 (60 * a1)) == 0) = false := beq_eq_false_iff_ne.mpr c13
              have c13b1 : ((wrap64 (60 * a1)) != 0) = true := bne_iff_ne.mpr c13
              by_cases c14 : (Int.tmod a0 (wrap64 (60 * a1))) = 0
              · rw [if_pos c14] at H
                have c14b0 : ((Int.tmod a0 (wrap64 (60 * a1))) == 0) = true := beq_iff_eq.mpr c14
                have c14b1 : ((Int.tmod a0 (wrap64 (60 * a1))) != 0) = false := bne_eq_false_iff_eq.mpr c14
                clear c14
                by_cases c15 : a3 < 0
                · rw [if_pos c15] at H
                  have c15b0 : decide (a3 < 0) = true := decide_eq_true c15
                  clear c15
                  have H' := Aside0.mk H
                  clear H
                  go_wp2_with (first | ((with_reducible refine gate_callee (f := 75) rfl ?_); refine goesL_ (some 16) rfl rfl Try.func75 (by kernel_rfl) rfl #[.int .i64 a1] rfl (by (try simp only [List.map_toArray, List.map_cons, List.map_nil]); first | done | rfl | (simp only [List.length_drop, List.length_take]; rfl)) ?_; (with_reducible refine (demand_length.calls a1 true _ A7.out).mono ?_); rintro e w' ⟨rfl, ⟨nd, rfl⟩⟩; refine ⟨_, rfl, ?_⟩) | (go_at_call 75; (with_reducible refine (demand_length.calls a2 true _ A9.out).mono ?_); rintro e w' ⟨rfl, ⟨nd, rfl⟩⟩))
                  go_meet
                  case rel => exact ⟨_, (true), (by first | rfl | (simp; done) | (simp [*]; done)), H', ⟨by first | omega | exact Nat.le_refl _⟩, ⟨by repeat (first | (with_reducible first | exact HB.out | apply below_alloc | apply pw_below_drewN | apply below_drew1) | exact HB.out)⟩⟩
                · rw [if_neg c15] at H
                  have c15b0 : decide (a3 < 0) = false := decide_eq_false c15
                  clear c15
                  by_cases c16 : a3 > a4
                  · rw [if_pos c16] at H
                    have c16b0 : decide (a4 < a3) = true := decide_eq_true c16
                    clear c16
                    have H' := Aside0.mk H
                    clear H
                    go_wp2_with (first | ((with_reducible refine gate_callee (f := 75) rfl ?_); refine goesL_ (some 16) rfl rfl Try.func75 (by kernel_rfl) rfl #[.int .i64 a1] rfl (by (try simp only [List.map_toArray, List.map_cons, List.map_nil]); first | done | rfl | (simp only [List.length_drop, List.length_take]; rfl)) ?_; (with_reducible refine (demand_length.calls a1 true _ A7.out).mono ?_); rintro e w' ⟨rfl, ⟨nd, rfl⟩⟩; refine ⟨_, rfl, ?_⟩) | (go_at_call 75; (with_reducible refine (demand_length.calls a2 true _ A9.out).mono ?_); rintro e w' ⟨rfl, ⟨nd, rfl⟩⟩))
                    go_meet
                    case rel => exact ⟨_, (true), (by first | rfl | (simp; done) | (simp [*]; done)), H', ⟨by first | omega | exact Nat.le_refl _⟩, ⟨by repeat (first | (with_reducible first | exact HB.out | apply below_alloc | apply pw_below_drewN | apply below_drew1) | exact HB.out)⟩⟩
                  · rw [if_neg c16] at H
                    have c16b0 : decide (a4 < a3) = false := decide_eq_false c16
                    clear c16
                    have H' := Aside0.mk H
                    clear H
                    go_wp2_with (first | ((with_reducible refine gate_callee (f := 75) rfl ?_); refine goesL_ (some 16) rfl rfl Try.func75 (by kernel_rfl) rfl #[.int .i64 a1] rfl (by (try simp only [List.map_toArray, List.map_cons, List.map_nil]); first | done | rfl | (simp only [List.length_drop, List.length_take]; rfl)) ?_; (with_reducible refine (demand_length.calls a1 true _ A7.out).mono ?_); rintro e w' ⟨rfl, ⟨nd, rfl⟩⟩; refine ⟨_, rfl, ?_⟩) | (go_at_call 75; (with_reducible refine (demand_length.calls a2 true _ A9.out).mono ?_); rintro e w' ⟨rfl, ⟨nd, rfl⟩⟩))
                    go_meet
                    case rel => exact ⟨_, (decide (a4 > 40000)), (by first | rfl | (simp; done) | (simp [*]; done) | (by_cases hdp0_ : a4 > 40000 <;> simp [*] <;> done)), H', ⟨by first | omega | exact Nat.le_refl _⟩, ⟨by repeat (first | (with_reducible first | exact HB.out | apply below_alloc | apply pw_below_drewN | apply below_drew1) | exact HB.out)⟩⟩
              · rw [if_neg c14] at H
                have c14b0 : ((Int.tmod a0 (wrap64 (60 * a1))) == 0) = false := beq_eq_false_iff_ne.mpr c14
                have c14b1 : ((Int.tmod a0 (wrap64 (60 * a1))) != 0) = true := bne_iff_ne.mpr c14
                have H' := Aside0.mk H
                clear H
                go_wp2_with (first | ((with_reducible refine gate_callee (f := 75) rfl ?_); refine goesL_ (some 16) rfl rfl Try.func75 (by kernel_rfl) rfl #[.int .i64 a1] rfl (by (try simp only [List.map_toArray, List.map_cons, List.map_nil]); first | done | rfl | (simp only [List.length_drop, List.length_take]; rfl)) ?_; (with_reducible refine (demand_length.calls a1 true _ A7.out).mono ?_); rintro e w' ⟨rfl, ⟨nd, rfl⟩⟩; refine ⟨_, rfl, ?_⟩) | (go_at_call 75; (with_reducible refine (demand_length.calls a2 true _ A9.out).mono ?_); rintro e w' ⟨rfl, ⟨nd, rfl⟩⟩))
                go_meet
                case rel => exact ⟨_, (true), (by first | rfl | (simp; done) | (simp [*]; done)), H', ⟨by first | omega | exact Nat.le_refl _⟩, ⟨by repeat (first | (with_reducible first | exact HB.out | apply below_alloc | apply pw_below_drewN | apply below_drew1) | exact HB.out)⟩⟩
      · replace c10 := Bool.eq_false_iff.mpr c10
        subst c10
        have H1 : (demand_Whole.j0 k a0 a1 a2 a3 a4 true) = some (r1, r2) := by rw [if_neg (show ¬ (false = true) by decide)] at H; exact H
        clear H
        have H := H1
        clear H1
        have H' := Aside0.mk H
        clear H
        go_wp2_with (first | ((with_reducible refine gate_callee (f := 75) rfl ?_); refine goesL_ (some 16) rfl rfl Try.func75 (by kernel_rfl) rfl #[.int .i64 a1] rfl (by (try simp only [List.map_toArray, List.map_cons, List.map_nil]); first | done | rfl | (simp only [List.length_drop, List.length_take]; rfl)) ?_; (with_reducible refine (demand_length.calls a1 true _ A7.out).mono ?_); rintro e w' ⟨rfl, ⟨nd, rfl⟩⟩; refine ⟨_, rfl, ?_⟩) | (go_at_call 75; (with_reducible refine (demand_length.calls a2 false _ A9.out).mono ?_); rintro e w' ⟨rfl, ⟨nd, rfl⟩⟩))
        go_meet
        case rel => exact ⟨_, (true), (by first | rfl | (simp; done) | (simp [*]; done)), H', ⟨by first | omega | exact Nat.le_refl _⟩, ⟨by repeat (first | (with_reducible first | exact HB.out | apply below_alloc | apply pw_below_drewN | apply below_drew1) | exact HB.out)⟩⟩
    · replace c8 := Bool.eq_false_iff.mpr c8
      subst c8
      have H1 : (demand_Whole.j0 k a0 a1 a2 a3 a4 true) = some (r1, r2) := by rw [if_neg (show ¬ (false = true) by decide)] at H; exact H
      clear H
      have H := H1
      clear H1
      have H' := Aside0.mk H
      clear H
      go_wp2_with (first | ((with_reducible refine gate_callee (f := 75) rfl ?_); refine goesL_ (some 16) rfl rfl Try.func75 (by kernel_rfl) rfl #[.int .i64 a1] rfl (by (try simp only [List.map_toArray, List.map_cons, List.map_nil]); first | done | rfl | (simp only [List.length_drop, List.length_take]; rfl)) ?_; (with_reducible refine (demand_length.calls a1 false _ A7.out).mono ?_); rintro e w' ⟨rfl, ⟨nd, rfl⟩⟩; refine ⟨_, rfl, ?_⟩))
      go_meet
      case rel => exact ⟨_, (true), (by first | rfl | (simp; done) | (simp [*]; done)), H', ⟨by first | omega | exact Nat.le_refl _⟩, ⟨by repeat (first | (with_reducible first | exact HB.out | apply below_alloc | apply pw_below_drewN | apply below_drew1) | exact HB.out)⟩⟩
  case rest =>
    clear HC6
    try clear c1
    try clear p2
    try clear c4
    try clear p6
    try clear c7
    try clear c8
    try clear c10
    try clear c11
    try clear c11b0
    try clear c12
    try clear c12b0
    try clear c13
    try clear c13b0
    try clear c13b1
    try clear c14
    try clear c14b0
    try clear c14b1
    try clear c15
    try clear c15b0
    try clear c16
    try clear c16b0
    obtain ⟨kq, x50_5, rfl, HA, HJ5, HB⟩ := hcut
    cases kq with
    | zero => exact absurd HA.out (by simp [demand_Whole.j0])
    | succ kj5 =>
      have H := HA.out
      clear HA
      simp only [demand_Whole.j0] at H
      by_cases c17 : x50_5 = true
      · subst c17
        have H1 : (some (([] : List (S90)), 8)) = some (r1, r2) := by rw [if_pos rfl] at H; exact H
        clear H
        have H := H1
        clear H1
        simp only [Option.some.injEq, Prod.mk.injEq] at H
        obtain ⟨rfl, rfl⟩ := H
        go_wp2
        go_ret2
        exact ⟨_, by first | rfl | (simp [errW_none, errW_some] <;> rfl) | (simp [*, errW_none, errW_some] <;> rfl), by first | exact Kd.R_nil _ _ _ _ _ | exact Kd.N_nil _ _ _ _ _ | exact Kd.V_nil _ _ _ _ _ | exact Kd.Q_nil _ _ _ _ _ | exact Kd.S_nil _ _ _ _ _, by repeat (first | (with_reducible first | exact HB.out | apply below_alloc | apply pw_below_drewN | apply below_drew1) | exact HB.out)⟩
      · replace c17 := Bool.eq_false_iff.mpr c17
        subst c17
        have H1 : (if a1 = 0 then (none) else (if (wrap64 (60 * a1)) = 0 then (none) else (if (mx 1 (wrap64 (Int.tdiv a2 a1))) = 0 then (none) else (demand_Whole.l0 kj5 (wrap64 (a3 + (Int.tmod (wrap64 ((mx 1 (wrap64 (Int.tdiv a2 a1))) - (Int.tmod (wrap64 ((wrap64 (Int.tdiv a0 (wrap64 (60 * a1)))) + a3)) (mx 1 (wrap64 (Int.tdiv a2 a1)))))) (mx 1 (wrap64 (Int.tdiv a2 a1)))))) a4 (mx 1 (wrap64 (Int.tdiv a2 a1))) ([] : List (S90)))))) = some (r1, r2) := by rw [if_neg (show ¬ (false = true) by decide)] at H; exact H
        clear H
        have H := H1
        clear H1
        by_cases c18 : a1 = 0
        · rw [if_pos c18] at H
          exact absurd H (by simp)
        · rw [if_neg c18] at H
          have c18b0 : (a1 == 0) = false := beq_eq_false_iff_ne.mpr c18
          have c18b1 : (a1 != 0) = true := bne_iff_ne.mpr c18
          obtain ⟨ji19, hji19⟩ : ∃ j_ : Int, (mx 1 (wrap64 (Int.tdiv a2 a1))) = j_ := ⟨_, rfl⟩
          replace H : (if (wrap64 (60 * a1)) = 0 then (none) else (if (ji19) = 0 then (none) else (demand_Whole.l0 kj5 (wrap64 (a3 + (Int.tmod (wrap64 ((ji19) - (Int.tmod (wrap64 ((wrap64 (Int.tdiv a0 (wrap64 (60 * a1)))) + a3)) (ji19)))) (ji19)))) a4 ji19 ([] : List (S90))))) = some (r1, r2) := by first | (rw [hji19] at H; exact H) | (simp only [hji19] at H ⊢; exact H)
          have hji19_ : (if 1 < (wrap64 (Int.tdiv a2 a1)) then (wrap64 (Int.tdiv a2 a1)) else 1) = ji19 := hji19
          by_cases c20 : (wrap64 (60 * a1)) = 0
          · rw [if_pos c20] at H
            exact absurd H (by simp)
          · rw [if_neg c20] at H
            have c20b0 : ((wrap64 (60 * a1)) == 0) = false := beq_eq_false_iff_ne.mpr c20
            have c20b1 : ((wrap64 (60 * a1)) != 0) = true := bne_iff_ne.mpr c20
            by_cases c21 : (ji19) = 0
            · rw [if_pos c21] at H
              exact absurd H (by simp)
            · rw [if_neg c21] at H
              have c21b0 : ((ji19) == 0) = false := beq_eq_false_iff_ne.mpr c21
              have c21b1 : ((ji19) != 0) = true := bne_iff_ne.mpr c21
              have H' := Aside0.mk H
              clear H
              go_wp2
              go_loopg [3, 14] kj5 (fun kq v3 v14 w' => ∃ (x3_2 : Int) (x14_2 : List (S90)), v3 = .int .i64 x3_2 ∧ Aside0 (demand_Whole.l0 kq x3_2 a4 ji19 x14_2 = some (r1, r2)) ∧ Aside0 (kq ≤ kj5) ∧ Aside0 (Kd.R k90 90 w' w.heap.size (fun _ => True) v14 x14_2) ∧ Aside0 (Below w.heap.size w w'))
              case atStart => exact ⟨(wrap64 (a3 + (Int.tmod (wrap64 ((ji19) - (Int.tmod (wrap64 ((wrap64 (Int.tdiv a0 (wrap64 (60 * a1)))) + a3)) (ji19)))) (ji19)))), (([] : List (S90))), (by first | rfl | (simp; done) | (simp only [← hji19] <;> (first | rfl | simp)) | (simp [*]; done)), H', ⟨Nat.le_refl _⟩, ⟨by first | exact Kd.R_nil _ _ _ _ _ | exact Kd.N_nil _ _ _ _ _ | exact Kd.V_nil _ _ _ _ _ | exact Kd.Q_nil _ _ _ _ _ | exact Kd.S_nil _ _ _ _ _⟩, ⟨by repeat (first | (with_reducible first | exact HB.out | apply below_alloc | apply pw_below_drewN | apply below_drew1) | exact HB.out)⟩⟩
              case round =>
                clear H'
                try clear c1
                try clear c2
                try clear p2
                try clear c4
                try clear p6
                try clear c7
                try clear c8
                try clear c10
                try clear c11
                try clear c11b0
                try clear c12
                try clear c12b0
                try clear c13
                try clear c13b0
                try clear c13b1
                try clear c14
                try clear c14b0
                try clear c14b1
                try clear c15
                try clear c15b0
                try clear c16
                try clear c16b0
                try clear c17
                try clear c18
                try clear c18b0
                try clear c18b1
                try clear c20
                try clear c20b0
                try clear c20b1
                try clear c21
                try clear c21b0
                try clear c21b1
                try clear p2
                try clear p6
                obtain ⟨x3_2, x14_2, rfl, HA, HK2, HO_14, HB⟩ := hrel
                cases gk with
                | zero => exact absurd HA.out (by simp [demand_Whole.l0])
                | succ k2 =>
                  have H := HA.out
                  clear HA
                  simp only [demand_Whole.l0] at H
                  by_cases c22 : (wrap64 (x3_2 + ji19)) ≤ a4
                  · rw [if_pos c22] at H
                    have c22b0 : decide ((wrap64 (x3_2 + ji19)) ≤ a4) = true := decide_eq_true c22
                    clear c22
                    by_cases c23 : x14_2.length < 8796093022208
                    · rw [if_pos c23] at H
                      have LMc23 := Aside0.mk c23
                      clear c23
                      obtain ⟨y136, hy136⟩ : ∃ y_ : List (S90), y_ = (x14_2 ++ [(⟨x3_2, wrap64 (x3_2 + ji19)⟩ : S90)]) := ⟨_, rfl⟩
                      replace H : (demand_Whole.l0 k2 (wrap64 (x3_2 + ji19)) a4 ji19 y136) = some (r1, r2) := by first | (rw [hy136]; with_reducible exact H) | (have H2_ := (Option.bind_some _ _).symm.trans H; rw [hy136]; with_reducible exact H2_) | (have H2_ := (Option.bind_some _ _).symm.trans H; with_reducible exact H2_) | with_reducible exact H | (rw [hy136]; exact H) | exact H
                      have Ny136 := Aside0.mk hy136
                      clear hy136
                      have H' := Aside0.mk H
                      clear H
                      go_wp2_with (first | ((with_reducible refine gate_builtin (b := .append) (xs := #[.tmp 78, .tmp 84]) rfl ?_); at_builtin; refine Kd.R_append k90 (w0 := w) w.heap.size rfl (.tmp 78) (.tmp 84) 83 90 (.agg #[(.int .i64 0), (.int .i64 0)]) 16 rfl Try.underlying83 info90 rfl (by decide) (by omega) u14 x14_2 (⟨x3_2, wrap64 (x3_2 + ji19)⟩ : S90) [.int .i64 x3_2, .int .i64 (wrap64 (x3_2 + ji19))] (fun _ => True) (fun _ => False) rfl rfl ?aP (fun _ hk => hk.elim) ?aF ?aO ?aB ?aS ?aL ?_; (case aP => exact k90_mkM _ _ _ (⟨x3_2, wrap64 (x3_2 + ji19)⟩ : S90)); (case aB => exact (by repeat (first | (with_reducible first | exact HB.out | apply below_alloc | apply pw_below_drewN | apply below_drew1) | exact HB.out))); (case aF => exact (fun _ _ => trivial)); (case aO => exact (by (with_reducible repeat (first | apply Kd.R_alloc | apply Kd.R_drewN | apply Kd.R_drew)); exact HO_14.out)); (case aS => exact (below_size (by repeat (first | (with_reducible first | exact HB.out | apply below_alloc | apply pw_below_drewN | apply below_drew1) | exact HB.out)))); (case aL => have := LMc23.out; omega); intro v137 w24 ho hb hg hat; rw [← Ny136.out] at ho; have n0_ := Aside0.mk (hb); have n1_ := Aside0.mk (ho); clear HB; clear HO_14; have HB := n0_; have HO138 := n1_; clear n0_ n1_; clear ho hb hg hat))
                      go_roundg k2
                      case measure => have := HJ5.out; have := HK2.out; omega
                      case rel => exact ⟨(wrap64 (x3_2 + ji19)), (y136), (by first | rfl | (simp; done) | (simp only [← hji19] <;> (first | rfl | simp)) | (simp [*]; done)), H', ⟨by have := HJ5.out; have := HK2.out; omega⟩, ⟨by (with_reducible repeat (first | apply Kd.R_alloc | apply Kd.R_drewN | apply Kd.R_drew)); exact HO138.out⟩, ⟨by repeat (first | (with_reducible first | exact HB.out | apply below_alloc | apply pw_below_drewN | apply below_drew1) | exact HB.out)⟩⟩
                    · rw [if_neg c23] at H
                      exact absurd H (by simp)
                  · rw [if_neg c22] at H
                    have c22b0 : decide ((wrap64 (x3_2 + ji19)) ≤ a4) = false := decide_eq_false c22
                    clear c22
                    simp only [Option.some.injEq, Prod.mk.injEq] at H
                    obtain ⟨rfl, rfl⟩ := H
                    go_wp2
                    go_ret2
                    exact ⟨_, by first | rfl | (simp [errW_none, errW_some] <;> rfl) | (simp only [← hji19]; first | rfl | (simp [errW_none, errW_some] <;> rfl)) | (simp [*, errW_none, errW_some] <;> rfl), by (with_reducible repeat (first | apply Kd.R_alloc | apply Kd.R_drewN | apply Kd.R_drew)); exact HO_14.out, by repeat (first | (with_reducible first | exact HB.out | apply below_alloc | apply pw_below_drewN | apply below_drew1) | exact HB.out)⟩

/-! ### pylonref11_SameSpans: function 50 -/
def pylonref11_SameSpans.l0 : Nat → List (S90) → List (S90) → Int → Int → Option (Bool)
  | 0, _, _, _, _ => none
  | k + 1, x0, x1, x12, x13 => if x13 < x12 then (if 0 ≤ x13 then (if x13 < (x0.length : Int) then (if x13 < (x1.length : Int) then (if (!(((rd_T90 x0 x13).f0) == ((rd_T90 x1 x13).f0)) || (!(((rd_T90 x0 x13).f1) == ((rd_T90 x1 x13).f1)))) = true then (some false) else (pylonref11_SameSpans.l0 k x0 x1 x12 (wrap64 (x13 + 1)))) else (none)) else (none)) else (none)) else (some true)
def pylonref11_SameSpans.f (k : Nat) (l0 : List (S90)) (l1 : List (S90)) : Option (Bool) := if (l0.length : Int) = (l1.length : Int) then (pylonref11_SameSpans.l0 k l0 l1 (l0.length : Int) 0) else (some false)
theorem pylonref11_SameSpans.mono_l : ∀ k, (∀ y0 y1 y2 y3, LeO (pylonref11_SameSpans.l0 k y0 y1 y2 y3) (pylonref11_SameSpans.l0 (k + 1) y0 y1 y2 y3))
  | 0 => fun _ _ _ _ r h => by simp [pylonref11_SameSpans.l0] at h
  | k + 1 => by
    have ih0 := pylonref11_SameSpans.mono_l k
    · intro y0 y1 y2 y3
      unfold pylonref11_SameSpans.l0
      repeat' first
      | (with_reducible exact ih0 _ _ _ _)
      | (with_reducible exact LeO.refl _)
      | (with_reducible exact LeO.none _)
      | (with_reducible refine LeO.ite ?_ ?_)
      | (with_reducible refine LeO.bind ?_ (fun _ => ?_))
      | exact ih0 _ _ _ _
      | exact LeO.none _
      | refine LeO.ite ?_ ?_
      | refine LeO.bind ?_ (fun _ => ?_)
theorem pylonref11_SameSpans.mono : ∀ a0 a1 k, LeO (pylonref11_SameSpans.f k a0 a1) (pylonref11_SameSpans.f (k + 1) a0 a1) := by
  intro a0 a1 k
  have ih0 := pylonref11_SameSpans.mono_l k
  unfold pylonref11_SameSpans.f
  repeat' first
      | (with_reducible exact ih0 _ _ _ _)
      | (with_reducible exact LeO.refl _)
      | (with_reducible exact LeO.none _)
      | (with_reducible refine LeO.ite ?_ ?_)
      | (with_reducible refine LeO.bind ?_ (fun _ => ?_))
      | exact ih0 _ _ _ _
      | exact LeO.none _
      | refine LeO.ite ?_ ?_
      | refine LeO.bind ?_ (fun _ => ?_)
set_option maxHeartbeats 8000000 in
set_option maxRecDepth 100000 in
theorem pylonref11_SameSpans.calls (k : Nat) (A0 : Option Addr) (c0 : Nat) (l0 : List (S90)) (A1 : Option Addr) (c1 : Nat) (l1 : List (S90)) (r : Bool) (w : World) (hr0 : Kd.C k90 w A0 l0.length l0) (hc0 : l0.length ≤ c0) (hr1 : Kd.C k90 w A1 l1.length l1) (hc1 : l1.length ≤ c1) (h : pylonref11_SameSpans.f k l0 l1 = some r) :
    Calls Try.prog 50 #[.slice A0 l0.length c0, .slice A1 l1.length c1] w fun e w' => e = .returned (.bool r) ∧ Drawn0 w w' := by
  have hu90 := Try.underlying90
  have HR0 := Aside0.mk hr0
  have HC0 := Aside0.mk hc0
  clear hr0 hc0
  have HR1 := Aside0.mk hr1
  have HC1 := Aside0.mk hc1
  clear hr1 hc1
  have H : (if (l0.length : Int) = (l1.length : Int) then (pylonref11_SameSpans.l0 k l0 l1 (l0.length : Int) 0) else (some false)) = some r := h
  clear h
  by_cases c3 : (l0.length : Int) = (l1.length : Int)
  · rw [if_pos c3] at H
    have c3b0 : ((l0.length : Int) == (l1.length : Int)) = true := beq_iff_eq.mpr c3
    have c3b1 : ((l0.length : Int) != (l1.length : Int)) = false := bne_eq_false_iff_eq.mpr c3
    have c3b2 : (l0.length == l1.length) = true := by first | simpa using c3 | (simp at c3 ⊢; omega)
    clear c3
    have H' := Aside0.mk H
    clear H
    go_enter Try.func50, Try.ntmps50
    go_wp2
    repeat (go_quiet (fail); try go_wp2)
    go_loopg [13] k (fun kq v13 w' => ∃ (x13_1 : Int), v13 = .int .i64 x13_1 ∧ Aside0 (pylonref11_SameSpans.l0 kq l0 l1 (l0.length : Int) x13_1 = some r) ∧ Aside0 (kq ≤ k) ∧ Drawn0 w w')
    case atStart => exact ⟨(0), (by first | rfl | (simp; done) | (simp [*]; done)), H', ⟨Nat.le_refl _⟩, by repeat (first | exact Drawn0.refl _ | apply Drawn0.step)⟩
    case round =>
      clear H'
      try clear c1
      try clear p2
      try clear c3
      try clear c3b0
      try clear c3b1
      try clear c3b2
      obtain ⟨x13_1, rfl, HA, HK1, ⟨m1, rfl⟩⟩ := hrel
      cases gk with
      | zero => exact absurd HA.out (by simp [pylonref11_SameSpans.l0])
      | succ k1 =>
        have H := HA.out
        clear HA
        simp only [pylonref11_SameSpans.l0] at H
        by_cases c4 : x13_1 < (l0.length : Int)
        · rw [if_pos c4] at H
          have c4b0 : decide (x13_1 < (l0.length : Int)) = true := decide_eq_true c4
          clear c4
          by_cases c5 : 0 ≤ x13_1
          · rw [if_pos c5] at H
            have c5b0 : decide (0 ≤ x13_1) = true := decide_eq_true c5
            clear c5
            by_cases c6 : x13_1 < (l0.length : Int)
            · rw [if_pos c6] at H
              have c6b0 : decide (x13_1 < (l0.length : Int)) = true := decide_eq_true c6
              clear c6
              by_cases c7 : x13_1 < (l1.length : Int)
              · rw [if_pos c7] at H
                have c7b0 : decide (x13_1 < (l1.length : Int)) = true := decide_eq_true c7
                clear c7
                by_cases c8 : (!(((rd_T90 l0 x13_1).f0) == ((rd_T90 l1 x13_1).f0)) || (!(((rd_T90 l0 x13_1).f1) == ((rd_T90 l1 x13_1).f1)))) = true
                · rw [if_pos c8] at H
                  have c8b0 : (!(((rd_T90 l0 x13_1).f0) == ((rd_T90 l1 x13_1).f0)) || (!(((rd_T90 l0 x13_1).f1) == ((rd_T90 l1 x13_1).f1)))) = true := c8
                  clear c8
                  obtain rfl := Option.some.inj H
                  have p139 : 0 ≤ (x13_1 : Int) := of_decide_eq_true (by first | (with_reducible assumption) | assumption)
                  have q139 : x13_1 < (l0.length : Int) := of_decide_eq_true (by first | (with_reducible assumption) | assumption)
                  obtain ⟨ad139, e139, hx139_0, hx139_1⟩ := at_T90 HR0.out x13_1 p139 q139
                  cases e139
                  replace p139 := eq_true p139
                  replace q139 := eq_true q139
                  have p140 : 0 ≤ (x13_1 : Int) := of_decide_eq_true (by first | (with_reducible assumption) | assumption)
                  have q140 : x13_1 < (l1.length : Int) := of_decide_eq_true (by first | (with_reducible assumption) | assumption)
                  obtain ⟨ad140, e140, hx140_0, hx140_1⟩ := at_T90 HR1.out x13_1 p140 q140
                  cases e140
                  replace p140 := eq_true p140
                  replace q140 := eq_true q140
                  go_wp2
                  repeat (go_quiet (fail); try go_wp2)
                  go_ret
                  exact ⟨by first | rfl | (simp; done) | (simp [*]; done), by repeat (first | exact Drawn0.refl _ | apply Drawn0.step)⟩
                · rw [if_neg c8] at H
                  have c8b0 : (!(((rd_T90 l0 x13_1).f0) == ((rd_T90 l1 x13_1).f0)) || (!(((rd_T90 l0 x13_1).f1) == ((rd_T90 l1 x13_1).f1)))) = false := Bool.eq_false_iff.mpr c8
                  clear c8
                  have H' := Aside0.mk H
                  clear H
                  have p139 : 0 ≤ (x13_1 : Int) := of_decide_eq_true (by first | (with_reducible assumption) | assumption)
                  have q139 : x13_1 < (l0.length : Int) := of_decide_eq_true (by first | (with_reducible assumption) | assumption)
                  obtain ⟨ad139, e139, hx139_0, hx139_1⟩ := at_T90 HR0.out x13_1 p139 q139
                  cases e139
                  replace p139 := eq_true p139
                  replace q139 := eq_true q139
                  have p140 : 0 ≤ (x13_1 : Int) := of_decide_eq_true (by first | (with_reducible assumption) | assumption)
                  have q140 : x13_1 < (l1.length : Int) := of_decide_eq_true (by first | (with_reducible assumption) | assumption)
                  obtain ⟨ad140, e140, hx140_0, hx140_1⟩ := at_T90 HR1.out x13_1 p140 q140
                  cases e140
                  replace p140 := eq_true p140
                  replace q140 := eq_true q140
                  go_wp2
                  repeat (go_quiet (fail); try go_wp2)
                  go_roundg k1
                  case measure => have := HK1.out; omega
                  case rel => exact ⟨(wrap64 (x13_1 + 1)), (by first | rfl | (simp; done) | (simp [*]; done)), H', ⟨by have := HK1.out; omega⟩, by repeat (first | exact Drawn0.refl _ | apply Drawn0.step)⟩
              · rw [if_neg c7] at H
                exact absurd H (by simp)
            · rw [if_neg c6] at H
              exact absurd H (by simp)
          · rw [if_neg c5] at H
            exact absurd H (by simp)
        · rw [if_neg c4] at H
          have c4b0 : decide (x13_1 < (l0.length : Int)) = false := decide_eq_false c4
          clear c4
          obtain rfl := Option.some.inj H
          go_wp2
          repeat (go_quiet (fail); try go_wp2)
          go_ret
          exact ⟨by first | rfl | (simp; done) | (simp [*]; done), by repeat (first | exact Drawn0.refl _ | apply Drawn0.step)⟩
  · rw [if_neg c3] at H
    have c3b0 : ((l0.length : Int) == (l1.length : Int)) = false := beq_eq_false_iff_ne.mpr c3
    have c3b1 : ((l0.length : Int) != (l1.length : Int)) = true := bne_iff_ne.mpr c3
    have c3b2 : (l0.length == l1.length) = false := by first | simpa using c3 | (simp at c3 ⊢; omega)
    obtain rfl := Option.some.inj H
    go_enter Try.func50, Try.ntmps50
    go_wp2
    repeat (go_quiet (fail); try go_wp2)
    go_ret
    exact ⟨by first | rfl | (simp; done) | (simp [*]; done), by repeat (first | exact Drawn0.refl _ | apply Drawn0.step)⟩

/-! ### pylonlaw16_Z_c: function 45 -/
def pylonlaw16_Z_c.f (a0_0 : Nat) (a0_1 : Nat) : Option (Cx) := some (cx a0_0 a0_1)
set_option maxHeartbeats 8000000 in
set_option maxRecDepth 100000 in
theorem pylonlaw16_Z_c.calls (a0_0 : Nat) (a0_1 : Nat) (r : Cx) (w : World) (h : pylonlaw16_Z_c.f a0_0 a0_1 = some r) :
    Calls Try.prog 45 #[.agg #[.float .f64 a0_0, .float .f64 a0_1]] w fun e w' => e = .returned (.complex .f64 r.re r.im) ∧ Below w.heap.size w w' := by
  have hu77 := Try.underlying77
  have HB := Aside0.mk (Below.refl w.heap.size w)
  have H : (some (cx a0_0 a0_1)) = some r := h
  clear h
  obtain rfl := Option.some.inj H
  go_enter Try.func45, Try.ntmps45
  go_wp2_with (first | ((with_reducible refine gate_dst (N := 1) rfl ?_); refine box_event ?hg (N := 1) ?hd (cs := #[.float .f64 a0_0, .float .f64 a0_1]) (t := 77) ?hr ?_; (case hd => rfl); (case hg => rfl); (case hr => first | (go_simp; done) | (go_simp; rfl)); intro gb141 hg w2 hbox hb; have n0_ := Aside0.mk (below_step (by repeat (first | (with_reducible first | exact HB.out | apply below_alloc | apply pw_below_drewN | apply below_drew1) | exact HB.out)) hb); have n1_ := Aside0.mk (hbox); have n2_ := Aside0.mk ((by rw [hg]; exact (below_size (by repeat (first | (with_reducible first | exact HB.out | apply below_alloc | apply pw_below_drewN | apply below_drew1) | exact HB.out))) : w.heap.size ≤ gb141)); have n3_ := Aside0.mk ((by rw [hg]; exact (below_size (by repeat (first | (with_reducible first | exact HB.out | apply below_alloc | apply pw_below_drewN | apply below_drew1) | exact HB.out))) : w.heap.size ≤ gb141)); clear HB; have HB := n0_; have BK141 := n1_; have GW141 := n2_; have GE141 := n3_; clear n0_ n1_ n2_ n3_; clear hb hbox hg; have hcz3_0 : w2.cell? ⟨gb141, 0, none⟩ = some (.float .f64 a0_0) := (blk_cell BK141.out 0).trans rfl; have hcz3_1 : w2.cell? ⟨gb141, 1, none⟩ = some (.float .f64 a0_1) := (blk_cell BK141.out 1).trans rfl; have hfz3_0 := blk_frozen BK141.out 0; have hfz3_1 := blk_frozen BK141.out 1))
  go_ret
  exact ⟨by first | rfl | (simp [errW_none, errW_some] <;> rfl) | (simp [*, errW_none, errW_some] <;> rfl), by repeat (first | (with_reducible first | exact HB.out | apply below_alloc | apply pw_below_drewN | apply below_drew1 | refine below_set ?_ GE141.out) | exact HB.out)⟩

end Go.Proofs.Ytapimggcnneabaa.PDK
