-- Written by a program of this session for this claim (wip/print2.sh). Lean checks it.
import Derived.Test.YthejabcfbbmkeaaDoorPGx0
import Derived.Test.YthejabcfbbmkeaaDoorPGx8
import Derived.Test.YthejabcfbbmkeaaDoorPGx9
namespace Go.Proofs.YthejabcfbbmkeaaDoor.PG
open Go.Proofs.YthejabcfbbmkeaaDoorW.PrintWords
attribute [local go_sem high] fx_eql fx_neq fx_lss fx_leq fx_gtr fx_geq fx_add fx_sub fx_mul fx_neg fx_toint cxx_add cxx_sub cxx_mul cxx_eql cxx_neq cxx_pick st_float st_complex
open Go.RowKit Go.Proofs.YthejabcfbbmkeaaDoorW.PrintWords Go.Proofs.YthejabcfbbmkeaaDoorW.PrintLast Go.Proofs.YthejabcfbbmkeaaDoorW.PrintMore
attribute [local go_sem] max2_int min2_int max_two min_two max_three min_three max_four min_four   -- for this text's walks alone
set_option linter.unusedVariables false
set_option linter.unusedSimpArgs false

/-! ### pylonref01_quotient: function 57 -/
mutual
def pylonref01_quotient.l0 : Nat → Int → Int → Int → Int → Int → Int → Int → Option (Int × Int × Int)
  | 0, _, _, _, _, _, _, _ => none
  | k + 1, x0, x1, x2, x9, x10, x11, x12 => if x12 ≥ 0 then (if 0 ≤ (IntKind.u64.wrap (Int.tmod x12 64)) then (if x12 ≥ 64 then (if 0 ≤ (IntKind.u64.wrap (wrap64 (x12 - 64))) then (pylonref01_quotient.j1 k x0 x1 x2 x9 x10 x11 x12 (Go.bits .and .u64 (shr .u64 x0 (IntKind.u64.wrap (wrap64 (x12 - 64)))) 1)) else (none)) else (pylonref01_quotient.j1 k x0 x1 x2 x9 x10 x11 x12 (Go.bits .and .u64 (shr .u64 x1 (IntKind.u64.wrap (Int.tmod x12 64))) 1))) else (none)) else (some (x9, x10, x11))
def pylonref01_quotient.j1 : Nat → Int → Int → Int → Int → Int → Int → Int → Int → Option (Int × Int × Int)
  | 0, _, _, _, _, _, _, _, _ => none
  | k + 1, x0, x1, x2, x9, x10, x11, x12, x13 => if x11 ≥ 9223372036854775808 then (pylonref01_quotient.j2 k x0 x1 x2 x9 x10 (IntKind.u64.wrap ((IntKind.u64.wrap (x11 * 2)) + x13)) x12 (decide (x11 ≥ 9223372036854775808)) true) else (pylonref01_quotient.j2 k x0 x1 x2 x9 x10 (IntKind.u64.wrap ((IntKind.u64.wrap (x11 * 2)) + x13)) x12 (decide (x11 ≥ 9223372036854775808)) (decide ((IntKind.u64.wrap ((IntKind.u64.wrap (x11 * 2)) + x13)) ≥ x2)))
def pylonref01_quotient.j2 : Nat → Int → Int → Int → Int → Int → Int → Int → Bool → Bool → Option (Int × Int × Int)
  | 0, _, _, _, _, _, _, _, _, _ => none
  | k + 1, x0, x1, x2, x9, x10, x11, x12, x14, x44 => if x44 = true then (if x12 ≥ 64 then (if 0 ≤ (IntKind.u64.wrap (wrap64 (x12 - 64))) then (pylonref01_quotient.l0 k x0 x1 x2 (Go.bits .or .u64 x9 (shl .u64 1 (IntKind.u64.wrap (wrap64 (x12 - 64))))) x10 (IntKind.u64.wrap (x11 - x2)) (wrap64 (x12 - 1))) else (none)) else (if 0 ≤ (IntKind.u64.wrap (x12)) then (pylonref01_quotient.l0 k x0 x1 x2 x9 (Go.bits .or .u64 x10 (shl .u64 1 (IntKind.u64.wrap (x12)))) (IntKind.u64.wrap (x11 - x2)) (wrap64 (x12 - 1))) else (none))) else (pylonref01_quotient.l0 k x0 x1 x2 x9 x10 x11 (wrap64 (x12 - 1)))
end
def pylonref01_quotient.f (k : Nat) (a0 : Int) (a1 : Int) (a2 : Int) : Option (Int × Int × Int) := pylonref01_quotient.l0 k a0 a1 a2 0 0 0 127
theorem pylonref01_quotient.mono_l : ∀ k, (∀ y0 y1 y2 y3 y4 y5 y6, LeO (pylonref01_quotient.l0 k y0 y1 y2 y3 y4 y5 y6) (pylonref01_quotient.l0 (k + 1) y0 y1 y2 y3 y4 y5 y6)) ∧ (∀ y0 y1 y2 y3 y4 y5 y6 y7, LeO (pylonref01_quotient.j1 k y0 y1 y2 y3 y4 y5 y6 y7) (pylonref01_quotient.j1 (k + 1) y0 y1 y2 y3 y4 y5 y6 y7)) ∧ (∀ y0 y1 y2 y3 y4 y5 y6 y7 y8, LeO (pylonref01_quotient.j2 k y0 y1 y2 y3 y4 y5 y6 y7 y8) (pylonref01_quotient.j2 (k + 1) y0 y1 y2 y3 y4 y5 y6 y7 y8))
  | 0 => ⟨fun _ _ _ _ _ _ _ r h => by simp [pylonref01_quotient.l0] at h, fun _ _ _ _ _ _ _ _ r h => by simp [pylonref01_quotient.j1] at h, fun _ _ _ _ _ _ _ _ _ r h => by simp [pylonref01_quotient.j2] at h⟩
  | k + 1 => by
    obtain ⟨ih0, ih1, ih2⟩ := pylonref01_quotient.mono_l k
    refine ⟨?_, ?_, ?_⟩
    · intro y0 y1 y2 y3 y4 y5 y6
      unfold pylonref01_quotient.l0
      repeat' first
      | (with_reducible exact ih0 _ _ _ _ _ _ _)
      | (with_reducible exact ih1 _ _ _ _ _ _ _ _)
      | (with_reducible exact ih2 _ _ _ _ _ _ _ _ _)
      | (with_reducible exact LeO.refl _)
      | (with_reducible exact LeO.none _)
      | (with_reducible refine LeO.ite ?_ ?_)
      | (with_reducible refine LeO.bind ?_ (fun _ => ?_))
      | exact ih0 _ _ _ _ _ _ _
      | exact ih1 _ _ _ _ _ _ _ _
      | exact ih2 _ _ _ _ _ _ _ _ _
      | exact LeO.none _
      | refine LeO.ite ?_ ?_
      | refine LeO.bind ?_ (fun _ => ?_)
    · intro y0 y1 y2 y3 y4 y5 y6 y7
      unfold pylonref01_quotient.j1
      repeat' first
      | (with_reducible exact ih0 _ _ _ _ _ _ _)
      | (with_reducible exact ih1 _ _ _ _ _ _ _ _)
      | (with_reducible exact ih2 _ _ _ _ _ _ _ _ _)
      | (with_reducible exact LeO.refl _)
      | (with_reducible exact LeO.none _)
      | (with_reducible refine LeO.ite ?_ ?_)
      | (with_reducible refine LeO.bind ?_ (fun _ => ?_))
      | exact ih0 _ _ _ _ _ _ _
      | exact ih1 _ _ _ _ _ _ _ _
      | exact ih2 _ _ _ _ _ _ _ _ _
      | exact LeO.none _
      | refine LeO.ite ?_ ?_
      | refine LeO.bind ?_ (fun _ => ?_)
    · intro y0 y1 y2 y3 y4 y5 y6 y7 y8
      unfold pylonref01_quotient.j2
      repeat' first
      | (with_reducible exact ih0 _ _ _ _ _ _ _)
      | (with_reducible exact ih1 _ _ _ _ _ _ _ _)
      | (with_reducible exact ih2 _ _ _ _ _ _ _ _ _)
      | (with_reducible exact LeO.refl _)
      | (with_reducible exact LeO.none _)
      | (with_reducible refine LeO.ite ?_ ?_)
      | (with_reducible refine LeO.bind ?_ (fun _ => ?_))
      | exact ih0 _ _ _ _ _ _ _
      | exact ih1 _ _ _ _ _ _ _ _
      | exact ih2 _ _ _ _ _ _ _ _ _
      | exact LeO.none _
      | refine LeO.ite ?_ ?_
      | refine LeO.bind ?_ (fun _ => ?_)
theorem pylonref01_quotient.mono : ∀ a0 a1 a2 k, LeO (pylonref01_quotient.f k a0 a1 a2) (pylonref01_quotient.f (k + 1) a0 a1 a2) := by
  intro a0 a1 a2 k
  obtain ⟨ih0, ih1, ih2⟩ := pylonref01_quotient.mono_l k
  unfold pylonref01_quotient.f
  repeat' first
      | (with_reducible exact ih0 _ _ _ _ _ _ _)
      | (with_reducible exact ih1 _ _ _ _ _ _ _ _)
      | (with_reducible exact ih2 _ _ _ _ _ _ _ _ _)
      | (with_reducible exact LeO.refl _)
      | (with_reducible exact LeO.none _)
      | (with_reducible refine LeO.ite ?_ ?_)
      | (with_reducible refine LeO.bind ?_ (fun _ => ?_))
      | exact ih0 _ _ _ _ _ _ _
      | exact ih1 _ _ _ _ _ _ _ _
      | exact ih2 _ _ _ _ _ _ _ _ _
      | exact LeO.none _
      | refine LeO.ite ?_ ?_
      | refine LeO.bind ?_ (fun _ => ?_)
set_option maxHeartbeats 8000000 in
set_option maxRecDepth 100000 in
theorem pylonref01_quotient.calls (k : Nat) (a0 : Int) (a1 : Int) (a2 : Int) (r1 : Int) (r2 : Int) (r3 : Int) (w : World) (h : pylonref01_quotient.f k a0 a1 a2 = some (r1, r2, r3)) :
    Calls Tryd.prog 57 #[.int .u64 a0, .int .u64 a1, .int .u64 a2] w fun e w' => e = .returned (.tuple #[.int .u64 r1, .int .u64 r2, .int .u64 r3]) ∧ Drawn0 w w' := by
  have H : (pylonref01_quotient.l0 k a0 a1 a2 0 0 0 127) = some (r1, r2, r3) := h
  clear h
  have H' := Aside0.mk H
  clear H
  go_enter Tryd.func57, Tryd.ntmps57
  go_wp2
  go_loopg [9, 10, 11, 12] k (fun kq v9 v10 v11 v12 w' => ∃ (x9_1 : Int) (x10_1 : Int) (x11_1 : Int) (x12_1 : Int), v9 = .int .u64 x9_1 ∧ v10 = .int .u64 x10_1 ∧ v11 = .int .u64 x11_1 ∧ v12 = .int .i64 x12_1 ∧ Aside0 (pylonref01_quotient.l0 kq a0 a1 a2 x9_1 x10_1 x11_1 x12_1 = some (r1, r2, r3)) ∧ Aside0 (kq ≤ k) ∧ Drawn0 w w')
  case atStart => exact ⟨(0), (0), (0), (127), (by first | rfl | (simp; done) | (simp [*]; done)), (by first | rfl | (simp; done) | (simp [*]; done)), (by first | rfl | (simp; done) | (simp [*]; done)), (by first | rfl | (simp; done) | (simp [*]; done)), H', ⟨Nat.le_refl _⟩, by repeat (first | exact Drawn0.refl _ | apply Drawn0.step)⟩
  case round =>
    clear H'
    try clear p2
    obtain ⟨x9_1, x10_1, x11_1, x12_1, rfl, rfl, rfl, rfl, HA, HK1, ⟨m1, rfl⟩⟩ := hrel
    cases gk with
    | zero => exact absurd HA.out (by simp [pylonref01_quotient.l0])
    | succ k1 =>
      have H := HA.out
      clear HA
      simp only [pylonref01_quotient.l0] at H
      by_cases c4 : x12_1 ≥ 0
      · rw [if_pos c4] at H
        have c4b0 : decide (0 ≤ x12_1) = true := decide_eq_true c4
        clear c4
        obtain ⟨ji5, hji5⟩ : ∃ j_ : Int, (IntKind.u64.wrap (Int.tmod x12_1 64)) = j_ := ⟨_, rfl⟩
        replace H : (if 0 ≤ (ji5) then (if x12_1 ≥ 64 then (if 0 ≤ (IntKind.u64.wrap (wrap64 (x12_1 - 64))) then (pylonref01_quotient.j1 k1 a0 a1 a2 x9_1 x10_1 x11_1 x12_1 (Go.bits .and .u64 (shr .u64 a0 (IntKind.u64.wrap (wrap64 (x12_1 - 64)))) 1)) else (none)) else (pylonref01_quotient.j1 k1 a0 a1 a2 x9_1 x10_1 x11_1 x12_1 (Go.bits .and .u64 (shr .u64 a1 (ji5)) 1))) else (none)) = some (r1, r2, r3) := by first | (rw [hji5] at H; exact H) | (simp only [hji5] at H ⊢; exact H)
        by_cases c6 : 0 ≤ (ji5)
        · rw [if_pos c6] at H
          have c6b0 := eq_true c6
          have c6b1 : decide (0 ≤ (ji5)) = true := decide_eq_true c6
          clear c6
          obtain ⟨ji7, hji7⟩ : ∃ j_ : Int, (shr .u64 a1 (ji5)) = j_ := ⟨_, rfl⟩
          replace H : (if x12_1 ≥ 64 then (if 0 ≤ (IntKind.u64.wrap (wrap64 (x12_1 - 64))) then (pylonref01_quotient.j1 k1 a0 a1 a2 x9_1 x10_1 x11_1 x12_1 (Go.bits .and .u64 (shr .u64 a0 (IntKind.u64.wrap (wrap64 (x12_1 - 64)))) 1)) else (none)) else (pylonref01_quotient.j1 k1 a0 a1 a2 x9_1 x10_1 x11_1 x12_1 (Go.bits .and .u64 (ji7) 1))) = some (r1, r2, r3) := by first | (rw [hji7] at H; exact H) | (simp only [hji7] at H ⊢; exact H)
          have hji7_ : (a1 / 2 ^ min (ji5).toNat 64) = ji7 := hji7
          have hji7z : (ji5) ≤ 64 → (a1 / 2 ^ (ji5).toNat) = ji7 := shr_small hji7
          have HC8 := Aside0.mk H
          clear H
          go_upto_if 26 with (fail)
          go_cut [13] (fun v13 wc => ∃ (kq : Nat) (x13_7 : Int), v13 = .int .u64 x13_7 ∧ Aside0 (pylonref01_quotient.j1 kq a0 a1 a2 x9_1 x10_1 x11_1 x12_1 x13_7 = some (r1, r2, r3)) ∧ Aside0 (kq ≤ k1) ∧ Drawn0 w wc)
          case first =>
            have H := HC8.out
            clear HC8
            by_cases c9 : x12_1 ≥ 64
            · rw [if_pos c9] at H
              have c9b0 : decide (64 ≤ x12_1) = true := decide_eq_true c9
              clear c9
              (first | rw [c9b0] | (simp only [i64_w, i32_w]; rw [c9b0]) | skip)
              obtain ⟨ji10, hji10⟩ : ∃ j_ : Int, (IntKind.u64.wrap (wrap64 (x12_1 - 64))) = j_ := ⟨_, rfl⟩
              replace H : (if 0 ≤ (ji10) then (pylonref01_quotient.j1 k1 a0 a1 a2 x9_1 x10_1 x11_1 x12_1 (Go.bits .and .u64 (shr .u64 a0 (ji10)) 1)) else (none)) = some (r1, r2, r3) := by first | (rw [hji10] at H; exact H) | (simp only [hji10] at H ⊢; exact H)
              by_cases c11 : 0 ≤ (ji10)
              · rw [if_pos c11] at H
                have c11b0 := eq_true c11
                have c11b1 : decide (0 ≤ (ji10)) = true := decide_eq_true c11
                clear c11
                obtain ⟨ji12, hji12⟩ : ∃ j_ : Int, (shr .u64 a0 (ji10)) = j_ := ⟨_, rfl⟩
                replace H : (pylonref01_quotient.j1 k1 a0 a1 a2 x9_1 x10_1 x11_1 x12_1 (Go.bits .and .u64 (ji12) 1)) = some (r1, r2, r3) := by first | (rw [hji12] at H; exact H) | (simp only [hji12] at H ⊢; exact H)
                have hji12_ : (a0 / 2 ^ min (ji10).toNat 64) = ji12 := hji12
                have hji12z : (ji10) ≤ 64 → (a0 / 2 ^ (ji10).toNat) = ji12 := shr_small hji12
                have H' := Aside0.mk H
                clear H
                go_wp2
                go_meet
                case rel => exact ⟨_, (Go.bits .and .u64 (ji12) 1), (by first | rfl | (simp; done) | (simp only [← hji12] <;> (first | rfl | simp)) | (simp [*]; done)), H', ⟨by have := HK1.out; first | omega | exact Nat.le_refl _⟩, by repeat (first | exact Drawn0.refl _ | apply Drawn0.step)⟩
              · rw [if_neg c11] at H
                exact absurd H (by simp)
            · rw [if_neg c9] at H
              have c9b0 : decide (64 ≤ x12_1) = false := decide_eq_false c9
              clear c9
              (first | rw [c9b0] | (simp only [i64_w, i32_w]; rw [c9b0]) | skip)
              have H' := Aside0.mk H
              clear H
              go_wp2
              go_meet
              case rel => exact ⟨_, (Go.bits .and .u64 (ji7) 1), (by first | rfl | (simp; done) | (simp only [← hji7] <;> (first | rfl | simp)) | (simp [*]; done)), H', ⟨by have := HK1.out; first | omega | exact Nat.le_refl _⟩, by repeat (first | exact Drawn0.refl _ | apply Drawn0.step)⟩
          case rest =>
            clear HC8
            try clear c1
            try clear p2
            try clear c4
            try clear c4b0
            try clear c5
            try clear c6
            try clear c6b0
            try clear c6b1
            try clear p6
            try clear c9
            try clear c9b0
            try clear c11
            try clear c11b0
            try clear c11b1
            try clear p2
            obtain ⟨kq, x13_7, rfl, HA, HJ7, ⟨mc7, rfl⟩⟩ := hcut
            cases kq with
            | zero => exact absurd HA.out (by simp [pylonref01_quotient.j1])
            | succ kj7 =>
              have H := HA.out
              clear HA
              simp only [pylonref01_quotient.j1] at H
              have HC13 := Aside0.mk H
              clear H
              go_upto_region 10 with (fail)
              go_cut [14, 44] (fun v14 v44 wc => ∃ (kq : Nat) (x14_12 : Bool) (x44_12 : Bool), v14 = .bool x14_12 ∧ v44 = .bool x44_12 ∧ Aside0 (pylonref01_quotient.j2 kq a0 a1 a2 x9_1 x10_1 (IntKind.u64.wrap ((IntKind.u64.wrap (x11_1 * 2)) + x13_7)) x12_1 x14_12 x44_12 = some (r1, r2, r3)) ∧ Aside0 (kq ≤ kj7) ∧ Drawn0 w wc)
              case first =>
                have H := HC13.out
                clear HC13
                by_cases c14 : x11_1 ≥ 9223372036854775808
                · rw [if_pos c14] at H
                  have c14b0 : decide (9223372036854775808 ≤ x11_1) = true := decide_eq_true c14
                  clear c14
                  (first | rw [c14b0] | (simp only [i64_w, i32_w]; rw [c14b0]) | skip)
                  have H' := Aside0.mk H
                  clear H
                  go_wp2
                  go_meet
                  case rel => exact ⟨_, (decide (x11_1 ≥ 9223372036854775808)), (true), (by first | rfl | (simp; done) | (simp [*]; done) | (by_cases hdp0_ : x11_1 ≥ 9223372036854775808 <;> simp [*] <;> done)), (by first | rfl | (simp; done) | (simp [*]; done)), H', ⟨by have := HK1.out; have := HJ7.out; first | omega | exact Nat.le_refl _⟩, by repeat (first | exact Drawn0.refl _ | apply Drawn0.step)⟩
                · rw [if_neg c14] at H
                  have c14b0 : decide (9223372036854775808 ≤ x11_1) = false := decide_eq_false c14
                  clear c14
                  (first | rw [c14b0] | (simp only [i64_w, i32_w]; rw [c14b0]) | skip)
                  have H' := Aside0.mk H
                  clear H
                  go_wp2
                  go_meet
                  case rel => exact ⟨_, (decide (x11_1 ≥ 9223372036854775808)), (decide ((IntKind.u64.wrap ((IntKind.u64.wrap (x11_1 * 2)) + x13_7)) ≥ a2)), (by first | rfl | (simp; done) | (simp [*]; done) | (by_cases hdp0_ : x11_1 ≥ 9223372036854775808 <;> simp [*] <;> done)), (by first | rfl | (simp; done) | (simp [*]; done) | (by_cases hdp0_ : (IntKind.u64.wrap ((IntKind.u64.wrap (x11_1 * 2)) + x13_7)) ≥ a2 <;> simp [*] <;> done)), H', ⟨by have := HK1.out; have := HJ7.out; first | omega | exact Nat.le_refl _⟩, by repeat (first | exact Drawn0.refl _ | apply Drawn0.step)⟩
              case rest =>
                clear HC13
                try clear c1
                try clear p2
                try clear c4
                try clear c4b0
                try clear c5
                try clear c6
                try clear c6b0
                try clear c6b1
                try clear p6
                try clear c7
                try clear c9
                try clear c9b0
                try clear c11
                try clear c11b0
                try clear c11b1
                try clear c14
                try clear c14b0
                try clear p2
                try clear p6
                obtain ⟨kq, x14_12, x44_12, rfl, rfl, HA, HJ12, ⟨mc12, rfl⟩⟩ := hcut
                cases kq with
                | zero => exact absurd HA.out (by simp [pylonref01_quotient.j2])
                | succ kj12 =>
                  have H := HA.out
                  clear HA
                  simp only [pylonref01_quotient.j2] at H
                  by_cases c15 : x44_12 = true
                  · subst c15
                    have H1 : (if x12_1 ≥ 64 then (if 0 ≤ (IntKind.u64.wrap (wrap64 (x12_1 - 64))) then (pylonref01_quotient.l0 kj12 a0 a1 a2 (Go.bits .or .u64 x9_1 (shl .u64 1 (IntKind.u64.wrap (wrap64 (x12_1 - 64))))) x10_1 (IntKind.u64.wrap ((IntKind.u64.wrap ((IntKind.u64.wrap (x11_1 * 2)) + x13_7)) - a2)) (wrap64 (x12_1 - 1))) else (none)) else (if 0 ≤ (IntKind.u64.wrap (x12_1)) then (pylonref01_quotient.l0 kj12 a0 a1 a2 x9_1 (Go.bits .or .u64 x10_1 (shl .u64 1 (IntKind.u64.wrap (x12_1)))) (IntKind.u64.wrap ((IntKind.u64.wrap ((IntKind.u64.wrap (x11_1 * 2)) + x13_7)) - a2)) (wrap64 (x12_1 - 1))) else (none))) = some (r1, r2, r3) := by rw [if_pos rfl] at H; exact H
                    clear H
                    have H := H1
                    clear H1
                    by_cases c16 : x12_1 ≥ 64
                    · rw [if_pos c16] at H
                      have c16b0 : decide (64 ≤ x12_1) = true := decide_eq_true c16
                      clear c16
                      obtain ⟨ji17, hji17⟩ : ∃ j_ : Int, (IntKind.u64.wrap (wrap64 (x12_1 - 64))) = j_ := ⟨_, rfl⟩
                      replace H : (if 0 ≤ (ji17) then (pylonref01_quotient.l0 kj12 a0 a1 a2 (Go.bits .or .u64 x9_1 (shl .u64 1 (ji17))) x10_1 (IntKind.u64.wrap ((IntKind.u64.wrap ((IntKind.u64.wrap (x11_1 * 2)) + x13_7)) - a2)) (wrap64 (x12_1 - 1))) else (none)) = some (r1, r2, r3) := by first | (rw [hji17] at H; exact H) | (simp only [hji17] at H ⊢; exact H)
                      by_cases c18 : 0 ≤ (ji17)
                      · rw [if_pos c18] at H
                        have c18b0 := eq_true c18
                        have c18b1 : decide (0 ≤ (ji17)) = true := decide_eq_true c18
                        clear c18
                        obtain ⟨ji19, hji19⟩ : ∃ j_ : Int, (shl .u64 1 (ji17)) = j_ := ⟨_, rfl⟩
                        replace H : (pylonref01_quotient.l0 kj12 a0 a1 a2 (Go.bits .or .u64 x9_1 (ji19)) x10_1 (IntKind.u64.wrap ((IntKind.u64.wrap ((IntKind.u64.wrap (x11_1 * 2)) + x13_7)) - a2)) (wrap64 (x12_1 - 1))) = some (r1, r2, r3) := by first | (rw [hji19] at H; exact H) | (simp only [hji19] at H ⊢; exact H)
                        have hji19_ : (IntKind.u64.wrap (1 * 2 ^ min (ji17).toNat 64)) = ji19 := hji19
                        have hji19z : (ji17) ≤ 64 → (IntKind.u64.wrap (1 * 2 ^ (ji17).toNat)) = ji19 := shl_small hji19
                        have hji19u : (IntKind.u64.wrap (2 ^ min (ji17).toNat 64)) = ji19 := by have h_ := hji19_; rw [Int.one_mul] at h_; exact h_
                        have hji19v : (ji17) ≤ 64 → (IntKind.u64.wrap (2 ^ (ji17).toNat)) = ji19 := fun hle_ => by have h_ := hji19z hle_; rw [Int.one_mul] at h_; exact h_
                        have H' := Aside0.mk H
                        clear H
                        go_wp2
                        go_roundg kj12
                        case measure => have := HK1.out; have := HJ7.out; have := HJ12.out; omega
                        case rel => exact ⟨(Go.bits .or .u64 x9_1 (ji19)), (x10_1), (IntKind.u64.wrap ((IntKind.u64.wrap ((IntKind.u64.wrap (x11_1 * 2)) + x13_7)) - a2)), (wrap64 (x12_1 - 1)), (by first | rfl | (simp; done) | (simp only [← hji19] <;> (first | rfl | simp)) | (simp [*]; done)), (by first | rfl | (simp; done) | (simp [*]; done)), (by first | rfl | (simp; done) | (simp [*]; done)), (by first | rfl | (simp; done) | (simp [*]; done)), H', ⟨by have := HK1.out; have := HJ7.out; have := HJ12.out; omega⟩, by repeat (first | exact Drawn0.refl _ | apply Drawn0.step)⟩
                      · rw [if_neg c18] at H
                        exact absurd H (by simp)
                    · rw [if_neg c16] at H
                      have c16b0 : decide (64 ≤ x12_1) = false := decide_eq_false c16
                      clear c16
                      obtain ⟨ji20, hji20⟩ : ∃ j_ : Int, (IntKind.u64.wrap (x12_1)) = j_ := ⟨_, rfl⟩
                      replace H : (if 0 ≤ (ji20) then (pylonref01_quotient.l0 kj12 a0 a1 a2 x9_1 (Go.bits .or .u64 x10_1 (shl .u64 1 (ji20))) (IntKind.u64.wrap ((IntKind.u64.wrap ((IntKind.u64.wrap (x11_1 * 2)) + x13_7)) - a2)) (wrap64 (x12_1 - 1))) else (none)) = some (r1, r2, r3) := by first | (rw [hji20] at H; exact H) | (simp only [hji20] at H ⊢; exact H)
                      by_cases c21 : 0 ≤ (ji20)
                      · rw [if_pos c21] at H
                        have c21b0 := eq_true c21
                        have c21b1 : decide (0 ≤ (ji20)) = true := decide_eq_true c21
                        clear c21
                        obtain ⟨ji22, hji22⟩ : ∃ j_ : Int, (shl .u64 1 (ji20)) = j_ := ⟨_, rfl⟩
                        replace H : (pylonref01_quotient.l0 kj12 a0 a1 a2 x9_1 (Go.bits .or .u64 x10_1 (ji22)) (IntKind.u64.wrap ((IntKind.u64.wrap ((IntKind.u64.wrap (x11_1 * 2)) + x13_7)) - a2)) (wrap64 (x12_1 - 1))) = some (r1, r2, r3) := by first | (rw [hji22] at H; exact H) | (simp only [hji22] at H ⊢; exact H)
                        have hji22_ : (IntKind.u64.wrap (1 * 2 ^ min (ji20).toNat 64)) = ji22 := hji22
                        have hji22z : (ji20) ≤ 64 → (IntKind.u64.wrap (1 * 2 ^ (ji20).toNat)) = ji22 := shl_small hji22
                        have hji22u : (IntKind.u64.wrap (2 ^ min (ji20).toNat 64)) = ji22 := by have h_ := hji22_; rw [Int.one_mul] at h_; exact h_
                        have hji22v : (ji20) ≤ 64 → (IntKind.u64.wrap (2 ^ (ji20).toNat)) = ji22 := fun hle_ => by have h_ := hji22z hle_; rw [Int.one_mul] at h_; exact h_
                        have H' := Aside0.mk H
                        clear H
                        go_wp2
                        go_roundg kj12
                        case measure => have := HK1.out; have := HJ7.out; have := HJ12.out; omega
                        case rel => exact ⟨(x9_1), (Go.bits .or .u64 x10_1 (ji22)), (IntKind.u64.wrap ((IntKind.u64.wrap ((IntKind.u64.wrap (x11_1 * 2)) + x13_7)) - a2)), (wrap64 (x12_1 - 1)), (by first | rfl | (simp; done) | (simp [*]; done)), (by first | rfl | (simp; done) | (simp only [← hji22] <;> (first | rfl | simp)) | (simp [*]; done)), (by first | rfl | (simp; done) | (simp [*]; done)), (by first | rfl | (simp; done) | (simp [*]; done)), H', ⟨by have := HK1.out; have := HJ7.out; have := HJ12.out; omega⟩, by repeat (first | exact Drawn0.refl _ | apply Drawn0.step)⟩
                      · rw [if_neg c21] at H
                        exact absurd H (by simp)
                  · replace c15 := Bool.eq_false_iff.mpr c15
                    subst c15
                    have H1 : (pylonref01_quotient.l0 kj12 a0 a1 a2 x9_1 x10_1 (IntKind.u64.wrap ((IntKind.u64.wrap (x11_1 * 2)) + x13_7)) (wrap64 (x12_1 - 1))) = some (r1, r2, r3) := by rw [if_neg (show ¬ (false = true) by decide)] at H; exact H
                    clear H
                    have H := H1
                    clear H1
                    have H' := Aside0.mk H
                    clear H
                    go_wp2
                    go_roundg kj12
                    case measure => have := HK1.out; have := HJ7.out; have := HJ12.out; omega
                    case rel => exact ⟨(x9_1), (x10_1), ((IntKind.u64.wrap ((IntKind.u64.wrap (x11_1 * 2)) + x13_7))), (wrap64 (x12_1 - 1)), (by first | rfl | (simp; done) | (simp [*]; done)), (by first | rfl | (simp; done) | (simp [*]; done)), (by first | rfl | (simp; done) | (simp [*]; done)), (by first | rfl | (simp; done) | (simp [*]; done)), H', ⟨by have := HK1.out; have := HJ7.out; have := HJ12.out; omega⟩, by repeat (first | exact Drawn0.refl _ | apply Drawn0.step)⟩
        · rw [if_neg c6] at H
          exact absurd H (by simp)
      · rw [if_neg c4] at H
        have c4b0 : decide (0 ≤ x12_1) = false := decide_eq_false c4
        clear c4
        simp only [Option.some.injEq, Prod.mk.injEq] at H
        obtain ⟨rfl, rfl, rfl⟩ := H
        go_wp2
        go_ret3
        exact ⟨by first | rfl | (simp; done) | (simp [*]; done), by repeat (first | exact Drawn0.refl _ | apply Drawn0.step)⟩

/-! ### pylonref01_MulDiv: function 43 -/
mutual
def pylonref01_MulDiv.j0 : Nat → Int → Int → Int → Bool → Option (Int × Int)
  | 0, _, _, _, _ => none
  | k + 1, x2, x8, x9, x10 => (pylonref01_mag.f x2).bind fun t241 => ((pylonref01_quotient.f k x8 x9 t241).bind fun bt242 => (if x10 = true then (pylonref01_MulDiv.j1 k x10 bt242.1 bt242.2.1 (decide (bt242.2.2 > (IntKind.u64.wrap (t241 - bt242.2.2))))) else (pylonref01_MulDiv.j1 k x10 bt242.1 bt242.2.1 (decide (bt242.2.2 ≥ (IntKind.u64.wrap (t241 - bt242.2.2)))))))
def pylonref01_MulDiv.j1 : Nat → Bool → Int → Int → Bool → Option (Int × Int)
  | 0, _, _, _, _ => none
  | k + 1, x10, x12, x13, x15 => if x15 = true then (if (IntKind.u64.wrap (x13 + 1)) = 0 then (if x10 = true then (if (IntKind.u64.wrap (x12 + 1)) = 0 then ((pylonref01_signed.f k false (IntKind.u64.wrap (x12 + 1)) (IntKind.u64.wrap (x13 + 1))).bind fun bt245 => (some (bt245.1, bt245.2))) else ((pylonref01_signed.f k true (IntKind.u64.wrap (x12 + 1)) (IntKind.u64.wrap (x13 + 1))).bind fun bt247 => (some (bt247.1, bt247.2)))) else ((pylonref01_signed.f k false (IntKind.u64.wrap (x12 + 1)) (IntKind.u64.wrap (x13 + 1))).bind fun bt249 => (some (bt249.1, bt249.2)))) else (if x10 = true then (if x12 = 0 then ((pylonref01_signed.f k true x12 (IntKind.u64.wrap (x13 + 1))).bind fun bt251 => (some (bt251.1, bt251.2))) else ((pylonref01_signed.f k true x12 (IntKind.u64.wrap (x13 + 1))).bind fun bt253 => (some (bt253.1, bt253.2)))) else ((pylonref01_signed.f k false x12 (IntKind.u64.wrap (x13 + 1))).bind fun bt255 => (some (bt255.1, bt255.2))))) else (if x10 = true then (if x12 = 0 then ((pylonref01_signed.f k (x13 != 0) x12 x13).bind fun bt257 => (some (bt257.1, bt257.2))) else ((pylonref01_signed.f k true x12 x13).bind fun bt259 => (some (bt259.1, bt259.2)))) else ((pylonref01_signed.f k false x12 x13).bind fun bt261 => (some (bt261.1, bt261.2))))
end
def pylonref01_MulDiv.f (k : Nat) (a0 : Int) (a1 : Int) (a2 : Int) : Option (Int × Int) := if a2 = 0 then (some (0, 6)) else ((pylonref01_mag.f a0).bind fun t237 => ((pylonref01_mag.f a1).bind fun t238 => ((pylonref01_product.f t237 t238).bind fun bt239 => (if (!((!((decide (a0 < 0)) == (decide (a1 < 0)))) == (decide (a2 < 0)))) = true then (if bt239.1 = 0 then (pylonref01_MulDiv.j0 k a2 bt239.1 bt239.2 (bt239.2 != 0)) else (pylonref01_MulDiv.j0 k a2 bt239.1 bt239.2 true)) else (pylonref01_MulDiv.j0 k a2 bt239.1 bt239.2 false)))))
theorem pylonref01_MulDiv.mono_l : ∀ k, (∀ y0 y1 y2 y3, LeO (pylonref01_MulDiv.j0 k y0 y1 y2 y3) (pylonref01_MulDiv.j0 (k + 1) y0 y1 y2 y3)) ∧ (∀ y0 y1 y2 y3, LeO (pylonref01_MulDiv.j1 k y0 y1 y2 y3) (pylonref01_MulDiv.j1 (k + 1) y0 y1 y2 y3))
  | 0 => ⟨fun _ _ _ _ r h => by simp [pylonref01_MulDiv.j0] at h, fun _ _ _ _ r h => by simp [pylonref01_MulDiv.j1] at h⟩
  | k + 1 => by
    obtain ⟨ih0, ih1⟩ := pylonref01_MulDiv.mono_l k
    refine ⟨?_, ?_⟩
    · intro y0 y1 y2 y3
      unfold pylonref01_MulDiv.j0
      repeat' first
      | (with_reducible exact ih0 _ _ _ _)
      | (with_reducible exact ih1 _ _ _ _)
      | (with_reducible exact pylonref01_quotient.mono _ _ _ _)
      | (with_reducible exact pylonref01_signed.mono _ _ _ _)
      | (with_reducible exact LeO.refl _)
      | (with_reducible exact LeO.none _)
      | (with_reducible refine LeO.ite ?_ ?_)
      | (with_reducible refine LeO.bind ?_ (fun _ => ?_))
      | exact ih0 _ _ _ _
      | exact ih1 _ _ _ _
      | exact pylonref01_quotient.mono _ _ _ _
      | exact pylonref01_signed.mono _ _ _ _
      | exact LeO.none _
      | refine LeO.ite ?_ ?_
      | refine LeO.bind ?_ (fun _ => ?_)
    · intro y0 y1 y2 y3
      unfold pylonref01_MulDiv.j1
      repeat' first
      | (with_reducible exact ih0 _ _ _ _)
      | (with_reducible exact ih1 _ _ _ _)
      | (with_reducible exact pylonref01_quotient.mono _ _ _ _)
      | (with_reducible exact pylonref01_signed.mono _ _ _ _)
      | (with_reducible exact LeO.refl _)
      | (with_reducible exact LeO.none _)
      | (with_reducible refine LeO.ite ?_ ?_)
      | (with_reducible refine LeO.bind ?_ (fun _ => ?_))
      | exact ih0 _ _ _ _
      | exact ih1 _ _ _ _
      | exact pylonref01_quotient.mono _ _ _ _
      | exact pylonref01_signed.mono _ _ _ _
      | exact LeO.none _
      | refine LeO.ite ?_ ?_
      | refine LeO.bind ?_ (fun _ => ?_)
theorem pylonref01_MulDiv.mono : ∀ a0 a1 a2 k, LeO (pylonref01_MulDiv.f k a0 a1 a2) (pylonref01_MulDiv.f (k + 1) a0 a1 a2) := by
  intro a0 a1 a2 k
  obtain ⟨ih0, ih1⟩ := pylonref01_MulDiv.mono_l k
  unfold pylonref01_MulDiv.f
  repeat' first
      | (with_reducible exact ih0 _ _ _ _)
      | (with_reducible exact ih1 _ _ _ _)
      | (with_reducible exact pylonref01_quotient.mono _ _ _ _)
      | (with_reducible exact pylonref01_signed.mono _ _ _ _)
      | (with_reducible exact LeO.refl _)
      | (with_reducible exact LeO.none _)
      | (with_reducible refine LeO.ite ?_ ?_)
      | (with_reducible refine LeO.bind ?_ (fun _ => ?_))
      | exact ih0 _ _ _ _
      | exact ih1 _ _ _ _
      | exact pylonref01_quotient.mono _ _ _ _
      | exact pylonref01_signed.mono _ _ _ _
      | exact LeO.none _
      | refine LeO.ite ?_ ?_
      | refine LeO.bind ?_ (fun _ => ?_)
set_option maxHeartbeats 8000000 in
set_option maxRecDepth 100000 in
theorem pylonref01_MulDiv.calls (k : Nat) (a0 : Int) (a1 : Int) (a2 : Int) (r1 : Int) (r2 : Int) (w : World) (h : pylonref01_MulDiv.f k a0 a1 a2 = some (r1, r2)) :
    Calls Tryd.prog 43 #[.int .i64 a0, .int .i64 a1, .int .i64 a2] w fun e w' => e = .returned (.tuple #[.int .i64 r1, .int .i64 r2]) ∧ Drawn0 w w' := by
  have H : (if a2 = 0 then (some (0, 6)) else ((pylonref01_mag.f a0).bind fun t237 => ((pylonref01_mag.f a1).bind fun t238 => ((pylonref01_product.f t237 t238).bind fun bt239 => (if (!((!((decide (a0 < 0)) == (decide (a1 < 0)))) == (decide (a2 < 0)))) = true then (if bt239.1 = 0 then (pylonref01_MulDiv.j0 k a2 bt239.1 bt239.2 (bt239.2 != 0)) else (pylonref01_MulDiv.j0 k a2 bt239.1 bt239.2 true)) else (pylonref01_MulDiv.j0 k a2 bt239.1 bt239.2 false)))))) = some (r1, r2) := h
  clear h
  by_cases c4 : a2 = 0
  · rw [if_pos c4] at H
    have c4b0 : (a2 == 0) = true := beq_iff_eq.mpr c4
    have c4b1 : (a2 != 0) = false := bne_eq_false_iff_eq.mpr c4
    clear c4
    simp only [Option.some.injEq, Prod.mk.injEq] at H
    obtain ⟨rfl, rfl⟩ := H
    go_enter Tryd.func43, Tryd.ntmps43
    go_wp2
    go_ret2
    exact ⟨by first | rfl | (simp; done) | (simp [*]; done), by repeat (first | exact Drawn0.refl _ | apply Drawn0.step)⟩
  · rw [if_neg c4] at H
    have c4b0 : (a2 == 0) = false := beq_eq_false_iff_ne.mpr c4
    have c4b1 : (a2 != 0) = true := bne_iff_ne.mpr c4
    replace H := Option.bind_eq_some_iff.mp H
    obtain ⟨t237, A50, H⟩ := H
    replace H : ((pylonref01_mag.f a1).bind fun t238 => ((pylonref01_product.f t237 t238).bind fun bt239 => (if (!((!((decide (a0 < 0)) == (decide (a1 < 0)))) == (decide (a2 < 0)))) = true then (if bt239.1 = 0 then (pylonref01_MulDiv.j0 k a2 bt239.1 bt239.2 (bt239.2 != 0)) else (pylonref01_MulDiv.j0 k a2 bt239.1 bt239.2 true)) else (pylonref01_MulDiv.j0 k a2 bt239.1 bt239.2 false)))) = some (r1, r2) := H
    have A5 := Aside0.mk A50
    clear A50
    replace H := Option.bind_eq_some_iff.mp H
    obtain ⟨t238, A60, H⟩ := H
    replace H : ((pylonref01_product.f t237 t238).bind fun bt239 => (if (!((!((decide (a0 < 0)) == (decide (a1 < 0)))) == (decide (a2 < 0)))) = true then (if bt239.1 = 0 then (pylonref01_MulDiv.j0 k a2 bt239.1 bt239.2 (bt239.2 != 0)) else (pylonref01_MulDiv.j0 k a2 bt239.1 bt239.2 true)) else (pylonref01_MulDiv.j0 k a2 bt239.1 bt239.2 false))) = some (r1, r2) := H
    have A6 := Aside0.mk A60
    clear A60
    replace H := Option.bind_eq_some_iff.mp H
    obtain ⟨⟨t239, t240⟩, A70, H⟩ := H
    replace H : (if (!((!((decide (a0 < 0)) == (decide (a1 < 0)))) == (decide (a2 < 0)))) = true then (if t239 = 0 then (pylonref01_MulDiv.j0 k a2 t239 t240 (t240 != 0)) else (pylonref01_MulDiv.j0 k a2 t239 t240 true)) else (pylonref01_MulDiv.j0 k a2 t239 t240 false)) = some (r1, r2) := H
    have A7 := Aside0.mk A70
    clear A70
    have HC8 := Aside0.mk H
    clear H
    go_enter Tryd.func43, Tryd.ntmps43
    go_upto_region 4 with (first | ((with_reducible refine gate_callee (f := 54) rfl ?_); refine goesL_ (some 20) rfl rfl Tryd.func54 (by kernel_rfl) rfl #[.int .i64 a0] rfl (by (try simp only [List.map_toArray, List.map_cons, List.map_nil]); first | done | rfl | (simp only [List.length_drop, List.length_take]; rfl)) ?_; (with_reducible refine (pylonref01_mag.calls a0 t237 _ A5.out).mono ?_); rintro e w' ⟨rfl, ⟨nd, rfl⟩⟩; refine ⟨_, rfl, ?_⟩) | ((with_reducible refine gate_callee (f := 54) rfl ?_); refine goesL_ (some 22) rfl rfl Tryd.func54 (by kernel_rfl) rfl #[.int .i64 a1] rfl (by (try simp only [List.map_toArray, List.map_cons, List.map_nil]); first | done | rfl | (simp only [List.length_drop, List.length_take]; rfl)) ?_; (with_reducible refine (pylonref01_mag.calls a1 t238 _ A6.out).mono ?_); rintro e w' ⟨rfl, ⟨nd, rfl⟩⟩; refine ⟨_, rfl, ?_⟩) | ((with_reducible refine gate_callee (f := 56) rfl ?_); refine goesL_ (some 23) rfl rfl Tryd.func56 (by kernel_rfl) rfl #[.int .u64 t237, .int .u64 t238] rfl (by (try simp only [List.map_toArray, List.map_cons, List.map_nil]); first | done | rfl | (simp only [List.length_drop, List.length_take]; rfl)) ?_; (with_reducible refine (pylonref01_product.calls t237 t238 t239 t240 _ A7.out).mono ?_); rintro e w' ⟨rfl, ⟨nd, rfl⟩⟩; refine ⟨_, rfl, ?_⟩))
    (try simp only [Act.put, List.setIfInBounds_toArray, List.set_cons_zero, List.set_cons_succ])
    go_cut [10] (fun v10 wc => ∃ (kq : Nat) (x10_7 : Bool), v10 = .bool x10_7 ∧ Aside0 (pylonref01_MulDiv.j0 kq a2 t239 t240 x10_7 = some (r1, r2)) ∧ Aside0 (kq ≤ k) ∧ Drawn0 w wc)
    case first =>
      have H := HC8.out
      clear HC8
      by_cases c9 : (!((!((decide (a0 < 0)) == (decide (a1 < 0)))) == (decide (a2 < 0)))) = true
      · rw [if_pos c9] at H
        have c9b0 : (!((!((decide (a0 < 0)) == (decide (a1 < 0)))) == (decide (a2 < 0)))) = true := c9
        clear c9
        (first | rw [c9b0] | (simp only [i64_w, i32_w]; rw [c9b0]) | skip)
        by_cases c10 : t239 = 0
        · rw [if_pos c10] at H
          have c10b0 : (t239 == 0) = true := beq_iff_eq.mpr c10
          have c10b1 : (t239 != 0) = false := bne_eq_false_iff_eq.mpr c10
          clear c10
          have H' := Aside0.mk H
          clear H
          go_wp2
          go_meet
          case rel => exact ⟨_, ((t240 != 0)), (by first | rfl | (simp; done) | (simp [*]; done)), H', ⟨by first | omega | exact Nat.le_refl _⟩, by repeat (first | exact Drawn0.refl _ | apply Drawn0.step)⟩
        · rw [if_neg c10] at H
          have c10b0 : (t239 == 0) = false := beq_eq_false_iff_ne.mpr c10
          have c10b1 : (t239 != 0) = true := bne_iff_ne.mpr c10
          have H' := Aside0.mk H
          clear H
          go_wp2
          go_meet
          case rel => exact ⟨_, (true), (by first | rfl | (simp; done) | (simp [*]; done)), H', ⟨by first | omega | exact Nat.le_refl _⟩, by repeat (first | exact Drawn0.refl _ | apply Drawn0.step)⟩
      · rw [if_neg c9] at H
        have c9b0 : (!((!((decide (a0 < 0)) == (decide (a1 < 0)))) == (decide (a2 < 0)))) = false := Bool.eq_false_iff.mpr c9
        clear c9
        (first | rw [c9b0] | (simp only [i64_w, i32_w]; rw [c9b0]) | skip)
        have H' := Aside0.mk H
        clear H
        go_wp2
        go_meet
        case rel => exact ⟨_, (false), (by first | rfl | (simp; done) | (simp [*]; done)), H', ⟨by first | omega | exact Nat.le_refl _⟩, by repeat (first | exact Drawn0.refl _ | apply Drawn0.step)⟩
    case rest =>
      clear HC8
      try clear c1
      try clear p2
      try clear c4
      try clear c4b0
      try clear c4b1
      try clear c5
      try clear c9
      try clear c9b0
      try clear c10
      try clear c10b0
      try clear c10b1
      obtain ⟨kq, x10_7, rfl, HA, HJ7, ⟨mc7, rfl⟩⟩ := hcut
      cases kq with
      | zero => exact absurd HA.out (by simp [pylonref01_MulDiv.j0])
      | succ kj7 =>
        have H := HA.out
        clear HA
        simp only [pylonref01_MulDiv.j0] at H
        replace H := Option.bind_eq_some_iff.mp H
        obtain ⟨t241, A110, H⟩ := H
        replace H : ((pylonref01_quotient.f kj7 t239 t240 t241).bind fun bt242 => (if x10_7 = true then (pylonref01_MulDiv.j1 kj7 x10_7 bt242.1 bt242.2.1 (decide (bt242.2.2 > (IntKind.u64.wrap (t241 - bt242.2.2))))) else (pylonref01_MulDiv.j1 kj7 x10_7 bt242.1 bt242.2.1 (decide (bt242.2.2 ≥ (IntKind.u64.wrap (t241 - bt242.2.2))))))) = some (r1, r2) := H
        have A11 := Aside0.mk A110
        clear A110
        replace H := Option.bind_eq_some_iff.mp H
        obtain ⟨⟨t242, t243, t244⟩, A120, H⟩ := H
        replace H : (if x10_7 = true then (pylonref01_MulDiv.j1 kj7 x10_7 t242 t243 (decide (t244 > (IntKind.u64.wrap (t241 - t244))))) else (pylonref01_MulDiv.j1 kj7 x10_7 t242 t243 (decide (t244 ≥ (IntKind.u64.wrap (t241 - t244)))))) = some (r1, r2) := H
        have A12 := Aside0.mk A120
        clear A120
        have HC13 := Aside0.mk H
        clear H
        go_upto_if 57 with (first | ((with_reducible refine gate_callee (f := 54) rfl ?_); refine goesL_ (some 43) rfl rfl Tryd.func54 (by kernel_rfl) rfl #[.int .i64 a2] rfl (by (try simp only [List.map_toArray, List.map_cons, List.map_nil]); first | done | rfl | (simp only [List.length_drop, List.length_take]; rfl)) ?_; (with_reducible refine (pylonref01_mag.calls a2 t241 _ A11.out).mono ?_); rintro e w' ⟨rfl, ⟨nd, rfl⟩⟩; refine ⟨_, rfl, ?_⟩) | ((with_reducible refine gate_callee (f := 57) rfl ?_); refine goesL_ (some 48) rfl rfl Tryd.func57 (by kernel_rfl) rfl #[.int .u64 t239, .int .u64 t240, .int .u64 t241] rfl (by (try simp only [List.map_toArray, List.map_cons, List.map_nil]); first | done | rfl | (simp only [List.length_drop, List.length_take]; rfl)) ?_; (with_reducible refine (pylonref01_quotient.calls kj7 t239 t240 t241 t242 t243 t244 _ A12.out).mono ?_); rintro e w' ⟨rfl, ⟨nd, rfl⟩⟩; refine ⟨_, rfl, ?_⟩))
        (try simp only [Act.put, List.setIfInBounds_toArray, List.set_cons_zero, List.set_cons_succ])
        go_cut [15] (fun v15 wc => ∃ (kq : Nat) (x15_12 : Bool), v15 = .bool x15_12 ∧ Aside0 (pylonref01_MulDiv.j1 kq x10_7 t242 t243 x15_12 = some (r1, r2)) ∧ Aside0 (kq ≤ kj7) ∧ Drawn0 w wc)
        case first =>
          have H := HC13.out
          clear HC13
          by_cases c14 : x10_7 = true
          · subst c14
            have H1 : (pylonref01_MulDiv.j1 kj7 true t242 t243 (decide (t244 > (IntKind.u64.wrap (t241 - t244))))) = some (r1, r2) := by rw [if_pos rfl] at H; exact H
            clear H
            have H := H1
            clear H1
            have H' := Aside0.mk H
            clear H
            go_wp2
            go_meet
            case rel => exact ⟨_, (decide (t244 > (IntKind.u64.wrap (t241 - t244)))), (by first | rfl | (simp; done) | (simp [*]; done) | (by_cases hdp0_ : t244 > (IntKind.u64.wrap (t241 - t244)) <;> simp [*] <;> done)), H', ⟨by have := HJ7.out; first | omega | exact Nat.le_refl _⟩, by repeat (first | exact Drawn0.refl _ | apply Drawn0.step)⟩
          · replace c14 := Bool.eq_false_iff.mpr c14
            subst c14
            have H1 : (pylonref01_MulDiv.j1 kj7 false t242 t243 (decide (t244 ≥ (IntKind.u64.wrap (t241 - t244))))) = some (r1, r2) := by rw [if_neg (show ¬ (false = true) by decide)] at H; exact H
            clear H
            have H := H1
            clear H1
            have H' := Aside0.mk H
            clear H
            go_wp2
            go_meet
            case rel => exact ⟨_, (decide (t244 ≥ (IntKind.u64.wrap (t241 - t244)))), (by first | rfl | (simp; done) | (simp [*]; done) | (by_cases hdp0_ : t244 ≥ (IntKind.u64.wrap (t241 - t244)) <;> simp [*] <;> done)), H', ⟨by have := HJ7.out; first | omega | exact Nat.le_refl _⟩, by repeat (first | exact Drawn0.refl _ | apply Drawn0.step)⟩
        case rest =>
          clear HC13
          try clear c1
          try clear p2
          try clear c4
          try clear c4b0
          try clear c4b1
          try clear c5
          try clear c7
          try clear c9
          try clear c9b0
          try clear c10
          try clear c10b0
          try clear c10b1
          try clear c14
          try clear p2
          obtain ⟨kq, x15_12, rfl, HA, HJ12, ⟨mc12, rfl⟩⟩ := hcut
          cases kq with
          | zero => exact absurd HA.out (by simp [pylonref01_MulDiv.j1])
          | succ kj12 =>
            have H := HA.out
            clear HA
            simp only [pylonref01_MulDiv.j1] at H
            by_cases c15 : x15_12 = true
            · subst c15
              have H1 : (if (IntKind.u64.wrap (t243 + 1)) = 0 then (if x10_7 = true then (if (IntKind.u64.wrap (t242 + 1)) = 0 then ((pylonref01_signed.f kj12 false (IntKind.u64.wrap (t242 + 1)) (IntKind.u64.wrap (t243 + 1))).bind fun bt245 => (some (bt245.1, bt245.2))) else ((pylonref01_signed.f kj12 true (IntKind.u64.wrap (t242 + 1)) (IntKind.u64.wrap (t243 + 1))).bind fun bt247 => (some (bt247.1, bt247.2)))) else ((pylonref01_signed.f kj12 false (IntKind.u64.wrap (t242 + 1)) (IntKind.u64.wrap (t243 + 1))).bind fun bt249 => (some (bt249.1, bt249.2)))) else (if x10_7 = true then (if t242 = 0 then ((pylonref01_signed.f kj12 true t242 (IntKind.u64.wrap (t243 + 1))).bind fun bt251 => (some (bt251.1, bt251.2))) else ((pylonref01_signed.f kj12 true t242 (IntKind.u64.wrap (t243 + 1))).bind fun bt253 => (some (bt253.1, bt253.2)))) else ((pylonref01_signed.f kj12 false t242 (IntKind.u64.wrap (t243 + 1))).bind fun bt255 => (some (bt255.1, bt255.2))))) = some (r1, r2) := by rw [if_pos rfl] at H; exact H
              clear H
              have H := H1
              clear H1
              by_cases c16 : (IntKind.u64.wrap (t243 + 1)) = 0
              · rw [if_pos c16] at H
                have c16b0 : ((IntKind.u64.wrap (t243 + 1)) == 0) = true := beq_iff_eq.mpr c16
                have c16b1 : ((IntKind.u64.wrap (t243 + 1)) != 0) = false := bne_eq_false_iff_eq.mpr c16
                clear c16
                by_cases c17 : x10_7 = true
                · subst c17
                  have H1 : (if (IntKind.u64.wrap (t242 + 1)) = 0 then ((pylonref01_signed.f kj12 false (IntKind.u64.wrap (t242 + 1)) (IntKind.u64.wrap (t243 + 1))).bind fun bt245 => (some (bt245.1, bt245.2))) else ((pylonref01_signed.f kj12 true (IntKind.u64.wrap (t242 + 1)) (IntKind.u64.wrap (t243 + 1))).bind fun bt247 => (some (bt247.1, bt247.2)))) = some (r1, r2) := by rw [if_pos rfl] at H; exact H
                  clear H
                  have H := H1
                  clear H1
                  by_cases c18 : (IntKind.u64.wrap (t242 + 1)) = 0
                  · rw [if_pos c18] at H
                    have c18b0 : ((IntKind.u64.wrap (t242 + 1)) == 0) = true := beq_iff_eq.mpr c18
                    have c18b1 : ((IntKind.u64.wrap (t242 + 1)) != 0) = false := bne_eq_false_iff_eq.mpr c18
                    clear c18
                    replace H := Option.bind_eq_some_iff.mp H
                    obtain ⟨⟨t245, t246⟩, A190, H⟩ := H
                    replace H : (some (t245, t246)) = some (r1, r2) := H
                    have A19 := Aside0.mk A190
                    clear A190
                    simp only [Option.some.injEq, Prod.mk.injEq] at H
                    obtain ⟨rfl, rfl⟩ := H
                    go_wp2_with (first | ((with_reducible refine gate_callee (f := 55) rfl ?_); refine goesL_ (some 81) rfl rfl Tryd.func55 (by kernel_rfl) rfl #[.bool false, .int .u64 (IntKind.u64.wrap (t242 + 1)), .int .u64 (IntKind.u64.wrap (t243 + 1))] rfl (by (try simp only [List.map_toArray, List.map_cons, List.map_nil]); first | done | rfl | (simp only [List.length_drop, List.length_take]; rfl)) ?_; (with_reducible refine (pylonref01_signed.calls kj12 false (IntKind.u64.wrap (t242 + 1)) (IntKind.u64.wrap (t243 + 1)) t245 t246 _ A19.out).mono ?_); rintro e w' ⟨rfl, ⟨nd, rfl⟩⟩; refine ⟨_, rfl, ?_⟩))
                    go_ret2
                    exact ⟨by first | rfl | (simp; done) | (simp [*]; done), by repeat (first | exact Drawn0.refl _ | apply Drawn0.step)⟩
                  · rw [if_neg c18] at H
                    have c18b0 : ((IntKind.u64.wrap (t242 + 1)) == 0) = false := beq_eq_false_iff_ne.mpr c18
                    have c18b1 : ((IntKind.u64.wrap (t242 + 1)) != 0) = true := bne_iff_ne.mpr c18
                    replace H := Option.bind_eq_some_iff.mp H
                    obtain ⟨⟨t247, t248⟩, A200, H⟩ := H
                    replace H : (some (t247, t248)) = some (r1, r2) := H
                    have A20 := Aside0.mk A200
                    clear A200
                    simp only [Option.some.injEq, Prod.mk.injEq] at H
                    obtain ⟨rfl, rfl⟩ := H
                    go_wp2_with (first | ((with_reducible refine gate_callee (f := 55) rfl ?_); refine goesL_ (some 81) rfl rfl Tryd.func55 (by kernel_rfl) rfl #[.bool true, .int .u64 (IntKind.u64.wrap (t242 + 1)), .int .u64 (IntKind.u64.wrap (t243 + 1))] rfl (by (try simp only [List.map_toArray, List.map_cons, List.map_nil]); first | done | rfl | (simp only [List.length_drop, List.length_take]; rfl)) ?_; (with_reducible refine (pylonref01_signed.calls kj12 true (IntKind.u64.wrap (t242 + 1)) (IntKind.u64.wrap (t243 + 1)) t247 t248 _ A20.out).mono ?_); rintro e w' ⟨rfl, ⟨nd, rfl⟩⟩; refine ⟨_, rfl, ?_⟩))
                    go_ret2
                    exact ⟨by first | rfl | (simp; done) | (simp [*]; done), by repeat (first | exact Drawn0.refl _ | apply Drawn0.step)⟩
                · replace c17 := Bool.eq_false_iff.mpr c17
                  subst c17
                  have H1 : ((pylonref01_signed.f kj12 false (IntKind.u64.wrap (t242 + 1)) (IntKind.u64.wrap (t243 + 1))).bind fun bt249 => (some (bt249.1, bt249.2))) = some (r1, r2) := by rw [if_neg (show ¬ (false = true) by decide)] at H; exact H
                  clear H
                  have H := H1
                  clear H1
                  replace H := Option.bind_eq_some_iff.mp H
                  obtain ⟨⟨t249, t250⟩, A210, H⟩ := H
                  replace H : (some (t249, t250)) = some (r1, r2) := H
                  have A21 := Aside0.mk A210
                  clear A210
                  simp only [Option.some.injEq, Prod.mk.injEq] at H
                  obtain ⟨rfl, rfl⟩ := H
                  go_wp2_with (first | ((with_reducible refine gate_callee (f := 55) rfl ?_); refine goesL_ (some 81) rfl rfl Tryd.func55 (by kernel_rfl) rfl #[.bool false, .int .u64 (IntKind.u64.wrap (t242 + 1)), .int .u64 (IntKind.u64.wrap (t243 + 1))] rfl (by (try simp only [List.map_toArray, List.map_cons, List.map_nil]); first | done | rfl | (simp only [List.length_drop, List.length_take]; rfl)) ?_; (with_reducible refine (pylonref01_signed.calls kj12 false (IntKind.u64.wrap (t242 + 1)) (IntKind.u64.wrap (t243 + 1)) t249 t250 _ A21.out).mono ?_); rintro e w' ⟨rfl, ⟨nd, rfl⟩⟩; refine ⟨_, rfl, ?_⟩))
                  go_ret2
                  exact ⟨by first | rfl | (simp; done) | (simp [*]; done), by repeat (first | exact Drawn0.refl _ | apply Drawn0.step)⟩
              · rw [if_neg c16] at H
                have c16b0 : ((IntKind.u64.wrap (t243 + 1)) == 0) = false := beq_eq_false_iff_ne.mpr c16
                have c16b1 : ((IntKind.u64.wrap (t243 + 1)) != 0) = true := bne_iff_ne.mpr c16
                by_cases c22 : x10_7 = true
                · subst c22
                  have H1 : (if t242 = 0 then ((pylonref01_signed.f kj12 true t242 (IntKind.u64.wrap (t243 + 1))).bind fun bt251 => (some (bt251.1, bt251.2))) else ((pylonref01_signed.f kj12 true t242 (IntKind.u64.wrap (t243 + 1))).bind fun bt253 => (some (bt253.1, bt253.2)))) = some (r1, r2) := by rw [if_pos rfl] at H; exact H
                  clear H
                  have H := H1
                  clear H1
                  by_cases c23 : t242 = 0
                  · rw [if_pos c23] at H
                    have c23b0 : (t242 == 0) = true := beq_iff_eq.mpr c23
                    have c23b1 : (t242 != 0) = false := bne_eq_false_iff_eq.mpr c23
                    clear c23
                    replace H := Option.bind_eq_some_iff.mp H
                    obtain ⟨⟨t251, t252⟩, A240, H⟩ := H
                    replace H : (some (t251, t252)) = some (r1, r2) := H
                    have A24 := Aside0.mk A240
                    clear A240
                    simp only [Option.some.injEq, Prod.mk.injEq] at H
                    obtain ⟨rfl, rfl⟩ := H
                    go_wp2_with (first | ((with_reducible refine gate_callee (f := 55) rfl ?_); refine goesL_ (some 81) rfl rfl Tryd.func55 (by kernel_rfl) rfl #[.bool true, .int .u64 t242, .int .u64 (IntKind.u64.wrap (t243 + 1))] rfl (by (try simp only [List.map_toArray, List.map_cons, List.map_nil]); first | done | rfl | (simp only [List.length_drop, List.length_take]; rfl)) ?_; (with_reducible refine (pylonref01_signed.calls kj12 true t242 (IntKind.u64.wrap (t243 + 1)) t251 t252 _ A24.out).mono ?_); rintro e w' ⟨rfl, ⟨nd, rfl⟩⟩; refine ⟨_, rfl, ?_⟩))
                    go_ret2
                    exact ⟨by first | rfl | (simp; done) | (simp [*]; done), by repeat (first | exact Drawn0.refl _ | apply Drawn0.step)⟩
                  · rw [if_neg c23] at H
                    have c23b0 : (t242 == 0) = false := beq_eq_false_iff_ne.mpr c23
                    have c23b1 : (t242 != 0) = true := bne_iff_ne.mpr c23
                    replace H := Option.bind_eq_some_iff.mp H
                    obtain ⟨⟨t253, t254⟩, A250, H⟩ := H
                    replace H : (some (t253, t254)) = some (r1, r2) := H
                    have A25 := Aside0.mk A250
                    clear A250
                    simp only [Option.some.injEq, Prod.mk.injEq] at H
                    obtain ⟨rfl, rfl⟩ := H
                    go_wp2_with (first | ((with_reducible refine gate_callee (f := 55) rfl ?_); refine goesL_ (some 81) rfl rfl Tryd.func55 (by kernel_rfl) rfl #[.bool true, .int .u64 t242, .int .u64 (IntKind.u64.wrap (t243 + 1))] rfl (by (try simp only [List.map_toArray, List.map_cons, List.map_nil]); first | done | rfl | (simp only [List.length_drop, List.length_take]; rfl)) ?_; (with_reducible refine (pylonref01_signed.calls kj12 true t242 (IntKind.u64.wrap (t243 + 1)) t253 t254 _ A25.out).mono ?_); rintro e w' ⟨rfl, ⟨nd, rfl⟩⟩; refine ⟨_, rfl, ?_⟩))
                    go_ret2
                    exact ⟨by first | rfl | (simp; done) | (simp [*]; done), by repeat (first | exact Drawn0.refl _ | apply Drawn0.step)⟩
                · replace c22 := Bool.eq_false_iff.mpr c22
                  subst c22
                  have H1 : ((pylonref01_signed.f kj12 false t242 (IntKind.u64.wrap (t243 + 1))).bind fun bt255 => (some (bt255.1, bt255.2))) = some (r1, r2) := by rw [if_neg (show ¬ (false = true) by decide)] at H; exact H
                  clear H
                  have H := H1
                  clear H1
                  replace H := Option.bind_eq_some_iff.mp H
                  obtain ⟨⟨t255, t256⟩, A260, H⟩ := H
                  replace H : (some (t255, t256)) = some (r1, r2) := H
                  have A26 := Aside0.mk A260
                  clear A260
                  simp only [Option.some.injEq, Prod.mk.injEq] at H
                  obtain ⟨rfl, rfl⟩ := H
                  go_wp2_with (first | ((with_reducible refine gate_callee (f := 55) rfl ?_); refine goesL_ (some 81) rfl rfl Tryd.func55 (by kernel_rfl) rfl #[.bool false, .int .u64 t242, .int .u64 (IntKind.u64.wrap (t243 + 1))] rfl (by (try simp only [List.map_toArray, List.map_cons, List.map_nil]); first | done | rfl | (simp only [List.length_drop, List.length_take]; rfl)) ?_; (with_reducible refine (pylonref01_signed.calls kj12 false t242 (IntKind.u64.wrap (t243 + 1)) t255 t256 _ A26.out).mono ?_); rintro e w' ⟨rfl, ⟨nd, rfl⟩⟩; refine ⟨_, rfl, ?_⟩))
                  go_ret2
                  exact ⟨by first | rfl | (simp; done) | (simp [*]; done), by repeat (first | exact Drawn0.refl _ | apply Drawn0.step)⟩
            · replace c15 := Bool.eq_false_iff.mpr c15
              subst c15
              have H1 : (if x10_7 = true then (if t242 = 0 then ((pylonref01_signed.f kj12 (t243 != 0) t242 t243).bind fun bt257 => (some (bt257.1, bt257.2))) else ((pylonref01_signed.f kj12 true t242 t243).bind fun bt259 => (some (bt259.1, bt259.2)))) else ((pylonref01_signed.f kj12 false t242 t243).bind fun bt261 => (some (bt261.1, bt261.2)))) = some (r1, r2) := by rw [if_neg (show ¬ (false = true) by decide)] at H; exact H
              clear H
              have H := H1
              clear H1
              by_cases c27 : x10_7 = true
              · subst c27
                have H1 : (if t242 = 0 then ((pylonref01_signed.f kj12 (t243 != 0) t242 t243).bind fun bt257 => (some (bt257.1, bt257.2))) else ((pylonref01_signed.f kj12 true t242 t243).bind fun bt259 => (some (bt259.1, bt259.2)))) = some (r1, r2) := by rw [if_pos rfl] at H; exact H
                clear H
                have H := H1
                clear H1
                by_cases c28 : t242 = 0
                · rw [if_pos c28] at H
                  have c28b0 : (t242 == 0) = true := beq_iff_eq.mpr c28
                  have c28b1 : (t242 != 0) = false := bne_eq_false_iff_eq.mpr c28
                  clear c28
                  replace H := Option.bind_eq_some_iff.mp H
                  obtain ⟨⟨t257, t258⟩, A290, H⟩ := H
                  replace H : (some (t257, t258)) = some (r1, r2) := H
                  have A29 := Aside0.mk A290
                  clear A290
                  simp only [Option.some.injEq, Prod.mk.injEq] at H
                  obtain ⟨rfl, rfl⟩ := H
                  go_wp2_with (first | ((with_reducible refine gate_callee (f := 55) rfl ?_); refine goesL_ (some 81) rfl rfl Tryd.func55 (by kernel_rfl) rfl #[.bool (t243 != 0), .int .u64 t242, .int .u64 t243] rfl (by (try simp only [List.map_toArray, List.map_cons, List.map_nil]); first | done | rfl | (simp only [List.length_drop, List.length_take]; rfl)) ?_; (with_reducible refine (pylonref01_signed.calls kj12 (t243 != 0) t242 t243 t257 t258 _ A29.out).mono ?_); rintro e w' ⟨rfl, ⟨nd, rfl⟩⟩; refine ⟨_, rfl, ?_⟩))
                  go_ret2
                  exact ⟨by first | rfl | (simp; done) | (simp [*]; done), by repeat (first | exact Drawn0.refl _ | apply Drawn0.step)⟩
                · rw [if_neg c28] at H
                  have c28b0 : (t242 == 0) = false := beq_eq_false_iff_ne.mpr c28
                  have c28b1 : (t242 != 0) = true := bne_iff_ne.mpr c28
                  replace H := Option.bind_eq_some_iff.mp H
                  obtain ⟨⟨t259, t260⟩, A300, H⟩ := H
                  replace H : (some (t259, t260)) = some (r1, r2) := H
                  have A30 := Aside0.mk A300
                  clear A300
                  simp only [Option.some.injEq, Prod.mk.injEq] at H
                  obtain ⟨rfl, rfl⟩ := H
                  go_wp2_with (first | ((with_reducible refine gate_callee (f := 55) rfl ?_); refine goesL_ (some 81) rfl rfl Tryd.func55 (by kernel_rfl) rfl #[.bool true, .int .u64 t242, .int .u64 t243] rfl (by (try simp only [List.map_toArray, List.map_cons, List.map_nil]); first | done | rfl | (simp only [List.length_drop, List.length_take]; rfl)) ?_; (with_reducible refine (pylonref01_signed.calls kj12 true t242 t243 t259 t260 _ A30.out).mono ?_); rintro e w' ⟨rfl, ⟨nd, rfl⟩⟩; refine ⟨_, rfl, ?_⟩))
                  go_ret2
                  exact ⟨by first | rfl | (simp; done) | (simp [*]; done), by repeat (first | exact Drawn0.refl _ | apply Drawn0.step)⟩
              · replace c27 := Bool.eq_false_iff.mpr c27
                subst c27
                have H1 : ((pylonref01_signed.f kj12 false t242 t243).bind fun bt261 => (some (bt261.1, bt261.2))) = some (r1, r2) := by rw [if_neg (show ¬ (false = true) by decide)] at H; exact H
                clear H
                have H := H1
                clear H1
                replace H := Option.bind_eq_some_iff.mp H
                obtain ⟨⟨t261, t262⟩, A310, H⟩ := H
                replace H : (some (t261, t262)) = some (r1, r2) := H
                have A31 := Aside0.mk A310
                clear A310
                simp only [Option.some.injEq, Prod.mk.injEq] at H
                obtain ⟨rfl, rfl⟩ := H
                go_wp2_with (first | ((with_reducible refine gate_callee (f := 55) rfl ?_); refine goesL_ (some 81) rfl rfl Tryd.func55 (by kernel_rfl) rfl #[.bool false, .int .u64 t242, .int .u64 t243] rfl (by (try simp only [List.map_toArray, List.map_cons, List.map_nil]); first | done | rfl | (simp only [List.length_drop, List.length_take]; rfl)) ?_; (with_reducible refine (pylonref01_signed.calls kj12 false t242 t243 t261 t262 _ A31.out).mono ?_); rintro e w' ⟨rfl, ⟨nd, rfl⟩⟩; refine ⟨_, rfl, ?_⟩))
                go_ret2
                exact ⟨by first | rfl | (simp; done) | (simp [*]; done), by repeat (first | exact Drawn0.refl _ | apply Drawn0.step)⟩

/-! ### pylonref01_Mul: function 39 -/
def pylonref01_Mul.f (k : Nat) (a0 : Int) (a1 : Int) : Option (Int × Int) := (pylonref01_MulDiv.f k a0 a1 1).bind fun bt263 => (some (bt263.1, bt263.2))
theorem pylonref01_Mul.mono : ∀ a0 a1 k, LeO (pylonref01_Mul.f k a0 a1) (pylonref01_Mul.f (k + 1) a0 a1) := by
  intro a0 a1 k
  unfold pylonref01_Mul.f
  repeat' first
      | (with_reducible exact pylonref01_MulDiv.mono _ _ _ _)
      | (with_reducible exact LeO.refl _)
      | (with_reducible exact LeO.none _)
      | (with_reducible refine LeO.ite ?_ ?_)
      | (with_reducible refine LeO.bind ?_ (fun _ => ?_))
      | exact pylonref01_MulDiv.mono _ _ _ _
      | exact LeO.none _
      | refine LeO.ite ?_ ?_
      | refine LeO.bind ?_ (fun _ => ?_)
set_option maxHeartbeats 8000000 in
set_option maxRecDepth 100000 in
theorem pylonref01_Mul.calls (k : Nat) (a0 : Int) (a1 : Int) (r1 : Int) (r2 : Int) (w : World) (h : pylonref01_Mul.f k a0 a1 = some (r1, r2)) :
    Calls Tryd.prog 39 #[.int .i64 a0, .int .i64 a1] w fun e w' => e = .returned (.tuple #[.int .i64 r1, .int .i64 r2]) ∧ Drawn0 w w' := by
  have H : ((pylonref01_MulDiv.f k a0 a1 1).bind fun bt263 => (some (bt263.1, bt263.2))) = some (r1, r2) := h
  clear h
  replace H := Option.bind_eq_some_iff.mp H
  obtain ⟨⟨t263, t264⟩, A30, H⟩ := H
  replace H : (some (t263, t264)) = some (r1, r2) := H
  have A3 := Aside0.mk A30
  clear A30
  simp only [Option.some.injEq, Prod.mk.injEq] at H
  obtain ⟨rfl, rfl⟩ := H
  go_enter Tryd.func39, Tryd.ntmps39
  go_wp2_with (first | ((with_reducible refine gate_callee (f := 43) rfl ?_); refine goesL_ (some 8) rfl rfl Tryd.func43 (by kernel_rfl) rfl #[.int .i64 a0, .int .i64 a1, .int .i64 1] rfl (by (try simp only [List.map_toArray, List.map_cons, List.map_nil]); first | done | rfl | (simp only [List.length_drop, List.length_take]; rfl)) ?_; (with_reducible refine (pylonref01_MulDiv.calls k a0 a1 1 t263 t264 _ A3.out).mono ?_); rintro e w' ⟨rfl, ⟨nd, rfl⟩⟩; refine ⟨_, rfl, ?_⟩))
  go_ret2
  exact ⟨by first | rfl | (simp; done) | (simp [*]; done), by repeat (first | exact Drawn0.refl _ | apply Drawn0.step)⟩

end Go.Proofs.YthejabcfbbmkeaaDoor.PG
