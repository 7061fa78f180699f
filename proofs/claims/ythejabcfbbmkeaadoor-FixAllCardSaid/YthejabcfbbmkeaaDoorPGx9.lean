-- Written by a program of this session for this claim (wip/print2.sh). Lean checks it.
import Derived.Test.YthejabcfbbmkeaaDoorPGx0
import Derived.Test.YthejabcfbbmkeaaDoorPGx8
namespace Go.Proofs.YthejabcfbbmkeaaDoor.PG
open Go.Proofs.YthejabcfbbmkeaaDoorW.PrintWords
attribute [local go_sem high] fx_eql fx_neq fx_lss fx_leq fx_gtr fx_geq fx_add fx_sub fx_mul fx_neg fx_toint cxx_add cxx_sub cxx_mul cxx_eql cxx_neq cxx_pick st_float st_complex
open Go.RowKit Go.Proofs.YthejabcfbbmkeaaDoorW.PrintWords Go.Proofs.YthejabcfbbmkeaaDoorW.PrintLast Go.Proofs.YthejabcfbbmkeaaDoorW.PrintMore
attribute [local go_sem] max2_int min2_int max_two min_two max_three min_three max_four min_four   -- for this text's walks alone
set_option linter.unusedVariables false
set_option linter.unusedSimpArgs false

/-! ### pylonref01_Sum: function 40 -/
mutual
def pylonref01_Sum.l0 : Nat → List Int → Int → Int → Int → Int → Int → Option (Int × Int)
  | 0, _, _, _, _, _, _ => none
  | k + 1, x0, x4, x5, x6, x7, x8 => if x8 < (x0.length : Int) then (if 0 ≤ x8 then ((pylonref01_mag.f (rd x0 x8)).bind fun t216 => (if (rd x0 x8) ≥ 0 then (if (IntKind.u64.wrap (x5 + t216)) < x5 then (pylonref01_Sum.l0 k x0 (IntKind.u64.wrap (x4 + 1)) (IntKind.u64.wrap (x5 + t216)) x6 x7 (wrap64 (x8 + 1))) else (pylonref01_Sum.l0 k x0 x4 (IntKind.u64.wrap (x5 + t216)) x6 x7 (wrap64 (x8 + 1)))) else (if (IntKind.u64.wrap (x7 + t216)) < x7 then (pylonref01_Sum.l0 k x0 x4 x5 (IntKind.u64.wrap (x6 + 1)) (IntKind.u64.wrap (x7 + t216)) (wrap64 (x8 + 1))) else (pylonref01_Sum.l0 k x0 x4 x5 x6 (IntKind.u64.wrap (x7 + t216)) (wrap64 (x8 + 1)))))) else (none)) else (if x4 > x6 then (pylonref01_Sum.j1 k x4 x5 x6 x7 true) else (if x4 = x6 then (pylonref01_Sum.j1 k x4 x5 x6 x7 (decide (x5 ≥ x7))) else (pylonref01_Sum.j1 k x4 x5 x6 x7 false)))
def pylonref01_Sum.j1 : Nat → Int → Int → Int → Int → Bool → Option (Int × Int)
  | 0, _, _, _, _, _ => none
  | k + 1, x4, x5, x6, x7, x60 => if x60 = true then (if x5 < x7 then (pylonref01_Sum.j2 k x4 x5 x6 x7 1) else (pylonref01_Sum.j2 k x4 x5 x6 x7 0)) else (if x7 < x5 then (pylonref01_Sum.j3 k x4 x5 x6 x7 1) else (pylonref01_Sum.j3 k x4 x5 x6 x7 0))
def pylonref01_Sum.j2 : Nat → Int → Int → Int → Int → Int → Option (Int × Int)
  | 0, _, _, _, _, _ => none
  | k + 1, x4, x5, x6, x7, x10 => (pylonref01_signed.f k false (IntKind.u64.wrap ((IntKind.u64.wrap (x4 - x6)) - x10)) (IntKind.u64.wrap (x5 - x7))).bind fun bt218 => (some (bt218.1, bt218.2))
def pylonref01_Sum.j3 : Nat → Int → Int → Int → Int → Int → Option (Int × Int)
  | 0, _, _, _, _, _ => none
  | k + 1, x4, x5, x6, x7, x11 => (pylonref01_signed.f k true (IntKind.u64.wrap ((IntKind.u64.wrap (x6 - x4)) - x11)) (IntKind.u64.wrap (x7 - x5))).bind fun bt220 => (some (bt220.1, bt220.2))
end
def pylonref01_Sum.f (k : Nat) (l0 : List Int) : Option (Int × Int) := pylonref01_Sum.l0 k l0 0 0 0 0 0
theorem pylonref01_Sum.mono_l : ∀ k, (∀ y0 y1 y2 y3 y4 y5, LeO (pylonref01_Sum.l0 k y0 y1 y2 y3 y4 y5) (pylonref01_Sum.l0 (k + 1) y0 y1 y2 y3 y4 y5)) ∧ (∀ y0 y1 y2 y3 y4, LeO (pylonref01_Sum.j1 k y0 y1 y2 y3 y4) (pylonref01_Sum.j1 (k + 1) y0 y1 y2 y3 y4)) ∧ (∀ y0 y1 y2 y3 y4, LeO (pylonref01_Sum.j2 k y0 y1 y2 y3 y4) (pylonref01_Sum.j2 (k + 1) y0 y1 y2 y3 y4)) ∧ (∀ y0 y1 y2 y3 y4, LeO (pylonref01_Sum.j3 k y0 y1 y2 y3 y4) (pylonref01_Sum.j3 (k + 1) y0 y1 y2 y3 y4))
  | 0 => ⟨fun _ _ _ _ _ _ r h => by simp [pylonref01_Sum.l0] at h, fun _ _ _ _ _ r h => by simp [pylonref01_Sum.j1] at h, fun _ _ _ _ _ r h => by simp [pylonref01_Sum.j2] at h, fun _ _ _ _ _ r h => by simp [pylonref01_Sum.j3] at h⟩
  | k + 1 => by
    obtain ⟨ih0, ih1, ih2, ih3⟩ := pylonref01_Sum.mono_l k
    refine ⟨?_, ?_, ?_, ?_⟩
    · intro y0 y1 y2 y3 y4 y5
      unfold pylonref01_Sum.l0
      repeat' first
      | (with_reducible exact ih0 _ _ _ _ _ _)
      | (with_reducible exact ih1 _ _ _ _ _)
      | (with_reducible exact ih2 _ _ _ _ _)
      | (with_reducible exact ih3 _ _ _ _ _)
      | (with_reducible exact pylonref01_signed.mono _ _ _ _)
      | (with_reducible exact LeO.refl _)
      | (with_reducible exact LeO.none _)
      | (with_reducible refine LeO.ite ?_ ?_)
      | (with_reducible refine LeO.bind ?_ (fun _ => ?_))
      | exact ih0 _ _ _ _ _ _
      | exact ih1 _ _ _ _ _
      | exact ih2 _ _ _ _ _
      | exact ih3 _ _ _ _ _
      | exact pylonref01_signed.mono _ _ _ _
      | exact LeO.none _
      | refine LeO.ite ?_ ?_
      | refine LeO.bind ?_ (fun _ => ?_)
    · intro y0 y1 y2 y3 y4
      unfold pylonref01_Sum.j1
      repeat' first
      | (with_reducible exact ih0 _ _ _ _ _ _)
      | (with_reducible exact ih1 _ _ _ _ _)
      | (with_reducible exact ih2 _ _ _ _ _)
      | (with_reducible exact ih3 _ _ _ _ _)
      | (with_reducible exact pylonref01_signed.mono _ _ _ _)
      | (with_reducible exact LeO.refl _)
      | (with_reducible exact LeO.none _)
      | (with_reducible refine LeO.ite ?_ ?_)
      | (with_reducible refine LeO.bind ?_ (fun _ => ?_))
      | exact ih0 _ _ _ _ _ _
      | exact ih1 _ _ _ _ _
      | exact ih2 _ _ _ _ _
      | exact ih3 _ _ _ _ _
      | exact pylonref01_signed.mono _ _ _ _
      | exact LeO.none _
      | refine LeO.ite ?_ ?_
      | refine LeO.bind ?_ (fun _ => ?_)
    · intro y0 y1 y2 y3 y4
      unfold pylonref01_Sum.j2
      repeat' first
      | (with_reducible exact ih0 _ _ _ _ _ _)
      | (with_reducible exact ih1 _ _ _ _ _)
      | (with_reducible exact ih2 _ _ _ _ _)
      | (with_reducible exact ih3 _ _ _ _ _)
      | (with_reducible exact pylonref01_signed.mono _ _ _ _)
      | (with_reducible exact LeO.refl _)
      | (with_reducible exact LeO.none _)
      | (with_reducible refine LeO.ite ?_ ?_)
      | (with_reducible refine LeO.bind ?_ (fun _ => ?_))
      | exact ih0 _ _ _ _ _ _
      | exact ih1 _ _ _ _ _
      | exact ih2 _ _ _ _ _
      | exact ih3 _ _ _ _ _
      | exact pylonref01_signed.mono _ _ _ _
      | exact LeO.none _
      | refine LeO.ite ?_ ?_
      | refine LeO.bind ?_ (fun _ => ?_)
    · intro y0 y1 y2 y3 y4
      unfold pylonref01_Sum.j3
      repeat' first
      | (with_reducible exact ih0 _ _ _ _ _ _)
      | (with_reducible exact ih1 _ _ _ _ _)
      | (with_reducible exact ih2 _ _ _ _ _)
      | (with_reducible exact ih3 _ _ _ _ _)
      | (with_reducible exact pylonref01_signed.mono _ _ _ _)
      | (with_reducible exact LeO.refl _)
      | (with_reducible exact LeO.none _)
      | (with_reducible refine LeO.ite ?_ ?_)
      | (with_reducible refine LeO.bind ?_ (fun _ => ?_))
      | exact ih0 _ _ _ _ _ _
      | exact ih1 _ _ _ _ _
      | exact ih2 _ _ _ _ _
      | exact ih3 _ _ _ _ _
      | exact pylonref01_signed.mono _ _ _ _
      | exact LeO.none _
      | refine LeO.ite ?_ ?_
      | refine LeO.bind ?_ (fun _ => ?_)
theorem pylonref01_Sum.mono : ∀ a0 k, LeO (pylonref01_Sum.f k a0) (pylonref01_Sum.f (k + 1) a0) := by
  intro a0 k
  obtain ⟨ih0, ih1, ih2, ih3⟩ := pylonref01_Sum.mono_l k
  unfold pylonref01_Sum.f
  repeat' first
      | (with_reducible exact ih0 _ _ _ _ _ _)
      | (with_reducible exact ih1 _ _ _ _ _)
      | (with_reducible exact ih2 _ _ _ _ _)
      | (with_reducible exact ih3 _ _ _ _ _)
      | (with_reducible exact pylonref01_signed.mono _ _ _ _)
      | (with_reducible exact LeO.refl _)
      | (with_reducible exact LeO.none _)
      | (with_reducible refine LeO.ite ?_ ?_)
      | (with_reducible refine LeO.bind ?_ (fun _ => ?_))
      | exact ih0 _ _ _ _ _ _
      | exact ih1 _ _ _ _ _
      | exact ih2 _ _ _ _ _
      | exact ih3 _ _ _ _ _
      | exact pylonref01_signed.mono _ _ _ _
      | exact LeO.none _
      | refine LeO.ite ?_ ?_
      | refine LeO.bind ?_ (fun _ => ?_)
set_option maxHeartbeats 8000000 in
set_option maxRecDepth 100000 in
theorem pylonref01_Sum.calls (k : Nat) (A0 : Option Addr) (c0 : Nat) (l0 : List Int) (r1 : Int) (r2 : Int) (w : World) (hr0 : Kd.C (Kd.int .i64) w A0 l0.length l0) (hc0 : l0.length ≤ c0) (h : pylonref01_Sum.f k l0 = some (r1, r2)) :
    Calls Tryd.prog 40 #[.slice A0 l0.length c0] w fun e w' => e = .returned (.tuple #[.int .i64 r1, .int .i64 r2]) ∧ Drawn0 w w' := by
  have HR0 := Aside0.mk hr0
  have HC0 := Aside0.mk hc0
  clear hr0 hc0
  have H : (pylonref01_Sum.l0 k l0 0 0 0 0 0) = some (r1, r2) := h
  clear h
  have H' := Aside0.mk H
  clear H
  go_enter Tryd.func40, Tryd.ntmps40
  go_wp2
  go_loopg [4, 5, 6, 7, 8] k (fun kq v4 v5 v6 v7 v8 w' => ∃ (x4_1 : Int) (x5_1 : Int) (x6_1 : Int) (x7_1 : Int) (x8_1 : Int), v4 = .int .u64 x4_1 ∧ v5 = .int .u64 x5_1 ∧ v6 = .int .u64 x6_1 ∧ v7 = .int .u64 x7_1 ∧ v8 = .int .i64 x8_1 ∧ Aside0 (pylonref01_Sum.l0 kq l0 x4_1 x5_1 x6_1 x7_1 x8_1 = some (r1, r2)) ∧ Aside0 (kq ≤ k) ∧ Drawn0 w w')
  case atStart => exact ⟨(0), (0), (0), (0), (0), (by first | rfl | (simp; done) | (simp [*]; done)), (by first | rfl | (simp; done) | (simp [*]; done)), (by first | rfl | (simp; done) | (simp [*]; done)), (by first | rfl | (simp; done) | (simp [*]; done)), (by first | rfl | (simp; done) | (simp [*]; done)), H', ⟨Nat.le_refl _⟩, by repeat (first | exact Drawn0.refl _ | apply Drawn0.step)⟩
  case round =>
    clear H'
    obtain ⟨x4_1, x5_1, x6_1, x7_1, x8_1, rfl, rfl, rfl, rfl, rfl, HA, HK1, ⟨m1, rfl⟩⟩ := hrel
    cases gk with
    | zero => exact absurd HA.out (by simp [pylonref01_Sum.l0])
    | succ k1 =>
      have H := HA.out
      clear HA
      simp only [pylonref01_Sum.l0] at H
      by_cases c2 : x8_1 < (l0.length : Int)
      · rw [if_pos c2] at H
        have c2b0 : decide (x8_1 < (l0.length : Int)) = true := decide_eq_true c2
        clear c2
        by_cases c3 : 0 ≤ x8_1
        · rw [if_pos c3] at H
          have c3b0 : decide (0 ≤ x8_1) = true := decide_eq_true c3
          clear c3
          replace H := Option.bind_eq_some_iff.mp H
          obtain ⟨t216, A40, H⟩ := H
          replace H : (if (rd l0 x8_1) ≥ 0 then (if (IntKind.u64.wrap (x5_1 + t216)) < x5_1 then (pylonref01_Sum.l0 k1 l0 (IntKind.u64.wrap (x4_1 + 1)) (IntKind.u64.wrap (x5_1 + t216)) x6_1 x7_1 (wrap64 (x8_1 + 1))) else (pylonref01_Sum.l0 k1 l0 x4_1 (IntKind.u64.wrap (x5_1 + t216)) x6_1 x7_1 (wrap64 (x8_1 + 1)))) else (if (IntKind.u64.wrap (x7_1 + t216)) < x7_1 then (pylonref01_Sum.l0 k1 l0 x4_1 x5_1 (IntKind.u64.wrap (x6_1 + 1)) (IntKind.u64.wrap (x7_1 + t216)) (wrap64 (x8_1 + 1))) else (pylonref01_Sum.l0 k1 l0 x4_1 x5_1 x6_1 (IntKind.u64.wrap (x7_1 + t216)) (wrap64 (x8_1 + 1))))) = some (r1, r2) := H
          have A4 := Aside0.mk A40
          clear A40
          by_cases c5 : (rd l0 x8_1) ≥ 0
          · rw [if_pos c5] at H
            have c5b0 : decide (0 ≤ (rd l0 x8_1)) = true := decide_eq_true c5
            clear c5
            by_cases c6 : (IntKind.u64.wrap (x5_1 + t216)) < x5_1
            · rw [if_pos c6] at H
              have c6b0 : decide ((IntKind.u64.wrap (x5_1 + t216)) < x5_1) = true := decide_eq_true c6
              clear c6
              have H' := Aside0.mk H
              clear H
              have p215 : 0 ≤ (x8_1 : Int) := of_decide_eq_true (by first | (with_reducible assumption) | assumption)
              have q215 : x8_1 < (l0.length : Int) := of_decide_eq_true (by first | (with_reducible assumption) | assumption)
              obtain ⟨ad215, e215, hx215_0⟩ := Kd.at_int HR0.out x8_1 p215 q215
              cases e215
              replace p215 := eq_true p215
              replace q215 := eq_true q215
              go_wp2_with (first | ((with_reducible refine gate_callee (f := 54) rfl ?_); refine goesL_ (some 22) rfl rfl Tryd.func54 (by kernel_rfl) rfl #[.int .i64 (rd l0 x8_1)] rfl (by (try simp only [List.map_toArray, List.map_cons, List.map_nil]); first | done | rfl | (simp only [List.length_drop, List.length_take]; rfl)) ?_; (with_reducible refine (pylonref01_mag.calls (rd l0 x8_1) t216 _ A4.out).mono ?_); rintro e w' ⟨rfl, ⟨nd, rfl⟩⟩; refine ⟨_, rfl, ?_⟩; have p217 : 0 ≤ (x8_1 : Int) := of_decide_eq_true (by first | (with_reducible assumption) | assumption); have q217 : x8_1 < (l0.length : Int) := of_decide_eq_true (by first | (with_reducible assumption) | assumption); obtain ⟨ad217, e217, hx217_0⟩ := Kd.at_int HR0.out x8_1 p217 q217; obtain rfl : ad215 = ad217 := (by injection e217); replace p217 := eq_true p217; replace q217 := eq_true q217))
              go_roundg k1
              case measure => have := HK1.out; omega
              case rel => exact ⟨(IntKind.u64.wrap (x4_1 + 1)), (IntKind.u64.wrap (x5_1 + t216)), (x6_1), (x7_1), (wrap64 (x8_1 + 1)), (by first | rfl | (simp; done) | (simp [*]; done)), (by first | rfl | (simp; done) | (simp [*]; done)), (by first | rfl | (simp; done) | (simp [*]; done)), (by first | rfl | (simp; done) | (simp [*]; done)), (by first | rfl | (simp; done) | (simp [*]; done)), H', ⟨by have := HK1.out; omega⟩, by repeat (first | exact Drawn0.refl _ | apply Drawn0.step)⟩
            · rw [if_neg c6] at H
              have c6b0 : decide ((IntKind.u64.wrap (x5_1 + t216)) < x5_1) = false := decide_eq_false c6
              clear c6
              have H' := Aside0.mk H
              clear H
              have p215 : 0 ≤ (x8_1 : Int) := of_decide_eq_true (by first | (with_reducible assumption) | assumption)
              have q215 : x8_1 < (l0.length : Int) := of_decide_eq_true (by first | (with_reducible assumption) | assumption)
              obtain ⟨ad215, e215, hx215_0⟩ := Kd.at_int HR0.out x8_1 p215 q215
              cases e215
              replace p215 := eq_true p215
              replace q215 := eq_true q215
              go_wp2_with (first | ((with_reducible refine gate_callee (f := 54) rfl ?_); refine goesL_ (some 22) rfl rfl Tryd.func54 (by kernel_rfl) rfl #[.int .i64 (rd l0 x8_1)] rfl (by (try simp only [List.map_toArray, List.map_cons, List.map_nil]); first | done | rfl | (simp only [List.length_drop, List.length_take]; rfl)) ?_; (with_reducible refine (pylonref01_mag.calls (rd l0 x8_1) t216 _ A4.out).mono ?_); rintro e w' ⟨rfl, ⟨nd, rfl⟩⟩; refine ⟨_, rfl, ?_⟩; have p217 : 0 ≤ (x8_1 : Int) := of_decide_eq_true (by first | (with_reducible assumption) | assumption); have q217 : x8_1 < (l0.length : Int) := of_decide_eq_true (by first | (with_reducible assumption) | assumption); obtain ⟨ad217, e217, hx217_0⟩ := Kd.at_int HR0.out x8_1 p217 q217; obtain rfl : ad215 = ad217 := (by injection e217); replace p217 := eq_true p217; replace q217 := eq_true q217))
              go_roundg k1
              case measure => have := HK1.out; omega
              case rel => exact ⟨(x4_1), (IntKind.u64.wrap (x5_1 + t216)), (x6_1), (x7_1), (wrap64 (x8_1 + 1)), (by first | rfl | (simp; done) | (simp [*]; done)), (by first | rfl | (simp; done) | (simp [*]; done)), (by first | rfl | (simp; done) | (simp [*]; done)), (by first | rfl | (simp; done) | (simp [*]; done)), (by first | rfl | (simp; done) | (simp [*]; done)), H', ⟨by have := HK1.out; omega⟩, by repeat (first | exact Drawn0.refl _ | apply Drawn0.step)⟩
          · rw [if_neg c5] at H
            have c5b0 : decide (0 ≤ (rd l0 x8_1)) = false := decide_eq_false c5
            clear c5
            by_cases c7 : (IntKind.u64.wrap (x7_1 + t216)) < x7_1
            · rw [if_pos c7] at H
              have c7b0 : decide ((IntKind.u64.wrap (x7_1 + t216)) < x7_1) = true := decide_eq_true c7
              clear c7
              have H' := Aside0.mk H
              clear H
              have p215 : 0 ≤ (x8_1 : Int) := of_decide_eq_true (by first | (with_reducible assumption) | assumption)
              have q215 : x8_1 < (l0.length : Int) := of_decide_eq_true (by first | (with_reducible assumption) | assumption)
              obtain ⟨ad215, e215, hx215_0⟩ := Kd.at_int HR0.out x8_1 p215 q215
              cases e215
              replace p215 := eq_true p215
              replace q215 := eq_true q215
              go_wp2_with (first | ((with_reducible refine gate_callee (f := 54) rfl ?_); refine goesL_ (some 22) rfl rfl Tryd.func54 (by kernel_rfl) rfl #[.int .i64 (rd l0 x8_1)] rfl (by (try simp only [List.map_toArray, List.map_cons, List.map_nil]); first | done | rfl | (simp only [List.length_drop, List.length_take]; rfl)) ?_; (with_reducible refine (pylonref01_mag.calls (rd l0 x8_1) t216 _ A4.out).mono ?_); rintro e w' ⟨rfl, ⟨nd, rfl⟩⟩; refine ⟨_, rfl, ?_⟩; have p217 : 0 ≤ (x8_1 : Int) := of_decide_eq_true (by first | (with_reducible assumption) | assumption); have q217 : x8_1 < (l0.length : Int) := of_decide_eq_true (by first | (with_reducible assumption) | assumption); obtain ⟨ad217, e217, hx217_0⟩ := Kd.at_int HR0.out x8_1 p217 q217; obtain rfl : ad215 = ad217 := (by injection e217); replace p217 := eq_true p217; replace q217 := eq_true q217))
              go_roundg k1
              case measure => have := HK1.out; omega
              case rel => exact ⟨(x4_1), (x5_1), (IntKind.u64.wrap (x6_1 + 1)), (IntKind.u64.wrap (x7_1 + t216)), (wrap64 (x8_1 + 1)), (by first | rfl | (simp; done) | (simp [*]; done)), (by first | rfl | (simp; done) | (simp [*]; done)), (by first | rfl | (simp; done) | (simp [*]; done)), (by first | rfl | (simp; done) | (simp [*]; done)), (by first | rfl | (simp; done) | (simp [*]; done)), H', ⟨by have := HK1.out; omega⟩, by repeat (first | exact Drawn0.refl _ | apply Drawn0.step)⟩
            · rw [if_neg c7] at H
              have c7b0 : decide ((IntKind.u64.wrap (x7_1 + t216)) < x7_1) = false := decide_eq_false c7
              clear c7
              have H' := Aside0.mk H
              clear H
              have p215 : 0 ≤ (x8_1 : Int) := of_decide_eq_true (by first | (with_reducible assumption) | assumption)
              have q215 : x8_1 < (l0.length : Int) := of_decide_eq_true (by first | (with_reducible assumption) | assumption)
              obtain ⟨ad215, e215, hx215_0⟩ := Kd.at_int HR0.out x8_1 p215 q215
              cases e215
              replace p215 := eq_true p215
              replace q215 := eq_true q215
              go_wp2_with (first | ((with_reducible refine gate_callee (f := 54) rfl ?_); refine goesL_ (some 22) rfl rfl Tryd.func54 (by kernel_rfl) rfl #[.int .i64 (rd l0 x8_1)] rfl (by (try simp only [List.map_toArray, List.map_cons, List.map_nil]); first | done | rfl | (simp only [List.length_drop, List.length_take]; rfl)) ?_; (with_reducible refine (pylonref01_mag.calls (rd l0 x8_1) t216 _ A4.out).mono ?_); rintro e w' ⟨rfl, ⟨nd, rfl⟩⟩; refine ⟨_, rfl, ?_⟩; have p217 : 0 ≤ (x8_1 : Int) := of_decide_eq_true (by first | (with_reducible assumption) | assumption); have q217 : x8_1 < (l0.length : Int) := of_decide_eq_true (by first | (with_reducible assumption) | assumption); obtain ⟨ad217, e217, hx217_0⟩ := Kd.at_int HR0.out x8_1 p217 q217; obtain rfl : ad215 = ad217 := (by injection e217); replace p217 := eq_true p217; replace q217 := eq_true q217))
              go_roundg k1
              case measure => have := HK1.out; omega
              case rel => exact ⟨(x4_1), (x5_1), (x6_1), (IntKind.u64.wrap (x7_1 + t216)), (wrap64 (x8_1 + 1)), (by first | rfl | (simp; done) | (simp [*]; done)), (by first | rfl | (simp; done) | (simp [*]; done)), (by first | rfl | (simp; done) | (simp [*]; done)), (by first | rfl | (simp; done) | (simp [*]; done)), (by first | rfl | (simp; done) | (simp [*]; done)), H', ⟨by have := HK1.out; omega⟩, by repeat (first | exact Drawn0.refl _ | apply Drawn0.step)⟩
        · rw [if_neg c3] at H
          exact absurd H (by simp)
      · rw [if_neg c2] at H
        have c2b0 : decide (x8_1 < (l0.length : Int)) = false := decide_eq_false c2
        clear c2
        have HC8 := Aside0.mk H
        clear H
        go_upto_region 13 with (fail)
        go_cut [60] (fun v60 wc => ∃ (kq : Nat) (x60_7 : Bool), v60 = .bool x60_7 ∧ Aside0 (pylonref01_Sum.j1 kq x4_1 x5_1 x6_1 x7_1 x60_7 = some (r1, r2)) ∧ Aside0 (kq ≤ k1) ∧ Drawn0 w wc)
        case first =>
          have H := HC8.out
          clear HC8
          by_cases c9 : x4_1 > x6_1
          · rw [if_pos c9] at H
            have c9b0 : decide (x6_1 < x4_1) = true := decide_eq_true c9
            clear c9
            (first | rw [c9b0] | (simp only [i64_w, i32_w]; rw [c9b0]) | skip)
            have H' := Aside0.mk H
            clear H
            go_wp2
            go_meet
            case rel => exact ⟨_, (true), (by first | rfl | (simp; done) | (simp [*]; done)), H', ⟨by have := HK1.out; first | omega | exact Nat.le_refl _⟩, by repeat (first | exact Drawn0.refl _ | apply Drawn0.step)⟩
          · rw [if_neg c9] at H
            have c9b0 : decide (x6_1 < x4_1) = false := decide_eq_false c9
            clear c9
            (first | rw [c9b0] | (simp only [i64_w, i32_w]; rw [c9b0]) | skip)
            by_cases c10 : x4_1 = x6_1
            · rw [if_pos c10] at H
              have c10b0 : (x4_1 == x6_1) = true := beq_iff_eq.mpr c10
              have c10b1 : (x4_1 != x6_1) = false := bne_eq_false_iff_eq.mpr c10
              clear c10
              have H' := Aside0.mk H
              clear H
              go_wp2
              go_meet
              case rel => exact ⟨_, (decide (x5_1 ≥ x7_1)), (by first | rfl | (simp; done) | (simp [*]; done) | (by_cases hdp0_ : x5_1 ≥ x7_1 <;> simp [*] <;> done)), H', ⟨by have := HK1.out; first | omega | exact Nat.le_refl _⟩, by repeat (first | exact Drawn0.refl _ | apply Drawn0.step)⟩
            · rw [if_neg c10] at H
              have c10b0 : (x4_1 == x6_1) = false := beq_eq_false_iff_ne.mpr c10
              have c10b1 : (x4_1 != x6_1) = true := bne_iff_ne.mpr c10
              have H' := Aside0.mk H
              clear H
              go_wp2
              go_meet
              case rel => exact ⟨_, (false), (by first | rfl | (simp; done) | (simp [*]; done)), H', ⟨by have := HK1.out; first | omega | exact Nat.le_refl _⟩, by repeat (first | exact Drawn0.refl _ | apply Drawn0.step)⟩
        case rest =>
          clear HC8
          try clear c1
          try clear c2
          try clear c2b0
          try clear p2
          try clear q2
          try clear hx2
          try clear c3
          try clear c3b0
          try clear c4
          try clear c5
          try clear c5b0
          try clear c6
          try clear c6b0
          try clear p6
          try clear c7
          try clear c7b0
          try clear c9
          try clear c9b0
          try clear c10
          try clear c10b0
          try clear c10b1
          try clear hx215_0
          try clear hx217_0
          try clear p215
          try clear p217
          try clear q215
          try clear q217
          obtain ⟨kq, x60_7, rfl, HA, HJ7, ⟨mc7, rfl⟩⟩ := hcut
          cases kq with
          | zero => exact absurd HA.out (by simp [pylonref01_Sum.j1])
          | succ kj7 =>
            have H := HA.out
            clear HA
            simp only [pylonref01_Sum.j1] at H
            by_cases c11 : x60_7 = true
            · subst c11
              have H1 : (if x5_1 < x7_1 then (pylonref01_Sum.j2 kj7 x4_1 x5_1 x6_1 x7_1 1) else (pylonref01_Sum.j2 kj7 x4_1 x5_1 x6_1 x7_1 0)) = some (r1, r2) := by rw [if_pos rfl] at H; exact H
              clear H
              have H := H1
              clear H1
              have HC12 := Aside0.mk H
              clear H
              go_upto_if 63 with (fail)
              go_cut [10] (fun v10 wc => ∃ (kq : Nat) (x10_11 : Int), v10 = .int .u64 x10_11 ∧ Aside0 (pylonref01_Sum.j2 kq x4_1 x5_1 x6_1 x7_1 x10_11 = some (r1, r2)) ∧ Aside0 (kq ≤ kj7) ∧ Drawn0 w wc)
              case first =>
                have H := HC12.out
                clear HC12
                by_cases c13 : x5_1 < x7_1
                · rw [if_pos c13] at H
                  have c13b0 : decide (x5_1 < x7_1) = true := decide_eq_true c13
                  clear c13
                  (first | rw [c13b0] | (simp only [i64_w, i32_w]; rw [c13b0]) | skip)
                  have H' := Aside0.mk H
                  clear H
                  go_wp2
                  go_meet
                  case rel => exact ⟨_, (1), (by first | rfl | (simp; done) | (simp [*]; done)), H', ⟨by have := HK1.out; have := HJ7.out; first | omega | exact Nat.le_refl _⟩, by repeat (first | exact Drawn0.refl _ | apply Drawn0.step)⟩
                · rw [if_neg c13] at H
                  have c13b0 : decide (x5_1 < x7_1) = false := decide_eq_false c13
                  clear c13
                  (first | rw [c13b0] | (simp only [i64_w, i32_w]; rw [c13b0]) | skip)
                  have H' := Aside0.mk H
                  clear H
                  go_wp2
                  go_meet
                  case rel => exact ⟨_, (0), (by first | rfl | (simp; done) | (simp [*]; done)), H', ⟨by have := HK1.out; have := HJ7.out; first | omega | exact Nat.le_refl _⟩, by repeat (first | exact Drawn0.refl _ | apply Drawn0.step)⟩
              case rest =>
                clear HC12
                try clear c1
                try clear c2
                try clear c2b0
                try clear p2
                try clear q2
                try clear hx2
                try clear c3
                try clear c3b0
                try clear c4
                try clear c5
                try clear c5b0
                try clear c6
                try clear c6b0
                try clear p6
                try clear c7
                try clear c7b0
                try clear c9
                try clear c9b0
                try clear c10
                try clear c10b0
                try clear c10b1
                try clear c11
                try clear c13
                try clear c13b0
                try clear hx215_0
                try clear hx217_0
                try clear p2
                try clear p215
                try clear p217
                try clear p6
                try clear q2
                try clear q215
                try clear q217
                obtain ⟨kq, x10_11, rfl, HA, HJ11, ⟨mc11, rfl⟩⟩ := hcut
                cases kq with
                | zero => exact absurd HA.out (by simp [pylonref01_Sum.j2])
                | succ kj11 =>
                  have H := HA.out
                  clear HA
                  simp only [pylonref01_Sum.j2] at H
                  replace H := Option.bind_eq_some_iff.mp H
                  obtain ⟨⟨t218, t219⟩, A140, H⟩ := H
                  replace H : (some (t218, t219)) = some (r1, r2) := H
                  have A14 := Aside0.mk A140
                  clear A140
                  simp only [Option.some.injEq, Prod.mk.injEq] at H
                  obtain ⟨rfl, rfl⟩ := H
                  go_wp2_with (first | ((with_reducible refine gate_callee (f := 55) rfl ?_); refine goesL_ (some 72) rfl rfl Tryd.func55 (by kernel_rfl) rfl #[.bool false, .int .u64 (IntKind.u64.wrap ((IntKind.u64.wrap (x4_1 - x6_1)) - x10_11)), .int .u64 (IntKind.u64.wrap (x5_1 - x7_1))] rfl (by (try simp only [List.map_toArray, List.map_cons, List.map_nil]); first | done | rfl | (simp only [List.length_drop, List.length_take]; rfl)) ?_; (with_reducible refine (pylonref01_signed.calls kj11 false (IntKind.u64.wrap ((IntKind.u64.wrap (x4_1 - x6_1)) - x10_11)) (IntKind.u64.wrap (x5_1 - x7_1)) t218 t219 _ A14.out).mono ?_); rintro e w' ⟨rfl, ⟨nd, rfl⟩⟩; refine ⟨_, rfl, ?_⟩))
                  go_ret2
                  exact ⟨by first | rfl | (simp; done) | (simp [*]; done), by repeat (first | exact Drawn0.refl _ | apply Drawn0.step)⟩
            · replace c11 := Bool.eq_false_iff.mpr c11
              subst c11
              have H1 : (if x7_1 < x5_1 then (pylonref01_Sum.j3 kj7 x4_1 x5_1 x6_1 x7_1 1) else (pylonref01_Sum.j3 kj7 x4_1 x5_1 x6_1 x7_1 0)) = some (r1, r2) := by rw [if_neg (show ¬ (false = true) by decide)] at H; exact H
              clear H
              have H := H1
              clear H1
              have HC15 := Aside0.mk H
              clear H
              go_upto_if 77 with (fail)
              go_cut [11] (fun v11 wc => ∃ (kq : Nat) (x11_14 : Int), v11 = .int .u64 x11_14 ∧ Aside0 (pylonref01_Sum.j3 kq x4_1 x5_1 x6_1 x7_1 x11_14 = some (r1, r2)) ∧ Aside0 (kq ≤ kj7) ∧ Drawn0 w wc)
              case first =>
                have H := HC15.out
                clear HC15
                by_cases c16 : x7_1 < x5_1
                · rw [if_pos c16] at H
                  have c16b0 : decide (x7_1 < x5_1) = true := decide_eq_true c16
                  clear c16
                  (first | rw [c16b0] | (simp only [i64_w, i32_w]; rw [c16b0]) | skip)
                  have H' := Aside0.mk H
                  clear H
                  go_wp2
                  go_meet
                  case rel => exact ⟨_, (1), (by first | rfl | (simp; done) | (simp [*]; done)), H', ⟨by have := HK1.out; have := HJ7.out; first | omega | exact Nat.le_refl _⟩, by repeat (first | exact Drawn0.refl _ | apply Drawn0.step)⟩
                · rw [if_neg c16] at H
                  have c16b0 : decide (x7_1 < x5_1) = false := decide_eq_false c16
                  clear c16
                  (first | rw [c16b0] | (simp only [i64_w, i32_w]; rw [c16b0]) | skip)
                  have H' := Aside0.mk H
                  clear H
                  go_wp2
                  go_meet
                  case rel => exact ⟨_, (0), (by first | rfl | (simp; done) | (simp [*]; done)), H', ⟨by have := HK1.out; have := HJ7.out; first | omega | exact Nat.le_refl _⟩, by repeat (first | exact Drawn0.refl _ | apply Drawn0.step)⟩
              case rest =>
                clear HC15
                try clear c1
                try clear c2
                try clear c2b0
                try clear p2
                try clear q2
                try clear hx2
                try clear c3
                try clear c3b0
                try clear c4
                try clear c5
                try clear c5b0
                try clear c6
                try clear c6b0
                try clear p6
                try clear c7
                try clear c7b0
                try clear c9
                try clear c9b0
                try clear c10
                try clear c10b0
                try clear c10b1
                try clear c11
                try clear c13
                try clear c13b0
                try clear c16
                try clear c16b0
                try clear hx215_0
                try clear hx217_0
                try clear p2
                try clear p215
                try clear p217
                try clear p6
                try clear q2
                try clear q215
                try clear q217
                obtain ⟨kq, x11_14, rfl, HA, HJ14, ⟨mc14, rfl⟩⟩ := hcut
                cases kq with
                | zero => exact absurd HA.out (by simp [pylonref01_Sum.j3])
                | succ kj14 =>
                  have H := HA.out
                  clear HA
                  simp only [pylonref01_Sum.j3] at H
                  replace H := Option.bind_eq_some_iff.mp H
                  obtain ⟨⟨t220, t221⟩, A170, H⟩ := H
                  replace H : (some (t220, t221)) = some (r1, r2) := H
                  have A17 := Aside0.mk A170
                  clear A170
                  simp only [Option.some.injEq, Prod.mk.injEq] at H
                  obtain ⟨rfl, rfl⟩ := H
                  go_wp2_with (first | ((with_reducible refine gate_callee (f := 55) rfl ?_); refine goesL_ (some 86) rfl rfl Tryd.func55 (by kernel_rfl) rfl #[.bool true, .int .u64 (IntKind.u64.wrap ((IntKind.u64.wrap (x6_1 - x4_1)) - x11_14)), .int .u64 (IntKind.u64.wrap (x7_1 - x5_1))] rfl (by (try simp only [List.map_toArray, List.map_cons, List.map_nil]); first | done | rfl | (simp only [List.length_drop, List.length_take]; rfl)) ?_; (with_reducible refine (pylonref01_signed.calls kj14 true (IntKind.u64.wrap ((IntKind.u64.wrap (x6_1 - x4_1)) - x11_14)) (IntKind.u64.wrap (x7_1 - x5_1)) t220 t221 _ A17.out).mono ?_); rintro e w' ⟨rfl, ⟨nd, rfl⟩⟩; refine ⟨_, rfl, ?_⟩))
                  go_ret2
                  exact ⟨by first | rfl | (simp; done) | (simp [*]; done), by repeat (first | exact Drawn0.refl _ | apply Drawn0.step)⟩

/-! ### pylonref01_Add: function 37 -/
def pylonref01_Add.f (k : Nat) (a0 : Int) (a1 : Int) : Option (Int × Int) := (pylonref01_Sum.f k (([a0, a1] : List Int))).bind fun bt225 => (some (bt225.1, bt225.2))
theorem pylonref01_Add.mono : ∀ a0 a1 k, LeO (pylonref01_Add.f k a0 a1) (pylonref01_Add.f (k + 1) a0 a1) := by
  intro a0 a1 k
  unfold pylonref01_Add.f
  repeat' first
      | (with_reducible exact pylonref01_Sum.mono _ _)
      | (with_reducible exact LeO.refl _)
      | (with_reducible exact LeO.none _)
      | (with_reducible refine LeO.ite ?_ ?_)
      | (with_reducible refine LeO.bind ?_ (fun _ => ?_))
      | exact pylonref01_Sum.mono _ _
      | exact LeO.none _
      | refine LeO.ite ?_ ?_
      | refine LeO.bind ?_ (fun _ => ?_)
set_option maxHeartbeats 8000000 in
set_option maxRecDepth 100000 in
theorem pylonref01_Add.calls (k : Nat) (a0 : Int) (a1 : Int) (r1 : Int) (r2 : Int) (w : World) (h : pylonref01_Add.f k a0 a1 = some (r1, r2)) :
    Calls Tryd.prog 37 #[.int .i64 a0, .int .i64 a1] w fun e w' => e = .returned (.tuple #[.int .i64 r1, .int .i64 r2]) ∧ Below w.heap.size w w' := by
  have HB := Aside0.mk (Below.refl w.heap.size w)
  have H : ((pylonref01_Sum.f k (([a0, a1] : List Int))).bind fun bt225 => (some (bt225.1, bt225.2))) = some (r1, r2) := h
  clear h
  obtain ⟨y222, hy222⟩ : ∃ y_ : List Int, y_ = (([a0, a1] : List Int)) := ⟨_, rfl⟩
  replace H : ((pylonref01_Sum.f k y222).bind fun bt225 => (some (bt225.1, bt225.2))) = some (r1, r2) := by first | (rw [hy222]; with_reducible exact H) | (have H2_ := (Option.bind_some _ _).symm.trans H; rw [hy222]; with_reducible exact H2_) | (have H2_ := (Option.bind_some _ _).symm.trans H; with_reducible exact H2_) | with_reducible exact H | (rw [hy222]; exact H) | exact H
  have Ny222 := Aside0.mk hy222
  clear hy222
  replace H := Option.bind_eq_some_iff.mp H
  obtain ⟨⟨t225, t226⟩, A30, H⟩ := H
  replace H : (some (t225, t226)) = some (r1, r2) := H
  have A3 := Aside0.mk A30
  clear A30
  simp only [Option.some.injEq, Prod.mk.injEq] at H
  obtain ⟨rfl, rfl⟩ := H
  go_enter Tryd.func37, Tryd.ntmps37
  go_wp2_with (first | ((with_reducible refine gate_dst (N := 8) rfl ?_); refine Kd.R_lit (Kd.int .i64) _ 2 ?hg (N := 8) ?hd (xs := ([a0, a1] : List Int)) (inner := [.int .i64 a0, .int .i64 a1]) (ok := fun _ => True) (okp := fun _ => True) ?hr ?hp (fun _ hk => hk) trivial (Below.refl _ _) (Nat.le_refl _) (by simp) ?_; (case hd => rfl); (case hg => rfl); (case hr => first | (go_simp; done) | (go_simp; rfl)); (case hp => exact (Reps.one (show Kd.M (Kd.int .i64) _ _ _ a0 [.int .i64 a0] from rfl) (Reps.one (show Kd.M (Kd.int .i64) _ _ _ a1 [.int .i64 a1] from rfl) (Reps.none _ _)))); intro v223 w4 ho5 hb hg_ hnew_; clear hg_ hnew_; (first | rw [← Ny222.out] at ho5 | (simp only [Int.reduceToNat] at ho5; rw [← Ny222.out] at ho5)); have n0_ := Aside0.mk (Kd.R_lower ho5 (below_size (by repeat (first | (with_reducible first | exact HB.out | apply below_alloc | apply pw_below_drewN | apply below_drew1) | exact HB.out)))); have n1_ := Aside0.mk (below_step (by repeat (first | (with_reducible first | exact HB.out | apply below_alloc | apply pw_below_drewN | apply below_drew1) | exact HB.out)) hb); clear HB; have HO224 := n0_; have HB := n1_; clear n0_ n1_; clear hb ho5; obtain ⟨Ao6, co6, eo6⟩ := Kd.R_slice HO224.out; subst eo6) | ((with_reducible refine gate_callee (f := 40) rfl ?_); refine goesL_ (some 9) rfl rfl Tryd.func40 (by kernel_rfl) rfl #[.slice Ao6 y222.length co6] rfl (by (try simp only [List.map_toArray, List.map_cons, List.map_nil]); first | done | rfl | (simp only [List.length_drop, List.length_take]; rfl)) ?_; (with_reducible refine (pylonref01_Sum.calls k _ _ y222 t225 t226 _ ?side1 ?side2 A3.out).mono ?_); (case side1 => repeat (first | exact (Kd.R_reads' HO224.out).2.2 | (with_reducible refine Kd.C_alloc ?_ _) | (with_reducible refine Kd.C_drewN ?_ _) | (with_reducible refine Kd.C_drew ?_))); (case side2 => exact (Kd.R_reads' HO224.out).2.1); rintro e w' ⟨rfl, ⟨nd, rfl⟩⟩; refine ⟨_, rfl, ?_⟩))
  go_ret2
  exact ⟨by first | rfl | (simp [errW_none, errW_some] <;> rfl) | (simp [*, errW_none, errW_some] <;> rfl), by repeat (first | (with_reducible first | exact HB.out | apply below_alloc | apply pw_below_drewN | apply below_drew1) | exact HB.out)⟩

/-! ### pylonref01_Sub: function 38 -/
def pylonref01_Sub.f (k : Nat) (a0 : Int) (a1 : Int) : Option (Int × Int) := if a1 ≥ 0 then ((pylonref01_Sum.f k (([a0, wrap64 (-a1)] : List Int))).bind fun bt230 => (some (bt230.1, bt230.2))) else ((pylonref01_Sum.f k (([a0, wrap64 (-(wrap64 (a1 + 1))), 1] : List Int))).bind fun bt235 => (some (bt235.1, bt235.2)))
theorem pylonref01_Sub.mono : ∀ a0 a1 k, LeO (pylonref01_Sub.f k a0 a1) (pylonref01_Sub.f (k + 1) a0 a1) := by
  intro a0 a1 k
  unfold pylonref01_Sub.f
  repeat' first
      | (with_reducible exact pylonref01_Sum.mono _ _)
      | (with_reducible exact LeO.refl _)
      | (with_reducible exact LeO.none _)
      | (with_reducible refine LeO.ite ?_ ?_)
      | (with_reducible refine LeO.bind ?_ (fun _ => ?_))
      | exact pylonref01_Sum.mono _ _
      | exact LeO.none _
      | refine LeO.ite ?_ ?_
      | refine LeO.bind ?_ (fun _ => ?_)
set_option maxHeartbeats 8000000 in
set_option maxRecDepth 100000 in
theorem pylonref01_Sub.calls (k : Nat) (a0 : Int) (a1 : Int) (r1 : Int) (r2 : Int) (w : World) (h : pylonref01_Sub.f k a0 a1 = some (r1, r2)) :
    Calls Tryd.prog 38 #[.int .i64 a0, .int .i64 a1] w fun e w' => e = .returned (.tuple #[.int .i64 r1, .int .i64 r2]) ∧ Below w.heap.size w w' := by
  have HB := Aside0.mk (Below.refl w.heap.size w)
  have H : (if a1 ≥ 0 then ((pylonref01_Sum.f k (([a0, wrap64 (-a1)] : List Int))).bind fun bt230 => (some (bt230.1, bt230.2))) else ((pylonref01_Sum.f k (([a0, wrap64 (-(wrap64 (a1 + 1))), 1] : List Int))).bind fun bt235 => (some (bt235.1, bt235.2)))) = some (r1, r2) := h
  clear h
  by_cases c3 : a1 ≥ 0
  · rw [if_pos c3] at H
    have c3b0 : decide (0 ≤ a1) = true := decide_eq_true c3
    clear c3
    obtain ⟨y227, hy227⟩ : ∃ y_ : List Int, y_ = (([a0, wrap64 (-a1)] : List Int)) := ⟨_, rfl⟩
    replace H : ((pylonref01_Sum.f k y227).bind fun bt230 => (some (bt230.1, bt230.2))) = some (r1, r2) := by first | (rw [hy227]; with_reducible exact H) | (have H2_ := (Option.bind_some _ _).symm.trans H; rw [hy227]; with_reducible exact H2_) | (have H2_ := (Option.bind_some _ _).symm.trans H; with_reducible exact H2_) | with_reducible exact H | (rw [hy227]; exact H) | exact H
    have Ny227 := Aside0.mk hy227
    clear hy227
    replace H := Option.bind_eq_some_iff.mp H
    obtain ⟨⟨t230, t231⟩, A40, H⟩ := H
    replace H : (some (t230, t231)) = some (r1, r2) := H
    have A4 := Aside0.mk A40
    clear A40
    simp only [Option.some.injEq, Prod.mk.injEq] at H
    obtain ⟨rfl, rfl⟩ := H
    go_enter Tryd.func38, Tryd.ntmps38
    go_wp2_with (first | ((with_reducible refine gate_dst (N := 11) rfl ?_); refine Kd.R_lit (Kd.int .i64) _ 2 ?hg (N := 11) ?hd (xs := ([a0, wrap64 (-a1)] : List Int)) (inner := [.int .i64 a0, .int .i64 (wrap64 (-a1))]) (ok := fun _ => True) (okp := fun _ => True) ?hr ?hp (fun _ hk => hk) trivial (Below.refl _ _) (Nat.le_refl _) (by simp) ?_; (case hd => rfl); (case hg => rfl); (case hr => first | (go_simp; done) | (go_simp; rfl)); (case hp => exact (Reps.one (show Kd.M (Kd.int .i64) _ _ _ a0 [.int .i64 a0] from rfl) (Reps.one (show Kd.M (Kd.int .i64) _ _ _ (wrap64 (-a1)) [.int .i64 (wrap64 (-a1))] from rfl) (Reps.none _ _)))); intro v228 w5 ho6 hb hg_ hnew_; clear hg_ hnew_; (first | rw [← Ny227.out] at ho6 | (simp only [Int.reduceToNat] at ho6; rw [← Ny227.out] at ho6)); have n0_ := Aside0.mk (Kd.R_lower ho6 (below_size (by repeat (first | (with_reducible first | exact HB.out | apply below_alloc | apply pw_below_drewN | apply below_drew1) | exact HB.out)))); have n1_ := Aside0.mk (below_step (by repeat (first | (with_reducible first | exact HB.out | apply below_alloc | apply pw_below_drewN | apply below_drew1) | exact HB.out)) hb); clear HB; have HO229 := n0_; have HB := n1_; clear n0_ n1_; clear hb ho6; obtain ⟨Ao7, co7, eo7⟩ := Kd.R_slice HO229.out; subst eo7) | ((with_reducible refine gate_callee (f := 40) rfl ?_); refine goesL_ (some 12) rfl rfl Tryd.func40 (by kernel_rfl) rfl #[.slice Ao7 y227.length co7] rfl (by (try simp only [List.map_toArray, List.map_cons, List.map_nil]); first | done | rfl | (simp only [List.length_drop, List.length_take]; rfl)) ?_; (with_reducible refine (pylonref01_Sum.calls k _ _ y227 t230 t231 _ ?side1 ?side2 A4.out).mono ?_); (case side1 => repeat (first | exact (Kd.R_reads' HO229.out).2.2 | (with_reducible refine Kd.C_alloc ?_ _) | (with_reducible refine Kd.C_drewN ?_ _) | (with_reducible refine Kd.C_drew ?_))); (case side2 => exact (Kd.R_reads' HO229.out).2.1); rintro e w' ⟨rfl, ⟨nd, rfl⟩⟩; refine ⟨_, rfl, ?_⟩))
    go_ret2
    exact ⟨by first | rfl | (simp [errW_none, errW_some] <;> rfl) | (simp [*, errW_none, errW_some] <;> rfl), by repeat (first | (with_reducible first | exact HB.out | apply below_alloc | apply pw_below_drewN | apply below_drew1) | exact HB.out)⟩
  · rw [if_neg c3] at H
    have c3b0 : decide (0 ≤ a1) = false := decide_eq_false c3
    clear c3
    obtain ⟨y232, hy232⟩ : ∃ y_ : List Int, y_ = (([a0, wrap64 (-(wrap64 (a1 + 1))), 1] : List Int)) := ⟨_, rfl⟩
    replace H : ((pylonref01_Sum.f k y232).bind fun bt235 => (some (bt235.1, bt235.2))) = some (r1, r2) := by first | (rw [hy232]; with_reducible exact H) | (have H2_ := (Option.bind_some _ _).symm.trans H; rw [hy232]; with_reducible exact H2_) | (have H2_ := (Option.bind_some _ _).symm.trans H; with_reducible exact H2_) | with_reducible exact H | (rw [hy232]; exact H) | exact H
    have Ny232 := Aside0.mk hy232
    clear hy232
    replace H := Option.bind_eq_some_iff.mp H
    obtain ⟨⟨t235, t236⟩, A80, H⟩ := H
    replace H : (some (t235, t236)) = some (r1, r2) := H
    have A8 := Aside0.mk A80
    clear A80
    simp only [Option.some.injEq, Prod.mk.injEq] at H
    obtain ⟨rfl, rfl⟩ := H
    go_enter Tryd.func38, Tryd.ntmps38
    go_wp2_with (first | ((with_reducible refine gate_dst (N := 19) rfl ?_); refine Kd.R_lit (Kd.int .i64) _ 2 ?hg (N := 19) ?hd (xs := ([a0, wrap64 (-(wrap64 (a1 + 1))), 1] : List Int)) (inner := [.int .i64 a0, .int .i64 (wrap64 (-(wrap64 (a1 + 1)))), .int .i64 1]) (ok := fun _ => True) (okp := fun _ => True) ?hr ?hp (fun _ hk => hk) trivial (Below.refl _ _) (Nat.le_refl _) (by simp) ?_; (case hd => rfl); (case hg => rfl); (case hr => first | (go_simp; done) | (go_simp; rfl)); (case hp => exact (Reps.one (show Kd.M (Kd.int .i64) _ _ _ a0 [.int .i64 a0] from rfl) (Reps.one (show Kd.M (Kd.int .i64) _ _ _ (wrap64 (-(wrap64 (a1 + 1)))) [.int .i64 (wrap64 (-(wrap64 (a1 + 1))))] from rfl) (Reps.one (show Kd.M (Kd.int .i64) _ _ _ 1 [.int .i64 1] from rfl) (Reps.none _ _))))); intro v233 w9 ho10 hb hg_ hnew_; clear hg_ hnew_; (first | rw [← Ny232.out] at ho10 | (simp only [Int.reduceToNat] at ho10; rw [← Ny232.out] at ho10)); have n0_ := Aside0.mk (Kd.R_lower ho10 (below_size (by repeat (first | (with_reducible first | exact HB.out | apply below_alloc | apply pw_below_drewN | apply below_drew1) | exact HB.out)))); have n1_ := Aside0.mk (below_step (by repeat (first | (with_reducible first | exact HB.out | apply below_alloc | apply pw_below_drewN | apply below_drew1) | exact HB.out)) hb); clear HB; have HO234 := n0_; have HB := n1_; clear n0_ n1_; clear hb ho10; obtain ⟨Ao11, co11, eo11⟩ := Kd.R_slice HO234.out; subst eo11) | ((with_reducible refine gate_callee (f := 40) rfl ?_); refine goesL_ (some 20) rfl rfl Tryd.func40 (by kernel_rfl) rfl #[.slice Ao11 y232.length co11] rfl (by (try simp only [List.map_toArray, List.map_cons, List.map_nil]); first | done | rfl | (simp only [List.length_drop, List.length_take]; rfl)) ?_; (with_reducible refine (pylonref01_Sum.calls k _ _ y232 t235 t236 _ ?side1 ?side2 A8.out).mono ?_); (case side1 => repeat (first | exact (Kd.R_reads' HO234.out).2.2 | (with_reducible refine Kd.C_alloc ?_ _) | (with_reducible refine Kd.C_drewN ?_ _) | (with_reducible refine Kd.C_drew ?_))); (case side2 => exact (Kd.R_reads' HO234.out).2.1); rintro e w' ⟨rfl, ⟨nd, rfl⟩⟩; refine ⟨_, rfl, ?_⟩))
    go_ret2
    exact ⟨by first | rfl | (simp [errW_none, errW_some] <;> rfl) | (simp [*, errW_none, errW_some] <;> rfl), by repeat (first | (with_reducible first | exact HB.out | apply below_alloc | apply pw_below_drewN | apply below_drew1) | exact HB.out)⟩

/-! ### pylonref01_product: function 56 -/
def pylonref01_product.f (a0 : Int) (a1 : Int) : Option (Int × Int) := some (IntKind.u64.wrap ((IntKind.u64.wrap ((IntKind.u64.wrap ((a0 / 4294967296) * (a1 / 4294967296))) + ((IntKind.u64.wrap ((IntKind.u64.wrap ((a0 / 4294967296) * (Int.tmod a1 4294967296))) + ((IntKind.u64.wrap ((Int.tmod a0 4294967296) * (Int.tmod a1 4294967296))) / 4294967296))) / 4294967296))) + ((IntKind.u64.wrap ((IntKind.u64.wrap ((Int.tmod a0 4294967296) * (a1 / 4294967296))) + (Int.tmod (IntKind.u64.wrap ((IntKind.u64.wrap ((a0 / 4294967296) * (Int.tmod a1 4294967296))) + ((IntKind.u64.wrap ((Int.tmod a0 4294967296) * (Int.tmod a1 4294967296))) / 4294967296))) 4294967296))) / 4294967296)), IntKind.u64.wrap ((IntKind.u64.wrap ((IntKind.u64.wrap ((IntKind.u64.wrap ((Int.tmod a0 4294967296) * (a1 / 4294967296))) + (Int.tmod (IntKind.u64.wrap ((IntKind.u64.wrap ((a0 / 4294967296) * (Int.tmod a1 4294967296))) + ((IntKind.u64.wrap ((Int.tmod a0 4294967296) * (Int.tmod a1 4294967296))) / 4294967296))) 4294967296))) * 4294967296)) + (Int.tmod (IntKind.u64.wrap ((Int.tmod a0 4294967296) * (Int.tmod a1 4294967296))) 4294967296)))
set_option maxHeartbeats 8000000 in
set_option maxRecDepth 100000 in
theorem pylonref01_product.calls (a0 : Int) (a1 : Int) (r1 : Int) (r2 : Int) (w : World) (h : pylonref01_product.f a0 a1 = some (r1, r2)) :
    Calls Tryd.prog 56 #[.int .u64 a0, .int .u64 a1] w fun e w' => e = .returned (.tuple #[.int .u64 r1, .int .u64 r2]) ∧ Drawn0 w w' := by
  have H : (some (IntKind.u64.wrap ((IntKind.u64.wrap ((IntKind.u64.wrap ((a0 / 4294967296) * (a1 / 4294967296))) + ((IntKind.u64.wrap ((IntKind.u64.wrap ((a0 / 4294967296) * (Int.tmod a1 4294967296))) + ((IntKind.u64.wrap ((Int.tmod a0 4294967296) * (Int.tmod a1 4294967296))) / 4294967296))) / 4294967296))) + ((IntKind.u64.wrap ((IntKind.u64.wrap ((Int.tmod a0 4294967296) * (a1 / 4294967296))) + (Int.tmod (IntKind.u64.wrap ((IntKind.u64.wrap ((a0 / 4294967296) * (Int.tmod a1 4294967296))) + ((IntKind.u64.wrap ((Int.tmod a0 4294967296) * (Int.tmod a1 4294967296))) / 4294967296))) 4294967296))) / 4294967296)), IntKind.u64.wrap ((IntKind.u64.wrap ((IntKind.u64.wrap ((IntKind.u64.wrap ((Int.tmod a0 4294967296) * (a1 / 4294967296))) + (Int.tmod (IntKind.u64.wrap ((IntKind.u64.wrap ((a0 / 4294967296) * (Int.tmod a1 4294967296))) + ((IntKind.u64.wrap ((Int.tmod a0 4294967296) * (Int.tmod a1 4294967296))) / 4294967296))) 4294967296))) * 4294967296)) + (Int.tmod (IntKind.u64.wrap ((Int.tmod a0 4294967296) * (Int.tmod a1 4294967296))) 4294967296)))) = some (r1, r2) := h
  clear h
  simp only [Option.some.injEq, Prod.mk.injEq] at H
  obtain ⟨rfl, rfl⟩ := H
  go_enter Tryd.func56, Tryd.ntmps56
  go_wp2
  go_ret2
  exact ⟨by first | rfl | (simp; done) | (simp [*]; done), by repeat (first | exact Drawn0.refl _ | apply Drawn0.step)⟩

end Go.Proofs.YthejabcfbbmkeaaDoor.PG
