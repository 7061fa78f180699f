-- Written by a program of this session for this claim (wip/print2.sh). Lean checks it.
import Derived.Test.YthejabcfbbmkeaaPBx0
import Derived.Test.YthejabcfbbmkeaaPBx5
import Derived.Test.YthejabcfbbmkeaaPBx6
namespace Go.Proofs.Ythejabcfbbmkeaa.PB
open Go.Proofs.YthejabcfbbmkeaaW.PrintWords
attribute [local go_sem high] fx_eql fx_neq fx_lss fx_leq fx_gtr fx_geq fx_add fx_sub fx_mul fx_neg fx_toint cxx_add cxx_sub cxx_mul cxx_eql cxx_neq cxx_pick st_float st_complex
open Go.RowKit Go.Proofs.YthejabcfbbmkeaaW.PrintWords Go.Proofs.YthejabcfbbmkeaaW.PrintLast Go.Proofs.YthejabcfbbmkeaaW.PrintMore
attribute [local go_sem] max2_int min2_int max_two min_two max_three min_three max_four min_four   -- for this text's walks alone
set_option linter.unusedVariables false
set_option linter.unusedSimpArgs false

/-! ### pylonref01_Half: function 20 -/
def pylonref01_Half.f (k : Nat) (a0 : Int) (a1 : Int) : Option (Int × Int) := (pylonref01_MulDiv.f k a0 1 a1).bind fun bt174 => (some (bt174.1, bt174.2))
theorem pylonref01_Half.mono : ∀ a0 a1 k, LeO (pylonref01_Half.f k a0 a1) (pylonref01_Half.f (k + 1) a0 a1) := by
  intro a0 a1 k
  unfold pylonref01_Half.f
  repeat' first
      | (with_reducible exact pylonref01_MulDiv.mono _ _ _ _)
      | (with_reducible exact LeO.refl _)
      | (with_reducible exact LeO.none _)
      | (with_reducible refine LeO.ite ?_ ?_)
      | (with_reducible refine LeO.bind ?_ (fun _ => ?_))
      | exact pylonref01_MulDiv.mono _ _ _ _
      | exact LeO.none _
      | refine LeO.ite ?_ ?_
      | refine LeO.bind ?_ (fun _ => ?_)
set_option maxHeartbeats 8000000 in
set_option maxRecDepth 100000 in
theorem pylonref01_Half.calls (k : Nat) (a0 : Int) (a1 : Int) (r1 : Int) (r2 : Int) (w : World) (h : pylonref01_Half.f k a0 a1 = some (r1, r2)) :
    Calls Try.prog 20 #[.int .i64 a0, .int .i64 a1] w fun e w' => e = .returned (.tuple #[.int .i64 r1, .int .i64 r2]) ∧ Drawn0 w w' := by
  have H : ((pylonref01_MulDiv.f k a0 1 a1).bind fun bt174 => (some (bt174.1, bt174.2))) = some (r1, r2) := h
  clear h
  replace H := Option.bind_eq_some_iff.mp H
  obtain ⟨⟨t174, t175⟩, A30, H⟩ := H
  replace H : (some (t174, t175)) = some (r1, r2) := H
  have A3 := Aside0.mk A30
  clear A30
  simp only [Option.some.injEq, Prod.mk.injEq] at H
  obtain ⟨rfl, rfl⟩ := H
  go_enter Try.func20, Try.ntmps20
  go_wp2_with (first | ((with_reducible refine gate_callee (f := 18) rfl ?_); refine goesL_ (some 8) rfl rfl Try.func18 (by kernel_rfl) rfl #[.int .i64 a0, .int .i64 1, .int .i64 a1] rfl (by (try simp only [List.map_toArray, List.map_cons, List.map_nil]); first | done | rfl | (simp only [List.length_drop, List.length_take]; rfl)) ?_; (with_reducible refine (pylonref01_MulDiv.calls k a0 1 a1 t174 t175 _ A3.out).mono ?_); rintro e w' ⟨rfl, ⟨nd, rfl⟩⟩; refine ⟨_, rfl, ?_⟩))
  go_ret2
  exact ⟨by first | rfl | (simp; done) | (simp [*]; done), by repeat (first | exact Drawn0.refl _ | apply Drawn0.step)⟩

/-! ### pylonref01_Sum: function 30 -/
mutual
def pylonref01_Sum.l0 : Nat → List Int → Int → Int → Int → Int → Int → Option (Int × Int)
  | 0, _, _, _, _, _, _ => none
  | k + 1, x0, x4, x5, x6, x7, x8 => if x8 < (x0.length : Int) then (if 0 ≤ x8 then ((pylonref01_mag.f (rd x0 x8)).bind fun t177 => (if (rd x0 x8) ≥ 0 then (if (IntKind.u64.wrap (x5 + t177)) < x5 then (pylonref01_Sum.l0 k x0 (IntKind.u64.wrap (x4 + 1)) (IntKind.u64.wrap (x5 + t177)) x6 x7 (wrap64 (x8 + 1))) else (pylonref01_Sum.l0 k x0 x4 (IntKind.u64.wrap (x5 + t177)) x6 x7 (wrap64 (x8 + 1)))) else (if (IntKind.u64.wrap (x7 + t177)) < x7 then (pylonref01_Sum.l0 k x0 x4 x5 (IntKind.u64.wrap (x6 + 1)) (IntKind.u64.wrap (x7 + t177)) (wrap64 (x8 + 1))) else (pylonref01_Sum.l0 k x0 x4 x5 x6 (IntKind.u64.wrap (x7 + t177)) (wrap64 (x8 + 1)))))) else (none)) else (if x4 > x6 then (pylonref01_Sum.j1 k x4 x5 x6 x7 true) else (if x4 = x6 then (pylonref01_Sum.j1 k x4 x5 x6 x7 (decide (x5 ≥ x7))) else (pylonref01_Sum.j1 k x4 x5 x6 x7 false)))
def pylonref01_Sum.j1 : Nat → Int → Int → Int → Int → Bool → Option (Int × Int)
  | 0, _, _, _, _, _ => none
  | k + 1, x4, x5, x6, x7, x60 => if x60 = true then (if x5 < x7 then (pylonref01_Sum.j2 k x4 x5 x6 x7 1) else (pylonref01_Sum.j2 k x4 x5 x6 x7 0)) else (if x7 < x5 then (pylonref01_Sum.j3 k x4 x5 x6 x7 1) else (pylonref01_Sum.j3 k x4 x5 x6 x7 0))
def pylonref01_Sum.j2 : Nat → Int → Int → Int → Int → Int → Option (Int × Int)
  | 0, _, _, _, _, _ => none
  | k + 1, x4, x5, x6, x7, x10 => (pylonref01_signed.f k false (IntKind.u64.wrap ((IntKind.u64.wrap (x4 - x6)) - x10)) (IntKind.u64.wrap (x5 - x7))).bind fun bt179 => (some (bt179.1, bt179.2))
def pylonref01_Sum.j3 : Nat → Int → Int → Int → Int → Int → Option (Int × Int)
  | 0, _, _, _, _, _ => none
  | k + 1, x4, x5, x6, x7, x11 => (pylonref01_signed.f k true (IntKind.u64.wrap ((IntKind.u64.wrap (x6 - x4)) - x11)) (IntKind.u64.wrap (x7 - x5))).bind fun bt181 => (some (bt181.1, bt181.2))
end
def pylonref01_Sum.f (k : Nat) (l0 : List Int) : Option (Int × Int) := pylonref01_Sum.l0 k l0 0 0 0 0 0
theorem pylonref01_Sum.mono_l : ∀ k, (∀ y0 y1 y2 y3 y4 y5, LeO (pylonref01_Sum.l0 k y0 y1 y2 y3 y4 y5) (pylonref01_Sum.l0 (k + 1) y0 y1 y2 y3 y4 y5)) ∧ (∀ y0 y1 y2 y3 y4, LeO (pylonref01_Sum.j1 k y0 y1 y2 y3 y4) (pylonref01_Sum.j1 (k + 1) y0 y1 y2 y3 y4)) ∧ (∀ y0 y1 y2 y3 y4, LeO (pylonref01_Sum.j2 k y0 y1 y2 y3 y4) (pylonref01_Sum.j2 (k + 1) y0 y1 y2 y3 y4)) ∧ (∀ y0 y1 y2 y3 y4, LeO (pylonref01_Sum.j3 k y0 y1 y2 y3 y4) (pylonref01_Sum.j3 (k + 1) y0 y1 y2 y3 y4))
  | 0 => ⟨fun _ _ _ _ _ _ r h => by simp [pylonref01_Sum.l0] at h, fun _ _ _ _ _ r h => by simp [pylonref01_Sum.j1] at h, fun _ _ _ _ _ r h => by simp [pylonref01_Sum.j2] at h, fun _ _ _ _ _ r h => by simp [pylonref01_Sum.j3] at h⟩
  | k + 1 => by
    obtain ⟨ih0, ih1, ih2, ih3⟩ := pylonref01_Sum.mono_l k
    refine ⟨?_, ?_, ?_, ?_⟩
    · intro y0 y1 y2 y3 y4 y5
      unfold pylonref01_Sum.l0
      repeat' first
      | (with_reducible exact ih0 _ _ _ _ _ _)
      | (with_reducible exact ih1 _ _ _ _ _)
      | (with_reducible exact ih2 _ _ _ _ _)
      | (with_reducible exact ih3 _ _ _ _ _)
      | (with_reducible exact pylonref01_signed.mono _ _ _ _)
      | (with_reducible exact LeO.refl _)
      | (with_reducible exact LeO.none _)
      | (with_reducible refine LeO.ite ?_ ?_)
      | (with_reducible refine LeO.bind ?_ (fun _ => ?_))
      | exact ih0 _ _ _ _ _ _
      | exact ih1 _ _ _ _ _
      | exact ih2 _ _ _ _ _
      | exact ih3 _ _ _ _ _
      | exact pylonref01_signed.mono _ _ _ _
      | exact LeO.none _
      | refine LeO.ite ?_ ?_
      | refine LeO.bind ?_ (fun _ => ?_)
    · intro y0 y1 y2 y3 y4
      unfold pylonref01_Sum.j1
      repeat' first
      | (with_reducible exact ih0 _ _ _ _ _ _)
      | (with_reducible exact ih1 _ _ _ _ _)
      | (with_reducible exact ih2 _ _ _ _ _)
      | (with_reducible exact ih3 _ _ _ _ _)
      | (with_reducible exact pylonref01_signed.mono _ _ _ _)
      | (with_reducible exact LeO.refl _)
      | (with_reducible exact LeO.none _)
      | (with_reducible refine LeO.ite ?_ ?_)
      | (with_reducible refine LeO.bind ?_ (fun _ => ?_))
      | exact ih0 _ _ _ _ _ _
      | exact ih1 _ _ _ _ _
      | exact ih2 _ _ _ _ _
      | exact ih3 _ _ _ _ _
      | exact pylonref01_signed.mono _ _ _ _
      | exact LeO.none _
      | refine LeO.ite ?_ ?_
      | refine LeO.bind ?_ (fun _ => ?_)
    · intro y0 y1 y2 y3 y4
      unfold pylonref01_Sum.j2
      repeat' first
      | (with_reducible exact ih0 _ _ _ _ _ _)
      | (with_reducible exact ih1 _ _ _ _ _)
      | (with_reducible exact ih2 _ _ _ _ _)
      | (with_reducible exact ih3 _ _ _ _ _)
      | (with_reducible exact pylonref01_signed.mono _ _ _ _)
      | (with_reducible exact LeO.refl _)
      | (with_reducible exact LeO.none _)
      | (with_reducible refine LeO.ite ?_ ?_)
      | (with_reducible refine LeO.bind ?_ (fun _ => ?_))
      | exact ih0 _ _ _ _ _ _
      | exact ih1 _ _ _ _ _
      | exact ih2 _ _ _ _ _
      | exact ih3 _ _ _ _ _
      | exact pylonref01_signed.mono _ _ _ _
      | exact LeO.none _
      | refine LeO.ite ?_ ?_
      | refine LeO.bind ?_ (fun _ => ?_)
    · intro y0 y1 y2 y3 y4
      unfold pylonref01_Sum.j3
      repeat' first
      | (with_reducible exact ih0 _ _ _ _ _ _)
      | (with_reducible exact ih1 _ _ _ _ _)
      | (with_reducible exact ih2 _ _ _ _ _)
      | (with_reducible exact ih3 _ _ _ _ _)
      | (with_reducible exact pylonref01_signed.mono _ _ _ _)
      | (with_reducible exact LeO.refl _)
      | (with_reducible exact LeO.none _)
      | (with_reducible refine LeO.ite ?_ ?_)
      | (with_reducible refine LeO.bind ?_ (fun _ => ?_))
      | exact ih0 _ _ _ _ _ _
      | exact ih1 _ _ _ _ _
      | exact ih2 _ _ _ _ _
      | exact ih3 _ _ _ _ _
      | exact pylonref01_signed.mono _ _ _ _
      | exact LeO.none _
      | refine LeO.ite ?_ ?_
      | refine LeO.bind ?_ (fun _ => ?_)
theorem pylonref01_Sum.mono : ∀ a0 k, LeO (pylonref01_Sum.f k a0) (pylonref01_Sum.f (k + 1) a0) := by
  intro a0 k
  obtain ⟨ih0, ih1, ih2, ih3⟩ := pylonref01_Sum.mono_l k
  unfold pylonref01_Sum.f
  repeat' first
      | (with_reducible exact ih0 _ _ _ _ _ _)
      | (with_reducible exact ih1 _ _ _ _ _)
      | (with_reducible exact ih2 _ _ _ _ _)
      | (with_reducible exact ih3 _ _ _ _ _)
      | (with_reducible exact pylonref01_signed.mono _ _ _ _)
      | (with_reducible exact LeO.refl _)
      | (with_reducible exact LeO.none _)
      | (with_reducible refine LeO.ite ?_ ?_)
      | (with_reducible refine LeO.bind ?_ (fun _ => ?_))
      | exact ih0 _ _ _ _ _ _
      | exact ih1 _ _ _ _ _
      | exact ih2 _ _ _ _ _
      | exact ih3 _ _ _ _ _
      | exact pylonref01_signed.mono _ _ _ _
      | exact LeO.none _
      | refine LeO.ite ?_ ?_
      | refine LeO.bind ?_ (fun _ => ?_)
set_option maxHeartbeats 8000000 in
set_option maxRecDepth 100000 in
theorem pylonref01_Sum.calls (k : Nat) (A0 : Option Addr) (c0 : Nat) (l0 : List Int) (r1 : Int) (r2 : Int) (w : World) (hr0 : Kd.C (Kd.int .i64) w A0 l0.length l0) (hc0 : l0.length ≤ c0) (h : pylonref01_Sum.f k l0 = some (r1, r2)) :
    Calls Try.prog 30 #[.slice A0 l0.length c0] w fun e w' => e = .returned (.tuple #[.int .i64 r1, .int .i64 r2]) ∧ Drawn0 w w' := by
  have HR0 := Aside0.mk hr0
  have HC0 := Aside0.mk hc0
  clear hr0 hc0
  have H : (pylonref01_Sum.l0 k l0 0 0 0 0 0) = some (r1, r2) := h
  clear h
  have H' := Aside0.mk H
  clear H
  go_enter Try.func30, Try.ntmps30
  go_wp2
  go_loopg [4, 5, 6, 7, 8] k (fun kq v4 v5 v6 v7 v8 w' => ∃ (x4_1 : Int) (x5_1 : Int) (x6_1 : Int) (x7_1 : Int) (x8_1 : Int), v4 = .int .u64 x4_1 ∧ v5 = .int .u64 x5_1 ∧ v6 = .int .u64 x6_1 ∧ v7 = .int .u64 x7_1 ∧ v8 = .int .i64 x8_1 ∧ Aside0 (pylonref01_Sum.l0 kq l0 x4_1 x5_1 x6_1 x7_1 x8_1 = some (r1, r2)) ∧ Aside0 (kq ≤ k) ∧ Drawn0 w w')
  case atStart => exact ⟨(0), (0), (0), (0), (0), (by first | rfl | (simp; done) | (simp [*]; done)), (by first | rfl | (simp; done) | (simp [*]; done)), (by first | rfl | (simp; done) | (simp [*]; done)), (by first | rfl | (simp; done) | (simp [*]; done)), (by first | rfl | (simp; done) | (simp [*]; done)), H', ⟨Nat.le_refl _⟩, by repeat (first | exact Drawn0.refl _ | apply Drawn0.step)⟩
  case round =>
    clear H'
    obtain ⟨x4_1, x5_1, x6_1, x7_1, x8_1, rfl, rfl, rfl, rfl, rfl, HA, HK1, ⟨m1, rfl⟩⟩ := hrel
    cases gk with
    | zero => exact absurd HA.out (by simp [pylonref01_Sum.l0])
    | succ k1 =>
      have H := HA.out
      clear HA
      simp only [pylonref01_Sum.l0] at H
      by_cases c2 : x8_1 < (l0.length : Int)
      · rw [if_pos c2] at H
        have c2b0 : decide (x8_1 < (l0.length : Int)) = true := decide_eq_true c2
        clear c2
        by_cases c3 : 0 ≤ x8_1
        · rw [if_pos c3] at H
          have c3b0 : decide (0 ≤ x8_1) = true := decide_eq_true c3
          clear c3
          replace H := Option.bind_eq_some_iff.mp H
          obtain ⟨t177, A40, H⟩ := H
          replace H : (if (rd l0 x8_1) ≥ 0 then (if (IntKind.u64.wrap (x5_1 + t177)) < x5_1 then (pylonref01_Sum.l0 k1 l0 (IntKind.u64.wrap (x4_1 + 1)) (IntKind.u64.wrap (x5_1 + t177)) x6_1 x7_1 (wrap64 (x8_1 + 1))) else (pylonref01_Sum.l0 k1 l0 x4_1 (IntKind.u64.wrap (x5_1 + t177)) x6_1 x7_1 (wrap64 (x8_1 + 1)))) else (if (IntKind.u64.wrap (x7_1 + t177)) < x7_1 then (pylonref01_Sum.l0 k1 l0 x4_1 x5_1 (IntKind.u64.wrap (x6_1 + 1)) (IntKind.u64.wrap (x7_1 + t177)) (wrap64 (x8_1 + 1))) else (pylonref01_Sum.l0 k1 l0 x4_1 x5_1 x6_1 (IntKind.u64.wrap (x7_1 + t177)) (wrap64 (x8_1 + 1))))) = some (r1, r2) := H
          have A4 := Aside0.mk A40
          clear A40
          by_cases c5 : (rd l0 x8_1) ≥ 0
          · rw [if_pos c5] at H
            have c5b0 : decide (0 ≤ (rd l0 x8_1)) = true := decide_eq_true c5
            clear c5
            by_cases c6 : (IntKind.u64.wrap (x5_1 + t177)) < x5_1
            · rw [if_pos c6] at H
              have c6b0 : decide ((IntKind.u64.wrap (x5_1 + t177)) < x5_1) = true := decide_eq_true c6
              clear c6
              have H' := Aside0.mk H
              clear H
              have p176 : 0 ≤ (x8_1 : Int) := of_decide_eq_true (by first | (with_reducible assumption) | assumption)
              have q176 : x8_1 < (l0.length : Int) := of_decide_eq_true (by first | (with_reducible assumption) | assumption)
              obtain ⟨ad176, e176, hx176_0⟩ := Kd.at_int HR0.out x8_1 p176 q176
              cases e176
              replace p176 := eq_true p176
              replace q176 := eq_true q176
              go_wp2_with (first | ((with_reducible refine gate_callee (f := 27) rfl ?_); refine goesL_ (some 22) rfl rfl Try.func27 (by kernel_rfl) rfl #[.int .i64 (rd l0 x8_1)] rfl (by (try simp only [List.map_toArray, List.map_cons, List.map_nil]); first | done | rfl | (simp only [List.length_drop, List.length_take]; rfl)) ?_; (with_reducible refine (pylonref01_mag.calls (rd l0 x8_1) t177 _ A4.out).mono ?_); rintro e w' ⟨rfl, ⟨nd, rfl⟩⟩; refine ⟨_, rfl, ?_⟩; have p178 : 0 ≤ (x8_1 : Int) := of_decide_eq_true (by first | (with_reducible assumption) | assumption); have q178 : x8_1 < (l0.length : Int) := of_decide_eq_true (by first | (with_reducible assumption) | assumption); obtain ⟨ad178, e178, hx178_0⟩ := Kd.at_int HR0.out x8_1 p178 q178; obtain rfl : ad176 = ad178 := (by injection e178); replace p178 := eq_true p178; replace q178 := eq_true q178))
              go_roundg k1
              case measure => have := HK1.out; omega
              case rel => exact ⟨(IntKind.u64.wrap (x4_1 + 1)), (IntKind.u64.wrap (x5_1 + t177)), (x6_1), (x7_1), (wrap64 (x8_1 + 1)), (by first | rfl | (simp; done) | (simp [*]; done)), (by first | rfl | (simp; done) | (simp [*]; done)), (by first | rfl | (simp; done) | (simp [*]; done)), (by first | rfl | (simp; done) | (simp [*]; done)), (by first | rfl | (simp; done) | (simp [*]; done)), H', ⟨by have := HK1.out; omega⟩, by repeat (first | exact Drawn0.refl _ | apply Drawn0.step)⟩
            · rw [if_neg c6] at H
              have c6b0 : decide ((IntKind.u64.wrap (x5_1 + t177)) < x5_1) = false := decide_eq_false c6
              clear c6
              have H' := Aside0.mk H
              clear H
              have p176 : 0 ≤ (x8_1 : Int) := of_decide_eq_true (by first | (with_reducible assumption) | assumption)
              have q176 : x8_1 < (l0.length : Int) := of_decide_eq_true (by first | (with_reducible assumption) | assumption)
              obtain ⟨ad176, e176, hx176_0⟩ := Kd.at_int HR0.out x8_1 p176 q176
              cases e176
              replace p176 := eq_true p176
              replace q176 := eq_true q176
              go_wp2_with (first | ((with_reducible refine gate_callee (f := 27) rfl ?_); refine goesL_ (some 22) rfl rfl Try.func27 (by kernel_rfl) rfl #[.int .i64 (rd l0 x8_1)] rfl (by (try simp only [List.map_toArray, List.map_cons, List.map_nil]); first | done | rfl | (simp only [List.length_drop, List.length_take]; rfl)) ?_; (with_reducible refine (pylonref01_mag.calls (rd l0 x8_1) t177 _ A4.out).mono ?_); rintro e w' ⟨rfl, ⟨nd, rfl⟩⟩; refine ⟨_, rfl, ?_⟩; have p178 : 0 ≤ (x8_1 : Int) := of_decide_eq_true (by first | (with_reducible assumption) | assumption); have q178 : x8_1 < (l0.length : Int) := of_decide_eq_true (by first | (with_reducible assumption) | assumption); obtain ⟨ad178, e178, hx178_0⟩ := Kd.at_int HR0.out x8_1 p178 q178; obtain rfl : ad176 = ad178 := (by injection e178); replace p178 := eq_true p178; replace q178 := eq_true q178))
              go_roundg k1
              case measure => have := HK1.out; omega
              case rel => exact ⟨(x4_1), (IntKind.u64.wrap (x5_1 + t177)), (x6_1), (x7_1), (wrap64 (x8_1 + 1)), (by first | rfl | (simp; done) | (simp [*]; done)), (by first | rfl | (simp; done) | (simp [*]; done)), (by first | rfl | (simp; done) | (simp [*]; done)), (by first | rfl | (simp; done) | (simp [*]; done)), (by first | rfl | (simp; done) | (simp [*]; done)), H', ⟨by have := HK1.out; omega⟩, by repeat (first | exact Drawn0.refl _ | apply Drawn0.step)⟩
          · rw [if_neg c5] at H
            have c5b0 : decide (0 ≤ (rd l0 x8_1)) = false := decide_eq_false c5
            clear c5
            by_cases c7 : (IntKind.u64.wrap (x7_1 + t177)) < x7_1
            · rw [if_pos c7] at H
              have c7b0 : decide ((IntKind.u64.wrap (x7_1 + t177)) < x7_1) = true := decide_eq_true c7
              clear c7
              have H' := Aside0.mk H
              clear H
              have p176 : 0 ≤ (x8_1 : Int) := of_decide_eq_true (by first | (with_reducible assumption) | assumption)
              have q176 : x8_1 < (l0.length : Int) := of_decide_eq_true (by first | (with_reducible assumption) | assumption)
              obtain ⟨ad176, e176, hx176_0⟩ := Kd.at_int HR0.out x8_1 p176 q176
              cases e176
              replace p176 := eq_true p176
              replace q176 := eq_true q176
              go_wp2_with (first | ((with_reducible refine gate_callee (f := 27) rfl ?_); refine goesL_ (some 22) rfl rfl Try.func27 (by kernel_rfl) rfl #[.int .i64 (rd l0 x8_1)] rfl (by (try simp only [List.map_toArray, List.map_cons, List.map_nil]); first | done | rfl | (simp only [List.length_drop, List.length_take]; rfl)) ?_; (with_reducible refine (pylonref01_mag.calls (rd l0 x8_1) t177 _ A4.out).mono ?_); rintro e w' ⟨rfl, ⟨nd, rfl⟩⟩; refine ⟨_, rfl, ?_⟩; have p178 : 0 ≤ (x8_1 : Int) := of_decide_eq_true (by first | (with_reducible assumption) | assumption); have q178 : x8_1 < (l0.length : Int) := of_decide_eq_true (by first | (with_reducible assumption) | assumption); obtain ⟨ad178, e178, hx178_0⟩ := Kd.at_int HR0.out x8_1 p178 q178; obtain rfl : ad176 = ad178 := (by injection e178); replace p178 := eq_true p178; replace q178 := eq_true q178))
              go_roundg k1
              case measure => have := HK1.out; omega
              case rel => exact ⟨(x4_1), (x5_1), (IntKind.u64.wrap (x6_1 + 1)), (IntKind.u64.wrap (x7_1 + t177)), (wrap64 (x8_1 + 1)), (by first | rfl | (simp; done) | (simp [*]; done)), (by first | rfl | (simp; done) | (simp [*]; done)), (by first | rfl | (simp; done) | (simp [*]; done)), (by first | rfl | (simp; done) | (simp [*]; done)), (by first | rfl | (simp; done) | (simp [*]; done)), H', ⟨by have := HK1.out; omega⟩, by repeat (first | exact Drawn0.refl _ | apply Drawn0.step)⟩
            · rw [if_neg c7] at H
              have c7b0 : decide ((IntKind.u64.wrap (x7_1 + t177)) < x7_1) = false := decide_eq_false c7
              clear c7
              have H' := Aside0.mk H
              clear H
              have p176 : 0 ≤ (x8_1 : Int) := of_decide_eq_true (by first | (with_reducible assumption) | assumption)
              have q176 : x8_1 < (l0.length : Int) := of_decide_eq_true (by first | (with_reducible assumption) | assumption)
              obtain ⟨ad176, e176, hx176_0⟩ := Kd.at_int HR0.out x8_1 p176 q176
              cases e176
              replace p176 := eq_true p176
              replace q176 := eq_true q176
              go_wp2_with (first | ((with_reducible refine gate_callee (f := 27) rfl ?_); refine goesL_ (some 22) rfl rfl Try.func27 (by kernel_rfl) rfl #[.int .i64 (rd l0 x8_1)] rfl (by (try simp only [List.map_toArray, List.map_cons, List.map_nil]); first | done | rfl | (simp only [List.length_drop, List.length_take]; rfl)) ?_; (with_reducible refine (pylonref01_mag.calls (rd l0 x8_1) t177 _ A4.out).mono ?_); rintro e w' ⟨rfl, ⟨nd, rfl⟩⟩; refine ⟨_, rfl, ?_⟩; have p178 : 0 ≤ (x8_1 : Int) := of_decide_eq_true (by first | (with_reducible assumption) | assumption); have q178 : x8_1 < (l0.length : Int) := of_decide_eq_true (by first | (with_reducible assumption) | assumption); obtain ⟨ad178, e178, hx178_0⟩ := Kd.at_int HR0.out x8_1 p178 q178; obtain rfl : ad176 = ad178 := (by injection e178); replace p178 := eq_true p178; replace q178 := eq_true q178))
              go_roundg k1
              case measure => have := HK1.out; omega
              case rel => exact ⟨(x4_1), (x5_1), (x6_1), (IntKind.u64.wrap (x7_1 + t177)), (wrap64 (x8_1 + 1)), (by first | rfl | (simp; done) | (simp [*]; done)), (by first | rfl | (simp; done) | (simp [*]; done)), (by first | rfl | (simp; done) | (simp [*]; done)), (by first | rfl | (simp; done) | (simp [*]; done)), (by first | rfl | (simp; done) | (simp [*]; done)), H', ⟨by have := HK1.out; omega⟩, by repeat (first | exact Drawn0.refl _ | apply Drawn0.step)⟩
        · rw [if_neg c3] at H
          exact absurd H (by simp)
      · rw [if_neg c2] at H
        have c2b0 : decide (x8_1 < (l0.length : Int)) = false := decide_eq_false c2
        clear c2
        have HC8 := Aside0.mk H
        clear H
        go_upto_region 13 with (fail)
        go_cut [60] (fun v60 wc => ∃ (kq : Nat) (x60_7 : Bool), v60 = .bool x60_7 ∧ Aside0 (pylonref01_Sum.j1 kq x4_1 x5_1 x6_1 x7_1 x60_7 = some (r1, r2)) ∧ Aside0 (kq ≤ k1) ∧ Drawn0 w wc)
        case first =>
          have H := HC8.out
          clear HC8
          by_cases c9 : x4_1 > x6_1
          · rw [if_pos c9] at H
            have c9b0 : decide (x6_1 < x4_1) = true := decide_eq_true c9
            clear c9
            (first | rw [c9b0] | (simp only [i64_w, i32_w]; rw [c9b0]) | skip)
            have H' := Aside0.mk H
            clear H
            go_wp2
            go_meet
            case rel => exact ⟨_, (true), (by first | rfl | (simp; done) | (simp [*]; done)), H', ⟨by have := HK1.out; first | omega | exact Nat.le_refl _⟩, by repeat (first | exact Drawn0.refl _ | apply Drawn0.step)⟩
          · rw [if_neg c9] at H
            have c9b0 : decide (x6_1 < x4_1) = false := decide_eq_false c9
            clear c9
            (first | rw [c9b0] | (simp only [i64_w, i32_w]; rw [c9b0]) | skip)
            by_cases c10 : x4_1 = x6_1
            · rw [if_pos c10] at H
              have c10b0 : (x4_1 == x6_1) = true := beq_iff_eq.mpr c10
              have c10b1 : (x4_1 != x6_1) = false := bne_eq_false_iff_eq.mpr c10
              clear c10
              have H' := Aside0.mk H
              clear H
              go_wp2
              go_meet
              case rel => exact ⟨_, (decide (x5_1 ≥ x7_1)), (by first | rfl | (simp; done) | (simp [*]; done) | (by_cases hdp0_ : x5_1 ≥ x7_1 <;> simp [*] <;> done)), H', ⟨by have := HK1.out; first | omega | exact Nat.le_refl _⟩, by repeat (first | exact Drawn0.refl _ | apply Drawn0.step)⟩
            · rw [if_neg c10] at H
              have c10b0 : (x4_1 == x6_1) = false := beq_eq_false_iff_ne.mpr c10
              have c10b1 : (x4_1 != x6_1) = true := bne_iff_ne.mpr c10
              have H' := Aside0.mk H
              clear H
              go_wp2
              go_meet
              case rel => exact ⟨_, (false), (by first | rfl | (simp; done) | (simp [*]; done)), H', ⟨by have := HK1.out; first | omega | exact Nat.le_refl _⟩, by repeat (first | exact Drawn0.refl _ | apply Drawn0.step)⟩
        case rest =>
          clear HC8
          try clear c1
          try clear p1
          try clear q1
          try clear hx1
          try clear c2
          try clear c2b0
          try clear p2
          try clear c3
          try clear c3b0
          try clear c5
          try clear c5b0
          try clear c6
          try clear c6b0
          try clear p6
          try clear c7
          try clear c7b0
          try clear c9
          try clear c9b0
          try clear c10
          try clear c10b0
          try clear c10b1
          try clear hx176_0
          try clear hx178_0
          try clear p176
          try clear p178
          try clear q176
          try clear q178
          obtain ⟨kq, x60_7, rfl, HA, HJ7, ⟨mc7, rfl⟩⟩ := hcut
          cases kq with
          | zero => exact absurd HA.out (by simp [pylonref01_Sum.j1])
          | succ kj7 =>
            have H := HA.out
            clear HA
            simp only [pylonref01_Sum.j1] at H
            by_cases c11 : x60_7 = true
            · subst c11
              have H1 : (if x5_1 < x7_1 then (pylonref01_Sum.j2 kj7 x4_1 x5_1 x6_1 x7_1 1) else (pylonref01_Sum.j2 kj7 x4_1 x5_1 x6_1 x7_1 0)) = some (r1, r2) := by rw [if_pos rfl] at H; exact H
              clear H
              have H := H1
              clear H1
              have HC12 := Aside0.mk H
              clear H
              go_upto_if 63 with (fail)
              go_cut [10] (fun v10 wc => ∃ (kq : Nat) (x10_11 : Int), v10 = .int .u64 x10_11 ∧ Aside0 (pylonref01_Sum.j2 kq x4_1 x5_1 x6_1 x7_1 x10_11 = some (r1, r2)) ∧ Aside0 (kq ≤ kj7) ∧ Drawn0 w wc)
              case first =>
                have H := HC12.out
                clear HC12
                by_cases c13 : x5_1 < x7_1
                · rw [if_pos c13] at H
                  have c13b0 : decide (x5_1 < x7_1) = true := decide_eq_true c13
                  clear c13
                  (first | rw [c13b0] | (simp only [i64_w, i32_w]; rw [c13b0]) | skip)
                  have H' := Aside0.mk H
                  clear H
                  go_wp2
                  go_meet
                  case rel => exact ⟨_, (1), (by first | rfl | (simp; done) | (simp [*]; done)), H', ⟨by have := HK1.out; have := HJ7.out; first | omega | exact Nat.le_refl _⟩, by repeat (first | exact Drawn0.refl _ | apply Drawn0.step)⟩
                · rw [if_neg c13] at H
                  have c13b0 : decide (x5_1 < x7_1) = false := decide_eq_false c13
                  clear c13
                  (first | rw [c13b0] | (simp only [i64_w, i32_w]; rw [c13b0]) | skip)
                  have H' := Aside0.mk H
                  clear H
                  go_wp2
                  go_meet
                  case rel => exact ⟨_, (0), (by first | rfl | (simp; done) | (simp [*]; done)), H', ⟨by have := HK1.out; have := HJ7.out; first | omega | exact Nat.le_refl _⟩, by repeat (first | exact Drawn0.refl _ | apply Drawn0.step)⟩
              case rest =>
                clear HC12
                try clear c1
                try clear p1
                try clear q1
                try clear hx1
                try clear c2
                try clear c2b0
                try clear p2
                try clear c3
                try clear c3b0
                try clear c5
                try clear c5b0
                try clear c6
                try clear c6b0
                try clear p6
                try clear c7
                try clear c7b0
                try clear c9
                try clear c9b0
                try clear c10
                try clear c10b0
                try clear c10b1
                try clear c11
                try clear c13
                try clear c13b0
                try clear hx176_0
                try clear hx178_0
                try clear p1
                try clear p176
                try clear p178
                try clear p2
                try clear p6
                try clear q1
                try clear q176
                try clear q178
                obtain ⟨kq, x10_11, rfl, HA, HJ11, ⟨mc11, rfl⟩⟩ := hcut
                cases kq with
                | zero => exact absurd HA.out (by simp [pylonref01_Sum.j2])
                | succ kj11 =>
                  have H := HA.out
                  clear HA
                  simp only [pylonref01_Sum.j2] at H
                  replace H := Option.bind_eq_some_iff.mp H
                  obtain ⟨⟨t179, t180⟩, A140, H⟩ := H
                  replace H : (some (t179, t180)) = some (r1, r2) := H
                  have A14 := Aside0.mk A140
                  clear A140
                  simp only [Option.some.injEq, Prod.mk.injEq] at H
                  obtain ⟨rfl, rfl⟩ := H
                  go_wp2_with (first | ((with_reducible refine gate_callee (f := 29) rfl ?_); refine goesL_ (some 72) rfl rfl Try.func29 (by kernel_rfl) rfl #[.bool false, .int .u64 (IntKind.u64.wrap ((IntKind.u64.wrap (x4_1 - x6_1)) - x10_11)), .int .u64 (IntKind.u64.wrap (x5_1 - x7_1))] rfl (by (try simp only [List.map_toArray, List.map_cons, List.map_nil]); first | done | rfl | (simp only [List.length_drop, List.length_take]; rfl)) ?_; (with_reducible refine (pylonref01_signed.calls kj11 false (IntKind.u64.wrap ((IntKind.u64.wrap (x4_1 - x6_1)) - x10_11)) (IntKind.u64.wrap (x5_1 - x7_1)) t179 t180 _ A14.out).mono ?_); rintro e w' ⟨rfl, ⟨nd, rfl⟩⟩; refine ⟨_, rfl, ?_⟩))
                  go_ret2
                  exact ⟨by first | rfl | (simp; done) | (simp [*]; done), by repeat (first | exact Drawn0.refl _ | apply Drawn0.step)⟩
            · replace c11 := Bool.eq_false_iff.mpr c11
              subst c11
              have H1 : (if x7_1 < x5_1 then (pylonref01_Sum.j3 kj7 x4_1 x5_1 x6_1 x7_1 1) else (pylonref01_Sum.j3 kj7 x4_1 x5_1 x6_1 x7_1 0)) = some (r1, r2) := by rw [if_neg (show ¬ (false = true) by decide)] at H; exact H
              clear H
              have H := H1
              clear H1
              have HC15 := Aside0.mk H
              clear H
              go_upto_if 77 with (fail)
              go_cut [11] (fun v11 wc => ∃ (kq : Nat) (x11_14 : Int), v11 = .int .u64 x11_14 ∧ Aside0 (pylonref01_Sum.j3 kq x4_1 x5_1 x6_1 x7_1 x11_14 = some (r1, r2)) ∧ Aside0 (kq ≤ kj7) ∧ Drawn0 w wc)
              case first =>
                have H := HC15.out
                clear HC15
                by_cases c16 : x7_1 < x5_1
                · rw [if_pos c16] at H
                  have c16b0 : decide (x7_1 < x5_1) = true := decide_eq_true c16
                  clear c16
                  (first | rw [c16b0] | (simp only [i64_w, i32_w]; rw [c16b0]) | skip)
                  have H' := Aside0.mk H
                  clear H
                  go_wp2
                  go_meet
                  case rel => exact ⟨_, (1), (by first | rfl | (simp; done) | (simp [*]; done)), H', ⟨by have := HK1.out; have := HJ7.out; first | omega | exact Nat.le_refl _⟩, by repeat (first | exact Drawn0.refl _ | apply Drawn0.step)⟩
                · rw [if_neg c16] at H
                  have c16b0 : decide (x7_1 < x5_1) = false := decide_eq_false c16
                  clear c16
                  (first | rw [c16b0] | (simp only [i64_w, i32_w]; rw [c16b0]) | skip)
                  have H' := Aside0.mk H
                  clear H
                  go_wp2
                  go_meet
                  case rel => exact ⟨_, (0), (by first | rfl | (simp; done) | (simp [*]; done)), H', ⟨by have := HK1.out; have := HJ7.out; first | omega | exact Nat.le_refl _⟩, by repeat (first | exact Drawn0.refl _ | apply Drawn0.step)⟩
              case rest =>
                clear HC15
                try clear c1
                try clear p1
                try clear q1
                try clear hx1
                try clear c2
                try clear c2b0
                try clear p2
                try clear c3
                try clear c3b0
                try clear c5
                try clear c5b0
                try clear c6
                try clear c6b0
                try clear p6
                try clear c7
                try clear c7b0
                try clear c9
                try clear c9b0
                try clear c10
                try clear c10b0
                try clear c10b1
                try clear c11
                try clear c13
                try clear c13b0
                try clear c16
                try clear c16b0
                try clear hx176_0
                try clear hx178_0
                try clear p1
                try clear p176
                try clear p178
                try clear p2
                try clear p6
                try clear q1
                try clear q176
                try clear q178
                obtain ⟨kq, x11_14, rfl, HA, HJ14, ⟨mc14, rfl⟩⟩ := hcut
                cases kq with
                | zero => exact absurd HA.out (by simp [pylonref01_Sum.j3])
                | succ kj14 =>
                  have H := HA.out
                  clear HA
                  simp only [pylonref01_Sum.j3] at H
                  replace H := Option.bind_eq_some_iff.mp H
                  obtain ⟨⟨t181, t182⟩, A170, H⟩ := H
                  replace H : (some (t181, t182)) = some (r1, r2) := H
                  have A17 := Aside0.mk A170
                  clear A170
                  simp only [Option.some.injEq, Prod.mk.injEq] at H
                  obtain ⟨rfl, rfl⟩ := H
                  go_wp2_with (first | ((with_reducible refine gate_callee (f := 29) rfl ?_); refine goesL_ (some 86) rfl rfl Try.func29 (by kernel_rfl) rfl #[.bool true, .int .u64 (IntKind.u64.wrap ((IntKind.u64.wrap (x6_1 - x4_1)) - x11_14)), .int .u64 (IntKind.u64.wrap (x7_1 - x5_1))] rfl (by (try simp only [List.map_toArray, List.map_cons, List.map_nil]); first | done | rfl | (simp only [List.length_drop, List.length_take]; rfl)) ?_; (with_reducible refine (pylonref01_signed.calls kj14 true (IntKind.u64.wrap ((IntKind.u64.wrap (x6_1 - x4_1)) - x11_14)) (IntKind.u64.wrap (x7_1 - x5_1)) t181 t182 _ A17.out).mono ?_); rintro e w' ⟨rfl, ⟨nd, rfl⟩⟩; refine ⟨_, rfl, ?_⟩))
                  go_ret2
                  exact ⟨by first | rfl | (simp; done) | (simp [*]; done), by repeat (first | exact Drawn0.refl _ | apply Drawn0.step)⟩

/-! ### pylonref01_Add: function 21 -/
def pylonref01_Add.f (k : Nat) (a0 : Int) (a1 : Int) : Option (Int × Int) := (pylonref01_Sum.f k (([a0, a1] : List Int))).bind fun bt186 => (some (bt186.1, bt186.2))
theorem pylonref01_Add.mono : ∀ a0 a1 k, LeO (pylonref01_Add.f k a0 a1) (pylonref01_Add.f (k + 1) a0 a1) := by
  intro a0 a1 k
  unfold pylonref01_Add.f
  repeat' first
      | (with_reducible exact pylonref01_Sum.mono _ _)
      | (with_reducible exact LeO.refl _)
      | (with_reducible exact LeO.none _)
      | (with_reducible refine LeO.ite ?_ ?_)
      | (with_reducible refine LeO.bind ?_ (fun _ => ?_))
      | exact pylonref01_Sum.mono _ _
      | exact LeO.none _
      | refine LeO.ite ?_ ?_
      | refine LeO.bind ?_ (fun _ => ?_)
set_option maxHeartbeats 8000000 in
set_option maxRecDepth 100000 in
theorem pylonref01_Add.calls (k : Nat) (a0 : Int) (a1 : Int) (r1 : Int) (r2 : Int) (w : World) (h : pylonref01_Add.f k a0 a1 = some (r1, r2)) :
    Calls Try.prog 21 #[.int .i64 a0, .int .i64 a1] w fun e w' => e = .returned (.tuple #[.int .i64 r1, .int .i64 r2]) ∧ Below w.heap.size w w' := by
  have HB := Aside0.mk (Below.refl w.heap.size w)
  have H : ((pylonref01_Sum.f k (([a0, a1] : List Int))).bind fun bt186 => (some (bt186.1, bt186.2))) = some (r1, r2) := h
  clear h
  obtain ⟨y183, hy183⟩ : ∃ y_ : List Int, y_ = (([a0, a1] : List Int)) := ⟨_, rfl⟩
  replace H : ((pylonref01_Sum.f k y183).bind fun bt186 => (some (bt186.1, bt186.2))) = some (r1, r2) := by first | (rw [hy183]; with_reducible exact H) | (have H2_ := (Option.bind_some _ _).symm.trans H; rw [hy183]; with_reducible exact H2_) | (have H2_ := (Option.bind_some _ _).symm.trans H; with_reducible exact H2_) | with_reducible exact H | (rw [hy183]; exact H) | exact H
  have Ny183 := Aside0.mk hy183
  clear hy183
  replace H := Option.bind_eq_some_iff.mp H
  obtain ⟨⟨t186, t187⟩, A30, H⟩ := H
  replace H : (some (t186, t187)) = some (r1, r2) := H
  have A3 := Aside0.mk A30
  clear A30
  simp only [Option.some.injEq, Prod.mk.injEq] at H
  obtain ⟨rfl, rfl⟩ := H
  go_enter Try.func21, Try.ntmps21
  go_wp2_with (first | ((with_reducible refine gate_dst (N := 8) rfl ?_); refine Kd.R_lit (Kd.int .i64) _ 2 ?hg (N := 8) ?hd (xs := ([a0, a1] : List Int)) (inner := [.int .i64 a0, .int .i64 a1]) (ok := fun _ => True) (okp := fun _ => True) ?hr ?hp (fun _ hk => hk) trivial (Below.refl _ _) (Nat.le_refl _) (by simp) ?_; (case hd => rfl); (case hg => rfl); (case hr => first | (go_simp; done) | (go_simp; rfl)); (case hp => exact (Reps.one (show Kd.M (Kd.int .i64) _ _ _ a0 [.int .i64 a0] from rfl) (Reps.one (show Kd.M (Kd.int .i64) _ _ _ a1 [.int .i64 a1] from rfl) (Reps.none _ _)))); intro v184 w4 ho5 hb hg_ hnew_; clear hg_ hnew_; (first | rw [← Ny183.out] at ho5 | (simp only [Int.reduceToNat] at ho5; rw [← Ny183.out] at ho5)); have n0_ := Aside0.mk (Kd.R_lower ho5 (below_size (by repeat (first | (with_reducible first | exact HB.out | apply below_alloc | apply pw_below_drewN | apply below_drew1) | exact HB.out)))); have n1_ := Aside0.mk (below_step (by repeat (first | (with_reducible first | exact HB.out | apply below_alloc | apply pw_below_drewN | apply below_drew1) | exact HB.out)) hb); clear HB; have HO185 := n0_; have HB := n1_; clear n0_ n1_; clear hb ho5; obtain ⟨Ao6, co6, eo6⟩ := Kd.R_slice HO185.out; subst eo6) | ((with_reducible refine gate_callee (f := 30) rfl ?_); refine goesL_ (some 9) rfl rfl Try.func30 (by kernel_rfl) rfl #[.slice Ao6 y183.length co6] rfl (by (try simp only [List.map_toArray, List.map_cons, List.map_nil]); first | done | rfl | (simp only [List.length_drop, List.length_take]; rfl)) ?_; (with_reducible refine (pylonref01_Sum.calls k _ _ y183 t186 t187 _ ?side1 ?side2 A3.out).mono ?_); (case side1 => repeat (first | exact (Kd.R_reads' HO185.out).2.2 | (with_reducible refine Kd.C_alloc ?_ _) | (with_reducible refine Kd.C_drewN ?_ _) | (with_reducible refine Kd.C_drew ?_))); (case side2 => exact (Kd.R_reads' HO185.out).2.1); rintro e w' ⟨rfl, ⟨nd, rfl⟩⟩; refine ⟨_, rfl, ?_⟩))
  go_ret2
  exact ⟨by first | rfl | (simp [errW_none, errW_some] <;> rfl) | (simp [*, errW_none, errW_some] <;> rfl), by repeat (first | (with_reducible first | exact HB.out | apply below_alloc | apply pw_below_drewN | apply below_drew1) | exact HB.out)⟩

/-! ### pylonref17_Price: function 11 -/
def pylonref17_Price.l0 : Nat → List (S35) → List Int → Int → Int → Int → Int → Option (Int × Int)
  | 0, _, _, _, _, _, _ => none
  | k + 1, x0, x6, x8, x9, x24, x25 => if x25 < x24 then (if 0 ≤ x25 then (if x25 < (x6.length : Int) then (if x25 < (x0.length : Int) then (pylonref17_Price.l0 k x0 x6 (wrap64 (x8 + (wrap64 ((wrap64 (Int.tdiv (rd x6 x25) 1000)) * ((rd_T35 x0 x25).f1))))) (wrap64 (x9 + (wrap64 ((Int.tmod (rd x6 x25) 1000) * ((rd_T35 x0 x25).f1))))) x24 (wrap64 (x25 + 1))) else (none)) else (none)) else (none)) else ((pylonref01_Half.f k x9 1000).bind fun bt196 => ((pylonref01_Add.f k x8 bt196.1).bind fun bt198 => (if bt198.2 = 0 then (if bt198.1 > 1000000000000000 then (some (0, 5)) else (if bt198.1 < (-1000000000000000) then (some (0, 5)) else (some (bt198.1, 0)))) else (some (0, 5)))))
def pylonref17_Price.f (k : Nat) (l0 : List (S35)) (a1 : Int) : Option (Int × Int) := (pylonref17_Parts.f k l0 a1).bind fun bt188 => (if bt188.2 = 0 then (pylonref17_Price.l0 k l0 bt188.1 0 0 (bt188.1.length : Int) 0) else (some (0, bt188.2)))
theorem pylonref17_Price.mono_l : ∀ k, (∀ y0 y1 y2 y3 y4 y5, LeO (pylonref17_Price.l0 k y0 y1 y2 y3 y4 y5) (pylonref17_Price.l0 (k + 1) y0 y1 y2 y3 y4 y5))
  | 0 => fun _ _ _ _ _ _ r h => by simp [pylonref17_Price.l0] at h
  | k + 1 => by
    have ih0 := pylonref17_Price.mono_l k
    · intro y0 y1 y2 y3 y4 y5
      unfold pylonref17_Price.l0
      repeat' first
      | (with_reducible exact ih0 _ _ _ _ _ _)
      | (with_reducible exact pylonref01_Add.mono _ _ _)
      | (with_reducible exact pylonref01_Half.mono _ _ _)
      | (with_reducible exact pylonref17_Parts.mono _ _ _)
      | (with_reducible exact LeO.refl _)
      | (with_reducible exact LeO.none _)
      | (with_reducible refine LeO.ite ?_ ?_)
      | (with_reducible refine LeO.bind ?_ (fun _ => ?_))
      | exact ih0 _ _ _ _ _ _
      | exact pylonref01_Add.mono _ _ _
      | exact pylonref01_Half.mono _ _ _
      | exact pylonref17_Parts.mono _ _ _
      | exact LeO.none _
      | refine LeO.ite ?_ ?_
      | refine LeO.bind ?_ (fun _ => ?_)
theorem pylonref17_Price.mono : ∀ a0 a1 k, LeO (pylonref17_Price.f k a0 a1) (pylonref17_Price.f (k + 1) a0 a1) := by
  intro a0 a1 k
  have ih0 := pylonref17_Price.mono_l k
  unfold pylonref17_Price.f
  repeat' first
      | (with_reducible exact ih0 _ _ _ _ _ _)
      | (with_reducible exact pylonref01_Add.mono _ _ _)
      | (with_reducible exact pylonref01_Half.mono _ _ _)
      | (with_reducible exact pylonref17_Parts.mono _ _ _)
      | (with_reducible exact LeO.refl _)
      | (with_reducible exact LeO.none _)
      | (with_reducible refine LeO.ite ?_ ?_)
      | (with_reducible refine LeO.bind ?_ (fun _ => ?_))
      | exact ih0 _ _ _ _ _ _
      | exact pylonref01_Add.mono _ _ _
      | exact pylonref01_Half.mono _ _ _
      | exact pylonref17_Parts.mono _ _ _
      | exact LeO.none _
      | refine LeO.ite ?_ ?_
      | refine LeO.bind ?_ (fun _ => ?_)
set_option maxHeartbeats 8000000 in
set_option maxRecDepth 100000 in
theorem pylonref17_Price.calls (k : Nat) (A0 : Option Addr) (c0 : Nat) (l0 : List (S35)) (a1 : Int) (r1 : Int) (r2 : Int) (w : World) (hr0 : Kd.C k35 w A0 l0.length l0) (hc0 : l0.length ≤ c0) (h : pylonref17_Price.f k l0 a1 = some (r1, r2)) :
    Calls Try.prog 11 #[.slice A0 l0.length c0, .int .i64 a1] w fun e w' => e = .returned (.tuple #[.int .i64 r1, .int .i64 r2]) ∧ Below w.heap.size w w' := by
  have HR0 := Aside0.mk hr0
  have HC0 := Aside0.mk hc0
  clear hr0 hc0
  have HB := Aside0.mk (Below.refl w.heap.size w)
  have H : ((pylonref17_Parts.f k l0 a1).bind fun bt188 => (if bt188.2 = 0 then (pylonref17_Price.l0 k l0 bt188.1 0 0 (bt188.1.length : Int) 0) else (some (0, bt188.2)))) = some (r1, r2) := h
  clear h
  replace H := Option.bind_eq_some_iff.mp H
  obtain ⟨⟨t188, t189⟩, A30, H⟩ := H
  replace H : (if t189 = 0 then (pylonref17_Price.l0 k l0 t188 0 0 (t188.length : Int) 0) else (some (0, t189))) = some (r1, r2) := H
  have A3 := Aside0.mk A30
  clear A30
  by_cases c4 : t189 = 0
  · rw [if_pos c4] at H
    have c4b0 : (t189 == 0) = true := beq_iff_eq.mpr c4
    have c4b1 : (t189 != 0) = false := bne_eq_false_iff_eq.mpr c4
    clear c4
    have H' := Aside0.mk H
    clear H
    go_enter Try.func11, Try.ntmps11
    go_wp2_with (first | (go_at_call 10; (with_reducible refine (pylonref17_Parts.calls k _ _ l0 a1 t188 t189 _ ?side1 ?side2 A3.out).mono ?_); (case side1 => repeat (first | exact HR0.out | (with_reducible refine Kd.C_alloc ?_ _) | (with_reducible refine Kd.C_drewN ?_ _) | (with_reducible refine Kd.C_drew ?_))); (case side2 => exact HC0.out); rintro e w5 ⟨v190, rfl, ho0, hb⟩; have n0_ := Aside0.mk (Kd.R_lower ho0 (below_size (by repeat (first | (with_reducible first | exact HB.out | apply below_alloc | apply pw_below_drewN | apply below_drew1) | exact HB.out)))); have n1_ := Aside0.mk (below_step (by repeat (first | (with_reducible first | exact HB.out | apply below_alloc | apply pw_below_drewN | apply below_drew1) | exact HB.out)) hb); clear HB; have HO191 := n0_; have HB := n1_; clear n0_ n1_; (try clear hb); (try clear hb2); (try clear hk); (try clear hi); (try clear ho0); obtain ⟨Ao6, co6, eo6⟩ := Kd.R_slice HO191.out; subst eo6))
    repeat (go_quiet (first | (go_at_call 10; (with_reducible refine (pylonref17_Parts.calls k _ _ l0 a1 t188 t189 _ ?side1 ?side2 A3.out).mono ?_); (case side1 => repeat (first | exact HR0.out | (with_reducible refine Kd.C_alloc ?_ _) | (with_reducible refine Kd.C_drewN ?_ _) | (with_reducible refine Kd.C_drew ?_))); (case side2 => exact HC0.out); rintro e w5 ⟨v190, rfl, ho0, hb⟩; have n0_ := Aside0.mk (Kd.R_lower ho0 (below_size (by repeat (first | (with_reducible first | exact HB.out | apply below_alloc | apply pw_below_drewN | apply below_drew1) | exact HB.out)))); have n1_ := Aside0.mk (below_step (by repeat (first | (with_reducible first | exact HB.out | apply below_alloc | apply pw_below_drewN | apply below_drew1) | exact HB.out)) hb); clear HB; have HO191 := n0_; have HB := n1_; clear n0_ n1_; (try clear hb); (try clear hb2); (try clear hk); (try clear hi); (try clear ho0); obtain ⟨Ao6, co6, eo6⟩ := Kd.R_slice HO191.out; subst eo6)); try go_wp2_with (first | (go_at_call 10; (with_reducible refine (pylonref17_Parts.calls k _ _ l0 a1 t188 t189 _ ?side1 ?side2 A3.out).mono ?_); (case side1 => repeat (first | exact HR0.out | (with_reducible refine Kd.C_alloc ?_ _) | (with_reducible refine Kd.C_drewN ?_ _) | (with_reducible refine Kd.C_drew ?_))); (case side2 => exact HC0.out); rintro e w5 ⟨v190, rfl, ho0, hb⟩; have n0_ := Aside0.mk (Kd.R_lower ho0 (below_size (by repeat (first | (with_reducible first | exact HB.out | apply below_alloc | apply pw_below_drewN | apply below_drew1) | exact HB.out)))); have n1_ := Aside0.mk (below_step (by repeat (first | (with_reducible first | exact HB.out | apply below_alloc | apply pw_below_drewN | apply below_drew1) | exact HB.out)) hb); clear HB; have HO191 := n0_; have HB := n1_; clear n0_ n1_; (try clear hb); (try clear hb2); (try clear hk); (try clear hi); (try clear ho0); obtain ⟨Ao6, co6, eo6⟩ := Kd.R_slice HO191.out; subst eo6)))
    go_loopg [8, 9, 25] k (fun kq v8 v9 v25 w' => ∃ (x8_1 : Int) (x9_1 : Int) (x25_1 : Int), v8 = .int .i64 x8_1 ∧ v9 = .int .i64 x9_1 ∧ v25 = .int .i64 x25_1 ∧ Aside0 (pylonref17_Price.l0 kq l0 t188 x8_1 x9_1 (t188.length : Int) x25_1 = some (r1, r2)) ∧ Aside0 (kq ≤ k) ∧ Aside0 (Kd.R (Kd.int .i64) 2 w' w.heap.size (fun _ => True) (.slice Ao6 t188.length co6) t188) ∧ Aside0 (Below w.heap.size w w'))
    case atStart => exact ⟨(0), (0), (0), (by first | rfl | (simp; done) | (simp [*]; done)), (by first | rfl | (simp; done) | (simp [*]; done)), (by first | rfl | (simp; done) | (simp [*]; done)), H', ⟨Nat.le_refl _⟩, ⟨by (with_reducible repeat (first | apply Kd.R_alloc | apply Kd.R_drewN | apply Kd.R_drew)); exact HO191.out⟩, ⟨by repeat (first | (with_reducible first | exact HB.out | apply below_alloc | apply pw_below_drewN | apply below_drew1) | exact HB.out)⟩⟩
    case round =>
      clear H'
      try clear c1
      try clear p2
      try clear c4
      try clear c4b0
      try clear c4b1
      obtain ⟨x8_1, x9_1, x25_1, rfl, rfl, rfl, HA, HK1, HO_6, HB⟩ := hrel
      cases gk with
      | zero => exact absurd HA.out (by simp [pylonref17_Price.l0])
      | succ k1 =>
        have H := HA.out
        clear HA
        simp only [pylonref17_Price.l0] at H
        by_cases c7 : x25_1 < (t188.length : Int)
        · rw [if_pos c7] at H
          have c7b0 : decide (x25_1 < (t188.length : Int)) = true := decide_eq_true c7
          clear c7
          by_cases c8 : 0 ≤ x25_1
          · rw [if_pos c8] at H
            have c8b0 : decide (0 ≤ x25_1) = true := decide_eq_true c8
            clear c8
            by_cases c9 : x25_1 < (t188.length : Int)
            · rw [if_pos c9] at H
              have c9b0 : decide (x25_1 < (t188.length : Int)) = true := decide_eq_true c9
              clear c9
              by_cases c10 : x25_1 < (l0.length : Int)
              · rw [if_pos c10] at H
                have c10b0 : decide (x25_1 < (l0.length : Int)) = true := decide_eq_true c10
                clear c10
                have H' := Aside0.mk H
                clear H
                have p192 : 0 ≤ (x25_1 : Int) := of_decide_eq_true (by first | (with_reducible assumption) | assumption)
                have q192 : x25_1 < (t188.length : Int) := of_decide_eq_true (by first | (with_reducible assumption) | assumption)
                obtain ⟨ad192, e192, hx192_0⟩ := Kd.at_int (Kd.R_reads' HO_6.out).2.2 x25_1 p192 q192
                cases e192
                replace p192 := eq_true p192
                replace q192 := eq_true q192
                have p193 : 0 ≤ (x25_1 : Int) := of_decide_eq_true (by first | (with_reducible assumption) | assumption)
                have q193 : x25_1 < (l0.length : Int) := of_decide_eq_true (by first | (with_reducible assumption) | assumption)
                obtain ⟨ad193, e193, hx193_0, hx193_1⟩ := at_T35 HR0.out x25_1 p193 q193
                cases e193
                replace hx193_0 := (HB.out.cell (World.block_lt_of_cell? w _ hx193_0)).trans hx193_0
                replace hx193_1 := (HB.out.cell (World.block_lt_of_cell? w _ hx193_1)).trans hx193_1
                replace p193 := eq_true p193
                replace q193 := eq_true q193
                have p194 : 0 ≤ (x25_1 : Int) := of_decide_eq_true (by first | (with_reducible assumption) | assumption)
                have q194 : x25_1 < (t188.length : Int) := of_decide_eq_true (by first | (with_reducible assumption) | assumption)
                obtain ⟨ad194, e194, hx194_0⟩ := Kd.at_int (Kd.R_reads' HO_6.out).2.2 x25_1 p194 q194
                obtain rfl : ad192 = ad194 := (by injection e194)
                replace p194 := eq_true p194
                replace q194 := eq_true q194
                have p195 : 0 ≤ (x25_1 : Int) := of_decide_eq_true (by first | (with_reducible assumption) | assumption)
                have q195 : x25_1 < (l0.length : Int) := of_decide_eq_true (by first | (with_reducible assumption) | assumption)
                obtain ⟨ad195, e195, hx195_0, hx195_1⟩ := at_T35 HR0.out x25_1 p195 q195
                obtain rfl : ad193 = ad195 := (by injection e195)
                replace hx195_0 := (HB.out.cell (World.block_lt_of_cell? w _ hx195_0)).trans hx195_0
                replace hx195_1 := (HB.out.cell (World.block_lt_of_cell? w _ hx195_1)).trans hx195_1
                replace p195 := eq_true p195
                replace q195 := eq_true q195
                go_wp2
                repeat (go_quiet (fail); try go_wp2)
                go_roundg k1
                case measure => have := HK1.out; omega
                case rel => exact ⟨(wrap64 (x8_1 + (wrap64 ((wrap64 (Int.tdiv (rd t188 x25_1) 1000)) * ((rd_T35 l0 x25_1).f1))))), (wrap64 (x9_1 + (wrap64 ((Int.tmod (rd t188 x25_1) 1000) * ((rd_T35 l0 x25_1).f1))))), (wrap64 (x25_1 + 1)), (by first | rfl | (simp; done) | (simp [*]; done)), (by first | rfl | (simp; done) | (simp [*]; done)), (by first | rfl | (simp; done) | (simp [*]; done)), H', ⟨by have := HK1.out; omega⟩, ⟨by (with_reducible repeat (first | apply Kd.R_alloc | apply Kd.R_drewN | apply Kd.R_drew)); exact HO_6.out⟩, ⟨by repeat (first | (with_reducible first | exact HB.out | apply below_alloc | apply pw_below_drewN | apply below_drew1) | exact HB.out)⟩⟩
              · rw [if_neg c10] at H
                exact absurd H (by simp)
            · rw [if_neg c9] at H
              exact absurd H (by simp)
          · rw [if_neg c8] at H
            exact absurd H (by simp)
        · rw [if_neg c7] at H
          have c7b0 : decide (x25_1 < (t188.length : Int)) = false := decide_eq_false c7
          clear c7
          replace H := Option.bind_eq_some_iff.mp H
          obtain ⟨⟨t196, t197⟩, A110, H⟩ := H
          replace H : ((pylonref01_Add.f k1 x8_1 t196).bind fun bt198 => (if bt198.2 = 0 then (if bt198.1 > 1000000000000000 then (some (0, 5)) else (if bt198.1 < (-1000000000000000) then (some (0, 5)) else (some (bt198.1, 0)))) else (some (0, 5)))) = some (r1, r2) := H
          have A11 := Aside0.mk A110
          clear A110
          replace H := Option.bind_eq_some_iff.mp H
          obtain ⟨⟨t198, t199⟩, A120, H⟩ := H
          replace H : (if t199 = 0 then (if t198 > 1000000000000000 then (some (0, 5)) else (if t198 < (-1000000000000000) then (some (0, 5)) else (some (t198, 0)))) else (some (0, 5))) = some (r1, r2) := H
          have A12 := Aside0.mk A120
          clear A120
          by_cases c13 : t199 = 0
          · rw [if_pos c13] at H
            have c13b0 : (t199 == 0) = true := beq_iff_eq.mpr c13
            have c13b1 : (t199 != 0) = false := bne_eq_false_iff_eq.mpr c13
            clear c13
            by_cases c14 : t198 > 1000000000000000
            · rw [if_pos c14] at H
              have c14b0 : decide (1000000000000000 < t198) = true := decide_eq_true c14
              clear c14
              simp only [Option.some.injEq, Prod.mk.injEq] at H
              obtain ⟨rfl, rfl⟩ := H
              go_wp2_with (first | (go_at_call 20; (with_reducible refine (pylonref01_Half.calls k1 x9_1 1000 t196 t197 _ A11.out).mono ?_); rintro e w' ⟨rfl, ⟨nd, rfl⟩⟩; (try first | exact ⟨rfl, _, World.drewN_drewN _ _ _⟩ | exact ⟨rfl, _, Eq.trans (World.drewN_drewN _ _ _) (congrArg (World.drewN _) (Nat.add_assoc _ _ _))⟩)) | (go_at_call 21; (with_reducible refine (pylonref01_Add.calls k1 x8_1 t196 t198 t199 _ A12.out).mono ?_); rintro e w15 ⟨rfl, hb⟩; have n0_ := Aside0.mk (Kd.R_below (by (with_reducible repeat (first | apply Kd.R_alloc | apply Kd.R_drewN | apply Kd.R_drew)); exact HO_6.out) hb); have n1_ := Aside0.mk (below_step (by repeat (first | (with_reducible first | exact HB.out | apply below_alloc | apply pw_below_drewN | apply below_drew1) | exact HB.out)) hb); clear HO_6; clear HB; have HO_6 := n0_; have HB := n1_; clear n0_ n1_; (try clear hb); (try clear hb2); (try clear hk); (try clear hi)))
              repeat (go_quiet (first | (go_at_call 20; (with_reducible refine (pylonref01_Half.calls k1 x9_1 1000 t196 t197 _ A11.out).mono ?_); rintro e w' ⟨rfl, ⟨nd, rfl⟩⟩; (try first | exact ⟨rfl, _, World.drewN_drewN _ _ _⟩ | exact ⟨rfl, _, Eq.trans (World.drewN_drewN _ _ _) (congrArg (World.drewN _) (Nat.add_assoc _ _ _))⟩)) | (go_at_call 21; (with_reducible refine (pylonref01_Add.calls k1 x8_1 t196 t198 t199 _ A12.out).mono ?_); rintro e w15 ⟨rfl, hb⟩; have n0_ := Aside0.mk (Kd.R_below (by (with_reducible repeat (first | apply Kd.R_alloc | apply Kd.R_drewN | apply Kd.R_drew)); exact HO_6.out) hb); have n1_ := Aside0.mk (below_step (by repeat (first | (with_reducible first | exact HB.out | apply below_alloc | apply pw_below_drewN | apply below_drew1) | exact HB.out)) hb); clear HO_6; clear HB; have HO_6 := n0_; have HB := n1_; clear n0_ n1_; (try clear hb); (try clear hb2); (try clear hk); (try clear hi))); try go_wp2_with (first | (go_at_call 20; (with_reducible refine (pylonref01_Half.calls k1 x9_1 1000 t196 t197 _ A11.out).mono ?_); rintro e w' ⟨rfl, ⟨nd, rfl⟩⟩; (try first | exact ⟨rfl, _, World.drewN_drewN _ _ _⟩ | exact ⟨rfl, _, Eq.trans (World.drewN_drewN _ _ _) (congrArg (World.drewN _) (Nat.add_assoc _ _ _))⟩)) | (go_at_call 21; (with_reducible refine (pylonref01_Add.calls k1 x8_1 t196 t198 t199 _ A12.out).mono ?_); rintro e w15 ⟨rfl, hb⟩; have n0_ := Aside0.mk (Kd.R_below (by (with_reducible repeat (first | apply Kd.R_alloc | apply Kd.R_drewN | apply Kd.R_drew)); exact HO_6.out) hb); have n1_ := Aside0.mk (below_step (by repeat (first | (with_reducible first | exact HB.out | apply below_alloc | apply pw_below_drewN | apply below_drew1) | exact HB.out)) hb); clear HO_6; clear HB; have HO_6 := n0_; have HB := n1_; clear n0_ n1_; (try clear hb); (try clear hb2); (try clear hk); (try clear hi))))
              go_ret2
              exact ⟨by first | rfl | (simp [errW_none, errW_some] <;> rfl) | (simp [*, errW_none, errW_some] <;> rfl), by repeat (first | (with_reducible first | exact HB.out | apply below_alloc | apply pw_below_drewN | apply below_drew1) | exact HB.out)⟩
            · rw [if_neg c14] at H
              have c14b0 : decide (1000000000000000 < t198) = false := decide_eq_false c14
              clear c14
              by_cases c16 : t198 < (-1000000000000000)
              · rw [if_pos c16] at H
                have c16b0 : decide (t198 < (-1000000000000000)) = true := decide_eq_true c16
                clear c16
                simp only [Option.some.injEq, Prod.mk.injEq] at H
                obtain ⟨rfl, rfl⟩ := H
                go_wp2_with (first | (go_at_call 20; (with_reducible refine (pylonref01_Half.calls k1 x9_1 1000 t196 t197 _ A11.out).mono ?_); rintro e w' ⟨rfl, ⟨nd, rfl⟩⟩; (try first | exact ⟨rfl, _, World.drewN_drewN _ _ _⟩ | exact ⟨rfl, _, Eq.trans (World.drewN_drewN _ _ _) (congrArg (World.drewN _) (Nat.add_assoc _ _ _))⟩)) | (go_at_call 21; (with_reducible refine (pylonref01_Add.calls k1 x8_1 t196 t198 t199 _ A12.out).mono ?_); rintro e w17 ⟨rfl, hb⟩; have n0_ := Aside0.mk (Kd.R_below (by (with_reducible repeat (first | apply Kd.R_alloc | apply Kd.R_drewN | apply Kd.R_drew)); exact HO_6.out) hb); have n1_ := Aside0.mk (below_step (by repeat (first | (with_reducible first | exact HB.out | apply below_alloc | apply pw_below_drewN | apply below_drew1) | exact HB.out)) hb); clear HO_6; clear HB; have HO_6 := n0_; have HB := n1_; clear n0_ n1_; (try clear hb); (try clear hb2); (try clear hk); (try clear hi)))
                repeat (go_quiet (first | (go_at_call 20; (with_reducible refine (pylonref01_Half.calls k1 x9_1 1000 t196 t197 _ A11.out).mono ?_); rintro e w' ⟨rfl, ⟨nd, rfl⟩⟩; (try first | exact ⟨rfl, _, World.drewN_drewN _ _ _⟩ | exact ⟨rfl, _, Eq.trans (World.drewN_drewN _ _ _) (congrArg (World.drewN _) (Nat.add_assoc _ _ _))⟩)) | (go_at_call 21; (with_reducible refine (pylonref01_Add.calls k1 x8_1 t196 t198 t199 _ A12.out).mono ?_); rintro e w17 ⟨rfl, hb⟩; have n0_ := Aside0.mk (Kd.R_below (by (with_reducible repeat (first | apply Kd.R_alloc | apply Kd.R_drewN | apply Kd.R_drew)); exact HO_6.out) hb); have n1_ := Aside0.mk (below_step (by repeat (first | (with_reducible first | exact HB.out | apply below_alloc | apply pw_below_drewN | apply below_drew1) | exact HB.out)) hb); clear HO_6; clear HB; have HO_6 := n0_; have HB := n1_; clear n0_ n1_; (try clear hb); (try clear hb2); (try clear hk); (try clear hi))); try go_wp2_with (first | (go_at_call 20; (with_reducible refine (pylonref01_Half.calls k1 x9_1 1000 t196 t197 _ A11.out).mono ?_); rintro e w' ⟨rfl, ⟨nd, rfl⟩⟩; (try first | exact ⟨rfl, _, World.drewN_drewN _ _ _⟩ | exact ⟨rfl, _, Eq.trans (World.drewN_drewN _ _ _) (congrArg (World.drewN _) (Nat.add_assoc _ _ _))⟩)) | (go_at_call 21; (with_reducible refine (pylonref01_Add.calls k1 x8_1 t196 t198 t199 _ A12.out).mono ?_); rintro e w17 ⟨rfl, hb⟩; have n0_ := Aside0.mk (Kd.R_below (by (with_reducible repeat (first | apply Kd.R_alloc | apply Kd.R_drewN | apply Kd.R_drew)); exact HO_6.out) hb); have n1_ := Aside0.mk (below_step (by repeat (first | (with_reducible first | exact HB.out | apply below_alloc | apply pw_below_drewN | apply below_drew1) | exact HB.out)) hb); clear HO_6; clear HB; have HO_6 := n0_; have HB := n1_; clear n0_ n1_; (try clear hb); (try clear hb2); (try clear hk); (try clear hi))))
                go_ret2
                exact ⟨by first | rfl | (simp [errW_none, errW_some] <;> rfl) | (simp [*, errW_none, errW_some] <;> rfl), by repeat (first | (with_reducible first | exact HB.out | apply below_alloc | apply pw_below_drewN | apply below_drew1) | exact HB.out)⟩
              · rw [if_neg c16] at H
                have c16b0 : decide (t198 < (-1000000000000000)) = false := decide_eq_false c16
                clear c16
                simp only [Option.some.injEq, Prod.mk.injEq] at H
                obtain ⟨rfl, rfl⟩ := H
                go_wp2_with (first | (go_at_call 20; (with_reducible refine (pylonref01_Half.calls k1 x9_1 1000 t196 t197 _ A11.out).mono ?_); rintro e w' ⟨rfl, ⟨nd, rfl⟩⟩; (try first | exact ⟨rfl, _, World.drewN_drewN _ _ _⟩ | exact ⟨rfl, _, Eq.trans (World.drewN_drewN _ _ _) (congrArg (World.drewN _) (Nat.add_assoc _ _ _))⟩)) | (go_at_call 21; (with_reducible refine (pylonref01_Add.calls k1 x8_1 t196 t198 t199 _ A12.out).mono ?_); rintro e w18 ⟨rfl, hb⟩; have n0_ := Aside0.mk (Kd.R_below (by (with_reducible repeat (first | apply Kd.R_alloc | apply Kd.R_drewN | apply Kd.R_drew)); exact HO_6.out) hb); have n1_ := Aside0.mk (below_step (by repeat (first | (with_reducible first | exact HB.out | apply below_alloc | apply pw_below_drewN | apply below_drew1) | exact HB.out)) hb); clear HO_6; clear HB; have HO_6 := n0_; have HB := n1_; clear n0_ n1_; (try clear hb); (try clear hb2); (try clear hk); (try clear hi)))
                repeat (go_quiet (first | (go_at_call 20; (with_reducible refine (pylonref01_Half.calls k1 x9_1 1000 t196 t197 _ A11.out).mono ?_); rintro e w' ⟨rfl, ⟨nd, rfl⟩⟩; (try first | exact ⟨rfl, _, World.drewN_drewN _ _ _⟩ | exact ⟨rfl, _, Eq.trans (World.drewN_drewN _ _ _) (congrArg (World.drewN _) (Nat.add_assoc _ _ _))⟩)) | (go_at_call 21; (with_reducible refine (pylonref01_Add.calls k1 x8_1 t196 t198 t199 _ A12.out).mono ?_); rintro e w18 ⟨rfl, hb⟩; have n0_ := Aside0.mk (Kd.R_below (by (with_reducible repeat (first | apply Kd.R_alloc | apply Kd.R_drewN | apply Kd.R_drew)); exact HO_6.out) hb); have n1_ := Aside0.mk (below_step (by repeat (first | (with_reducible first | exact HB.out | apply below_alloc | apply pw_below_drewN | apply below_drew1) | exact HB.out)) hb); clear HO_6; clear HB; have HO_6 := n0_; have HB := n1_; clear n0_ n1_; (try clear hb); (try clear hb2); (try clear hk); (try clear hi))); try go_wp2_with (first | (go_at_call 20; (with_reducible refine (pylonref01_Half.calls k1 x9_1 1000 t196 t197 _ A11.out).mono ?_); rintro e w' ⟨rfl, ⟨nd, rfl⟩⟩; (try first | exact ⟨rfl, _, World.drewN_drewN _ _ _⟩ | exact ⟨rfl, _, Eq.trans (World.drewN_drewN _ _ _) (congrArg (World.drewN _) (Nat.add_assoc _ _ _))⟩)) | (go_at_call 21; (with_reducible refine (pylonref01_Add.calls k1 x8_1 t196 t198 t199 _ A12.out).mono ?_); rintro e w18 ⟨rfl, hb⟩; have n0_ := Aside0.mk (Kd.R_below (by (with_reducible repeat (first | apply Kd.R_alloc | apply Kd.R_drewN | apply Kd.R_drew)); exact HO_6.out) hb); have n1_ := Aside0.mk (below_step (by repeat (first | (with_reducible first | exact HB.out | apply below_alloc | apply pw_below_drewN | apply below_drew1) | exact HB.out)) hb); clear HO_6; clear HB; have HO_6 := n0_; have HB := n1_; clear n0_ n1_; (try clear hb); (try clear hb2); (try clear hk); (try clear hi))))
                go_ret2
                exact ⟨by first | rfl | (simp [errW_none, errW_some] <;> rfl) | (simp [*, errW_none, errW_some] <;> rfl), by repeat (first | (with_reducible first | exact HB.out | apply below_alloc | apply pw_below_drewN | apply below_drew1) | exact HB.out)⟩
          · rw [if_neg c13] at H
            have c13b0 : (t199 == 0) = false := beq_eq_false_iff_ne.mpr c13
            have c13b1 : (t199 != 0) = true := bne_iff_ne.mpr c13
            simp only [Option.some.injEq, Prod.mk.injEq] at H
            obtain ⟨rfl, rfl⟩ := H
            go_wp2_with (first | (go_at_call 20; (with_reducible refine (pylonref01_Half.calls k1 x9_1 1000 t196 t197 _ A11.out).mono ?_); rintro e w' ⟨rfl, ⟨nd, rfl⟩⟩; (try first | exact ⟨rfl, _, World.drewN_drewN _ _ _⟩ | exact ⟨rfl, _, Eq.trans (World.drewN_drewN _ _ _) (congrArg (World.drewN _) (Nat.add_assoc _ _ _))⟩)) | (go_at_call 21; (with_reducible refine (pylonref01_Add.calls k1 x8_1 t196 t198 t199 _ A12.out).mono ?_); rintro e w19 ⟨rfl, hb⟩; have n0_ := Aside0.mk (Kd.R_below (by (with_reducible repeat (first | apply Kd.R_alloc | apply Kd.R_drewN | apply Kd.R_drew)); exact HO_6.out) hb); have n1_ := Aside0.mk (below_step (by repeat (first | (with_reducible first | exact HB.out | apply below_alloc | apply pw_below_drewN | apply below_drew1) | exact HB.out)) hb); clear HO_6; clear HB; have HO_6 := n0_; have HB := n1_; clear n0_ n1_; (try clear hb); (try clear hb2); (try clear hk); (try clear hi)))
            repeat (go_quiet (first | (go_at_call 20; (with_reducible refine (pylonref01_Half.calls k1 x9_1 1000 t196 t197 _ A11.out).mono ?_); rintro e w' ⟨rfl, ⟨nd, rfl⟩⟩; (try first | exact ⟨rfl, _, World.drewN_drewN _ _ _⟩ | exact ⟨rfl, _, Eq.trans (World.drewN_drewN _ _ _) (congrArg (World.drewN _) (Nat.add_assoc _ _ _))⟩)) | (go_at_call 21; (with_reducible refine (pylonref01_Add.calls k1 x8_1 t196 t198 t199 _ A12.out).mono ?_); rintro e w19 ⟨rfl, hb⟩; have n0_ := Aside0.mk (Kd.R_below (by (with_reducible repeat (first | apply Kd.R_alloc | apply Kd.R_drewN | apply Kd.R_drew)); exact HO_6.out) hb); have n1_ := Aside0.mk (below_step (by repeat (first | (with_reducible first | exact HB.out | apply below_alloc | apply pw_below_drewN | apply below_drew1) | exact HB.out)) hb); clear HO_6; clear HB; have HO_6 := n0_; have HB := n1_; clear n0_ n1_; (try clear hb); (try clear hb2); (try clear hk); (try clear hi))); try go_wp2_with (first | (go_at_call 20; (with_reducible refine (pylonref01_Half.calls k1 x9_1 1000 t196 t197 _ A11.out).mono ?_); rintro e w' ⟨rfl, ⟨nd, rfl⟩⟩; (try first | exact ⟨rfl, _, World.drewN_drewN _ _ _⟩ | exact ⟨rfl, _, Eq.trans (World.drewN_drewN _ _ _) (congrArg (World.drewN _) (Nat.add_assoc _ _ _))⟩)) | (go_at_call 21; (with_reducible refine (pylonref01_Add.calls k1 x8_1 t196 t198 t199 _ A12.out).mono ?_); rintro e w19 ⟨rfl, hb⟩; have n0_ := Aside0.mk (Kd.R_below (by (with_reducible repeat (first | apply Kd.R_alloc | apply Kd.R_drewN | apply Kd.R_drew)); exact HO_6.out) hb); have n1_ := Aside0.mk (below_step (by repeat (first | (with_reducible first | exact HB.out | apply below_alloc | apply pw_below_drewN | apply below_drew1) | exact HB.out)) hb); clear HO_6; clear HB; have HO_6 := n0_; have HB := n1_; clear n0_ n1_; (try clear hb); (try clear hb2); (try clear hk); (try clear hi))))
            go_ret2
            exact ⟨by first | rfl | (simp [errW_none, errW_some] <;> rfl) | (simp [*, errW_none, errW_some] <;> rfl), by repeat (first | (with_reducible first | exact HB.out | apply below_alloc | apply pw_below_drewN | apply below_drew1) | exact HB.out)⟩
  · rw [if_neg c4] at H
    have c4b0 : (t189 == 0) = false := beq_eq_false_iff_ne.mpr c4
    have c4b1 : (t189 != 0) = true := bne_iff_ne.mpr c4
    simp only [Option.some.injEq, Prod.mk.injEq] at H
    obtain ⟨rfl, rfl⟩ := H
    go_enter Try.func11, Try.ntmps11
    go_wp2_with (first | (go_at_call 10; (with_reducible refine (pylonref17_Parts.calls k _ _ l0 a1 t188 t189 _ ?side1 ?side2 A3.out).mono ?_); (case side1 => repeat (first | exact HR0.out | (with_reducible refine Kd.C_alloc ?_ _) | (with_reducible refine Kd.C_drewN ?_ _) | (with_reducible refine Kd.C_drew ?_))); (case side2 => exact HC0.out); rintro e w20 ⟨v190, rfl, ho0, hb⟩; have n0_ := Aside0.mk (Kd.R_lower ho0 (below_size (by repeat (first | (with_reducible first | exact HB.out | apply below_alloc | apply pw_below_drewN | apply below_drew1) | exact HB.out)))); have n1_ := Aside0.mk (below_step (by repeat (first | (with_reducible first | exact HB.out | apply below_alloc | apply pw_below_drewN | apply below_drew1) | exact HB.out)) hb); clear HB; have HO191 := n0_; have HB := n1_; clear n0_ n1_; (try clear hb); (try clear hb2); (try clear hk); (try clear hi); (try clear ho0)))
    repeat (go_quiet (first | (go_at_call 10; (with_reducible refine (pylonref17_Parts.calls k _ _ l0 a1 t188 t189 _ ?side1 ?side2 A3.out).mono ?_); (case side1 => repeat (first | exact HR0.out | (with_reducible refine Kd.C_alloc ?_ _) | (with_reducible refine Kd.C_drewN ?_ _) | (with_reducible refine Kd.C_drew ?_))); (case side2 => exact HC0.out); rintro e w20 ⟨v190, rfl, ho0, hb⟩; have n0_ := Aside0.mk (Kd.R_lower ho0 (below_size (by repeat (first | (with_reducible first | exact HB.out | apply below_alloc | apply pw_below_drewN | apply below_drew1) | exact HB.out)))); have n1_ := Aside0.mk (below_step (by repeat (first | (with_reducible first | exact HB.out | apply below_alloc | apply pw_below_drewN | apply below_drew1) | exact HB.out)) hb); clear HB; have HO191 := n0_; have HB := n1_; clear n0_ n1_; (try clear hb); (try clear hb2); (try clear hk); (try clear hi); (try clear ho0))); try go_wp2_with (first | (go_at_call 10; (with_reducible refine (pylonref17_Parts.calls k _ _ l0 a1 t188 t189 _ ?side1 ?side2 A3.out).mono ?_); (case side1 => repeat (first | exact HR0.out | (with_reducible refine Kd.C_alloc ?_ _) | (with_reducible refine Kd.C_drewN ?_ _) | (with_reducible refine Kd.C_drew ?_))); (case side2 => exact HC0.out); rintro e w20 ⟨v190, rfl, ho0, hb⟩; have n0_ := Aside0.mk (Kd.R_lower ho0 (below_size (by repeat (first | (with_reducible first | exact HB.out | apply below_alloc | apply pw_below_drewN | apply below_drew1) | exact HB.out)))); have n1_ := Aside0.mk (below_step (by repeat (first | (with_reducible first | exact HB.out | apply below_alloc | apply pw_below_drewN | apply below_drew1) | exact HB.out)) hb); clear HB; have HO191 := n0_; have HB := n1_; clear n0_ n1_; (try clear hb); (try clear hb2); (try clear hk); (try clear hi); (try clear ho0))))
    go_ret2
    exact ⟨by first | rfl | (simp [errW_none, errW_some] <;> rfl) | (simp [*, errW_none, errW_some] <;> rfl), by repeat (first | (with_reducible first | exact HB.out | apply below_alloc | apply pw_below_drewN | apply below_drew1) | exact HB.out)⟩

end Go.Proofs.Ythejabcfbbmkeaa.PB
