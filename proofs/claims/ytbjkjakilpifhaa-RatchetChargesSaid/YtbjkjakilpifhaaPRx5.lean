-- Written by a program of this session for this claim (wip/print2.sh). Lean checks it.
import Derived.Test.YtbjkjakilpifhaaPRx0
import Derived.Test.YtbjkjakilpifhaaPRx4
namespace Go.Proofs.Ytbjkjakilpifhaa.PR
open Go.RowKit Go.Proofs.YtbjkjakilpifhaaW.PrintWords Go.Proofs.YtbjkjakilpifhaaW.PrintLast Go.Proofs.YtbjkjakilpifhaaW.PrintMore
attribute [local go_sem] max2_int min2_int max_two min_two max_three min_three max_four min_four   -- for this text's walks alone
set_option linter.unusedVariables false
set_option linter.unusedSimpArgs false

/-! ### pylonref01_MulDiv: function 29 -/
mutual
def pylonref01_MulDiv.j0 : Nat → Int → Int → Int → Bool → Option (Int × Int)
  | 0, _, _, _, _ => none
  | k + 1, x2, x8, x9, x10 => (pylonref01_mag.f x2).bind fun t138 => ((pylonref01_quotient.f k x8 x9 t138).bind fun bt139 => (if x10 = true then (pylonref01_MulDiv.j1 k x10 bt139.1 bt139.2.1 (decide (bt139.2.2 > (IntKind.u64.wrap (t138 - bt139.2.2))))) else (pylonref01_MulDiv.j1 k x10 bt139.1 bt139.2.1 (decide (bt139.2.2 ≥ (IntKind.u64.wrap (t138 - bt139.2.2)))))))
def pylonref01_MulDiv.j1 : Nat → Bool → Int → Int → Bool → Option (Int × Int)
  | 0, _, _, _, _ => none
  | k + 1, x10, x12, x13, x15 => if x15 = true then (if (IntKind.u64.wrap (x13 + 1)) = 0 then (if x10 = true then (if (IntKind.u64.wrap (x12 + 1)) = 0 then ((pylonref01_signed.f k false (IntKind.u64.wrap (x12 + 1)) (IntKind.u64.wrap (x13 + 1))).bind fun bt142 => (some (bt142.1, bt142.2))) else ((pylonref01_signed.f k true (IntKind.u64.wrap (x12 + 1)) (IntKind.u64.wrap (x13 + 1))).bind fun bt144 => (some (bt144.1, bt144.2)))) else ((pylonref01_signed.f k false (IntKind.u64.wrap (x12 + 1)) (IntKind.u64.wrap (x13 + 1))).bind fun bt146 => (some (bt146.1, bt146.2)))) else (if x10 = true then (if x12 = 0 then ((pylonref01_signed.f k true x12 (IntKind.u64.wrap (x13 + 1))).bind fun bt148 => (some (bt148.1, bt148.2))) else ((pylonref01_signed.f k true x12 (IntKind.u64.wrap (x13 + 1))).bind fun bt150 => (some (bt150.1, bt150.2)))) else ((pylonref01_signed.f k false x12 (IntKind.u64.wrap (x13 + 1))).bind fun bt152 => (some (bt152.1, bt152.2))))) else (if x10 = true then (if x12 = 0 then ((pylonref01_signed.f k (x13 != 0) x12 x13).bind fun bt154 => (some (bt154.1, bt154.2))) else ((pylonref01_signed.f k true x12 x13).bind fun bt156 => (some (bt156.1, bt156.2)))) else ((pylonref01_signed.f k false x12 x13).bind fun bt158 => (some (bt158.1, bt158.2))))
end
def pylonref01_MulDiv.f (k : Nat) (a0 : Int) (a1 : Int) (a2 : Int) : Option (Int × Int) := if a2 = 0 then (some (0, 6)) else ((pylonref01_mag.f a0).bind fun t134 => ((pylonref01_mag.f a1).bind fun t135 => ((pylonref01_product.f t134 t135).bind fun bt136 => (if (!((!((decide (a0 < 0)) == (decide (a1 < 0)))) == (decide (a2 < 0)))) = true then (if bt136.1 = 0 then (pylonref01_MulDiv.j0 k a2 bt136.1 bt136.2 (bt136.2 != 0)) else (pylonref01_MulDiv.j0 k a2 bt136.1 bt136.2 true)) else (pylonref01_MulDiv.j0 k a2 bt136.1 bt136.2 false)))))
theorem pylonref01_MulDiv.mono_l : ∀ k, (∀ y0 y1 y2 y3, LeO (pylonref01_MulDiv.j0 k y0 y1 y2 y3) (pylonref01_MulDiv.j0 (k + 1) y0 y1 y2 y3)) ∧ (∀ y0 y1 y2 y3, LeO (pylonref01_MulDiv.j1 k y0 y1 y2 y3) (pylonref01_MulDiv.j1 (k + 1) y0 y1 y2 y3))
  | 0 => ⟨fun _ _ _ _ r h => by simp [pylonref01_MulDiv.j0] at h, fun _ _ _ _ r h => by simp [pylonref01_MulDiv.j1] at h⟩
  | k + 1 => by
    obtain ⟨ih0, ih1⟩ := pylonref01_MulDiv.mono_l k
    refine ⟨?_, ?_⟩
    · intro y0 y1 y2 y3
      unfold pylonref01_MulDiv.j0
      repeat' first
      | (with_reducible exact ih0 _ _ _ _)
      | (with_reducible exact ih1 _ _ _ _)
      | (with_reducible exact pylonref01_quotient.mono _ _ _ _)
      | (with_reducible exact pylonref01_signed.mono _ _ _ _)
      | (with_reducible exact LeO.refl _)
      | (with_reducible exact LeO.none _)
      | (with_reducible refine LeO.ite ?_ ?_)
      | (with_reducible refine LeO.bind ?_ (fun _ => ?_))
      | exact ih0 _ _ _ _
      | exact ih1 _ _ _ _
      | exact pylonref01_quotient.mono _ _ _ _
      | exact pylonref01_signed.mono _ _ _ _
      | exact LeO.none _
      | refine LeO.ite ?_ ?_
      | refine LeO.bind ?_ (fun _ => ?_)
    · intro y0 y1 y2 y3
      unfold pylonref01_MulDiv.j1
      repeat' first
      | (with_reducible exact ih0 _ _ _ _)
      | (with_reducible exact ih1 _ _ _ _)
      | (with_reducible exact pylonref01_quotient.mono _ _ _ _)
      | (with_reducible exact pylonref01_signed.mono _ _ _ _)
      | (with_reducible exact LeO.refl _)
      | (with_reducible exact LeO.none _)
      | (with_reducible refine LeO.ite ?_ ?_)
      | (with_reducible refine LeO.bind ?_ (fun _ => ?_))
      | exact ih0 _ _ _ _
      | exact ih1 _ _ _ _
      | exact pylonref01_quotient.mono _ _ _ _
      | exact pylonref01_signed.mono _ _ _ _
      | exact LeO.none _
      | refine LeO.ite ?_ ?_
      | refine LeO.bind ?_ (fun _ => ?_)
theorem pylonref01_MulDiv.mono : ∀ a0 a1 a2 k, LeO (pylonref01_MulDiv.f k a0 a1 a2) (pylonref01_MulDiv.f (k + 1) a0 a1 a2) := by
  intro a0 a1 a2 k
  obtain ⟨ih0, ih1⟩ := pylonref01_MulDiv.mono_l k
  unfold pylonref01_MulDiv.f
  repeat' first
      | (with_reducible exact ih0 _ _ _ _)
      | (with_reducible exact ih1 _ _ _ _)
      | (with_reducible exact pylonref01_quotient.mono _ _ _ _)
      | (with_reducible exact pylonref01_signed.mono _ _ _ _)
      | (with_reducible exact LeO.refl _)
      | (with_reducible exact LeO.none _)
      | (with_reducible refine LeO.ite ?_ ?_)
      | (with_reducible refine LeO.bind ?_ (fun _ => ?_))
      | exact ih0 _ _ _ _
      | exact ih1 _ _ _ _
      | exact pylonref01_quotient.mono _ _ _ _
      | exact pylonref01_signed.mono _ _ _ _
      | exact LeO.none _
      | refine LeO.ite ?_ ?_
      | refine LeO.bind ?_ (fun _ => ?_)
set_option maxHeartbeats 8000000 in
set_option maxRecDepth 100000 in
theorem pylonref01_MulDiv.calls (k : Nat) (a0 : Int) (a1 : Int) (a2 : Int) (r1 : Int) (r2 : Int) (w : World) (h : pylonref01_MulDiv.f k a0 a1 a2 = some (r1, r2)) :
    Calls Try.prog 29 #[.int .i64 a0, .int .i64 a1, .int .i64 a2] w fun e w' => e = .returned (.tuple #[.int .i64 r1, .int .i64 r2]) ∧ Drawn0 w w' := by
  have H : (if a2 = 0 then (some (0, 6)) else ((pylonref01_mag.f a0).bind fun t134 => ((pylonref01_mag.f a1).bind fun t135 => ((pylonref01_product.f t134 t135).bind fun bt136 => (if (!((!((decide (a0 < 0)) == (decide (a1 < 0)))) == (decide (a2 < 0)))) = true then (if bt136.1 = 0 then (pylonref01_MulDiv.j0 k a2 bt136.1 bt136.2 (bt136.2 != 0)) else (pylonref01_MulDiv.j0 k a2 bt136.1 bt136.2 true)) else (pylonref01_MulDiv.j0 k a2 bt136.1 bt136.2 false)))))) = some (r1, r2) := h
  clear h
  by_cases c4 : a2 = 0
  · rw [if_pos c4] at H
    have c4b0 : (a2 == 0) = true := beq_iff_eq.mpr c4
    have c4b1 : (a2 != 0) = false := bne_eq_false_iff_eq.mpr c4
    clear c4
    simp only [Option.some.injEq, Prod.mk.injEq] at H
    obtain ⟨rfl, rfl⟩ := H
    go_enter Try.func29, Try.ntmps29
    go_wp2
    go_ret2
    exact ⟨by first | rfl | (simp; done) | (simp [*]; done), by repeat (first | exact Drawn0.refl _ | apply Drawn0.step)⟩
  · rw [if_neg c4] at H
    have c4b0 : (a2 == 0) = false := beq_eq_false_iff_ne.mpr c4
    have c4b1 : (a2 != 0) = true := bne_iff_ne.mpr c4
    replace H := Option.bind_eq_some_iff.mp H
    obtain ⟨t134, A50, H⟩ := H
    replace H : ((pylonref01_mag.f a1).bind fun t135 => ((pylonref01_product.f t134 t135).bind fun bt136 => (if (!((!((decide (a0 < 0)) == (decide (a1 < 0)))) == (decide (a2 < 0)))) = true then (if bt136.1 = 0 then (pylonref01_MulDiv.j0 k a2 bt136.1 bt136.2 (bt136.2 != 0)) else (pylonref01_MulDiv.j0 k a2 bt136.1 bt136.2 true)) else (pylonref01_MulDiv.j0 k a2 bt136.1 bt136.2 false)))) = some (r1, r2) := H
    have A5 := Aside0.mk A50
    clear A50
    replace H := Option.bind_eq_some_iff.mp H
    obtain ⟨t135, A60, H⟩ := H
    replace H : ((pylonref01_product.f t134 t135).bind fun bt136 => (if (!((!((decide (a0 < 0)) == (decide (a1 < 0)))) == (decide (a2 < 0)))) = true then (if bt136.1 = 0 then (pylonref01_MulDiv.j0 k a2 bt136.1 bt136.2 (bt136.2 != 0)) else (pylonref01_MulDiv.j0 k a2 bt136.1 bt136.2 true)) else (pylonref01_MulDiv.j0 k a2 bt136.1 bt136.2 false))) = some (r1, r2) := H
    have A6 := Aside0.mk A60
    clear A60
    replace H := Option.bind_eq_some_iff.mp H
    obtain ⟨⟨t136, t137⟩, A70, H⟩ := H
    replace H : (if (!((!((decide (a0 < 0)) == (decide (a1 < 0)))) == (decide (a2 < 0)))) = true then (if t136 = 0 then (pylonref01_MulDiv.j0 k a2 t136 t137 (t137 != 0)) else (pylonref01_MulDiv.j0 k a2 t136 t137 true)) else (pylonref01_MulDiv.j0 k a2 t136 t137 false)) = some (r1, r2) := H
    have A7 := Aside0.mk A70
    clear A70
    have HC8 := Aside0.mk H
    clear H
    go_enter Try.func29, Try.ntmps29
    go_upto_region 4 with (first | ((with_reducible refine gate_callee (f := 34) rfl ?_); refine goesL_ (some 20) rfl rfl Try.func34 (by kernel_rfl) rfl #[.int .i64 a0] rfl (by (try simp only [List.map_toArray, List.map_cons, List.map_nil]); first | done | rfl | (simp only [List.length_drop, List.length_take]; rfl)) ?_; (with_reducible refine (pylonref01_mag.calls a0 t134 _ A5.out).mono ?_); rintro e w' ⟨rfl, ⟨nd, rfl⟩⟩; refine ⟨_, rfl, ?_⟩) | ((with_reducible refine gate_callee (f := 34) rfl ?_); refine goesL_ (some 22) rfl rfl Try.func34 (by kernel_rfl) rfl #[.int .i64 a1] rfl (by (try simp only [List.map_toArray, List.map_cons, List.map_nil]); first | done | rfl | (simp only [List.length_drop, List.length_take]; rfl)) ?_; (with_reducible refine (pylonref01_mag.calls a1 t135 _ A6.out).mono ?_); rintro e w' ⟨rfl, ⟨nd, rfl⟩⟩; refine ⟨_, rfl, ?_⟩) | ((with_reducible refine gate_callee (f := 33) rfl ?_); refine goesL_ (some 23) rfl rfl Try.func33 (by kernel_rfl) rfl #[.int .u64 t134, .int .u64 t135] rfl (by (try simp only [List.map_toArray, List.map_cons, List.map_nil]); first | done | rfl | (simp only [List.length_drop, List.length_take]; rfl)) ?_; (with_reducible refine (pylonref01_product.calls t134 t135 t136 t137 _ A7.out).mono ?_); rintro e w' ⟨rfl, ⟨nd, rfl⟩⟩; refine ⟨_, rfl, ?_⟩))
    (try simp only [Act.put, List.setIfInBounds_toArray, List.set_cons_zero, List.set_cons_succ])
    go_cut [10] (fun v10 wc => ∃ (kq : Nat) (x10_7 : Bool), v10 = .bool x10_7 ∧ Aside0 (pylonref01_MulDiv.j0 kq a2 t136 t137 x10_7 = some (r1, r2)) ∧ Aside0 (kq ≤ k) ∧ Drawn0 w wc)
    case first =>
      have H := HC8.out
      clear HC8
      by_cases c9 : (!((!((decide (a0 < 0)) == (decide (a1 < 0)))) == (decide (a2 < 0)))) = true
      · rw [if_pos c9] at H
        have c9b0 : (!((!((decide (a0 < 0)) == (decide (a1 < 0)))) == (decide (a2 < 0)))) = true := c9
        clear c9
        (first | rw [c9b0] | (simp only [i64_w, i32_w]; rw [c9b0]) | skip)
        by_cases c10 : t136 = 0
        · rw [if_pos c10] at H
          have c10b0 : (t136 == 0) = true := beq_iff_eq.mpr c10
          have c10b1 : (t136 != 0) = false := bne_eq_false_iff_eq.mpr c10
          clear c10
          have H' := Aside0.mk H
          clear H
          go_wp2
          go_meet
          case rel => exact ⟨_, ((t137 != 0)), (by first | rfl | (simp; done) | (simp [*]; done)), H', ⟨by first | omega | exact Nat.le_refl _⟩, by repeat (first | exact Drawn0.refl _ | apply Drawn0.step)⟩
        · rw [if_neg c10] at H
          have c10b0 : (t136 == 0) = false := beq_eq_false_iff_ne.mpr c10
          have c10b1 : (t136 != 0) = true := bne_iff_ne.mpr c10
          have H' := Aside0.mk H
          clear H
          go_wp2
          go_meet
          case rel => exact ⟨_, (true), (by first | rfl | (simp; done) | (simp [*]; done)), H', ⟨by first | omega | exact Nat.le_refl _⟩, by repeat (first | exact Drawn0.refl _ | apply Drawn0.step)⟩
      · rw [if_neg c9] at H
        have c9b0 : (!((!((decide (a0 < 0)) == (decide (a1 < 0)))) == (decide (a2 < 0)))) = false := Bool.eq_false_iff.mpr c9
        clear c9
        (first | rw [c9b0] | (simp only [i64_w, i32_w]; rw [c9b0]) | skip)
        have H' := Aside0.mk H
        clear H
        go_wp2
        go_meet
        case rel => exact ⟨_, (false), (by first | rfl | (simp; done) | (simp [*]; done)), H', ⟨by first | omega | exact Nat.le_refl _⟩, by repeat (first | exact Drawn0.refl _ | apply Drawn0.step)⟩
    case rest =>
      clear HC8
      try clear c1
      try clear c2
      try clear p2
      try clear c3
      try clear c4
      try clear c4b0
      try clear c4b1
      try clear c9
      try clear c9b0
      try clear c10
      try clear c10b0
      try clear c10b1
      obtain ⟨kq, x10_7, rfl, HA, HJ7, ⟨mc7, rfl⟩⟩ := hcut
      cases kq with
      | zero => exact absurd HA.out (by simp [pylonref01_MulDiv.j0])
      | succ kj7 =>
        have H := HA.out
        clear HA
        simp only [pylonref01_MulDiv.j0] at H
        replace H := Option.bind_eq_some_iff.mp H
        obtain ⟨t138, A110, H⟩ := H
        replace H : ((pylonref01_quotient.f kj7 t136 t137 t138).bind fun bt139 => (if x10_7 = true then (pylonref01_MulDiv.j1 kj7 x10_7 bt139.1 bt139.2.1 (decide (bt139.2.2 > (IntKind.u64.wrap (t138 - bt139.2.2))))) else (pylonref01_MulDiv.j1 kj7 x10_7 bt139.1 bt139.2.1 (decide (bt139.2.2 ≥ (IntKind.u64.wrap (t138 - bt139.2.2))))))) = some (r1, r2) := H
        have A11 := Aside0.mk A110
        clear A110
        replace H := Option.bind_eq_some_iff.mp H
        obtain ⟨⟨t139, t140, t141⟩, A120, H⟩ := H
        replace H : (if x10_7 = true then (pylonref01_MulDiv.j1 kj7 x10_7 t139 t140 (decide (t141 > (IntKind.u64.wrap (t138 - t141))))) else (pylonref01_MulDiv.j1 kj7 x10_7 t139 t140 (decide (t141 ≥ (IntKind.u64.wrap (t138 - t141)))))) = some (r1, r2) := H
        have A12 := Aside0.mk A120
        clear A120
        have HC13 := Aside0.mk H
        clear H
        go_upto_if 57 with (first | ((with_reducible refine gate_callee (f := 34) rfl ?_); refine goesL_ (some 43) rfl rfl Try.func34 (by kernel_rfl) rfl #[.int .i64 a2] rfl (by (try simp only [List.map_toArray, List.map_cons, List.map_nil]); first | done | rfl | (simp only [List.length_drop, List.length_take]; rfl)) ?_; (with_reducible refine (pylonref01_mag.calls a2 t138 _ A11.out).mono ?_); rintro e w' ⟨rfl, ⟨nd, rfl⟩⟩; refine ⟨_, rfl, ?_⟩) | ((with_reducible refine gate_callee (f := 35) rfl ?_); refine goesL_ (some 48) rfl rfl Try.func35 (by kernel_rfl) rfl #[.int .u64 t136, .int .u64 t137, .int .u64 t138] rfl (by (try simp only [List.map_toArray, List.map_cons, List.map_nil]); first | done | rfl | (simp only [List.length_drop, List.length_take]; rfl)) ?_; (with_reducible refine (pylonref01_quotient.calls kj7 t136 t137 t138 t139 t140 t141 _ A12.out).mono ?_); rintro e w' ⟨rfl, ⟨nd, rfl⟩⟩; refine ⟨_, rfl, ?_⟩))
        (try simp only [Act.put, List.setIfInBounds_toArray, List.set_cons_zero, List.set_cons_succ])
        go_cut [15] (fun v15 wc => ∃ (kq : Nat) (x15_12 : Bool), v15 = .bool x15_12 ∧ Aside0 (pylonref01_MulDiv.j1 kq x10_7 t139 t140 x15_12 = some (r1, r2)) ∧ Aside0 (kq ≤ kj7) ∧ Drawn0 w wc)
        case first =>
          have H := HC13.out
          clear HC13
          by_cases c14 : x10_7 = true
          · subst c14
            have H1 : (pylonref01_MulDiv.j1 kj7 true t139 t140 (decide (t141 > (IntKind.u64.wrap (t138 - t141))))) = some (r1, r2) := by rw [if_pos rfl] at H; exact H
            clear H
            have H := H1
            clear H1
            have H' := Aside0.mk H
            clear H
            go_wp2
            go_meet
            case rel => exact ⟨_, (decide (t141 > (IntKind.u64.wrap (t138 - t141)))), (by first | rfl | (simp; done) | (simp [*]; done) | (by_cases hdp0_ : t141 > (IntKind.u64.wrap (t138 - t141)) <;> simp [*] <;> done)), H', ⟨by have := HJ7.out; first | omega | exact Nat.le_refl _⟩, by repeat (first | exact Drawn0.refl _ | apply Drawn0.step)⟩
          · replace c14 := Bool.eq_false_iff.mpr c14
            subst c14
            have H1 : (pylonref01_MulDiv.j1 kj7 false t139 t140 (decide (t141 ≥ (IntKind.u64.wrap (t138 - t141))))) = some (r1, r2) := by rw [if_neg (show ¬ (false = true) by decide)] at H; exact H
            clear H
            have H := H1
            clear H1
            have H' := Aside0.mk H
            clear H
            go_wp2
            go_meet
            case rel => exact ⟨_, (decide (t141 ≥ (IntKind.u64.wrap (t138 - t141)))), (by first | rfl | (simp; done) | (simp [*]; done) | (by_cases hdp0_ : t141 ≥ (IntKind.u64.wrap (t138 - t141)) <;> simp [*] <;> done)), H', ⟨by have := HJ7.out; first | omega | exact Nat.le_refl _⟩, by repeat (first | exact Drawn0.refl _ | apply Drawn0.step)⟩
        case rest =>
          clear HC13
          try clear c1
          try clear c2
          try clear p2
          try clear c3
          try clear c4
          try clear c4b0
          try clear c4b1
          try clear c7
          try clear c9
          try clear c9b0
          try clear c10
          try clear c10b0
          try clear c10b1
          try clear c14
          try clear p2
          obtain ⟨kq, x15_12, rfl, HA, HJ12, ⟨mc12, rfl⟩⟩ := hcut
          cases kq with
          | zero => exact absurd HA.out (by simp [pylonref01_MulDiv.j1])
          | succ kj12 =>
            have H := HA.out
            clear HA
            simp only [pylonref01_MulDiv.j1] at H
            by_cases c15 : x15_12 = true
            · subst c15
              have H1 : (if (IntKind.u64.wrap (t140 + 1)) = 0 then (if x10_7 = true then (if (IntKind.u64.wrap (t139 + 1)) = 0 then ((pylonref01_signed.f kj12 false (IntKind.u64.wrap (t139 + 1)) (IntKind.u64.wrap (t140 + 1))).bind fun bt142 => (some (bt142.1, bt142.2))) else ((pylonref01_signed.f kj12 true (IntKind.u64.wrap (t139 + 1)) (IntKind.u64.wrap (t140 + 1))).bind fun bt144 => (some (bt144.1, bt144.2)))) else ((pylonref01_signed.f kj12 false (IntKind.u64.wrap (t139 + 1)) (IntKind.u64.wrap (t140 + 1))).bind fun bt146 => (some (bt146.1, bt146.2)))) else (if x10_7 = true then (if t139 = 0 then ((pylonref01_signed.f kj12 true t139 (IntKind.u64.wrap (t140 + 1))).bind fun bt148 => (some (bt148.1, bt148.2))) else ((pylonref01_signed.f kj12 true t139 (IntKind.u64.wrap (t140 + 1))).bind fun bt150 => (some (bt150.1, bt150.2)))) else ((pylonref01_signed.f kj12 false t139 (IntKind.u64.wrap (t140 + 1))).bind fun bt152 => (some (bt152.1, bt152.2))))) = some (r1, r2) := by rw [if_pos rfl] at H; exact H
              clear H
              have H := H1
              clear H1
              by_cases c16 : (IntKind.u64.wrap (t140 + 1)) = 0
              · rw [if_pos c16] at H
                have c16b0 : ((IntKind.u64.wrap (t140 + 1)) == 0) = true := beq_iff_eq.mpr c16
                have c16b1 : ((IntKind.u64.wrap (t140 + 1)) != 0) = false := bne_eq_false_iff_eq.mpr c16
                clear c16
                by_cases c17 : x10_7 = true
                · subst c17
                  have H1 : (if (IntKind.u64.wrap (t139 + 1)) = 0 then ((pylonref01_signed.f kj12 false (IntKind.u64.wrap (t139 + 1)) (IntKind.u64.wrap (t140 + 1))).bind fun bt142 => (some (bt142.1, bt142.2))) else ((pylonref01_signed.f kj12 true (IntKind.u64.wrap (t139 + 1)) (IntKind.u64.wrap (t140 + 1))).bind fun bt144 => (some (bt144.1, bt144.2)))) = some (r1, r2) := by rw [if_pos rfl] at H; exact H
                  clear H
                  have H := H1
                  clear H1
                  by_cases c18 : (IntKind.u64.wrap (t139 + 1)) = 0
                  · rw [if_pos c18] at H
                    have c18b0 : ((IntKind.u64.wrap (t139 + 1)) == 0) = true := beq_iff_eq.mpr c18
                    have c18b1 : ((IntKind.u64.wrap (t139 + 1)) != 0) = false := bne_eq_false_iff_eq.mpr c18
                    clear c18
                    replace H := Option.bind_eq_some_iff.mp H
                    obtain ⟨⟨t142, t143⟩, A190, H⟩ := H
                    replace H : (some (t142, t143)) = some (r1, r2) := H
                    have A19 := Aside0.mk A190
                    clear A190
                    simp only [Option.some.injEq, Prod.mk.injEq] at H
                    obtain ⟨rfl, rfl⟩ := H
                    go_wp2_with (first | ((with_reducible refine gate_callee (f := 36) rfl ?_); refine goesL_ (some 81) rfl rfl Try.func36 (by kernel_rfl) rfl #[.bool false, .int .u64 (IntKind.u64.wrap (t139 + 1)), .int .u64 (IntKind.u64.wrap (t140 + 1))] rfl (by (try simp only [List.map_toArray, List.map_cons, List.map_nil]); first | done | rfl | (simp only [List.length_drop, List.length_take]; rfl)) ?_; (with_reducible refine (pylonref01_signed.calls kj12 false (IntKind.u64.wrap (t139 + 1)) (IntKind.u64.wrap (t140 + 1)) t142 t143 _ A19.out).mono ?_); rintro e w' ⟨rfl, ⟨nd, rfl⟩⟩; refine ⟨_, rfl, ?_⟩))
                    go_ret2
                    exact ⟨by first | rfl | (simp; done) | (simp [*]; done), by repeat (first | exact Drawn0.refl _ | apply Drawn0.step)⟩
                  · rw [if_neg c18] at H
                    have c18b0 : ((IntKind.u64.wrap (t139 + 1)) == 0) = false := beq_eq_false_iff_ne.mpr c18
                    have c18b1 : ((IntKind.u64.wrap (t139 + 1)) != 0) = true := bne_iff_ne.mpr c18
                    replace H := Option.bind_eq_some_iff.mp H
                    obtain ⟨⟨t144, t145⟩, A200, H⟩ := H
                    replace H : (some (t144, t145)) = some (r1, r2) := H
                    have A20 := Aside0.mk A200
                    clear A200
                    simp only [Option.some.injEq, Prod.mk.injEq] at H
                    obtain ⟨rfl, rfl⟩ := H
                    go_wp2_with (first | ((with_reducible refine gate_callee (f := 36) rfl ?_); refine goesL_ (some 81) rfl rfl Try.func36 (by kernel_rfl) rfl #[.bool true, .int .u64 (IntKind.u64.wrap (t139 + 1)), .int .u64 (IntKind.u64.wrap (t140 + 1))] rfl (by (try simp only [List.map_toArray, List.map_cons, List.map_nil]); first | done | rfl | (simp only [List.length_drop, List.length_take]; rfl)) ?_; (with_reducible refine (pylonref01_signed.calls kj12 true (IntKind.u64.wrap (t139 + 1)) (IntKind.u64.wrap (t140 + 1)) t144 t145 _ A20.out).mono ?_); rintro e w' ⟨rfl, ⟨nd, rfl⟩⟩; refine ⟨_, rfl, ?_⟩))
                    go_ret2
                    exact ⟨by first | rfl | (simp; done) | (simp [*]; done), by repeat (first | exact Drawn0.refl _ | apply Drawn0.step)⟩
                · replace c17 := Bool.eq_false_iff.mpr c17
                  subst c17
                  have H1 : ((pylonref01_signed.f kj12 false (IntKind.u64.wrap (t139 + 1)) (IntKind.u64.wrap (t140 + 1))).bind fun bt146 => (some (bt146.1, bt146.2))) = some (r1, r2) := by rw [if_neg (show ¬ (false = true) by decide)] at H; exact H
                  clear H
                  have H := H1
                  clear H1
                  replace H := Option.bind_eq_some_iff.mp H
                  obtain ⟨⟨t146, t147⟩, A210, H⟩ := H
                  replace H : (some (t146, t147)) = some (r1, r2) := H
                  have A21 := Aside0.mk A210
                  clear A210
                  simp only [Option.some.injEq, Prod.mk.injEq] at H
                  obtain ⟨rfl, rfl⟩ := H
                  go_wp2_with (first | ((with_reducible refine gate_callee (f := 36) rfl ?_); refine goesL_ (some 81) rfl rfl Try.func36 (by kernel_rfl) rfl #[.bool false, .int .u64 (IntKind.u64.wrap (t139 + 1)), .int .u64 (IntKind.u64.wrap (t140 + 1))] rfl (by (try simp only [List.map_toArray, List.map_cons, List.map_nil]); first | done | rfl | (simp only [List.length_drop, List.length_take]; rfl)) ?_; (with_reducible refine (pylonref01_signed.calls kj12 false (IntKind.u64.wrap (t139 + 1)) (IntKind.u64.wrap (t140 + 1)) t146 t147 _ A21.out).mono ?_); rintro e w' ⟨rfl, ⟨nd, rfl⟩⟩; refine ⟨_, rfl, ?_⟩))
                  go_ret2
                  exact ⟨by first | rfl | (simp; done) | (simp [*]; done), by repeat (first | exact Drawn0.refl _ | apply Drawn0.step)⟩
              · rw [if_neg c16] at H
                have c16b0 : ((IntKind.u64.wrap (t140 + 1)) == 0) = false := beq_eq_false_iff_ne.mpr c16
                have c16b1 : ((IntKind.u64.wrap (t140 + 1)) != 0) = true := bne_iff_ne.mpr c16
                by_cases c22 : x10_7 = true
                · subst c22
                  have H1 : (if t139 = 0 then ((pylonref01_signed.f kj12 true t139 (IntKind.u64.wrap (t140 + 1))).bind fun bt148 => (some (bt148.1, bt148.2))) else ((pylonref01_signed.f kj12 true t139 (IntKind.u64.wrap (t140 + 1))).bind fun bt150 => (some (bt150.1, bt150.2)))) = some (r1, r2) := by rw [if_pos rfl] at H; exact H
                  clear H
                  have H := H1
                  clear H1
                  by_cases c23 : t139 = 0
                  · rw [if_pos c23] at H
                    have c23b0 : (t139 == 0) = true := beq_iff_eq.mpr c23
                    have c23b1 : (t139 != 0) = false := bne_eq_false_iff_eq.mpr c23
                    clear c23
                    replace H := Option.bind_eq_some_iff.mp H
                    obtain ⟨⟨t148, t149⟩, A240, H⟩ := H
                    replace H : (some (t148, t149)) = some (r1, r2) := H
                    have A24 := Aside0.mk A240
                    clear A240
                    simp only [Option.some.injEq, Prod.mk.injEq] at H
                    obtain ⟨rfl, rfl⟩ := H
                    go_wp2_with (first | ((with_reducible refine gate_callee (f := 36) rfl ?_); refine goesL_ (some 81) rfl rfl Try.func36 (by kernel_rfl) rfl #[.bool true, .int .u64 t139, .int .u64 (IntKind.u64.wrap (t140 + 1))] rfl (by (try simp only [List.map_toArray, List.map_cons, List.map_nil]); first | done | rfl | (simp only [List.length_drop, List.length_take]; rfl)) ?_; (with_reducible refine (pylonref01_signed.calls kj12 true t139 (IntKind.u64.wrap (t140 + 1)) t148 t149 _ A24.out).mono ?_); rintro e w' ⟨rfl, ⟨nd, rfl⟩⟩; refine ⟨_, rfl, ?_⟩))
                    go_ret2
                    exact ⟨by first | rfl | (simp; done) | (simp [*]; done), by repeat (first | exact Drawn0.refl _ | apply Drawn0.step)⟩
                  · rw [if_neg c23] at H
                    have c23b0 : (t139 == 0) = false := beq_eq_false_iff_ne.mpr c23
                    have c23b1 : (t139 != 0) = true := bne_iff_ne.mpr c23
                    replace H := Option.bind_eq_some_iff.mp H
                    obtain ⟨⟨t150, t151⟩, A250, H⟩ := H
                    replace H : (some (t150, t151)) = some (r1, r2) := H
                    have A25 := Aside0.mk A250
                    clear A250
                    simp only [Option.some.injEq, Prod.mk.injEq] at H
                    obtain ⟨rfl, rfl⟩ := H
                    go_wp2_with (first | ((with_reducible refine gate_callee (f := 36) rfl ?_); refine goesL_ (some 81) rfl rfl Try.func36 (by kernel_rfl) rfl #[.bool true, .int .u64 t139, .int .u64 (IntKind.u64.wrap (t140 + 1))] rfl (by (try simp only [List.map_toArray, List.map_cons, List.map_nil]); first | done | rfl | (simp only [List.length_drop, List.length_take]; rfl)) ?_; (with_reducible refine (pylonref01_signed.calls kj12 true t139 (IntKind.u64.wrap (t140 + 1)) t150 t151 _ A25.out).mono ?_); rintro e w' ⟨rfl, ⟨nd, rfl⟩⟩; refine ⟨_, rfl, ?_⟩))
                    go_ret2
                    exact ⟨by first | rfl | (simp; done) | (simp [*]; done), by repeat (first | exact Drawn0.refl _ | apply Drawn0.step)⟩
                · replace c22 := Bool.eq_false_iff.mpr c22
                  subst c22
                  have H1 : ((pylonref01_signed.f kj12 false t139 (IntKind.u64.wrap (t140 + 1))).bind fun bt152 => (some (bt152.1, bt152.2))) = some (r1, r2) := by rw [if_neg (show ¬ (false = true) by decide)] at H; exact H
                  clear H
                  have H := H1
                  clear H1
                  replace H := Option.bind_eq_some_iff.mp H
                  obtain ⟨⟨t152, t153⟩, A260, H⟩ := H
                  replace H : (some (t152, t153)) = some (r1, r2) := H
                  have A26 := Aside0.mk A260
                  clear A260
                  simp only [Option.some.injEq, Prod.mk.injEq] at H
                  obtain ⟨rfl, rfl⟩ := H
                  go_wp2_with (first | ((with_reducible refine gate_callee (f := 36) rfl ?_); refine goesL_ (some 81) rfl rfl Try.func36 (by kernel_rfl) rfl #[.bool false, .int .u64 t139, .int .u64 (IntKind.u64.wrap (t140 + 1))] rfl (by (try simp only [List.map_toArray, List.map_cons, List.map_nil]); first | done | rfl | (simp only [List.length_drop, List.length_take]; rfl)) ?_; (with_reducible refine (pylonref01_signed.calls kj12 false t139 (IntKind.u64.wrap (t140 + 1)) t152 t153 _ A26.out).mono ?_); rintro e w' ⟨rfl, ⟨nd, rfl⟩⟩; refine ⟨_, rfl, ?_⟩))
                  go_ret2
                  exact ⟨by first | rfl | (simp; done) | (simp [*]; done), by repeat (first | exact Drawn0.refl _ | apply Drawn0.step)⟩
            · replace c15 := Bool.eq_false_iff.mpr c15
              subst c15
              have H1 : (if x10_7 = true then (if t139 = 0 then ((pylonref01_signed.f kj12 (t140 != 0) t139 t140).bind fun bt154 => (some (bt154.1, bt154.2))) else ((pylonref01_signed.f kj12 true t139 t140).bind fun bt156 => (some (bt156.1, bt156.2)))) else ((pylonref01_signed.f kj12 false t139 t140).bind fun bt158 => (some (bt158.1, bt158.2)))) = some (r1, r2) := by rw [if_neg (show ¬ (false = true) by decide)] at H; exact H
              clear H
              have H := H1
              clear H1
              by_cases c27 : x10_7 = true
              · subst c27
                have H1 : (if t139 = 0 then ((pylonref01_signed.f kj12 (t140 != 0) t139 t140).bind fun bt154 => (some (bt154.1, bt154.2))) else ((pylonref01_signed.f kj12 true t139 t140).bind fun bt156 => (some (bt156.1, bt156.2)))) = some (r1, r2) := by rw [if_pos rfl] at H; exact H
                clear H
                have H := H1
                clear H1
                by_cases c28 : t139 = 0
                · rw [if_pos c28] at H
                  have c28b0 : (t139 == 0) = true := beq_iff_eq.mpr c28
                  have c28b1 : (t139 != 0) = false := bne_eq_false_iff_eq.mpr c28
                  clear c28
                  replace H := Option.bind_eq_some_iff.mp H
                  obtain ⟨⟨t154, t155⟩, A290, H⟩ := H
                  replace H : (some (t154, t155)) = some (r1, r2) := H
                  have A29 := Aside0.mk A290
                  clear A290
                  simp only [Option.some.injEq, Prod.mk.injEq] at H
                  obtain ⟨rfl, rfl⟩ := H
                  go_wp2_with (first | ((with_reducible refine gate_callee (f := 36) rfl ?_); refine goesL_ (some 81) rfl rfl Try.func36 (by kernel_rfl) rfl #[.bool (t140 != 0), .int .u64 t139, .int .u64 t140] rfl (by (try simp only [List.map_toArray, List.map_cons, List.map_nil]); first | done | rfl | (simp only [List.length_drop, List.length_take]; rfl)) ?_; (with_reducible refine (pylonref01_signed.calls kj12 (t140 != 0) t139 t140 t154 t155 _ A29.out).mono ?_); rintro e w' ⟨rfl, ⟨nd, rfl⟩⟩; refine ⟨_, rfl, ?_⟩))
                  go_ret2
                  exact ⟨by first | rfl | (simp; done) | (simp [*]; done), by repeat (first | exact Drawn0.refl _ | apply Drawn0.step)⟩
                · rw [if_neg c28] at H
                  have c28b0 : (t139 == 0) = false := beq_eq_false_iff_ne.mpr c28
                  have c28b1 : (t139 != 0) = true := bne_iff_ne.mpr c28
                  replace H := Option.bind_eq_some_iff.mp H
                  obtain ⟨⟨t156, t157⟩, A300, H⟩ := H
                  replace H : (some (t156, t157)) = some (r1, r2) := H
                  have A30 := Aside0.mk A300
                  clear A300
                  simp only [Option.some.injEq, Prod.mk.injEq] at H
                  obtain ⟨rfl, rfl⟩ := H
                  go_wp2_with (first | ((with_reducible refine gate_callee (f := 36) rfl ?_); refine goesL_ (some 81) rfl rfl Try.func36 (by kernel_rfl) rfl #[.bool true, .int .u64 t139, .int .u64 t140] rfl (by (try simp only [List.map_toArray, List.map_cons, List.map_nil]); first | done | rfl | (simp only [List.length_drop, List.length_take]; rfl)) ?_; (with_reducible refine (pylonref01_signed.calls kj12 true t139 t140 t156 t157 _ A30.out).mono ?_); rintro e w' ⟨rfl, ⟨nd, rfl⟩⟩; refine ⟨_, rfl, ?_⟩))
                  go_ret2
                  exact ⟨by first | rfl | (simp; done) | (simp [*]; done), by repeat (first | exact Drawn0.refl _ | apply Drawn0.step)⟩
              · replace c27 := Bool.eq_false_iff.mpr c27
                subst c27
                have H1 : ((pylonref01_signed.f kj12 false t139 t140).bind fun bt158 => (some (bt158.1, bt158.2))) = some (r1, r2) := by rw [if_neg (show ¬ (false = true) by decide)] at H; exact H
                clear H
                have H := H1
                clear H1
                replace H := Option.bind_eq_some_iff.mp H
                obtain ⟨⟨t158, t159⟩, A310, H⟩ := H
                replace H : (some (t158, t159)) = some (r1, r2) := H
                have A31 := Aside0.mk A310
                clear A310
                simp only [Option.some.injEq, Prod.mk.injEq] at H
                obtain ⟨rfl, rfl⟩ := H
                go_wp2_with (first | ((with_reducible refine gate_callee (f := 36) rfl ?_); refine goesL_ (some 81) rfl rfl Try.func36 (by kernel_rfl) rfl #[.bool false, .int .u64 t139, .int .u64 t140] rfl (by (try simp only [List.map_toArray, List.map_cons, List.map_nil]); first | done | rfl | (simp only [List.length_drop, List.length_take]; rfl)) ?_; (with_reducible refine (pylonref01_signed.calls kj12 false t139 t140 t158 t159 _ A31.out).mono ?_); rintro e w' ⟨rfl, ⟨nd, rfl⟩⟩; refine ⟨_, rfl, ?_⟩))
                go_ret2
                exact ⟨by first | rfl | (simp; done) | (simp [*]; done), by repeat (first | exact Drawn0.refl _ | apply Drawn0.step)⟩

/-! ### pylonref18_Billed: function 21 -/
mutual
def pylonref18_Billed.j0 : Nat → List Int → Int → Int → Bool → Option (Int × Int)
  | 0, _, _, _, _ => none
  | k + 1, x0, x1, x2, x32 => if x32 = true then (some (0, 8)) else (pylonref18_Billed.l0 k x0 x1 x2 (x0.length : Int) 0)
def pylonref18_Billed.l0 : Nat → List Int → Int → Int → Int → Int → Option (Int × Int)
  | 0, _, _, _, _, _ => none
  | k + 1, x0, x1, x2, x34, x35 => if x35 < x34 then (if 0 ≤ x35 then (if x35 < (x0.length : Int) then (if (rd x0 x35) < 0 then (some (0, 5)) else (if (rd x0 x35) > 500000000000000 then (some (0, 5)) else (pylonref18_Billed.l0 k x0 x1 x2 x34 (wrap64 (x35 + 1))))) else (none)) else (none)) else (if 0 ≤ (wrap64 ((x0.length : Int) - 1)) then (if (wrap64 ((x0.length : Int) - 1)) < (x0.length : Int) then (pylonref18_Billed.l1 k x0 x1 x2 (wrap64 ((x0.length : Int) - 1)) (rd x0 (wrap64 ((x0.length : Int) - 1))) 1) else (none)) else (none))
def pylonref18_Billed.l1 : Nat → List Int → Int → Int → Int → Int → Int → Option (Int × Int)
  | 0, _, _, _, _, _, _ => none
  | k + 1, x0, x1, x2, x9, x10, x11 => if x11 ≤ x2 then (if x11 ≤ x9 then (if 0 ≤ (wrap64 (x9 - x11)) then (if (wrap64 (x9 - x11)) < (x0.length : Int) then ((pylonref01_MulDiv.f k (rd x0 (wrap64 (x9 - x11))) x1 100).bind fun bt164 => (pylonref18_Billed.l1 k x0 x1 x2 x9 (mx x10 bt164.1) (wrap64 (x11 + 1)))) else (none)) else (none)) else (some (x10, 0))) else (some (x10, 0))
end
def pylonref18_Billed.f (k : Nat) (l0 : List Int) (a1 : Int) (a2 : Int) : Option (Int × Int) := if (l0.length : Int) = 0 then (pylonref18_Billed.j0 k l0 a1 a2 true) else (if a1 < 0 then (pylonref18_Billed.j0 k l0 a1 a2 true) else (if a1 > 100 then (pylonref18_Billed.j0 k l0 a1 a2 true) else (if a2 < 0 then (pylonref18_Billed.j0 k l0 a1 a2 true) else (pylonref18_Billed.j0 k l0 a1 a2 (decide (a2 > 36))))))
theorem pylonref18_Billed.mono_l : ∀ k, (∀ y0 y1 y2 y3, LeO (pylonref18_Billed.j0 k y0 y1 y2 y3) (pylonref18_Billed.j0 (k + 1) y0 y1 y2 y3)) ∧ (∀ y0 y1 y2 y3 y4, LeO (pylonref18_Billed.l0 k y0 y1 y2 y3 y4) (pylonref18_Billed.l0 (k + 1) y0 y1 y2 y3 y4)) ∧ (∀ y0 y1 y2 y3 y4 y5, LeO (pylonref18_Billed.l1 k y0 y1 y2 y3 y4 y5) (pylonref18_Billed.l1 (k + 1) y0 y1 y2 y3 y4 y5))
  | 0 => ⟨fun _ _ _ _ r h => by simp [pylonref18_Billed.j0] at h, fun _ _ _ _ _ r h => by simp [pylonref18_Billed.l0] at h, fun _ _ _ _ _ _ r h => by simp [pylonref18_Billed.l1] at h⟩
  | k + 1 => by
    obtain ⟨ih0, ih1, ih2⟩ := pylonref18_Billed.mono_l k
    refine ⟨?_, ?_, ?_⟩
    · intro y0 y1 y2 y3
      unfold pylonref18_Billed.j0
      repeat' first
      | (with_reducible exact ih0 _ _ _ _)
      | (with_reducible exact ih1 _ _ _ _ _)
      | (with_reducible exact ih2 _ _ _ _ _ _)
      | (with_reducible exact pylonref01_MulDiv.mono _ _ _ _)
      | (with_reducible exact LeO.refl _)
      | (with_reducible exact LeO.none _)
      | (with_reducible refine LeO.ite ?_ ?_)
      | (with_reducible refine LeO.bind ?_ (fun _ => ?_))
      | exact ih0 _ _ _ _
      | exact ih1 _ _ _ _ _
      | exact ih2 _ _ _ _ _ _
      | exact pylonref01_MulDiv.mono _ _ _ _
      | exact LeO.none _
      | refine LeO.ite ?_ ?_
      | refine LeO.bind ?_ (fun _ => ?_)
    · intro y0 y1 y2 y3 y4
      unfold pylonref18_Billed.l0
      repeat' first
      | (with_reducible exact ih0 _ _ _ _)
      | (with_reducible exact ih1 _ _ _ _ _)
      | (with_reducible exact ih2 _ _ _ _ _ _)
      | (with_reducible exact pylonref01_MulDiv.mono _ _ _ _)
      | (with_reducible exact LeO.refl _)
      | (with_reducible exact LeO.none _)
      | (with_reducible refine LeO.ite ?_ ?_)
      | (with_reducible refine LeO.bind ?_ (fun _ => ?_))
      | exact ih0 _ _ _ _
      | exact ih1 _ _ _ _ _
      | exact ih2 _ _ _ _ _ _
      | exact pylonref01_MulDiv.mono _ _ _ _
      | exact LeO.none _
      | refine LeO.ite ?_ ?_
      | refine LeO.bind ?_ (fun _ => ?_)
    · intro y0 y1 y2 y3 y4 y5
      unfold pylonref18_Billed.l1
      repeat' first
      | (with_reducible exact ih0 _ _ _ _)
      | (with_reducible exact ih1 _ _ _ _ _)
      | (with_reducible exact ih2 _ _ _ _ _ _)
      | (with_reducible exact pylonref01_MulDiv.mono _ _ _ _)
      | (with_reducible exact LeO.refl _)
      | (with_reducible exact LeO.none _)
      | (with_reducible refine LeO.ite ?_ ?_)
      | (with_reducible refine LeO.bind ?_ (fun _ => ?_))
      | exact ih0 _ _ _ _
      | exact ih1 _ _ _ _ _
      | exact ih2 _ _ _ _ _ _
      | exact pylonref01_MulDiv.mono _ _ _ _
      | exact LeO.none _
      | refine LeO.ite ?_ ?_
      | refine LeO.bind ?_ (fun _ => ?_)
theorem pylonref18_Billed.mono : ∀ a0 a1 a2 k, LeO (pylonref18_Billed.f k a0 a1 a2) (pylonref18_Billed.f (k + 1) a0 a1 a2) := by
  intro a0 a1 a2 k
  obtain ⟨ih0, ih1, ih2⟩ := pylonref18_Billed.mono_l k
  unfold pylonref18_Billed.f
  repeat' first
      | (with_reducible exact ih0 _ _ _ _)
      | (with_reducible exact ih1 _ _ _ _ _)
      | (with_reducible exact ih2 _ _ _ _ _ _)
      | (with_reducible exact pylonref01_MulDiv.mono _ _ _ _)
      | (with_reducible exact LeO.refl _)
      | (with_reducible exact LeO.none _)
      | (with_reducible refine LeO.ite ?_ ?_)
      | (with_reducible refine LeO.bind ?_ (fun _ => ?_))
      | exact ih0 _ _ _ _
      | exact ih1 _ _ _ _ _
      | exact ih2 _ _ _ _ _ _
      | exact pylonref01_MulDiv.mono _ _ _ _
      | exact LeO.none _
      | refine LeO.ite ?_ ?_
      | refine LeO.bind ?_ (fun _ => ?_)
set_option maxHeartbeats 8000000 in
set_option maxRecDepth 100000 in
theorem pylonref18_Billed.calls (k : Nat) (A0 : Option Addr) (c0 : Nat) (l0 : List Int) (a1 : Int) (a2 : Int) (r1 : Int) (r2 : Int) (w : World) (hr0 : Kd.C (Kd.int .i64) w A0 l0.length l0) (hc0 : l0.length ≤ c0) (h : pylonref18_Billed.f k l0 a1 a2 = some (r1, r2)) :
    Calls Try.prog 21 #[.slice A0 l0.length c0, .int .i64 a1, .int .i64 a2] w fun e w' => e = .returned (.tuple #[.int .i64 r1, .int .i64 r2]) ∧ Below w.heap.size w w' := by
  have HR0 := Aside0.mk hr0
  have HC0 := Aside0.mk hc0
  clear hr0 hc0
  have HB := Aside0.mk (Below.refl w.heap.size w)
  have H : (if (l0.length : Int) = 0 then (pylonref18_Billed.j0 k l0 a1 a2 true) else (if a1 < 0 then (pylonref18_Billed.j0 k l0 a1 a2 true) else (if a1 > 100 then (pylonref18_Billed.j0 k l0 a1 a2 true) else (if a2 < 0 then (pylonref18_Billed.j0 k l0 a1 a2 true) else (pylonref18_Billed.j0 k l0 a1 a2 (decide (a2 > 36))))))) = some (r1, r2) := h
  clear h
  have HC4 := Aside0.mk H
  clear H
  go_enter Try.func21, Try.ntmps21
  go_upto_region 1 with (fail)
  go_cut [32] (fun v32 wc => ∃ (kq : Nat) (x32_3 : Bool), v32 = .bool x32_3 ∧ Aside0 (pylonref18_Billed.j0 kq l0 a1 a2 x32_3 = some (r1, r2)) ∧ Aside0 (kq ≤ k) ∧ Aside0 (Below w.heap.size w wc))
  case first =>
    have H := HC4.out
    clear HC4
    by_cases c5 : (l0.length : Int) = 0
    · rw [if_pos c5] at H
      have c5b0 : ((l0.length : Int) == 0) = true := beq_iff_eq.mpr c5
      have c5b1 : ((l0.length : Int) != 0) = false := bne_eq_false_iff_eq.mpr c5
      clear c5
      (first | rw [c5b0] | (simp only [i64_w, i32_w]; rw [c5b0]) | skip)
      have H' := Aside0.mk H
      clear H
      go_wp2
      go_meet
      case rel => exact ⟨_, (true), (by first | rfl | (simp; done) | (simp [*]; done)), H', ⟨by first | omega | exact Nat.le_refl _⟩, ⟨by repeat (first | (with_reducible first | exact HB.out | apply below_alloc | apply pw_below_drewN | apply below_drew1) | exact HB.out)⟩⟩
    · rw [if_neg c5] at H
      have c5b0 : ((l0.length : Int) == 0) = false := beq_eq_false_iff_ne.mpr c5
      have c5b1 : ((l0.length : Int) != 0) = true := bne_iff_ne.mpr c5
      have c5b2 : ¬ (l0 = []) := fun h_ => c5 (by rw [h_]; rfl)
      (first | rw [c5b0] | (simp only [i64_w, i32_w]; rw [c5b0]) | skip)
      by_cases c6 : a1 < 0
      · rw [if_pos c6] at H
        have c6b0 : decide (a1 < 0) = true := decide_eq_true c6
        clear c6
        have H' := Aside0.mk H
        clear H
        go_wp2
        go_meet
        case rel => exact ⟨_, (true), (by first | rfl | (simp; done) | (simp [*]; done)), H', ⟨by first | omega | exact Nat.le_refl _⟩, ⟨by repeat (first | (with_reducible first | exact HB.out | apply below_alloc | apply pw_below_drewN | apply below_drew1) | exact HB.out)⟩⟩
      · rw [if_neg c6] at H
        have c6b0 : decide (a1 < 0) = false := decide_eq_false c6
        clear c6
        by_cases c7 : a1 > 100
        · rw [if_pos c7] at H
          have c7b0 : decide (100 < a1) = true := decide_eq_true c7
          clear c7
          have H' := Aside0.mk H
          clear H
          go_wp2
          go_meet
          case rel => exact ⟨_, (true), (by first | rfl | (simp; done) | (simp [*]; done)), H', ⟨by first | omega | exact Nat.le_refl _⟩, ⟨by repeat (first | (with_reducible first | exact HB.out | apply below_alloc | apply pw_below_drewN | apply below_drew1) | exact HB.out)⟩⟩
        · rw [if_neg c7] at H
          have c7b0 : decide (100 < a1) = false := decide_eq_false c7
          clear c7
          by_cases c8 : a2 < 0
          · rw [if_pos c8] at H
            have c8b0 : decide (a2 < 0) = true := decide_eq_true c8
            clear c8
            have H' := Aside0.mk H
            clear H
            go_wp2
            go_meet
            case rel => exact ⟨_, (true), (by first | rfl | (simp; done) | (simp [*]; done)), H', ⟨by first | omega | exact Nat.le_refl _⟩, ⟨by repeat (first | (with_reducible first | exact HB.out | apply below_alloc | apply pw_below_drewN | apply below_drew1) | exact HB.out)⟩⟩
          · rw [if_neg c8] at H
            have c8b0 : decide (a2 < 0) = false := decide_eq_false c8
            clear c8
            have H' := Aside0.mk H
            clear H
            go_wp2
            go_meet
            case rel => exact ⟨_, (decide (a2 > 36)), (by first | rfl | (simp; done) | (simp [*]; done) | (by_cases hdp0_ : a2 > 36 <;> simp [*] <;> done)), H', ⟨by first | omega | exact Nat.le_refl _⟩, ⟨by repeat (first | (with_reducible first | exact HB.out | apply below_alloc | apply pw_below_drewN | apply below_drew1) | exact HB.out)⟩⟩
  case rest =>
    clear HC4
    try clear c2
    try clear p2
    try clear c5
    try clear c5b0
    try clear c5b1
    try clear c5b2
    try clear c6
    try clear c6b0
    try clear c7
    try clear c7b0
    try clear c8
    try clear c8b0
    obtain ⟨kq, x32_3, rfl, HA, HJ3, HB⟩ := hcut
    cases kq with
    | zero => exact absurd HA.out (by simp [pylonref18_Billed.j0])
    | succ kj3 =>
      have H := HA.out
      clear HA
      simp only [pylonref18_Billed.j0] at H
      by_cases c9 : x32_3 = true
      · subst c9
        have H1 : (some (0, 8)) = some (r1, r2) := by rw [if_pos rfl] at H; exact H
        clear H
        have H := H1
        clear H1
        simp only [Option.some.injEq, Prod.mk.injEq] at H
        obtain ⟨rfl, rfl⟩ := H
        go_wp2
        go_ret2
        exact ⟨by first | rfl | (simp [errW_none, errW_some] <;> rfl) | (simp [*, errW_none, errW_some] <;> rfl), by repeat (first | (with_reducible first | exact HB.out | apply below_alloc | apply pw_below_drewN | apply below_drew1) | exact HB.out)⟩
      · replace c9 := Bool.eq_false_iff.mpr c9
        subst c9
        have H1 : (pylonref18_Billed.l0 kj3 l0 a1 a2 (l0.length : Int) 0) = some (r1, r2) := by rw [if_neg (show ¬ (false = true) by decide)] at H; exact H
        clear H
        have H := H1
        clear H1
        have H' := Aside0.mk H
        clear H
        go_wp2
        go_loopg [35] kj3 (fun kq v35 w' => ∃ (x35_2 : Int), v35 = .int .i64 x35_2 ∧ Aside0 (pylonref18_Billed.l0 kq l0 a1 a2 (l0.length : Int) x35_2 = some (r1, r2)) ∧ Aside0 (kq ≤ kj3) ∧ Aside0 (Below w.heap.size w w'))
        case atStart => exact ⟨(0), (by first | rfl | (simp; done) | (simp [*]; done)), H', ⟨Nat.le_refl _⟩, ⟨by repeat (first | (with_reducible first | exact HB.out | apply below_alloc | apply pw_below_drewN | apply below_drew1) | exact HB.out)⟩⟩
        case round =>
          clear H'
          try clear c2
          try clear p2
          try clear c5
          try clear c5b0
          try clear c5b1
          try clear c5b2
          try clear c6
          try clear c6b0
          try clear c7
          try clear c7b0
          try clear c8
          try clear c8b0
          try clear c9
          try clear p2
          obtain ⟨x35_2, rfl, HA, HK2, HB⟩ := hrel
          cases gk with
          | zero => exact absurd HA.out (by simp [pylonref18_Billed.l0])
          | succ k2 =>
            have H := HA.out
            clear HA
            simp only [pylonref18_Billed.l0] at H
            by_cases c10 : x35_2 < (l0.length : Int)
            · rw [if_pos c10] at H
              have c10b0 : decide (x35_2 < (l0.length : Int)) = true := decide_eq_true c10
              clear c10
              by_cases c11 : 0 ≤ x35_2
              · rw [if_pos c11] at H
                have c11b0 : decide (0 ≤ x35_2) = true := decide_eq_true c11
                clear c11
                by_cases c12 : x35_2 < (l0.length : Int)
                · rw [if_pos c12] at H
                  have c12b0 : decide (x35_2 < (l0.length : Int)) = true := decide_eq_true c12
                  clear c12
                  by_cases c13 : (rd l0 x35_2) < 0
                  · rw [if_pos c13] at H
                    have c13b0 : decide ((rd l0 x35_2) < 0) = true := decide_eq_true c13
                    clear c13
                    simp only [Option.some.injEq, Prod.mk.injEq] at H
                    obtain ⟨rfl, rfl⟩ := H
                    have p160 : 0 ≤ (x35_2 : Int) := of_decide_eq_true (by first | (with_reducible assumption) | assumption)
                    have q160 : x35_2 < (l0.length : Int) := of_decide_eq_true (by first | (with_reducible assumption) | assumption)
                    obtain ⟨ad160, e160, hx160_0⟩ := Kd.at_int HR0.out x35_2 p160 q160
                    cases e160
                    replace hx160_0 := (HB.out.cell (World.block_lt_of_cell? w _ hx160_0)).trans hx160_0
                    replace p160 := eq_true p160
                    replace q160 := eq_true q160
                    go_wp2
                    go_ret2
                    exact ⟨by first | rfl | (simp [errW_none, errW_some] <;> rfl) | (simp [*, errW_none, errW_some] <;> rfl), by repeat (first | (with_reducible first | exact HB.out | apply below_alloc | apply pw_below_drewN | apply below_drew1) | exact HB.out)⟩
                  · rw [if_neg c13] at H
                    have c13b0 : decide ((rd l0 x35_2) < 0) = false := decide_eq_false c13
                    clear c13
                    by_cases c14 : (rd l0 x35_2) > 500000000000000
                    · rw [if_pos c14] at H
                      have c14b0 : decide (500000000000000 < (rd l0 x35_2)) = true := decide_eq_true c14
                      clear c14
                      simp only [Option.some.injEq, Prod.mk.injEq] at H
                      obtain ⟨rfl, rfl⟩ := H
                      have p160 : 0 ≤ (x35_2 : Int) := of_decide_eq_true (by first | (with_reducible assumption) | assumption)
                      have q160 : x35_2 < (l0.length : Int) := of_decide_eq_true (by first | (with_reducible assumption) | assumption)
                      obtain ⟨ad160, e160, hx160_0⟩ := Kd.at_int HR0.out x35_2 p160 q160
                      cases e160
                      replace hx160_0 := (HB.out.cell (World.block_lt_of_cell? w _ hx160_0)).trans hx160_0
                      replace p160 := eq_true p160
                      replace q160 := eq_true q160
                      have p161 : 0 ≤ (x35_2 : Int) := of_decide_eq_true (by first | (with_reducible assumption) | assumption)
                      have q161 : x35_2 < (l0.length : Int) := of_decide_eq_true (by first | (with_reducible assumption) | assumption)
                      obtain ⟨ad161, e161, hx161_0⟩ := Kd.at_int HR0.out x35_2 p161 q161
                      obtain rfl : ad160 = ad161 := (by injection e161)
                      replace hx161_0 := (HB.out.cell (World.block_lt_of_cell? w _ hx161_0)).trans hx161_0
                      replace p161 := eq_true p161
                      replace q161 := eq_true q161
                      go_wp2
                      go_ret2
                      exact ⟨by first | rfl | (simp [errW_none, errW_some] <;> rfl) | (simp [*, errW_none, errW_some] <;> rfl), by repeat (first | (with_reducible first | exact HB.out | apply below_alloc | apply pw_below_drewN | apply below_drew1) | exact HB.out)⟩
                    · rw [if_neg c14] at H
                      have c14b0 : decide (500000000000000 < (rd l0 x35_2)) = false := decide_eq_false c14
                      clear c14
                      have H' := Aside0.mk H
                      clear H
                      have p160 : 0 ≤ (x35_2 : Int) := of_decide_eq_true (by first | (with_reducible assumption) | assumption)
                      have q160 : x35_2 < (l0.length : Int) := of_decide_eq_true (by first | (with_reducible assumption) | assumption)
                      obtain ⟨ad160, e160, hx160_0⟩ := Kd.at_int HR0.out x35_2 p160 q160
                      cases e160
                      replace hx160_0 := (HB.out.cell (World.block_lt_of_cell? w _ hx160_0)).trans hx160_0
                      replace p160 := eq_true p160
                      replace q160 := eq_true q160
                      have p161 : 0 ≤ (x35_2 : Int) := of_decide_eq_true (by first | (with_reducible assumption) | assumption)
                      have q161 : x35_2 < (l0.length : Int) := of_decide_eq_true (by first | (with_reducible assumption) | assumption)
                      obtain ⟨ad161, e161, hx161_0⟩ := Kd.at_int HR0.out x35_2 p161 q161
                      obtain rfl : ad160 = ad161 := (by injection e161)
                      replace hx161_0 := (HB.out.cell (World.block_lt_of_cell? w _ hx161_0)).trans hx161_0
                      replace p161 := eq_true p161
                      replace q161 := eq_true q161
                      go_wp2
                      go_roundg k2
                      case measure => have := HJ3.out; have := HK2.out; omega
                      case rel => exact ⟨(wrap64 (x35_2 + 1)), (by first | rfl | (simp; done) | (simp [*]; done)), H', ⟨by have := HJ3.out; have := HK2.out; omega⟩, ⟨by repeat (first | (with_reducible first | exact HB.out | apply below_alloc | apply pw_below_drewN | apply below_drew1) | exact HB.out)⟩⟩
                · rw [if_neg c12] at H
                  exact absurd H (by simp)
              · rw [if_neg c11] at H
                exact absurd H (by simp)
            · rw [if_neg c10] at H
              have c10b0 : decide (x35_2 < (l0.length : Int)) = false := decide_eq_false c10
              clear c10
              obtain ⟨ji15, hji15⟩ : ∃ j_ : Int, (wrap64 ((l0.length : Int) - 1)) = j_ := ⟨_, rfl⟩
              replace H : (if 0 ≤ (ji15) then (if (ji15) < (l0.length : Int) then (pylonref18_Billed.l1 k2 l0 a1 a2 ji15 (rd l0 (ji15)) 1) else (none)) else (none)) = some (r1, r2) := by first | (rw [hji15] at H; exact H) | (simp only [hji15] at H ⊢; exact H)
              have hji15w : (IntKind.i64.wrap ((l0.length : Int) - 1)) = ji15 := (i64_w _).trans hji15
              by_cases c16 : 0 ≤ (ji15)
              · rw [if_pos c16] at H
                have c16b0 : decide (0 ≤ (ji15)) = true := decide_eq_true c16
                clear c16
                by_cases c17 : (ji15) < (l0.length : Int)
                · rw [if_pos c17] at H
                  have c17b0 : decide ((ji15) < (l0.length : Int)) = true := decide_eq_true c17
                  clear c17
                  have H' := Aside0.mk H
                  clear H
                  have p162 : 0 ≤ ((ji15) : Int) := of_decide_eq_true (by first | (with_reducible assumption) | assumption)
                  have q162 : (ji15) < (l0.length : Int) := of_decide_eq_true (by first | (with_reducible assumption) | assumption)
                  obtain ⟨ad162, e162, hx162_0⟩ := Kd.at_int HR0.out (ji15) p162 q162
                  cases e162
                  replace hx162_0 := (HB.out.cell (World.block_lt_of_cell? w _ hx162_0)).trans hx162_0
                  replace p162 := eq_true p162
                  replace q162 := eq_true q162
                  go_wp2
                  go_loopg [10, 11] k2 (fun kq v10 v11 w' => ∃ (x10_3 : Int) (x11_3 : Int), v10 = .int .i64 x10_3 ∧ v11 = .int .i64 x11_3 ∧ Aside0 (pylonref18_Billed.l1 kq l0 a1 a2 ji15 x10_3 x11_3 = some (r1, r2)) ∧ Aside0 (kq ≤ k2) ∧ Aside0 (Below w.heap.size w w'))
                  case atStart => exact ⟨(rd l0 (ji15)), (1), (by first | rfl | (simp; done) | (simp only [← hji15] <;> (first | rfl | simp)) | (simp [*]; done)), (by first | rfl | (simp; done) | (simp [*]; done)), H', ⟨Nat.le_refl _⟩, ⟨by repeat (first | (with_reducible first | exact HB.out | apply below_alloc | apply pw_below_drewN | apply below_drew1) | exact HB.out)⟩⟩
                  case round =>
                    clear H'
                    try clear c1
                    try clear p1
                    try clear q1
                    try clear hx1
                    try clear c2
                    try clear p2
                    try clear c5
                    try clear c5b0
                    try clear c5b1
                    try clear c5b2
                    try clear c6
                    try clear c6b0
                    try clear p6
                    try clear c7
                    try clear c7b0
                    try clear c8
                    try clear c8b0
                    try clear c9
                    try clear c10
                    try clear c10b0
                    try clear c11
                    try clear c11b0
                    try clear c12
                    try clear c12b0
                    try clear c13
                    try clear c13b0
                    try clear c14
                    try clear c14b0
                    try clear c16
                    try clear c16b0
                    try clear p16
                    try clear q16
                    try clear hx16
                    try clear c17
                    try clear c17b0
                    try clear hx160_0
                    try clear hx161_0
                    try clear hx162_0
                    try clear p160
                    try clear p161
                    try clear p162
                    try clear p2
                    try clear q160
                    try clear q161
                    try clear q162
                    obtain ⟨x10_3, x11_3, rfl, rfl, HA, HK3, HB⟩ := hrel
                    cases gk with
                    | zero => exact absurd HA.out (by simp [pylonref18_Billed.l1])
                    | succ k3 =>
                      have H := HA.out
                      clear HA
                      simp only [pylonref18_Billed.l1] at H
                      by_cases c18 : x11_3 ≤ a2
                      · rw [if_pos c18] at H
                        have c18b0 : decide (x11_3 ≤ a2) = true := decide_eq_true c18
                        clear c18
                        by_cases c19 : x11_3 ≤ ji15
                        · rw [if_pos c19] at H
                          have c19b0 : decide (x11_3 ≤ ji15) = true := decide_eq_true c19
                          clear c19
                          obtain ⟨ji20, hji20⟩ : ∃ j_ : Int, (wrap64 (ji15 - x11_3)) = j_ := ⟨_, rfl⟩
                          replace H : (if 0 ≤ (ji20) then (if (ji20) < (l0.length : Int) then ((pylonref01_MulDiv.f k3 (rd l0 (ji20)) a1 100).bind fun bt164 => (pylonref18_Billed.l1 k3 l0 a1 a2 ji15 (mx x10_3 bt164.1) (wrap64 (x11_3 + 1)))) else (none)) else (none)) = some (r1, r2) := by first | (rw [hji20] at H; exact H) | (simp only [hji20] at H ⊢; exact H)
                          have hji20w : (IntKind.i64.wrap (ji15 - x11_3)) = ji20 := (i64_w _).trans hji20
                          by_cases c21 : 0 ≤ (ji20)
                          · rw [if_pos c21] at H
                            have c21b0 : decide (0 ≤ (ji20)) = true := decide_eq_true c21
                            clear c21
                            by_cases c22 : (ji20) < (l0.length : Int)
                            · rw [if_pos c22] at H
                              have c22b0 : decide ((ji20) < (l0.length : Int)) = true := decide_eq_true c22
                              clear c22
                              replace H := Option.bind_eq_some_iff.mp H
                              obtain ⟨⟨t164, t165⟩, A230, H⟩ := H
                              replace H : (pylonref18_Billed.l1 k3 l0 a1 a2 ji15 (mx x10_3 t164) (wrap64 (x11_3 + 1))) = some (r1, r2) := H
                              have A23 := Aside0.mk A230
                              clear A230
                              obtain ⟨ji24, hji24⟩ : ∃ j_ : Int, (mx x10_3 t164) = j_ := ⟨_, rfl⟩
                              replace H : (pylonref18_Billed.l1 k3 l0 a1 a2 ji15 ji24 (wrap64 (x11_3 + 1))) = some (r1, r2) := by first | (rw [hji24] at H; exact H) | (simp only [hji24] at H ⊢; exact H)
                              (try rw [hji24] at A23)
                              have hji24_ : (if x10_3 < t164 then t164 else x10_3) = ji24 := hji24
                              have H' := Aside0.mk H
                              clear H
                              have p163 : 0 ≤ ((ji20) : Int) := of_decide_eq_true (by first | (with_reducible assumption) | assumption)
                              have q163 : (ji20) < (l0.length : Int) := of_decide_eq_true (by first | (with_reducible assumption) | assumption)
                              obtain ⟨ad163, e163, hx163_0⟩ := Kd.at_int HR0.out (ji20) p163 q163
                              obtain rfl : ad162 = ad163 := (by injection e163)
                              replace hx163_0 := (HB.out.cell (World.block_lt_of_cell? w _ hx163_0)).trans hx163_0
                              replace p163 := eq_true p163
                              replace q163 := eq_true q163
                              go_wp2_with (first | ((with_reducible refine gate_callee (f := 29) rfl ?_); refine goesL_ (some 76) rfl rfl Try.func29 (by kernel_rfl) rfl #[.int .i64 (rd l0 (ji20)), .int .i64 a1, .int .i64 100] rfl (by (try simp only [List.map_toArray, List.map_cons, List.map_nil]); first | done | (simp only [hji20]; rfl) | rfl | (simp only [List.length_drop, List.length_take]; rfl)) ?_; (with_reducible refine (pylonref01_MulDiv.calls k3 (rd l0 (ji20)) a1 100 t164 t165 _ A23.out).mono ?_); rintro e w' ⟨rfl, ⟨nd, rfl⟩⟩; refine ⟨_, rfl, ?_⟩))
                              go_roundg k3
                              case measure => have := HJ3.out; have := HK2.out; have := HK3.out; omega
                              case rel => exact ⟨(ji24), (wrap64 (x11_3 + 1)), (by first | rfl | (simp; done) | (simp only [← hji24] <;> (first | rfl | simp)) | (simp [*]; done)), (by first | rfl | (simp; done) | (simp [*]; done)), H', ⟨by have := HJ3.out; have := HK2.out; have := HK3.out; omega⟩, ⟨by repeat (first | (with_reducible first | exact HB.out | apply below_alloc | apply pw_below_drewN | apply below_drew1) | exact HB.out)⟩⟩
                            · rw [if_neg c22] at H
                              exact absurd H (by simp)
                          · rw [if_neg c21] at H
                            exact absurd H (by simp)
                        · rw [if_neg c19] at H
                          have c19b0 : decide (x11_3 ≤ ji15) = false := decide_eq_false c19
                          clear c19
                          simp only [Option.some.injEq, Prod.mk.injEq] at H
                          obtain ⟨rfl, rfl⟩ := H
                          go_wp2
                          go_ret2
                          exact ⟨by first | rfl | (simp [errW_none, errW_some] <;> rfl) | (simp only [← hji15]; first | rfl | (simp [errW_none, errW_some] <;> rfl)) | (simp [*, errW_none, errW_some] <;> rfl), by repeat (first | (with_reducible first | exact HB.out | apply below_alloc | apply pw_below_drewN | apply below_drew1) | exact HB.out)⟩
                      · rw [if_neg c18] at H
                        have c18b0 : decide (x11_3 ≤ a2) = false := decide_eq_false c18
                        clear c18
                        simp only [Option.some.injEq, Prod.mk.injEq] at H
                        obtain ⟨rfl, rfl⟩ := H
                        go_wp2
                        go_ret2
                        exact ⟨by first | rfl | (simp [errW_none, errW_some] <;> rfl) | (simp only [← hji15]; first | rfl | (simp [errW_none, errW_some] <;> rfl)) | (simp [*, errW_none, errW_some] <;> rfl), by repeat (first | (with_reducible first | exact HB.out | apply below_alloc | apply pw_below_drewN | apply below_drew1) | exact HB.out)⟩
                · rw [if_neg c17] at H
                  exact absurd H (by simp)
              · rw [if_neg c16] at H
                exact absurd H (by simp)

end Go.Proofs.Ytbjkjakilpifhaa.PR
