-- Written by a program of this session for this claim (wip/print2.sh). Lean checks it.
import Derived.Test.YthejabcfbbmkeaaDoorPFx0
import Derived.Test.YthejabcfbbmkeaaDoorPFx1
import Derived.Test.YthejabcfbbmkeaaDoorPFx2
import Derived.Test.YthejabcfbbmkeaaDoorHand
namespace Go.Proofs.YthejabcfbbmkeaaDoor.PF
open Go.Proofs.YthejabcfbbmkeaaDoorW.PrintWords
attribute [local go_sem high] fx_eql fx_neq fx_lss fx_leq fx_gtr fx_geq fx_add fx_sub fx_mul fx_neg fx_toint cxx_add cxx_sub cxx_mul cxx_eql cxx_neq cxx_pick st_float st_complex
open Go.RowKit Go.Proofs.YthejabcfbbmkeaaDoorW.PrintWords Go.Proofs.YthejabcfbbmkeaaDoorW.PrintLast Go.Proofs.YthejabcfbbmkeaaDoorW.PrintMore
attribute [local go_sem] max2_int min2_int max_two min_two max_three min_three max_four min_four   -- for this text's walks alone
set_option linter.unusedVariables false
set_option linter.unusedSimpArgs false

/-! ### fix_root: function 32 -/
mutual
def fix_root.j0 : Nat → Int → Int → Bool → Option (Int)
  | 0, _, _, _ => none
  | k + 1, x0, x1, x17 => if x17 = true then (some 0) else ((bits_Len64.f k x1).bind fun t187 => (if x0 = 0 then (fix_root.j1 k x0 x1 t187) else ((bits_Len64.f k x0).bind fun t188 => (fix_root.j1 k x0 x1 (wrap64 (64 + t188))))))
def fix_root.j1 : Nat → Int → Int → Int → Option (Int)
  | 0, _, _, _ => none
  | k + 1, x0, x1, x5 => if x5 < 127 then (if 0 ≤ (wrap64 (Int.tdiv (wrap64 (x5 + 1)) 2)) then (fix_root.j2 k x0 x1 (shl .u64 1 (wrap64 (Int.tdiv (wrap64 (x5 + 1)) 2)))) else (none)) else (fix_root.j2 k x0 x1 18446744073709551615)
def fix_root.j2 : Nat → Int → Int → Int → Option (Int)
  | 0, _, _, _ => none
  | k + 1, x0, x1, x6 => fix_root.l0 k x0 x1 x6
def fix_root.l0 : Nat → Int → Int → Int → Option (Int)
  | 0, _, _, _ => none
  | k + 1, x0, x1, x6 => if x0 ≥ x6 then (some x6) else ((bits_Div64.f k x0 x1 x6).bind fun bt189 => (if c01 0 = true then (if (Go.bits .or .u64 ((u64add x6 bt189.1 0) / 2) (IntKind.u64.wrap ((u64car x6 bt189.1 0) * 9223372036854775808))) ≥ x6 then (some x6) else (fix_root.l0 k x0 x1 (Go.bits .or .u64 ((u64add x6 bt189.1 0) / 2) (IntKind.u64.wrap ((u64car x6 bt189.1 0) * 9223372036854775808))))) else (none)))
end
def fix_root.f (k : Nat) (a0 : Int) (a1 : Int) : Option (Int) := if a0 = 0 then (fix_root.j0 k a0 a1 (a1 == 0)) else (fix_root.j0 k a0 a1 false)
theorem fix_root.mono_l : ∀ k, (∀ y0 y1 y2, LeO (fix_root.j0 k y0 y1 y2) (fix_root.j0 (k + 1) y0 y1 y2)) ∧ (∀ y0 y1 y2, LeO (fix_root.j1 k y0 y1 y2) (fix_root.j1 (k + 1) y0 y1 y2)) ∧ (∀ y0 y1 y2, LeO (fix_root.j2 k y0 y1 y2) (fix_root.j2 (k + 1) y0 y1 y2)) ∧ (∀ y0 y1 y2, LeO (fix_root.l0 k y0 y1 y2) (fix_root.l0 (k + 1) y0 y1 y2))
  | 0 => ⟨fun _ _ _ r h => by simp [fix_root.j0] at h, fun _ _ _ r h => by simp [fix_root.j1] at h, fun _ _ _ r h => by simp [fix_root.j2] at h, fun _ _ _ r h => by simp [fix_root.l0] at h⟩
  | k + 1 => by
    obtain ⟨ih0, ih1, ih2, ih3⟩ := fix_root.mono_l k
    refine ⟨?_, ?_, ?_, ?_⟩
    · intro y0 y1 y2
      unfold fix_root.j0
      repeat' first
      | (with_reducible exact ih0 _ _ _)
      | (with_reducible exact ih1 _ _ _)
      | (with_reducible exact ih2 _ _ _)
      | (with_reducible exact ih3 _ _ _)
      | (with_reducible exact bits_Div64.mono _ _ _ _)
      | (with_reducible exact bits_Len64.mono _ _)
      | (with_reducible exact LeO.refl _)
      | (with_reducible exact LeO.none _)
      | (with_reducible refine LeO.ite ?_ ?_)
      | (with_reducible refine LeO.bind ?_ (fun _ => ?_))
      | exact ih0 _ _ _
      | exact ih1 _ _ _
      | exact ih2 _ _ _
      | exact ih3 _ _ _
      | exact bits_Div64.mono _ _ _ _
      | exact bits_Len64.mono _ _
      | exact LeO.none _
      | refine LeO.ite ?_ ?_
      | refine LeO.bind ?_ (fun _ => ?_)
    · intro y0 y1 y2
      unfold fix_root.j1
      repeat' first
      | (with_reducible exact ih0 _ _ _)
      | (with_reducible exact ih1 _ _ _)
      | (with_reducible exact ih2 _ _ _)
      | (with_reducible exact ih3 _ _ _)
      | (with_reducible exact bits_Div64.mono _ _ _ _)
      | (with_reducible exact bits_Len64.mono _ _)
      | (with_reducible exact LeO.refl _)
      | (with_reducible exact LeO.none _)
      | (with_reducible refine LeO.ite ?_ ?_)
      | (with_reducible refine LeO.bind ?_ (fun _ => ?_))
      | exact ih0 _ _ _
      | exact ih1 _ _ _
      | exact ih2 _ _ _
      | exact ih3 _ _ _
      | exact bits_Div64.mono _ _ _ _
      | exact bits_Len64.mono _ _
      | exact LeO.none _
      | refine LeO.ite ?_ ?_
      | refine LeO.bind ?_ (fun _ => ?_)
    · intro y0 y1 y2
      unfold fix_root.j2
      repeat' first
      | (with_reducible exact ih0 _ _ _)
      | (with_reducible exact ih1 _ _ _)
      | (with_reducible exact ih2 _ _ _)
      | (with_reducible exact ih3 _ _ _)
      | (with_reducible exact bits_Div64.mono _ _ _ _)
      | (with_reducible exact bits_Len64.mono _ _)
      | (with_reducible exact LeO.refl _)
      | (with_reducible exact LeO.none _)
      | (with_reducible refine LeO.ite ?_ ?_)
      | (with_reducible refine LeO.bind ?_ (fun _ => ?_))
      | exact ih0 _ _ _
      | exact ih1 _ _ _
      | exact ih2 _ _ _
      | exact ih3 _ _ _
      | exact bits_Div64.mono _ _ _ _
      | exact bits_Len64.mono _ _
      | exact LeO.none _
      | refine LeO.ite ?_ ?_
      | refine LeO.bind ?_ (fun _ => ?_)
    · intro y0 y1 y2
      unfold fix_root.l0
      repeat' first
      | (with_reducible exact ih0 _ _ _)
      | (with_reducible exact ih1 _ _ _)
      | (with_reducible exact ih2 _ _ _)
      | (with_reducible exact ih3 _ _ _)
      | (with_reducible exact bits_Div64.mono _ _ _ _)
      | (with_reducible exact bits_Len64.mono _ _)
      | (with_reducible exact LeO.refl _)
      | (with_reducible exact LeO.none _)
      | (with_reducible refine LeO.ite ?_ ?_)
      | (with_reducible refine LeO.bind ?_ (fun _ => ?_))
      | exact ih0 _ _ _
      | exact ih1 _ _ _
      | exact ih2 _ _ _
      | exact ih3 _ _ _
      | exact bits_Div64.mono _ _ _ _
      | exact bits_Len64.mono _ _
      | exact LeO.none _
      | refine LeO.ite ?_ ?_
      | refine LeO.bind ?_ (fun _ => ?_)
theorem fix_root.mono : ∀ a0 a1 k, LeO (fix_root.f k a0 a1) (fix_root.f (k + 1) a0 a1) := by
  intro a0 a1 k
  obtain ⟨ih0, ih1, ih2, ih3⟩ := fix_root.mono_l k
  unfold fix_root.f
  repeat' first
      | (with_reducible exact ih0 _ _ _)
      | (with_reducible exact ih1 _ _ _)
      | (with_reducible exact ih2 _ _ _)
      | (with_reducible exact ih3 _ _ _)
      | (with_reducible exact bits_Div64.mono _ _ _ _)
      | (with_reducible exact bits_Len64.mono _ _)
      | (with_reducible exact LeO.refl _)
      | (with_reducible exact LeO.none _)
      | (with_reducible refine LeO.ite ?_ ?_)
      | (with_reducible refine LeO.bind ?_ (fun _ => ?_))
      | exact ih0 _ _ _
      | exact ih1 _ _ _
      | exact ih2 _ _ _
      | exact ih3 _ _ _
      | exact bits_Div64.mono _ _ _ _
      | exact bits_Len64.mono _ _
      | exact LeO.none _
      | refine LeO.ite ?_ ?_
      | refine LeO.bind ?_ (fun _ => ?_)
set_option maxHeartbeats 8000000 in
set_option maxRecDepth 100000 in
theorem fix_root.calls (k : Nat) (a0 : Int) (a1 : Int) (r : Int) (w : World) (h : fix_root.f k a0 a1 = some r) :
    Calls Tryd.prog 32 #[.int .u64 a0, .int .u64 a1] w fun e w' => e = .returned (.int .u64 r) ∧ Drawn0 w w' := by
  have hx29 := @ext29
  have H : (if a0 = 0 then (fix_root.j0 k a0 a1 (a1 == 0)) else (fix_root.j0 k a0 a1 false)) = some r := h
  clear h
  have HC3 := Aside0.mk H
  clear H
  go_enter Tryd.func32, Tryd.ntmps32
  go_upto_region 1 with (fail)
  go_cut [17] (fun v17 wc => ∃ (kq : Nat) (x17_2 : Bool), v17 = .bool x17_2 ∧ Aside0 (fix_root.j0 kq a0 a1 x17_2 = some r) ∧ Aside0 (kq ≤ k) ∧ Drawn0 w wc)
  case first =>
    have H := HC3.out
    clear HC3
    by_cases c4 : a0 = 0
    · rw [if_pos c4] at H
      have c4b0 : (a0 == 0) = true := beq_iff_eq.mpr c4
      have c4b1 : (a0 != 0) = false := bne_eq_false_iff_eq.mpr c4
      clear c4
      (first | rw [c4b0] | (simp only [i64_w, i32_w]; rw [c4b0]) | skip)
      have H' := Aside0.mk H
      clear H
      go_wp2
      go_meet
      case rel => exact ⟨_, ((a1 == 0)), (by first | rfl | (simp; done) | (simp [*]; done)), H', ⟨by first | omega | exact Nat.le_refl _⟩, by repeat (first | exact Drawn0.refl _ | apply Drawn0.step)⟩
    · rw [if_neg c4] at H
      have c4b0 : (a0 == 0) = false := beq_eq_false_iff_ne.mpr c4
      have c4b1 : (a0 != 0) = true := bne_iff_ne.mpr c4
      (first | rw [c4b0] | (simp only [i64_w, i32_w]; rw [c4b0]) | skip)
      have H' := Aside0.mk H
      clear H
      go_wp2
      go_meet
      case rel => exact ⟨_, (false), (by first | rfl | (simp; done) | (simp [*]; done)), H', ⟨by first | omega | exact Nat.le_refl _⟩, by repeat (first | exact Drawn0.refl _ | apply Drawn0.step)⟩
  case rest =>
    clear HC3
    try clear p2
    try clear c3
    try clear c4
    try clear c4b0
    try clear c4b1
    obtain ⟨kq, x17_2, rfl, HA, HJ2, ⟨mc2, rfl⟩⟩ := hcut
    cases kq with
    | zero => exact absurd HA.out (by simp [fix_root.j0])
    | succ kj2 =>
      have H := HA.out
      clear HA
      simp only [fix_root.j0] at H
      by_cases c5 : x17_2 = true
      · subst c5
        have H1 : (some 0) = some r := by rw [if_pos rfl] at H; exact H
        clear H
        have H := H1
        clear H1
        obtain rfl := Option.some.inj H
        go_wp2
        go_ret
        exact ⟨by first | rfl | (simp; done) | (simp [*]; done), by repeat (first | exact Drawn0.refl _ | apply Drawn0.step)⟩
      · replace c5 := Bool.eq_false_iff.mpr c5
        subst c5
        have H1 : ((bits_Len64.f kj2 a1).bind fun t187 => (if a0 = 0 then (fix_root.j1 kj2 a0 a1 t187) else ((bits_Len64.f kj2 a0).bind fun t188 => (fix_root.j1 kj2 a0 a1 (wrap64 (64 + t188)))))) = some r := by rw [if_neg (show ¬ (false = true) by decide)] at H; exact H
        clear H
        have H := H1
        clear H1
        replace H := Option.bind_eq_some_iff.mp H
        obtain ⟨t187, A60, H⟩ := H
        replace H : (if a0 = 0 then (fix_root.j1 kj2 a0 a1 t187) else ((bits_Len64.f kj2 a0).bind fun t188 => (fix_root.j1 kj2 a0 a1 (wrap64 (64 + t188))))) = some r := H
        have A6 := Aside0.mk A60
        clear A60
        have HC7 := Aside0.mk H
        clear H
        go_upto_if 21 with (first | ((with_reducible refine gate_callee (f := 50) rfl ?_); refine goesL_ (some 19) rfl rfl Tryd.func50 (by kernel_rfl) rfl #[.int .u64 a1] rfl (by (try simp only [List.map_toArray, List.map_cons, List.map_nil]); first | done | rfl | (simp only [List.length_drop, List.length_take]; rfl)) ?_; (with_reducible refine (bits_Len64.calls kj2 a1 t187 _ A6.out).mono ?_); rintro e w' ⟨rfl, ⟨nd, rfl⟩⟩; refine ⟨_, rfl, ?_⟩))
        (try simp only [Act.put, List.setIfInBounds_toArray, List.set_cons_zero, List.set_cons_succ])
        go_cut [5] (fun v5 wc => ∃ (kq : Nat) (x5_6 : Int), v5 = .int .i64 x5_6 ∧ Aside0 (fix_root.j1 kq a0 a1 x5_6 = some r) ∧ Aside0 (kq ≤ kj2) ∧ Drawn0 w wc)
        case first =>
          have H := HC7.out
          clear HC7
          by_cases c8 : a0 = 0
          · rw [if_pos c8] at H
            have c8b0 : (a0 == 0) = true := beq_iff_eq.mpr c8
            have c8b1 : (a0 != 0) = false := bne_eq_false_iff_eq.mpr c8
            clear c8
            (first | rw [c8b0] | (simp only [i64_w, i32_w]; rw [c8b0]) | skip)
            have H' := Aside0.mk H
            clear H
            go_wp2
            go_meet
            case rel => exact ⟨_, (t187), (by first | rfl | (simp; done) | (simp [*]; done)), H', ⟨by have := HJ2.out; first | omega | exact Nat.le_refl _⟩, by repeat (first | exact Drawn0.refl _ | apply Drawn0.step)⟩
          · rw [if_neg c8] at H
            have c8b0 : (a0 == 0) = false := beq_eq_false_iff_ne.mpr c8
            have c8b1 : (a0 != 0) = true := bne_iff_ne.mpr c8
            (first | rw [c8b0] | (simp only [i64_w, i32_w]; rw [c8b0]) | skip)
            replace H := Option.bind_eq_some_iff.mp H
            obtain ⟨t188, A90, H⟩ := H
            replace H : (fix_root.j1 kj2 a0 a1 (wrap64 (64 + t188))) = some r := H
            have A9 := Aside0.mk A90
            clear A90
            have H' := Aside0.mk H
            clear H
            go_wp2_with (first | ((with_reducible refine gate_callee (f := 50) rfl ?_); refine goesL_ (some 23) rfl rfl Tryd.func50 (by kernel_rfl) rfl #[.int .u64 a0] rfl (by (try simp only [List.map_toArray, List.map_cons, List.map_nil]); first | done | rfl | (simp only [List.length_drop, List.length_take]; rfl)) ?_; (with_reducible refine (bits_Len64.calls kj2 a0 t188 _ A9.out).mono ?_); rintro e w' ⟨rfl, ⟨nd, rfl⟩⟩; refine ⟨_, rfl, ?_⟩))
            go_meet
            case rel => exact ⟨_, (wrap64 (64 + t188)), (by first | rfl | (simp; done) | (simp [*]; done)), H', ⟨by have := HJ2.out; first | omega | exact Nat.le_refl _⟩, by repeat (first | exact Drawn0.refl _ | apply Drawn0.step)⟩
        case rest =>
          clear HC7
          try clear c2
          try clear p2
          try clear c3
          try clear c4
          try clear c4b0
          try clear c4b1
          try clear c5
          try clear p6
          try clear c8
          try clear c8b0
          try clear c8b1
          try clear p2
          obtain ⟨kq, x5_6, rfl, HA, HJ6, ⟨mc6, rfl⟩⟩ := hcut
          cases kq with
          | zero => exact absurd HA.out (by simp [fix_root.j1])
          | succ kj6 =>
            have H := HA.out
            clear HA
            simp only [fix_root.j1] at H
            have HC10 := Aside0.mk H
            clear H
            go_upto_if 26 with (fail)
            go_cut [6] (fun v6 wc => ∃ (kq : Nat) (x6_9 : Int), v6 = .int .u64 x6_9 ∧ Aside0 (fix_root.j2 kq a0 a1 x6_9 = some r) ∧ Aside0 (kq ≤ kj6) ∧ Drawn0 w wc)
            case first =>
              have H := HC10.out
              clear HC10
              by_cases c11 : x5_6 < 127
              · rw [if_pos c11] at H
                have c11b0 : decide (x5_6 < 127) = true := decide_eq_true c11
                clear c11
                (first | rw [c11b0] | (simp only [i64_w, i32_w]; rw [c11b0]) | skip)
                obtain ⟨ji12, hji12⟩ : ∃ j_ : Int, (wrap64 (Int.tdiv (wrap64 (x5_6 + 1)) 2)) = j_ := ⟨_, rfl⟩
                replace H : (if 0 ≤ (ji12) then (fix_root.j2 kj6 a0 a1 (shl .u64 1 (ji12))) else (none)) = some r := by first | (rw [hji12] at H; exact H) | (simp only [hji12] at H ⊢; exact H)
                have hji12w : (IntKind.i64.wrap (Int.tdiv (wrap64 (x5_6 + 1)) 2)) = ji12 := (i64_w _).trans hji12
                by_cases c13 : 0 ≤ (ji12)
                · rw [if_pos c13] at H
                  have c13b0 := eq_true c13
                  have c13b1 : decide (0 ≤ (ji12)) = true := decide_eq_true c13
                  clear c13
                  obtain ⟨ji14, hji14⟩ : ∃ j_ : Int, (shl .u64 1 (ji12)) = j_ := ⟨_, rfl⟩
                  replace H : (fix_root.j2 kj6 a0 a1 ji14) = some r := by first | (rw [hji14] at H; exact H) | (simp only [hji14] at H ⊢; exact H)
                  have hji14_ : (IntKind.u64.wrap (1 * 2 ^ min (ji12).toNat 64)) = ji14 := hji14
                  have hji14z : (ji12) ≤ 64 → (IntKind.u64.wrap (1 * 2 ^ (ji12).toNat)) = ji14 := shl_small hji14
                  have hji14u : (IntKind.u64.wrap (2 ^ min (ji12).toNat 64)) = ji14 := by have h_ := hji14_; rw [Int.one_mul] at h_; exact h_
                  have hji14v : (ji12) ≤ 64 → (IntKind.u64.wrap (2 ^ (ji12).toNat)) = ji14 := fun hle_ => by have h_ := hji14z hle_; rw [Int.one_mul] at h_; exact h_
                  have H' := Aside0.mk H
                  clear H
                  go_wp2
                  go_meet
                  case rel => exact ⟨_, (ji14), (by first | rfl | (simp; done) | (simp only [← hji14] <;> (first | rfl | simp)) | (simp [*]; done)), H', ⟨by have := HJ2.out; have := HJ6.out; first | omega | exact Nat.le_refl _⟩, by repeat (first | exact Drawn0.refl _ | apply Drawn0.step)⟩
                · rw [if_neg c13] at H
                  exact absurd H (by simp)
              · rw [if_neg c11] at H
                have c11b0 : decide (x5_6 < 127) = false := decide_eq_false c11
                clear c11
                (first | rw [c11b0] | (simp only [i64_w, i32_w]; rw [c11b0]) | skip)
                have H' := Aside0.mk H
                clear H
                go_wp2
                go_meet
                case rel => exact ⟨_, (18446744073709551615), (by first | rfl | (simp; done) | (simp [*]; done)), H', ⟨by have := HJ2.out; have := HJ6.out; first | omega | exact Nat.le_refl _⟩, by repeat (first | exact Drawn0.refl _ | apply Drawn0.step)⟩
            case rest =>
              clear HC10
              try clear c1
              try clear c2
              try clear p2
              try clear c3
              try clear c4
              try clear c4b0
              try clear c4b1
              try clear c5
              try clear c6
              try clear p6
              try clear c8
              try clear c8b0
              try clear c8b1
              try clear c11
              try clear c11b0
              try clear c13
              try clear c13b0
              try clear c13b1
              try clear p2
              try clear p6
              obtain ⟨kq, x6_9, rfl, HA, HJ9, ⟨mc9, rfl⟩⟩ := hcut
              cases kq with
              | zero => exact absurd HA.out (by simp [fix_root.j2])
              | succ kj9 =>
                have H := HA.out
                clear HA
                simp only [fix_root.j2] at H
                have H' := Aside0.mk H
                clear H
                go_wp2
                go_loopg [6] kj9 (fun kq v6 w' => ∃ (x6_4 : Int), v6 = .int .u64 x6_4 ∧ Aside0 (fix_root.l0 kq a0 a1 x6_4 = some r) ∧ Aside0 (kq ≤ kj9) ∧ Drawn0 w w')
                case atStart => exact ⟨(x6_9), (by first | rfl | (simp; done) | (simp [*]; done)), H', ⟨Nat.le_refl _⟩, by repeat (first | exact Drawn0.refl _ | apply Drawn0.step)⟩
                case round =>
                  clear H'
                  try clear c1
                  try clear c2
                  try clear p2
                  try clear c3
                  try clear c4
                  try clear c4b0
                  try clear c4b1
                  try clear c5
                  try clear c6
                  try clear p6
                  try clear c8
                  try clear c8b0
                  try clear c8b1
                  try clear c9
                  try clear c11
                  try clear c11b0
                  try clear c13
                  try clear c13b0
                  try clear c13b1
                  try clear p2
                  try clear p6
                  obtain ⟨x6_4, rfl, HA, HK4, ⟨m4, rfl⟩⟩ := hrel
                  cases gk with
                  | zero => exact absurd HA.out (by simp [fix_root.l0])
                  | succ k4 =>
                    have H := HA.out
                    clear HA
                    simp only [fix_root.l0] at H
                    by_cases c15 : a0 ≥ x6_4
                    · rw [if_pos c15] at H
                      have c15b0 : decide (x6_4 ≤ a0) = true := decide_eq_true c15
                      clear c15
                      obtain rfl := Option.some.inj H
                      go_wp2
                      go_ret
                      exact ⟨by first | rfl | (simp; done) | (simp [*]; done), by repeat (first | exact Drawn0.refl _ | apply Drawn0.step)⟩
                    · rw [if_neg c15] at H
                      have c15b0 : decide (x6_4 ≤ a0) = false := decide_eq_false c15
                      clear c15
                      replace H := Option.bind_eq_some_iff.mp H
                      obtain ⟨⟨t189, t190⟩, A160, H⟩ := H
                      replace H : (if c01 0 = true then (if (Go.bits .or .u64 ((u64add x6_4 t189 0) / 2) (IntKind.u64.wrap ((u64car x6_4 t189 0) * 9223372036854775808))) ≥ x6_4 then (some x6_4) else (fix_root.l0 k4 a0 a1 (Go.bits .or .u64 ((u64add x6_4 t189 0) / 2) (IntKind.u64.wrap ((u64car x6_4 t189 0) * 9223372036854775808))))) else (none)) = some r := H
                      have A16 := Aside0.mk A160
                      clear A160
                      by_cases c17 : c01 0 = true
                      · rw [if_pos c17] at H
                        have c17b0 := eq_true c17
                        have c17b1 : decide (c01 0 = true) = true := decide_eq_true c17
                        clear c17
                        by_cases c18 : (Go.bits .or .u64 ((u64add x6_4 t189 0) / 2) (IntKind.u64.wrap ((u64car x6_4 t189 0) * 9223372036854775808))) ≥ x6_4
                        · rw [if_pos c18] at H
                          have c18b0 : decide (x6_4 ≤ (Go.bits .or .u64 ((u64add x6_4 t189 0) / 2) (IntKind.u64.wrap ((u64car x6_4 t189 0) * 9223372036854775808)))) = true := decide_eq_true c18
                          clear c18
                          obtain rfl := Option.some.inj H
                          go_wp2_with (first | ((with_reducible refine gate_callee (f := 28) rfl ?_); refine goesL_ (some 39) rfl rfl Tryd.func28 (by kernel_rfl) rfl #[.int .u64 a0, .int .u64 a1, .int .u64 x6_4] rfl (by (try simp only [List.map_toArray, List.map_cons, List.map_nil]); first | done | rfl | (simp only [List.length_drop, List.length_take]; rfl)) ?_; (with_reducible refine (bits_Div64.calls k4 a0 a1 x6_4 t189 t190 _ A16.out).mono ?_); rintro e w' ⟨rfl, ⟨nd, rfl⟩⟩; refine ⟨_, rfl, ?_⟩))
                          go_ret
                          exact ⟨by first | rfl | (simp; done) | (simp [*]; done), by repeat (first | exact Drawn0.refl _ | apply Drawn0.step)⟩
                        · rw [if_neg c18] at H
                          have c18b0 : decide (x6_4 ≤ (Go.bits .or .u64 ((u64add x6_4 t189 0) / 2) (IntKind.u64.wrap ((u64car x6_4 t189 0) * 9223372036854775808)))) = false := decide_eq_false c18
                          clear c18
                          have H' := Aside0.mk H
                          clear H
                          go_wp2_with (first | ((with_reducible refine gate_callee (f := 28) rfl ?_); refine goesL_ (some 39) rfl rfl Tryd.func28 (by kernel_rfl) rfl #[.int .u64 a0, .int .u64 a1, .int .u64 x6_4] rfl (by (try simp only [List.map_toArray, List.map_cons, List.map_nil]); first | done | rfl | (simp only [List.length_drop, List.length_take]; rfl)) ?_; (with_reducible refine (bits_Div64.calls k4 a0 a1 x6_4 t189 t190 _ A16.out).mono ?_); rintro e w' ⟨rfl, ⟨nd, rfl⟩⟩; refine ⟨_, rfl, ?_⟩))
                          go_roundg k4
                          case measure => have := HJ2.out; have := HJ6.out; have := HJ9.out; have := HK4.out; omega
                          case rel => exact ⟨(Go.bits .or .u64 ((u64add x6_4 t189 0) / 2) (IntKind.u64.wrap ((u64car x6_4 t189 0) * 9223372036854775808))), (by first | rfl | (simp; done) | (simp [*]; done)), H', ⟨by have := HJ2.out; have := HJ6.out; have := HJ9.out; have := HK4.out; omega⟩, by repeat (first | exact Drawn0.refl _ | apply Drawn0.step)⟩
                      · rw [if_neg c17] at H
                        exact absurd H (by simp)

/-! ### fix_Root: function 19 -/
def fix_Root.f (k : Nat) (a0 : Int) : Option (Int × Int) := if a0 < 0 then (some (0, 5)) else ((fix_root.f k 0 (IntKind.u64.wrap (a0))).bind fun t191 => (some (wrap64 (t191), 0)))
theorem fix_Root.mono : ∀ a0 k, LeO (fix_Root.f k a0) (fix_Root.f (k + 1) a0) := by
  intro a0 k
  unfold fix_Root.f
  repeat' first
      | (with_reducible exact fix_root.mono _ _ _)
      | (with_reducible exact LeO.refl _)
      | (with_reducible exact LeO.none _)
      | (with_reducible refine LeO.ite ?_ ?_)
      | (with_reducible refine LeO.bind ?_ (fun _ => ?_))
      | exact fix_root.mono _ _ _
      | exact LeO.none _
      | refine LeO.ite ?_ ?_
      | refine LeO.bind ?_ (fun _ => ?_)
set_option maxHeartbeats 8000000 in
set_option maxRecDepth 100000 in
theorem fix_Root.calls (k : Nat) (a0 : Int) (r1 : Int) (r2 : Int) (w : World) (h : fix_Root.f k a0 = some (r1, r2)) :
    Calls Tryd.prog 19 #[.int .i64 a0] w fun e w' => e = .returned (.tuple #[.int .i64 r1, .int .i64 r2]) ∧ Drawn0 w w' := by
  have H : (if a0 < 0 then (some (0, 5)) else ((fix_root.f k 0 (IntKind.u64.wrap (a0))).bind fun t191 => (some (wrap64 (t191), 0)))) = some (r1, r2) := h
  clear h
  by_cases c2 : a0 < 0
  · rw [if_pos c2] at H
    have c2b0 : decide (a0 < 0) = true := decide_eq_true c2
    clear c2
    simp only [Option.some.injEq, Prod.mk.injEq] at H
    obtain ⟨rfl, rfl⟩ := H
    go_enter Tryd.func19, Tryd.ntmps19
    go_wp2
    go_ret2
    exact ⟨by first | rfl | (simp; done) | (simp [*]; done), by repeat (first | exact Drawn0.refl _ | apply Drawn0.step)⟩
  · rw [if_neg c2] at H
    have c2b0 : decide (a0 < 0) = false := decide_eq_false c2
    clear c2
    replace H := Option.bind_eq_some_iff.mp H
    obtain ⟨t191, A30, H⟩ := H
    replace H : (some (wrap64 (t191), 0)) = some (r1, r2) := H
    have A3 := Aside0.mk A30
    clear A30
    simp only [Option.some.injEq, Prod.mk.injEq] at H
    obtain ⟨rfl, rfl⟩ := H
    go_enter Tryd.func19, Tryd.ntmps19
    go_wp2_with (first | ((with_reducible refine gate_callee (f := 32) rfl ?_); refine goesL_ (some 8) rfl rfl Tryd.func32 (by kernel_rfl) rfl #[.int .u64 0, .int .u64 (IntKind.u64.wrap (a0))] rfl (by (try simp only [List.map_toArray, List.map_cons, List.map_nil]); first | done | rfl | (simp only [List.length_drop, List.length_take]; rfl)) ?_; (with_reducible refine (fix_root.calls k 0 (IntKind.u64.wrap (a0)) t191 _ A3.out).mono ?_); rintro e w' ⟨rfl, ⟨nd, rfl⟩⟩; refine ⟨_, rfl, ?_⟩))
    go_ret2
    exact ⟨by first | rfl | (simp; done) | (simp [*]; done), by repeat (first | exact Drawn0.refl _ | apply Drawn0.step)⟩

/-! ### fix_Hyp: function 20 -/
def fix_Hyp.f (k : Nat) (a0 : Int) (a1 : Int) : Option (Int × Int) := (fix_size.f a0).bind fun t192 => ((fix_size.f a0).bind fun t193 => ((bits_Mul64.f t192 t193).bind fun bt194 => ((fix_size.f a1).bind fun t196 => ((fix_size.f a1).bind fun t197 => ((bits_Mul64.f t196 t197).bind fun bt198 => (if c01 0 = true then ((fix_root.f k (IntKind.u64.wrap ((IntKind.u64.wrap (bt194.1 + bt198.1)) + (u64car bt194.2 bt198.2 0))) (u64add bt194.2 bt198.2 0)).bind fun t200 => ((fix_number.f k false 0 t200).bind fun bt201 => (some (bt201.1, bt201.2)))) else (none)))))))
theorem fix_Hyp.mono : ∀ a0 a1 k, LeO (fix_Hyp.f k a0 a1) (fix_Hyp.f (k + 1) a0 a1) := by
  intro a0 a1 k
  unfold fix_Hyp.f
  repeat' first
      | (with_reducible exact fix_number.mono _ _ _ _)
      | (with_reducible exact fix_root.mono _ _ _)
      | (with_reducible exact LeO.refl _)
      | (with_reducible exact LeO.none _)
      | (with_reducible refine LeO.ite ?_ ?_)
      | (with_reducible refine LeO.bind ?_ (fun _ => ?_))
      | exact fix_number.mono _ _ _ _
      | exact fix_root.mono _ _ _
      | exact LeO.none _
      | refine LeO.ite ?_ ?_
      | refine LeO.bind ?_ (fun _ => ?_)
set_option maxHeartbeats 8000000 in
set_option maxRecDepth 100000 in
theorem fix_Hyp.calls (k : Nat) (a0 : Int) (a1 : Int) (r1 : Int) (r2 : Int) (w : World) (h : fix_Hyp.f k a0 a1 = some (r1, r2)) :
    Calls Tryd.prog 20 #[.int .i64 a0, .int .i64 a1] w fun e w' => e = .returned (.tuple #[.int .i64 r1, .int .i64 r2]) ∧ Drawn0 w w' := by
  have hx29 := @ext29
  have H : ((fix_size.f a0).bind fun t192 => ((fix_size.f a0).bind fun t193 => ((bits_Mul64.f t192 t193).bind fun bt194 => ((fix_size.f a1).bind fun t196 => ((fix_size.f a1).bind fun t197 => ((bits_Mul64.f t196 t197).bind fun bt198 => (if c01 0 = true then ((fix_root.f k (IntKind.u64.wrap ((IntKind.u64.wrap (bt194.1 + bt198.1)) + (u64car bt194.2 bt198.2 0))) (u64add bt194.2 bt198.2 0)).bind fun t200 => ((fix_number.f k false 0 t200).bind fun bt201 => (some (bt201.1, bt201.2)))) else (none)))))))) = some (r1, r2) := h
  clear h
  replace H := Option.bind_eq_some_iff.mp H
  obtain ⟨t192, A30, H⟩ := H
  replace H : ((fix_size.f a0).bind fun t193 => ((bits_Mul64.f t192 t193).bind fun bt194 => ((fix_size.f a1).bind fun t196 => ((fix_size.f a1).bind fun t197 => ((bits_Mul64.f t196 t197).bind fun bt198 => (if c01 0 = true then ((fix_root.f k (IntKind.u64.wrap ((IntKind.u64.wrap (bt194.1 + bt198.1)) + (u64car bt194.2 bt198.2 0))) (u64add bt194.2 bt198.2 0)).bind fun t200 => ((fix_number.f k false 0 t200).bind fun bt201 => (some (bt201.1, bt201.2)))) else (none))))))) = some (r1, r2) := H
  have A3 := Aside0.mk A30
  clear A30
  replace H := Option.bind_eq_some_iff.mp H
  obtain ⟨t193, A40, H⟩ := H
  replace H : ((bits_Mul64.f t192 t193).bind fun bt194 => ((fix_size.f a1).bind fun t196 => ((fix_size.f a1).bind fun t197 => ((bits_Mul64.f t196 t197).bind fun bt198 => (if c01 0 = true then ((fix_root.f k (IntKind.u64.wrap ((IntKind.u64.wrap (bt194.1 + bt198.1)) + (u64car bt194.2 bt198.2 0))) (u64add bt194.2 bt198.2 0)).bind fun t200 => ((fix_number.f k false 0 t200).bind fun bt201 => (some (bt201.1, bt201.2)))) else (none)))))) = some (r1, r2) := H
  have A4 := Aside0.mk A40
  clear A40
  replace H := Option.bind_eq_some_iff.mp H
  obtain ⟨⟨t194, t195⟩, A50, H⟩ := H
  replace H : ((fix_size.f a1).bind fun t196 => ((fix_size.f a1).bind fun t197 => ((bits_Mul64.f t196 t197).bind fun bt198 => (if c01 0 = true then ((fix_root.f k (IntKind.u64.wrap ((IntKind.u64.wrap (t194 + bt198.1)) + (u64car t195 bt198.2 0))) (u64add t195 bt198.2 0)).bind fun t200 => ((fix_number.f k false 0 t200).bind fun bt201 => (some (bt201.1, bt201.2)))) else (none))))) = some (r1, r2) := H
  have A5 := Aside0.mk A50
  clear A50
  replace H := Option.bind_eq_some_iff.mp H
  obtain ⟨t196, A60, H⟩ := H
  replace H : ((fix_size.f a1).bind fun t197 => ((bits_Mul64.f t196 t197).bind fun bt198 => (if c01 0 = true then ((fix_root.f k (IntKind.u64.wrap ((IntKind.u64.wrap (t194 + bt198.1)) + (u64car t195 bt198.2 0))) (u64add t195 bt198.2 0)).bind fun t200 => ((fix_number.f k false 0 t200).bind fun bt201 => (some (bt201.1, bt201.2)))) else (none)))) = some (r1, r2) := H
  have A6 := Aside0.mk A60
  clear A60
  replace H := Option.bind_eq_some_iff.mp H
  obtain ⟨t197, A70, H⟩ := H
  replace H : ((bits_Mul64.f t196 t197).bind fun bt198 => (if c01 0 = true then ((fix_root.f k (IntKind.u64.wrap ((IntKind.u64.wrap (t194 + bt198.1)) + (u64car t195 bt198.2 0))) (u64add t195 bt198.2 0)).bind fun t200 => ((fix_number.f k false 0 t200).bind fun bt201 => (some (bt201.1, bt201.2)))) else (none))) = some (r1, r2) := H
  have A7 := Aside0.mk A70
  clear A70
  replace H := Option.bind_eq_some_iff.mp H
  obtain ⟨⟨t198, t199⟩, A80, H⟩ := H
  replace H : (if c01 0 = true then ((fix_root.f k (IntKind.u64.wrap ((IntKind.u64.wrap (t194 + t198)) + (u64car t195 t199 0))) (u64add t195 t199 0)).bind fun t200 => ((fix_number.f k false 0 t200).bind fun bt201 => (some (bt201.1, bt201.2)))) else (none)) = some (r1, r2) := H
  have A8 := Aside0.mk A80
  clear A80
  by_cases c9 : c01 0 = true
  · rw [if_pos c9] at H
    have c9b0 := eq_true c9
    have c9b1 : decide (c01 0 = true) = true := decide_eq_true c9
    clear c9
    replace H := Option.bind_eq_some_iff.mp H
    obtain ⟨t200, A100, H⟩ := H
    replace H : ((fix_number.f k false 0 t200).bind fun bt201 => (some (bt201.1, bt201.2))) = some (r1, r2) := H
    have A10 := Aside0.mk A100
    clear A100
    replace H := Option.bind_eq_some_iff.mp H
    obtain ⟨⟨t201, t202⟩, A110, H⟩ := H
    replace H : (some (t201, t202)) = some (r1, r2) := H
    have A11 := Aside0.mk A110
    clear A110
    simp only [Option.some.injEq, Prod.mk.injEq] at H
    obtain ⟨rfl, rfl⟩ := H
    go_enter Tryd.func20, Tryd.ntmps20
    go_wp2_with (first | ((with_reducible refine gate_callee (f := 27) rfl ?_); refine goesL_ (some 14) rfl rfl Tryd.func27 (by kernel_rfl) rfl #[.int .i64 a0] rfl (by (try simp only [List.map_toArray, List.map_cons, List.map_nil]); first | done | rfl | (simp only [List.length_drop, List.length_take]; rfl)) ?_; (with_reducible refine (fix_size.calls a0 t192 _ A3.out).mono ?_); rintro e w' ⟨rfl, ⟨nd, rfl⟩⟩; refine ⟨_, rfl, ?_⟩) | ((with_reducible refine gate_callee (f := 27) rfl ?_); refine goesL_ (some 16) rfl rfl Tryd.func27 (by kernel_rfl) rfl #[.int .i64 a0] rfl (by (try simp only [List.map_toArray, List.map_cons, List.map_nil]); first | done | rfl | (simp only [List.length_drop, List.length_take]; rfl)) ?_; (with_reducible refine (fix_size.calls a0 t193 _ A4.out).mono ?_); rintro e w' ⟨rfl, ⟨nd, rfl⟩⟩; refine ⟨_, rfl, ?_⟩) | ((with_reducible refine gate_callee (f := 26) rfl ?_); refine goesL_ (some 17) rfl rfl Tryd.func26 (by kernel_rfl) rfl #[.int .u64 t192, .int .u64 t193] rfl (by (try simp only [List.map_toArray, List.map_cons, List.map_nil]); first | done | rfl | (simp only [List.length_drop, List.length_take]; rfl)) ?_; (with_reducible refine (bits_Mul64.calls t192 t193 t194 t195 _ A5.out).mono ?_); rintro e w' ⟨rfl, ⟨nd, rfl⟩⟩; refine ⟨_, rfl, ?_⟩) | ((with_reducible refine gate_callee (f := 27) rfl ?_); refine goesL_ (some 22) rfl rfl Tryd.func27 (by kernel_rfl) rfl #[.int .i64 a1] rfl (by (try simp only [List.map_toArray, List.map_cons, List.map_nil]); first | done | rfl | (simp only [List.length_drop, List.length_take]; rfl)) ?_; (with_reducible refine (fix_size.calls a1 t196 _ A6.out).mono ?_); rintro e w' ⟨rfl, ⟨nd, rfl⟩⟩; refine ⟨_, rfl, ?_⟩) | ((with_reducible refine gate_callee (f := 27) rfl ?_); refine goesL_ (some 24) rfl rfl Tryd.func27 (by kernel_rfl) rfl #[.int .i64 a1] rfl (by (try simp only [List.map_toArray, List.map_cons, List.map_nil]); first | done | rfl | (simp only [List.length_drop, List.length_take]; rfl)) ?_; (with_reducible refine (fix_size.calls a1 t197 _ A7.out).mono ?_); rintro e w' ⟨rfl, ⟨nd, rfl⟩⟩; refine ⟨_, rfl, ?_⟩) | ((with_reducible refine gate_callee (f := 26) rfl ?_); refine goesL_ (some 25) rfl rfl Tryd.func26 (by kernel_rfl) rfl #[.int .u64 t196, .int .u64 t197] rfl (by (try simp only [List.map_toArray, List.map_cons, List.map_nil]); first | done | rfl | (simp only [List.length_drop, List.length_take]; rfl)) ?_; (with_reducible refine (bits_Mul64.calls t196 t197 t198 t199 _ A8.out).mono ?_); rintro e w' ⟨rfl, ⟨nd, rfl⟩⟩; refine ⟨_, rfl, ?_⟩) | ((with_reducible refine gate_callee (f := 32) rfl ?_); refine goesL_ (some 40) rfl rfl Tryd.func32 (by kernel_rfl) rfl #[.int .u64 (IntKind.u64.wrap ((IntKind.u64.wrap (t194 + t198)) + (u64car t195 t199 0))), .int .u64 (u64add t195 t199 0)] rfl (by (try simp only [List.map_toArray, List.map_cons, List.map_nil]); first | done | rfl | (simp only [List.length_drop, List.length_take]; rfl)) ?_; (with_reducible refine (fix_root.calls k (IntKind.u64.wrap ((IntKind.u64.wrap (t194 + t198)) + (u64car t195 t199 0))) (u64add t195 t199 0) t200 _ A10.out).mono ?_); rintro e w' ⟨rfl, ⟨nd, rfl⟩⟩; refine ⟨_, rfl, ?_⟩) | ((with_reducible refine gate_callee (f := 30) rfl ?_); refine goesL_ (some 41) rfl rfl Tryd.func30 (by kernel_rfl) rfl #[.bool false, .int .u64 0, .int .u64 t200] rfl (by (try simp only [List.map_toArray, List.map_cons, List.map_nil]); first | done | rfl | (simp only [List.length_drop, List.length_take]; rfl)) ?_; (with_reducible refine (fix_number.calls k false 0 t200 t201 t202 _ A11.out).mono ?_); rintro e w' ⟨rfl, ⟨nd, rfl⟩⟩; refine ⟨_, rfl, ?_⟩))
    go_ret2
    exact ⟨by first | rfl | (simp; done) | (simp [*]; done), by repeat (first | exact Drawn0.refl _ | apply Drawn0.step)⟩
  · rw [if_neg c9] at H
    exact absurd H (by simp)

/-! ### pylonlaw01_FixRoots: function 7 -/
def pylonlaw01_FixRoots.j0 : Nat → Int → Int → Bool → Option (Bool)
  | 0, _, _, _ => none
  | k + 1, x1, x2, x60 => if x60 = true then (some false) else ((fix_Hyp.f k (wrap64 (wrap32 (Int.tdiv x1 2))) (wrap64 (wrap32 (Int.tdiv x2 2)))).bind fun bt206 => ((fix_Hyp.f k (wrap64 (-(wrap64 (wrap32 (Int.tdiv x2 2))))) (wrap64 (wrap32 (Int.tdiv x1 2)))).bind fun bt208 => (if bt206.2 = 0 then (if bt208.2 = 0 then (if bt208.1 = bt206.1 then (if bt206.1 ≥ 0 then (if bt206.1 < 2147483648 then (if (wrap64 (bt206.1 * bt206.1)) ≤ (wrap64 ((wrap64 ((wrap64 (wrap32 (Int.tdiv x1 2))) * (wrap64 (wrap32 (Int.tdiv x1 2))))) + (wrap64 ((wrap64 (wrap32 (Int.tdiv x2 2))) * (wrap64 (wrap32 (Int.tdiv x2 2))))))) then (some (decide ((wrap64 ((wrap64 (bt206.1 + 1)) * (wrap64 (bt206.1 + 1)))) > (wrap64 ((wrap64 ((wrap64 (wrap32 (Int.tdiv x1 2))) * (wrap64 (wrap32 (Int.tdiv x1 2))))) + (wrap64 ((wrap64 (wrap32 (Int.tdiv x2 2))) * (wrap64 (wrap32 (Int.tdiv x2 2)))))))))) else (some false)) else (some false)) else (some false)) else (some false)) else (some false)) else (some false))))
def pylonlaw01_FixRoots.f (k : Nat) (a0 : Int) (a1 : Int) (a2 : Int) : Option (Bool) := (pylonlaw01_awake.f k).bind fun t203 => (if t203 = true then ((fix_Root.f k a0).bind fun bt204 => (if a0 < 0 then (if bt204.2 = 5 then (some (bt204.1 == 0)) else (some false)) else (if bt204.2 = 0 then (if bt204.1 < 0 then (pylonlaw01_FixRoots.j0 k a1 a2 true) else (if bt204.1 > 3037000499 then (pylonlaw01_FixRoots.j0 k a1 a2 true) else (if (wrap64 (bt204.1 * bt204.1)) > a0 then (pylonlaw01_FixRoots.j0 k a1 a2 true) else (if bt204.1 < 3037000499 then (pylonlaw01_FixRoots.j0 k a1 a2 (decide ((wrap64 ((wrap64 (bt204.1 + 1)) * (wrap64 (bt204.1 + 1)))) ≤ a0))) else (pylonlaw01_FixRoots.j0 k a1 a2 false))))) else (pylonlaw01_FixRoots.j0 k a1 a2 true)))) else (some false))
theorem pylonlaw01_FixRoots.mono_l : ∀ k, (∀ y0 y1 y2, LeO (pylonlaw01_FixRoots.j0 k y0 y1 y2) (pylonlaw01_FixRoots.j0 (k + 1) y0 y1 y2))
  | 0 => fun _ _ _ r h => by simp [pylonlaw01_FixRoots.j0] at h
  | k + 1 => by
    have ih0 := pylonlaw01_FixRoots.mono_l k
    · intro y0 y1 y2
      unfold pylonlaw01_FixRoots.j0
      repeat' first
      | (with_reducible exact ih0 _ _ _)
      | (with_reducible exact fix_Hyp.mono _ _ _)
      | (with_reducible exact fix_Root.mono _ _)
      | (with_reducible exact pylonlaw01_awake.mono _)
      | (with_reducible exact LeO.refl _)
      | (with_reducible exact LeO.none _)
      | (with_reducible refine LeO.ite ?_ ?_)
      | (with_reducible refine LeO.bind ?_ (fun _ => ?_))
      | exact ih0 _ _ _
      | exact fix_Hyp.mono _ _ _
      | exact fix_Root.mono _ _
      | exact pylonlaw01_awake.mono _
      | exact LeO.none _
      | refine LeO.ite ?_ ?_
      | refine LeO.bind ?_ (fun _ => ?_)
theorem pylonlaw01_FixRoots.mono : ∀ a0 a1 a2 k, LeO (pylonlaw01_FixRoots.f k a0 a1 a2) (pylonlaw01_FixRoots.f (k + 1) a0 a1 a2) := by
  intro a0 a1 a2 k
  have ih0 := pylonlaw01_FixRoots.mono_l k
  unfold pylonlaw01_FixRoots.f
  repeat' first
      | (with_reducible exact ih0 _ _ _)
      | (with_reducible exact fix_Hyp.mono _ _ _)
      | (with_reducible exact fix_Root.mono _ _)
      | (with_reducible exact pylonlaw01_awake.mono _)
      | (with_reducible exact LeO.refl _)
      | (with_reducible exact LeO.none _)
      | (with_reducible refine LeO.ite ?_ ?_)
      | (with_reducible refine LeO.bind ?_ (fun _ => ?_))
      | exact ih0 _ _ _
      | exact fix_Hyp.mono _ _ _
      | exact fix_Root.mono _ _
      | exact pylonlaw01_awake.mono _
      | exact LeO.none _
      | refine LeO.ite ?_ ?_
      | refine LeO.bind ?_ (fun _ => ?_)
set_option maxHeartbeats 8000000 in
set_option maxRecDepth 100000 in
theorem pylonlaw01_FixRoots.calls (k : Nat) (a0 : Int) (a1 : Int) (a2 : Int) (r : Bool) (w : World) (hT_ : Go.Proofs.YthejabcfbbmkeaaDoor.Hand.T1 w) (h : pylonlaw01_FixRoots.f k a0 a1 a2 = some r) :
    Calls Tryd.prog 7 #[.int .i64 a0, .int .i32 a1, .int .i32 a2] w fun e w' => e = .returned (.bool r) ∧ Below w.heap.size w w' := by
  have HTB := Aside0.mk hT_
  clear hT_
  have HB := Aside0.mk (Below.refl w.heap.size w)
  have H : ((pylonlaw01_awake.f k).bind fun t203 => (if t203 = true then ((fix_Root.f k a0).bind fun bt204 => (if a0 < 0 then (if bt204.2 = 5 then (some (bt204.1 == 0)) else (some false)) else (if bt204.2 = 0 then (if bt204.1 < 0 then (pylonlaw01_FixRoots.j0 k a1 a2 true) else (if bt204.1 > 3037000499 then (pylonlaw01_FixRoots.j0 k a1 a2 true) else (if (wrap64 (bt204.1 * bt204.1)) > a0 then (pylonlaw01_FixRoots.j0 k a1 a2 true) else (if bt204.1 < 3037000499 then (pylonlaw01_FixRoots.j0 k a1 a2 (decide ((wrap64 ((wrap64 (bt204.1 + 1)) * (wrap64 (bt204.1 + 1)))) ≤ a0))) else (pylonlaw01_FixRoots.j0 k a1 a2 false))))) else (pylonlaw01_FixRoots.j0 k a1 a2 true)))) else (some false))) = some r := h
  clear h
  replace H := Option.bind_eq_some_iff.mp H
  obtain ⟨t203, A40, H⟩ := H
  replace H : (if t203 = true then ((fix_Root.f k a0).bind fun bt204 => (if a0 < 0 then (if bt204.2 = 5 then (some (bt204.1 == 0)) else (some false)) else (if bt204.2 = 0 then (if bt204.1 < 0 then (pylonlaw01_FixRoots.j0 k a1 a2 true) else (if bt204.1 > 3037000499 then (pylonlaw01_FixRoots.j0 k a1 a2 true) else (if (wrap64 (bt204.1 * bt204.1)) > a0 then (pylonlaw01_FixRoots.j0 k a1 a2 true) else (if bt204.1 < 3037000499 then (pylonlaw01_FixRoots.j0 k a1 a2 (decide ((wrap64 ((wrap64 (bt204.1 + 1)) * (wrap64 (bt204.1 + 1)))) ≤ a0))) else (pylonlaw01_FixRoots.j0 k a1 a2 false))))) else (pylonlaw01_FixRoots.j0 k a1 a2 true)))) else (some false)) = some r := H
  have A4 := Aside0.mk A40
  clear A40
  by_cases c5 : t203 = true
  · subst c5
    have H1 : ((fix_Root.f k a0).bind fun bt204 => (if a0 < 0 then (if bt204.2 = 5 then (some (bt204.1 == 0)) else (some false)) else (if bt204.2 = 0 then (if bt204.1 < 0 then (pylonlaw01_FixRoots.j0 k a1 a2 true) else (if bt204.1 > 3037000499 then (pylonlaw01_FixRoots.j0 k a1 a2 true) else (if (wrap64 (bt204.1 * bt204.1)) > a0 then (pylonlaw01_FixRoots.j0 k a1 a2 true) else (if bt204.1 < 3037000499 then (pylonlaw01_FixRoots.j0 k a1 a2 (decide ((wrap64 ((wrap64 (bt204.1 + 1)) * (wrap64 (bt204.1 + 1)))) ≤ a0))) else (pylonlaw01_FixRoots.j0 k a1 a2 false))))) else (pylonlaw01_FixRoots.j0 k a1 a2 true)))) = some r := by rw [if_pos rfl] at H; exact H
    clear H
    have H := H1
    clear H1
    replace H := Option.bind_eq_some_iff.mp H
    obtain ⟨⟨t204, t205⟩, A60, H⟩ := H
    replace H : (if a0 < 0 then (if t205 = 5 then (some (t204 == 0)) else (some false)) else (if t205 = 0 then (if t204 < 0 then (pylonlaw01_FixRoots.j0 k a1 a2 true) else (if t204 > 3037000499 then (pylonlaw01_FixRoots.j0 k a1 a2 true) else (if (wrap64 (t204 * t204)) > a0 then (pylonlaw01_FixRoots.j0 k a1 a2 true) else (if t204 < 3037000499 then (pylonlaw01_FixRoots.j0 k a1 a2 (decide ((wrap64 ((wrap64 (t204 + 1)) * (wrap64 (t204 + 1)))) ≤ a0))) else (pylonlaw01_FixRoots.j0 k a1 a2 false))))) else (pylonlaw01_FixRoots.j0 k a1 a2 true))) = some r := H
    have A6 := Aside0.mk A60
    clear A60
    by_cases c7 : a0 < 0
    · rw [if_pos c7] at H
      have c7b0 : decide (a0 < 0) = true := decide_eq_true c7
      clear c7
      by_cases c8 : t205 = 5
      · rw [if_pos c8] at H
        have c8b0 : (t205 == 5) = true := beq_iff_eq.mpr c8
        have c8b1 : (t205 != 5) = false := bne_eq_false_iff_eq.mpr c8
        clear c8
        obtain rfl := Option.some.inj H
        go_enter Tryd.func7, Tryd.ntmps7
        go_wp2_with (first | ((with_reducible refine gate_callee (f := 11) rfl ?_); refine goesL_ (some 16) rfl rfl Tryd.func11 (by kernel_rfl) rfl #[] rfl (by (try simp only [List.map_toArray, List.map_cons, List.map_nil]); first | done | rfl | (simp only [List.length_drop, List.length_take]; rfl)) ?_; (with_reducible refine (pylonlaw01_awake.calls k  true _ ?side1 A4.out).mono ?_); (case side1 => exact Go.Proofs.YthejabcfbbmkeaaDoor.Hand.GW.on HTB.out (by repeat (first | (with_reducible first | exact HB.out | apply below_alloc | apply pw_below_drewN | apply below_drew1) | exact HB.out))); rintro e w9 ⟨rfl, hb⟩; refine ⟨_, rfl, ?_⟩; have n0_ := Aside0.mk (below_step (by repeat (first | (with_reducible first | exact HB.out | apply below_alloc | apply pw_below_drewN | apply below_drew1) | exact HB.out)) hb); clear HB; have HB := n0_; clear n0_; (try clear hb); (try clear hb2); (try clear hk); (try clear hi)) | ((with_reducible refine gate_callee (f := 19) rfl ?_); refine goesL_ (some 20) rfl rfl Tryd.func19 (by kernel_rfl) rfl #[.int .i64 a0] rfl (by (try simp only [List.map_toArray, List.map_cons, List.map_nil]); first | done | rfl | (simp only [List.length_drop, List.length_take]; rfl)) ?_; (with_reducible refine (fix_Root.calls k a0 t204 t205 _ A6.out).mono ?_); rintro e w' ⟨rfl, ⟨nd, rfl⟩⟩; refine ⟨_, rfl, ?_⟩))
        go_ret
        exact ⟨by first | rfl | (simp [errW_none, errW_some] <;> rfl) | (simp [*, errW_none, errW_some] <;> rfl), by repeat (first | (with_reducible first | exact HB.out | apply below_alloc | apply pw_below_drewN | apply below_drew1) | exact HB.out)⟩
      · rw [if_neg c8] at H
        have c8b0 : (t205 == 5) = false := beq_eq_false_iff_ne.mpr c8
        have c8b1 : (t205 != 5) = true := bne_iff_ne.mpr c8
        obtain rfl := Option.some.inj H
        go_enter Tryd.func7, Tryd.ntmps7
        go_wp2_with (first | ((with_reducible refine gate_callee (f := 11) rfl ?_); refine goesL_ (some 16) rfl rfl Tryd.func11 (by kernel_rfl) rfl #[] rfl (by (try simp only [List.map_toArray, List.map_cons, List.map_nil]); first | done | rfl | (simp only [List.length_drop, List.length_take]; rfl)) ?_; (with_reducible refine (pylonlaw01_awake.calls k  true _ ?side1 A4.out).mono ?_); (case side1 => exact Go.Proofs.YthejabcfbbmkeaaDoor.Hand.GW.on HTB.out (by repeat (first | (with_reducible first | exact HB.out | apply below_alloc | apply pw_below_drewN | apply below_drew1) | exact HB.out))); rintro e w10 ⟨rfl, hb⟩; refine ⟨_, rfl, ?_⟩; have n0_ := Aside0.mk (below_step (by repeat (first | (with_reducible first | exact HB.out | apply below_alloc | apply pw_below_drewN | apply below_drew1) | exact HB.out)) hb); clear HB; have HB := n0_; clear n0_; (try clear hb); (try clear hb2); (try clear hk); (try clear hi)) | ((with_reducible refine gate_callee (f := 19) rfl ?_); refine goesL_ (some 20) rfl rfl Tryd.func19 (by kernel_rfl) rfl #[.int .i64 a0] rfl (by (try simp only [List.map_toArray, List.map_cons, List.map_nil]); first | done | rfl | (simp only [List.length_drop, List.length_take]; rfl)) ?_; (with_reducible refine (fix_Root.calls k a0 t204 t205 _ A6.out).mono ?_); rintro e w' ⟨rfl, ⟨nd, rfl⟩⟩; refine ⟨_, rfl, ?_⟩))
        go_ret
        exact ⟨by first | rfl | (simp [errW_none, errW_some] <;> rfl) | (simp [*, errW_none, errW_some] <;> rfl), by repeat (first | (with_reducible first | exact HB.out | apply below_alloc | apply pw_below_drewN | apply below_drew1) | exact HB.out)⟩
    · rw [if_neg c7] at H
      have c7b0 : decide (a0 < 0) = false := decide_eq_false c7
      clear c7
      have HC11 := Aside0.mk H
      clear H
      go_enter Tryd.func7, Tryd.ntmps7
      go_upto_region 6 with (first | ((with_reducible refine gate_callee (f := 11) rfl ?_); refine goesL_ (some 16) rfl rfl Tryd.func11 (by kernel_rfl) rfl #[] rfl (by (try simp only [List.map_toArray, List.map_cons, List.map_nil]); first | done | rfl | (simp only [List.length_drop, List.length_take]; rfl)) ?_; (with_reducible refine (pylonlaw01_awake.calls k  true _ ?side1 A4.out).mono ?_); (case side1 => exact Go.Proofs.YthejabcfbbmkeaaDoor.Hand.GW.on HTB.out (by repeat (first | (with_reducible first | exact HB.out | apply below_alloc | apply pw_below_drewN | apply below_drew1) | exact HB.out))); rintro e w12 ⟨rfl, hb⟩; refine ⟨_, rfl, ?_⟩; have n0_ := Aside0.mk (below_step (by repeat (first | (with_reducible first | exact HB.out | apply below_alloc | apply pw_below_drewN | apply below_drew1) | exact HB.out)) hb); clear HB; have HB := n0_; clear n0_; (try clear hb); (try clear hb2); (try clear hk); (try clear hi)) | ((with_reducible refine gate_callee (f := 19) rfl ?_); refine goesL_ (some 20) rfl rfl Tryd.func19 (by kernel_rfl) rfl #[.int .i64 a0] rfl (by (try simp only [List.map_toArray, List.map_cons, List.map_nil]); first | done | rfl | (simp only [List.length_drop, List.length_take]; rfl)) ?_; (with_reducible refine (fix_Root.calls k a0 t204 t205 _ A6.out).mono ?_); rintro e w' ⟨rfl, ⟨nd, rfl⟩⟩; refine ⟨_, rfl, ?_⟩))
      (try simp only [Act.put, List.setIfInBounds_toArray, List.set_cons_zero, List.set_cons_succ])
      go_cut [60] (fun v60 wc => ∃ (kq : Nat) (x60_10 : Bool), v60 = .bool x60_10 ∧ Aside0 (pylonlaw01_FixRoots.j0 kq a1 a2 x60_10 = some r) ∧ Aside0 (kq ≤ k) ∧ Aside0 (Below w.heap.size w wc))
      case first =>
        have H := HC11.out
        clear HC11
        by_cases c13 : t205 = 0
        · rw [if_pos c13] at H
          have c13b0 : (t205 == 0) = true := beq_iff_eq.mpr c13
          have c13b1 : (t205 != 0) = false := bne_eq_false_iff_eq.mpr c13
          clear c13
          (first | rw [c13b0] | (simp only [i64_w, i32_w]; rw [c13b0]) | skip)
          by_cases c14 : t204 < 0
          · rw [if_pos c14] at H
            have c14b0 : decide (t204 < 0) = true := decide_eq_true c14
            clear c14
            have H' := Aside0.mk H
            clear H
            go_wp2
            go_meet
            case rel => exact ⟨_, (true), (by first | rfl | (simp; done) | (simp [*]; done)), H', ⟨by first | omega | exact Nat.le_refl _⟩, ⟨by repeat (first | (with_reducible first | exact HB.out | apply below_alloc | apply pw_below_drewN | apply below_drew1) | exact HB.out)⟩⟩
          · rw [if_neg c14] at H
            have c14b0 : decide (t204 < 0) = false := decide_eq_false c14
            clear c14
            by_cases c15 : t204 > 3037000499
            · rw [if_pos c15] at H
              have c15b0 : decide (3037000499 < t204) = true := decide_eq_true c15
              clear c15
              have H' := Aside0.mk H
              clear H
              go_wp2
              go_meet
              case rel => exact ⟨_, (true), (by first | rfl | (simp; done) | (simp [*]; done)), H', ⟨by first | omega | exact Nat.le_refl _⟩, ⟨by repeat (first | (with_reducible first | exact HB.out | apply below_alloc | apply pw_below_drewN | apply below_drew1) | exact HB.out)⟩⟩
            · rw [if_neg c15] at H
              have c15b0 : decide (3037000499 < t204) = false := decide_eq_false c15
              clear c15
              by_cases c16 : (wrap64 (t204 * t204)) > a0
              · rw [if_pos c16] at H
                have c16b0 : decide (a0 < (wrap64 (t204 * t204))) = true := decide_eq_true c16
                clear c16
                have H' := Aside0.mk H
                clear H
                go_wp2
                go_meet
                case rel => exact ⟨_, (true), (by first | rfl | (simp; done) | (simp [*]; done)), H', ⟨by first | omega | exact Nat.le_refl _⟩, ⟨by repeat (first | (with_reducible first | exact HB.out | apply below_alloc | apply pw_below_drewN | apply below_drew1) | exact HB.out)⟩⟩
              · rw [if_neg c16] at H
                have c16b0 : decide (a0 < (wrap64 (t204 * t204))) = false := decide_eq_false c16
                clear c16
                by_cases c17 : t204 < 3037000499
                · rw [if_pos c17] at H
                  have c17b0 : decide (t204 < 3037000499) = true := decide_eq_true c17
                  clear c17
                  have H' := Aside0.mk H
                  clear H
                  go_wp2
                  go_meet
                  case rel => exact ⟨_, (decide ((wrap64 ((wrap64 (t204 + 1)) * (wrap64 (t204 + 1)))) ≤ a0)), (by first | rfl | (simp; done) | (simp [*]; done) | (by_cases hdp0_ : (wrap64 ((wrap64 (t204 + 1)) * (wrap64 (t204 + 1)))) ≤ a0 <;> simp [*] <;> done)), H', ⟨by first | omega | exact Nat.le_refl _⟩, ⟨by repeat (first | (with_reducible first | exact HB.out | apply below_alloc | apply pw_below_drewN | apply below_drew1) | exact HB.out)⟩⟩
                · rw [if_neg c17] at H
                  have c17b0 : decide (t204 < 3037000499) = false := decide_eq_false c17
                  clear c17
                  have H' := Aside0.mk H
                  clear H
                  go_wp2
                  go_meet
                  case rel => exact ⟨_, (false), (by first | rfl | (simp; done) | (simp [*]; done)), H', ⟨by first | omega | exact Nat.le_refl _⟩, ⟨by repeat (first | (with_reducible first | exact HB.out | apply below_alloc | apply pw_below_drewN | apply below_drew1) | exact HB.out)⟩⟩
        · rw [if_neg c13] at H
          have c13b0 : (t205 == 0) = false := beq_eq_false_iff_ne.mpr c13
          have c13b1 : (t205 != 0) = true := bne_iff_ne.mpr c13
          (first | rw [c13b0] | (simp only [i64_w, i32_w]; rw [c13b0]) | skip)
          have H' := Aside0.mk H
          clear H
          go_wp2
          go_meet
          case rel => exact ⟨_, (true), (by first | rfl | (simp; done) | (simp [*]; done)), H', ⟨by first | omega | exact Nat.le_refl _⟩, ⟨by repeat (first | (with_reducible first | exact HB.out | apply below_alloc | apply pw_below_drewN | apply below_drew1) | exact HB.out)⟩⟩
      case rest =>
        clear HC11
        try clear c1
        try clear p2
        try clear c5
        try clear p6
        try clear c7
        try clear c7b0
        try clear c8
        try clear c8b0
        try clear c8b1
        try clear c11
        try clear c13
        try clear c13b0
        try clear c13b1
        try clear c14
        try clear c14b0
        try clear c15
        try clear c15b0
        try clear c16
        try clear c16b0
        try clear c17
        try clear c17b0
        obtain ⟨kq, x60_10, rfl, HA, HJ10, HB⟩ := hcut
        cases kq with
        | zero => exact absurd HA.out (by simp [pylonlaw01_FixRoots.j0])
        | succ kj10 =>
          have H := HA.out
          clear HA
          simp only [pylonlaw01_FixRoots.j0] at H
          by_cases c18 : x60_10 = true
          · subst c18
            have H1 : (some false) = some r := by rw [if_pos rfl] at H; exact H
            clear H
            have H := H1
            clear H1
            obtain rfl := Option.some.inj H
            go_wp2
            go_ret
            exact ⟨by first | rfl | (simp [errW_none, errW_some] <;> rfl) | (simp [*, errW_none, errW_some] <;> rfl), by repeat (first | (with_reducible first | exact HB.out | apply below_alloc | apply pw_below_drewN | apply below_drew1) | exact HB.out)⟩
          · replace c18 := Bool.eq_false_iff.mpr c18
            subst c18
            have H1 : ((fix_Hyp.f kj10 (wrap64 (wrap32 (Int.tdiv a1 2))) (wrap64 (wrap32 (Int.tdiv a2 2)))).bind fun bt206 => ((fix_Hyp.f kj10 (wrap64 (-(wrap64 (wrap32 (Int.tdiv a2 2))))) (wrap64 (wrap32 (Int.tdiv a1 2)))).bind fun bt208 => (if bt206.2 = 0 then (if bt208.2 = 0 then (if bt208.1 = bt206.1 then (if bt206.1 ≥ 0 then (if bt206.1 < 2147483648 then (if (wrap64 (bt206.1 * bt206.1)) ≤ (wrap64 ((wrap64 ((wrap64 (wrap32 (Int.tdiv a1 2))) * (wrap64 (wrap32 (Int.tdiv a1 2))))) + (wrap64 ((wrap64 (wrap32 (Int.tdiv a2 2))) * (wrap64 (wrap32 (Int.tdiv a2 2))))))) then (some (decide ((wrap64 ((wrap64 (bt206.1 + 1)) * (wrap64 (bt206.1 + 1)))) > (wrap64 ((wrap64 ((wrap64 (wrap32 (Int.tdiv a1 2))) * (wrap64 (wrap32 (Int.tdiv a1 2))))) + (wrap64 ((wrap64 (wrap32 (Int.tdiv a2 2))) * (wrap64 (wrap32 (Int.tdiv a2 2)))))))))) else (some false)) else (some false)) else (some false)) else (some false)) else (some false)) else (some false)))) = some r := by rw [if_neg (show ¬ (false = true) by decide)] at H; exact H
            clear H
            have H := H1
            clear H1
            replace H := Option.bind_eq_some_iff.mp H
            obtain ⟨⟨t206, t207⟩, A190, H⟩ := H
            replace H : ((fix_Hyp.f kj10 (wrap64 (-(wrap64 (wrap32 (Int.tdiv a2 2))))) (wrap64 (wrap32 (Int.tdiv a1 2)))).bind fun bt208 => (if t207 = 0 then (if bt208.2 = 0 then (if bt208.1 = t206 then (if t206 ≥ 0 then (if t206 < 2147483648 then (if (wrap64 (t206 * t206)) ≤ (wrap64 ((wrap64 ((wrap64 (wrap32 (Int.tdiv a1 2))) * (wrap64 (wrap32 (Int.tdiv a1 2))))) + (wrap64 ((wrap64 (wrap32 (Int.tdiv a2 2))) * (wrap64 (wrap32 (Int.tdiv a2 2))))))) then (some (decide ((wrap64 ((wrap64 (t206 + 1)) * (wrap64 (t206 + 1)))) > (wrap64 ((wrap64 ((wrap64 (wrap32 (Int.tdiv a1 2))) * (wrap64 (wrap32 (Int.tdiv a1 2))))) + (wrap64 ((wrap64 (wrap32 (Int.tdiv a2 2))) * (wrap64 (wrap32 (Int.tdiv a2 2)))))))))) else (some false)) else (some false)) else (some false)) else (some false)) else (some false)) else (some false))) = some r := H
            have A19 := Aside0.mk A190
            clear A190
            replace H := Option.bind_eq_some_iff.mp H
            obtain ⟨⟨t208, t209⟩, A200, H⟩ := H
            replace H : (if t207 = 0 then (if t209 = 0 then (if t208 = t206 then (if t206 ≥ 0 then (if t206 < 2147483648 then (if (wrap64 (t206 * t206)) ≤ (wrap64 ((wrap64 ((wrap64 (wrap32 (Int.tdiv a1 2))) * (wrap64 (wrap32 (Int.tdiv a1 2))))) + (wrap64 ((wrap64 (wrap32 (Int.tdiv a2 2))) * (wrap64 (wrap32 (Int.tdiv a2 2))))))) then (some (decide ((wrap64 ((wrap64 (t206 + 1)) * (wrap64 (t206 + 1)))) > (wrap64 ((wrap64 ((wrap64 (wrap32 (Int.tdiv a1 2))) * (wrap64 (wrap32 (Int.tdiv a1 2))))) + (wrap64 ((wrap64 (wrap32 (Int.tdiv a2 2))) * (wrap64 (wrap32 (Int.tdiv a2 2)))))))))) else (some false)) else (some false)) else (some false)) else (some false)) else (some false)) else (some false)) = some r := H
            have A20 := Aside0.mk A200
            clear A200
            by_cases c21 : t207 = 0
            · rw [if_pos c21] at H
              have c21b0 : (t207 == 0) = true := beq_iff_eq.mpr c21
              have c21b1 : (t207 != 0) = false := bne_eq_false_iff_eq.mpr c21
              clear c21
              by_cases c22 : t209 = 0
              · rw [if_pos c22] at H
                have c22b0 : (t209 == 0) = true := beq_iff_eq.mpr c22
                have c22b1 : (t209 != 0) = false := bne_eq_false_iff_eq.mpr c22
                clear c22
                by_cases c23 : t208 = t206
                · rw [if_pos c23] at H
                  have c23b0 : (t208 == t206) = true := beq_iff_eq.mpr c23
                  have c23b1 : (t208 != t206) = false := bne_eq_false_iff_eq.mpr c23
                  clear c23
                  by_cases c24 : t206 ≥ 0
                  · rw [if_pos c24] at H
                    have c24b0 : decide (0 ≤ t206) = true := decide_eq_true c24
                    clear c24
                    by_cases c25 : t206 < 2147483648
                    · rw [if_pos c25] at H
                      have c25b0 : decide (t206 < 2147483648) = true := decide_eq_true c25
                      clear c25
                      by_cases c26 : (wrap64 (t206 * t206)) ≤ (wrap64 ((wrap64 ((wrap64 (wrap32 (Int.tdiv a1 2))) * (wrap64 (wrap32 (Int.tdiv a1 2))))) + (wrap64 ((wrap64 (wrap32 (Int.tdiv a2 2))) * (wrap64 (wrap32 (Int.tdiv a2 2)))))))
                      · rw [if_pos c26] at H
                        have c26b0 : decide ((wrap64 (t206 * t206)) ≤ (wrap64 ((wrap64 ((wrap64 (wrap32 (Int.tdiv a1 2))) * (wrap64 (wrap32 (Int.tdiv a1 2))))) + (wrap64 ((wrap64 (wrap32 (Int.tdiv a2 2))) * (wrap64 (wrap32 (Int.tdiv a2 2)))))))) = true := decide_eq_true c26
                        clear c26
                        obtain rfl := Option.some.inj H
                        go_wp2_with (first | ((with_reducible refine gate_callee (f := 20) rfl ?_); refine goesL_ (some 70) rfl rfl Tryd.func20 (by kernel_rfl) rfl #[.int .i64 (wrap64 (wrap32 (Int.tdiv a1 2))), .int .i64 (wrap64 (wrap32 (Int.tdiv a2 2)))] rfl (by (try simp only [List.map_toArray, List.map_cons, List.map_nil]); first | done | rfl | (simp only [List.length_drop, List.length_take]; rfl)) ?_; (with_reducible refine (fix_Hyp.calls kj10 (wrap64 (wrap32 (Int.tdiv a1 2))) (wrap64 (wrap32 (Int.tdiv a2 2))) t206 t207 _ A19.out).mono ?_); rintro e w' ⟨rfl, ⟨nd, rfl⟩⟩; refine ⟨_, rfl, ?_⟩) | ((with_reducible refine gate_callee (f := 20) rfl ?_); refine goesL_ (some 77) rfl rfl Tryd.func20 (by kernel_rfl) rfl #[.int .i64 (wrap64 (-(wrap64 (wrap32 (Int.tdiv a2 2))))), .int .i64 (wrap64 (wrap32 (Int.tdiv a1 2)))] rfl (by (try simp only [List.map_toArray, List.map_cons, List.map_nil]); first | done | rfl | (simp only [List.length_drop, List.length_take]; rfl)) ?_; (with_reducible refine (fix_Hyp.calls kj10 (wrap64 (-(wrap64 (wrap32 (Int.tdiv a2 2))))) (wrap64 (wrap32 (Int.tdiv a1 2))) t208 t209 _ A20.out).mono ?_); rintro e w' ⟨rfl, ⟨nd, rfl⟩⟩; refine ⟨_, rfl, ?_⟩))
                        go_ret
                        exact ⟨by first | rfl | (simp [errW_none, errW_some] <;> rfl) | (simp [*, errW_none, errW_some] <;> rfl), by repeat (first | (with_reducible first | exact HB.out | apply below_alloc | apply pw_below_drewN | apply below_drew1) | exact HB.out)⟩
                      · rw [if_neg c26] at H
                        have c26b0 : decide ((wrap64 (t206 * t206)) ≤ (wrap64 ((wrap64 ((wrap64 (wrap32 (Int.tdiv a1 2))) * (wrap64 (wrap32 (Int.tdiv a1 2))))) + (wrap64 ((wrap64 (wrap32 (Int.tdiv a2 2))) * (wrap64 (wrap32 (Int.tdiv a2 2)))))))) = false := decide_eq_false c26
                        clear c26
                        obtain rfl := Option.some.inj H
                        go_wp2_with (first | ((with_reducible refine gate_callee (f := 20) rfl ?_); refine goesL_ (some 70) rfl rfl Tryd.func20 (by kernel_rfl) rfl #[.int .i64 (wrap64 (wrap32 (Int.tdiv a1 2))), .int .i64 (wrap64 (wrap32 (Int.tdiv a2 2)))] rfl (by (try simp only [List.map_toArray, List.map_cons, List.map_nil]); first | done | rfl | (simp only [List.length_drop, List.length_take]; rfl)) ?_; (with_reducible refine (fix_Hyp.calls kj10 (wrap64 (wrap32 (Int.tdiv a1 2))) (wrap64 (wrap32 (Int.tdiv a2 2))) t206 t207 _ A19.out).mono ?_); rintro e w' ⟨rfl, ⟨nd, rfl⟩⟩; refine ⟨_, rfl, ?_⟩) | ((with_reducible refine gate_callee (f := 20) rfl ?_); refine goesL_ (some 77) rfl rfl Tryd.func20 (by kernel_rfl) rfl #[.int .i64 (wrap64 (-(wrap64 (wrap32 (Int.tdiv a2 2))))), .int .i64 (wrap64 (wrap32 (Int.tdiv a1 2)))] rfl (by (try simp only [List.map_toArray, List.map_cons, List.map_nil]); first | done | rfl | (simp only [List.length_drop, List.length_take]; rfl)) ?_; (with_reducible refine (fix_Hyp.calls kj10 (wrap64 (-(wrap64 (wrap32 (Int.tdiv a2 2))))) (wrap64 (wrap32 (Int.tdiv a1 2))) t208 t209 _ A20.out).mono ?_); rintro e w' ⟨rfl, ⟨nd, rfl⟩⟩; refine ⟨_, rfl, ?_⟩))
                        go_ret
                        exact ⟨by first | rfl | (simp [errW_none, errW_some] <;> rfl) | (simp [*, errW_none, errW_some] <;> rfl), by repeat (first | (with_reducible first | exact HB.out | apply below_alloc | apply pw_below_drewN | apply below_drew1) | exact HB.out)⟩
                    · rw [if_neg c25] at H
                      have c25b0 : decide (t206 < 2147483648) = false := decide_eq_false c25
                      clear c25
                      obtain rfl := Option.some.inj H
                      go_wp2_with (first | ((with_reducible refine gate_callee (f := 20) rfl ?_); refine goesL_ (some 70) rfl rfl Tryd.func20 (by kernel_rfl) rfl #[.int .i64 (wrap64 (wrap32 (Int.tdiv a1 2))), .int .i64 (wrap64 (wrap32 (Int.tdiv a2 2)))] rfl (by (try simp only [List.map_toArray, List.map_cons, List.map_nil]); first | done | rfl | (simp only [List.length_drop, List.length_take]; rfl)) ?_; (with_reducible refine (fix_Hyp.calls kj10 (wrap64 (wrap32 (Int.tdiv a1 2))) (wrap64 (wrap32 (Int.tdiv a2 2))) t206 t207 _ A19.out).mono ?_); rintro e w' ⟨rfl, ⟨nd, rfl⟩⟩; refine ⟨_, rfl, ?_⟩) | ((with_reducible refine gate_callee (f := 20) rfl ?_); refine goesL_ (some 77) rfl rfl Tryd.func20 (by kernel_rfl) rfl #[.int .i64 (wrap64 (-(wrap64 (wrap32 (Int.tdiv a2 2))))), .int .i64 (wrap64 (wrap32 (Int.tdiv a1 2)))] rfl (by (try simp only [List.map_toArray, List.map_cons, List.map_nil]); first | done | rfl | (simp only [List.length_drop, List.length_take]; rfl)) ?_; (with_reducible refine (fix_Hyp.calls kj10 (wrap64 (-(wrap64 (wrap32 (Int.tdiv a2 2))))) (wrap64 (wrap32 (Int.tdiv a1 2))) t208 t209 _ A20.out).mono ?_); rintro e w' ⟨rfl, ⟨nd, rfl⟩⟩; refine ⟨_, rfl, ?_⟩))
                      go_ret
                      exact ⟨by first | rfl | (simp [errW_none, errW_some] <;> rfl) | (simp [*, errW_none, errW_some] <;> rfl), by repeat (first | (with_reducible first | exact HB.out | apply below_alloc | apply pw_below_drewN | apply below_drew1) | exact HB.out)⟩
                  · rw [if_neg c24] at H
                    have c24b0 : decide (0 ≤ t206) = false := decide_eq_false c24
                    clear c24
                    obtain rfl := Option.some.inj H
                    go_wp2_with (first | ((with_reducible refine gate_callee (f := 20) rfl ?_); refine goesL_ (some 70) rfl rfl Tryd.func20 (by kernel_rfl) rfl #[.int .i64 (wrap64 (wrap32 (Int.tdiv a1 2))), .int .i64 (wrap64 (wrap32 (Int.tdiv a2 2)))] rfl (by (try simp only [List.map_toArray, List.map_cons, List.map_nil]); first | done | rfl | (simp only [List.length_drop, List.length_take]; rfl)) ?_; (with_reducible refine (fix_Hyp.calls kj10 (wrap64 (wrap32 (Int.tdiv a1 2))) (wrap64 (wrap32 (Int.tdiv a2 2))) t206 t207 _ A19.out).mono ?_); rintro e w' ⟨rfl, ⟨nd, rfl⟩⟩; refine ⟨_, rfl, ?_⟩) | ((with_reducible refine gate_callee (f := 20) rfl ?_); refine goesL_ (some 77) rfl rfl Tryd.func20 (by kernel_rfl) rfl #[.int .i64 (wrap64 (-(wrap64 (wrap32 (Int.tdiv a2 2))))), .int .i64 (wrap64 (wrap32 (Int.tdiv a1 2)))] rfl (by (try simp only [List.map_toArray, List.map_cons, List.map_nil]); first | done | rfl | (simp only [List.length_drop, List.length_take]; rfl)) ?_; (with_reducible refine (fix_Hyp.calls kj10 (wrap64 (-(wrap64 (wrap32 (Int.tdiv a2 2))))) (wrap64 (wrap32 (Int.tdiv a1 2))) t208 t209 _ A20.out).mono ?_); rintro e w' ⟨rfl, ⟨nd, rfl⟩⟩; refine ⟨_, rfl, ?_⟩))
                    go_ret
                    exact ⟨by first | rfl | (simp [errW_none, errW_some] <;> rfl) | (simp [*, errW_none, errW_some] <;> rfl), by repeat (first | (with_reducible first | exact HB.out | apply below_alloc | apply pw_below_drewN | apply below_drew1) | exact HB.out)⟩
                · rw [if_neg c23] at H
                  have c23b0 : (t208 == t206) = false := beq_eq_false_iff_ne.mpr c23
                  have c23b1 : (t208 != t206) = true := bne_iff_ne.mpr c23
                  obtain rfl := Option.some.inj H
                  go_wp2_with (first | ((with_reducible refine gate_callee (f := 20) rfl ?_); refine goesL_ (some 70) rfl rfl Tryd.func20 (by kernel_rfl) rfl #[.int .i64 (wrap64 (wrap32 (Int.tdiv a1 2))), .int .i64 (wrap64 (wrap32 (Int.tdiv a2 2)))] rfl (by (try simp only [List.map_toArray, List.map_cons, List.map_nil]); first | done | rfl | (simp only [List.length_drop, List.length_take]; rfl)) ?_; (with_reducible refine (fix_Hyp.calls kj10 (wrap64 (wrap32 (Int.tdiv a1 2))) (wrap64 (wrap32 (Int.tdiv a2 2))) t206 t207 _ A19.out).mono ?_); rintro e w' ⟨rfl, ⟨nd, rfl⟩⟩; refine ⟨_, rfl, ?_⟩) | ((with_reducible refine gate_callee (f := 20) rfl ?_); refine goesL_ (some 77) rfl rfl Tryd.func20 (by kernel_rfl) rfl #[.int .i64 (wrap64 (-(wrap64 (wrap32 (Int.tdiv a2 2))))), .int .i64 (wrap64 (wrap32 (Int.tdiv a1 2)))] rfl (by (try simp only [List.map_toArray, List.map_cons, List.map_nil]); first | done | rfl | (simp only [List.length_drop, List.length_take]; rfl)) ?_; (with_reducible refine (fix_Hyp.calls kj10 (wrap64 (-(wrap64 (wrap32 (Int.tdiv a2 2))))) (wrap64 (wrap32 (Int.tdiv a1 2))) t208 t209 _ A20.out).mono ?_); rintro e w' ⟨rfl, ⟨nd, rfl⟩⟩; refine ⟨_, rfl, ?_⟩))
                  go_ret
                  exact ⟨by first | rfl | (simp [errW_none, errW_some] <;> rfl) | (simp [*, errW_none, errW_some] <;> rfl), by repeat (first | (with_reducible first | exact HB.out | apply below_alloc | apply pw_below_drewN | apply below_drew1) | exact HB.out)⟩
              · rw [if_neg c22] at H
                have c22b0 : (t209 == 0) = false := beq_eq_false_iff_ne.mpr c22
                have c22b1 : (t209 != 0) = true := bne_iff_ne.mpr c22
                obtain rfl := Option.some.inj H
                go_wp2_with (first | ((with_reducible refine gate_callee (f := 20) rfl ?_); refine goesL_ (some 70) rfl rfl Tryd.func20 (by kernel_rfl) rfl #[.int .i64 (wrap64 (wrap32 (Int.tdiv a1 2))), .int .i64 (wrap64 (wrap32 (Int.tdiv a2 2)))] rfl (by (try simp only [List.map_toArray, List.map_cons, List.map_nil]); first | done | rfl | (simp only [List.length_drop, List.length_take]; rfl)) ?_; (with_reducible refine (fix_Hyp.calls kj10 (wrap64 (wrap32 (Int.tdiv a1 2))) (wrap64 (wrap32 (Int.tdiv a2 2))) t206 t207 _ A19.out).mono ?_); rintro e w' ⟨rfl, ⟨nd, rfl⟩⟩; refine ⟨_, rfl, ?_⟩) | ((with_reducible refine gate_callee (f := 20) rfl ?_); refine goesL_ (some 77) rfl rfl Tryd.func20 (by kernel_rfl) rfl #[.int .i64 (wrap64 (-(wrap64 (wrap32 (Int.tdiv a2 2))))), .int .i64 (wrap64 (wrap32 (Int.tdiv a1 2)))] rfl (by (try simp only [List.map_toArray, List.map_cons, List.map_nil]); first | done | rfl | (simp only [List.length_drop, List.length_take]; rfl)) ?_; (with_reducible refine (fix_Hyp.calls kj10 (wrap64 (-(wrap64 (wrap32 (Int.tdiv a2 2))))) (wrap64 (wrap32 (Int.tdiv a1 2))) t208 t209 _ A20.out).mono ?_); rintro e w' ⟨rfl, ⟨nd, rfl⟩⟩; refine ⟨_, rfl, ?_⟩))
                go_ret
                exact ⟨by first | rfl | (simp [errW_none, errW_some] <;> rfl) | (simp [*, errW_none, errW_some] <;> rfl), by repeat (first | (with_reducible first | exact HB.out | apply below_alloc | apply pw_below_drewN | apply below_drew1) | exact HB.out)⟩
            · rw [if_neg c21] at H
              have c21b0 : (t207 == 0) = false := beq_eq_false_iff_ne.mpr c21
              have c21b1 : (t207 != 0) = true := bne_iff_ne.mpr c21
              obtain rfl := Option.some.inj H
              go_wp2_with (first | ((with_reducible refine gate_callee (f := 20) rfl ?_); refine goesL_ (some 70) rfl rfl Tryd.func20 (by kernel_rfl) rfl #[.int .i64 (wrap64 (wrap32 (Int.tdiv a1 2))), .int .i64 (wrap64 (wrap32 (Int.tdiv a2 2)))] rfl (by (try simp only [List.map_toArray, List.map_cons, List.map_nil]); first | done | rfl | (simp only [List.length_drop, List.length_take]; rfl)) ?_; (with_reducible refine (fix_Hyp.calls kj10 (wrap64 (wrap32 (Int.tdiv a1 2))) (wrap64 (wrap32 (Int.tdiv a2 2))) t206 t207 _ A19.out).mono ?_); rintro e w' ⟨rfl, ⟨nd, rfl⟩⟩; refine ⟨_, rfl, ?_⟩) | ((with_reducible refine gate_callee (f := 20) rfl ?_); refine goesL_ (some 77) rfl rfl Tryd.func20 (by kernel_rfl) rfl #[.int .i64 (wrap64 (-(wrap64 (wrap32 (Int.tdiv a2 2))))), .int .i64 (wrap64 (wrap32 (Int.tdiv a1 2)))] rfl (by (try simp only [List.map_toArray, List.map_cons, List.map_nil]); first | done | rfl | (simp only [List.length_drop, List.length_take]; rfl)) ?_; (with_reducible refine (fix_Hyp.calls kj10 (wrap64 (-(wrap64 (wrap32 (Int.tdiv a2 2))))) (wrap64 (wrap32 (Int.tdiv a1 2))) t208 t209 _ A20.out).mono ?_); rintro e w' ⟨rfl, ⟨nd, rfl⟩⟩; refine ⟨_, rfl, ?_⟩))
              go_ret
              exact ⟨by first | rfl | (simp [errW_none, errW_some] <;> rfl) | (simp [*, errW_none, errW_some] <;> rfl), by repeat (first | (with_reducible first | exact HB.out | apply below_alloc | apply pw_below_drewN | apply below_drew1) | exact HB.out)⟩
  · replace c5 := Bool.eq_false_iff.mpr c5
    subst c5
    have H1 : (some false) = some r := by rw [if_neg (show ¬ (false = true) by decide)] at H; exact H
    clear H
    have H := H1
    clear H1
    obtain rfl := Option.some.inj H
    go_enter Tryd.func7, Tryd.ntmps7
    go_wp2_with (first | ((with_reducible refine gate_callee (f := 11) rfl ?_); refine goesL_ (some 16) rfl rfl Tryd.func11 (by kernel_rfl) rfl #[] rfl (by (try simp only [List.map_toArray, List.map_cons, List.map_nil]); first | done | rfl | (simp only [List.length_drop, List.length_take]; rfl)) ?_; (with_reducible refine (pylonlaw01_awake.calls k  false _ ?side1 A4.out).mono ?_); (case side1 => exact Go.Proofs.YthejabcfbbmkeaaDoor.Hand.GW.on HTB.out (by repeat (first | (with_reducible first | exact HB.out | apply below_alloc | apply pw_below_drewN | apply below_drew1) | exact HB.out))); rintro e w27 ⟨rfl, hb⟩; refine ⟨_, rfl, ?_⟩; have n0_ := Aside0.mk (below_step (by repeat (first | (with_reducible first | exact HB.out | apply below_alloc | apply pw_below_drewN | apply below_drew1) | exact HB.out)) hb); clear HB; have HB := n0_; clear n0_; (try clear hb); (try clear hb2); (try clear hk); (try clear hi)))
    go_ret
    exact ⟨by first | rfl | (simp [errW_none, errW_some] <;> rfl) | (simp [*, errW_none, errW_some] <;> rfl), by repeat (first | (with_reducible first | exact HB.out | apply below_alloc | apply pw_below_drewN | apply below_drew1) | exact HB.out)⟩
/-- THE ONE PURE STATEMENT of pylonlaw01_FixRoots. -/
def pylonlaw01_FixRoots.Pure : Prop := ∀ (a0 : Int) (a1 : Int) (a2 : Int), ((Lit.int .i64 a0).wf = true) → ((Lit.int .i32 a1).wf = true) → ((Lit.int .i32 a2).wf = true) → ∃ k, pylonlaw01_FixRoots.f k a0 a1 a2 = some true

end Go.Proofs.YthejabcfbbmkeaaDoor.PF
