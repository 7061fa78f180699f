-- Written by a program of this session for this claim (wip/print2.sh). Lean checks it.
import Derived.Test.YtapimggcnneabaaPDKx0
import Derived.Test.YtapimggcnneabaaPDKx2
import Derived.Test.YtapimggcnneabaaPDKx3
namespace Go.Proofs.Ytapimggcnneabaa.PDK
open Go.Proofs.YtapimggcnneabaaW.PrintWords
attribute [local go_sem high] fx_eql fx_neq fx_lss fx_leq fx_gtr fx_geq fx_add fx_sub fx_mul fx_neg fx_toint cxx_add cxx_sub cxx_mul cxx_eql cxx_neq cxx_pick st_float st_complex
open Go.RowKit Go.Proofs.YtapimggcnneabaaW.PrintWords Go.Proofs.YtapimggcnneabaaW.PrintLast Go.Proofs.YtapimggcnneabaaW.PrintMore
attribute [local go_sem] max2_int min2_int max_two min_two max_three min_three max_four min_four   -- for this text's walks alone
set_option linter.unusedVariables false
set_option linter.unusedSimpArgs false

/-! ### fix_root: function 95 -/
mutual
def fix_root.j0 : Nat → Int → Int → Bool → Option (Int)
  | 0, _, _, _ => none
  | k + 1, x0, x1, x17 => if x17 = true then (some 0) else ((bits_Len64.f k x1).bind fun t107 => (if x0 = 0 then (fix_root.j1 k x0 x1 t107) else ((bits_Len64.f k x0).bind fun t108 => (fix_root.j1 k x0 x1 (wrap64 (64 + t108))))))
def fix_root.j1 : Nat → Int → Int → Int → Option (Int)
  | 0, _, _, _ => none
  | k + 1, x0, x1, x5 => if x5 < 127 then (if 0 ≤ (wrap64 (Int.tdiv (wrap64 (x5 + 1)) 2)) then (fix_root.j2 k x0 x1 (shl .u64 1 (wrap64 (Int.tdiv (wrap64 (x5 + 1)) 2)))) else (none)) else (fix_root.j2 k x0 x1 18446744073709551615)
def fix_root.j2 : Nat → Int → Int → Int → Option (Int)
  | 0, _, _, _ => none
  | k + 1, x0, x1, x6 => fix_root.l0 k x0 x1 x6
def fix_root.l0 : Nat → Int → Int → Int → Option (Int)
  | 0, _, _, _ => none
  | k + 1, x0, x1, x6 => if x0 ≥ x6 then (some x6) else ((bits_Div64.f k x0 x1 x6).bind fun bt109 => (if c01 0 = true then (if (Go.bits .or .u64 ((u64add x6 bt109.1 0) / 2) (IntKind.u64.wrap ((u64car x6 bt109.1 0) * 9223372036854775808))) ≥ x6 then (some x6) else (fix_root.l0 k x0 x1 (Go.bits .or .u64 ((u64add x6 bt109.1 0) / 2) (IntKind.u64.wrap ((u64car x6 bt109.1 0) * 9223372036854775808))))) else (none)))
end
def fix_root.f (k : Nat) (a0 : Int) (a1 : Int) : Option (Int) := if a0 = 0 then (fix_root.j0 k a0 a1 (a1 == 0)) else (fix_root.j0 k a0 a1 false)
theorem fix_root.mono_l : ∀ k, (∀ y0 y1 y2, LeO (fix_root.j0 k y0 y1 y2) (fix_root.j0 (k + 1) y0 y1 y2)) ∧ (∀ y0 y1 y2, LeO (fix_root.j1 k y0 y1 y2) (fix_root.j1 (k + 1) y0 y1 y2)) ∧ (∀ y0 y1 y2, LeO (fix_root.j2 k y0 y1 y2) (fix_root.j2 (k + 1) y0 y1 y2)) ∧ (∀ y0 y1 y2, LeO (fix_root.l0 k y0 y1 y2) (fix_root.l0 (k + 1) y0 y1 y2))
  | 0 => ⟨fun _ _ _ r h => by simp [fix_root.j0] at h, fun _ _ _ r h => by simp [fix_root.j1] at h, fun _ _ _ r h => by simp [fix_root.j2] at h, fun _ _ _ r h => by simp [fix_root.l0] at h⟩
  | k + 1 => by
    obtain ⟨ih0, ih1, ih2, ih3⟩ := fix_root.mono_l k
    refine ⟨?_, ?_, ?_, ?_⟩
    · intro y0 y1 y2
      unfold fix_root.j0
      repeat' first
      | (with_reducible exact ih0 _ _ _)
      | (with_reducible exact ih1 _ _ _)
      | (with_reducible exact ih2 _ _ _)
      | (with_reducible exact ih3 _ _ _)
      | (with_reducible exact bits_Div64.mono _ _ _ _)
      | (with_reducible exact bits_Len64.mono _ _)
      | (with_reducible exact LeO.refl _)
      | (with_reducible exact LeO.none _)
      | (with_reducible refine LeO.ite ?_ ?_)
      | (with_reducible refine LeO.bind ?_ (fun _ => ?_))
      | exact ih0 _ _ _
      | exact ih1 _ _ _
      | exact ih2 _ _ _
      | exact ih3 _ _ _
      | exact bits_Div64.mono _ _ _ _
      | exact bits_Len64.mono _ _
      | exact LeO.none _
      | refine LeO.ite ?_ ?_
      | refine LeO.bind ?_ (fun _ => ?_)
    · intro y0 y1 y2
      unfold fix_root.j1
      repeat' first
      | (with_reducible exact ih0 _ _ _)
      | (with_reducible exact ih1 _ _ _)
      | (with_reducible exact ih2 _ _ _)
      | (with_reducible exact ih3 _ _ _)
      | (with_reducible exact bits_Div64.mono _ _ _ _)
      | (with_reducible exact bits_Len64.mono _ _)
      | (with_reducible exact LeO.refl _)
      | (with_reducible exact LeO.none _)
      | (with_reducible refine LeO.ite ?_ ?_)
      | (with_reducible refine LeO.bind ?_ (fun _ => ?_))
      | exact ih0 _ _ _
      | exact ih1 _ _ _
      | exact ih2 _ _ _
      | exact ih3 _ _ _
      | exact bits_Div64.mono _ _ _ _
      | exact bits_Len64.mono _ _
      | exact LeO.none _
      | refine LeO.ite ?_ ?_
      | refine LeO.bind ?_ (fun _ => ?_)
    · intro y0 y1 y2
      unfold fix_root.j2
      repeat' first
      | (with_reducible exact ih0 _ _ _)
      | (with_reducible exact ih1 _ _ _)
      | (with_reducible exact ih2 _ _ _)
      | (with_reducible exact ih3 _ _ _)
      | (with_reducible exact bits_Div64.mono _ _ _ _)
      | (with_reducible exact bits_Len64.mono _ _)
      | (with_reducible exact LeO.refl _)
      | (with_reducible exact LeO.none _)
      | (with_reducible refine LeO.ite ?_ ?_)
      | (with_reducible refine LeO.bind ?_ (fun _ => ?_))
      | exact ih0 _ _ _
      | exact ih1 _ _ _
      | exact ih2 _ _ _
      | exact ih3 _ _ _
      | exact bits_Div64.mono _ _ _ _
      | exact bits_Len64.mono _ _
      | exact LeO.none _
      | refine LeO.ite ?_ ?_
      | refine LeO.bind ?_ (fun _ => ?_)
    · intro y0 y1 y2
      unfold fix_root.l0
      repeat' first
      | (with_reducible exact ih0 _ _ _)
      | (with_reducible exact ih1 _ _ _)
      | (with_reducible exact ih2 _ _ _)
      | (with_reducible exact ih3 _ _ _)
      | (with_reducible exact bits_Div64.mono _ _ _ _)
      | (with_reducible exact bits_Len64.mono _ _)
      | (with_reducible exact LeO.refl _)
      | (with_reducible exact LeO.none _)
      | (with_reducible refine LeO.ite ?_ ?_)
      | (with_reducible refine LeO.bind ?_ (fun _ => ?_))
      | exact ih0 _ _ _
      | exact ih1 _ _ _
      | exact ih2 _ _ _
      | exact ih3 _ _ _
      | exact bits_Div64.mono _ _ _ _
      | exact bits_Len64.mono _ _
      | exact LeO.none _
      | refine LeO.ite ?_ ?_
      | refine LeO.bind ?_ (fun _ => ?_)
theorem fix_root.mono : ∀ a0 a1 k, LeO (fix_root.f k a0 a1) (fix_root.f (k + 1) a0 a1) := by
  intro a0 a1 k
  obtain ⟨ih0, ih1, ih2, ih3⟩ := fix_root.mono_l k
  unfold fix_root.f
  repeat' first
      | (with_reducible exact ih0 _ _ _)
      | (with_reducible exact ih1 _ _ _)
      | (with_reducible exact ih2 _ _ _)
      | (with_reducible exact ih3 _ _ _)
      | (with_reducible exact bits_Div64.mono _ _ _ _)
      | (with_reducible exact bits_Len64.mono _ _)
      | (with_reducible exact LeO.refl _)
      | (with_reducible exact LeO.none _)
      | (with_reducible refine LeO.ite ?_ ?_)
      | (with_reducible refine LeO.bind ?_ (fun _ => ?_))
      | exact ih0 _ _ _
      | exact ih1 _ _ _
      | exact ih2 _ _ _
      | exact ih3 _ _ _
      | exact bits_Div64.mono _ _ _ _
      | exact bits_Len64.mono _ _
      | exact LeO.none _
      | refine LeO.ite ?_ ?_
      | refine LeO.bind ?_ (fun _ => ?_)
set_option maxHeartbeats 8000000 in
set_option maxRecDepth 100000 in
theorem fix_root.calls (k : Nat) (a0 : Int) (a1 : Int) (r : Int) (w : World) (h : fix_root.f k a0 a1 = some r) :
    Calls Try.prog 95 #[.int .u64 a0, .int .u64 a1] w fun e w' => e = .returned (.int .u64 r) ∧ Drawn0 w w' := by
  have hx93 := @ext93
  have H : (if a0 = 0 then (fix_root.j0 k a0 a1 (a1 == 0)) else (fix_root.j0 k a0 a1 false)) = some r := h
  clear h
  have HC3 := Aside0.mk H
  clear H
  go_enter Try.func95, Try.ntmps95
  go_upto_region 1 with (fail)
  go_cut [17] (fun v17 wc => ∃ (kq : Nat) (x17_2 : Bool), v17 = .bool x17_2 ∧ Aside0 (fix_root.j0 kq a0 a1 x17_2 = some r) ∧ Aside0 (kq ≤ k) ∧ Drawn0 w wc)
  case first =>
    have H := HC3.out
    clear HC3
    by_cases c4 : a0 = 0
    · rw [if_pos c4] at H
      have c4b0 : (a0 == 0) = true := beq_iff_eq.mpr c4
      have c4b1 : (a0 != 0) = false := bne_eq_false_iff_eq.mpr c4
      clear c4
      (first | rw [c4b0] | (simp only [i64_w, i32_w]; rw [c4b0]) | skip)
      have H' := Aside0.mk H
      clear H
      go_wp2
      go_meet
      case rel => exact ⟨_, ((a1 == 0)), (by first | rfl | (simp; done) | (simp [*]; done)), H', ⟨by first | omega | exact Nat.le_refl _⟩, by repeat (first | exact Drawn0.refl _ | apply Drawn0.step)⟩
    · rw [if_neg c4] at H
      have c4b0 : (a0 == 0) = false := beq_eq_false_iff_ne.mpr c4
      have c4b1 : (a0 != 0) = true := bne_iff_ne.mpr c4
      (first | rw [c4b0] | (simp only [i64_w, i32_w]; rw [c4b0]) | skip)
      have H' := Aside0.mk H
      clear H
      go_wp2
      go_meet
      case rel => exact ⟨_, (false), (by first | rfl | (simp; done) | (simp [*]; done)), H', ⟨by first | omega | exact Nat.le_refl _⟩, by repeat (first | exact Drawn0.refl _ | apply Drawn0.step)⟩
  case rest =>
    clear HC3
    try clear p2
    try clear c4
    try clear c4b0
    try clear c4b1
    obtain ⟨kq, x17_2, rfl, HA, HJ2, ⟨mc2, rfl⟩⟩ := hcut
    cases kq with
    | zero => exact absurd HA.out (by simp [fix_root.j0])
    | succ kj2 =>
      have H := HA.out
      clear HA
      simp only [fix_root.j0] at H
      by_cases c5 : x17_2 = true
      · subst c5
        have H1 : (some 0) = some r := by rw [if_pos rfl] at H; exact H
        clear H
        have H := H1
        clear H1
        obtain rfl := Option.some.inj H
        go_wp2
        go_ret
        exact ⟨by first | rfl | (simp; done) | (simp [*]; done), by repeat (first | exact Drawn0.refl _ | apply Drawn0.step)⟩
      · replace c5 := Bool.eq_false_iff.mpr c5
        subst c5
        have H1 : ((bits_Len64.f kj2 a1).bind fun t107 => (if a0 = 0 then (fix_root.j1 kj2 a0 a1 t107) else ((bits_Len64.f kj2 a0).bind fun t108 => (fix_root.j1 kj2 a0 a1 (wrap64 (64 + t108)))))) = some r := by rw [if_neg (show ¬ (false = true) by decide)] at H; exact H
        clear H
        have H := H1
        clear H1
        replace H := Option.bind_eq_some_iff.mp H
        obtain ⟨t107, A60, H⟩ := H
        replace H : (if a0 = 0 then (fix_root.j1 kj2 a0 a1 t107) else ((bits_Len64.f kj2 a0).bind fun t108 => (fix_root.j1 kj2 a0 a1 (wrap64 (64 + t108))))) = some r := H
        have A6 := Aside0.mk A60
        clear A60
        have HC7 := Aside0.mk H
        clear H
        go_upto_if 21 with (first | ((with_reducible refine gate_callee (f := 99) rfl ?_); refine goesL_ (some 19) rfl rfl Try.func99 (by kernel_rfl) rfl #[.int .u64 a1] rfl (by (try simp only [List.map_toArray, List.map_cons, List.map_nil]); first | done | rfl | (simp only [List.length_drop, List.length_take]; rfl)) ?_; (with_reducible refine (bits_Len64.calls kj2 a1 t107 _ A6.out).mono ?_); rintro e w' ⟨rfl, ⟨nd, rfl⟩⟩; refine ⟨_, rfl, ?_⟩))
        (try simp only [Act.put, List.setIfInBounds_toArray, List.set_cons_zero, List.set_cons_succ])
        go_cut [5] (fun v5 wc => ∃ (kq : Nat) (x5_6 : Int), v5 = .int .i64 x5_6 ∧ Aside0 (fix_root.j1 kq a0 a1 x5_6 = some r) ∧ Aside0 (kq ≤ kj2) ∧ Drawn0 w wc)
        case first =>
          have H := HC7.out
          clear HC7
          by_cases c8 : a0 = 0
          · rw [if_pos c8] at H
            have c8b0 : (a0 == 0) = true := beq_iff_eq.mpr c8
            have c8b1 : (a0 != 0) = false := bne_eq_false_iff_eq.mpr c8
            clear c8
            (first | rw [c8b0] | (simp only [i64_w, i32_w]; rw [c8b0]) | skip)
            have H' := Aside0.mk H
            clear H
            go_wp2
            go_meet
            case rel => exact ⟨_, (t107), (by first | rfl | (simp; done) | (simp [*]; done)), H', ⟨by have := HJ2.out; first | omega | exact Nat.le_refl _⟩, by repeat (first | exact Drawn0.refl _ | apply Drawn0.step)⟩
          · rw [if_neg c8] at H
            have c8b0 : (a0 == 0) = false := beq_eq_false_iff_ne.mpr c8
            have c8b1 : (a0 != 0) = true := bne_iff_ne.mpr c8
            (first | rw [c8b0] | (simp only [i64_w, i32_w]; rw [c8b0]) | skip)
            replace H := Option.bind_eq_some_iff.mp H
            obtain ⟨t108, A90, H⟩ := H
            replace H : (fix_root.j1 kj2 a0 a1 (wrap64 (64 + t108))) = some r := H
            have A9 := Aside0.mk A90
            clear A90
            have H' := Aside0.mk H
            clear H
            go_wp2_with (first | ((with_reducible refine gate_callee (f := 99) rfl ?_); refine goesL_ (some 23) rfl rfl Try.func99 (by kernel_rfl) rfl #[.int .u64 a0] rfl (by (try simp only [List.map_toArray, List.map_cons, List.map_nil]); first | done | rfl | (simp only [List.length_drop, List.length_take]; rfl)) ?_; (with_reducible refine (bits_Len64.calls kj2 a0 t108 _ A9.out).mono ?_); rintro e w' ⟨rfl, ⟨nd, rfl⟩⟩; refine ⟨_, rfl, ?_⟩))
            go_meet
            case rel => exact ⟨_, (wrap64 (64 + t108)), (by first | rfl | (simp; done) | (simp [*]; done)), H', ⟨by have := HJ2.out; first | omega | exact Nat.le_refl _⟩, by repeat (first | exact Drawn0.refl _ | apply Drawn0.step)⟩
        case rest =>
          clear HC7
          try clear c2
          try clear p2
          try clear c4
          try clear c4b0
          try clear c4b1
          try clear c5
          try clear p6
          try clear c8
          try clear c8b0
          try clear c8b1
          try clear c9
          try clear p2
          obtain ⟨kq, x5_6, rfl, HA, HJ6, ⟨mc6, rfl⟩⟩ := hcut
          cases kq with
          | zero => exact absurd HA.out (by simp [fix_root.j1])
          | succ kj6 =>
            have H := HA.out
            clear HA
            simp only [fix_root.j1] at H
            have HC10 := Aside0.mk H
            clear H
            go_upto_if 26 with (fail)
            go_cut [6] (fun v6 wc => ∃ (kq : Nat) (x6_9 : Int), v6 = .int .u64 x6_9 ∧ Aside0 (fix_root.j2 kq a0 a1 x6_9 = some r) ∧ Aside0 (kq ≤ kj6) ∧ Drawn0 w wc)
            case first =>
              have H := HC10.out
              clear HC10
              by_cases c11 : x5_6 < 127
              · rw [if_pos c11] at H
                have c11b0 : decide (x5_6 < 127) = true := decide_eq_true c11
                clear c11
                (first | rw [c11b0] | (simp only [i64_w, i32_w]; rw [c11b0]) | skip)
                obtain ⟨ji12, hji12⟩ : ∃ j_ : Int, (wrap64 (Int.tdiv (wrap64 (x5_6 + 1)) 2)) = j_ := ⟨_, rfl⟩
                replace H : (if 0 ≤ (ji12) then (fix_root.j2 kj6 a0 a1 (shl .u64 1 (ji12))) else (none)) = some r := by first | (rw [hji12] at H; exact H) | (simp only [hji12] at H ⊢; exact H)
                have hji12w : (IntKind.i64.wrap (Int.tdiv (wrap64 (x5_6 + 1)) 2)) = ji12 := (i64_w _).trans hji12
                by_cases c13 : 0 ≤ (ji12)
                · rw [if_pos c13] at H
                  have c13b0 := eq_true c13
                  have c13b1 : decide (0 ≤ (ji12)) = true := decide_eq_true c13
                  clear c13
                  obtain ⟨ji14, hji14⟩ : ∃ j_ : Int, (shl .u64 1 (ji12)) = j_ := ⟨_, rfl⟩
                  replace H : (fix_root.j2 kj6 a0 a1 ji14) = some r := by first | (rw [hji14] at H; exact H) | (simp only [hji14] at H ⊢; exact H)
                  have hji14_ : (IntKind.u64.wrap (1 * 2 ^ min (ji12).toNat 64)) = ji14 := hji14
                  have hji14z : (ji12) ≤ 64 → (IntKind.u64.wrap (1 * 2 ^ (ji12).toNat)) = ji14 := shl_small hji14
                  have hji14u : (IntKind.u64.wrap (2 ^ min (ji12).toNat 64)) = ji14 := by have h_ := hji14_; rw [Int.one_mul] at h_; exact h_
                  have hji14v : (ji12) ≤ 64 → (IntKind.u64.wrap (2 ^ (ji12).toNat)) = ji14 := fun hle_ => by have h_ := hji14z hle_; rw [Int.one_mul] at h_; exact h_
                  have H' := Aside0.mk H
                  clear H
                  go_wp2
                  go_meet
                  case rel => exact ⟨_, (ji14), (by first | rfl | (simp; done) | (simp only [← hji14] <;> (first | rfl | simp)) | (simp [*]; done)), H', ⟨by have := HJ2.out; have := HJ6.out; first | omega | exact Nat.le_refl _⟩, by repeat (first | exact Drawn0.refl _ | apply Drawn0.step)⟩
                · rw [if_neg c13] at H
                  exact absurd H (by simp)
              · rw [if_neg c11] at H
                have c11b0 : decide (x5_6 < 127) = false := decide_eq_false c11
                clear c11
                (first | rw [c11b0] | (simp only [i64_w, i32_w]; rw [c11b0]) | skip)
                have H' := Aside0.mk H
                clear H
                go_wp2
                go_meet
                case rel => exact ⟨_, (18446744073709551615), (by first | rfl | (simp; done) | (simp [*]; done)), H', ⟨by have := HJ2.out; have := HJ6.out; first | omega | exact Nat.le_refl _⟩, by repeat (first | exact Drawn0.refl _ | apply Drawn0.step)⟩
            case rest =>
              clear HC10
              try clear c1
              try clear c2
              try clear p2
              try clear c4
              try clear c4b0
              try clear c4b1
              try clear c5
              try clear c6
              try clear p6
              try clear c8
              try clear c8b0
              try clear c8b1
              try clear c9
              try clear c11
              try clear c11b0
              try clear c13
              try clear c13b0
              try clear c13b1
              try clear p2
              try clear p6
              obtain ⟨kq, x6_9, rfl, HA, HJ9, ⟨mc9, rfl⟩⟩ := hcut
              cases kq with
              | zero => exact absurd HA.out (by simp [fix_root.j2])
              | succ kj9 =>
                have H := HA.out
                clear HA
                simp only [fix_root.j2] at H
                have H' := Aside0.mk H
                clear H
                go_wp2
                go_loopg [6] kj9 (fun kq v6 w' => ∃ (x6_4 : Int), v6 = .int .u64 x6_4 ∧ Aside0 (fix_root.l0 kq a0 a1 x6_4 = some r) ∧ Aside0 (kq ≤ kj9) ∧ Drawn0 w w')
                case atStart => exact ⟨(x6_9), (by first | rfl | (simp; done) | (simp [*]; done)), H', ⟨Nat.le_refl _⟩, by repeat (first | exact Drawn0.refl _ | apply Drawn0.step)⟩
                case round =>
                  clear H'
                  try clear c1
                  try clear c2
                  try clear p2
                  try clear c4
                  try clear c4b0
                  try clear c4b1
                  try clear c5
                  try clear c6
                  try clear p6
                  try clear c8
                  try clear c8b0
                  try clear c8b1
                  try clear c9
                  try clear c11
                  try clear c11b0
                  try clear c13
                  try clear c13b0
                  try clear c13b1
                  try clear p2
                  try clear p6
                  obtain ⟨x6_4, rfl, HA, HK4, ⟨m4, rfl⟩⟩ := hrel
                  cases gk with
                  | zero => exact absurd HA.out (by simp [fix_root.l0])
                  | succ k4 =>
                    have H := HA.out
                    clear HA
                    simp only [fix_root.l0] at H
                    by_cases c15 : a0 ≥ x6_4
                    · rw [if_pos c15] at H
                      have c15b0 : decide (x6_4 ≤ a0) = true := decide_eq_true c15
                      clear c15
                      obtain rfl := Option.some.inj H
                      go_wp2
                      go_ret
                      exact ⟨by first | rfl | (simp; done) | (simp [*]; done), by repeat (first | exact Drawn0.refl _ | apply Drawn0.step)⟩
                    · rw [if_neg c15] at H
                      have c15b0 : decide (x6_4 ≤ a0) = false := decide_eq_false c15
                      clear c15
                      replace H := Option.bind_eq_some_iff.mp H
                      obtain ⟨⟨t109, t110⟩, A160, H⟩ := H
                      replace H : (if c01 0 = true then (if (Go.bits .or .u64 ((u64add x6_4 t109 0) / 2) (IntKind.u64.wrap ((u64car x6_4 t109 0) * 9223372036854775808))) ≥ x6_4 then (some x6_4) else (fix_root.l0 k4 a0 a1 (Go.bits .or .u64 ((u64add x6_4 t109 0) / 2) (IntKind.u64.wrap ((u64car x6_4 t109 0) * 9223372036854775808))))) else (none)) = some r := H
                      have A16 := Aside0.mk A160
                      clear A160
                      by_cases c17 : c01 0 = true
                      · rw [if_pos c17] at H
                        have c17b0 := eq_true c17
                        have c17b1 : decide (c01 0 = true) = true := decide_eq_true c17
                        clear c17
                        by_cases c18 : (Go.bits .or .u64 ((u64add x6_4 t109 0) / 2) (IntKind.u64.wrap ((u64car x6_4 t109 0) * 9223372036854775808))) ≥ x6_4
                        · rw [if_pos c18] at H
                          have c18b0 : decide (x6_4 ≤ (Go.bits .or .u64 ((u64add x6_4 t109 0) / 2) (IntKind.u64.wrap ((u64car x6_4 t109 0) * 9223372036854775808)))) = true := decide_eq_true c18
                          clear c18
                          obtain rfl := Option.some.inj H
                          go_wp2_with (first | ((with_reducible refine gate_callee (f := 100) rfl ?_); refine goesL_ (some 39) rfl rfl Try.func100 (by kernel_rfl) rfl #[.int .u64 a0, .int .u64 a1, .int .u64 x6_4] rfl (by (try simp only [List.map_toArray, List.map_cons, List.map_nil]); first | done | rfl | (simp only [List.length_drop, List.length_take]; rfl)) ?_; (with_reducible refine (bits_Div64.calls k4 a0 a1 x6_4 t109 t110 _ A16.out).mono ?_); rintro e w' ⟨rfl, ⟨nd, rfl⟩⟩; refine ⟨_, rfl, ?_⟩))
                          go_ret
                          exact ⟨by first | rfl | (simp; done) | (simp [*]; done), by repeat (first | exact Drawn0.refl _ | apply Drawn0.step)⟩
                        · rw [if_neg c18] at H
                          have c18b0 : decide (x6_4 ≤ (Go.bits .or .u64 ((u64add x6_4 t109 0) / 2) (IntKind.u64.wrap ((u64car x6_4 t109 0) * 9223372036854775808)))) = false := decide_eq_false c18
                          clear c18
                          have H' := Aside0.mk H
                          clear H
                          go_wp2_with (first | ((with_reducible refine gate_callee (f := 100) rfl ?_); refine goesL_ (some 39) rfl rfl Try.func100 (by kernel_rfl) rfl #[.int .u64 a0, .int .u64 a1, .int .u64 x6_4] rfl (by (try simp only [List.map_toArray, List.map_cons, List.map_nil]); first | done | rfl | (simp only [List.length_drop, List.length_take]; rfl)) ?_; (with_reducible refine (bits_Div64.calls k4 a0 a1 x6_4 t109 t110 _ A16.out).mono ?_); rintro e w' ⟨rfl, ⟨nd, rfl⟩⟩; refine ⟨_, rfl, ?_⟩))
                          go_roundg k4
                          case measure => have := HJ2.out; have := HJ6.out; have := HJ9.out; have := HK4.out; omega
                          case rel => exact ⟨(Go.bits .or .u64 ((u64add x6_4 t109 0) / 2) (IntKind.u64.wrap ((u64car x6_4 t109 0) * 9223372036854775808))), (by first | rfl | (simp; done) | (simp [*]; done)), H', ⟨by have := HJ2.out; have := HJ6.out; have := HJ9.out; have := HK4.out; omega⟩, by repeat (first | exact Drawn0.refl _ | apply Drawn0.step)⟩
                      · rw [if_neg c17] at H
                        exact absurd H (by simp)

/-! ### fix_Hyp: function 77 -/
def fix_Hyp.f (k : Nat) (a0 : Int) (a1 : Int) : Option (Int × Int) := (fix_size.f a0).bind fun t111 => ((fix_size.f a0).bind fun t112 => ((bits_Mul64.f t111 t112).bind fun bt113 => ((fix_size.f a1).bind fun t115 => ((fix_size.f a1).bind fun t116 => ((bits_Mul64.f t115 t116).bind fun bt117 => (if c01 0 = true then ((fix_root.f k (IntKind.u64.wrap ((IntKind.u64.wrap (bt113.1 + bt117.1)) + (u64car bt113.2 bt117.2 0))) (u64add bt113.2 bt117.2 0)).bind fun t119 => ((fix_number.f k false 0 t119).bind fun bt120 => (some (bt120.1, bt120.2)))) else (none)))))))
theorem fix_Hyp.mono : ∀ a0 a1 k, LeO (fix_Hyp.f k a0 a1) (fix_Hyp.f (k + 1) a0 a1) := by
  intro a0 a1 k
  unfold fix_Hyp.f
  repeat' first
      | (with_reducible exact fix_number.mono _ _ _ _)
      | (with_reducible exact fix_root.mono _ _ _)
      | (with_reducible exact LeO.refl _)
      | (with_reducible exact LeO.none _)
      | (with_reducible refine LeO.ite ?_ ?_)
      | (with_reducible refine LeO.bind ?_ (fun _ => ?_))
      | exact fix_number.mono _ _ _ _
      | exact fix_root.mono _ _ _
      | exact LeO.none _
      | refine LeO.ite ?_ ?_
      | refine LeO.bind ?_ (fun _ => ?_)
set_option maxHeartbeats 8000000 in
set_option maxRecDepth 100000 in
theorem fix_Hyp.calls (k : Nat) (a0 : Int) (a1 : Int) (r1 : Int) (r2 : Int) (w : World) (h : fix_Hyp.f k a0 a1 = some (r1, r2)) :
    Calls Try.prog 77 #[.int .i64 a0, .int .i64 a1] w fun e w' => e = .returned (.tuple #[.int .i64 r1, .int .i64 r2]) ∧ Drawn0 w w' := by
  have hx93 := @ext93
  have H : ((fix_size.f a0).bind fun t111 => ((fix_size.f a0).bind fun t112 => ((bits_Mul64.f t111 t112).bind fun bt113 => ((fix_size.f a1).bind fun t115 => ((fix_size.f a1).bind fun t116 => ((bits_Mul64.f t115 t116).bind fun bt117 => (if c01 0 = true then ((fix_root.f k (IntKind.u64.wrap ((IntKind.u64.wrap (bt113.1 + bt117.1)) + (u64car bt113.2 bt117.2 0))) (u64add bt113.2 bt117.2 0)).bind fun t119 => ((fix_number.f k false 0 t119).bind fun bt120 => (some (bt120.1, bt120.2)))) else (none)))))))) = some (r1, r2) := h
  clear h
  replace H := Option.bind_eq_some_iff.mp H
  obtain ⟨t111, A30, H⟩ := H
  replace H : ((fix_size.f a0).bind fun t112 => ((bits_Mul64.f t111 t112).bind fun bt113 => ((fix_size.f a1).bind fun t115 => ((fix_size.f a1).bind fun t116 => ((bits_Mul64.f t115 t116).bind fun bt117 => (if c01 0 = true then ((fix_root.f k (IntKind.u64.wrap ((IntKind.u64.wrap (bt113.1 + bt117.1)) + (u64car bt113.2 bt117.2 0))) (u64add bt113.2 bt117.2 0)).bind fun t119 => ((fix_number.f k false 0 t119).bind fun bt120 => (some (bt120.1, bt120.2)))) else (none))))))) = some (r1, r2) := H
  have A3 := Aside0.mk A30
  clear A30
  replace H := Option.bind_eq_some_iff.mp H
  obtain ⟨t112, A40, H⟩ := H
  replace H : ((bits_Mul64.f t111 t112).bind fun bt113 => ((fix_size.f a1).bind fun t115 => ((fix_size.f a1).bind fun t116 => ((bits_Mul64.f t115 t116).bind fun bt117 => (if c01 0 = true then ((fix_root.f k (IntKind.u64.wrap ((IntKind.u64.wrap (bt113.1 + bt117.1)) + (u64car bt113.2 bt117.2 0))) (u64add bt113.2 bt117.2 0)).bind fun t119 => ((fix_number.f k false 0 t119).bind fun bt120 => (some (bt120.1, bt120.2)))) else (none)))))) = some (r1, r2) := H
  have A4 := Aside0.mk A40
  clear A40
  replace H := Option.bind_eq_some_iff.mp H
  obtain ⟨⟨t113, t114⟩, A50, H⟩ := H
  replace H : ((fix_size.f a1).bind fun t115 => ((fix_size.f a1).bind fun t116 => ((bits_Mul64.f t115 t116).bind fun bt117 => (if c01 0 = true then ((fix_root.f k (IntKind.u64.wrap ((IntKind.u64.wrap (t113 + bt117.1)) + (u64car t114 bt117.2 0))) (u64add t114 bt117.2 0)).bind fun t119 => ((fix_number.f k false 0 t119).bind fun bt120 => (some (bt120.1, bt120.2)))) else (none))))) = some (r1, r2) := H
  have A5 := Aside0.mk A50
  clear A50
  replace H := Option.bind_eq_some_iff.mp H
  obtain ⟨t115, A60, H⟩ := H
  replace H : ((fix_size.f a1).bind fun t116 => ((bits_Mul64.f t115 t116).bind fun bt117 => (if c01 0 = true then ((fix_root.f k (IntKind.u64.wrap ((IntKind.u64.wrap (t113 + bt117.1)) + (u64car t114 bt117.2 0))) (u64add t114 bt117.2 0)).bind fun t119 => ((fix_number.f k false 0 t119).bind fun bt120 => (some (bt120.1, bt120.2)))) else (none)))) = some (r1, r2) := H
  have A6 := Aside0.mk A60
  clear A60
  replace H := Option.bind_eq_some_iff.mp H
  obtain ⟨t116, A70, H⟩ := H
  replace H : ((bits_Mul64.f t115 t116).bind fun bt117 => (if c01 0 = true then ((fix_root.f k (IntKind.u64.wrap ((IntKind.u64.wrap (t113 + bt117.1)) + (u64car t114 bt117.2 0))) (u64add t114 bt117.2 0)).bind fun t119 => ((fix_number.f k false 0 t119).bind fun bt120 => (some (bt120.1, bt120.2)))) else (none))) = some (r1, r2) := H
  have A7 := Aside0.mk A70
  clear A70
  replace H := Option.bind_eq_some_iff.mp H
  obtain ⟨⟨t117, t118⟩, A80, H⟩ := H
  replace H : (if c01 0 = true then ((fix_root.f k (IntKind.u64.wrap ((IntKind.u64.wrap (t113 + t117)) + (u64car t114 t118 0))) (u64add t114 t118 0)).bind fun t119 => ((fix_number.f k false 0 t119).bind fun bt120 => (some (bt120.1, bt120.2)))) else (none)) = some (r1, r2) := H
  have A8 := Aside0.mk A80
  clear A80
  by_cases c9 : c01 0 = true
  · rw [if_pos c9] at H
    have c9b0 := eq_true c9
    have c9b1 : decide (c01 0 = true) = true := decide_eq_true c9
    clear c9
    replace H := Option.bind_eq_some_iff.mp H
    obtain ⟨t119, A100, H⟩ := H
    replace H : ((fix_number.f k false 0 t119).bind fun bt120 => (some (bt120.1, bt120.2))) = some (r1, r2) := H
    have A10 := Aside0.mk A100
    clear A100
    replace H := Option.bind_eq_some_iff.mp H
    obtain ⟨⟨t120, t121⟩, A110, H⟩ := H
    replace H : (some (t120, t121)) = some (r1, r2) := H
    have A11 := Aside0.mk A110
    clear A110
    simp only [Option.some.injEq, Prod.mk.injEq] at H
    obtain ⟨rfl, rfl⟩ := H
    go_enter Try.func77, Try.ntmps77
    go_wp2_with (first | ((with_reducible refine gate_callee (f := 92) rfl ?_); refine goesL_ (some 14) rfl rfl Try.func92 (by kernel_rfl) rfl #[.int .i64 a0] rfl (by (try simp only [List.map_toArray, List.map_cons, List.map_nil]); first | done | rfl | (simp only [List.length_drop, List.length_take]; rfl)) ?_; (with_reducible refine (fix_size.calls a0 t111 _ A3.out).mono ?_); rintro e w' ⟨rfl, ⟨nd, rfl⟩⟩; refine ⟨_, rfl, ?_⟩) | ((with_reducible refine gate_callee (f := 92) rfl ?_); refine goesL_ (some 16) rfl rfl Try.func92 (by kernel_rfl) rfl #[.int .i64 a0] rfl (by (try simp only [List.map_toArray, List.map_cons, List.map_nil]); first | done | rfl | (simp only [List.length_drop, List.length_take]; rfl)) ?_; (with_reducible refine (fix_size.calls a0 t112 _ A4.out).mono ?_); rintro e w' ⟨rfl, ⟨nd, rfl⟩⟩; refine ⟨_, rfl, ?_⟩) | ((with_reducible refine gate_callee (f := 91) rfl ?_); refine goesL_ (some 17) rfl rfl Try.func91 (by kernel_rfl) rfl #[.int .u64 t111, .int .u64 t112] rfl (by (try simp only [List.map_toArray, List.map_cons, List.map_nil]); first | done | rfl | (simp only [List.length_drop, List.length_take]; rfl)) ?_; (with_reducible refine (bits_Mul64.calls t111 t112 t113 t114 _ A5.out).mono ?_); rintro e w' ⟨rfl, ⟨nd, rfl⟩⟩; refine ⟨_, rfl, ?_⟩) | ((with_reducible refine gate_callee (f := 92) rfl ?_); refine goesL_ (some 22) rfl rfl Try.func92 (by kernel_rfl) rfl #[.int .i64 a1] rfl (by (try simp only [List.map_toArray, List.map_cons, List.map_nil]); first | done | rfl | (simp only [List.length_drop, List.length_take]; rfl)) ?_; (with_reducible refine (fix_size.calls a1 t115 _ A6.out).mono ?_); rintro e w' ⟨rfl, ⟨nd, rfl⟩⟩; refine ⟨_, rfl, ?_⟩) | ((with_reducible refine gate_callee (f := 92) rfl ?_); refine goesL_ (some 24) rfl rfl Try.func92 (by kernel_rfl) rfl #[.int .i64 a1] rfl (by (try simp only [List.map_toArray, List.map_cons, List.map_nil]); first | done | rfl | (simp only [List.length_drop, List.length_take]; rfl)) ?_; (with_reducible refine (fix_size.calls a1 t116 _ A7.out).mono ?_); rintro e w' ⟨rfl, ⟨nd, rfl⟩⟩; refine ⟨_, rfl, ?_⟩) | ((with_reducible refine gate_callee (f := 91) rfl ?_); refine goesL_ (some 25) rfl rfl Try.func91 (by kernel_rfl) rfl #[.int .u64 t115, .int .u64 t116] rfl (by (try simp only [List.map_toArray, List.map_cons, List.map_nil]); first | done | rfl | (simp only [List.length_drop, List.length_take]; rfl)) ?_; (with_reducible refine (bits_Mul64.calls t115 t116 t117 t118 _ A8.out).mono ?_); rintro e w' ⟨rfl, ⟨nd, rfl⟩⟩; refine ⟨_, rfl, ?_⟩) | ((with_reducible refine gate_callee (f := 95) rfl ?_); refine goesL_ (some 40) rfl rfl Try.func95 (by kernel_rfl) rfl #[.int .u64 (IntKind.u64.wrap ((IntKind.u64.wrap (t113 + t117)) + (u64car t114 t118 0))), .int .u64 (u64add t114 t118 0)] rfl (by (try simp only [List.map_toArray, List.map_cons, List.map_nil]); first | done | rfl | (simp only [List.length_drop, List.length_take]; rfl)) ?_; (with_reducible refine (fix_root.calls k (IntKind.u64.wrap ((IntKind.u64.wrap (t113 + t117)) + (u64car t114 t118 0))) (u64add t114 t118 0) t119 _ A10.out).mono ?_); rintro e w' ⟨rfl, ⟨nd, rfl⟩⟩; refine ⟨_, rfl, ?_⟩) | ((with_reducible refine gate_callee (f := 94) rfl ?_); refine goesL_ (some 41) rfl rfl Try.func94 (by kernel_rfl) rfl #[.bool false, .int .u64 0, .int .u64 t119] rfl (by (try simp only [List.map_toArray, List.map_cons, List.map_nil]); first | done | rfl | (simp only [List.length_drop, List.length_take]; rfl)) ?_; (with_reducible refine (fix_number.calls k false 0 t119 t120 t121 _ A11.out).mono ?_); rintro e w' ⟨rfl, ⟨nd, rfl⟩⟩; refine ⟨_, rfl, ?_⟩))
    go_ret2
    exact ⟨by first | rfl | (simp; done) | (simp [*]; done), by repeat (first | exact Drawn0.refl _ | apply Drawn0.step)⟩
  · rw [if_neg c9] at H
    exact absurd H (by simp)

/-! ### demand_Power: function 47 -/
def demand_Power.j0 : Nat → Cx → Int → Bool → Option (Int × Int)
  | 0, _, _, _ => none
  | k + 1, x0, x1, x12 => if x12 = true then (some (0, 5)) else (if flt x0.re 0 = true then (some (0, 0)) else (if f2iok x0.re = true then (if f2iok x0.im = true then ((fix_Hyp.f k (f2i x0.re) (f2i x0.im)).bind fun bt125 => (if x1 = 0 then (none) else (some (wrap64 (bt125.1 * (wrap64 (Int.tdiv (60 : Int) x1))), bt125.2)))) else (none)) else (none)))
def demand_Power.f (k : Nat) (a0 : Cx) (a1 : Int) : Option (Int × Int) := (demand_length.f a1).bind fun t122 => (if t122 = true then ((demand_whole.f a0.re).bind fun t123 => (if t123 = true then ((demand_whole.f a0.im).bind fun t124 => (demand_Power.j0 k a0 a1 (!t124))) else (demand_Power.j0 k a0 a1 true))) else (some (0, 8)))
theorem demand_Power.mono_l : ∀ k, (∀ y0 y1 y2, LeO (demand_Power.j0 k y0 y1 y2) (demand_Power.j0 (k + 1) y0 y1 y2))
  | 0 => fun _ _ _ r h => by simp [demand_Power.j0] at h
  | k + 1 => by
    have ih0 := demand_Power.mono_l k
    · intro y0 y1 y2
      unfold demand_Power.j0
      repeat' first
      | (with_reducible exact ih0 _ _ _)
      | (with_reducible exact fix_Hyp.mono _ _ _)
      | (with_reducible exact LeO.refl _)
      | (with_reducible exact LeO.none _)
      | (with_reducible refine LeO.ite ?_ ?_)
      | (with_reducible refine LeO.bind ?_ (fun _ => ?_))
      | exact ih0 _ _ _
      | exact fix_Hyp.mono _ _ _
      | exact LeO.none _
      | refine LeO.ite ?_ ?_
      | refine LeO.bind ?_ (fun _ => ?_)
theorem demand_Power.mono : ∀ a0 a1 k, LeO (demand_Power.f k a0 a1) (demand_Power.f (k + 1) a0 a1) := by
  intro a0 a1 k
  have ih0 := demand_Power.mono_l k
  unfold demand_Power.f
  repeat' first
      | (with_reducible exact ih0 _ _ _)
      | (with_reducible exact fix_Hyp.mono _ _ _)
      | (with_reducible exact LeO.refl _)
      | (with_reducible exact LeO.none _)
      | (with_reducible refine LeO.ite ?_ ?_)
      | (with_reducible refine LeO.bind ?_ (fun _ => ?_))
      | exact ih0 _ _ _
      | exact fix_Hyp.mono _ _ _
      | exact LeO.none _
      | refine LeO.ite ?_ ?_
      | refine LeO.bind ?_ (fun _ => ?_)
set_option maxHeartbeats 8000000 in
set_option maxRecDepth 100000 in
theorem demand_Power.calls (k : Nat) (a0 : Cx) (a1 : Int) (r1 : Int) (r2 : Int) (w : World) (h : demand_Power.f k a0 a1 = some (r1, r2)) :
    Calls Try.prog 47 #[.complex .f64 a0.re a0.im, .int .i64 a1] w fun e w' => e = .returned (.tuple #[.int .i64 r1, .int .i64 r2]) ∧ Below w.heap.size w w' := by
  have HB := Aside0.mk (Below.refl w.heap.size w)
  have H : ((demand_length.f a1).bind fun t122 => (if t122 = true then ((demand_whole.f a0.re).bind fun t123 => (if t123 = true then ((demand_whole.f a0.im).bind fun t124 => (demand_Power.j0 k a0 a1 (!t124))) else (demand_Power.j0 k a0 a1 true))) else (some (0, 8)))) = some (r1, r2) := h
  clear h
  replace H := Option.bind_eq_some_iff.mp H
  obtain ⟨t122, A30, H⟩ := H
  replace H : (if t122 = true then ((demand_whole.f a0.re).bind fun t123 => (if t123 = true then ((demand_whole.f a0.im).bind fun t124 => (demand_Power.j0 k a0 a1 (!t124))) else (demand_Power.j0 k a0 a1 true))) else (some (0, 8))) = some (r1, r2) := H
  have A3 := Aside0.mk A30
  clear A30
  by_cases c4 : t122 = true
  · subst c4
    have H1 : ((demand_whole.f a0.re).bind fun t123 => (if t123 = true then ((demand_whole.f a0.im).bind fun t124 => (demand_Power.j0 k a0 a1 (!t124))) else (demand_Power.j0 k a0 a1 true))) = some (r1, r2) := by rw [if_pos rfl] at H; exact H
    clear H
    have H := H1
    clear H1
    have HC5 := Aside0.mk H
    clear H
    go_enter Try.func47, Try.ntmps47
    go_upto_region 3 with (first | ((with_reducible refine gate_callee (f := 75) rfl ?_); refine goesL_ (some 10) rfl rfl Try.func75 (by kernel_rfl) rfl #[.int .i64 a1] rfl (by (try simp only [List.map_toArray, List.map_cons, List.map_nil]); first | done | rfl | (simp only [List.length_drop, List.length_take]; rfl)) ?_; (with_reducible refine (demand_length.calls a1 true _ A3.out).mono ?_); rintro e w' ⟨rfl, ⟨nd, rfl⟩⟩; refine ⟨_, rfl, ?_⟩))
    (try simp only [Act.put, List.setIfInBounds_toArray, List.set_cons_zero, List.set_cons_succ])
    go_cut [12] (fun v12 wc => ∃ (kq : Nat) (x12_4 : Bool), v12 = .bool x12_4 ∧ Aside0 (demand_Power.j0 kq a0 a1 x12_4 = some (r1, r2)) ∧ Aside0 (kq ≤ k) ∧ Aside0 (Below w.heap.size w wc))
    case first =>
      have H := HC5.out
      clear HC5
      replace H := Option.bind_eq_some_iff.mp H
      obtain ⟨t123, A60, H⟩ := H
      replace H : (if t123 = true then ((demand_whole.f a0.im).bind fun t124 => (demand_Power.j0 k a0 a1 (!t124))) else (demand_Power.j0 k a0 a1 true)) = some (r1, r2) := H
      have A6 := Aside0.mk A60
      clear A60
      by_cases c7 : t123 = true
      · subst c7
        have H1 : ((demand_whole.f a0.im).bind fun t124 => (demand_Power.j0 k a0 a1 (!t124))) = some (r1, r2) := by rw [if_pos rfl] at H; exact H
        clear H
        have H := H1
        clear H1
        replace H := Option.bind_eq_some_iff.mp H
        obtain ⟨t124, A80, H⟩ := H
        replace H : (demand_Power.j0 k a0 a1 (!t124)) = some (r1, r2) := H
        have A8 := Aside0.mk A80
        clear A80
        have H' := Aside0.mk H
        clear H
        go_wp2_with (first | ((with_reducible refine gate_callee (f := 76) rfl ?_); refine goesL_ (some 15) rfl rfl Try.func76 (by kernel_rfl) rfl #[.float .f64 a0.re] rfl (by (try simp only [List.map_toArray, List.map_cons, List.map_nil]); first | done | rfl | (simp only [List.length_drop, List.length_take]; rfl)) ?_; (with_reducible refine (demand_whole.calls a0.re true _ A6.out).mono ?_); rintro e w' ⟨rfl, ⟨nd, rfl⟩⟩; refine ⟨_, rfl, ?_⟩) | (go_at_call 76; (with_reducible refine (demand_whole.calls a0.im t124 _ A8.out).mono ?_); rintro e w' ⟨rfl, ⟨nd, rfl⟩⟩))
        go_meet
        case rel => exact ⟨_, (!t124), (by first | rfl | (simp; done) | (simp [*]; done)), H', ⟨by first | omega | exact Nat.le_refl _⟩, ⟨by repeat (first | (with_reducible first | exact HB.out | apply below_alloc | apply pw_below_drewN | apply below_drew1) | exact HB.out)⟩⟩
      · replace c7 := Bool.eq_false_iff.mpr c7
        subst c7
        have H1 : (demand_Power.j0 k a0 a1 true) = some (r1, r2) := by rw [if_neg (show ¬ (false = true) by decide)] at H; exact H
        clear H
        have H := H1
        clear H1
        have H' := Aside0.mk H
        clear H
        go_wp2_with (first | ((with_reducible refine gate_callee (f := 76) rfl ?_); refine goesL_ (some 15) rfl rfl Try.func76 (by kernel_rfl) rfl #[.float .f64 a0.re] rfl (by (try simp only [List.map_toArray, List.map_cons, List.map_nil]); first | done | rfl | (simp only [List.length_drop, List.length_take]; rfl)) ?_; (with_reducible refine (demand_whole.calls a0.re false _ A6.out).mono ?_); rintro e w' ⟨rfl, ⟨nd, rfl⟩⟩; refine ⟨_, rfl, ?_⟩))
        go_meet
        case rel => exact ⟨_, (true), (by first | rfl | (simp; done) | (simp [*]; done)), H', ⟨by first | omega | exact Nat.le_refl _⟩, ⟨by repeat (first | (with_reducible first | exact HB.out | apply below_alloc | apply pw_below_drewN | apply below_drew1) | exact HB.out)⟩⟩
    case rest =>
      clear HC5
      try clear p2
      try clear c4
      try clear c7
      obtain ⟨kq, x12_4, rfl, HA, HJ4, HB⟩ := hcut
      cases kq with
      | zero => exact absurd HA.out (by simp [demand_Power.j0])
      | succ kj4 =>
        have H := HA.out
        clear HA
        simp only [demand_Power.j0] at H
        by_cases c9 : x12_4 = true
        · subst c9
          have H1 : (some (0, 5)) = some (r1, r2) := by rw [if_pos rfl] at H; exact H
          clear H
          have H := H1
          clear H1
          simp only [Option.some.injEq, Prod.mk.injEq] at H
          obtain ⟨rfl, rfl⟩ := H
          go_wp2
          go_ret2
          exact ⟨by first | rfl | (simp [errW_none, errW_some] <;> rfl) | (simp [*, errW_none, errW_some] <;> rfl), by repeat (first | (with_reducible first | exact HB.out | apply below_alloc | apply pw_below_drewN | apply below_drew1) | exact HB.out)⟩
        · replace c9 := Bool.eq_false_iff.mpr c9
          subst c9
          have H1 : (if flt a0.re 0 = true then (some (0, 0)) else (if f2iok a0.re = true then (if f2iok a0.im = true then ((fix_Hyp.f kj4 (f2i a0.re) (f2i a0.im)).bind fun bt125 => (if a1 = 0 then (none) else (some (wrap64 (bt125.1 * (wrap64 (Int.tdiv (60 : Int) a1))), bt125.2)))) else (none)) else (none))) = some (r1, r2) := by rw [if_neg (show ¬ (false = true) by decide)] at H; exact H
          clear H
          have H := H1
          clear H1
          by_cases c10 : flt a0.re 0 = true
          · rw [if_pos c10] at H
            have c10b0 : flt a0.re 0 = true := c10
            clear c10
            simp only [Option.some.injEq, Prod.mk.injEq] at H
            obtain ⟨rfl, rfl⟩ := H
            go_wp2
            go_ret2
            exact ⟨by first | rfl | (simp [errW_none, errW_some] <;> rfl) | (simp [*, errW_none, errW_some] <;> rfl), by repeat (first | (with_reducible first | exact HB.out | apply below_alloc | apply pw_below_drewN | apply below_drew1) | exact HB.out)⟩
          · rw [if_neg c10] at H
            have c10b0 : flt a0.re 0 = false := Bool.eq_false_iff.mpr c10
            clear c10
            by_cases c11 : f2iok a0.re = true
            · rw [if_pos c11] at H
              have c11b0 := eq_true c11
              have c11b1 : decide (f2iok a0.re = true) = true := decide_eq_true c11
              clear c11
              by_cases c12 : f2iok a0.im = true
              · rw [if_pos c12] at H
                have c12b0 := eq_true c12
                have c12b1 : decide (f2iok a0.im = true) = true := decide_eq_true c12
                clear c12
                replace H := Option.bind_eq_some_iff.mp H
                obtain ⟨⟨t125, t126⟩, A130, H⟩ := H
                replace H : (if a1 = 0 then (none) else (some (wrap64 (t125 * (wrap64 (Int.tdiv (60 : Int) a1))), t126))) = some (r1, r2) := H
                have A13 := Aside0.mk A130
                clear A130
                by_cases c14 : a1 = 0
                · rw [if_pos c14] at H
                  exact absurd H (by simp)
                · rw [if_neg c14] at H
                  have c14b0 : (a1 == 0) = false := beq_eq_false_iff_ne.mpr c14
                  have c14b1 : (a1 != 0) = true := bne_iff_ne.mpr c14
                  simp only [Option.some.injEq, Prod.mk.injEq] at H
                  obtain ⟨rfl, rfl⟩ := H
                  go_wp2_with (first | ((with_reducible refine gate_callee (f := 77) rfl ?_); refine goesL_ (some 34) rfl rfl Try.func77 (by kernel_rfl) rfl #[.int .i64 (f2i a0.re), .int .i64 (f2i a0.im)] rfl (by (try simp only [List.map_toArray, List.map_cons, List.map_nil]); first | done | rfl | (simp only [List.length_drop, List.length_take]; rfl)) ?_; (with_reducible refine (fix_Hyp.calls kj4 (f2i a0.re) (f2i a0.im) t125 t126 _ A13.out).mono ?_); rintro e w' ⟨rfl, ⟨nd, rfl⟩⟩; refine ⟨_, rfl, ?_⟩))
                  go_ret2
                  exact ⟨by first | rfl | (simp [errW_none, errW_some] <;> rfl) | (simp [*, errW_none, errW_some] <;> rfl), by repeat (first | (with_reducible first | exact HB.out | apply below_alloc | apply pw_below_drewN | apply below_drew1) | exact HB.out)⟩
              · rw [if_neg c12] at H
                exact absurd H (by simp)
            · rw [if_neg c11] at H
              exact absurd H (by simp)
  · replace c4 := Bool.eq_false_iff.mpr c4
    subst c4
    have H1 : (some (0, 8)) = some (r1, r2) := by rw [if_neg (show ¬ (false = true) by decide)] at H; exact H
    clear H
    have H := H1
    clear H1
    simp only [Option.some.injEq, Prod.mk.injEq] at H
    obtain ⟨rfl, rfl⟩ := H
    go_enter Try.func47, Try.ntmps47
    go_wp2_with (first | ((with_reducible refine gate_callee (f := 75) rfl ?_); refine goesL_ (some 10) rfl rfl Try.func75 (by kernel_rfl) rfl #[.int .i64 a1] rfl (by (try simp only [List.map_toArray, List.map_cons, List.map_nil]); first | done | rfl | (simp only [List.length_drop, List.length_take]; rfl)) ?_; (with_reducible refine (demand_length.calls a1 false _ A3.out).mono ?_); rintro e w' ⟨rfl, ⟨nd, rfl⟩⟩; refine ⟨_, rfl, ?_⟩))
    go_ret2
    exact ⟨by first | rfl | (simp [errW_none, errW_some] <;> rfl) | (simp [*, errW_none, errW_some] <;> rfl), by repeat (first | (with_reducible first | exact HB.out | apply below_alloc | apply pw_below_drewN | apply below_drew1) | exact HB.out)⟩

/-! ### pylonlaw16_awake: function 44 -/
def pylonlaw16_awake.f (k : Nat)  : Option (Bool) := (demand_Power.f k (cx 4613937818241073152 4616189618054758400) 15).bind fun bt127 => (if bt127.1 = 20 then (some (bt127.2 == 0)) else (some false))
theorem pylonlaw16_awake.mono : ∀ k, LeO (pylonlaw16_awake.f k ) (pylonlaw16_awake.f (k + 1) ) := by
  intro  k
  unfold pylonlaw16_awake.f
  repeat' first
      | (with_reducible exact demand_Power.mono _ _ _)
      | (with_reducible exact LeO.refl _)
      | (with_reducible exact LeO.none _)
      | (with_reducible refine LeO.ite ?_ ?_)
      | (with_reducible refine LeO.bind ?_ (fun _ => ?_))
      | exact demand_Power.mono _ _ _
      | exact LeO.none _
      | refine LeO.ite ?_ ?_
      | refine LeO.bind ?_ (fun _ => ?_)
set_option maxHeartbeats 8000000 in
set_option maxRecDepth 100000 in
theorem pylonlaw16_awake.calls (k : Nat)  (r : Bool) (w : World) (h : pylonlaw16_awake.f k  = some r) :
    Calls Try.prog 44 #[] w fun e w' => e = .returned (.bool r) ∧ Below w.heap.size w w' := by
  have HB := Aside0.mk (Below.refl w.heap.size w)
  have H : ((demand_Power.f k (cx 4613937818241073152 4616189618054758400) 15).bind fun bt127 => (if bt127.1 = 20 then (some (bt127.2 == 0)) else (some false))) = some r := h
  clear h
  replace H := Option.bind_eq_some_iff.mp H
  obtain ⟨⟨t127, t128⟩, A10, H⟩ := H
  replace H : (if t127 = 20 then (some (t128 == 0)) else (some false)) = some r := H
  have A1 := Aside0.mk A10
  clear A10
  by_cases c2 : t127 = 20
  · rw [if_pos c2] at H
    have c2b0 : (t127 == 20) = true := beq_iff_eq.mpr c2
    have c2b1 : (t127 != 20) = false := bne_eq_false_iff_eq.mpr c2
    clear c2
    obtain rfl := Option.some.inj H
    go_enter Try.func44, Try.ntmps44
    go_wp2_with (first | ((with_reducible refine gate_callee (f := 47) rfl ?_); refine goesL_ (some 4) rfl rfl Try.func47 (by kernel_rfl) rfl #[.complex .f64 4613937818241073152 4616189618054758400, .int .i64 15] rfl (by (try simp only [List.map_toArray, List.map_cons, List.map_nil]); first | done | rfl | (simp only [List.length_drop, List.length_take]; rfl)) ?_; (with_reducible refine (demand_Power.calls k (cx 4613937818241073152 4616189618054758400) 15 t127 t128 _ A1.out).mono ?_); rintro e w3 ⟨rfl, hb⟩; refine ⟨_, rfl, ?_⟩; have n0_ := Aside0.mk (below_step (by repeat (first | (with_reducible first | exact HB.out | apply below_alloc | apply pw_below_drewN | apply below_drew1) | exact HB.out)) hb); clear HB; have HB := n0_; clear n0_; (try clear hb); (try clear hb2); (try clear hk); (try clear hi)))
    go_ret
    exact ⟨by first | rfl | (simp [errW_none, errW_some] <;> rfl) | (simp [*, errW_none, errW_some] <;> rfl), by repeat (first | (with_reducible first | exact HB.out | apply below_alloc | apply pw_below_drewN | apply below_drew1) | exact HB.out)⟩
  · rw [if_neg c2] at H
    have c2b0 : (t127 == 20) = false := beq_eq_false_iff_ne.mpr c2
    have c2b1 : (t127 != 20) = true := bne_iff_ne.mpr c2
    obtain rfl := Option.some.inj H
    go_enter Try.func44, Try.ntmps44
    go_wp2_with (first | ((with_reducible refine gate_callee (f := 47) rfl ?_); refine goesL_ (some 4) rfl rfl Try.func47 (by kernel_rfl) rfl #[.complex .f64 4613937818241073152 4616189618054758400, .int .i64 15] rfl (by (try simp only [List.map_toArray, List.map_cons, List.map_nil]); first | done | rfl | (simp only [List.length_drop, List.length_take]; rfl)) ?_; (with_reducible refine (demand_Power.calls k (cx 4613937818241073152 4616189618054758400) 15 t127 t128 _ A1.out).mono ?_); rintro e w4 ⟨rfl, hb⟩; refine ⟨_, rfl, ?_⟩; have n0_ := Aside0.mk (below_step (by repeat (first | (with_reducible first | exact HB.out | apply below_alloc | apply pw_below_drewN | apply below_drew1) | exact HB.out)) hb); clear HB; have HB := n0_; clear n0_; (try clear hb); (try clear hb2); (try clear hk); (try clear hi)))
    go_ret
    exact ⟨by first | rfl | (simp [errW_none, errW_some] <;> rfl) | (simp [*, errW_none, errW_some] <;> rfl), by repeat (first | (with_reducible first | exact HB.out | apply below_alloc | apply pw_below_drewN | apply below_drew1) | exact HB.out)⟩

/-! ### pylonref16_length: function 72 -/
def pylonref16_length.f (a0 : Int) : Option (Bool) := if a0 = 15 then (some true) else (if a0 = 30 then (some true) else (some (a0 == 60)))
set_option maxHeartbeats 8000000 in
set_option maxRecDepth 100000 in
theorem pylonref16_length.calls (a0 : Int) (r : Bool) (w : World) (h : pylonref16_length.f a0 = some r) :
    Calls Try.prog 72 #[.int .i64 a0] w fun e w' => e = .returned (.bool r) ∧ Drawn0 w w' := by
  have H : (if a0 = 15 then (some true) else (if a0 = 30 then (some true) else (some (a0 == 60)))) = some r := h
  clear h
  by_cases c2 : a0 = 15
  · rw [if_pos c2] at H
    have c2b0 : (a0 == 15) = true := beq_iff_eq.mpr c2
    have c2b1 : (a0 != 15) = false := bne_eq_false_iff_eq.mpr c2
    clear c2
    obtain rfl := Option.some.inj H
    go_enter Try.func72, Try.ntmps72
    go_wp2
    go_ret
    exact ⟨by first | rfl | (simp; done) | (simp [*]; done), by repeat (first | exact Drawn0.refl _ | apply Drawn0.step)⟩
  · rw [if_neg c2] at H
    have c2b0 : (a0 == 15) = false := beq_eq_false_iff_ne.mpr c2
    have c2b1 : (a0 != 15) = true := bne_iff_ne.mpr c2
    by_cases c3 : a0 = 30
    · rw [if_pos c3] at H
      have c3b0 : (a0 == 30) = true := beq_iff_eq.mpr c3
      have c3b1 : (a0 != 30) = false := bne_eq_false_iff_eq.mpr c3
      clear c3
      obtain rfl := Option.some.inj H
      go_enter Try.func72, Try.ntmps72
      go_wp2
      go_ret
      exact ⟨by first | rfl | (simp; done) | (simp [*]; done), by repeat (first | exact Drawn0.refl _ | apply Drawn0.step)⟩
    · rw [if_neg c3] at H
      have c3b0 : (a0 == 30) = false := beq_eq_false_iff_ne.mpr c3
      have c3b1 : (a0 != 30) = true := bne_iff_ne.mpr c3
      obtain rfl := Option.some.inj H
      go_enter Try.func72, Try.ntmps72
      go_wp2
      go_ret
      exact ⟨by first | rfl | (simp; done) | (simp [*]; done), by repeat (first | exact Drawn0.refl _ | apply Drawn0.step)⟩

end Go.Proofs.Ytapimggcnneabaa.PDK
