-- Written by a program of this session for this claim (wip/print2.sh). Lean checks it.
import Derived.Test.YtapimggcnneabaaPHx0
import Derived.Test.YtapimggcnneabaaPHx1
import Derived.Test.YtapimggcnneabaaPHx4
import Derived.Test.YtapimggcnneabaaPHx5
namespace Go.Proofs.Ytapimggcnneabaa.PH
open Go.Proofs.YtapimggcnneabaaW.PrintWords
attribute [local go_sem high] fx_eql fx_neq fx_lss fx_leq fx_gtr fx_geq fx_add fx_sub fx_mul fx_neg fx_toint cxx_add cxx_sub cxx_mul cxx_eql cxx_neq cxx_pick st_float st_complex
open Go.RowKit Go.Proofs.YtapimggcnneabaaW.PrintWords Go.Proofs.YtapimggcnneabaaW.PrintLast Go.Proofs.YtapimggcnneabaaW.PrintMore
attribute [local go_sem] max2_int min2_int max_two min_two max_three min_three max_four min_four   -- for this text's walks alone
set_option linter.unusedVariables false
set_option linter.unusedSimpArgs false

/-! ### fix_root: function 95 -/
mutual
def fix_root.j0 : Nat → Int → Int → Bool → Option (Int)
  | 0, _, _, _ => none
  | k + 1, x0, x1, x17 => if x17 = true then (some 0) else ((bits_Len64.f k x1).bind fun t191 => (if x0 = 0 then (fix_root.j1 k x0 x1 t191) else ((bits_Len64.f k x0).bind fun t192 => (fix_root.j1 k x0 x1 (wrap64 (64 + t192))))))
def fix_root.j1 : Nat → Int → Int → Int → Option (Int)
  | 0, _, _, _ => none
  | k + 1, x0, x1, x5 => if x5 < 127 then (if 0 ≤ (wrap64 (Int.tdiv (wrap64 (x5 + 1)) 2)) then (fix_root.j2 k x0 x1 (shl .u64 1 (wrap64 (Int.tdiv (wrap64 (x5 + 1)) 2)))) else (none)) else (fix_root.j2 k x0 x1 18446744073709551615)
def fix_root.j2 : Nat → Int → Int → Int → Option (Int)
  | 0, _, _, _ => none
  | k + 1, x0, x1, x6 => fix_root.l0 k x0 x1 x6
def fix_root.l0 : Nat → Int → Int → Int → Option (Int)
  | 0, _, _, _ => none
  | k + 1, x0, x1, x6 => if x0 ≥ x6 then (some x6) else ((bits_Div64.f k x0 x1 x6).bind fun bt193 => (if c01 0 = true then (if (Go.bits .or .u64 ((u64add x6 bt193.1 0) / 2) (IntKind.u64.wrap ((u64car x6 bt193.1 0) * 9223372036854775808))) ≥ x6 then (some x6) else (fix_root.l0 k x0 x1 (Go.bits .or .u64 ((u64add x6 bt193.1 0) / 2) (IntKind.u64.wrap ((u64car x6 bt193.1 0) * 9223372036854775808))))) else (none)))
end
def fix_root.f (k : Nat) (a0 : Int) (a1 : Int) : Option (Int) := if a0 = 0 then (fix_root.j0 k a0 a1 (a1 == 0)) else (fix_root.j0 k a0 a1 false)
theorem fix_root.mono_l : ∀ k, (∀ y0 y1 y2, LeO (fix_root.j0 k y0 y1 y2) (fix_root.j0 (k + 1) y0 y1 y2)) ∧ (∀ y0 y1 y2, LeO (fix_root.j1 k y0 y1 y2) (fix_root.j1 (k + 1) y0 y1 y2)) ∧ (∀ y0 y1 y2, LeO (fix_root.j2 k y0 y1 y2) (fix_root.j2 (k + 1) y0 y1 y2)) ∧ (∀ y0 y1 y2, LeO (fix_root.l0 k y0 y1 y2) (fix_root.l0 (k + 1) y0 y1 y2))
  | 0 => ⟨fun _ _ _ r h => by simp [fix_root.j0] at h, fun _ _ _ r h => by simp [fix_root.j1] at h, fun _ _ _ r h => by simp [fix_root.j2] at h, fun _ _ _ r h => by simp [fix_root.l0] at h⟩
  | k + 1 => by
    obtain ⟨ih0, ih1, ih2, ih3⟩ := fix_root.mono_l k
    refine ⟨?_, ?_, ?_, ?_⟩
    · intro y0 y1 y2
      unfold fix_root.j0
      repeat' first
      | (with_reducible exact ih0 _ _ _)
      | (with_reducible exact ih1 _ _ _)
      | (with_reducible exact ih2 _ _ _)
      | (with_reducible exact ih3 _ _ _)
      | (with_reducible exact bits_Div64.mono _ _ _ _)
      | (with_reducible exact bits_Len64.mono _ _)
      | (with_reducible exact LeO.refl _)
      | (with_reducible exact LeO.none _)
      | (with_reducible refine LeO.ite ?_ ?_)
      | (with_reducible refine LeO.bind ?_ (fun _ => ?_))
      | exact ih0 _ _ _
      | exact ih1 _ _ _
      | exact ih2 _ _ _
      | exact ih3 _ _ _
      | exact bits_Div64.mono _ _ _ _
      | exact bits_Len64.mono _ _
      | exact LeO.none _
      | refine LeO.ite ?_ ?_
      | refine LeO.bind ?_ (fun _ => ?_)
    · intro y0 y1 y2
      unfold fix_root.j1
      repeat' first
      | (with_reducible exact ih0 _ _ _)
      | (with_reducible exact ih1 _ _ _)
      | (with_reducible exact ih2 _ _ _)
      | (with_reducible exact ih3 _ _ _)
      | (with_reducible exact bits_Div64.mono _ _ _ _)
      | (with_reducible exact bits_Len64.mono _ _)
      | (with_reducible exact LeO.refl _)
      | (with_reducible exact LeO.none _)
      | (with_reducible refine LeO.ite ?_ ?_)
      | (with_reducible refine LeO.bind ?_ (fun _ => ?_))
      | exact ih0 _ _ _
      | exact ih1 _ _ _
      | exact ih2 _ _ _
      | exact ih3 _ _ _
      | exact bits_Div64.mono _ _ _ _
      | exact bits_Len64.mono _ _
      | exact LeO.none _
      | refine LeO.ite ?_ ?_
      | refine LeO.bind ?_ (fun _ => ?_)
    · intro y0 y1 y2
      unfold fix_root.j2
      repeat' first
      | (with_reducible exact ih0 _ _ _)
      | (with_reducible exact ih1 _ _ _)
      | (with_reducible exact ih2 _ _ _)
      | (with_reducible exact ih3 _ _ _)
      | (with_reducible exact bits_Div64.mono _ _ _ _)
      | (with_reducible exact bits_Len64.mono _ _)
      | (with_reducible exact LeO.refl _)
      | (with_reducible exact LeO.none _)
      | (with_reducible refine LeO.ite ?_ ?_)
      | (with_reducible refine LeO.bind ?_ (fun _ => ?_))
      | exact ih0 _ _ _
      | exact ih1 _ _ _
      | exact ih2 _ _ _
      | exact ih3 _ _ _
      | exact bits_Div64.mono _ _ _ _
      | exact bits_Len64.mono _ _
      | exact LeO.none _
      | refine LeO.ite ?_ ?_
      | refine LeO.bind ?_ (fun _ => ?_)
    · intro y0 y1 y2
      unfold fix_root.l0
      repeat' first
      | (with_reducible exact ih0 _ _ _)
      | (with_reducible exact ih1 _ _ _)
      | (with_reducible exact ih2 _ _ _)
      | (with_reducible exact ih3 _ _ _)
      | (with_reducible exact bits_Div64.mono _ _ _ _)
      | (with_reducible exact bits_Len64.mono _ _)
      | (with_reducible exact LeO.refl _)
      | (with_reducible exact LeO.none _)
      | (with_reducible refine LeO.ite ?_ ?_)
      | (with_reducible refine LeO.bind ?_ (fun _ => ?_))
      | exact ih0 _ _ _
      | exact ih1 _ _ _
      | exact ih2 _ _ _
      | exact ih3 _ _ _
      | exact bits_Div64.mono _ _ _ _
      | exact bits_Len64.mono _ _
      | exact LeO.none _
      | refine LeO.ite ?_ ?_
      | refine LeO.bind ?_ (fun _ => ?_)
theorem fix_root.mono : ∀ a0 a1 k, LeO (fix_root.f k a0 a1) (fix_root.f (k + 1) a0 a1) := by
  intro a0 a1 k
  obtain ⟨ih0, ih1, ih2, ih3⟩ := fix_root.mono_l k
  unfold fix_root.f
  repeat' first
      | (with_reducible exact ih0 _ _ _)
      | (with_reducible exact ih1 _ _ _)
      | (with_reducible exact ih2 _ _ _)
      | (with_reducible exact ih3 _ _ _)
      | (with_reducible exact bits_Div64.mono _ _ _ _)
      | (with_reducible exact bits_Len64.mono _ _)
      | (with_reducible exact LeO.refl _)
      | (with_reducible exact LeO.none _)
      | (with_reducible refine LeO.ite ?_ ?_)
      | (with_reducible refine LeO.bind ?_ (fun _ => ?_))
      | exact ih0 _ _ _
      | exact ih1 _ _ _
      | exact ih2 _ _ _
      | exact ih3 _ _ _
      | exact bits_Div64.mono _ _ _ _
      | exact bits_Len64.mono _ _
      | exact LeO.none _
      | refine LeO.ite ?_ ?_
      | refine LeO.bind ?_ (fun _ => ?_)
set_option maxHeartbeats 8000000 in
set_option maxRecDepth 100000 in
theorem fix_root.calls (k : Nat) (a0 : Int) (a1 : Int) (r : Int) (w : World) (h : fix_root.f k a0 a1 = some r) :
    Calls Try.prog 95 #[.int .u64 a0, .int .u64 a1] w fun e w' => e = .returned (.int .u64 r) ∧ Drawn0 w w' := by
  have hx93 := @ext93
  have H : (if a0 = 0 then (fix_root.j0 k a0 a1 (a1 == 0)) else (fix_root.j0 k a0 a1 false)) = some r := h
  clear h
  have HC3 := Aside0.mk H
  clear H
  go_enter Try.func95, Try.ntmps95
  go_upto_region 1 with (fail)
  go_cut [17] (fun v17 wc => ∃ (kq : Nat) (x17_2 : Bool), v17 = .bool x17_2 ∧ Aside0 (fix_root.j0 kq a0 a1 x17_2 = some r) ∧ Aside0 (kq ≤ k) ∧ Drawn0 w wc)
  case first =>
    have H := HC3.out
    clear HC3
    by_cases c4 : a0 = 0
    · rw [if_pos c4] at H
      have c4b0 : (a0 == 0) = true := beq_iff_eq.mpr c4
      have c4b1 : (a0 != 0) = false := bne_eq_false_iff_eq.mpr c4
      clear c4
      (first | rw [c4b0] | (simp only [i64_w, i32_w]; rw [c4b0]) | skip)
      have H' := Aside0.mk H
      clear H
      go_wp2
      go_meet
      case rel => exact ⟨_, ((a1 == 0)), (by first | rfl | (simp; done) | (simp [*]; done)), H', ⟨by first | omega | exact Nat.le_refl _⟩, by repeat (first | exact Drawn0.refl _ | apply Drawn0.step)⟩
    · rw [if_neg c4] at H
      have c4b0 : (a0 == 0) = false := beq_eq_false_iff_ne.mpr c4
      have c4b1 : (a0 != 0) = true := bne_iff_ne.mpr c4
      (first | rw [c4b0] | (simp only [i64_w, i32_w]; rw [c4b0]) | skip)
      have H' := Aside0.mk H
      clear H
      go_wp2
      go_meet
      case rel => exact ⟨_, (false), (by first | rfl | (simp; done) | (simp [*]; done)), H', ⟨by first | omega | exact Nat.le_refl _⟩, by repeat (first | exact Drawn0.refl _ | apply Drawn0.step)⟩
  case rest =>
    clear HC3
    try clear p2
    try clear c4
    try clear c4b0
    try clear c4b1
    obtain ⟨kq, x17_2, rfl, HA, HJ2, ⟨mc2, rfl⟩⟩ := hcut
    cases kq with
    | zero => exact absurd HA.out (by simp [fix_root.j0])
    | succ kj2 =>
      have H := HA.out
      clear HA
      simp only [fix_root.j0] at H
      by_cases c5 : x17_2 = true
      · subst c5
        have H1 : (some 0) = some r := by rw [if_pos rfl] at H; exact H
        clear H
        have H := H1
        clear H1
        obtain rfl := Option.some.inj H
        go_wp2
        go_ret
        exact ⟨by first | rfl | (simp; done) | (simp [*]; done), by repeat (first | exact Drawn0.refl _ | apply Drawn0.step)⟩
      · replace c5 := Bool.eq_false_iff.mpr c5
        subst c5
        have H1 : ((bits_Len64.f kj2 a1).bind fun t191 => (if a0 = 0 then (fix_root.j1 kj2 a0 a1 t191) else ((bits_Len64.f kj2 a0).bind fun t192 => (fix_root.j1 kj2 a0 a1 (wrap64 (64 + t192)))))) = some r := by rw [if_neg (show ¬ (false = true) by decide)] at H; exact H
        clear H
        have H := H1
        clear H1
        replace H := Option.bind_eq_some_iff.mp H
        obtain ⟨t191, A60, H⟩ := H
        replace H : (if a0 = 0 then (fix_root.j1 kj2 a0 a1 t191) else ((bits_Len64.f kj2 a0).bind fun t192 => (fix_root.j1 kj2 a0 a1 (wrap64 (64 + t192))))) = some r := H
        have A6 := Aside0.mk A60
        clear A60
        have HC7 := Aside0.mk H
        clear H
        go_upto_if 21 with (first | ((with_reducible refine gate_callee (f := 99) rfl ?_); refine goesL_ (some 19) rfl rfl Try.func99 (by kernel_rfl) rfl #[.int .u64 a1] rfl (by (try simp only [List.map_toArray, List.map_cons, List.map_nil]); first | done | rfl | (simp only [List.length_drop, List.length_take]; rfl)) ?_; (with_reducible refine (bits_Len64.calls kj2 a1 t191 _ A6.out).mono ?_); rintro e w' ⟨rfl, ⟨nd, rfl⟩⟩; refine ⟨_, rfl, ?_⟩))
        (try simp only [Act.put, List.setIfInBounds_toArray, List.set_cons_zero, List.set_cons_succ])
        go_cut [5] (fun v5 wc => ∃ (kq : Nat) (x5_6 : Int), v5 = .int .i64 x5_6 ∧ Aside0 (fix_root.j1 kq a0 a1 x5_6 = some r) ∧ Aside0 (kq ≤ kj2) ∧ Drawn0 w wc)
        case first =>
          have H := HC7.out
          clear HC7
          by_cases c8 : a0 = 0
          · rw [if_pos c8] at H
            have c8b0 : (a0 == 0) = true := beq_iff_eq.mpr c8
            have c8b1 : (a0 != 0) = false := bne_eq_false_iff_eq.mpr c8
            clear c8
            (first | rw [c8b0] | (simp only [i64_w, i32_w]; rw [c8b0]) | skip)
            have H' := Aside0.mk H
            clear H
            go_wp2
            go_meet
            case rel => exact ⟨_, (t191), (by first | rfl | (simp; done) | (simp [*]; done)), H', ⟨by have := HJ2.out; first | omega | exact Nat.le_refl _⟩, by repeat (first | exact Drawn0.refl _ | apply Drawn0.step)⟩
          · rw [if_neg c8] at H
            have c8b0 : (a0 == 0) = false := beq_eq_false_iff_ne.mpr c8
            have c8b1 : (a0 != 0) = true := bne_iff_ne.mpr c8
            (first | rw [c8b0] | (simp only [i64_w, i32_w]; rw [c8b0]) | skip)
            replace H := Option.bind_eq_some_iff.mp H
            obtain ⟨t192, A90, H⟩ := H
            replace H : (fix_root.j1 kj2 a0 a1 (wrap64 (64 + t192))) = some r := H
            have A9 := Aside0.mk A90
            clear A90
            have H' := Aside0.mk H
            clear H
            go_wp2_with (first | ((with_reducible refine gate_callee (f := 99) rfl ?_); refine goesL_ (some 23) rfl rfl Try.func99 (by kernel_rfl) rfl #[.int .u64 a0] rfl (by (try simp only [List.map_toArray, List.map_cons, List.map_nil]); first | done | rfl | (simp only [List.length_drop, List.length_take]; rfl)) ?_; (with_reducible refine (bits_Len64.calls kj2 a0 t192 _ A9.out).mono ?_); rintro e w' ⟨rfl, ⟨nd, rfl⟩⟩; refine ⟨_, rfl, ?_⟩))
            go_meet
            case rel => exact ⟨_, (wrap64 (64 + t192)), (by first | rfl | (simp; done) | (simp [*]; done)), H', ⟨by have := HJ2.out; first | omega | exact Nat.le_refl _⟩, by repeat (first | exact Drawn0.refl _ | apply Drawn0.step)⟩
        case rest =>
          clear HC7
          try clear c2
          try clear p2
          try clear c4
          try clear c4b0
          try clear c4b1
          try clear c5
          try clear p6
          try clear c8
          try clear c8b0
          try clear c8b1
          try clear c9
          try clear p2
          obtain ⟨kq, x5_6, rfl, HA, HJ6, ⟨mc6, rfl⟩⟩ := hcut
          cases kq with
          | zero => exact absurd HA.out (by simp [fix_root.j1])
          | succ kj6 =>
            have H := HA.out
            clear HA
            simp only [fix_root.j1] at H
            have HC10 := Aside0.mk H
            clear H
            go_upto_if 26 with (fail)
            go_cut [6] (fun v6 wc => ∃ (kq : Nat) (x6_9 : Int), v6 = .int .u64 x6_9 ∧ Aside0 (fix_root.j2 kq a0 a1 x6_9 = some r) ∧ Aside0 (kq ≤ kj6) ∧ Drawn0 w wc)
            case first =>
              have H := HC10.out
              clear HC10
              by_cases c11 : x5_6 < 127
              · rw [if_pos c11] at H
                have c11b0 : decide (x5_6 < 127) = true := decide_eq_true c11
                clear c11
                (first | rw [c11b0] | (simp only [i64_w, i32_w]; rw [c11b0]) | skip)
                obtain ⟨ji12, hji12⟩ : ∃ j_ : Int, (wrap64 (Int.tdiv (wrap64 (x5_6 + 1)) 2)) = j_ := ⟨_, rfl⟩
                replace H : (if 0 ≤ (ji12) then (fix_root.j2 kj6 a0 a1 (shl .u64 1 (ji12))) else (none)) = some r := by first | (rw [hji12] at H; exact H) | (simp only [hji12] at H ⊢; exact H)
                have hji12w : (IntKind.i64.wrap (Int.tdiv (wrap64 (x5_6 + 1)) 2)) = ji12 := (i64_w _).trans hji12
                by_cases c13 : 0 ≤ (ji12)
                · rw [if_pos c13] at H
                  have c13b0 := eq_true c13
                  have c13b1 : decide (0 ≤ (ji12)) = true := decide_eq_true c13
                  clear c13
                  obtain ⟨ji14, hji14⟩ : ∃ j_ : Int, (shl .u64 1 (ji12)) = j_ := ⟨_, rfl⟩
                  replace H : (fix_root.j2 kj6 a0 a1 ji14) = some r := by first | (rw [hji14] at H; exact H) | (simp only [hji14] at H ⊢; exact H)
                  have hji14_ : (IntKind.u64.wrap (1 * 2 ^ min (ji12).toNat 64)) = ji14 := hji14
                  have hji14z : (ji12) ≤ 64 → (IntKind.u64.wrap (1 * 2 ^ (ji12).toNat)) = ji14 := shl_small hji14
                  have hji14u : (IntKind.u64.wrap (2 ^ min (ji12).toNat 64)) = ji14 := by have h_ := hji14_; rw [Int.one_mul] at h_; exact h_
                  have hji14v : (ji12) ≤ 64 → (IntKind.u64.wrap (2 ^ (ji12).toNat)) = ji14 := fun hle_ => by have h_ := hji14z hle_; rw [Int.one_mul] at h_; exact h_
                  have H' := Aside0.mk H
                  clear H
                  go_wp2
                  go_meet
                  case rel => exact ⟨_, (ji14), (by first | rfl | (simp; done) | (simp only [← hji14] <;> (first | rfl | simp)) | (simp [*]; done)), H', ⟨by have := HJ2.out; have := HJ6.out; first | omega | exact Nat.le_refl _⟩, by repeat (first | exact Drawn0.refl _ | apply Drawn0.step)⟩
                · rw [if_neg c13] at H
                  exact absurd H (by simp)
              · rw [if_neg c11] at H
                have c11b0 : decide (x5_6 < 127) = false := decide_eq_false c11
                clear c11
                (first | rw [c11b0] | (simp only [i64_w, i32_w]; rw [c11b0]) | skip)
                have H' := Aside0.mk H
                clear H
                go_wp2
                go_meet
                case rel => exact ⟨_, (18446744073709551615), (by first | rfl | (simp; done) | (simp [*]; done)), H', ⟨by have := HJ2.out; have := HJ6.out; first | omega | exact Nat.le_refl _⟩, by repeat (first | exact Drawn0.refl _ | apply Drawn0.step)⟩
            case rest =>
              clear HC10
              try clear c1
              try clear c2
              try clear p2
              try clear c4
              try clear c4b0
              try clear c4b1
              try clear c5
              try clear c6
              try clear p6
              try clear c8
              try clear c8b0
              try clear c8b1
              try clear c9
              try clear c11
              try clear c11b0
              try clear c13
              try clear c13b0
              try clear c13b1
              try clear p2
              try clear p6
              obtain ⟨kq, x6_9, rfl, HA, HJ9, ⟨mc9, rfl⟩⟩ := hcut
              cases kq with
              | zero => exact absurd HA.out (by simp [fix_root.j2])
              | succ kj9 =>
                have H := HA.out
                clear HA
                simp only [fix_root.j2] at H
                have H' := Aside0.mk H
                clear H
                go_wp2
                go_loopg [6] kj9 (fun kq v6 w' => ∃ (x6_4 : Int), v6 = .int .u64 x6_4 ∧ Aside0 (fix_root.l0 kq a0 a1 x6_4 = some r) ∧ Aside0 (kq ≤ kj9) ∧ Drawn0 w w')
                case atStart => exact ⟨(x6_9), (by first | rfl | (simp; done) | (simp [*]; done)), H', ⟨Nat.le_refl _⟩, by repeat (first | exact Drawn0.refl _ | apply Drawn0.step)⟩
                case round =>
                  clear H'
                  try clear c1
                  try clear c2
                  try clear p2
                  try clear c4
                  try clear c4b0
                  try clear c4b1
                  try clear c5
                  try clear c6
                  try clear p6
                  try clear c8
                  try clear c8b0
                  try clear c8b1
                  try clear c9
                  try clear c11
                  try clear c11b0
                  try clear c13
                  try clear c13b0
                  try clear c13b1
                  try clear p2
                  try clear p6
                  obtain ⟨x6_4, rfl, HA, HK4, ⟨m4, rfl⟩⟩ := hrel
                  cases gk with
                  | zero => exact absurd HA.out (by simp [fix_root.l0])
                  | succ k4 =>
                    have H := HA.out
                    clear HA
                    simp only [fix_root.l0] at H
                    by_cases c15 : a0 ≥ x6_4
                    · rw [if_pos c15] at H
                      have c15b0 : decide (x6_4 ≤ a0) = true := decide_eq_true c15
                      clear c15
                      obtain rfl := Option.some.inj H
                      go_wp2
                      go_ret
                      exact ⟨by first | rfl | (simp; done) | (simp [*]; done), by repeat (first | exact Drawn0.refl _ | apply Drawn0.step)⟩
                    · rw [if_neg c15] at H
                      have c15b0 : decide (x6_4 ≤ a0) = false := decide_eq_false c15
                      clear c15
                      replace H := Option.bind_eq_some_iff.mp H
                      obtain ⟨⟨t193, t194⟩, A160, H⟩ := H
                      replace H : (if c01 0 = true then (if (Go.bits .or .u64 ((u64add x6_4 t193 0) / 2) (IntKind.u64.wrap ((u64car x6_4 t193 0) * 9223372036854775808))) ≥ x6_4 then (some x6_4) else (fix_root.l0 k4 a0 a1 (Go.bits .or .u64 ((u64add x6_4 t193 0) / 2) (IntKind.u64.wrap ((u64car x6_4 t193 0) * 9223372036854775808))))) else (none)) = some r := H
                      have A16 := Aside0.mk A160
                      clear A160
                      by_cases c17 : c01 0 = true
                      · rw [if_pos c17] at H
                        have c17b0 := eq_true c17
                        have c17b1 : decide (c01 0 = true) = true := decide_eq_true c17
                        clear c17
                        by_cases c18 : (Go.bits .or .u64 ((u64add x6_4 t193 0) / 2) (IntKind.u64.wrap ((u64car x6_4 t193 0) * 9223372036854775808))) ≥ x6_4
                        · rw [if_pos c18] at H
                          have c18b0 : decide (x6_4 ≤ (Go.bits .or .u64 ((u64add x6_4 t193 0) / 2) (IntKind.u64.wrap ((u64car x6_4 t193 0) * 9223372036854775808)))) = true := decide_eq_true c18
                          clear c18
                          obtain rfl := Option.some.inj H
                          go_wp2_with (first | ((with_reducible refine gate_callee (f := 100) rfl ?_); refine goesL_ (some 39) rfl rfl Try.func100 (by kernel_rfl) rfl #[.int .u64 a0, .int .u64 a1, .int .u64 x6_4] rfl (by (try simp only [List.map_toArray, List.map_cons, List.map_nil]); first | done | rfl | (simp only [List.length_drop, List.length_take]; rfl)) ?_; (with_reducible refine (bits_Div64.calls k4 a0 a1 x6_4 t193 t194 _ A16.out).mono ?_); rintro e w' ⟨rfl, ⟨nd, rfl⟩⟩; refine ⟨_, rfl, ?_⟩))
                          go_ret
                          exact ⟨by first | rfl | (simp; done) | (simp [*]; done), by repeat (first | exact Drawn0.refl _ | apply Drawn0.step)⟩
                        · rw [if_neg c18] at H
                          have c18b0 : decide (x6_4 ≤ (Go.bits .or .u64 ((u64add x6_4 t193 0) / 2) (IntKind.u64.wrap ((u64car x6_4 t193 0) * 9223372036854775808)))) = false := decide_eq_false c18
                          clear c18
                          have H' := Aside0.mk H
                          clear H
                          go_wp2_with (first | ((with_reducible refine gate_callee (f := 100) rfl ?_); refine goesL_ (some 39) rfl rfl Try.func100 (by kernel_rfl) rfl #[.int .u64 a0, .int .u64 a1, .int .u64 x6_4] rfl (by (try simp only [List.map_toArray, List.map_cons, List.map_nil]); first | done | rfl | (simp only [List.length_drop, List.length_take]; rfl)) ?_; (with_reducible refine (bits_Div64.calls k4 a0 a1 x6_4 t193 t194 _ A16.out).mono ?_); rintro e w' ⟨rfl, ⟨nd, rfl⟩⟩; refine ⟨_, rfl, ?_⟩))
                          go_roundg k4
                          case measure => have := HJ2.out; have := HJ6.out; have := HJ9.out; have := HK4.out; omega
                          case rel => exact ⟨(Go.bits .or .u64 ((u64add x6_4 t193 0) / 2) (IntKind.u64.wrap ((u64car x6_4 t193 0) * 9223372036854775808))), (by first | rfl | (simp; done) | (simp [*]; done)), H', ⟨by have := HJ2.out; have := HJ6.out; have := HJ9.out; have := HK4.out; omega⟩, by repeat (first | exact Drawn0.refl _ | apply Drawn0.step)⟩
                      · rw [if_neg c17] at H
                        exact absurd H (by simp)

/-! ### fix_Hyp: function 77 -/
def fix_Hyp.f (k : Nat) (a0 : Int) (a1 : Int) : Option (Int × Int) := (fix_size.f a0).bind fun t195 => ((fix_size.f a0).bind fun t196 => ((bits_Mul64.f t195 t196).bind fun bt197 => ((fix_size.f a1).bind fun t199 => ((fix_size.f a1).bind fun t200 => ((bits_Mul64.f t199 t200).bind fun bt201 => (if c01 0 = true then ((fix_root.f k (IntKind.u64.wrap ((IntKind.u64.wrap (bt197.1 + bt201.1)) + (u64car bt197.2 bt201.2 0))) (u64add bt197.2 bt201.2 0)).bind fun t203 => ((fix_number.f k false 0 t203).bind fun bt204 => (some (bt204.1, bt204.2)))) else (none)))))))
theorem fix_Hyp.mono : ∀ a0 a1 k, LeO (fix_Hyp.f k a0 a1) (fix_Hyp.f (k + 1) a0 a1) := by
  intro a0 a1 k
  unfold fix_Hyp.f
  repeat' first
      | (with_reducible exact fix_number.mono _ _ _ _)
      | (with_reducible exact fix_root.mono _ _ _)
      | (with_reducible exact LeO.refl _)
      | (with_reducible exact LeO.none _)
      | (with_reducible refine LeO.ite ?_ ?_)
      | (with_reducible refine LeO.bind ?_ (fun _ => ?_))
      | exact fix_number.mono _ _ _ _
      | exact fix_root.mono _ _ _
      | exact LeO.none _
      | refine LeO.ite ?_ ?_
      | refine LeO.bind ?_ (fun _ => ?_)
set_option maxHeartbeats 8000000 in
set_option maxRecDepth 100000 in
theorem fix_Hyp.calls (k : Nat) (a0 : Int) (a1 : Int) (r1 : Int) (r2 : Int) (w : World) (h : fix_Hyp.f k a0 a1 = some (r1, r2)) :
    Calls Try.prog 77 #[.int .i64 a0, .int .i64 a1] w fun e w' => e = .returned (.tuple #[.int .i64 r1, .int .i64 r2]) ∧ Drawn0 w w' := by
  have hx93 := @ext93
  have H : ((fix_size.f a0).bind fun t195 => ((fix_size.f a0).bind fun t196 => ((bits_Mul64.f t195 t196).bind fun bt197 => ((fix_size.f a1).bind fun t199 => ((fix_size.f a1).bind fun t200 => ((bits_Mul64.f t199 t200).bind fun bt201 => (if c01 0 = true then ((fix_root.f k (IntKind.u64.wrap ((IntKind.u64.wrap (bt197.1 + bt201.1)) + (u64car bt197.2 bt201.2 0))) (u64add bt197.2 bt201.2 0)).bind fun t203 => ((fix_number.f k false 0 t203).bind fun bt204 => (some (bt204.1, bt204.2)))) else (none)))))))) = some (r1, r2) := h
  clear h
  replace H := Option.bind_eq_some_iff.mp H
  obtain ⟨t195, A30, H⟩ := H
  replace H : ((fix_size.f a0).bind fun t196 => ((bits_Mul64.f t195 t196).bind fun bt197 => ((fix_size.f a1).bind fun t199 => ((fix_size.f a1).bind fun t200 => ((bits_Mul64.f t199 t200).bind fun bt201 => (if c01 0 = true then ((fix_root.f k (IntKind.u64.wrap ((IntKind.u64.wrap (bt197.1 + bt201.1)) + (u64car bt197.2 bt201.2 0))) (u64add bt197.2 bt201.2 0)).bind fun t203 => ((fix_number.f k false 0 t203).bind fun bt204 => (some (bt204.1, bt204.2)))) else (none))))))) = some (r1, r2) := H
  have A3 := Aside0.mk A30
  clear A30
  replace H := Option.bind_eq_some_iff.mp H
  obtain ⟨t196, A40, H⟩ := H
  replace H : ((bits_Mul64.f t195 t196).bind fun bt197 => ((fix_size.f a1).bind fun t199 => ((fix_size.f a1).bind fun t200 => ((bits_Mul64.f t199 t200).bind fun bt201 => (if c01 0 = true then ((fix_root.f k (IntKind.u64.wrap ((IntKind.u64.wrap (bt197.1 + bt201.1)) + (u64car bt197.2 bt201.2 0))) (u64add bt197.2 bt201.2 0)).bind fun t203 => ((fix_number.f k false 0 t203).bind fun bt204 => (some (bt204.1, bt204.2)))) else (none)))))) = some (r1, r2) := H
  have A4 := Aside0.mk A40
  clear A40
  replace H := Option.bind_eq_some_iff.mp H
  obtain ⟨⟨t197, t198⟩, A50, H⟩ := H
  replace H : ((fix_size.f a1).bind fun t199 => ((fix_size.f a1).bind fun t200 => ((bits_Mul64.f t199 t200).bind fun bt201 => (if c01 0 = true then ((fix_root.f k (IntKind.u64.wrap ((IntKind.u64.wrap (t197 + bt201.1)) + (u64car t198 bt201.2 0))) (u64add t198 bt201.2 0)).bind fun t203 => ((fix_number.f k false 0 t203).bind fun bt204 => (some (bt204.1, bt204.2)))) else (none))))) = some (r1, r2) := H
  have A5 := Aside0.mk A50
  clear A50
  replace H := Option.bind_eq_some_iff.mp H
  obtain ⟨t199, A60, H⟩ := H
  replace H : ((fix_size.f a1).bind fun t200 => ((bits_Mul64.f t199 t200).bind fun bt201 => (if c01 0 = true then ((fix_root.f k (IntKind.u64.wrap ((IntKind.u64.wrap (t197 + bt201.1)) + (u64car t198 bt201.2 0))) (u64add t198 bt201.2 0)).bind fun t203 => ((fix_number.f k false 0 t203).bind fun bt204 => (some (bt204.1, bt204.2)))) else (none)))) = some (r1, r2) := H
  have A6 := Aside0.mk A60
  clear A60
  replace H := Option.bind_eq_some_iff.mp H
  obtain ⟨t200, A70, H⟩ := H
  replace H : ((bits_Mul64.f t199 t200).bind fun bt201 => (if c01 0 = true then ((fix_root.f k (IntKind.u64.wrap ((IntKind.u64.wrap (t197 + bt201.1)) + (u64car t198 bt201.2 0))) (u64add t198 bt201.2 0)).bind fun t203 => ((fix_number.f k false 0 t203).bind fun bt204 => (some (bt204.1, bt204.2)))) else (none))) = some (r1, r2) := H
  have A7 := Aside0.mk A70
  clear A70
  replace H := Option.bind_eq_some_iff.mp H
  obtain ⟨⟨t201, t202⟩, A80, H⟩ := H
  replace H : (if c01 0 = true then ((fix_root.f k (IntKind.u64.wrap ((IntKind.u64.wrap (t197 + t201)) + (u64car t198 t202 0))) (u64add t198 t202 0)).bind fun t203 => ((fix_number.f k false 0 t203).bind fun bt204 => (some (bt204.1, bt204.2)))) else (none)) = some (r1, r2) := H
  have A8 := Aside0.mk A80
  clear A80
  by_cases c9 : c01 0 = true
  · rw [if_pos c9] at H
    have c9b0 := eq_true c9
    have c9b1 : decide (c01 0 = true) = true := decide_eq_true c9
    clear c9
    replace H := Option.bind_eq_some_iff.mp H
    obtain ⟨t203, A100, H⟩ := H
    replace H : ((fix_number.f k false 0 t203).bind fun bt204 => (some (bt204.1, bt204.2))) = some (r1, r2) := H
    have A10 := Aside0.mk A100
    clear A100
    replace H := Option.bind_eq_some_iff.mp H
    obtain ⟨⟨t204, t205⟩, A110, H⟩ := H
    replace H : (some (t204, t205)) = some (r1, r2) := H
    have A11 := Aside0.mk A110
    clear A110
    simp only [Option.some.injEq, Prod.mk.injEq] at H
    obtain ⟨rfl, rfl⟩ := H
    go_enter Try.func77, Try.ntmps77
    go_wp2_with (first | ((with_reducible refine gate_callee (f := 92) rfl ?_); refine goesL_ (some 14) rfl rfl Try.func92 (by kernel_rfl) rfl #[.int .i64 a0] rfl (by (try simp only [List.map_toArray, List.map_cons, List.map_nil]); first | done | rfl | (simp only [List.length_drop, List.length_take]; rfl)) ?_; (with_reducible refine (fix_size.calls a0 t195 _ A3.out).mono ?_); rintro e w' ⟨rfl, ⟨nd, rfl⟩⟩; refine ⟨_, rfl, ?_⟩) | ((with_reducible refine gate_callee (f := 92) rfl ?_); refine goesL_ (some 16) rfl rfl Try.func92 (by kernel_rfl) rfl #[.int .i64 a0] rfl (by (try simp only [List.map_toArray, List.map_cons, List.map_nil]); first | done | rfl | (simp only [List.length_drop, List.length_take]; rfl)) ?_; (with_reducible refine (fix_size.calls a0 t196 _ A4.out).mono ?_); rintro e w' ⟨rfl, ⟨nd, rfl⟩⟩; refine ⟨_, rfl, ?_⟩) | ((with_reducible refine gate_callee (f := 91) rfl ?_); refine goesL_ (some 17) rfl rfl Try.func91 (by kernel_rfl) rfl #[.int .u64 t195, .int .u64 t196] rfl (by (try simp only [List.map_toArray, List.map_cons, List.map_nil]); first | done | rfl | (simp only [List.length_drop, List.length_take]; rfl)) ?_; (with_reducible refine (bits_Mul64.calls t195 t196 t197 t198 _ A5.out).mono ?_); rintro e w' ⟨rfl, ⟨nd, rfl⟩⟩; refine ⟨_, rfl, ?_⟩) | ((with_reducible refine gate_callee (f := 92) rfl ?_); refine goesL_ (some 22) rfl rfl Try.func92 (by kernel_rfl) rfl #[.int .i64 a1] rfl (by (try simp only [List.map_toArray, List.map_cons, List.map_nil]); first | done | rfl | (simp only [List.length_drop, List.length_take]; rfl)) ?_; (with_reducible refine (fix_size.calls a1 t199 _ A6.out).mono ?_); rintro e w' ⟨rfl, ⟨nd, rfl⟩⟩; refine ⟨_, rfl, ?_⟩) | ((with_reducible refine gate_callee (f := 92) rfl ?_); refine goesL_ (some 24) rfl rfl Try.func92 (by kernel_rfl) rfl #[.int .i64 a1] rfl (by (try simp only [List.map_toArray, List.map_cons, List.map_nil]); first | done | rfl | (simp only [List.length_drop, List.length_take]; rfl)) ?_; (with_reducible refine (fix_size.calls a1 t200 _ A7.out).mono ?_); rintro e w' ⟨rfl, ⟨nd, rfl⟩⟩; refine ⟨_, rfl, ?_⟩) | ((with_reducible refine gate_callee (f := 91) rfl ?_); refine goesL_ (some 25) rfl rfl Try.func91 (by kernel_rfl) rfl #[.int .u64 t199, .int .u64 t200] rfl (by (try simp only [List.map_toArray, List.map_cons, List.map_nil]); first | done | rfl | (simp only [List.length_drop, List.length_take]; rfl)) ?_; (with_reducible refine (bits_Mul64.calls t199 t200 t201 t202 _ A8.out).mono ?_); rintro e w' ⟨rfl, ⟨nd, rfl⟩⟩; refine ⟨_, rfl, ?_⟩) | ((with_reducible refine gate_callee (f := 95) rfl ?_); refine goesL_ (some 40) rfl rfl Try.func95 (by kernel_rfl) rfl #[.int .u64 (IntKind.u64.wrap ((IntKind.u64.wrap (t197 + t201)) + (u64car t198 t202 0))), .int .u64 (u64add t198 t202 0)] rfl (by (try simp only [List.map_toArray, List.map_cons, List.map_nil]); first | done | rfl | (simp only [List.length_drop, List.length_take]; rfl)) ?_; (with_reducible refine (fix_root.calls k (IntKind.u64.wrap ((IntKind.u64.wrap (t197 + t201)) + (u64car t198 t202 0))) (u64add t198 t202 0) t203 _ A10.out).mono ?_); rintro e w' ⟨rfl, ⟨nd, rfl⟩⟩; refine ⟨_, rfl, ?_⟩) | ((with_reducible refine gate_callee (f := 94) rfl ?_); refine goesL_ (some 41) rfl rfl Try.func94 (by kernel_rfl) rfl #[.bool false, .int .u64 0, .int .u64 t203] rfl (by (try simp only [List.map_toArray, List.map_cons, List.map_nil]); first | done | rfl | (simp only [List.length_drop, List.length_take]; rfl)) ?_; (with_reducible refine (fix_number.calls k false 0 t203 t204 t205 _ A11.out).mono ?_); rintro e w' ⟨rfl, ⟨nd, rfl⟩⟩; refine ⟨_, rfl, ?_⟩))
    go_ret2
    exact ⟨by first | rfl | (simp; done) | (simp [*]; done), by repeat (first | exact Drawn0.refl _ | apply Drawn0.step)⟩
  · rw [if_neg c9] at H
    exact absurd H (by simp)

/-! ### phasor_Parts: function 79 -/
def phasor_Parts.f (a0 : Cx) : Option (Int × Int × Int) := (phasor_Fits.f a0).bind fun t206 => (if t206 = true then (if f2iok a0.re = true then (if f2iok a0.im = true then (some (f2i a0.re, f2i a0.im, 0)) else (none)) else (none)) else (some (0, 0, 5)))
set_option maxHeartbeats 8000000 in
set_option maxRecDepth 100000 in
theorem phasor_Parts.calls (a0 : Cx) (r1 : Int) (r2 : Int) (r3 : Int) (w : World) (h : phasor_Parts.f a0 = some (r1, r2, r3)) :
    Calls Try.prog 79 #[.complex .f64 a0.re a0.im] w fun e w' => e = .returned (.tuple #[.int .i64 r1, .int .i64 r2, .int .i64 r3]) ∧ Below w.heap.size w w' := by
  have HB := Aside0.mk (Below.refl w.heap.size w)
  have H : ((phasor_Fits.f a0).bind fun t206 => (if t206 = true then (if f2iok a0.re = true then (if f2iok a0.im = true then (some (f2i a0.re, f2i a0.im, 0)) else (none)) else (none)) else (some (0, 0, 5)))) = some (r1, r2, r3) := h
  clear h
  replace H := Option.bind_eq_some_iff.mp H
  obtain ⟨t206, A20, H⟩ := H
  replace H : (if t206 = true then (if f2iok a0.re = true then (if f2iok a0.im = true then (some (f2i a0.re, f2i a0.im, 0)) else (none)) else (none)) else (some (0, 0, 5))) = some (r1, r2, r3) := H
  have A2 := Aside0.mk A20
  clear A20
  by_cases c3 : t206 = true
  · subst c3
    have H1 : (if f2iok a0.re = true then (if f2iok a0.im = true then (some (f2i a0.re, f2i a0.im, 0)) else (none)) else (none)) = some (r1, r2, r3) := by rw [if_pos rfl] at H; exact H
    clear H
    have H := H1
    clear H1
    by_cases c4 : f2iok a0.re = true
    · rw [if_pos c4] at H
      have c4b0 := eq_true c4
      have c4b1 : decide (f2iok a0.re = true) = true := decide_eq_true c4
      clear c4
      by_cases c5 : f2iok a0.im = true
      · rw [if_pos c5] at H
        have c5b0 := eq_true c5
        have c5b1 : decide (f2iok a0.im = true) = true := decide_eq_true c5
        clear c5
        simp only [Option.some.injEq, Prod.mk.injEq] at H
        obtain ⟨rfl, rfl, rfl⟩ := H
        go_enter Try.func79, Try.ntmps79
        go_wp2_with (first | ((with_reducible refine gate_callee (f := 60) rfl ?_); refine goesL_ (some 6) rfl rfl Try.func60 (by kernel_rfl) rfl #[.complex .f64 a0.re a0.im] rfl (by (try simp only [List.map_toArray, List.map_cons, List.map_nil]); first | done | rfl | (simp only [List.length_drop, List.length_take]; rfl)) ?_; (with_reducible refine (phasor_Fits.calls a0 true _ A2.out).mono ?_); rintro e w6 ⟨rfl, hb⟩; refine ⟨_, rfl, ?_⟩; have n0_ := Aside0.mk (below_step (by repeat (first | (with_reducible first | exact HB.out | apply below_alloc | apply pw_below_drewN | apply below_drew1) | exact HB.out)) hb); clear HB; have HB := n0_; clear n0_; (try clear hb); (try clear hb2); (try clear hk); (try clear hi)))
        go_ret3
        exact ⟨by first | rfl | (simp [errW_none, errW_some] <;> rfl) | (simp [*, errW_none, errW_some] <;> rfl), by repeat (first | (with_reducible first | exact HB.out | apply below_alloc | apply pw_below_drewN | apply below_drew1) | exact HB.out)⟩
      · rw [if_neg c5] at H
        exact absurd H (by simp)
    · rw [if_neg c4] at H
      exact absurd H (by simp)
  · replace c3 := Bool.eq_false_iff.mpr c3
    subst c3
    have H1 : (some (0, 0, 5)) = some (r1, r2, r3) := by rw [if_neg (show ¬ (false = true) by decide)] at H; exact H
    clear H
    have H := H1
    clear H1
    simp only [Option.some.injEq, Prod.mk.injEq] at H
    obtain ⟨rfl, rfl, rfl⟩ := H
    go_enter Try.func79, Try.ntmps79
    go_wp2_with (first | ((with_reducible refine gate_callee (f := 60) rfl ?_); refine goesL_ (some 6) rfl rfl Try.func60 (by kernel_rfl) rfl #[.complex .f64 a0.re a0.im] rfl (by (try simp only [List.map_toArray, List.map_cons, List.map_nil]); first | done | rfl | (simp only [List.length_drop, List.length_take]; rfl)) ?_; (with_reducible refine (phasor_Fits.calls a0 false _ A2.out).mono ?_); rintro e w7 ⟨rfl, hb⟩; refine ⟨_, rfl, ?_⟩; have n0_ := Aside0.mk (below_step (by repeat (first | (with_reducible first | exact HB.out | apply below_alloc | apply pw_below_drewN | apply below_drew1) | exact HB.out)) hb); clear HB; have HB := n0_; clear n0_; (try clear hb); (try clear hb2); (try clear hk); (try clear hi)))
    go_ret3
    exact ⟨by first | rfl | (simp [errW_none, errW_some] <;> rfl) | (simp [*, errW_none, errW_some] <;> rfl), by repeat (first | (with_reducible first | exact HB.out | apply below_alloc | apply pw_below_drewN | apply below_drew1) | exact HB.out)⟩

/-! ### phasor_Apparent: function 53 -/
def phasor_Apparent.f (k : Nat) (a0 : Cx) : Option (Int × Int) := (phasor_Parts.f a0).bind fun bt207 => (if bt207.2.2 = 0 then ((fix_Hyp.f k bt207.1 bt207.2.1).bind fun bt210 => (some (bt210.1, bt210.2))) else (some (0, bt207.2.2)))
theorem phasor_Apparent.mono : ∀ a0 k, LeO (phasor_Apparent.f k a0) (phasor_Apparent.f (k + 1) a0) := by
  intro a0 k
  unfold phasor_Apparent.f
  repeat' first
      | (with_reducible exact fix_Hyp.mono _ _ _)
      | (with_reducible exact LeO.refl _)
      | (with_reducible exact LeO.none _)
      | (with_reducible refine LeO.ite ?_ ?_)
      | (with_reducible refine LeO.bind ?_ (fun _ => ?_))
      | exact fix_Hyp.mono _ _ _
      | exact LeO.none _
      | refine LeO.ite ?_ ?_
      | refine LeO.bind ?_ (fun _ => ?_)
set_option maxHeartbeats 8000000 in
set_option maxRecDepth 100000 in
theorem phasor_Apparent.calls (k : Nat) (a0 : Cx) (r1 : Int) (r2 : Int) (w : World) (h : phasor_Apparent.f k a0 = some (r1, r2)) :
    Calls Try.prog 53 #[.complex .f64 a0.re a0.im] w fun e w' => e = .returned (.tuple #[.int .i64 r1, .int .i64 r2]) ∧ Below w.heap.size w w' := by
  have HB := Aside0.mk (Below.refl w.heap.size w)
  have H : ((phasor_Parts.f a0).bind fun bt207 => (if bt207.2.2 = 0 then ((fix_Hyp.f k bt207.1 bt207.2.1).bind fun bt210 => (some (bt210.1, bt210.2))) else (some (0, bt207.2.2)))) = some (r1, r2) := h
  clear h
  replace H := Option.bind_eq_some_iff.mp H
  obtain ⟨⟨t207, t208, t209⟩, A20, H⟩ := H
  replace H : (if t209 = 0 then ((fix_Hyp.f k t207 t208).bind fun bt210 => (some (bt210.1, bt210.2))) else (some (0, t209))) = some (r1, r2) := H
  have A2 := Aside0.mk A20
  clear A20
  by_cases c3 : t209 = 0
  · rw [if_pos c3] at H
    have c3b0 : (t209 == 0) = true := beq_iff_eq.mpr c3
    have c3b1 : (t209 != 0) = false := bne_eq_false_iff_eq.mpr c3
    clear c3
    replace H := Option.bind_eq_some_iff.mp H
    obtain ⟨⟨t210, t211⟩, A40, H⟩ := H
    replace H : (some (t210, t211)) = some (r1, r2) := H
    have A4 := Aside0.mk A40
    clear A40
    simp only [Option.some.injEq, Prod.mk.injEq] at H
    obtain ⟨rfl, rfl⟩ := H
    go_enter Try.func53, Try.ntmps53
    go_wp2_with (first | ((with_reducible refine gate_callee (f := 79) rfl ?_); refine goesL_ (some 9) rfl rfl Try.func79 (by kernel_rfl) rfl #[.complex .f64 a0.re a0.im] rfl (by (try simp only [List.map_toArray, List.map_cons, List.map_nil]); first | done | rfl | (simp only [List.length_drop, List.length_take]; rfl)) ?_; (with_reducible refine (phasor_Parts.calls a0 t207 t208 t209 _ A2.out).mono ?_); rintro e w5 ⟨rfl, hb⟩; refine ⟨_, rfl, ?_⟩; have n0_ := Aside0.mk (below_step (by repeat (first | (with_reducible first | exact HB.out | apply below_alloc | apply pw_below_drewN | apply below_drew1) | exact HB.out)) hb); clear HB; have HB := n0_; clear n0_; (try clear hb); (try clear hb2); (try clear hk); (try clear hi)) | ((with_reducible refine gate_callee (f := 77) rfl ?_); refine goesL_ (some 18) rfl rfl Try.func77 (by kernel_rfl) rfl #[.int .i64 t207, .int .i64 t208] rfl (by (try simp only [List.map_toArray, List.map_cons, List.map_nil]); first | done | rfl | (simp only [List.length_drop, List.length_take]; rfl)) ?_; (with_reducible refine (fix_Hyp.calls k t207 t208 t210 t211 _ A4.out).mono ?_); rintro e w' ⟨rfl, ⟨nd, rfl⟩⟩; refine ⟨_, rfl, ?_⟩))
    go_ret2
    exact ⟨by first | rfl | (simp [errW_none, errW_some] <;> rfl) | (simp [*, errW_none, errW_some] <;> rfl), by repeat (first | (with_reducible first | exact HB.out | apply below_alloc | apply pw_below_drewN | apply below_drew1) | exact HB.out)⟩
  · rw [if_neg c3] at H
    have c3b0 : (t209 == 0) = false := beq_eq_false_iff_ne.mpr c3
    have c3b1 : (t209 != 0) = true := bne_iff_ne.mpr c3
    simp only [Option.some.injEq, Prod.mk.injEq] at H
    obtain ⟨rfl, rfl⟩ := H
    go_enter Try.func53, Try.ntmps53
    go_wp2_with (first | ((with_reducible refine gate_callee (f := 79) rfl ?_); refine goesL_ (some 9) rfl rfl Try.func79 (by kernel_rfl) rfl #[.complex .f64 a0.re a0.im] rfl (by (try simp only [List.map_toArray, List.map_cons, List.map_nil]); first | done | rfl | (simp only [List.length_drop, List.length_take]; rfl)) ?_; (with_reducible refine (phasor_Parts.calls a0 t207 t208 t209 _ A2.out).mono ?_); rintro e w6 ⟨rfl, hb⟩; refine ⟨_, rfl, ?_⟩; have n0_ := Aside0.mk (below_step (by repeat (first | (with_reducible first | exact HB.out | apply below_alloc | apply pw_below_drewN | apply below_drew1) | exact HB.out)) hb); clear HB; have HB := n0_; clear n0_; (try clear hb); (try clear hb2); (try clear hk); (try clear hi)))
    go_ret2
    exact ⟨by first | rfl | (simp [errW_none, errW_some] <;> rfl) | (simp [*, errW_none, errW_some] <;> rfl), by repeat (first | (with_reducible first | exact HB.out | apply below_alloc | apply pw_below_drewN | apply below_drew1) | exact HB.out)⟩

/-! ### pylonlaw02_PhasorTurns: function 15 -/
def pylonlaw02_PhasorTurns.j0 : Nat → Cx → Cx → Cx → Cx → Cx → Int → Int → Bool → Option (Bool)
  | 0, _, _, _, _, _, _, _, _ => none
  | k + 1, x9, x10, x12, x14, x16, x18, x20, x90 => if x90 = true then (some false) else (if ceq x12.re x12.im x14.re x14.im = true then (if ceq x16.re x16.im x9.re x9.im = true then (if x18 = x20 then ((pylonlaw02_square.f x10).bind fun t226 => ((pylonlaw02_square.f x9).bind fun t227 => (some (feq t226 t227)))) else (some false)) else (some false)) else (some false))
def pylonlaw02_PhasorTurns.f (k : Nat) (a0 : Int) (a1 : Int) (a2 : Int) (a3 : Int) : Option (Bool) := (pylonlaw02_awake.f).bind fun t212 => (if t212 = true then ((pylonlaw02_small.f a0 a1).bind fun t213 => ((phasor_Turn.f t213 (wrap64 (a2))).bind fun bt214 => ((phasor_Turn.f bt214.1 (wrap64 (a3))).bind fun bt216 => ((phasor_Turn.f t213 (wrap64 ((wrap64 (a2)) + (wrap64 (a3))))).bind fun bt218 => ((phasor_Turn.f t213 (wrap64 (4 * (wrap64 (a2))))).bind fun bt220 => ((phasor_Apparent.f k t213).bind fun bt222 => ((phasor_Apparent.f k bt214.1).bind fun bt224 => (if bt214.2 = 0 then (if bt216.2 = 0 then (if bt218.2 = 0 then (if bt220.2 = 0 then (if bt222.2 = 0 then (pylonlaw02_PhasorTurns.j0 k t213 bt214.1 bt216.1 bt218.1 bt220.1 bt222.1 bt224.1 (bt224.2 != 0)) else (pylonlaw02_PhasorTurns.j0 k t213 bt214.1 bt216.1 bt218.1 bt220.1 bt222.1 bt224.1 true)) else (pylonlaw02_PhasorTurns.j0 k t213 bt214.1 bt216.1 bt218.1 bt220.1 bt222.1 bt224.1 true)) else (pylonlaw02_PhasorTurns.j0 k t213 bt214.1 bt216.1 bt218.1 bt220.1 bt222.1 bt224.1 true)) else (pylonlaw02_PhasorTurns.j0 k t213 bt214.1 bt216.1 bt218.1 bt220.1 bt222.1 bt224.1 true)) else (pylonlaw02_PhasorTurns.j0 k t213 bt214.1 bt216.1 bt218.1 bt220.1 bt222.1 bt224.1 true))))))))) else (some false))
theorem pylonlaw02_PhasorTurns.mono_l : ∀ k, (∀ y0 y1 y2 y3 y4 y5 y6 y7, LeO (pylonlaw02_PhasorTurns.j0 k y0 y1 y2 y3 y4 y5 y6 y7) (pylonlaw02_PhasorTurns.j0 (k + 1) y0 y1 y2 y3 y4 y5 y6 y7))
  | 0 => fun _ _ _ _ _ _ _ _ r h => by simp [pylonlaw02_PhasorTurns.j0] at h
  | k + 1 => by
    have ih0 := pylonlaw02_PhasorTurns.mono_l k
    · intro y0 y1 y2 y3 y4 y5 y6 y7
      unfold pylonlaw02_PhasorTurns.j0
      repeat' first
      | (with_reducible exact ih0 _ _ _ _ _ _ _ _)
      | (with_reducible exact phasor_Apparent.mono _ _)
      | (with_reducible exact LeO.refl _)
      | (with_reducible exact LeO.none _)
      | (with_reducible refine LeO.ite ?_ ?_)
      | (with_reducible refine LeO.bind ?_ (fun _ => ?_))
      | exact ih0 _ _ _ _ _ _ _ _
      | exact phasor_Apparent.mono _ _
      | exact LeO.none _
      | refine LeO.ite ?_ ?_
      | refine LeO.bind ?_ (fun _ => ?_)
theorem pylonlaw02_PhasorTurns.mono : ∀ a0 a1 a2 a3 k, LeO (pylonlaw02_PhasorTurns.f k a0 a1 a2 a3) (pylonlaw02_PhasorTurns.f (k + 1) a0 a1 a2 a3) := by
  intro a0 a1 a2 a3 k
  have ih0 := pylonlaw02_PhasorTurns.mono_l k
  unfold pylonlaw02_PhasorTurns.f
  repeat' first
      | (with_reducible exact ih0 _ _ _ _ _ _ _ _)
      | (with_reducible exact phasor_Apparent.mono _ _)
      | (with_reducible exact LeO.refl _)
      | (with_reducible exact LeO.none _)
      | (with_reducible refine LeO.ite ?_ ?_)
      | (with_reducible refine LeO.bind ?_ (fun _ => ?_))
      | exact ih0 _ _ _ _ _ _ _ _
      | exact phasor_Apparent.mono _ _
      | exact LeO.none _
      | refine LeO.ite ?_ ?_
      | refine LeO.bind ?_ (fun _ => ?_)
set_option maxHeartbeats 8000000 in
set_option maxRecDepth 100000 in
theorem pylonlaw02_PhasorTurns.calls (k : Nat) (a0 : Int) (a1 : Int) (a2 : Int) (a3 : Int) (r : Bool) (w : World) (h : pylonlaw02_PhasorTurns.f k a0 a1 a2 a3 = some r) :
    Calls Try.prog 15 #[.int .i16 a0, .int .i16 a1, .int .i16 a2, .int .i16 a3] w fun e w' => e = .returned (.bool r) ∧ Below w.heap.size w w' := by
  have HB := Aside0.mk (Below.refl w.heap.size w)
  have H : ((pylonlaw02_awake.f).bind fun t212 => (if t212 = true then ((pylonlaw02_small.f a0 a1).bind fun t213 => ((phasor_Turn.f t213 (wrap64 (a2))).bind fun bt214 => ((phasor_Turn.f bt214.1 (wrap64 (a3))).bind fun bt216 => ((phasor_Turn.f t213 (wrap64 ((wrap64 (a2)) + (wrap64 (a3))))).bind fun bt218 => ((phasor_Turn.f t213 (wrap64 (4 * (wrap64 (a2))))).bind fun bt220 => ((phasor_Apparent.f k t213).bind fun bt222 => ((phasor_Apparent.f k bt214.1).bind fun bt224 => (if bt214.2 = 0 then (if bt216.2 = 0 then (if bt218.2 = 0 then (if bt220.2 = 0 then (if bt222.2 = 0 then (pylonlaw02_PhasorTurns.j0 k t213 bt214.1 bt216.1 bt218.1 bt220.1 bt222.1 bt224.1 (bt224.2 != 0)) else (pylonlaw02_PhasorTurns.j0 k t213 bt214.1 bt216.1 bt218.1 bt220.1 bt222.1 bt224.1 true)) else (pylonlaw02_PhasorTurns.j0 k t213 bt214.1 bt216.1 bt218.1 bt220.1 bt222.1 bt224.1 true)) else (pylonlaw02_PhasorTurns.j0 k t213 bt214.1 bt216.1 bt218.1 bt220.1 bt222.1 bt224.1 true)) else (pylonlaw02_PhasorTurns.j0 k t213 bt214.1 bt216.1 bt218.1 bt220.1 bt222.1 bt224.1 true)) else (pylonlaw02_PhasorTurns.j0 k t213 bt214.1 bt216.1 bt218.1 bt220.1 bt222.1 bt224.1 true))))))))) else (some false))) = some r := h
  clear h
  replace H := Option.bind_eq_some_iff.mp H
  obtain ⟨t212, A50, H⟩ := H
  replace H : (if t212 = true then ((pylonlaw02_small.f a0 a1).bind fun t213 => ((phasor_Turn.f t213 (wrap64 (a2))).bind fun bt214 => ((phasor_Turn.f bt214.1 (wrap64 (a3))).bind fun bt216 => ((phasor_Turn.f t213 (wrap64 ((wrap64 (a2)) + (wrap64 (a3))))).bind fun bt218 => ((phasor_Turn.f t213 (wrap64 (4 * (wrap64 (a2))))).bind fun bt220 => ((phasor_Apparent.f k t213).bind fun bt222 => ((phasor_Apparent.f k bt214.1).bind fun bt224 => (if bt214.2 = 0 then (if bt216.2 = 0 then (if bt218.2 = 0 then (if bt220.2 = 0 then (if bt222.2 = 0 then (pylonlaw02_PhasorTurns.j0 k t213 bt214.1 bt216.1 bt218.1 bt220.1 bt222.1 bt224.1 (bt224.2 != 0)) else (pylonlaw02_PhasorTurns.j0 k t213 bt214.1 bt216.1 bt218.1 bt220.1 bt222.1 bt224.1 true)) else (pylonlaw02_PhasorTurns.j0 k t213 bt214.1 bt216.1 bt218.1 bt220.1 bt222.1 bt224.1 true)) else (pylonlaw02_PhasorTurns.j0 k t213 bt214.1 bt216.1 bt218.1 bt220.1 bt222.1 bt224.1 true)) else (pylonlaw02_PhasorTurns.j0 k t213 bt214.1 bt216.1 bt218.1 bt220.1 bt222.1 bt224.1 true)) else (pylonlaw02_PhasorTurns.j0 k t213 bt214.1 bt216.1 bt218.1 bt220.1 bt222.1 bt224.1 true))))))))) else (some false)) = some r := H
  have A5 := Aside0.mk A50
  clear A50
  by_cases c6 : t212 = true
  · subst c6
    have H1 : ((pylonlaw02_small.f a0 a1).bind fun t213 => ((phasor_Turn.f t213 (wrap64 (a2))).bind fun bt214 => ((phasor_Turn.f bt214.1 (wrap64 (a3))).bind fun bt216 => ((phasor_Turn.f t213 (wrap64 ((wrap64 (a2)) + (wrap64 (a3))))).bind fun bt218 => ((phasor_Turn.f t213 (wrap64 (4 * (wrap64 (a2))))).bind fun bt220 => ((phasor_Apparent.f k t213).bind fun bt222 => ((phasor_Apparent.f k bt214.1).bind fun bt224 => (if bt214.2 = 0 then (if bt216.2 = 0 then (if bt218.2 = 0 then (if bt220.2 = 0 then (if bt222.2 = 0 then (pylonlaw02_PhasorTurns.j0 k t213 bt214.1 bt216.1 bt218.1 bt220.1 bt222.1 bt224.1 (bt224.2 != 0)) else (pylonlaw02_PhasorTurns.j0 k t213 bt214.1 bt216.1 bt218.1 bt220.1 bt222.1 bt224.1 true)) else (pylonlaw02_PhasorTurns.j0 k t213 bt214.1 bt216.1 bt218.1 bt220.1 bt222.1 bt224.1 true)) else (pylonlaw02_PhasorTurns.j0 k t213 bt214.1 bt216.1 bt218.1 bt220.1 bt222.1 bt224.1 true)) else (pylonlaw02_PhasorTurns.j0 k t213 bt214.1 bt216.1 bt218.1 bt220.1 bt222.1 bt224.1 true)) else (pylonlaw02_PhasorTurns.j0 k t213 bt214.1 bt216.1 bt218.1 bt220.1 bt222.1 bt224.1 true))))))))) = some r := by rw [if_pos rfl] at H; exact H
    clear H
    have H := H1
    clear H1
    replace H := Option.bind_eq_some_iff.mp H
    obtain ⟨t213, A70, H⟩ := H
    replace H : ((phasor_Turn.f t213 (wrap64 (a2))).bind fun bt214 => ((phasor_Turn.f bt214.1 (wrap64 (a3))).bind fun bt216 => ((phasor_Turn.f t213 (wrap64 ((wrap64 (a2)) + (wrap64 (a3))))).bind fun bt218 => ((phasor_Turn.f t213 (wrap64 (4 * (wrap64 (a2))))).bind fun bt220 => ((phasor_Apparent.f k t213).bind fun bt222 => ((phasor_Apparent.f k bt214.1).bind fun bt224 => (if bt214.2 = 0 then (if bt216.2 = 0 then (if bt218.2 = 0 then (if bt220.2 = 0 then (if bt222.2 = 0 then (pylonlaw02_PhasorTurns.j0 k t213 bt214.1 bt216.1 bt218.1 bt220.1 bt222.1 bt224.1 (bt224.2 != 0)) else (pylonlaw02_PhasorTurns.j0 k t213 bt214.1 bt216.1 bt218.1 bt220.1 bt222.1 bt224.1 true)) else (pylonlaw02_PhasorTurns.j0 k t213 bt214.1 bt216.1 bt218.1 bt220.1 bt222.1 bt224.1 true)) else (pylonlaw02_PhasorTurns.j0 k t213 bt214.1 bt216.1 bt218.1 bt220.1 bt222.1 bt224.1 true)) else (pylonlaw02_PhasorTurns.j0 k t213 bt214.1 bt216.1 bt218.1 bt220.1 bt222.1 bt224.1 true)) else (pylonlaw02_PhasorTurns.j0 k t213 bt214.1 bt216.1 bt218.1 bt220.1 bt222.1 bt224.1 true)))))))) = some r := H
    have A7 := Aside0.mk A70
    clear A70
    replace H := Option.bind_eq_some_iff.mp H
    obtain ⟨⟨t214, t215⟩, A80, H⟩ := H
    replace H : ((phasor_Turn.f t214 (wrap64 (a3))).bind fun bt216 => ((phasor_Turn.f t213 (wrap64 ((wrap64 (a2)) + (wrap64 (a3))))).bind fun bt218 => ((phasor_Turn.f t213 (wrap64 (4 * (wrap64 (a2))))).bind fun bt220 => ((phasor_Apparent.f k t213).bind fun bt222 => ((phasor_Apparent.f k t214).bind fun bt224 => (if t215 = 0 then (if bt216.2 = 0 then (if bt218.2 = 0 then (if bt220.2 = 0 then (if bt222.2 = 0 then (pylonlaw02_PhasorTurns.j0 k t213 t214 bt216.1 bt218.1 bt220.1 bt222.1 bt224.1 (bt224.2 != 0)) else (pylonlaw02_PhasorTurns.j0 k t213 t214 bt216.1 bt218.1 bt220.1 bt222.1 bt224.1 true)) else (pylonlaw02_PhasorTurns.j0 k t213 t214 bt216.1 bt218.1 bt220.1 bt222.1 bt224.1 true)) else (pylonlaw02_PhasorTurns.j0 k t213 t214 bt216.1 bt218.1 bt220.1 bt222.1 bt224.1 true)) else (pylonlaw02_PhasorTurns.j0 k t213 t214 bt216.1 bt218.1 bt220.1 bt222.1 bt224.1 true)) else (pylonlaw02_PhasorTurns.j0 k t213 t214 bt216.1 bt218.1 bt220.1 bt222.1 bt224.1 true))))))) = some r := H
    have A8 := Aside0.mk A80
    clear A80
    replace H := Option.bind_eq_some_iff.mp H
    obtain ⟨⟨t216, t217⟩, A90, H⟩ := H
    replace H : ((phasor_Turn.f t213 (wrap64 ((wrap64 (a2)) + (wrap64 (a3))))).bind fun bt218 => ((phasor_Turn.f t213 (wrap64 (4 * (wrap64 (a2))))).bind fun bt220 => ((phasor_Apparent.f k t213).bind fun bt222 => ((phasor_Apparent.f k t214).bind fun bt224 => (if t215 = 0 then (if t217 = 0 then (if bt218.2 = 0 then (if bt220.2 = 0 then (if bt222.2 = 0 then (pylonlaw02_PhasorTurns.j0 k t213 t214 t216 bt218.1 bt220.1 bt222.1 bt224.1 (bt224.2 != 0)) else (pylonlaw02_PhasorTurns.j0 k t213 t214 t216 bt218.1 bt220.1 bt222.1 bt224.1 true)) else (pylonlaw02_PhasorTurns.j0 k t213 t214 t216 bt218.1 bt220.1 bt222.1 bt224.1 true)) else (pylonlaw02_PhasorTurns.j0 k t213 t214 t216 bt218.1 bt220.1 bt222.1 bt224.1 true)) else (pylonlaw02_PhasorTurns.j0 k t213 t214 t216 bt218.1 bt220.1 bt222.1 bt224.1 true)) else (pylonlaw02_PhasorTurns.j0 k t213 t214 t216 bt218.1 bt220.1 bt222.1 bt224.1 true)))))) = some r := H
    have A9 := Aside0.mk A90
    clear A90
    replace H := Option.bind_eq_some_iff.mp H
    obtain ⟨⟨t218, t219⟩, A100, H⟩ := H
    replace H : ((phasor_Turn.f t213 (wrap64 (4 * (wrap64 (a2))))).bind fun bt220 => ((phasor_Apparent.f k t213).bind fun bt222 => ((phasor_Apparent.f k t214).bind fun bt224 => (if t215 = 0 then (if t217 = 0 then (if t219 = 0 then (if bt220.2 = 0 then (if bt222.2 = 0 then (pylonlaw02_PhasorTurns.j0 k t213 t214 t216 t218 bt220.1 bt222.1 bt224.1 (bt224.2 != 0)) else (pylonlaw02_PhasorTurns.j0 k t213 t214 t216 t218 bt220.1 bt222.1 bt224.1 true)) else (pylonlaw02_PhasorTurns.j0 k t213 t214 t216 t218 bt220.1 bt222.1 bt224.1 true)) else (pylonlaw02_PhasorTurns.j0 k t213 t214 t216 t218 bt220.1 bt222.1 bt224.1 true)) else (pylonlaw02_PhasorTurns.j0 k t213 t214 t216 t218 bt220.1 bt222.1 bt224.1 true)) else (pylonlaw02_PhasorTurns.j0 k t213 t214 t216 t218 bt220.1 bt222.1 bt224.1 true))))) = some r := H
    have A10 := Aside0.mk A100
    clear A100
    replace H := Option.bind_eq_some_iff.mp H
    obtain ⟨⟨t220, t221⟩, A110, H⟩ := H
    replace H : ((phasor_Apparent.f k t213).bind fun bt222 => ((phasor_Apparent.f k t214).bind fun bt224 => (if t215 = 0 then (if t217 = 0 then (if t219 = 0 then (if t221 = 0 then (if bt222.2 = 0 then (pylonlaw02_PhasorTurns.j0 k t213 t214 t216 t218 t220 bt222.1 bt224.1 (bt224.2 != 0)) else (pylonlaw02_PhasorTurns.j0 k t213 t214 t216 t218 t220 bt222.1 bt224.1 true)) else (pylonlaw02_PhasorTurns.j0 k t213 t214 t216 t218 t220 bt222.1 bt224.1 true)) else (pylonlaw02_PhasorTurns.j0 k t213 t214 t216 t218 t220 bt222.1 bt224.1 true)) else (pylonlaw02_PhasorTurns.j0 k t213 t214 t216 t218 t220 bt222.1 bt224.1 true)) else (pylonlaw02_PhasorTurns.j0 k t213 t214 t216 t218 t220 bt222.1 bt224.1 true)))) = some r := H
    have A11 := Aside0.mk A110
    clear A110
    replace H := Option.bind_eq_some_iff.mp H
    obtain ⟨⟨t222, t223⟩, A120, H⟩ := H
    replace H : ((phasor_Apparent.f k t214).bind fun bt224 => (if t215 = 0 then (if t217 = 0 then (if t219 = 0 then (if t221 = 0 then (if t223 = 0 then (pylonlaw02_PhasorTurns.j0 k t213 t214 t216 t218 t220 t222 bt224.1 (bt224.2 != 0)) else (pylonlaw02_PhasorTurns.j0 k t213 t214 t216 t218 t220 t222 bt224.1 true)) else (pylonlaw02_PhasorTurns.j0 k t213 t214 t216 t218 t220 t222 bt224.1 true)) else (pylonlaw02_PhasorTurns.j0 k t213 t214 t216 t218 t220 t222 bt224.1 true)) else (pylonlaw02_PhasorTurns.j0 k t213 t214 t216 t218 t220 t222 bt224.1 true)) else (pylonlaw02_PhasorTurns.j0 k t213 t214 t216 t218 t220 t222 bt224.1 true))) = some r := H
    have A12 := Aside0.mk A120
    clear A120
    replace H := Option.bind_eq_some_iff.mp H
    obtain ⟨⟨t224, t225⟩, A130, H⟩ := H
    replace H : (if t215 = 0 then (if t217 = 0 then (if t219 = 0 then (if t221 = 0 then (if t223 = 0 then (pylonlaw02_PhasorTurns.j0 k t213 t214 t216 t218 t220 t222 t224 (t225 != 0)) else (pylonlaw02_PhasorTurns.j0 k t213 t214 t216 t218 t220 t222 t224 true)) else (pylonlaw02_PhasorTurns.j0 k t213 t214 t216 t218 t220 t222 t224 true)) else (pylonlaw02_PhasorTurns.j0 k t213 t214 t216 t218 t220 t222 t224 true)) else (pylonlaw02_PhasorTurns.j0 k t213 t214 t216 t218 t220 t222 t224 true)) else (pylonlaw02_PhasorTurns.j0 k t213 t214 t216 t218 t220 t222 t224 true)) = some r := H
    have A13 := Aside0.mk A130
    clear A130
    have HC14 := Aside0.mk H
    clear H
    go_enter Try.func15, Try.ntmps15
    go_upto_region 10 with (first | ((with_reducible refine gate_callee (f := 24) rfl ?_); refine goesL_ (some 22) rfl rfl Try.func24 (by kernel_rfl) rfl #[] rfl (by (try simp only [List.map_toArray, List.map_cons, List.map_nil]); first | done | rfl | (simp only [List.length_drop, List.length_take]; rfl)) ?_; (with_reducible refine (pylonlaw02_awake.calls  true _ A5.out).mono ?_); rintro e w15 ⟨rfl, hb⟩; refine ⟨_, rfl, ?_⟩; have n0_ := Aside0.mk (below_step (by repeat (first | (with_reducible first | exact HB.out | apply below_alloc | apply pw_below_drewN | apply below_drew1) | exact HB.out)) hb); clear HB; have HB := n0_; clear n0_; (try clear hb); (try clear hb2); (try clear hk); (try clear hi)) | ((with_reducible refine gate_callee (f := 25) rfl ?_); refine goesL_ (some 26) rfl rfl Try.func25 (by kernel_rfl) rfl #[.int .i16 a0, .int .i16 a1] rfl (by (try simp only [List.map_toArray, List.map_cons, List.map_nil]); first | done | rfl | (simp only [List.length_drop, List.length_take]; rfl)) ?_; (with_reducible refine (pylonlaw02_small.calls a0 a1 t213 _ A7.out).mono ?_); rintro e w16 ⟨rfl, hb⟩; refine ⟨_, rfl, ?_⟩; have n0_ := Aside0.mk (below_step (by repeat (first | (with_reducible first | exact HB.out | apply below_alloc | apply pw_below_drewN | apply below_drew1) | exact HB.out)) hb); clear HB; have HB := n0_; clear n0_; (try clear hb); (try clear hb2); (try clear hk); (try clear hi)) | ((with_reducible refine gate_callee (f := 52) rfl ?_); refine goesL_ (some 31) rfl rfl Try.func52 (by kernel_rfl) rfl #[.complex .f64 t213.re t213.im, .int .i64 (wrap64 (a2))] rfl (by (try simp only [List.map_toArray, List.map_cons, List.map_nil]); first | done | rfl | (simp only [List.length_drop, List.length_take]; rfl)) ?_; (with_reducible refine (phasor_Turn.calls t213 (wrap64 (a2)) t214 t215 _ A8.out).mono ?_); rintro e w17 ⟨rfl, hb⟩; refine ⟨_, rfl, ?_⟩; have n0_ := Aside0.mk (below_step (by repeat (first | (with_reducible first | exact HB.out | apply below_alloc | apply pw_below_drewN | apply below_drew1) | exact HB.out)) hb); clear HB; have HB := n0_; clear n0_; (try clear hb); (try clear hb2); (try clear hk); (try clear hi)) | ((with_reducible refine gate_callee (f := 52) rfl ?_); refine goesL_ (some 38) rfl rfl Try.func52 (by kernel_rfl) rfl #[.complex .f64 t214.re t214.im, .int .i64 (wrap64 (a3))] rfl (by (try simp only [List.map_toArray, List.map_cons, List.map_nil]); first | done | rfl | (simp only [List.length_drop, List.length_take]; rfl)) ?_; (with_reducible refine (phasor_Turn.calls t214 (wrap64 (a3)) t216 t217 _ A9.out).mono ?_); rintro e w18 ⟨rfl, hb⟩; refine ⟨_, rfl, ?_⟩; have n0_ := Aside0.mk (below_step (by repeat (first | (with_reducible first | exact HB.out | apply below_alloc | apply pw_below_drewN | apply below_drew1) | exact HB.out)) hb); clear HB; have HB := n0_; clear n0_; (try clear hb); (try clear hb2); (try clear hk); (try clear hi)) | ((with_reducible refine gate_callee (f := 52) rfl ?_); refine goesL_ (some 48) rfl rfl Try.func52 (by kernel_rfl) rfl #[.complex .f64 t213.re t213.im, .int .i64 (wrap64 ((wrap64 (a2)) + (wrap64 (a3))))] rfl (by (try simp only [List.map_toArray, List.map_cons, List.map_nil]); first | done | rfl | (simp only [List.length_drop, List.length_take]; rfl)) ?_; (with_reducible refine (phasor_Turn.calls t213 (wrap64 ((wrap64 (a2)) + (wrap64 (a3)))) t218 t219 _ A10.out).mono ?_); rintro e w19 ⟨rfl, hb⟩; refine ⟨_, rfl, ?_⟩; have n0_ := Aside0.mk (below_step (by repeat (first | (with_reducible first | exact HB.out | apply below_alloc | apply pw_below_drewN | apply below_drew1) | exact HB.out)) hb); clear HB; have HB := n0_; clear n0_; (try clear hb); (try clear hb2); (try clear hk); (try clear hi)) | ((with_reducible refine gate_callee (f := 52) rfl ?_); refine goesL_ (some 56) rfl rfl Try.func52 (by kernel_rfl) rfl #[.complex .f64 t213.re t213.im, .int .i64 (wrap64 (4 * (wrap64 (a2))))] rfl (by (try simp only [List.map_toArray, List.map_cons, List.map_nil]); first | done | rfl | (simp only [List.length_drop, List.length_take]; rfl)) ?_; (with_reducible refine (phasor_Turn.calls t213 (wrap64 (4 * (wrap64 (a2)))) t220 t221 _ A11.out).mono ?_); rintro e w20 ⟨rfl, hb⟩; refine ⟨_, rfl, ?_⟩; have n0_ := Aside0.mk (below_step (by repeat (first | (with_reducible first | exact HB.out | apply below_alloc | apply pw_below_drewN | apply below_drew1) | exact HB.out)) hb); clear HB; have HB := n0_; clear n0_; (try clear hb); (try clear hb2); (try clear hk); (try clear hi)) | ((with_reducible refine gate_callee (f := 53) rfl ?_); refine goesL_ (some 61) rfl rfl Try.func53 (by kernel_rfl) rfl #[.complex .f64 t213.re t213.im] rfl (by (try simp only [List.map_toArray, List.map_cons, List.map_nil]); first | done | rfl | (simp only [List.length_drop, List.length_take]; rfl)) ?_; (with_reducible refine (phasor_Apparent.calls k t213 t222 t223 _ A12.out).mono ?_); rintro e w21 ⟨rfl, hb⟩; refine ⟨_, rfl, ?_⟩; have n0_ := Aside0.mk (below_step (by repeat (first | (with_reducible first | exact HB.out | apply below_alloc | apply pw_below_drewN | apply below_drew1) | exact HB.out)) hb); clear HB; have HB := n0_; clear n0_; (try clear hb); (try clear hb2); (try clear hk); (try clear hi)) | ((with_reducible refine gate_callee (f := 53) rfl ?_); refine goesL_ (some 66) rfl rfl Try.func53 (by kernel_rfl) rfl #[.complex .f64 t214.re t214.im] rfl (by (try simp only [List.map_toArray, List.map_cons, List.map_nil]); first | done | rfl | (simp only [List.length_drop, List.length_take]; rfl)) ?_; (with_reducible refine (phasor_Apparent.calls k t214 t224 t225 _ A13.out).mono ?_); rintro e w22 ⟨rfl, hb⟩; refine ⟨_, rfl, ?_⟩; have n0_ := Aside0.mk (below_step (by repeat (first | (with_reducible first | exact HB.out | apply below_alloc | apply pw_below_drewN | apply below_drew1) | exact HB.out)) hb); clear HB; have HB := n0_; clear n0_; (try clear hb); (try clear hb2); (try clear hk); (try clear hi)))
    (try simp only [Act.put, List.setIfInBounds_toArray, List.set_cons_zero, List.set_cons_succ])
    go_cut [90] (fun v90 wc => ∃ (kq : Nat) (x90_13 : Bool), v90 = .bool x90_13 ∧ Aside0 (pylonlaw02_PhasorTurns.j0 kq t213 t214 t216 t218 t220 t222 t224 x90_13 = some r) ∧ Aside0 (kq ≤ k) ∧ Aside0 (Below w.heap.size w wc))
    case first =>
      have H := HC14.out
      clear HC14
      by_cases c23 : t215 = 0
      · rw [if_pos c23] at H
        have c23b0 : (t215 == 0) = true := beq_iff_eq.mpr c23
        have c23b1 : (t215 != 0) = false := bne_eq_false_iff_eq.mpr c23
        clear c23
        (first | rw [c23b0] | (simp only [i64_w, i32_w]; rw [c23b0]) | skip)
        by_cases c24 : t217 = 0
        · rw [if_pos c24] at H
          have c24b0 : (t217 == 0) = true := beq_iff_eq.mpr c24
          have c24b1 : (t217 != 0) = false := bne_eq_false_iff_eq.mpr c24
          clear c24
          by_cases c25 : t219 = 0
          · rw [if_pos c25] at H
            have c25b0 : (t219 == 0) = true := beq_iff_eq.mpr c25
            have c25b1 : (t219 != 0) = false := bne_eq_false_iff_eq.mpr c25
            clear c25
            by_cases c26 : t221 = 0
            · rw [if_pos c26] at H
              have c26b0 : (t221 == 0) = true := beq_iff_eq.mpr c26
              have c26b1 : (t221 != 0) = false := bne_eq_false_iff_eq.mpr c26
              clear c26
              by_cases c27 : t223 = 0
              · rw [if_pos c27] at H
                have c27b0 : (t223 == 0) = true := beq_iff_eq.mpr c27
                have c27b1 : (t223 != 0) = false := bne_eq_false_iff_eq.mpr c27
                clear c27
                have H' := Aside0.mk H
                clear H
                go_wp2
                go_meet
                case rel => exact ⟨_, ((t225 != 0)), (by first | rfl | (simp; done) | (simp [*]; done)), H', ⟨by first | omega | exact Nat.le_refl _⟩, ⟨by repeat (first | (with_reducible first | exact HB.out | apply below_alloc | apply pw_below_drewN | apply below_drew1) | exact HB.out)⟩⟩
              · rw [if_neg c27] at H
                have c27b0 : (t223 == 0) = false := beq_eq_false_iff_ne.mpr c27
                have c27b1 : (t223 != 0) = true := bne_iff_ne.mpr c27
                have H' := Aside0.mk H
                clear H
                go_wp2
                go_meet
                case rel => exact ⟨_, (true), (by first | rfl | (simp; done) | (simp [*]; done)), H', ⟨by first | omega | exact Nat.le_refl _⟩, ⟨by repeat (first | (with_reducible first | exact HB.out | apply below_alloc | apply pw_below_drewN | apply below_drew1) | exact HB.out)⟩⟩
            · rw [if_neg c26] at H
              have c26b0 : (t221 == 0) = false := beq_eq_false_iff_ne.mpr c26
              have c26b1 : (t221 != 0) = true := bne_iff_ne.mpr c26
              have H' := Aside0.mk H
              clear H
              go_wp2
              go_meet
              case rel => exact ⟨_, (true), (by first | rfl | (simp; done) | (simp [*]; done)), H', ⟨by first | omega | exact Nat.le_refl _⟩, ⟨by repeat (first | (with_reducible first | exact HB.out | apply below_alloc | apply pw_below_drewN | apply below_drew1) | exact HB.out)⟩⟩
          · rw [if_neg c25] at H
            have c25b0 : (t219 == 0) = false := beq_eq_false_iff_ne.mpr c25
            have c25b1 : (t219 != 0) = true := bne_iff_ne.mpr c25
            have H' := Aside0.mk H
            clear H
            go_wp2
            go_meet
            case rel => exact ⟨_, (true), (by first | rfl | (simp; done) | (simp [*]; done)), H', ⟨by first | omega | exact Nat.le_refl _⟩, ⟨by repeat (first | (with_reducible first | exact HB.out | apply below_alloc | apply pw_below_drewN | apply below_drew1) | exact HB.out)⟩⟩
        · rw [if_neg c24] at H
          have c24b0 : (t217 == 0) = false := beq_eq_false_iff_ne.mpr c24
          have c24b1 : (t217 != 0) = true := bne_iff_ne.mpr c24
          have H' := Aside0.mk H
          clear H
          go_wp2
          go_meet
          case rel => exact ⟨_, (true), (by first | rfl | (simp; done) | (simp [*]; done)), H', ⟨by first | omega | exact Nat.le_refl _⟩, ⟨by repeat (first | (with_reducible first | exact HB.out | apply below_alloc | apply pw_below_drewN | apply below_drew1) | exact HB.out)⟩⟩
      · rw [if_neg c23] at H
        have c23b0 : (t215 == 0) = false := beq_eq_false_iff_ne.mpr c23
        have c23b1 : (t215 != 0) = true := bne_iff_ne.mpr c23
        (first | rw [c23b0] | (simp only [i64_w, i32_w]; rw [c23b0]) | skip)
        have H' := Aside0.mk H
        clear H
        go_wp2
        go_meet
        case rel => exact ⟨_, (true), (by first | rfl | (simp; done) | (simp [*]; done)), H', ⟨by first | omega | exact Nat.le_refl _⟩, ⟨by repeat (first | (with_reducible first | exact HB.out | apply below_alloc | apply pw_below_drewN | apply below_drew1) | exact HB.out)⟩⟩
    case rest =>
      clear HC14
      try clear c1
      try clear c2
      try clear p2
      try clear c5
      try clear c6
      try clear p6
      try clear c15
      try clear c23
      try clear c23b0
      try clear c23b1
      try clear c24
      try clear c24b0
      try clear c24b1
      try clear c25
      try clear c25b0
      try clear c25b1
      try clear c26
      try clear c26b0
      try clear c26b1
      try clear c27
      try clear c27b0
      try clear c27b1
      obtain ⟨kq, x90_13, rfl, HA, HJ13, HB⟩ := hcut
      cases kq with
      | zero => exact absurd HA.out (by simp [pylonlaw02_PhasorTurns.j0])
      | succ kj13 =>
        have H := HA.out
        clear HA
        simp only [pylonlaw02_PhasorTurns.j0] at H
        by_cases c28 : x90_13 = true
        · subst c28
          have H1 : (some false) = some r := by rw [if_pos rfl] at H; exact H
          clear H
          have H := H1
          clear H1
          obtain rfl := Option.some.inj H
          go_wp2
          go_ret
          exact ⟨by first | rfl | (simp [errW_none, errW_some] <;> rfl) | (simp [*, errW_none, errW_some] <;> rfl), by repeat (first | (with_reducible first | exact HB.out | apply below_alloc | apply pw_below_drewN | apply below_drew1) | exact HB.out)⟩
        · replace c28 := Bool.eq_false_iff.mpr c28
          subst c28
          have H1 : (if ceq t216.re t216.im t218.re t218.im = true then (if ceq t220.re t220.im t213.re t213.im = true then (if t222 = t224 then ((pylonlaw02_square.f t214).bind fun t226 => ((pylonlaw02_square.f t213).bind fun t227 => (some (feq t226 t227)))) else (some false)) else (some false)) else (some false)) = some r := by rw [if_neg (show ¬ (false = true) by decide)] at H; exact H
          clear H
          have H := H1
          clear H1
          by_cases c29 : ceq t216.re t216.im t218.re t218.im = true
          · rw [if_pos c29] at H
            have c29b0 : ceq t216.re t216.im t218.re t218.im = true := c29
            clear c29
            by_cases c30 : ceq t220.re t220.im t213.re t213.im = true
            · rw [if_pos c30] at H
              have c30b0 : ceq t220.re t220.im t213.re t213.im = true := c30
              clear c30
              by_cases c31 : t222 = t224
              · rw [if_pos c31] at H
                have c31b0 : (t222 == t224) = true := beq_iff_eq.mpr c31
                have c31b1 : (t222 != t224) = false := bne_eq_false_iff_eq.mpr c31
                clear c31
                replace H := Option.bind_eq_some_iff.mp H
                obtain ⟨t226, A320, H⟩ := H
                replace H : ((pylonlaw02_square.f t213).bind fun t227 => (some (feq t226 t227))) = some r := H
                have A32 := Aside0.mk A320
                clear A320
                replace H := Option.bind_eq_some_iff.mp H
                obtain ⟨t227, A330, H⟩ := H
                replace H : (some (feq t226 t227)) = some r := H
                have A33 := Aside0.mk A330
                clear A330
                obtain rfl := Option.some.inj H
                go_wp2_with (first | (go_at_call 27; (with_reducible refine (pylonlaw02_square.calls t214 t226 _ A32.out).mono ?_); rintro e w34 ⟨rfl, hb⟩; have n0_ := Aside0.mk (below_step (by repeat (first | (with_reducible first | exact HB.out | apply below_alloc | apply pw_below_drewN | apply below_drew1) | exact HB.out)) hb); clear HB; have HB := n0_; clear n0_; (try clear hb); (try clear hb2); (try clear hk); (try clear hi)) | (go_at_call 27; (with_reducible refine (pylonlaw02_square.calls t213 t227 _ A33.out).mono ?_); rintro e w35 ⟨rfl, hb⟩; have n0_ := Aside0.mk (below_step (by repeat (first | (with_reducible first | exact HB.out | apply below_alloc | apply pw_below_drewN | apply below_drew1) | exact HB.out)) hb); clear HB; have HB := n0_; clear n0_; (try clear hb); (try clear hb2); (try clear hk); (try clear hi)))
                go_ret
                exact ⟨by first | rfl | (simp [errW_none, errW_some] <;> rfl) | (simp [*, errW_none, errW_some] <;> rfl), by repeat (first | (with_reducible first | exact HB.out | apply below_alloc | apply pw_below_drewN | apply below_drew1) | exact HB.out)⟩
              · rw [if_neg c31] at H
                have c31b0 : (t222 == t224) = false := beq_eq_false_iff_ne.mpr c31
                have c31b1 : (t222 != t224) = true := bne_iff_ne.mpr c31
                obtain rfl := Option.some.inj H
                go_wp2
                go_ret
                exact ⟨by first | rfl | (simp [errW_none, errW_some] <;> rfl) | (simp [*, errW_none, errW_some] <;> rfl), by repeat (first | (with_reducible first | exact HB.out | apply below_alloc | apply pw_below_drewN | apply below_drew1) | exact HB.out)⟩
            · rw [if_neg c30] at H
              have c30b0 : ceq t220.re t220.im t213.re t213.im = false := Bool.eq_false_iff.mpr c30
              clear c30
              obtain rfl := Option.some.inj H
              go_wp2
              go_ret
              exact ⟨by first | rfl | (simp [errW_none, errW_some] <;> rfl) | (simp [*, errW_none, errW_some] <;> rfl), by repeat (first | (with_reducible first | exact HB.out | apply below_alloc | apply pw_below_drewN | apply below_drew1) | exact HB.out)⟩
          · rw [if_neg c29] at H
            have c29b0 : ceq t216.re t216.im t218.re t218.im = false := Bool.eq_false_iff.mpr c29
            clear c29
            obtain rfl := Option.some.inj H
            go_wp2
            go_ret
            exact ⟨by first | rfl | (simp [errW_none, errW_some] <;> rfl) | (simp [*, errW_none, errW_some] <;> rfl), by repeat (first | (with_reducible first | exact HB.out | apply below_alloc | apply pw_below_drewN | apply below_drew1) | exact HB.out)⟩
  · replace c6 := Bool.eq_false_iff.mpr c6
    subst c6
    have H1 : (some false) = some r := by rw [if_neg (show ¬ (false = true) by decide)] at H; exact H
    clear H
    have H := H1
    clear H1
    obtain rfl := Option.some.inj H
    go_enter Try.func15, Try.ntmps15
    go_wp2_with (first | ((with_reducible refine gate_callee (f := 24) rfl ?_); refine goesL_ (some 22) rfl rfl Try.func24 (by kernel_rfl) rfl #[] rfl (by (try simp only [List.map_toArray, List.map_cons, List.map_nil]); first | done | rfl | (simp only [List.length_drop, List.length_take]; rfl)) ?_; (with_reducible refine (pylonlaw02_awake.calls  false _ A5.out).mono ?_); rintro e w36 ⟨rfl, hb⟩; refine ⟨_, rfl, ?_⟩; have n0_ := Aside0.mk (below_step (by repeat (first | (with_reducible first | exact HB.out | apply below_alloc | apply pw_below_drewN | apply below_drew1) | exact HB.out)) hb); clear HB; have HB := n0_; clear n0_; (try clear hb); (try clear hb2); (try clear hk); (try clear hi)))
    go_ret
    exact ⟨by first | rfl | (simp [errW_none, errW_some] <;> rfl) | (simp [*, errW_none, errW_some] <;> rfl), by repeat (first | (with_reducible first | exact HB.out | apply below_alloc | apply pw_below_drewN | apply below_drew1) | exact HB.out)⟩

/-- THE ONE PURE STATEMENT of pylonlaw02_PhasorTurns: yours. -/
def pylonlaw02_PhasorTurns.Pure : Prop := ∀ (a0 : Int) (a1 : Int) (a2 : Int) (a3 : Int), (Lit.int .i16 a0).wf = true → (Lit.int .i16 a1).wf = true → (Lit.int .i16 a2).wf = true → (Lit.int .i16 a3).wf = true → ∃ k, pylonlaw02_PhasorTurns.f k a0 a1 a2 a3 = some true
theorem pylonlaw02_PhasorTurns.walk (P : pylonlaw02_PhasorTurns.Pure) (a0 : Int) (a1 : Int) (a2 : Int) (a3 : Int) (w : World) (w0 : (Lit.int .i16 a0).wf = true) (w1 : (Lit.int .i16 a1).wf = true) (w2 : (Lit.int .i16 a2).wf = true) (w3 : (Lit.int .i16 a3).wf = true) :
    Calls Try.prog 15 #[.int .i16 a0, .int .i16 a1, .int .i16 a2, .int .i16 a3] w fun e w' => e = .returned (.bool true) ∧ Below w.heap.size w w' := by
  obtain ⟨k, h⟩ := P a0 a1 a2 a3 w0 w1 w2 w3
  refine (pylonlaw02_PhasorTurns.calls k a0 a1 a2 a3 true w h).mono ?_
  rintro e w' ⟨rfl, hd⟩
  exact ⟨rfl, hd⟩

end Go.Proofs.Ytapimggcnneabaa.PH
