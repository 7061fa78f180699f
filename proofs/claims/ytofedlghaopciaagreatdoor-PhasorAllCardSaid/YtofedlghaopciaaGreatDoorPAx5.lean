-- Written by a program of this session for this claim (wip/print2.sh). Lean checks it.
import Derived.Test.YtofedlghaopciaaGreatDoorPAx0
import Derived.Test.YtofedlghaopciaaGreatDoorPAx1
import Derived.Test.YtofedlghaopciaaGreatDoorPAx3
import Derived.Test.YtofedlghaopciaaGreatDoorPAx4
import Derived.Test.YtofedlghaopciaaGreatDoorPk1
namespace Go.Proofs.YtofedlghaopciaaGreatDoor.PA
open Go.Proofs.YtofedlghaopciaaGreatDoorW.PrintWords
attribute [local go_sem high] fx_eql fx_neq fx_lss fx_leq fx_gtr fx_geq fx_add fx_sub fx_mul fx_neg fx_toint cxx_add cxx_sub cxx_mul cxx_eql cxx_neq cxx_pick st_float st_complex
open Go.RowKit Go.Proofs.YtofedlghaopciaaGreatDoorW.PrintWords Go.Proofs.YtofedlghaopciaaGreatDoorW.PrintLast Go.Proofs.YtofedlghaopciaaGreatDoorW.PrintMore
attribute [local go_sem] max2_int min2_int max_two min_two max_three min_three max_four min_four   -- for this text's walks alone
set_option linter.unusedVariables false
set_option linter.unusedSimpArgs false

/-! ### fix_root: function 60 -/
mutual
def fix_root.j0 : Nat → Int → Int → Bool → Option (Int)
 | 0, _, _, _ => none
 | k + 1, x0, x1, x17 => if x17 = true then (some 0) else ((bits_Len64.f k x1).bind fun t134 => (if x0 = 0 then (fix_root.j1 k x0 x1 t134) else ((bits_Len64.f k x0).bind fun t135 => (fix_root.j1 k x0 x1 (wrap64 (64 + t135))))))
def fix_root.j1 : Nat → Int → Int → Int → Option (Int)
 | 0, _, _, _ => none
 | k + 1, x0, x1, x5 => if x5 < 127 then (if 0 ≤ (wrap64 (Int.tdiv (wrap64 (x5 + 1)) 2)) then (fix_root.j2 k x0 x1 (shl .u64 1 (wrap64 (Int.tdiv (wrap64 (x5 + 1)) 2)))) else (none)) else (fix_root.j2 k x0 x1 18446744073709551615)
def fix_root.j2 : Nat → Int → Int → Int → Option (Int)
 | 0, _, _, _ => none
 | k + 1, x0, x1, x6 => fix_root.l0 k x0 x1 x6
def fix_root.l0 : Nat → Int → Int → Int → Option (Int)
 | 0, _, _, _ => none
 | k + 1, x0, x1, x6 => if x0 ≥ x6 then (some x6) else ((bits_Div64.f k x0 x1 x6).bind fun bt136 => (if c01 0 = true then (if (Go.bits .or .u64 ((u64add x6 bt136.1 0) / 2) (IntKind.u64.wrap ((u64car x6 bt136.1 0) * 9223372036854775808))) ≥ x6 then (some x6) else (fix_root.l0 k x0 x1 (Go.bits .or .u64 ((u64add x6 bt136.1 0) / 2) (IntKind.u64.wrap ((u64car x6 bt136.1 0) * 9223372036854775808))))) else (none)))
end
def fix_root.f (k : Nat) (a0 : Int) (a1 : Int) : Option (Int) := if a0 = 0 then (fix_root.j0 k a0 a1 (a1 == 0)) else (fix_root.j0 k a0 a1 false)
theorem fix_root.mono_l : ∀ k, (∀ y0 y1 y2, LeO (fix_root.j0 k y0 y1 y2) (fix_root.j0 (k + 1) y0 y1 y2)) ∧ (∀ y0 y1 y2, LeO (fix_root.j1 k y0 y1 y2) (fix_root.j1 (k + 1) y0 y1 y2)) ∧ (∀ y0 y1 y2, LeO (fix_root.j2 k y0 y1 y2) (fix_root.j2 (k + 1) y0 y1 y2)) ∧ (∀ y0 y1 y2, LeO (fix_root.l0 k y0 y1 y2) (fix_root.l0 (k + 1) y0 y1 y2))
 | 0 => ⟨fun _ _ _ r h => by simp [fix_root.j0] at h, fun _ _ _ r h => by simp [fix_root.j1] at h, fun _ _ _ r h => by simp [fix_root.j2] at h, fun _ _ _ r h => by simp [fix_root.l0] at h⟩
 | k + 1 => by
  obtain ⟨ih0, ih1, ih2, ih3⟩ := fix_root.mono_l k
  refine ⟨?_, ?_, ?_, ?_⟩
  ·
   intro y0 y1 y2
   unfold fix_root.j0
   repeat' first
   | (with_reducible exact ih0 _ _ _)
   | (with_reducible exact ih1 _ _ _)
   | (with_reducible exact ih2 _ _ _)
   | (with_reducible exact ih3 _ _ _)
   | (with_reducible exact bits_Div64.mono _ _ _ _)
   | (with_reducible exact bits_Len64.mono _ _)
   | (with_reducible exact LeO.refl _)
   | (with_reducible exact LeO.none _)
   | (with_reducible refine LeO.ite ?_ ?_)
   | (with_reducible refine LeO.bind ?_ (fun _ => ?_))
   | exact ih0 _ _ _
   | exact ih1 _ _ _
   | exact ih2 _ _ _
   | exact ih3 _ _ _
   | exact bits_Div64.mono _ _ _ _
   | exact bits_Len64.mono _ _
   | exact LeO.none _
   | refine LeO.ite ?_ ?_
   | refine LeO.bind ?_ (fun _ => ?_)
  ·
   intro y0 y1 y2
   unfold fix_root.j1
   repeat' first
   | (with_reducible exact ih0 _ _ _)
   | (with_reducible exact ih1 _ _ _)
   | (with_reducible exact ih2 _ _ _)
   | (with_reducible exact ih3 _ _ _)
   | (with_reducible exact bits_Div64.mono _ _ _ _)
   | (with_reducible exact bits_Len64.mono _ _)
   | (with_reducible exact LeO.refl _)
   | (with_reducible exact LeO.none _)
   | (with_reducible refine LeO.ite ?_ ?_)
   | (with_reducible refine LeO.bind ?_ (fun _ => ?_))
   | exact ih0 _ _ _
   | exact ih1 _ _ _
   | exact ih2 _ _ _
   | exact ih3 _ _ _
   | exact bits_Div64.mono _ _ _ _
   | exact bits_Len64.mono _ _
   | exact LeO.none _
   | refine LeO.ite ?_ ?_
   | refine LeO.bind ?_ (fun _ => ?_)
  ·
   intro y0 y1 y2
   unfold fix_root.j2
   repeat' first
   | (with_reducible exact ih0 _ _ _)
   | (with_reducible exact ih1 _ _ _)
   | (with_reducible exact ih2 _ _ _)
   | (with_reducible exact ih3 _ _ _)
   | (with_reducible exact bits_Div64.mono _ _ _ _)
   | (with_reducible exact bits_Len64.mono _ _)
   | (with_reducible exact LeO.refl _)
   | (with_reducible exact LeO.none _)
   | (with_reducible refine LeO.ite ?_ ?_)
   | (with_reducible refine LeO.bind ?_ (fun _ => ?_))
   | exact ih0 _ _ _
   | exact ih1 _ _ _
   | exact ih2 _ _ _
   | exact ih3 _ _ _
   | exact bits_Div64.mono _ _ _ _
   | exact bits_Len64.mono _ _
   | exact LeO.none _
   | refine LeO.ite ?_ ?_
   | refine LeO.bind ?_ (fun _ => ?_)
  ·
   intro y0 y1 y2
   unfold fix_root.l0
   repeat' first
   | (with_reducible exact ih0 _ _ _)
   | (with_reducible exact ih1 _ _ _)
   | (with_reducible exact ih2 _ _ _)
   | (with_reducible exact ih3 _ _ _)
   | (with_reducible exact bits_Div64.mono _ _ _ _)
   | (with_reducible exact bits_Len64.mono _ _)
   | (with_reducible exact LeO.refl _)
   | (with_reducible exact LeO.none _)
   | (with_reducible refine LeO.ite ?_ ?_)
   | (with_reducible refine LeO.bind ?_ (fun _ => ?_))
   | exact ih0 _ _ _
   | exact ih1 _ _ _
   | exact ih2 _ _ _
   | exact ih3 _ _ _
   | exact bits_Div64.mono _ _ _ _
   | exact bits_Len64.mono _ _
   | exact LeO.none _
   | refine LeO.ite ?_ ?_
   | refine LeO.bind ?_ (fun _ => ?_)
theorem fix_root.mono : ∀ a0 a1 k, LeO (fix_root.f k a0 a1) (fix_root.f (k + 1) a0 a1) := by
 intro a0 a1 k
 obtain ⟨ih0, ih1, ih2, ih3⟩ := fix_root.mono_l k
 unfold fix_root.f
 repeat' first
   | (with_reducible exact ih0 _ _ _)
   | (with_reducible exact ih1 _ _ _)
   | (with_reducible exact ih2 _ _ _)
   | (with_reducible exact ih3 _ _ _)
   | (with_reducible exact bits_Div64.mono _ _ _ _)
   | (with_reducible exact bits_Len64.mono _ _)
   | (with_reducible exact LeO.refl _)
   | (with_reducible exact LeO.none _)
   | (with_reducible refine LeO.ite ?_ ?_)
   | (with_reducible refine LeO.bind ?_ (fun _ => ?_))
   | exact ih0 _ _ _
   | exact ih1 _ _ _
   | exact ih2 _ _ _
   | exact ih3 _ _ _
   | exact bits_Div64.mono _ _ _ _
   | exact bits_Len64.mono _ _
   | exact LeO.none _
   | refine LeO.ite ?_ ?_
   | refine LeO.bind ?_ (fun _ => ?_)
set_option maxHeartbeats 8000000 in
set_option maxRecDepth 100000 in
theorem fix_root.calls (k : Nat) (a0 : Int) (a1 : Int) (r : Int) (w : World) (h : fix_root.f k a0 a1 = some r) :
  Calls Tryz.prog 60 #[.int .u64 a0, .int .u64 a1] w fun e w' => e = .returned (.int .u64 r) ∧ Drawn0 w w' := by
 have hx58 := @ext58
 have H : (if a0 = 0 then (fix_root.j0 k a0 a1 (a1 == 0)) else (fix_root.j0 k a0 a1 false)) = some r := h
 clear h
 have HC3 := Aside0.mk H
 clear H
 go_enter Tryz.func60, Tryz.ntmps60
 go_upto_region 1 with (fail)
 go_cut [17] (fun v17 wc => ∃ (kq : Nat) (x17_2 : Bool), v17 = .bool x17_2 ∧ Aside0 (fix_root.j0 kq a0 a1 x17_2 = some r) ∧ Aside0 (kq ≤ k) ∧ Drawn0 w wc)
 case first =>
  have H := HC3.out
  clear HC3
  by_cases c4 : a0 = 0
  ·
   rw [if_pos c4] at H
   obtain ⟨c4b0, c4b1⟩ := eqT_ c4
   clear c4
   (first | rw [c4b0] | (simp only [i64_w, i32_w]; rw [c4b0]) | skip)
   have H' := Aside0.mk H
   clear H
   go_wp2
   go_meet
   case rel => exact ⟨_, ((a1 == 0)), (by first | rfl | (simp; done) | (simp [*]; done)), H', ⟨by first | omega | exact Nat.le_refl _⟩, by repeat (first | exact Drawn0.refl _ | apply Drawn0.step)⟩
  ·
   rw [if_neg c4] at H
   obtain ⟨c4b0, c4b1⟩ := eqF_ c4
   (first | rw [c4b0] | (simp only [i64_w, i32_w]; rw [c4b0]) | skip)
   have H' := Aside0.mk H
   clear H
   go_wp2
   go_meet
   case rel => exact ⟨_, (false), (by first | rfl | (simp; done) | (simp [*]; done)), H', ⟨by first | omega | exact Nat.le_refl _⟩, by repeat (first | exact Drawn0.refl _ | apply Drawn0.step)⟩
 case rest =>
  clear HC3
  try clear p2
  try clear c4
  try clear c4b0
  try clear c4b1
  obtain ⟨kq, x17_2, rfl, HA, HJ2, ⟨mc2, rfl⟩⟩ := hcut
  cases kq with
  | zero => exact absurd HA.out (by simp [fix_root.j0])
  | succ kj2 =>
   have H := HA.out
   clear HA
   simp only [fix_root.j0] at H
   by_cases c5 : x17_2 = true
   ·
    subst c5
    have H1 : (some 0) = some r := by rw [if_pos rfl] at H; exact H
    clear H
    have H := H1
    clear H1
    obtain rfl := Option.some.inj H
    go_wp2
    go_ret
    exact ⟨by first | rfl | (simp; done) | (simp [*]; done), by repeat (first | exact Drawn0.refl _ | apply Drawn0.step)⟩
   ·
    replace c5 := Bool.eq_false_iff.mpr c5
    subst c5
    have H1 : ((bits_Len64.f kj2 a1).bind fun t134 => (if a0 = 0 then (fix_root.j1 kj2 a0 a1 t134) else ((bits_Len64.f kj2 a0).bind fun t135 => (fix_root.j1 kj2 a0 a1 (wrap64 (64 + t135)))))) = some r := by rw [if_neg (show ¬ (false = true) by decide)] at H; exact H
    clear H
    have H := H1
    clear H1
    replace H := Option.bind_eq_some_iff.mp H
    obtain ⟨t134, A60, H⟩ := H
    replace H : (if a0 = 0 then (fix_root.j1 kj2 a0 a1 t134) else ((bits_Len64.f kj2 a0).bind fun t135 => (fix_root.j1 kj2 a0 a1 (wrap64 (64 + t135))))) = some r := H
    have A6 := Aside0.mk A60
    clear A60
    have HC7 := Aside0.mk H
    clear H
    go_upto_if 21 with (first | ((with_reducible refine gate_callee (f := 80) rfl ?_); refine gL_ (some 19) Tryz.func80 #[.int .u64 a1] ?_; (with_reducible refine (bits_Len64.calls kj2 a1 t134 _ A6.out).mono ?_); rintro e w' ⟨rfl, ⟨nd, rfl⟩⟩; refine ⟨_, rfl, ?_⟩))
    (try simp only [Act.put, List.setIfInBounds_toArray, List.set_cons_zero, List.set_cons_succ])
    go_cut [5] (fun v5 wc => ∃ (kq : Nat) (x5_6 : Int), v5 = .int .i64 x5_6 ∧ Aside0 (fix_root.j1 kq a0 a1 x5_6 = some r) ∧ Aside0 (kq ≤ kj2) ∧ Drawn0 w wc)
    case first =>
     have H := HC7.out
     clear HC7
     by_cases c8 : a0 = 0
     ·
      rw [if_pos c8] at H
      obtain ⟨c8b0, c8b1⟩ := eqT_ c8
      clear c8
      (first | rw [c8b0] | (simp only [i64_w, i32_w]; rw [c8b0]) | skip)
      have H' := Aside0.mk H
      clear H
      go_wp2
      go_meet
      case rel => exact ⟨_, (t134), (by first | rfl | (simp; done) | (simp [*]; done)), H', ⟨by have := HJ2.out; first | omega | exact Nat.le_refl _⟩, by repeat (first | exact Drawn0.refl _ | apply Drawn0.step)⟩
     ·
      rw [if_neg c8] at H
      obtain ⟨c8b0, c8b1⟩ := eqF_ c8
      (first | rw [c8b0] | (simp only [i64_w, i32_w]; rw [c8b0]) | skip)
      replace H := Option.bind_eq_some_iff.mp H
      obtain ⟨t135, A90, H⟩ := H
      replace H : (fix_root.j1 kj2 a0 a1 (wrap64 (64 + t135))) = some r := H
      have A9 := Aside0.mk A90
      clear A90
      have H' := Aside0.mk H
      clear H
      go_wp2_with (first | ((with_reducible refine gate_callee (f := 80) rfl ?_); refine gL_ (some 23) Tryz.func80 #[.int .u64 a0] ?_; (with_reducible refine (bits_Len64.calls kj2 a0 t135 _ A9.out).mono ?_); rintro e w' ⟨rfl, ⟨nd, rfl⟩⟩; refine ⟨_, rfl, ?_⟩))
      go_meet
      case rel => exact ⟨_, (wrap64 (64 + t135)), (by first | rfl | (simp; done) | (simp [*]; done)), H', ⟨by have := HJ2.out; first | omega | exact Nat.le_refl _⟩, by repeat (first | exact Drawn0.refl _ | apply Drawn0.step)⟩
    case rest =>
     clear HC7
     try clear c2
     try clear p2
     try clear c4
     try clear c4b0
     try clear c4b1
     try clear c5
     try clear c6
     try clear p6
     try clear c8
     try clear c8b0
     try clear c8b1
     try clear p2
     obtain ⟨kq, x5_6, rfl, HA, HJ6, ⟨mc6, rfl⟩⟩ := hcut
     cases kq with
     | zero => exact absurd HA.out (by simp [fix_root.j1])
     | succ kj6 =>
      have H := HA.out
      clear HA
      simp only [fix_root.j1] at H
      have HC10 := Aside0.mk H
      clear H
      go_upto_if 26 with (fail)
      go_cut [6] (fun v6 wc => ∃ (kq : Nat) (x6_9 : Int), v6 = .int .u64 x6_9 ∧ Aside0 (fix_root.j2 kq a0 a1 x6_9 = some r) ∧ Aside0 (kq ≤ kj6) ∧ Drawn0 w wc)
      case first =>
       have H := HC10.out
       clear HC10
       by_cases c11 : x5_6 < 127
       ·
        rw [if_pos c11] at H
        have c11b0 : decide (x5_6 < 127) = true := decide_eq_true c11
        clear c11
        (first | rw [c11b0] | (simp only [i64_w, i32_w]; rw [c11b0]) | skip)
        obtain ⟨ji12, hji12⟩ : ∃ j_ : Int, (wrap64 (Int.tdiv (wrap64 (x5_6 + 1)) 2)) = j_ := ⟨_, rfl⟩
        replace H : (if 0 ≤ (ji12) then (fix_root.j2 kj6 a0 a1 (shl .u64 1 (ji12))) else (none)) = some r := by first | (rw [hji12] at H; exact H) | (simp only [hji12] at H ⊢; exact H)
        have hji12w : (IntKind.i64.wrap (Int.tdiv (wrap64 (x5_6 + 1)) 2)) = ji12 := (i64_w _).trans hji12
        by_cases c13 : 0 ≤ (ji12)
        ·
         rw [if_pos c13] at H
         have c13b0 := eq_true c13
         have c13b1 : decide (0 ≤ (ji12)) = true := decide_eq_true c13
         clear c13
         obtain ⟨ji14, hji14⟩ : ∃ j_ : Int, (shl .u64 1 (ji12)) = j_ := ⟨_, rfl⟩
         replace H : (fix_root.j2 kj6 a0 a1 ji14) = some r := by first | (rw [hji14] at H; exact H) | (simp only [hji14] at H ⊢; exact H)
         have hji14_ : (IntKind.u64.wrap (1 * 2 ^ min (ji12).toNat 64)) = ji14 := hji14
         have hji14z : (ji12) ≤ 64 → (IntKind.u64.wrap (1 * 2 ^ (ji12).toNat)) = ji14 := shl_small hji14
         have hji14u : (IntKind.u64.wrap (2 ^ min (ji12).toNat 64)) = ji14 := by have h_ := hji14_; rw [Int.one_mul] at h_; exact h_
         have hji14v : (ji12) ≤ 64 → (IntKind.u64.wrap (2 ^ (ji12).toNat)) = ji14 := fun hle_ => by have h_ := hji14z hle_; rw [Int.one_mul] at h_; exact h_
         have H' := Aside0.mk H
         clear H
         go_wp2
         go_meet
         case rel => exact ⟨_, (ji14), (by first | rfl | (simp; done) | (simp only [← hji14] <;> (first | rfl | simp)) | (simp [*]; done)), H', ⟨by have := HJ2.out; have := HJ6.out; first | omega | exact Nat.le_refl _⟩, by repeat (first | exact Drawn0.refl _ | apply Drawn0.step)⟩
        ·
         rw [if_neg c13] at H
         exact absurd H (by simp)
       ·
        rw [if_neg c11] at H
        have c11b0 : decide (x5_6 < 127) = false := decide_eq_false c11
        clear c11
        (first | rw [c11b0] | (simp only [i64_w, i32_w]; rw [c11b0]) | skip)
        have H' := Aside0.mk H
        clear H
        go_wp2
        go_meet
        case rel => exact ⟨_, (18446744073709551615), (by first | rfl | (simp; done) | (simp [*]; done)), H', ⟨by have := HJ2.out; have := HJ6.out; first | omega | exact Nat.le_refl _⟩, by repeat (first | exact Drawn0.refl _ | apply Drawn0.step)⟩
      case rest =>
       clear HC10
       try clear c1
       try clear c2
       try clear p2
       try clear c4
       try clear c4b0
       try clear c4b1
       try clear c5
       try clear c6
       try clear p6
       try clear c8
       try clear c8b0
       try clear c8b1
       try clear c11
       try clear c11b0
       try clear c13
       try clear c13b0
       try clear c13b1
       try clear p2
       try clear p6
       obtain ⟨kq, x6_9, rfl, HA, HJ9, ⟨mc9, rfl⟩⟩ := hcut
       cases kq with
       | zero => exact absurd HA.out (by simp [fix_root.j2])
       | succ kj9 =>
        have H := HA.out
        clear HA
        simp only [fix_root.j2] at H
        have H' := Aside0.mk H
        clear H
        go_wp2
        go_loopg [6] kj9 (fun kq v6 w' => ∃ (x6_4 : Int), v6 = .int .u64 x6_4 ∧ Aside0 (fix_root.l0 kq a0 a1 x6_4 = some r) ∧ Aside0 (kq ≤ kj9) ∧ Drawn0 w w')
        case atStart => exact ⟨(x6_9), (by first | rfl | (simp; done) | (simp [*]; done)), H', ⟨Nat.le_refl _⟩, by repeat (first | exact Drawn0.refl _ | apply Drawn0.step)⟩
        case round =>
         clear H'
         try clear c1
         try clear c2
         try clear p2
         try clear c4
         try clear c4b0
         try clear c4b1
         try clear c5
         try clear c6
         try clear p6
         try clear c8
         try clear c8b0
         try clear c8b1
         try clear c9
         try clear c11
         try clear c11b0
         try clear c13
         try clear c13b0
         try clear c13b1
         try clear p2
         try clear p6
         obtain ⟨x6_4, rfl, HA, HK4, ⟨m4, rfl⟩⟩ := hrel
         cases gk with
         | zero => exact absurd HA.out (by simp [fix_root.l0])
         | succ k4 =>
          have H := HA.out
          clear HA
          simp only [fix_root.l0] at H
          by_cases c15 : a0 ≥ x6_4
          ·
           rw [if_pos c15] at H
           have c15b0 : decide (x6_4 ≤ a0) = true := decide_eq_true c15
           clear c15
           obtain rfl := Option.some.inj H
           go_wp2
           go_ret
           exact ⟨by first | rfl | (simp; done) | (simp [*]; done), by repeat (first | exact Drawn0.refl _ | apply Drawn0.step)⟩
          ·
           rw [if_neg c15] at H
           have c15b0 : decide (x6_4 ≤ a0) = false := decide_eq_false c15
           clear c15
           replace H := Option.bind_eq_some_iff.mp H
           obtain ⟨⟨t136, t137⟩, A160, H⟩ := H
           replace H : (if c01 0 = true then (if (Go.bits .or .u64 ((u64add x6_4 t136 0) / 2) (IntKind.u64.wrap ((u64car x6_4 t136 0) * 9223372036854775808))) ≥ x6_4 then (some x6_4) else (fix_root.l0 k4 a0 a1 (Go.bits .or .u64 ((u64add x6_4 t136 0) / 2) (IntKind.u64.wrap ((u64car x6_4 t136 0) * 9223372036854775808))))) else (none)) = some r := H
           have A16 := Aside0.mk A160
           clear A160
           by_cases c17 : c01 0 = true
           ·
            rw [if_pos c17] at H
            have c17b0 := eq_true c17
            have c17b1 : decide (c01 0 = true) = true := decide_eq_true c17
            clear c17
            by_cases c18 : (Go.bits .or .u64 ((u64add x6_4 t136 0) / 2) (IntKind.u64.wrap ((u64car x6_4 t136 0) * 9223372036854775808))) ≥ x6_4
            ·
             rw [if_pos c18] at H
             have c18b0 : decide (x6_4 ≤ (Go.bits .or .u64 ((u64add x6_4 t136 0) / 2) (IntKind.u64.wrap ((u64car x6_4 t136 0) * 9223372036854775808)))) = true := decide_eq_true c18
             clear c18
             obtain rfl := Option.some.inj H
             go_wp2_with (first | ((with_reducible refine gate_callee (f := 81) rfl ?_); refine gL_ (some 39) Tryz.func81 #[.int .u64 a0, .int .u64 a1, .int .u64 x6_4] ?_; (with_reducible refine (bits_Div64.calls k4 a0 a1 x6_4 t136 t137 _ A16.out).mono ?_); rintro e w' ⟨rfl, ⟨nd, rfl⟩⟩; refine ⟨_, rfl, ?_⟩))
             go_ret
             exact ⟨by first | rfl | (simp; done) | (simp [*]; done), by repeat (first | exact Drawn0.refl _ | apply Drawn0.step)⟩
            ·
             rw [if_neg c18] at H
             have c18b0 : decide (x6_4 ≤ (Go.bits .or .u64 ((u64add x6_4 t136 0) / 2) (IntKind.u64.wrap ((u64car x6_4 t136 0) * 9223372036854775808)))) = false := decide_eq_false c18
             clear c18
             have H' := Aside0.mk H
             clear H
             go_wp2_with (first | ((with_reducible refine gate_callee (f := 81) rfl ?_); refine gL_ (some 39) Tryz.func81 #[.int .u64 a0, .int .u64 a1, .int .u64 x6_4] ?_; (with_reducible refine (bits_Div64.calls k4 a0 a1 x6_4 t136 t137 _ A16.out).mono ?_); rintro e w' ⟨rfl, ⟨nd, rfl⟩⟩; refine ⟨_, rfl, ?_⟩))
             go_roundg k4
             case measure => have := HJ2.out; have := HJ6.out; have := HJ9.out; have := HK4.out; omega
             case rel => exact ⟨(Go.bits .or .u64 ((u64add x6_4 t136 0) / 2) (IntKind.u64.wrap ((u64car x6_4 t136 0) * 9223372036854775808))), (by first | rfl | (simp; done) | (simp [*]; done)), H', ⟨by have := HJ2.out; have := HJ6.out; have := HJ9.out; have := HK4.out; omega⟩, by repeat (first | exact Drawn0.refl _ | apply Drawn0.step)⟩
           ·
            rw [if_neg c17] at H
            exact absurd H (by simp)

/-! ### fix_Hyp: function 38 -/
def fix_Hyp.f (k : Nat) (a0 : Int) (a1 : Int) : Option (Int × Int) := (fix_size.f a0).bind fun t138 => ((fix_size.f a0).bind fun t139 => ((bits_Mul64.f t138 t139).bind fun bt140 => ((fix_size.f a1).bind fun t142 => ((fix_size.f a1).bind fun t143 => ((bits_Mul64.f t142 t143).bind fun bt144 => (if c01 0 = true then ((fix_root.f k (IntKind.u64.wrap ((IntKind.u64.wrap (bt140.1 + bt144.1)) + (u64car bt140.2 bt144.2 0))) (u64add bt140.2 bt144.2 0)).bind fun t146 => ((fix_number.f k false 0 t146).bind fun bt147 => (some (bt147.1, bt147.2)))) else (none)))))))
theorem fix_Hyp.mono : ∀ a0 a1 k, LeO (fix_Hyp.f k a0 a1) (fix_Hyp.f (k + 1) a0 a1) := by
 intro a0 a1 k
 unfold fix_Hyp.f
 repeat' first
   | (with_reducible exact fix_number.mono _ _ _ _)
   | (with_reducible exact fix_root.mono _ _ _)
   | (with_reducible exact LeO.refl _)
   | (with_reducible exact LeO.none _)
   | (with_reducible refine LeO.ite ?_ ?_)
   | (with_reducible refine LeO.bind ?_ (fun _ => ?_))
   | exact fix_number.mono _ _ _ _
   | exact fix_root.mono _ _ _
   | exact LeO.none _
   | refine LeO.ite ?_ ?_
   | refine LeO.bind ?_ (fun _ => ?_)
set_option maxHeartbeats 8000000 in
set_option maxRecDepth 100000 in
theorem fix_Hyp.calls (k : Nat) (a0 : Int) (a1 : Int) (r1 : Int) (r2 : Int) (w : World) (h : fix_Hyp.f k a0 a1 = some (r1, r2)) :
  Calls Tryz.prog 38 #[.int .i64 a0, .int .i64 a1] w fun e w' => e = .returned (.tuple #[.int .i64 r1, .int .i64 r2]) ∧ Drawn0 w w' := by
 have hx58 := @ext58
 have H : ((fix_size.f a0).bind fun t138 => ((fix_size.f a0).bind fun t139 => ((bits_Mul64.f t138 t139).bind fun bt140 => ((fix_size.f a1).bind fun t142 => ((fix_size.f a1).bind fun t143 => ((bits_Mul64.f t142 t143).bind fun bt144 => (if c01 0 = true then ((fix_root.f k (IntKind.u64.wrap ((IntKind.u64.wrap (bt140.1 + bt144.1)) + (u64car bt140.2 bt144.2 0))) (u64add bt140.2 bt144.2 0)).bind fun t146 => ((fix_number.f k false 0 t146).bind fun bt147 => (some (bt147.1, bt147.2)))) else (none)))))))) = some (r1, r2) := h
 clear h
 replace H := Option.bind_eq_some_iff.mp H
 obtain ⟨t138, A30, H⟩ := H
 replace H : ((fix_size.f a0).bind fun t139 => ((bits_Mul64.f t138 t139).bind fun bt140 => ((fix_size.f a1).bind fun t142 => ((fix_size.f a1).bind fun t143 => ((bits_Mul64.f t142 t143).bind fun bt144 => (if c01 0 = true then ((fix_root.f k (IntKind.u64.wrap ((IntKind.u64.wrap (bt140.1 + bt144.1)) + (u64car bt140.2 bt144.2 0))) (u64add bt140.2 bt144.2 0)).bind fun t146 => ((fix_number.f k false 0 t146).bind fun bt147 => (some (bt147.1, bt147.2)))) else (none))))))) = some (r1, r2) := H
 have A3 := Aside0.mk A30
 clear A30
 replace H := Option.bind_eq_some_iff.mp H
 obtain ⟨t139, A40, H⟩ := H
 replace H : ((bits_Mul64.f t138 t139).bind fun bt140 => ((fix_size.f a1).bind fun t142 => ((fix_size.f a1).bind fun t143 => ((bits_Mul64.f t142 t143).bind fun bt144 => (if c01 0 = true then ((fix_root.f k (IntKind.u64.wrap ((IntKind.u64.wrap (bt140.1 + bt144.1)) + (u64car bt140.2 bt144.2 0))) (u64add bt140.2 bt144.2 0)).bind fun t146 => ((fix_number.f k false 0 t146).bind fun bt147 => (some (bt147.1, bt147.2)))) else (none)))))) = some (r1, r2) := H
 have A4 := Aside0.mk A40
 clear A40
 replace H := Option.bind_eq_some_iff.mp H
 obtain ⟨⟨t140, t141⟩, A50, H⟩ := H
 replace H : ((fix_size.f a1).bind fun t142 => ((fix_size.f a1).bind fun t143 => ((bits_Mul64.f t142 t143).bind fun bt144 => (if c01 0 = true then ((fix_root.f k (IntKind.u64.wrap ((IntKind.u64.wrap (t140 + bt144.1)) + (u64car t141 bt144.2 0))) (u64add t141 bt144.2 0)).bind fun t146 => ((fix_number.f k false 0 t146).bind fun bt147 => (some (bt147.1, bt147.2)))) else (none))))) = some (r1, r2) := H
 have A5 := Aside0.mk A50
 clear A50
 replace H := Option.bind_eq_some_iff.mp H
 obtain ⟨t142, A60, H⟩ := H
 replace H : ((fix_size.f a1).bind fun t143 => ((bits_Mul64.f t142 t143).bind fun bt144 => (if c01 0 = true then ((fix_root.f k (IntKind.u64.wrap ((IntKind.u64.wrap (t140 + bt144.1)) + (u64car t141 bt144.2 0))) (u64add t141 bt144.2 0)).bind fun t146 => ((fix_number.f k false 0 t146).bind fun bt147 => (some (bt147.1, bt147.2)))) else (none)))) = some (r1, r2) := H
 have A6 := Aside0.mk A60
 clear A60
 replace H := Option.bind_eq_some_iff.mp H
 obtain ⟨t143, A70, H⟩ := H
 replace H : ((bits_Mul64.f t142 t143).bind fun bt144 => (if c01 0 = true then ((fix_root.f k (IntKind.u64.wrap ((IntKind.u64.wrap (t140 + bt144.1)) + (u64car t141 bt144.2 0))) (u64add t141 bt144.2 0)).bind fun t146 => ((fix_number.f k false 0 t146).bind fun bt147 => (some (bt147.1, bt147.2)))) else (none))) = some (r1, r2) := H
 have A7 := Aside0.mk A70
 clear A70
 replace H := Option.bind_eq_some_iff.mp H
 obtain ⟨⟨t144, t145⟩, A80, H⟩ := H
 replace H : (if c01 0 = true then ((fix_root.f k (IntKind.u64.wrap ((IntKind.u64.wrap (t140 + t144)) + (u64car t141 t145 0))) (u64add t141 t145 0)).bind fun t146 => ((fix_number.f k false 0 t146).bind fun bt147 => (some (bt147.1, bt147.2)))) else (none)) = some (r1, r2) := H
 have A8 := Aside0.mk A80
 clear A80
 by_cases c9 : c01 0 = true
 ·
  rw [if_pos c9] at H
  have c9b0 := eq_true c9
  have c9b1 : decide (c01 0 = true) = true := decide_eq_true c9
  clear c9
  replace H := Option.bind_eq_some_iff.mp H
  obtain ⟨t146, A100, H⟩ := H
  replace H : ((fix_number.f k false 0 t146).bind fun bt147 => (some (bt147.1, bt147.2))) = some (r1, r2) := H
  have A10 := Aside0.mk A100
  clear A100
  replace H := Option.bind_eq_some_iff.mp H
  obtain ⟨⟨t147, t148⟩, A110, H⟩ := H
  replace H : (some (t147, t148)) = some (r1, r2) := H
  have A11 := Aside0.mk A110
  clear A110
  simp only [Option.some.injEq, Prod.mk.injEq] at H
  obtain ⟨rfl, rfl⟩ := H
  go_enter Tryz.func38, Tryz.ntmps38
  go_wp2_with (first | ((with_reducible refine gate_callee (f := 57) rfl ?_); refine gL_ (some 14) Tryz.func57 #[.int .i64 a0] ?_; (with_reducible refine (fix_size.calls a0 t138 _ A3.out).mono ?_); rintro e w' ⟨rfl, ⟨nd, rfl⟩⟩; refine ⟨_, rfl, ?_⟩) | ((with_reducible refine gate_callee (f := 57) rfl ?_); refine gL_ (some 16) Tryz.func57 #[.int .i64 a0] ?_; (with_reducible refine (fix_size.calls a0 t139 _ A4.out).mono ?_); rintro e w' ⟨rfl, ⟨nd, rfl⟩⟩; refine ⟨_, rfl, ?_⟩) | ((with_reducible refine gate_callee (f := 56) rfl ?_); refine gL_ (some 17) Tryz.func56 #[.int .u64 t138, .int .u64 t139] ?_; (with_reducible refine (bits_Mul64.calls t138 t139 t140 t141 _ A5.out).mono ?_); rintro e w' ⟨rfl, ⟨nd, rfl⟩⟩; refine ⟨_, rfl, ?_⟩) | ((with_reducible refine gate_callee (f := 57) rfl ?_); refine gL_ (some 22) Tryz.func57 #[.int .i64 a1] ?_; (with_reducible refine (fix_size.calls a1 t142 _ A6.out).mono ?_); rintro e w' ⟨rfl, ⟨nd, rfl⟩⟩; refine ⟨_, rfl, ?_⟩) | ((with_reducible refine gate_callee (f := 57) rfl ?_); refine gL_ (some 24) Tryz.func57 #[.int .i64 a1] ?_; (with_reducible refine (fix_size.calls a1 t143 _ A7.out).mono ?_); rintro e w' ⟨rfl, ⟨nd, rfl⟩⟩; refine ⟨_, rfl, ?_⟩) | ((with_reducible refine gate_callee (f := 56) rfl ?_); refine gL_ (some 25) Tryz.func56 #[.int .u64 t142, .int .u64 t143] ?_; (with_reducible refine (bits_Mul64.calls t142 t143 t144 t145 _ A8.out).mono ?_); rintro e w' ⟨rfl, ⟨nd, rfl⟩⟩; refine ⟨_, rfl, ?_⟩) | ((with_reducible refine gate_callee (f := 60) rfl ?_); refine gL_ (some 40) Tryz.func60 #[.int .u64 (IntKind.u64.wrap ((IntKind.u64.wrap (t140 + t144)) + (u64car t141 t145 0))), .int .u64 (u64add t141 t145 0)] ?_; (with_reducible refine (fix_root.calls k (IntKind.u64.wrap ((IntKind.u64.wrap (t140 + t144)) + (u64car t141 t145 0))) (u64add t141 t145 0) t146 _ A10.out).mono ?_); rintro e w' ⟨rfl, ⟨nd, rfl⟩⟩; refine ⟨_, rfl, ?_⟩) | ((with_reducible refine gate_callee (f := 59) rfl ?_); refine gL_ (some 41) Tryz.func59 #[.bool false, .int .u64 0, .int .u64 t146] ?_; (with_reducible refine (fix_number.calls k false 0 t146 t147 t148 _ A11.out).mono ?_); rintro e w' ⟨rfl, ⟨nd, rfl⟩⟩; refine ⟨_, rfl, ?_⟩))
  go_ret2
  exact ⟨by first | rfl | (simp; done) | (simp [*]; done), by repeat (first | exact Drawn0.refl _ | apply Drawn0.step)⟩
 ·
  rw [if_neg c9] at H
  exact absurd H (by simp)

/-! ### phasor_Apparent: function 18 -/
def phasor_Apparent.f (k : Nat) (a0 : Cx) : Option (Int × Int) := (phasor_Parts.f a0).bind fun bt149 => (if bt149.2.2 = 0 then ((fix_Hyp.f k bt149.1 bt149.2.1).bind fun bt152 => (some (bt152.1, bt152.2))) else (some (0, bt149.2.2)))
theorem phasor_Apparent.mono : ∀ a0 k, LeO (phasor_Apparent.f k a0) (phasor_Apparent.f (k + 1) a0) := by
 intro a0 k
 unfold phasor_Apparent.f
 repeat' first
   | (with_reducible exact fix_Hyp.mono _ _ _)
   | (with_reducible exact LeO.refl _)
   | (with_reducible exact LeO.none _)
   | (with_reducible refine LeO.ite ?_ ?_)
   | (with_reducible refine LeO.bind ?_ (fun _ => ?_))
   | exact fix_Hyp.mono _ _ _
   | exact LeO.none _
   | refine LeO.ite ?_ ?_
   | refine LeO.bind ?_ (fun _ => ?_)
set_option maxHeartbeats 8000000 in
set_option maxRecDepth 100000 in
theorem phasor_Apparent.calls (k : Nat) (a0 : Cx) (r1 : Int) (r2 : Int) (w : World) (h : phasor_Apparent.f k a0 = some (r1, r2)) :
  Calls Tryz.prog 18 #[.complex .f64 a0.re a0.im] w fun e w' => e = .returned (.tuple #[.int .i64 r1, .int .i64 r2]) ∧ Below w.heap.size w w' := by
 have HB := Aside0.mk (Below.refl w.heap.size w)
 have H : ((phasor_Parts.f a0).bind fun bt149 => (if bt149.2.2 = 0 then ((fix_Hyp.f k bt149.1 bt149.2.1).bind fun bt152 => (some (bt152.1, bt152.2))) else (some (0, bt149.2.2)))) = some (r1, r2) := h
 clear h
 replace H := Option.bind_eq_some_iff.mp H
 obtain ⟨⟨t149, t150, t151⟩, A20, H⟩ := H
 replace H : (if t151 = 0 then ((fix_Hyp.f k t149 t150).bind fun bt152 => (some (bt152.1, bt152.2))) else (some (0, t151))) = some (r1, r2) := H
 have A2 := Aside0.mk A20
 clear A20
 by_cases c3 : t151 = 0
 ·
  rw [if_pos c3] at H
  obtain ⟨c3b0, c3b1⟩ := eqT_ c3
  clear c3
  replace H := Option.bind_eq_some_iff.mp H
  obtain ⟨⟨t152, t153⟩, A40, H⟩ := H
  replace H : (some (t152, t153)) = some (r1, r2) := H
  have A4 := Aside0.mk A40
  clear A40
  simp only [Option.some.injEq, Prod.mk.injEq] at H
  obtain ⟨rfl, rfl⟩ := H
  go_enter Tryz.func18, Tryz.ntmps18
  go_wp2_with (first | ((with_reducible refine gate_callee (f := 12) rfl ?_); refine gL_ (some 9) Tryz.func12 #[.complex .f64 a0.re a0.im] ?_; (with_reducible refine (phasor_Parts.calls a0 t149 t150 t151 _ A2.out).mono ?_); rintro e w5 ⟨rfl, hb⟩; refine ⟨_, rfl, ?_⟩; replace HB := Aside0.mk (bst_ hb); (try clear hb); (try clear hb2); (try clear hk); (try clear hi)) | ((with_reducible refine gate_callee (f := 38) rfl ?_); refine gL_ (some 18) Tryz.func38 #[.int .i64 t149, .int .i64 t150] ?_; (with_reducible refine (fix_Hyp.calls k t149 t150 t152 t153 _ A4.out).mono ?_); rintro e w' ⟨rfl, ⟨nd, rfl⟩⟩; refine ⟨_, rfl, ?_⟩))
  go_ret2
  exact fin_
 ·
  rw [if_neg c3] at H
  obtain ⟨c3b0, c3b1⟩ := eqF_ c3
  simp only [Option.some.injEq, Prod.mk.injEq] at H
  obtain ⟨rfl, rfl⟩ := H
  go_enter Tryz.func18, Tryz.ntmps18
  go_wp2_with (first | ((with_reducible refine gate_callee (f := 12) rfl ?_); refine gL_ (some 9) Tryz.func12 #[.complex .f64 a0.re a0.im] ?_; (with_reducible refine (phasor_Parts.calls a0 t149 t150 t151 _ A2.out).mono ?_); rintro e w6 ⟨rfl, hb⟩; refine ⟨_, rfl, ?_⟩; replace HB := Aside0.mk (bst_ hb); (try clear hb); (try clear hb2); (try clear hk); (try clear hi)))
  go_ret2
  exact fin_

-- NOT PRINTED: function 39 (phasor_sums)

/-! ### fix_Text: function 41 -/
def fix_Text.f (a0 : Int) : Option (ByteArray) := Go.Proofs.YtofedlghaopciaaGreatDoor.Hand.textA a0
theorem fix_Text.calls (a0 : Int) (r : ByteArray) (w : World) (hT_ : Go.Proofs.YtofedlghaopciaaGreatDoor.Hand.T3 w) (h : fix_Text.f a0 = some r) :
  Calls Tryz.prog 41 #[.int .i64 a0] w fun e w' => e = .returned (.string r) ∧ Below w.heap.size w w' :=
 Go.Proofs.YtofedlghaopciaaGreatDoor.Hand.text_calls3 a0 r w hT_ h
/-! ### phasor_Text: function 21 -/
def phasor_Text.f (a0 : Cx) : Option (ByteArray × Int) := (phasor_Parts.f a0).bind fun bt177 => (if bt177.2.2 = 0 then (if bt177.2.1 < 0 then ((fix_Text.f bt177.1).bind fun t180 => (if t180.size + 0 ≤ 9223372036854775807 then ((fix_Text.f bt177.2.1).bind fun t181 => (if (t180 ++ (⟨#[]⟩ : ByteArray)).size + t181.size ≤ 9223372036854775807 then (if ((t180 ++ (⟨#[]⟩ : ByteArray)) ++ t181).size + 1 ≤ 9223372036854775807 then (some (((t180 ++ (⟨#[]⟩ : ByteArray)) ++ t181) ++ (⟨#[105]⟩ : ByteArray), 0)) else (none)) else (none))) else (none))) else ((fix_Text.f bt177.1).bind fun t182 => (if t182.size + 1 ≤ 9223372036854775807 then ((fix_Text.f bt177.2.1).bind fun t183 => (if (t182 ++ (⟨#[43]⟩ : ByteArray)).size + t183.size ≤ 9223372036854775807 then (if ((t182 ++ (⟨#[43]⟩ : ByteArray)) ++ t183).size + 1 ≤ 9223372036854775807 then (some (((t182 ++ (⟨#[43]⟩ : ByteArray)) ++ t183) ++ (⟨#[105]⟩ : ByteArray), 0)) else (none)) else (none))) else (none)))) else (some ((⟨#[]⟩ : ByteArray), bt177.2.2)))
set_option maxHeartbeats 8000000 in
set_option maxRecDepth 100000 in
theorem phasor_Text.calls (a0 : Cx) (r1 : ByteArray) (r2 : Int) (w : World) (hT_ : Go.Proofs.YtofedlghaopciaaGreatDoor.Hand.T3 w) (h : phasor_Text.f a0 = some (r1, r2)) :
  Calls Tryz.prog 21 #[.complex .f64 a0.re a0.im] w fun e w' => e = .returned (.tuple #[.string r1, .int .i64 r2]) ∧ Below w.heap.size w w' := by
 have HTB := Aside0.mk hT_
 clear hT_
 have HB := Aside0.mk (Below.refl w.heap.size w)
 have H : ((phasor_Parts.f a0).bind fun bt177 => (if bt177.2.2 = 0 then (if bt177.2.1 < 0 then ((fix_Text.f bt177.1).bind fun t180 => (if t180.size + 0 ≤ 9223372036854775807 then ((fix_Text.f bt177.2.1).bind fun t181 => (if (t180 ++ (⟨#[]⟩ : ByteArray)).size + t181.size ≤ 9223372036854775807 then (if ((t180 ++ (⟨#[]⟩ : ByteArray)) ++ t181).size + 1 ≤ 9223372036854775807 then (some (((t180 ++ (⟨#[]⟩ : ByteArray)) ++ t181) ++ (⟨#[105]⟩ : ByteArray), 0)) else (none)) else (none))) else (none))) else ((fix_Text.f bt177.1).bind fun t182 => (if t182.size + 1 ≤ 9223372036854775807 then ((fix_Text.f bt177.2.1).bind fun t183 => (if (t182 ++ (⟨#[43]⟩ : ByteArray)).size + t183.size ≤ 9223372036854775807 then (if ((t182 ++ (⟨#[43]⟩ : ByteArray)) ++ t183).size + 1 ≤ 9223372036854775807 then (some (((t182 ++ (⟨#[43]⟩ : ByteArray)) ++ t183) ++ (⟨#[105]⟩ : ByteArray), 0)) else (none)) else (none))) else (none)))) else (some ((⟨#[]⟩ : ByteArray), bt177.2.2)))) = some (r1, r2) := h
 clear h
 replace H := Option.bind_eq_some_iff.mp H
 obtain ⟨⟨t177, t178, t179⟩, A20, H⟩ := H
 replace H : (if t179 = 0 then (if t178 < 0 then ((fix_Text.f t177).bind fun t180 => (if t180.size + 0 ≤ 9223372036854775807 then ((fix_Text.f t178).bind fun t181 => (if (t180 ++ (⟨#[]⟩ : ByteArray)).size + t181.size ≤ 9223372036854775807 then (if ((t180 ++ (⟨#[]⟩ : ByteArray)) ++ t181).size + 1 ≤ 9223372036854775807 then (some (((t180 ++ (⟨#[]⟩ : ByteArray)) ++ t181) ++ (⟨#[105]⟩ : ByteArray), 0)) else (none)) else (none))) else (none))) else ((fix_Text.f t177).bind fun t182 => (if t182.size + 1 ≤ 9223372036854775807 then ((fix_Text.f t178).bind fun t183 => (if (t182 ++ (⟨#[43]⟩ : ByteArray)).size + t183.size ≤ 9223372036854775807 then (if ((t182 ++ (⟨#[43]⟩ : ByteArray)) ++ t183).size + 1 ≤ 9223372036854775807 then (some (((t182 ++ (⟨#[43]⟩ : ByteArray)) ++ t183) ++ (⟨#[105]⟩ : ByteArray), 0)) else (none)) else (none))) else (none)))) else (some ((⟨#[]⟩ : ByteArray), t179))) = some (r1, r2) := H
 have A2 := Aside0.mk A20
 clear A20
 by_cases c3 : t179 = 0
 ·
  rw [if_pos c3] at H
  obtain ⟨c3b0, c3b1⟩ := eqT_ c3
  clear c3
  by_cases c4 : t178 < 0
  ·
   rw [if_pos c4] at H
   have c4b0 : decide (t178 < 0) = true := decide_eq_true c4
   clear c4
   replace H := Option.bind_eq_some_iff.mp H
   obtain ⟨t180, A50, H⟩ := H
   replace H : (if t180.size + 0 ≤ 9223372036854775807 then ((fix_Text.f t178).bind fun t181 => (if (t180 ++ (⟨#[]⟩ : ByteArray)).size + t181.size ≤ 9223372036854775807 then (if ((t180 ++ (⟨#[]⟩ : ByteArray)) ++ t181).size + 1 ≤ 9223372036854775807 then (some (((t180 ++ (⟨#[]⟩ : ByteArray)) ++ t181) ++ (⟨#[105]⟩ : ByteArray), 0)) else (none)) else (none))) else (none)) = some (r1, r2) := H
   have A5 := Aside0.mk A50
   clear A50
   by_cases c6 : t180.size + 0 ≤ 9223372036854775807
   ·
    rw [if_pos c6] at H
    have c6b0 := eq_true c6
    have c6b1 : decide (t180.size + 0 ≤ 9223372036854775807) = true := decide_eq_true c6
    try have c6b2 : (9223372036854775807 < t180.size + 0) = False := eq_false (Nat.not_lt.2 c6)
    have c6b4 : (9223372036854775807 < t180.size) = False := eq_false (by have e_ : t180.size + 0 = t180.size := (by first | (simp only [ByteArray.size_append]; done) | ((try simp only [ByteArray.size_append]); rfl)); rw [← e_]; exact Nat.not_lt.2 c6)
    replace H := Option.bind_eq_some_iff.mp H
    obtain ⟨t181, A70, H⟩ := H
    replace H : (if (t180 ++ (⟨#[]⟩ : ByteArray)).size + t181.size ≤ 9223372036854775807 then (if ((t180 ++ (⟨#[]⟩ : ByteArray)) ++ t181).size + 1 ≤ 9223372036854775807 then (some (((t180 ++ (⟨#[]⟩ : ByteArray)) ++ t181) ++ (⟨#[105]⟩ : ByteArray), 0)) else (none)) else (none)) = some (r1, r2) := H
    have A7 := Aside0.mk A70
    clear A70
    by_cases c8 : (t180 ++ (⟨#[]⟩ : ByteArray)).size + t181.size ≤ 9223372036854775807
    ·
     rw [if_pos c8] at H
     have c8b0 := eq_true c8
     have c8b1 : decide ((t180 ++ (⟨#[]⟩ : ByteArray)).size + t181.size ≤ 9223372036854775807) = true := decide_eq_true c8
     try have c8b2 : (9223372036854775807 < (t180 ++ (⟨#[]⟩ : ByteArray)).size + t181.size) = False := eq_false (Nat.not_lt.2 c8)
     have c8b4 : (9223372036854775807 < t180.size + t181.size) = False := eq_false (by have e_ : (t180 ++ (⟨#[]⟩ : ByteArray)).size + t181.size = t180.size + t181.size := (by first | (simp only [ByteArray.size_append]; done) | ((try simp only [ByteArray.size_append]); rfl)); rw [← e_]; exact Nat.not_lt.2 c8)
     by_cases c9 : ((t180 ++ (⟨#[]⟩ : ByteArray)) ++ t181).size + 1 ≤ 9223372036854775807
     ·
      rw [if_pos c9] at H
      have c9b0 := eq_true c9
      have c9b1 : decide (((t180 ++ (⟨#[]⟩ : ByteArray)) ++ t181).size + 1 ≤ 9223372036854775807) = true := decide_eq_true c9
      try have c9b2 : (9223372036854775807 < ((t180 ++ (⟨#[]⟩ : ByteArray)) ++ t181).size + 1) = False := eq_false (Nat.not_lt.2 c9)
      have c9b4 : (9223372036854775807 < t180.size + t181.size + 1) = False := eq_false (by have e_ : ((t180 ++ (⟨#[]⟩ : ByteArray)) ++ t181).size + 1 = t180.size + t181.size + 1 := (by first | (simp only [ByteArray.size_append]; done) | ((try simp only [ByteArray.size_append]); rfl)); rw [← e_]; exact Nat.not_lt.2 c9)
      simp only [Option.some.injEq, Prod.mk.injEq] at H
      obtain ⟨rfl, rfl⟩ := H
      go_enter Tryz.func21, Tryz.ntmps21
      go_wp2_with (first | ((with_reducible refine gate_callee (f := 12) rfl ?_); refine gL_ (some 10) Tryz.func12 #[.complex .f64 a0.re a0.im] ?_; (with_reducible refine (phasor_Parts.calls a0 t177 t178 t179 _ A2.out).mono ?_); rintro e w10 ⟨rfl, hb⟩; refine ⟨_, rfl, ?_⟩; replace HB := Aside0.mk (bst_ hb); (try clear hb); (try clear hb2); (try clear hk); (try clear hi)) | ((with_reducible refine gate_callee (f := 41) rfl ?_); refine gL_ (some 20) Tryz.func41 #[.int .i64 t177] ?_; (with_reducible refine (fix_Text.calls t177 t180 _ ?side1 A5.out).mono ?_); (case side1 => exact Go.Proofs.YtofedlghaopciaaGreatDoor.Hand.GW.on HTB.out bl_); rintro e w11 ⟨rfl, hb⟩; refine ⟨_, rfl, ?_⟩; replace HB := Aside0.mk (bst_ hb); (try clear hb); (try clear hb2); (try clear hk); (try clear hi)) | ((with_reducible refine gate_callee (f := 41) rfl ?_); refine gL_ (some 24) Tryz.func41 #[.int .i64 t178] ?_; (with_reducible refine (fix_Text.calls t178 t181 _ ?side1 A7.out).mono ?_); (case side1 => exact Go.Proofs.YtofedlghaopciaaGreatDoor.Hand.GW.on HTB.out bl_); rintro e w12 ⟨rfl, hb⟩; refine ⟨_, rfl, ?_⟩; replace HB := Aside0.mk (bst_ hb); (try clear hb); (try clear hb2); (try clear hk); (try clear hi)))
      go_ret2
      exact fin_
     ·
      rw [if_neg c9] at H
      exact absurd H (by simp)
    ·
     rw [if_neg c8] at H
     exact absurd H (by simp)
   ·
    rw [if_neg c6] at H
    exact absurd H (by simp)
  ·
   rw [if_neg c4] at H
   have c4b0 : decide (t178 < 0) = false := decide_eq_false c4
   clear c4
   replace H := Option.bind_eq_some_iff.mp H
   obtain ⟨t182, A130, H⟩ := H
   replace H : (if t182.size + 1 ≤ 9223372036854775807 then ((fix_Text.f t178).bind fun t183 => (if (t182 ++ (⟨#[43]⟩ : ByteArray)).size + t183.size ≤ 9223372036854775807 then (if ((t182 ++ (⟨#[43]⟩ : ByteArray)) ++ t183).size + 1 ≤ 9223372036854775807 then (some (((t182 ++ (⟨#[43]⟩ : ByteArray)) ++ t183) ++ (⟨#[105]⟩ : ByteArray), 0)) else (none)) else (none))) else (none)) = some (r1, r2) := H
   have A13 := Aside0.mk A130
   clear A130
   by_cases c14 : t182.size + 1 ≤ 9223372036854775807
   ·
    rw [if_pos c14] at H
    have c14b0 := eq_true c14
    have c14b1 : decide (t182.size + 1 ≤ 9223372036854775807) = true := decide_eq_true c14
    try have c14b2 : (9223372036854775807 < t182.size + 1) = False := eq_false (Nat.not_lt.2 c14)
    replace H := Option.bind_eq_some_iff.mp H
    obtain ⟨t183, A150, H⟩ := H
    replace H : (if (t182 ++ (⟨#[43]⟩ : ByteArray)).size + t183.size ≤ 9223372036854775807 then (if ((t182 ++ (⟨#[43]⟩ : ByteArray)) ++ t183).size + 1 ≤ 9223372036854775807 then (some (((t182 ++ (⟨#[43]⟩ : ByteArray)) ++ t183) ++ (⟨#[105]⟩ : ByteArray), 0)) else (none)) else (none)) = some (r1, r2) := H
    have A15 := Aside0.mk A150
    clear A150
    by_cases c16 : (t182 ++ (⟨#[43]⟩ : ByteArray)).size + t183.size ≤ 9223372036854775807
    ·
     rw [if_pos c16] at H
     have c16b0 := eq_true c16
     have c16b1 : decide ((t182 ++ (⟨#[43]⟩ : ByteArray)).size + t183.size ≤ 9223372036854775807) = true := decide_eq_true c16
     try have c16b2 : (9223372036854775807 < (t182 ++ (⟨#[43]⟩ : ByteArray)).size + t183.size) = False := eq_false (Nat.not_lt.2 c16)
     have c16b4 : (9223372036854775807 < t182.size + 1 + t183.size) = False := eq_false (by have e_ : (t182 ++ (⟨#[43]⟩ : ByteArray)).size + t183.size = t182.size + 1 + t183.size := (by first | (simp only [ByteArray.size_append]; done) | ((try simp only [ByteArray.size_append]); rfl)); rw [← e_]; exact Nat.not_lt.2 c16)
     by_cases c17 : ((t182 ++ (⟨#[43]⟩ : ByteArray)) ++ t183).size + 1 ≤ 9223372036854775807
     ·
      rw [if_pos c17] at H
      have c17b0 := eq_true c17
      have c17b1 : decide (((t182 ++ (⟨#[43]⟩ : ByteArray)) ++ t183).size + 1 ≤ 9223372036854775807) = true := decide_eq_true c17
      try have c17b2 : (9223372036854775807 < ((t182 ++ (⟨#[43]⟩ : ByteArray)) ++ t183).size + 1) = False := eq_false (Nat.not_lt.2 c17)
      have c17b4 : (9223372036854775807 < t182.size + 1 + t183.size + 1) = False := eq_false (by have e_ : ((t182 ++ (⟨#[43]⟩ : ByteArray)) ++ t183).size + 1 = t182.size + 1 + t183.size + 1 := (by first | (simp only [ByteArray.size_append]; done) | ((try simp only [ByteArray.size_append]); rfl)); rw [← e_]; exact Nat.not_lt.2 c17)
      simp only [Option.some.injEq, Prod.mk.injEq] at H
      obtain ⟨rfl, rfl⟩ := H
      go_enter Tryz.func21, Tryz.ntmps21
      go_wp2_with (first | ((with_reducible refine gate_callee (f := 12) rfl ?_); refine gL_ (some 10) Tryz.func12 #[.complex .f64 a0.re a0.im] ?_; (with_reducible refine (phasor_Parts.calls a0 t177 t178 t179 _ A2.out).mono ?_); rintro e w18 ⟨rfl, hb⟩; refine ⟨_, rfl, ?_⟩; replace HB := Aside0.mk (bst_ hb); (try clear hb); (try clear hb2); (try clear hk); (try clear hi)) | ((with_reducible refine gate_callee (f := 41) rfl ?_); refine gL_ (some 20) Tryz.func41 #[.int .i64 t177] ?_; (with_reducible refine (fix_Text.calls t177 t182 _ ?side1 A13.out).mono ?_); (case side1 => exact Go.Proofs.YtofedlghaopciaaGreatDoor.Hand.GW.on HTB.out bl_); rintro e w19 ⟨rfl, hb⟩; refine ⟨_, rfl, ?_⟩; replace HB := Aside0.mk (bst_ hb); (try clear hb); (try clear hb2); (try clear hk); (try clear hi)) | ((with_reducible refine gate_callee (f := 41) rfl ?_); refine gL_ (some 24) Tryz.func41 #[.int .i64 t178] ?_; (with_reducible refine (fix_Text.calls t178 t183 _ ?side1 A15.out).mono ?_); (case side1 => exact Go.Proofs.YtofedlghaopciaaGreatDoor.Hand.GW.on HTB.out bl_); rintro e w20 ⟨rfl, hb⟩; refine ⟨_, rfl, ?_⟩; replace HB := Aside0.mk (bst_ hb); (try clear hb); (try clear hb2); (try clear hk); (try clear hi)))
      go_ret2
      exact fin_
     ·
      rw [if_neg c17] at H
      exact absurd H (by simp)
    ·
     rw [if_neg c16] at H
     exact absurd H (by simp)
   ·
    rw [if_neg c14] at H
    exact absurd H (by simp)
 ·
  rw [if_neg c3] at H
  obtain ⟨c3b0, c3b1⟩ := eqF_ c3
  simp only [Option.some.injEq, Prod.mk.injEq] at H
  obtain ⟨rfl, rfl⟩ := H
  go_enter Tryz.func21, Tryz.ntmps21
  go_wp2_with (first | ((with_reducible refine gate_callee (f := 12) rfl ?_); refine gL_ (some 10) Tryz.func12 #[.complex .f64 a0.re a0.im] ?_; (with_reducible refine (phasor_Parts.calls a0 t177 t178 t179 _ A2.out).mono ?_); rintro e w21 ⟨rfl, hb⟩; refine ⟨_, rfl, ?_⟩; replace HB := Aside0.mk (bst_ hb); (try clear hb); (try clear hb2); (try clear hk); (try clear hi)))
  go_ret2
  exact fin_

-- NOT PRINTED: function 110 (bytealg_IndexByteString)

-- NOT PRINTED: function 99 (stringslite_IndexByte)

-- NOT PRINTED: function 84 (strings_IndexByte)

end Go.Proofs.YtofedlghaopciaaGreatDoor.PA
