-- Written by a program of this session for this claim (wip/print2.sh). Lean checks it.
import Derived.Test.YtofedlghaopciaaGreatDoorPAx0
namespace Go.Proofs.YtofedlghaopciaaGreatDoor.PA
open Go.Proofs.YtofedlghaopciaaGreatDoorW.PrintWords
attribute [local go_sem high] fx_eql fx_neq fx_lss fx_leq fx_gtr fx_geq fx_add fx_sub fx_mul fx_neg fx_toint cxx_add cxx_sub cxx_mul cxx_eql cxx_neq cxx_pick st_float st_complex
open Go.RowKit Go.Proofs.YtofedlghaopciaaGreatDoorW.PrintWords Go.Proofs.YtofedlghaopciaaGreatDoorW.PrintLast Go.Proofs.YtofedlghaopciaaGreatDoorW.PrintMore
attribute [local go_sem] max2_int min2_int max_two min_two max_three min_three max_four min_four   -- for this text's walks alone
set_option linter.unusedVariables false
set_option linter.unusedSimpArgs false

-- NOT PRINTED: function 61 (math_archTrunc)

-- NOT PRINTED: function 78 (math_Float64frombits)

-- NOT PRINTED: function 79 (math_Float64bits)

/-! ### math_Abs: function 55 -/
def math_Abs.f (a0 : Nat) : Option (Nat) := some (u2f (Go.bits .andNot .u64 (f2u a0) 9223372036854775808))
set_option maxHeartbeats 8000000 in
set_option maxRecDepth 100000 in
theorem math_Abs.calls (a0 : Nat) (r : Nat) (w : World) (h : math_Abs.f a0 = some r) :
  Calls Tryz.prog 55 #[.float .f64 a0] w fun e w' => e = .returned (.float .f64 r) ∧ Drawn0 w w' := by
 have hx78 := @ext78
 have hx79 := @ext79
 have H : (some (u2f (Go.bits .andNot .u64 (f2u a0) 9223372036854775808))) = some r := h
 clear h
 obtain rfl := Option.some.inj H
 go_enter Tryz.func55, Tryz.ntmps55
 go_wp2
 go_ret
 exact ⟨by first | rfl | (simp; done) | (simp [*]; done), by repeat (first | exact Drawn0.refl _ | apply Drawn0.step)⟩

/-! ### math_Trunc: function 40 -/
def math_Trunc.f (a0 : Nat) : Option (Nat) := if ftruncok a0 = true then (some (ftrunc a0)) else (none)
set_option maxHeartbeats 8000000 in
set_option maxRecDepth 100000 in
theorem math_Trunc.calls (a0 : Nat) (r : Nat) (w : World) (h : math_Trunc.f a0 = some r) :
  Calls Tryz.prog 40 #[.float .f64 a0] w fun e w' => e = .returned (.float .f64 r) ∧ Drawn0 w w' := by
 have hx61 := @ext61
 have H : (if ftruncok a0 = true then (some (ftrunc a0)) else (none)) = some r := h
 clear h
 by_cases c2 : ftruncok a0 = true
 ·
  rw [if_pos c2] at H
  have c2b0 := eq_true c2
  have c2b1 : decide (ftruncok a0 = true) = true := decide_eq_true c2
  clear c2
  obtain rfl := Option.some.inj H
  go_enter Tryz.func40, Tryz.ntmps40
  go_wp2
  go_ret
  exact ⟨by first | rfl | (simp; done) | (simp [*]; done), by repeat (first | exact Drawn0.refl _ | apply Drawn0.step)⟩
 ·
  rw [if_neg c2] at H
  exact absurd H (by simp)

/-! ### phasor_whole: function 36 -/
def phasor_whole.f (a0 : Nat) (a1 : Nat) : Option (Bool) := (math_Abs.f a0).bind fun t103 => (if fle t103 a1 = true then ((math_Trunc.f a0).bind fun t104 => (some (feq t104 a0))) else (some false))
set_option maxHeartbeats 8000000 in
set_option maxRecDepth 100000 in
theorem phasor_whole.calls (a0 : Nat) (a1 : Nat) (r : Bool) (w : World) (h : phasor_whole.f a0 a1 = some r) :
  Calls Tryz.prog 36 #[.float .f64 a0, .float .f64 a1] w fun e w' => e = .returned (.bool r) ∧ Drawn0 w w' := by
 have H : ((math_Abs.f a0).bind fun t103 => (if fle t103 a1 = true then ((math_Trunc.f a0).bind fun t104 => (some (feq t104 a0))) else (some false))) = some r := h
 clear h
 replace H := Option.bind_eq_some_iff.mp H
 obtain ⟨t103, A30, H⟩ := H
 replace H : (if fle t103 a1 = true then ((math_Trunc.f a0).bind fun t104 => (some (feq t104 a0))) else (some false)) = some r := H
 have A3 := Aside0.mk A30
 clear A30
 by_cases c4 : fle t103 a1 = true
 ·
  rw [if_pos c4] at H
  have c4b0 : fle t103 a1 = true := c4
  clear c4
  replace H := Option.bind_eq_some_iff.mp H
  obtain ⟨t104, A50, H⟩ := H
  replace H : (some (feq t104 a0)) = some r := H
  have A5 := Aside0.mk A50
  clear A50
  obtain rfl := Option.some.inj H
  go_enter Tryz.func36, Tryz.ntmps36
  go_wp2_with (first | ((with_reducible refine gate_callee (f := 55) rfl ?_); refine gL_ (some 6) Tryz.func55 #[.float .f64 a0] ?_; (with_reducible refine (math_Abs.calls a0 t103 _ A3.out).mono ?_); rintro e w' ⟨rfl, ⟨nd, rfl⟩⟩; refine ⟨_, rfl, ?_⟩) | (go_at_call 40; (with_reducible refine (math_Trunc.calls a0 t104 _ A5.out).mono ?_); rintro e w' ⟨rfl, ⟨nd, rfl⟩⟩))
  go_ret
  exact ⟨by first | rfl | (simp; done) | (simp [*]; done), by repeat (first | exact Drawn0.refl _ | apply Drawn0.step)⟩
 ·
  rw [if_neg c4] at H
  have c4b0 : fle t103 a1 = false := Bool.eq_false_iff.mpr c4
  clear c4
  obtain rfl := Option.some.inj H
  go_enter Tryz.func36, Tryz.ntmps36
  go_wp2_with (first | ((with_reducible refine gate_callee (f := 55) rfl ?_); refine gL_ (some 6) Tryz.func55 #[.float .f64 a0] ?_; (with_reducible refine (math_Abs.calls a0 t103 _ A3.out).mono ?_); rintro e w' ⟨rfl, ⟨nd, rfl⟩⟩; refine ⟨_, rfl, ?_⟩))
  go_ret
  exact ⟨by first | rfl | (simp; done) | (simp [*]; done), by repeat (first | exact Drawn0.refl _ | apply Drawn0.step)⟩

/-! ### phasor_Fits: function 9 -/
def phasor_Fits.f (a0 : Cx) : Option (Bool) := (phasor_whole.f a0.re 4719772409484279808).bind fun t105 => (if t105 = true then ((phasor_whole.f a0.im 4719772409484279808).bind fun t106 => (some t106)) else (some false))
set_option maxHeartbeats 8000000 in
set_option maxRecDepth 100000 in
theorem phasor_Fits.calls (a0 : Cx) (r : Bool) (w : World) (h : phasor_Fits.f a0 = some r) :
  Calls Tryz.prog 9 #[.complex .f64 a0.re a0.im] w fun e w' => e = .returned (.bool r) ∧ Below w.heap.size w w' := by
 have HB := Aside0.mk (Below.refl w.heap.size w)
 have H : ((phasor_whole.f a0.re 4719772409484279808).bind fun t105 => (if t105 = true then ((phasor_whole.f a0.im 4719772409484279808).bind fun t106 => (some t106)) else (some false))) = some r := h
 clear h
 replace H := Option.bind_eq_some_iff.mp H
 obtain ⟨t105, A20, H⟩ := H
 replace H : (if t105 = true then ((phasor_whole.f a0.im 4719772409484279808).bind fun t106 => (some t106)) else (some false)) = some r := H
 have A2 := Aside0.mk A20
 clear A20
 by_cases c3 : t105 = true
 ·
  subst c3
  have H1 : ((phasor_whole.f a0.im 4719772409484279808).bind fun t106 => (some t106)) = some r := by rw [if_pos rfl] at H; exact H
  clear H
  have H := H1
  clear H1
  replace H := Option.bind_eq_some_iff.mp H
  obtain ⟨t106, A40, H⟩ := H
  replace H : (some t106) = some r := H
  have A4 := Aside0.mk A40
  clear A40
  obtain rfl := Option.some.inj H
  go_enter Tryz.func9, Tryz.ntmps9
  go_wp2_with (first | ((with_reducible refine gate_callee (f := 36) rfl ?_); refine gL_ (some 5) Tryz.func36 #[.float .f64 a0.re, .float .f64 4719772409484279808] ?_; (with_reducible refine (phasor_whole.calls a0.re 4719772409484279808 true _ A2.out).mono ?_); rintro e w' ⟨rfl, ⟨nd, rfl⟩⟩; refine ⟨_, rfl, ?_⟩) | (go_at_call 36; (with_reducible refine (phasor_whole.calls a0.im 4719772409484279808 t106 _ A4.out).mono ?_); rintro e w' ⟨rfl, ⟨nd, rfl⟩⟩))
  go_ret
  exact fin_
 ·
  replace c3 := Bool.eq_false_iff.mpr c3
  subst c3
  have H1 : (some false) = some r := by rw [if_neg (show ¬ (false = true) by decide)] at H; exact H
  clear H
  have H := H1
  clear H1
  obtain rfl := Option.some.inj H
  go_enter Tryz.func9, Tryz.ntmps9
  go_wp2_with (first | ((with_reducible refine gate_callee (f := 36) rfl ?_); refine gL_ (some 5) Tryz.func36 #[.float .f64 a0.re, .float .f64 4719772409484279808] ?_; (with_reducible refine (phasor_whole.calls a0.re 4719772409484279808 false _ A2.out).mono ?_); rintro e w' ⟨rfl, ⟨nd, rfl⟩⟩; refine ⟨_, rfl, ?_⟩))
  go_ret
  exact fin_

/-! ### phasor_conjugate: function 35 -/
def phasor_conjugate.f (a0 : Cx) : Option (Cx) := some (cx a0.re (fneg a0.im))
set_option maxHeartbeats 8000000 in
set_option maxRecDepth 100000 in
theorem phasor_conjugate.calls (a0 : Cx) (r : Cx) (w : World) (h : phasor_conjugate.f a0 = some r) :
  Calls Tryz.prog 35 #[.complex .f64 a0.re a0.im] w fun e w' => e = .returned (.complex .f64 r.re r.im) ∧ Below w.heap.size w w' := by
 have HB := Aside0.mk (Below.refl w.heap.size w)
 have H : (some (cx a0.re (fneg a0.im))) = some r := h
 clear h
 obtain rfl := Option.some.inj H
 go_enter Tryz.func35, Tryz.ntmps35
 go_wp2
 go_ret
 exact fin_

/-! ### phasor_Power: function 8 -/
def phasor_Power.f (a0 : Cx) (a1 : Cx) : Option (Cx × Int) := (phasor_Fits.f a0).bind fun t107 => (if t107 = true then ((phasor_Fits.f a1).bind fun t108 => (if t108 = true then ((phasor_conjugate.f a1).bind fun t109 => (if cmulok a0.re a0.im t109.re t109.im = true then (some (cx (cmulre a0.re a0.im t109.re t109.im) (cmulim a0.re a0.im t109.re t109.im), 0)) else (none))) else (some (cx 0 0, 5)))) else (some (cx 0 0, 5)))
set_option maxHeartbeats 8000000 in
set_option maxRecDepth 100000 in
theorem phasor_Power.calls (a0 : Cx) (a1 : Cx) (r1 : Cx) (r2 : Int) (w : World) (h : phasor_Power.f a0 a1 = some (r1, r2)) :
  Calls Tryz.prog 8 #[.complex .f64 a0.re a0.im, .complex .f64 a1.re a1.im] w fun e w' => e = .returned (.tuple #[.complex .f64 r1.re r1.im, .int .i64 r2]) ∧ Below w.heap.size w w' := by
 have HB := Aside0.mk (Below.refl w.heap.size w)
 have H : ((phasor_Fits.f a0).bind fun t107 => (if t107 = true then ((phasor_Fits.f a1).bind fun t108 => (if t108 = true then ((phasor_conjugate.f a1).bind fun t109 => (if cmulok a0.re a0.im t109.re t109.im = true then (some (cx (cmulre a0.re a0.im t109.re t109.im) (cmulim a0.re a0.im t109.re t109.im), 0)) else (none))) else (some (cx 0 0, 5)))) else (some (cx 0 0, 5)))) = some (r1, r2) := h
 clear h
 replace H := Option.bind_eq_some_iff.mp H
 obtain ⟨t107, A30, H⟩ := H
 replace H : (if t107 = true then ((phasor_Fits.f a1).bind fun t108 => (if t108 = true then ((phasor_conjugate.f a1).bind fun t109 => (if cmulok a0.re a0.im t109.re t109.im = true then (some (cx (cmulre a0.re a0.im t109.re t109.im) (cmulim a0.re a0.im t109.re t109.im), 0)) else (none))) else (some (cx 0 0, 5)))) else (some (cx 0 0, 5))) = some (r1, r2) := H
 have A3 := Aside0.mk A30
 clear A30
 by_cases c4 : t107 = true
 ·
  subst c4
  have H1 : ((phasor_Fits.f a1).bind fun t108 => (if t108 = true then ((phasor_conjugate.f a1).bind fun t109 => (if cmulok a0.re a0.im t109.re t109.im = true then (some (cx (cmulre a0.re a0.im t109.re t109.im) (cmulim a0.re a0.im t109.re t109.im), 0)) else (none))) else (some (cx 0 0, 5)))) = some (r1, r2) := by rw [if_pos rfl] at H; exact H
  clear H
  have H := H1
  clear H1
  replace H := Option.bind_eq_some_iff.mp H
  obtain ⟨t108, A50, H⟩ := H
  replace H : (if t108 = true then ((phasor_conjugate.f a1).bind fun t109 => (if cmulok a0.re a0.im t109.re t109.im = true then (some (cx (cmulre a0.re a0.im t109.re t109.im) (cmulim a0.re a0.im t109.re t109.im), 0)) else (none))) else (some (cx 0 0, 5))) = some (r1, r2) := H
  have A5 := Aside0.mk A50
  clear A50
  by_cases c6 : t108 = true
  ·
   subst c6
   have H1 : ((phasor_conjugate.f a1).bind fun t109 => (if cmulok a0.re a0.im t109.re t109.im = true then (some (cx (cmulre a0.re a0.im t109.re t109.im) (cmulim a0.re a0.im t109.re t109.im), 0)) else (none))) = some (r1, r2) := by rw [if_pos rfl] at H; exact H
   clear H
   have H := H1
   clear H1
   replace H := Option.bind_eq_some_iff.mp H
   obtain ⟨t109, A70, H⟩ := H
   replace H : (if cmulok a0.re a0.im t109.re t109.im = true then (some (cx (cmulre a0.re a0.im t109.re t109.im) (cmulim a0.re a0.im t109.re t109.im), 0)) else (none)) = some (r1, r2) := H
   have A7 := Aside0.mk A70
   clear A70
   by_cases c8 : cmulok a0.re a0.im t109.re t109.im = true
   ·
    rw [if_pos c8] at H
    have c8b0 := eq_true c8
    have c8b1 : decide (cmulok a0.re a0.im t109.re t109.im = true) = true := decide_eq_true c8
    clear c8
    simp only [Option.some.injEq, Prod.mk.injEq] at H
    obtain ⟨rfl, rfl⟩ := H
    go_enter Tryz.func8, Tryz.ntmps8
    go_wp2_with (first | ((with_reducible refine gate_callee (f := 9) rfl ?_); refine gL_ (some 7) Tryz.func9 #[.complex .f64 a0.re a0.im] ?_; (with_reducible refine (phasor_Fits.calls a0 true _ A3.out).mono ?_); rintro e w9 ⟨rfl, hb⟩; refine ⟨_, rfl, ?_⟩; replace HB := Aside0.mk (bst_ hb); (try clear hb); (try clear hb2); (try clear hk); (try clear hi)) | (go_at_call 9; (with_reducible refine (phasor_Fits.calls a1 true _ A5.out).mono ?_); rintro e w10 ⟨rfl, hb⟩; replace HB := Aside0.mk (bst_ hb); (try clear hb); (try clear hb2); (try clear hk); (try clear hi)) | ((with_reducible refine gate_callee (f := 35) rfl ?_); refine gL_ (some 16) Tryz.func35 #[.complex .f64 a1.re a1.im] ?_; (with_reducible refine (phasor_conjugate.calls a1 t109 _ A7.out).mono ?_); rintro e w11 ⟨rfl, hb⟩; refine ⟨_, rfl, ?_⟩; replace HB := Aside0.mk (bst_ hb); (try clear hb); (try clear hb2); (try clear hk); (try clear hi)))
    go_ret2
    exact fin_
   ·
    rw [if_neg c8] at H
    exact absurd H (by simp)
  ·
   replace c6 := Bool.eq_false_iff.mpr c6
   subst c6
   have H1 : (some (cx 0 0, 5)) = some (r1, r2) := by rw [if_neg (show ¬ (false = true) by decide)] at H; exact H
   clear H
   have H := H1
   clear H1
   simp only [Option.some.injEq, Prod.mk.injEq] at H
   obtain ⟨rfl, rfl⟩ := H
   go_enter Tryz.func8, Tryz.ntmps8
   go_wp2_with (first | ((with_reducible refine gate_callee (f := 9) rfl ?_); refine gL_ (some 7) Tryz.func9 #[.complex .f64 a0.re a0.im] ?_; (with_reducible refine (phasor_Fits.calls a0 true _ A3.out).mono ?_); rintro e w12 ⟨rfl, hb⟩; refine ⟨_, rfl, ?_⟩; replace HB := Aside0.mk (bst_ hb); (try clear hb); (try clear hb2); (try clear hk); (try clear hi)) | (go_at_call 9; (with_reducible refine (phasor_Fits.calls a1 false _ A5.out).mono ?_); rintro e w13 ⟨rfl, hb⟩; replace HB := Aside0.mk (bst_ hb); (try clear hb); (try clear hb2); (try clear hk); (try clear hi)))
   go_ret2
   exact fin_
 ·
  replace c4 := Bool.eq_false_iff.mpr c4
  subst c4
  have H1 : (some (cx 0 0, 5)) = some (r1, r2) := by rw [if_neg (show ¬ (false = true) by decide)] at H; exact H
  clear H
  have H := H1
  clear H1
  simp only [Option.some.injEq, Prod.mk.injEq] at H
  obtain ⟨rfl, rfl⟩ := H
  go_enter Tryz.func8, Tryz.ntmps8
  go_wp2_with (first | ((with_reducible refine gate_callee (f := 9) rfl ?_); refine gL_ (some 7) Tryz.func9 #[.complex .f64 a0.re a0.im] ?_; (with_reducible refine (phasor_Fits.calls a0 false _ A3.out).mono ?_); rintro e w14 ⟨rfl, hb⟩; refine ⟨_, rfl, ?_⟩; replace HB := Aside0.mk (bst_ hb); (try clear hb); (try clear hb2); (try clear hk); (try clear hi)))
  go_ret2
  exact fin_

/-! ### pylonlaw02_awake: function 4 -/
def pylonlaw02_awake.f  : Option (Bool) := (phasor_Power.f (cx 4607182418800017408 4611686018427387904) (cx 4613937818241073152 4616189618054758400)).bind fun bt110 => (if bt110.2 = 0 then (some (ceq bt110.1.re bt110.1.im 4622382067542392832 4611686018427387904)) else (some false))
set_option maxHeartbeats 8000000 in
set_option maxRecDepth 100000 in
theorem pylonlaw02_awake.calls  (r : Bool) (w : World) (h : pylonlaw02_awake.f  = some r) :
  Calls Tryz.prog 4 #[] w fun e w' => e = .returned (.bool r) ∧ Below w.heap.size w w' := by
 have HB := Aside0.mk (Below.refl w.heap.size w)
 have H : ((phasor_Power.f (cx 4607182418800017408 4611686018427387904) (cx 4613937818241073152 4616189618054758400)).bind fun bt110 => (if bt110.2 = 0 then (some (ceq bt110.1.re bt110.1.im 4622382067542392832 4611686018427387904)) else (some false))) = some r := h
 clear h
 replace H := Option.bind_eq_some_iff.mp H
 obtain ⟨⟨t110, t111⟩, A10, H⟩ := H
 replace H : (if t111 = 0 then (some (ceq t110.re t110.im 4622382067542392832 4611686018427387904)) else (some false)) = some r := H
 have A1 := Aside0.mk A10
 clear A10
 by_cases c2 : t111 = 0
 ·
  rw [if_pos c2] at H
  obtain ⟨c2b0, c2b1⟩ := eqT_ c2
  clear c2
  obtain rfl := Option.some.inj H
  go_enter Tryz.func4, Tryz.ntmps4
  go_wp2_with (first | ((with_reducible refine gate_callee (f := 8) rfl ?_); refine gL_ (some 4) Tryz.func8 #[.complex .f64 4607182418800017408 4611686018427387904, .complex .f64 4613937818241073152 4616189618054758400] ?_; (with_reducible refine (phasor_Power.calls (cx 4607182418800017408 4611686018427387904) (cx 4613937818241073152 4616189618054758400) t110 t111 _ A1.out).mono ?_); rintro e w3 ⟨rfl, hb⟩; refine ⟨_, rfl, ?_⟩; replace HB := Aside0.mk (bst_ hb); (try clear hb); (try clear hb2); (try clear hk); (try clear hi)))
  go_ret
  exact fin_
 ·
  rw [if_neg c2] at H
  obtain ⟨c2b0, c2b1⟩ := eqF_ c2
  obtain rfl := Option.some.inj H
  go_enter Tryz.func4, Tryz.ntmps4
  go_wp2_with (first | ((with_reducible refine gate_callee (f := 8) rfl ?_); refine gL_ (some 4) Tryz.func8 #[.complex .f64 4607182418800017408 4611686018427387904, .complex .f64 4613937818241073152 4616189618054758400] ?_; (with_reducible refine (phasor_Power.calls (cx 4607182418800017408 4611686018427387904) (cx 4613937818241073152 4616189618054758400) t110 t111 _ A1.out).mono ?_); rintro e w4 ⟨rfl, hb⟩; refine ⟨_, rfl, ?_⟩; replace HB := Aside0.mk (bst_ hb); (try clear hb); (try clear hb2); (try clear hk); (try clear hi)))
  go_ret
  exact fin_

/-! ### pylonlaw02_same: function 5 -/
def pylonlaw02_same.f (a0_0 : Cx) (a0_1 : Cx) (a0_2 : Cx) (a0_3 : Cx) (a0_4 : Cx) (a0_5 : Int) (a0_6 : Int) (a0_7 : Int) (a0_8 : Bool) (a0_9 : ByteArray) (a0_10 : Int) (a1_0 : Cx) (a1_1 : Cx) (a1_2 : Cx) (a1_3 : Cx) (a1_4 : Cx) (a1_5 : Int) (a1_6 : Int) (a1_7 : Int) (a1_8 : Bool) (a1_9 : ByteArray) (a1_10 : Int) : Option (Bool) := if ceq a0_0.re a0_0.im a1_0.re a1_0.im = true then (if (ceq4 a0_1.re a0_1.im a0_2.re a0_2.im a0_3.re a0_3.im a0_4.re a0_4.im a1_1.re a1_1.im a1_2.re a1_2.im a1_3.re a1_3.im a1_4.re a1_4.im) = true then (if a0_5 = a1_5 then (if a0_6 = a1_6 then (if a0_7 = a1_7 then (if (a0_8 == a1_8) = true then (if a0_9.toList = a1_9.toList then (some (a0_10 == a1_10)) else (some false)) else (some false)) else (some false)) else (some false)) else (some false)) else (some false)) else (some false)
set_option maxHeartbeats 8000000 in
set_option maxRecDepth 100000 in
theorem pylonlaw02_same.calls (a0_0 : Cx) (a0_1 : Cx) (a0_2 : Cx) (a0_3 : Cx) (a0_4 : Cx) (a0_5 : Int) (a0_6 : Int) (a0_7 : Int) (a0_8 : Bool) (a0_9 : ByteArray) (a0_10 : Int) (a1_0 : Cx) (a1_1 : Cx) (a1_2 : Cx) (a1_3 : Cx) (a1_4 : Cx) (a1_5 : Int) (a1_6 : Int) (a1_7 : Int) (a1_8 : Bool) (a1_9 : ByteArray) (a1_10 : Int) (r : Bool) (w : World) (h : pylonlaw02_same.f a0_0 a0_1 a0_2 a0_3 a0_4 a0_5 a0_6 a0_7 a0_8 a0_9 a0_10 a1_0 a1_1 a1_2 a1_3 a1_4 a1_5 a1_6 a1_7 a1_8 a1_9 a1_10 = some r) :
  Calls Tryz.prog 5 #[.agg #[.complex .f64 a0_0.re a0_0.im, .complex .f64 a0_1.re a0_1.im, .complex .f64 a0_2.re a0_2.im, .complex .f64 a0_3.re a0_3.im, .complex .f64 a0_4.re a0_4.im, .int .i64 a0_5, .int .i64 a0_6, .int .i64 a0_7, .bool a0_8, .string a0_9, .int .i64 a0_10], .agg #[.complex .f64 a1_0.re a1_0.im, .complex .f64 a1_1.re a1_1.im, .complex .f64 a1_2.re a1_2.im, .complex .f64 a1_3.re a1_3.im, .complex .f64 a1_4.re a1_4.im, .int .i64 a1_5, .int .i64 a1_6, .int .i64 a1_7, .bool a1_8, .string a1_9, .int .i64 a1_10]] w fun e w' => e = .returned (.bool r) ∧ Below w.heap.size w w' := by
 have hu29 := Tryz.underlying29
 have hu26 := Tryz.underlying26
 have hae26 := fun w a1 a2 b1 b2 c1 c2 d1 d2 e1 e2 f1 f2 g1 g2 h1 h2 => cxx_arr4 (P := Tryz.prog) w 26 a1 a2 b1 b2 c1 c2 d1 d2 e1 e2 f1 f2 g1 g2 h1 h2 (by kernel_rfl) (by kernel_rfl) (by kernel_rfl) (by kernel_rfl)
 have HB := Aside0.mk (Below.refl w.heap.size w)
 have H : (if ceq a0_0.re a0_0.im a1_0.re a1_0.im = true then (if (ceq4 a0_1.re a0_1.im a0_2.re a0_2.im a0_3.re a0_3.im a0_4.re a0_4.im a1_1.re a1_1.im a1_2.re a1_2.im a1_3.re a1_3.im a1_4.re a1_4.im) = true then (if a0_5 = a1_5 then (if a0_6 = a1_6 then (if a0_7 = a1_7 then (if (a0_8 == a1_8) = true then (if a0_9.toList = a1_9.toList then (some (a0_10 == a1_10)) else (some false)) else (some false)) else (some false)) else (some false)) else (some false)) else (some false)) else (some false)) = some r := h
 clear h
 go_enter Tryz.func5, Tryz.ntmps5
 go_upto_region 1 with (first | ((with_reducible refine gate_dst (N := 2) rfl ?_); refine box_event ?hg (N := 2) ?hd (cs := #[.complex .f64 a0_0.re a0_0.im, .complex .f64 a0_1.re a0_1.im, .complex .f64 a0_2.re a0_2.im, .complex .f64 a0_3.re a0_3.im, .complex .f64 a0_4.re a0_4.im, .int .i64 a0_5, .int .i64 a0_6, .int .i64 a0_7, .bool a0_8, .string a0_9, .int .i64 a0_10]) (t := 29) ?hr ?_; (case hd => rfl); (case hg => rfl); (case hr => first | (go_simp; done) | (go_simp; rfl)); intro gb112 hg w10 hbox hb; have BK112 := Aside0.mk (hbox); have GW112 := Aside0.mk ((ge_ hg : w.heap.size ≤ gb112)); have GE112 := Aside0.mk ((ge_ hg : w.heap.size ≤ gb112)); replace HB := Aside0.mk (bst_ hb); clear hb hbox hg) | ((with_reducible refine gate_dst (N := 3) rfl ?_); refine box_event ?hg (N := 3) ?hd (cs := #[.complex .f64 a1_0.re a1_0.im, .complex .f64 a1_1.re a1_1.im, .complex .f64 a1_2.re a1_2.im, .complex .f64 a1_3.re a1_3.im, .complex .f64 a1_4.re a1_4.im, .int .i64 a1_5, .int .i64 a1_6, .int .i64 a1_7, .bool a1_8, .string a1_9, .int .i64 a1_10]) (t := 29) ?hr ?_; (case hd => rfl); (case hg => rfl); (case hr => first | (go_simp; done) | (go_simp; rfl)); intro gb113 hg w11 hbox hb; have BK113 := Aside0.mk (hbox); have GW113 := Aside0.mk ((ge_ hg : w.heap.size ≤ gb113)); have GE113 := Aside0.mk ((ge_ hg : w.heap.size ≤ gb113)); have NB112_113 := Aside0.mk ((nl_ hg (by (with_reducible repeat (first | refine blk_drewN ?_ _ | refine blk_drew ?_ | refine blk_alloc ?_ _)); exact BK112.out) : gb112 ≠ gb113)); have NB113_112 := Aside0.mk ((ng_ hg (by (with_reducible repeat (first | refine blk_drewN ?_ _ | refine blk_drew ?_ | refine blk_alloc ?_ _)); exact BK112.out) : gb113 ≠ gb112)); replace BK112 := Aside0.mk (blk_below (g := gb112) (o := .cells #[.complex .f64 a0_0.re a0_0.im, .complex .f64 a0_1.re a0_1.im, .complex .f64 a0_2.re a0_2.im, .complex .f64 a0_3.re a0_3.im, .complex .f64 a0_4.re a0_4.im, .int .i64 a0_5, .int .i64 a0_6, .int .i64 a0_7, .bool a0_8, .string a0_9, .int .i64 a0_10] 29 (0, 0)) (by (with_reducible repeat (first | refine blk_drewN ?_ _ | refine blk_drew ?_ | refine blk_alloc ?_ _)); exact BK112.out) hb); replace HB := Aside0.mk (bst_ hb); clear hb hbox hg; have hnb12 := NB112_113.out; have hnc12 := NB113_112.out; have hcz13_0 : w11.cell? ⟨gb112, 0, none⟩ = some (.complex .f64 a0_0.re a0_0.im) := (blk_cell BK112.out 0).trans rfl; have hcz13_1 : w11.cell? ⟨gb112, 1, none⟩ = some (.complex .f64 a0_1.re a0_1.im) := (blk_cell BK112.out 1).trans rfl; have hcz13_2 : w11.cell? ⟨gb112, 2, none⟩ = some (.complex .f64 a0_2.re a0_2.im) := (blk_cell BK112.out 2).trans rfl; have hcz13_3 : w11.cell? ⟨gb112, 3, none⟩ = some (.complex .f64 a0_3.re a0_3.im) := (blk_cell BK112.out 3).trans rfl; have hcz13_4 : w11.cell? ⟨gb112, 4, none⟩ = some (.complex .f64 a0_4.re a0_4.im) := (blk_cell BK112.out 4).trans rfl; have hcz13_5 : w11.cell? ⟨gb112, 5, none⟩ = some (.int .i64 a0_5) := (blk_cell BK112.out 5).trans rfl; have hcz13_6 : w11.cell? ⟨gb112, 6, none⟩ = some (.int .i64 a0_6) := (blk_cell BK112.out 6).trans rfl; have hcz13_7 : w11.cell? ⟨gb112, 7, none⟩ = some (.int .i64 a0_7) := (blk_cell BK112.out 7).trans rfl; have hcz13_8 : w11.cell? ⟨gb112, 8, none⟩ = some (.bool a0_8) := (blk_cell BK112.out 8).trans rfl; have hcz13_9 : w11.cell? ⟨gb112, 9, none⟩ = some (.string a0_9) := (blk_cell BK112.out 9).trans rfl; have hcz13_10 : w11.cell? ⟨gb112, 10, none⟩ = some (.int .i64 a0_10) := (blk_cell BK112.out 10).trans rfl; have hfz13_0 := blk_frozen BK112.out 0; have hfz13_1 := blk_frozen BK112.out 1; have hfz13_2 := blk_frozen BK112.out 2; have hfz13_3 := blk_frozen BK112.out 3; have hfz13_4 := blk_frozen BK112.out 4; have hfz13_5 := blk_frozen BK112.out 5; have hfz13_6 := blk_frozen BK112.out 6; have hfz13_7 := blk_frozen BK112.out 7; have hfz13_8 := blk_frozen BK112.out 8; have hfz13_9 := blk_frozen BK112.out 9; have hfz13_10 := blk_frozen BK112.out 10; have hcz14_0 : w11.cell? ⟨gb113, 0, none⟩ = some (.complex .f64 a1_0.re a1_0.im) := (blk_cell BK113.out 0).trans rfl; have hcz14_1 : w11.cell? ⟨gb113, 1, none⟩ = some (.complex .f64 a1_1.re a1_1.im) := (blk_cell BK113.out 1).trans rfl; have hcz14_2 : w11.cell? ⟨gb113, 2, none⟩ = some (.complex .f64 a1_2.re a1_2.im) := (blk_cell BK113.out 2).trans rfl; have hcz14_3 : w11.cell? ⟨gb113, 3, none⟩ = some (.complex .f64 a1_3.re a1_3.im) := (blk_cell BK113.out 3).trans rfl; have hcz14_4 : w11.cell? ⟨gb113, 4, none⟩ = some (.complex .f64 a1_4.re a1_4.im) := (blk_cell BK113.out 4).trans rfl; have hcz14_5 : w11.cell? ⟨gb113, 5, none⟩ = some (.int .i64 a1_5) := (blk_cell BK113.out 5).trans rfl; have hcz14_6 : w11.cell? ⟨gb113, 6, none⟩ = some (.int .i64 a1_6) := (blk_cell BK113.out 6).trans rfl; have hcz14_7 : w11.cell? ⟨gb113, 7, none⟩ = some (.int .i64 a1_7) := (blk_cell BK113.out 7).trans rfl; have hcz14_8 : w11.cell? ⟨gb113, 8, none⟩ = some (.bool a1_8) := (blk_cell BK113.out 8).trans rfl; have hcz14_9 : w11.cell? ⟨gb113, 9, none⟩ = some (.string a1_9) := (blk_cell BK113.out 9).trans rfl; have hcz14_10 : w11.cell? ⟨gb113, 10, none⟩ = some (.int .i64 a1_10) := (blk_cell BK113.out 10).trans rfl; have hfz14_0 := blk_frozen BK113.out 0; have hfz14_1 := blk_frozen BK113.out 1; have hfz14_2 := blk_frozen BK113.out 2; have hfz14_3 := blk_frozen BK113.out 3; have hfz14_4 := blk_frozen BK113.out 4; have hfz14_5 := blk_frozen BK113.out 5; have hfz14_6 := blk_frozen BK113.out 6; have hfz14_7 := blk_frozen BK113.out 7; have hfz14_8 := blk_frozen BK113.out 8; have hfz14_9 := blk_frozen BK113.out 9; have hfz14_10 := blk_frozen BK113.out 10))
 by_cases c3 : ceq a0_0.re a0_0.im a1_0.re a1_0.im = true
 ·
  rw [if_pos c3] at H
  have c3b0 : ceq a0_0.re a0_0.im a1_0.re a1_0.im = true := c3
  clear c3
  by_cases c4 : (ceq4 a0_1.re a0_1.im a0_2.re a0_2.im a0_3.re a0_3.im a0_4.re a0_4.im a1_1.re a1_1.im a1_2.re a1_2.im a1_3.re a1_3.im a1_4.re a1_4.im) = true
  ·
   rw [if_pos c4] at H
   have c4b0 : (ceq4 a0_1.re a0_1.im a0_2.re a0_2.im a0_3.re a0_3.im a0_4.re a0_4.im a1_1.re a1_1.im a1_2.re a1_2.im a1_3.re a1_3.im a1_4.re a1_4.im) = true := c4
   clear c4
   by_cases c5 : a0_5 = a1_5
   ·
    rw [if_pos c5] at H
    obtain ⟨c5b0, c5b1⟩ := eqT_ c5
    clear c5
    by_cases c6 : a0_6 = a1_6
    ·
     rw [if_pos c6] at H
     obtain ⟨c6b0, c6b1⟩ := eqT_ c6
     clear c6
     by_cases c7 : a0_7 = a1_7
     ·
      rw [if_pos c7] at H
      obtain ⟨c7b0, c7b1⟩ := eqT_ c7
      clear c7
      by_cases c8 : (a0_8 == a1_8) = true
      ·
       rw [if_pos c8] at H
       have c8b0 : (a0_8 == a1_8) = true := c8
       (try (have c8b1 : decide (a0_8 = a1_8) = true := by simpa using c8))
       (try (have c8b2 : (a0_8 == a1_8) = true := by simpa using c8))
       clear c8
       by_cases c9 : a0_9.toList = a1_9.toList
       ·
        rw [if_pos c9] at H
        have c9b0 : (a0_9.toList == a1_9.toList) = true := beq_iff_eq.mpr c9
        have c9b1 : (a0_9.toList != a1_9.toList) = false := bne_eq_false_iff_eq.mpr c9
        clear c9
        obtain rfl := Option.some.inj H
        go_wp2
        go_ret
        exact fin_
       ·
        rw [if_neg c9] at H
        have c9b0 : (a0_9.toList == a1_9.toList) = false := beq_eq_false_iff_ne.mpr c9
        have c9b1 : (a0_9.toList != a1_9.toList) = true := bne_iff_ne.mpr c9
        obtain rfl := Option.some.inj H
        go_wp2
        go_ret
        exact fin_
      ·
       rw [if_neg c8] at H
       have c8b0 : (a0_8 == a1_8) = false := Bool.eq_false_iff.mpr c8
       (try (have c8b1 : decide (a0_8 = a1_8) = false := by simpa using c8))
       (try (have c8b2 : (a0_8 == a1_8) = false := by simpa using c8))
       (try (have c8b3 : ¬ (a0_8 = a1_8) := by simpa using c8))
       clear c8
       obtain rfl := Option.some.inj H
       go_wp2
       go_ret
       exact fin_
     ·
      rw [if_neg c7] at H
      obtain ⟨c7b0, c7b1⟩ := eqF_ c7
      obtain rfl := Option.some.inj H
      go_wp2
      go_ret
      exact fin_
    ·
     rw [if_neg c6] at H
     obtain ⟨c6b0, c6b1⟩ := eqF_ c6
     obtain rfl := Option.some.inj H
     go_wp2
     go_ret
     exact fin_
   ·
    rw [if_neg c5] at H
    obtain ⟨c5b0, c5b1⟩ := eqF_ c5
    obtain rfl := Option.some.inj H
    go_wp2
    go_ret
    exact fin_
  ·
   rw [if_neg c4] at H
   have c4b0 : (ceq4 a0_1.re a0_1.im a0_2.re a0_2.im a0_3.re a0_3.im a0_4.re a0_4.im a1_1.re a1_1.im a1_2.re a1_2.im a1_3.re a1_3.im a1_4.re a1_4.im) = false := Bool.eq_false_iff.mpr c4
   clear c4
   obtain rfl := Option.some.inj H
   go_wp2
   go_ret
   exact fin_
 ·
  rw [if_neg c3] at H
  have c3b0 : ceq a0_0.re a0_0.im a1_0.re a1_0.im = false := Bool.eq_false_iff.mpr c3
  clear c3
  obtain rfl := Option.some.inj H
  go_wp2
  go_ret
  exact fin_

/-! ### pylonlaw02_Z_c: function 10 -/
def pylonlaw02_Z_c.f (a0_0 : Nat) (a0_1 : Nat) : Option (Cx) := some (cx a0_0 a0_1)
set_option maxHeartbeats 8000000 in
set_option maxRecDepth 100000 in
theorem pylonlaw02_Z_c.calls (a0_0 : Nat) (a0_1 : Nat) (r : Cx) (w : World) (h : pylonlaw02_Z_c.f a0_0 a0_1 = some r) :
  Calls Tryz.prog 10 #[.agg #[.float .f64 a0_0, .float .f64 a0_1]] w fun e w' => e = .returned (.complex .f64 r.re r.im) ∧ Below w.heap.size w w' := by
 have hu33 := Tryz.underlying33
 have HB := Aside0.mk (Below.refl w.heap.size w)
 have H : (some (cx a0_0 a0_1)) = some r := h
 clear h
 obtain rfl := Option.some.inj H
 go_enter Tryz.func10, Tryz.ntmps10
 go_wp2_with (first | ((with_reducible refine gate_dst (N := 1) rfl ?_); refine box_event ?hg (N := 1) ?hd (cs := #[.float .f64 a0_0, .float .f64 a0_1]) (t := 33) ?hr ?_; (case hd => rfl); (case hg => rfl); (case hr => first | (go_simp; done) | (go_simp; rfl)); intro gb114 hg w2 hbox hb; have BK114 := Aside0.mk (hbox); have GW114 := Aside0.mk ((ge_ hg : w.heap.size ≤ gb114)); have GE114 := Aside0.mk ((ge_ hg : w.heap.size ≤ gb114)); replace HB := Aside0.mk (bst_ hb); clear hb hbox hg; have hcz3_0 : w2.cell? ⟨gb114, 0, none⟩ = some (.float .f64 a0_0) := (blk_cell BK114.out 0).trans rfl; have hcz3_1 : w2.cell? ⟨gb114, 1, none⟩ = some (.float .f64 a0_1) := (blk_cell BK114.out 1).trans rfl; have hfz3_0 := blk_frozen BK114.out 0; have hfz3_1 := blk_frozen BK114.out 1))
 go_ret
 exact fin_

/-! ### phasor_Of: function 11 -/
def phasor_Of.f (a0 : Int) (a1 : Int) : Option (Cx × Int) := if a0 < (-33554432) then (some (cx 0 0, 5)) else (if a0 > 33554432 then (some (cx 0 0, 5)) else (if a1 < (-33554432) then (some (cx 0 0, 5)) else (if a1 > 33554432 then (some (cx 0 0, 5)) else (some (cx (floatOfInt .f64 a0) (floatOfInt .f64 a1), 0)))))
set_option maxHeartbeats 8000000 in
set_option maxRecDepth 100000 in
theorem phasor_Of.calls (a0 : Int) (a1 : Int) (r1 : Cx) (r2 : Int) (w : World) (h : phasor_Of.f a0 a1 = some (r1, r2)) :
  Calls Tryz.prog 11 #[.int .i64 a0, .int .i64 a1] w fun e w' => e = .returned (.tuple #[.complex .f64 r1.re r1.im, .int .i64 r2]) ∧ Below w.heap.size w w' := by
 have HB := Aside0.mk (Below.refl w.heap.size w)
 have H : (if a0 < (-33554432) then (some (cx 0 0, 5)) else (if a0 > 33554432 then (some (cx 0 0, 5)) else (if a1 < (-33554432) then (some (cx 0 0, 5)) else (if a1 > 33554432 then (some (cx 0 0, 5)) else (some (cx (floatOfInt .f64 a0) (floatOfInt .f64 a1), 0)))))) = some (r1, r2) := h
 clear h
 by_cases c3 : a0 < (-33554432)
 ·
  rw [if_pos c3] at H
  have c3b0 : decide (a0 < (-33554432)) = true := decide_eq_true c3
  clear c3
  simp only [Option.some.injEq, Prod.mk.injEq] at H
  obtain ⟨rfl, rfl⟩ := H
  go_enter Tryz.func11, Tryz.ntmps11
  go_wp2
  go_ret2
  exact fin_
 ·
  rw [if_neg c3] at H
  have c3b0 : decide (a0 < (-33554432)) = false := decide_eq_false c3
  clear c3
  by_cases c4 : a0 > 33554432
  ·
   rw [if_pos c4] at H
   have c4b0 : decide (33554432 < a0) = true := decide_eq_true c4
   clear c4
   simp only [Option.some.injEq, Prod.mk.injEq] at H
   obtain ⟨rfl, rfl⟩ := H
   go_enter Tryz.func11, Tryz.ntmps11
   go_wp2
   go_ret2
   exact fin_
  ·
   rw [if_neg c4] at H
   have c4b0 : decide (33554432 < a0) = false := decide_eq_false c4
   clear c4
   by_cases c5 : a1 < (-33554432)
   ·
    rw [if_pos c5] at H
    have c5b0 : decide (a1 < (-33554432)) = true := decide_eq_true c5
    clear c5
    simp only [Option.some.injEq, Prod.mk.injEq] at H
    obtain ⟨rfl, rfl⟩ := H
    go_enter Tryz.func11, Tryz.ntmps11
    go_wp2
    go_ret2
    exact fin_
   ·
    rw [if_neg c5] at H
    have c5b0 : decide (a1 < (-33554432)) = false := decide_eq_false c5
    clear c5
    by_cases c6 : a1 > 33554432
    ·
     rw [if_pos c6] at H
     have c6b0 : decide (33554432 < a1) = true := decide_eq_true c6
     clear c6
     simp only [Option.some.injEq, Prod.mk.injEq] at H
     obtain ⟨rfl, rfl⟩ := H
     go_enter Tryz.func11, Tryz.ntmps11
     go_wp2
     go_ret2
     exact fin_
    ·
     rw [if_neg c6] at H
     have c6b0 : decide (33554432 < a1) = false := decide_eq_false c6
     clear c6
     simp only [Option.some.injEq, Prod.mk.injEq] at H
     obtain ⟨rfl, rfl⟩ := H
     go_enter Tryz.func11, Tryz.ntmps11
     go_wp2
     go_ret2
     exact fin_

/-! ### phasor_Parts: function 12 -/
def phasor_Parts.f (a0 : Cx) : Option (Int × Int × Int) := (phasor_Fits.f a0).bind fun t115 => (if t115 = true then (if f2iok a0.re = true then (if f2iok a0.im = true then (some (f2i a0.re, f2i a0.im, 0)) else (none)) else (none)) else (some (0, 0, 5)))
set_option maxHeartbeats 8000000 in
set_option maxRecDepth 100000 in
theorem phasor_Parts.calls (a0 : Cx) (r1 : Int) (r2 : Int) (r3 : Int) (w : World) (h : phasor_Parts.f a0 = some (r1, r2, r3)) :
  Calls Tryz.prog 12 #[.complex .f64 a0.re a0.im] w fun e w' => e = .returned (.tuple #[.int .i64 r1, .int .i64 r2, .int .i64 r3]) ∧ Below w.heap.size w w' := by
 have HB := Aside0.mk (Below.refl w.heap.size w)
 have H : ((phasor_Fits.f a0).bind fun t115 => (if t115 = true then (if f2iok a0.re = true then (if f2iok a0.im = true then (some (f2i a0.re, f2i a0.im, 0)) else (none)) else (none)) else (some (0, 0, 5)))) = some (r1, r2, r3) := h
 clear h
 replace H := Option.bind_eq_some_iff.mp H
 obtain ⟨t115, A20, H⟩ := H
 replace H : (if t115 = true then (if f2iok a0.re = true then (if f2iok a0.im = true then (some (f2i a0.re, f2i a0.im, 0)) else (none)) else (none)) else (some (0, 0, 5))) = some (r1, r2, r3) := H
 have A2 := Aside0.mk A20
 clear A20
 by_cases c3 : t115 = true
 ·
  subst c3
  have H1 : (if f2iok a0.re = true then (if f2iok a0.im = true then (some (f2i a0.re, f2i a0.im, 0)) else (none)) else (none)) = some (r1, r2, r3) := by rw [if_pos rfl] at H; exact H
  clear H
  have H := H1
  clear H1
  by_cases c4 : f2iok a0.re = true
  ·
   rw [if_pos c4] at H
   have c4b0 := eq_true c4
   have c4b1 : decide (f2iok a0.re = true) = true := decide_eq_true c4
   clear c4
   by_cases c5 : f2iok a0.im = true
   ·
    rw [if_pos c5] at H
    have c5b0 := eq_true c5
    have c5b1 : decide (f2iok a0.im = true) = true := decide_eq_true c5
    clear c5
    simp only [Option.some.injEq, Prod.mk.injEq] at H
    obtain ⟨rfl, rfl, rfl⟩ := H
    go_enter Tryz.func12, Tryz.ntmps12
    go_wp2_with (first | ((with_reducible refine gate_callee (f := 9) rfl ?_); refine gL_ (some 6) Tryz.func9 #[.complex .f64 a0.re a0.im] ?_; (with_reducible refine (phasor_Fits.calls a0 true _ A2.out).mono ?_); rintro e w6 ⟨rfl, hb⟩; refine ⟨_, rfl, ?_⟩; replace HB := Aside0.mk (bst_ hb); (try clear hb); (try clear hb2); (try clear hk); (try clear hi)))
    go_ret3
    exact fin_
   ·
    rw [if_neg c5] at H
    exact absurd H (by simp)
  ·
   rw [if_neg c4] at H
   exact absurd H (by simp)
 ·
  replace c3 := Bool.eq_false_iff.mpr c3
  subst c3
  have H1 : (some (0, 0, 5)) = some (r1, r2, r3) := by rw [if_neg (show ¬ (false = true) by decide)] at H; exact H
  clear H
  have H := H1
  clear H1
  simp only [Option.some.injEq, Prod.mk.injEq] at H
  obtain ⟨rfl, rfl, rfl⟩ := H
  go_enter Tryz.func12, Tryz.ntmps12
  go_wp2_with (first | ((with_reducible refine gate_callee (f := 9) rfl ?_); refine gL_ (some 6) Tryz.func9 #[.complex .f64 a0.re a0.im] ?_; (with_reducible refine (phasor_Fits.calls a0 false _ A2.out).mono ?_); rintro e w7 ⟨rfl, hb⟩; refine ⟨_, rfl, ?_⟩; replace HB := Aside0.mk (bst_ hb); (try clear hb); (try clear hb2); (try clear hk); (try clear hi)))
  go_ret3
  exact fin_

end Go.Proofs.YtofedlghaopciaaGreatDoor.PA
