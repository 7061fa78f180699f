-- Written by a program of this session for this claim (wip/print2.sh). Lean checks it.
import Derived.Test.YtofedlghaopciaaDoorPPx0
import Derived.Test.YtofedlghaopciaaDoorHandS
namespace Go.Proofs.YtofedlghaopciaaDoor.PP
open Go.Proofs.YtofedlghaopciaaDoorW.PrintWords
attribute [local go_sem high] fx_eql fx_neq fx_lss fx_leq fx_gtr fx_geq fx_add fx_sub fx_mul fx_neg fx_toint cxx_add cxx_sub cxx_mul cxx_eql cxx_neq cxx_pick st_float st_complex
open Go.RowKit Go.Proofs.YtofedlghaopciaaDoorW.PrintWords Go.Proofs.YtofedlghaopciaaDoorW.PrintLast Go.Proofs.YtofedlghaopciaaDoorW.PrintMore
attribute [local go_sem] max2_int min2_int max_two min_two max_three min_three max_four min_four   -- for this text's walks alone
set_option linter.unusedVariables false
set_option linter.unusedSimpArgs false

-- NOT PRINTED: function 41 (math_Float64frombits)

-- NOT PRINTED: function 42 (math_Float64bits)

/-! ### math_Abs: function 28 -/
def math_Abs.f (a0 : Nat) : Option (Nat) := some (u2f (Go.bits .andNot .u64 (f2u a0) 9223372036854775808))
set_option maxHeartbeats 8000000 in
set_option maxRecDepth 100000 in
theorem math_Abs.calls (a0 : Nat) (r : Nat) (w : World) (h : math_Abs.f a0 = some r) :
    Calls Tryd.prog 28 #[.float .f64 a0] w fun e w' => e = .returned (.float .f64 r) ∧ Drawn0 w w' := by
  have hx41 := @ext41
  have hx42 := @ext42
  have H : (some (u2f (Go.bits .andNot .u64 (f2u a0) 9223372036854775808))) = some r := h
  clear h
  obtain rfl := Option.some.inj H
  go_enter Tryd.func28, Tryd.ntmps28
  go_wp2
  go_ret
  exact ⟨by first | rfl | (simp; done) | (simp [*]; done), by repeat (first | exact Drawn0.refl _ | apply Drawn0.step)⟩

-- NOT PRINTED: function 43 (math_archTrunc)

/-! ### math_Trunc: function 29 -/
def math_Trunc.f (a0 : Nat) : Option (Nat) := if ftruncok a0 = true then (some (ftrunc a0)) else (none)
set_option maxHeartbeats 8000000 in
set_option maxRecDepth 100000 in
theorem math_Trunc.calls (a0 : Nat) (r : Nat) (w : World) (h : math_Trunc.f a0 = some r) :
    Calls Tryd.prog 29 #[.float .f64 a0] w fun e w' => e = .returned (.float .f64 r) ∧ Drawn0 w w' := by
  have hx43 := @ext43
  have H : (if ftruncok a0 = true then (some (ftrunc a0)) else (none)) = some r := h
  clear h
  by_cases c2 : ftruncok a0 = true
  · rw [if_pos c2] at H
    have c2b0 := eq_true c2
    have c2b1 : decide (ftruncok a0 = true) = true := decide_eq_true c2
    clear c2
    obtain rfl := Option.some.inj H
    go_enter Tryd.func29, Tryd.ntmps29
    go_wp2
    go_ret
    exact ⟨by first | rfl | (simp; done) | (simp [*]; done), by repeat (first | exact Drawn0.refl _ | apply Drawn0.step)⟩
  · rw [if_neg c2] at H
    exact absurd H (by simp)

/-! ### phasor_whole: function 17 -/
def phasor_whole.f (a0 : Nat) (a1 : Nat) : Option (Bool) := (math_Abs.f a0).bind fun t103 => (if fle t103 a1 = true then ((math_Trunc.f a0).bind fun t104 => (some (feq t104 a0))) else (some false))
set_option maxHeartbeats 8000000 in
set_option maxRecDepth 100000 in
theorem phasor_whole.calls (a0 : Nat) (a1 : Nat) (r : Bool) (w : World) (h : phasor_whole.f a0 a1 = some r) :
    Calls Tryd.prog 17 #[.float .f64 a0, .float .f64 a1] w fun e w' => e = .returned (.bool r) ∧ Drawn0 w w' := by
  have H : ((math_Abs.f a0).bind fun t103 => (if fle t103 a1 = true then ((math_Trunc.f a0).bind fun t104 => (some (feq t104 a0))) else (some false))) = some r := h
  clear h
  replace H := Option.bind_eq_some_iff.mp H
  obtain ⟨t103, A30, H⟩ := H
  replace H : (if fle t103 a1 = true then ((math_Trunc.f a0).bind fun t104 => (some (feq t104 a0))) else (some false)) = some r := H
  have A3 := Aside0.mk A30
  clear A30
  by_cases c4 : fle t103 a1 = true
  · rw [if_pos c4] at H
    have c4b0 : fle t103 a1 = true := c4
    clear c4
    replace H := Option.bind_eq_some_iff.mp H
    obtain ⟨t104, A50, H⟩ := H
    replace H : (some (feq t104 a0)) = some r := H
    have A5 := Aside0.mk A50
    clear A50
    obtain rfl := Option.some.inj H
    go_enter Tryd.func17, Tryd.ntmps17
    go_wp2_with (first | ((with_reducible refine gate_callee (f := 28) rfl ?_); refine goesL_ (some 6) rfl rfl Tryd.func28 (by kernel_rfl) rfl #[.float .f64 a0] rfl (by (try simp only [List.map_toArray, List.map_cons, List.map_nil]); first | done | rfl | (simp only [List.length_drop, List.length_take]; rfl)) ?_; (with_reducible refine (math_Abs.calls a0 t103 _ A3.out).mono ?_); rintro e w' ⟨rfl, ⟨nd, rfl⟩⟩; refine ⟨_, rfl, ?_⟩) | (go_at_call 29; (with_reducible refine (math_Trunc.calls a0 t104 _ A5.out).mono ?_); rintro e w' ⟨rfl, ⟨nd, rfl⟩⟩))
    go_ret
    exact ⟨by first | rfl | (simp; done) | (simp [*]; done), by repeat (first | exact Drawn0.refl _ | apply Drawn0.step)⟩
  · rw [if_neg c4] at H
    have c4b0 : fle t103 a1 = false := Bool.eq_false_iff.mpr c4
    clear c4
    obtain rfl := Option.some.inj H
    go_enter Tryd.func17, Tryd.ntmps17
    go_wp2_with (first | ((with_reducible refine gate_callee (f := 28) rfl ?_); refine goesL_ (some 6) rfl rfl Tryd.func28 (by kernel_rfl) rfl #[.float .f64 a0] rfl (by (try simp only [List.map_toArray, List.map_cons, List.map_nil]); first | done | rfl | (simp only [List.length_drop, List.length_take]; rfl)) ?_; (with_reducible refine (math_Abs.calls a0 t103 _ A3.out).mono ?_); rintro e w' ⟨rfl, ⟨nd, rfl⟩⟩; refine ⟨_, rfl, ?_⟩))
    go_ret
    exact ⟨by first | rfl | (simp; done) | (simp [*]; done), by repeat (first | exact Drawn0.refl _ | apply Drawn0.step)⟩

/-! ### phasor_Fits: function 10 -/
def phasor_Fits.f (a0 : Cx) : Option (Bool) := (phasor_whole.f a0.re 4719772409484279808).bind fun t105 => (if t105 = true then ((phasor_whole.f a0.im 4719772409484279808).bind fun t106 => (some t106)) else (some false))
set_option maxHeartbeats 8000000 in
set_option maxRecDepth 100000 in
theorem phasor_Fits.calls (a0 : Cx) (r : Bool) (w : World) (h : phasor_Fits.f a0 = some r) :
    Calls Tryd.prog 10 #[.complex .f64 a0.re a0.im] w fun e w' => e = .returned (.bool r) ∧ Below w.heap.size w w' := by
  have HB := Aside0.mk (Below.refl w.heap.size w)
  have H : ((phasor_whole.f a0.re 4719772409484279808).bind fun t105 => (if t105 = true then ((phasor_whole.f a0.im 4719772409484279808).bind fun t106 => (some t106)) else (some false))) = some r := h
  clear h
  replace H := Option.bind_eq_some_iff.mp H
  obtain ⟨t105, A20, H⟩ := H
  replace H : (if t105 = true then ((phasor_whole.f a0.im 4719772409484279808).bind fun t106 => (some t106)) else (some false)) = some r := H
  have A2 := Aside0.mk A20
  clear A20
  by_cases c3 : t105 = true
  · subst c3
    have H1 : ((phasor_whole.f a0.im 4719772409484279808).bind fun t106 => (some t106)) = some r := by rw [if_pos rfl] at H; exact H
    clear H
    have H := H1
    clear H1
    replace H := Option.bind_eq_some_iff.mp H
    obtain ⟨t106, A40, H⟩ := H
    replace H : (some t106) = some r := H
    have A4 := Aside0.mk A40
    clear A40
    obtain rfl := Option.some.inj H
    go_enter Tryd.func10, Tryd.ntmps10
    go_wp2_with (first | ((with_reducible refine gate_callee (f := 17) rfl ?_); refine goesL_ (some 5) rfl rfl Tryd.func17 (by kernel_rfl) rfl #[.float .f64 a0.re, .float .f64 4719772409484279808] rfl (by (try simp only [List.map_toArray, List.map_cons, List.map_nil]); first | done | rfl | (simp only [List.length_drop, List.length_take]; rfl)) ?_; (with_reducible refine (phasor_whole.calls a0.re 4719772409484279808 true _ A2.out).mono ?_); rintro e w' ⟨rfl, ⟨nd, rfl⟩⟩; refine ⟨_, rfl, ?_⟩) | (go_at_call 17; (with_reducible refine (phasor_whole.calls a0.im 4719772409484279808 t106 _ A4.out).mono ?_); rintro e w' ⟨rfl, ⟨nd, rfl⟩⟩))
    go_ret
    exact ⟨by first | rfl | (simp [errW_none, errW_some] <;> rfl) | (simp [*, errW_none, errW_some] <;> rfl), by repeat (first | (with_reducible first | exact HB.out | apply below_alloc | apply pw_below_drewN | apply below_drew1) | exact HB.out)⟩
  · replace c3 := Bool.eq_false_iff.mpr c3
    subst c3
    have H1 : (some false) = some r := by rw [if_neg (show ¬ (false = true) by decide)] at H; exact H
    clear H
    have H := H1
    clear H1
    obtain rfl := Option.some.inj H
    go_enter Tryd.func10, Tryd.ntmps10
    go_wp2_with (first | ((with_reducible refine gate_callee (f := 17) rfl ?_); refine goesL_ (some 5) rfl rfl Tryd.func17 (by kernel_rfl) rfl #[.float .f64 a0.re, .float .f64 4719772409484279808] rfl (by (try simp only [List.map_toArray, List.map_cons, List.map_nil]); first | done | rfl | (simp only [List.length_drop, List.length_take]; rfl)) ?_; (with_reducible refine (phasor_whole.calls a0.re 4719772409484279808 false _ A2.out).mono ?_); rintro e w' ⟨rfl, ⟨nd, rfl⟩⟩; refine ⟨_, rfl, ?_⟩))
    go_ret
    exact ⟨by first | rfl | (simp [errW_none, errW_some] <;> rfl) | (simp [*, errW_none, errW_some] <;> rfl), by repeat (first | (with_reducible first | exact HB.out | apply below_alloc | apply pw_below_drewN | apply below_drew1) | exact HB.out)⟩

/-! ### phasor_conjugate: function 18 -/
def phasor_conjugate.f (a0 : Cx) : Option (Cx) := some (cx a0.re (fneg a0.im))
set_option maxHeartbeats 8000000 in
set_option maxRecDepth 100000 in
theorem phasor_conjugate.calls (a0 : Cx) (r : Cx) (w : World) (h : phasor_conjugate.f a0 = some r) :
    Calls Tryd.prog 18 #[.complex .f64 a0.re a0.im] w fun e w' => e = .returned (.complex .f64 r.re r.im) ∧ Below w.heap.size w w' := by
  have HB := Aside0.mk (Below.refl w.heap.size w)
  have H : (some (cx a0.re (fneg a0.im))) = some r := h
  clear h
  obtain rfl := Option.some.inj H
  go_enter Tryd.func18, Tryd.ntmps18
  go_wp2
  go_ret
  exact ⟨by first | rfl | (simp [errW_none, errW_some] <;> rfl) | (simp [*, errW_none, errW_some] <;> rfl), by repeat (first | (with_reducible first | exact HB.out | apply below_alloc | apply pw_below_drewN | apply below_drew1) | exact HB.out)⟩

/-! ### phasor_Power: function 11 -/
def phasor_Power.f (a0 : Cx) (a1 : Cx) : Option (Cx × Int) := (phasor_Fits.f a0).bind fun t107 => (if t107 = true then ((phasor_Fits.f a1).bind fun t108 => (if t108 = true then ((phasor_conjugate.f a1).bind fun t109 => (if cmulok a0.re a0.im t109.re t109.im = true then (some (cx (cmulre a0.re a0.im t109.re t109.im) (cmulim a0.re a0.im t109.re t109.im), 0)) else (none))) else (some (cx 0 0, 5)))) else (some (cx 0 0, 5)))
set_option maxHeartbeats 8000000 in
set_option maxRecDepth 100000 in
theorem phasor_Power.calls (a0 : Cx) (a1 : Cx) (r1 : Cx) (r2 : Int) (w : World) (h : phasor_Power.f a0 a1 = some (r1, r2)) :
    Calls Tryd.prog 11 #[.complex .f64 a0.re a0.im, .complex .f64 a1.re a1.im] w fun e w' => e = .returned (.tuple #[.complex .f64 r1.re r1.im, .int .i64 r2]) ∧ Below w.heap.size w w' := by
  have HB := Aside0.mk (Below.refl w.heap.size w)
  have H : ((phasor_Fits.f a0).bind fun t107 => (if t107 = true then ((phasor_Fits.f a1).bind fun t108 => (if t108 = true then ((phasor_conjugate.f a1).bind fun t109 => (if cmulok a0.re a0.im t109.re t109.im = true then (some (cx (cmulre a0.re a0.im t109.re t109.im) (cmulim a0.re a0.im t109.re t109.im), 0)) else (none))) else (some (cx 0 0, 5)))) else (some (cx 0 0, 5)))) = some (r1, r2) := h
  clear h
  replace H := Option.bind_eq_some_iff.mp H
  obtain ⟨t107, A30, H⟩ := H
  replace H : (if t107 = true then ((phasor_Fits.f a1).bind fun t108 => (if t108 = true then ((phasor_conjugate.f a1).bind fun t109 => (if cmulok a0.re a0.im t109.re t109.im = true then (some (cx (cmulre a0.re a0.im t109.re t109.im) (cmulim a0.re a0.im t109.re t109.im), 0)) else (none))) else (some (cx 0 0, 5)))) else (some (cx 0 0, 5))) = some (r1, r2) := H
  have A3 := Aside0.mk A30
  clear A30
  by_cases c4 : t107 = true
  · subst c4
    have H1 : ((phasor_Fits.f a1).bind fun t108 => (if t108 = true then ((phasor_conjugate.f a1).bind fun t109 => (if cmulok a0.re a0.im t109.re t109.im = true then (some (cx (cmulre a0.re a0.im t109.re t109.im) (cmulim a0.re a0.im t109.re t109.im), 0)) else (none))) else (some (cx 0 0, 5)))) = some (r1, r2) := by rw [if_pos rfl] at H; exact H
    clear H
    have H := H1
    clear H1
    replace H := Option.bind_eq_some_iff.mp H
    obtain ⟨t108, A50, H⟩ := H
    replace H : (if t108 = true then ((phasor_conjugate.f a1).bind fun t109 => (if cmulok a0.re a0.im t109.re t109.im = true then (some (cx (cmulre a0.re a0.im t109.re t109.im) (cmulim a0.re a0.im t109.re t109.im), 0)) else (none))) else (some (cx 0 0, 5))) = some (r1, r2) := H
    have A5 := Aside0.mk A50
    clear A50
    by_cases c6 : t108 = true
    · subst c6
      have H1 : ((phasor_conjugate.f a1).bind fun t109 => (if cmulok a0.re a0.im t109.re t109.im = true then (some (cx (cmulre a0.re a0.im t109.re t109.im) (cmulim a0.re a0.im t109.re t109.im), 0)) else (none))) = some (r1, r2) := by rw [if_pos rfl] at H; exact H
      clear H
      have H := H1
      clear H1
      replace H := Option.bind_eq_some_iff.mp H
      obtain ⟨t109, A70, H⟩ := H
      replace H : (if cmulok a0.re a0.im t109.re t109.im = true then (some (cx (cmulre a0.re a0.im t109.re t109.im) (cmulim a0.re a0.im t109.re t109.im), 0)) else (none)) = some (r1, r2) := H
      have A7 := Aside0.mk A70
      clear A70
      by_cases c8 : cmulok a0.re a0.im t109.re t109.im = true
      · rw [if_pos c8] at H
        have c8b0 := eq_true c8
        have c8b1 : decide (cmulok a0.re a0.im t109.re t109.im = true) = true := decide_eq_true c8
        clear c8
        simp only [Option.some.injEq, Prod.mk.injEq] at H
        obtain ⟨rfl, rfl⟩ := H
        go_enter Tryd.func11, Tryd.ntmps11
        go_wp2_with (first | ((with_reducible refine gate_callee (f := 10) rfl ?_); refine goesL_ (some 7) rfl rfl Tryd.func10 (by kernel_rfl) rfl #[.complex .f64 a0.re a0.im] rfl (by (try simp only [List.map_toArray, List.map_cons, List.map_nil]); first | done | rfl | (simp only [List.length_drop, List.length_take]; rfl)) ?_; (with_reducible refine (phasor_Fits.calls a0 true _ A3.out).mono ?_); rintro e w9 ⟨rfl, hb⟩; refine ⟨_, rfl, ?_⟩; have n0_ := Aside0.mk (below_step (by repeat (first | (with_reducible first | exact HB.out | apply below_alloc | apply pw_below_drewN | apply below_drew1) | exact HB.out)) hb); clear HB; have HB := n0_; clear n0_; (try clear hb); (try clear hb2); (try clear hk); (try clear hi)) | (go_at_call 10; (with_reducible refine (phasor_Fits.calls a1 true _ A5.out).mono ?_); rintro e w10 ⟨rfl, hb⟩; have n0_ := Aside0.mk (below_step (by repeat (first | (with_reducible first | exact HB.out | apply below_alloc | apply pw_below_drewN | apply below_drew1) | exact HB.out)) hb); clear HB; have HB := n0_; clear n0_; (try clear hb); (try clear hb2); (try clear hk); (try clear hi)) | ((with_reducible refine gate_callee (f := 18) rfl ?_); refine goesL_ (some 16) rfl rfl Tryd.func18 (by kernel_rfl) rfl #[.complex .f64 a1.re a1.im] rfl (by (try simp only [List.map_toArray, List.map_cons, List.map_nil]); first | done | rfl | (simp only [List.length_drop, List.length_take]; rfl)) ?_; (with_reducible refine (phasor_conjugate.calls a1 t109 _ A7.out).mono ?_); rintro e w11 ⟨rfl, hb⟩; refine ⟨_, rfl, ?_⟩; have n0_ := Aside0.mk (below_step (by repeat (first | (with_reducible first | exact HB.out | apply below_alloc | apply pw_below_drewN | apply below_drew1) | exact HB.out)) hb); clear HB; have HB := n0_; clear n0_; (try clear hb); (try clear hb2); (try clear hk); (try clear hi)))
        go_ret2
        exact ⟨by first | rfl | (simp [errW_none, errW_some] <;> rfl) | (simp [*, errW_none, errW_some] <;> rfl), by repeat (first | (with_reducible first | exact HB.out | apply below_alloc | apply pw_below_drewN | apply below_drew1) | exact HB.out)⟩
      · rw [if_neg c8] at H
        exact absurd H (by simp)
    · replace c6 := Bool.eq_false_iff.mpr c6
      subst c6
      have H1 : (some (cx 0 0, 5)) = some (r1, r2) := by rw [if_neg (show ¬ (false = true) by decide)] at H; exact H
      clear H
      have H := H1
      clear H1
      simp only [Option.some.injEq, Prod.mk.injEq] at H
      obtain ⟨rfl, rfl⟩ := H
      go_enter Tryd.func11, Tryd.ntmps11
      go_wp2_with (first | ((with_reducible refine gate_callee (f := 10) rfl ?_); refine goesL_ (some 7) rfl rfl Tryd.func10 (by kernel_rfl) rfl #[.complex .f64 a0.re a0.im] rfl (by (try simp only [List.map_toArray, List.map_cons, List.map_nil]); first | done | rfl | (simp only [List.length_drop, List.length_take]; rfl)) ?_; (with_reducible refine (phasor_Fits.calls a0 true _ A3.out).mono ?_); rintro e w12 ⟨rfl, hb⟩; refine ⟨_, rfl, ?_⟩; have n0_ := Aside0.mk (below_step (by repeat (first | (with_reducible first | exact HB.out | apply below_alloc | apply pw_below_drewN | apply below_drew1) | exact HB.out)) hb); clear HB; have HB := n0_; clear n0_; (try clear hb); (try clear hb2); (try clear hk); (try clear hi)) | (go_at_call 10; (with_reducible refine (phasor_Fits.calls a1 false _ A5.out).mono ?_); rintro e w13 ⟨rfl, hb⟩; have n0_ := Aside0.mk (below_step (by repeat (first | (with_reducible first | exact HB.out | apply below_alloc | apply pw_below_drewN | apply below_drew1) | exact HB.out)) hb); clear HB; have HB := n0_; clear n0_; (try clear hb); (try clear hb2); (try clear hk); (try clear hi)))
      go_ret2
      exact ⟨by first | rfl | (simp [errW_none, errW_some] <;> rfl) | (simp [*, errW_none, errW_some] <;> rfl), by repeat (first | (with_reducible first | exact HB.out | apply below_alloc | apply pw_below_drewN | apply below_drew1) | exact HB.out)⟩
  · replace c4 := Bool.eq_false_iff.mpr c4
    subst c4
    have H1 : (some (cx 0 0, 5)) = some (r1, r2) := by rw [if_neg (show ¬ (false = true) by decide)] at H; exact H
    clear H
    have H := H1
    clear H1
    simp only [Option.some.injEq, Prod.mk.injEq] at H
    obtain ⟨rfl, rfl⟩ := H
    go_enter Tryd.func11, Tryd.ntmps11
    go_wp2_with (first | ((with_reducible refine gate_callee (f := 10) rfl ?_); refine goesL_ (some 7) rfl rfl Tryd.func10 (by kernel_rfl) rfl #[.complex .f64 a0.re a0.im] rfl (by (try simp only [List.map_toArray, List.map_cons, List.map_nil]); first | done | rfl | (simp only [List.length_drop, List.length_take]; rfl)) ?_; (with_reducible refine (phasor_Fits.calls a0 false _ A3.out).mono ?_); rintro e w14 ⟨rfl, hb⟩; refine ⟨_, rfl, ?_⟩; have n0_ := Aside0.mk (below_step (by repeat (first | (with_reducible first | exact HB.out | apply below_alloc | apply pw_below_drewN | apply below_drew1) | exact HB.out)) hb); clear HB; have HB := n0_; clear n0_; (try clear hb); (try clear hb2); (try clear hk); (try clear hi)))
    go_ret2
    exact ⟨by first | rfl | (simp [errW_none, errW_some] <;> rfl) | (simp [*, errW_none, errW_some] <;> rfl), by repeat (first | (with_reducible first | exact HB.out | apply below_alloc | apply pw_below_drewN | apply below_drew1) | exact HB.out)⟩

/-! ### pylonlaw02_awake: function 5 -/
def pylonlaw02_awake.f  : Option (Bool) := (phasor_Power.f (cx 4607182418800017408 4611686018427387904) (cx 4613937818241073152 4616189618054758400)).bind fun bt110 => (if bt110.2 = 0 then (some (ceq bt110.1.re bt110.1.im 4622382067542392832 4611686018427387904)) else (some false))
set_option maxHeartbeats 8000000 in
set_option maxRecDepth 100000 in
theorem pylonlaw02_awake.calls  (r : Bool) (w : World) (h : pylonlaw02_awake.f  = some r) :
    Calls Tryd.prog 5 #[] w fun e w' => e = .returned (.bool r) ∧ Below w.heap.size w w' := by
  have HB := Aside0.mk (Below.refl w.heap.size w)
  have H : ((phasor_Power.f (cx 4607182418800017408 4611686018427387904) (cx 4613937818241073152 4616189618054758400)).bind fun bt110 => (if bt110.2 = 0 then (some (ceq bt110.1.re bt110.1.im 4622382067542392832 4611686018427387904)) else (some false))) = some r := h
  clear h
  replace H := Option.bind_eq_some_iff.mp H
  obtain ⟨⟨t110, t111⟩, A10, H⟩ := H
  replace H : (if t111 = 0 then (some (ceq t110.re t110.im 4622382067542392832 4611686018427387904)) else (some false)) = some r := H
  have A1 := Aside0.mk A10
  clear A10
  by_cases c2 : t111 = 0
  · rw [if_pos c2] at H
    have c2b0 : (t111 == 0) = true := beq_iff_eq.mpr c2
    have c2b1 : (t111 != 0) = false := bne_eq_false_iff_eq.mpr c2
    clear c2
    obtain rfl := Option.some.inj H
    go_enter Tryd.func5, Tryd.ntmps5
    go_wp2_with (first | ((with_reducible refine gate_callee (f := 11) rfl ?_); refine goesL_ (some 4) rfl rfl Tryd.func11 (by kernel_rfl) rfl #[.complex .f64 4607182418800017408 4611686018427387904, .complex .f64 4613937818241073152 4616189618054758400] rfl (by (try simp only [List.map_toArray, List.map_cons, List.map_nil]); first | done | rfl | (simp only [List.length_drop, List.length_take]; rfl)) ?_; (with_reducible refine (phasor_Power.calls (cx 4607182418800017408 4611686018427387904) (cx 4613937818241073152 4616189618054758400) t110 t111 _ A1.out).mono ?_); rintro e w3 ⟨rfl, hb⟩; refine ⟨_, rfl, ?_⟩; have n0_ := Aside0.mk (below_step (by repeat (first | (with_reducible first | exact HB.out | apply below_alloc | apply pw_below_drewN | apply below_drew1) | exact HB.out)) hb); clear HB; have HB := n0_; clear n0_; (try clear hb); (try clear hb2); (try clear hk); (try clear hi)))
    go_ret
    exact ⟨by first | rfl | (simp [errW_none, errW_some] <;> rfl) | (simp [*, errW_none, errW_some] <;> rfl), by repeat (first | (with_reducible first | exact HB.out | apply below_alloc | apply pw_below_drewN | apply below_drew1) | exact HB.out)⟩
  · rw [if_neg c2] at H
    have c2b0 : (t111 == 0) = false := beq_eq_false_iff_ne.mpr c2
    have c2b1 : (t111 != 0) = true := bne_iff_ne.mpr c2
    obtain rfl := Option.some.inj H
    go_enter Tryd.func5, Tryd.ntmps5
    go_wp2_with (first | ((with_reducible refine gate_callee (f := 11) rfl ?_); refine goesL_ (some 4) rfl rfl Tryd.func11 (by kernel_rfl) rfl #[.complex .f64 4607182418800017408 4611686018427387904, .complex .f64 4613937818241073152 4616189618054758400] rfl (by (try simp only [List.map_toArray, List.map_cons, List.map_nil]); first | done | rfl | (simp only [List.length_drop, List.length_take]; rfl)) ?_; (with_reducible refine (phasor_Power.calls (cx 4607182418800017408 4611686018427387904) (cx 4613937818241073152 4616189618054758400) t110 t111 _ A1.out).mono ?_); rintro e w4 ⟨rfl, hb⟩; refine ⟨_, rfl, ?_⟩; have n0_ := Aside0.mk (below_step (by repeat (first | (with_reducible first | exact HB.out | apply below_alloc | apply pw_below_drewN | apply below_drew1) | exact HB.out)) hb); clear HB; have HB := n0_; clear n0_; (try clear hb); (try clear hb2); (try clear hk); (try clear hi)))
    go_ret
    exact ⟨by first | rfl | (simp [errW_none, errW_some] <;> rfl) | (simp [*, errW_none, errW_some] <;> rfl), by repeat (first | (with_reducible first | exact HB.out | apply below_alloc | apply pw_below_drewN | apply below_drew1) | exact HB.out)⟩

/-! ### phasor_Of: function 6 -/
def phasor_Of.f (a0 : Int) (a1 : Int) : Option (Cx × Int) := if a0 < (-33554432) then (some (cx 0 0, 5)) else (if a0 > 33554432 then (some (cx 0 0, 5)) else (if a1 < (-33554432) then (some (cx 0 0, 5)) else (if a1 > 33554432 then (some (cx 0 0, 5)) else (some (cx (floatOfInt .f64 a0) (floatOfInt .f64 a1), 0)))))
set_option maxHeartbeats 8000000 in
set_option maxRecDepth 100000 in
theorem phasor_Of.calls (a0 : Int) (a1 : Int) (r1 : Cx) (r2 : Int) (w : World) (h : phasor_Of.f a0 a1 = some (r1, r2)) :
    Calls Tryd.prog 6 #[.int .i64 a0, .int .i64 a1] w fun e w' => e = .returned (.tuple #[.complex .f64 r1.re r1.im, .int .i64 r2]) ∧ Below w.heap.size w w' := by
  have HB := Aside0.mk (Below.refl w.heap.size w)
  have H : (if a0 < (-33554432) then (some (cx 0 0, 5)) else (if a0 > 33554432 then (some (cx 0 0, 5)) else (if a1 < (-33554432) then (some (cx 0 0, 5)) else (if a1 > 33554432 then (some (cx 0 0, 5)) else (some (cx (floatOfInt .f64 a0) (floatOfInt .f64 a1), 0)))))) = some (r1, r2) := h
  clear h
  by_cases c3 : a0 < (-33554432)
  · rw [if_pos c3] at H
    have c3b0 : decide (a0 < (-33554432)) = true := decide_eq_true c3
    clear c3
    simp only [Option.some.injEq, Prod.mk.injEq] at H
    obtain ⟨rfl, rfl⟩ := H
    go_enter Tryd.func6, Tryd.ntmps6
    go_wp2
    go_ret2
    exact ⟨by first | rfl | (simp [errW_none, errW_some] <;> rfl) | (simp [*, errW_none, errW_some] <;> rfl), by repeat (first | (with_reducible first | exact HB.out | apply below_alloc | apply pw_below_drewN | apply below_drew1) | exact HB.out)⟩
  · rw [if_neg c3] at H
    have c3b0 : decide (a0 < (-33554432)) = false := decide_eq_false c3
    clear c3
    by_cases c4 : a0 > 33554432
    · rw [if_pos c4] at H
      have c4b0 : decide (33554432 < a0) = true := decide_eq_true c4
      clear c4
      simp only [Option.some.injEq, Prod.mk.injEq] at H
      obtain ⟨rfl, rfl⟩ := H
      go_enter Tryd.func6, Tryd.ntmps6
      go_wp2
      go_ret2
      exact ⟨by first | rfl | (simp [errW_none, errW_some] <;> rfl) | (simp [*, errW_none, errW_some] <;> rfl), by repeat (first | (with_reducible first | exact HB.out | apply below_alloc | apply pw_below_drewN | apply below_drew1) | exact HB.out)⟩
    · rw [if_neg c4] at H
      have c4b0 : decide (33554432 < a0) = false := decide_eq_false c4
      clear c4
      by_cases c5 : a1 < (-33554432)
      · rw [if_pos c5] at H
        have c5b0 : decide (a1 < (-33554432)) = true := decide_eq_true c5
        clear c5
        simp only [Option.some.injEq, Prod.mk.injEq] at H
        obtain ⟨rfl, rfl⟩ := H
        go_enter Tryd.func6, Tryd.ntmps6
        go_wp2
        go_ret2
        exact ⟨by first | rfl | (simp [errW_none, errW_some] <;> rfl) | (simp [*, errW_none, errW_some] <;> rfl), by repeat (first | (with_reducible first | exact HB.out | apply below_alloc | apply pw_below_drewN | apply below_drew1) | exact HB.out)⟩
      · rw [if_neg c5] at H
        have c5b0 : decide (a1 < (-33554432)) = false := decide_eq_false c5
        clear c5
        by_cases c6 : a1 > 33554432
        · rw [if_pos c6] at H
          have c6b0 : decide (33554432 < a1) = true := decide_eq_true c6
          clear c6
          simp only [Option.some.injEq, Prod.mk.injEq] at H
          obtain ⟨rfl, rfl⟩ := H
          go_enter Tryd.func6, Tryd.ntmps6
          go_wp2
          go_ret2
          exact ⟨by first | rfl | (simp [errW_none, errW_some] <;> rfl) | (simp [*, errW_none, errW_some] <;> rfl), by repeat (first | (with_reducible first | exact HB.out | apply below_alloc | apply pw_below_drewN | apply below_drew1) | exact HB.out)⟩
        · rw [if_neg c6] at H
          have c6b0 : decide (33554432 < a1) = false := decide_eq_false c6
          clear c6
          simp only [Option.some.injEq, Prod.mk.injEq] at H
          obtain ⟨rfl, rfl⟩ := H
          go_enter Tryd.func6, Tryd.ntmps6
          go_wp2
          go_ret2
          exact ⟨by first | rfl | (simp [errW_none, errW_some] <;> rfl) | (simp [*, errW_none, errW_some] <;> rfl), by repeat (first | (with_reducible first | exact HB.out | apply below_alloc | apply pw_below_drewN | apply below_drew1) | exact HB.out)⟩

/-! ### phasor_Parts: function 9 -/
def phasor_Parts.f (a0 : Cx) : Option (Int × Int × Int) := (phasor_Fits.f a0).bind fun t112 => (if t112 = true then (if f2iok a0.re = true then (if f2iok a0.im = true then (some (f2i a0.re, f2i a0.im, 0)) else (none)) else (none)) else (some (0, 0, 5)))
set_option maxHeartbeats 8000000 in
set_option maxRecDepth 100000 in
theorem phasor_Parts.calls (a0 : Cx) (r1 : Int) (r2 : Int) (r3 : Int) (w : World) (h : phasor_Parts.f a0 = some (r1, r2, r3)) :
    Calls Tryd.prog 9 #[.complex .f64 a0.re a0.im] w fun e w' => e = .returned (.tuple #[.int .i64 r1, .int .i64 r2, .int .i64 r3]) ∧ Below w.heap.size w w' := by
  have HB := Aside0.mk (Below.refl w.heap.size w)
  have H : ((phasor_Fits.f a0).bind fun t112 => (if t112 = true then (if f2iok a0.re = true then (if f2iok a0.im = true then (some (f2i a0.re, f2i a0.im, 0)) else (none)) else (none)) else (some (0, 0, 5)))) = some (r1, r2, r3) := h
  clear h
  replace H := Option.bind_eq_some_iff.mp H
  obtain ⟨t112, A20, H⟩ := H
  replace H : (if t112 = true then (if f2iok a0.re = true then (if f2iok a0.im = true then (some (f2i a0.re, f2i a0.im, 0)) else (none)) else (none)) else (some (0, 0, 5))) = some (r1, r2, r3) := H
  have A2 := Aside0.mk A20
  clear A20
  by_cases c3 : t112 = true
  · subst c3
    have H1 : (if f2iok a0.re = true then (if f2iok a0.im = true then (some (f2i a0.re, f2i a0.im, 0)) else (none)) else (none)) = some (r1, r2, r3) := by rw [if_pos rfl] at H; exact H
    clear H
    have H := H1
    clear H1
    by_cases c4 : f2iok a0.re = true
    · rw [if_pos c4] at H
      have c4b0 := eq_true c4
      have c4b1 : decide (f2iok a0.re = true) = true := decide_eq_true c4
      clear c4
      by_cases c5 : f2iok a0.im = true
      · rw [if_pos c5] at H
        have c5b0 := eq_true c5
        have c5b1 : decide (f2iok a0.im = true) = true := decide_eq_true c5
        clear c5
        simp only [Option.some.injEq, Prod.mk.injEq] at H
        obtain ⟨rfl, rfl, rfl⟩ := H
        go_enter Tryd.func9, Tryd.ntmps9
        go_wp2_with (first | ((with_reducible refine gate_callee (f := 10) rfl ?_); refine goesL_ (some 6) rfl rfl Tryd.func10 (by kernel_rfl) rfl #[.complex .f64 a0.re a0.im] rfl (by (try simp only [List.map_toArray, List.map_cons, List.map_nil]); first | done | rfl | (simp only [List.length_drop, List.length_take]; rfl)) ?_; (with_reducible refine (phasor_Fits.calls a0 true _ A2.out).mono ?_); rintro e w6 ⟨rfl, hb⟩; refine ⟨_, rfl, ?_⟩; have n0_ := Aside0.mk (below_step (by repeat (first | (with_reducible first | exact HB.out | apply below_alloc | apply pw_below_drewN | apply below_drew1) | exact HB.out)) hb); clear HB; have HB := n0_; clear n0_; (try clear hb); (try clear hb2); (try clear hk); (try clear hi)))
        go_ret3
        exact ⟨by first | rfl | (simp [errW_none, errW_some] <;> rfl) | (simp [*, errW_none, errW_some] <;> rfl), by repeat (first | (with_reducible first | exact HB.out | apply below_alloc | apply pw_below_drewN | apply below_drew1) | exact HB.out)⟩
      · rw [if_neg c5] at H
        exact absurd H (by simp)
    · rw [if_neg c4] at H
      exact absurd H (by simp)
  · replace c3 := Bool.eq_false_iff.mpr c3
    subst c3
    have H1 : (some (0, 0, 5)) = some (r1, r2, r3) := by rw [if_neg (show ¬ (false = true) by decide)] at H; exact H
    clear H
    have H := H1
    clear H1
    simp only [Option.some.injEq, Prod.mk.injEq] at H
    obtain ⟨rfl, rfl, rfl⟩ := H
    go_enter Tryd.func9, Tryd.ntmps9
    go_wp2_with (first | ((with_reducible refine gate_callee (f := 10) rfl ?_); refine goesL_ (some 6) rfl rfl Tryd.func10 (by kernel_rfl) rfl #[.complex .f64 a0.re a0.im] rfl (by (try simp only [List.map_toArray, List.map_cons, List.map_nil]); first | done | rfl | (simp only [List.length_drop, List.length_take]; rfl)) ?_; (with_reducible refine (phasor_Fits.calls a0 false _ A2.out).mono ?_); rintro e w7 ⟨rfl, hb⟩; refine ⟨_, rfl, ?_⟩; have n0_ := Aside0.mk (below_step (by repeat (first | (with_reducible first | exact HB.out | apply below_alloc | apply pw_below_drewN | apply below_drew1) | exact HB.out)) hb); clear HB; have HB := n0_; clear n0_; (try clear hb); (try clear hb2); (try clear hk); (try clear hi)))
    go_ret3
    exact ⟨by first | rfl | (simp [errW_none, errW_some] <;> rfl) | (simp [*, errW_none, errW_some] <;> rfl), by repeat (first | (with_reducible first | exact HB.out | apply below_alloc | apply pw_below_drewN | apply below_drew1) | exact HB.out)⟩

/-! ### fix_Text: function 12 -/
def fix_Text.f (a0 : Int) : Option (ByteArray) := Go.Proofs.YtofedlghaopciaaDoor.Hand.textA a0
theorem fix_Text.calls (a0 : Int) (r : ByteArray) (w : World) (hT_ : Go.Proofs.YtofedlghaopciaaDoor.Hand.T3 w) (h : fix_Text.f a0 = some r) :
    Calls Tryd.prog 12 #[.int .i64 a0] w fun e w' => e = .returned (.string r) ∧ Below w.heap.size w w' :=
  Go.Proofs.YtofedlghaopciaaDoor.Hand.text_calls3 a0 r w hT_ h
end Go.Proofs.YtofedlghaopciaaDoor.PP
