-- Written by a program of this session for this claim (wip/print2.sh). Lean checks it.
import Derived.Test.YtapimggcnneabaaPHx0
namespace Go.Proofs.Ytapimggcnneabaa.PH
open Go.Proofs.YtapimggcnneabaaW.PrintWords
attribute [local go_sem high] fx_eql fx_neq fx_lss fx_leq fx_gtr fx_geq fx_add fx_sub fx_mul fx_neg fx_toint cxx_add cxx_sub cxx_mul cxx_eql cxx_neq cxx_pick st_float st_complex
open Go.RowKit Go.Proofs.YtapimggcnneabaaW.PrintWords Go.Proofs.YtapimggcnneabaaW.PrintLast Go.Proofs.YtapimggcnneabaaW.PrintMore
attribute [local go_sem] max2_int min2_int max_two min_two max_three min_three max_four min_four   -- for this text's walks alone
set_option linter.unusedVariables false
set_option linter.unusedSimpArgs false

-- NOT PRINTED: function 83 (math_archTrunc)

-- NOT PRINTED: function 96 (math_Float64frombits)

-- NOT PRINTED: function 97 (math_Float64bits)

/-! ### math_Abs: function 82 -/
def math_Abs.f (a0 : Nat) : Option (Nat) := some (u2f (Go.bits .andNot .u64 (f2u a0) 9223372036854775808))
set_option maxHeartbeats 8000000 in
set_option maxRecDepth 100000 in
theorem math_Abs.calls (a0 : Nat) (r : Nat) (w : World) (h : math_Abs.f a0 = some r) :
    Calls Try.prog 82 #[.float .f64 a0] w fun e w' => e = .returned (.float .f64 r) ∧ Drawn0 w w' := by
  have hx96 := @ext96
  have hx97 := @ext97
  have H : (some (u2f (Go.bits .andNot .u64 (f2u a0) 9223372036854775808))) = some r := h
  clear h
  obtain rfl := Option.some.inj H
  go_enter Try.func82, Try.ntmps82
  go_wp2
  go_ret
  exact ⟨by first | rfl | (simp; done) | (simp [*]; done), by repeat (first | exact Drawn0.refl _ | apply Drawn0.step)⟩

/-! ### math_Copysign: function 98 -/
def math_Copysign.f (a0 : Nat) (a1 : Nat) : Option (Nat) := some (u2f (Go.bits .or .u64 (Go.bits .andNot .u64 (f2u a0) 9223372036854775808) (Go.bits .and .u64 (f2u a1) 9223372036854775808)))
set_option maxHeartbeats 8000000 in
set_option maxRecDepth 100000 in
theorem math_Copysign.calls (a0 : Nat) (a1 : Nat) (r : Nat) (w : World) (h : math_Copysign.f a0 a1 = some r) :
    Calls Try.prog 98 #[.float .f64 a0, .float .f64 a1] w fun e w' => e = .returned (.float .f64 r) ∧ Drawn0 w w' := by
  have hx96 := @ext96
  have hx97 := @ext97
  have H : (some (u2f (Go.bits .or .u64 (Go.bits .andNot .u64 (f2u a0) 9223372036854775808) (Go.bits .and .u64 (f2u a1) 9223372036854775808)))) = some r := h
  clear h
  obtain rfl := Option.some.inj H
  go_enter Try.func98, Try.ntmps98
  go_wp2
  go_ret
  exact ⟨by first | rfl | (simp; done) | (simp [*]; done), by repeat (first | exact Drawn0.refl _ | apply Drawn0.step)⟩

/-! ### math_trunc: function 84 -/
def math_trunc.f (a0 : Nat) : Option (Nat) := (math_Abs.f a0).bind fun t101 => (if flt t101 4607182418800017408 = true then ((math_Copysign.f 0 a0).bind fun t102 => (some t102)) else (if (IntKind.u64.wrap ((Go.bits .and .u64 ((f2u a0) / 4503599627370496) 2047) - 1023)) < 52 then (if 0 ≤ (IntKind.u64.wrap (52 - (IntKind.u64.wrap ((Go.bits .and .u64 ((f2u a0) / 4503599627370496) 2047) - 1023)))) then (some (u2f (Go.bits .andNot .u64 (f2u a0) (IntKind.u64.wrap ((shl .u64 1 (IntKind.u64.wrap (52 - (IntKind.u64.wrap ((Go.bits .and .u64 ((f2u a0) / 4503599627370496) 2047) - 1023))))) - 1))))) else (none)) else (some (u2f (f2u a0)))))
set_option maxHeartbeats 8000000 in
set_option maxRecDepth 100000 in
theorem math_trunc.calls (a0 : Nat) (r : Nat) (w : World) (h : math_trunc.f a0 = some r) :
    Calls Try.prog 84 #[.float .f64 a0] w fun e w' => e = .returned (.float .f64 r) ∧ Drawn0 w w' := by
  have hx96 := @ext96
  have hx97 := @ext97
  have H : ((math_Abs.f a0).bind fun t101 => (if flt t101 4607182418800017408 = true then ((math_Copysign.f 0 a0).bind fun t102 => (some t102)) else (if (IntKind.u64.wrap ((Go.bits .and .u64 ((f2u a0) / 4503599627370496) 2047) - 1023)) < 52 then (if 0 ≤ (IntKind.u64.wrap (52 - (IntKind.u64.wrap ((Go.bits .and .u64 ((f2u a0) / 4503599627370496) 2047) - 1023)))) then (some (u2f (Go.bits .andNot .u64 (f2u a0) (IntKind.u64.wrap ((shl .u64 1 (IntKind.u64.wrap (52 - (IntKind.u64.wrap ((Go.bits .and .u64 ((f2u a0) / 4503599627370496) 2047) - 1023))))) - 1))))) else (none)) else (some (u2f (f2u a0)))))) = some r := h
  clear h
  replace H := Option.bind_eq_some_iff.mp H
  obtain ⟨t101, A20, H⟩ := H
  replace H : (if flt t101 4607182418800017408 = true then ((math_Copysign.f 0 a0).bind fun t102 => (some t102)) else (if (IntKind.u64.wrap ((Go.bits .and .u64 ((f2u a0) / 4503599627370496) 2047) - 1023)) < 52 then (if 0 ≤ (IntKind.u64.wrap (52 - (IntKind.u64.wrap ((Go.bits .and .u64 ((f2u a0) / 4503599627370496) 2047) - 1023)))) then (some (u2f (Go.bits .andNot .u64 (f2u a0) (IntKind.u64.wrap ((shl .u64 1 (IntKind.u64.wrap (52 - (IntKind.u64.wrap ((Go.bits .and .u64 ((f2u a0) / 4503599627370496) 2047) - 1023))))) - 1))))) else (none)) else (some (u2f (f2u a0))))) = some r := H
  have A2 := Aside0.mk A20
  clear A20
  by_cases c3 : flt t101 4607182418800017408 = true
  · rw [if_pos c3] at H
    have c3b0 : flt t101 4607182418800017408 = true := c3
    clear c3
    replace H := Option.bind_eq_some_iff.mp H
    obtain ⟨t102, A40, H⟩ := H
    replace H : (some t102) = some r := H
    have A4 := Aside0.mk A40
    clear A40
    obtain rfl := Option.some.inj H
    go_enter Try.func84, Try.ntmps84
    go_wp2_with (first | ((with_reducible refine gate_callee (f := 82) rfl ?_); refine goesL_ (some 6) rfl rfl Try.func82 (by kernel_rfl) rfl #[.float .f64 a0] rfl (by (try simp only [List.map_toArray, List.map_cons, List.map_nil]); first | done | rfl | (simp only [List.length_drop, List.length_take]; rfl)) ?_; (with_reducible refine (math_Abs.calls a0 t101 _ A2.out).mono ?_); rintro e w' ⟨rfl, ⟨nd, rfl⟩⟩; refine ⟨_, rfl, ?_⟩) | ((with_reducible refine gate_callee (f := 98) rfl ?_); refine goesL_ (some 9) rfl rfl Try.func98 (by kernel_rfl) rfl #[.float .f64 0, .float .f64 a0] rfl (by (try simp only [List.map_toArray, List.map_cons, List.map_nil]); first | done | rfl | (simp only [List.length_drop, List.length_take]; rfl)) ?_; (with_reducible refine (math_Copysign.calls 0 a0 t102 _ A4.out).mono ?_); rintro e w' ⟨rfl, ⟨nd, rfl⟩⟩; refine ⟨_, rfl, ?_⟩))
    go_ret
    exact ⟨by first | rfl | (simp; done) | (simp [*]; done), by repeat (first | exact Drawn0.refl _ | apply Drawn0.step)⟩
  · rw [if_neg c3] at H
    have c3b0 : flt t101 4607182418800017408 = false := Bool.eq_false_iff.mpr c3
    clear c3
    by_cases c5 : (IntKind.u64.wrap ((Go.bits .and .u64 ((f2u a0) / 4503599627370496) 2047) - 1023)) < 52
    · rw [if_pos c5] at H
      have c5b0 : decide ((IntKind.u64.wrap ((Go.bits .and .u64 ((f2u a0) / 4503599627370496) 2047) - 1023)) < 52) = true := decide_eq_true c5
      clear c5
      obtain ⟨ji6, hji6⟩ : ∃ j_ : Int, (IntKind.u64.wrap (52 - (IntKind.u64.wrap ((Go.bits .and .u64 ((f2u a0) / 4503599627370496) 2047) - 1023)))) = j_ := ⟨_, rfl⟩
      replace H : (if 0 ≤ (ji6) then (some (u2f (Go.bits .andNot .u64 (f2u a0) (IntKind.u64.wrap ((shl .u64 1 (ji6)) - 1))))) else (none)) = some r := by first | (rw [hji6] at H; exact H) | (simp only [hji6] at H ⊢; exact H)
      (try rw [hji6] at A2)
      by_cases c7 : 0 ≤ (ji6)
      · rw [if_pos c7] at H
        have c7b0 := eq_true c7
        have c7b1 : decide (0 ≤ (ji6)) = true := decide_eq_true c7
        clear c7
        obtain ⟨ji8, hji8⟩ : ∃ j_ : Int, (shl .u64 1 (ji6)) = j_ := ⟨_, rfl⟩
        replace H : (some (u2f (Go.bits .andNot .u64 (f2u a0) (IntKind.u64.wrap ((ji8) - 1))))) = some r := by first | (rw [hji8] at H; exact H) | (simp only [hji8] at H ⊢; exact H)
        (try rw [hji8] at A2)
        have hji8_ : (IntKind.u64.wrap (1 * 2 ^ min (ji6).toNat 64)) = ji8 := hji8
        have hji8z : (ji6) ≤ 64 → (IntKind.u64.wrap (1 * 2 ^ (ji6).toNat)) = ji8 := shl_small hji8
        have hji8u : (IntKind.u64.wrap (2 ^ min (ji6).toNat 64)) = ji8 := by have h_ := hji8_; rw [Int.one_mul] at h_; exact h_
        have hji8v : (ji6) ≤ 64 → (IntKind.u64.wrap (2 ^ (ji6).toNat)) = ji8 := fun hle_ => by have h_ := hji8z hle_; rw [Int.one_mul] at h_; exact h_
        obtain rfl := Option.some.inj H
        go_enter Try.func84, Try.ntmps84
        go_wp2_with (first | ((with_reducible refine gate_callee (f := 82) rfl ?_); refine goesL_ (some 6) rfl rfl Try.func82 (by kernel_rfl) rfl #[.float .f64 a0] rfl (by (try simp only [List.map_toArray, List.map_cons, List.map_nil]); first | done | rfl | (simp only [List.length_drop, List.length_take]; rfl)) ?_; (with_reducible refine (math_Abs.calls a0 t101 _ A2.out).mono ?_); rintro e w' ⟨rfl, ⟨nd, rfl⟩⟩; refine ⟨_, rfl, ?_⟩))
        go_ret
        exact ⟨by first | rfl | (simp; done) | (simp only [← hji6, ← hji8] <;> (first | rfl | simp)) | (simp [*]; done), by repeat (first | exact Drawn0.refl _ | apply Drawn0.step)⟩
      · rw [if_neg c7] at H
        exact absurd H (by simp)
    · rw [if_neg c5] at H
      have c5b0 : decide ((IntKind.u64.wrap ((Go.bits .and .u64 ((f2u a0) / 4503599627370496) 2047) - 1023)) < 52) = false := decide_eq_false c5
      clear c5
      obtain rfl := Option.some.inj H
      go_enter Try.func84, Try.ntmps84
      go_wp2_with (first | ((with_reducible refine gate_callee (f := 82) rfl ?_); refine goesL_ (some 6) rfl rfl Try.func82 (by kernel_rfl) rfl #[.float .f64 a0] rfl (by (try simp only [List.map_toArray, List.map_cons, List.map_nil]); first | done | rfl | (simp only [List.length_drop, List.length_take]; rfl)) ?_; (with_reducible refine (math_Abs.calls a0 t101 _ A2.out).mono ?_); rintro e w' ⟨rfl, ⟨nd, rfl⟩⟩; refine ⟨_, rfl, ?_⟩))
      go_ret
      exact ⟨by first | rfl | (simp; done) | (simp [*]; done), by repeat (first | exact Drawn0.refl _ | apply Drawn0.step)⟩

/-! ### math_Trunc: function 66 -/
def math_Trunc.f (a0 : Nat) : Option (Nat) := if ftruncok a0 = true then (some (ftrunc a0)) else (none)
set_option maxHeartbeats 8000000 in
set_option maxRecDepth 100000 in
theorem math_Trunc.calls (a0 : Nat) (r : Nat) (w : World) (h : math_Trunc.f a0 = some r) :
    Calls Try.prog 66 #[.float .f64 a0] w fun e w' => e = .returned (.float .f64 r) ∧ Drawn0 w w' := by
  have hx83 := @ext83
  have H : (if ftruncok a0 = true then (some (ftrunc a0)) else (none)) = some r := h
  clear h
  by_cases c2 : ftruncok a0 = true
  · rw [if_pos c2] at H
    have c2b0 := eq_true c2
    have c2b1 : decide (ftruncok a0 = true) = true := decide_eq_true c2
    clear c2
    obtain rfl := Option.some.inj H
    go_enter Try.func66, Try.ntmps66
    go_wp2
    go_ret
    exact ⟨by first | rfl | (simp; done) | (simp [*]; done), by repeat (first | exact Drawn0.refl _ | apply Drawn0.step)⟩
  · rw [if_neg c2] at H
    exact absurd H (by simp)

/-! ### phasor_whole: function 65 -/
def phasor_whole.f (a0 : Nat) (a1 : Nat) : Option (Bool) := (math_Abs.f a0).bind fun t103 => (if fle t103 a1 = true then ((math_Trunc.f a0).bind fun t104 => (some (feq t104 a0))) else (some false))
set_option maxHeartbeats 8000000 in
set_option maxRecDepth 100000 in
theorem phasor_whole.calls (a0 : Nat) (a1 : Nat) (r : Bool) (w : World) (h : phasor_whole.f a0 a1 = some r) :
    Calls Try.prog 65 #[.float .f64 a0, .float .f64 a1] w fun e w' => e = .returned (.bool r) ∧ Drawn0 w w' := by
  have H : ((math_Abs.f a0).bind fun t103 => (if fle t103 a1 = true then ((math_Trunc.f a0).bind fun t104 => (some (feq t104 a0))) else (some false))) = some r := h
  clear h
  replace H := Option.bind_eq_some_iff.mp H
  obtain ⟨t103, A30, H⟩ := H
  replace H : (if fle t103 a1 = true then ((math_Trunc.f a0).bind fun t104 => (some (feq t104 a0))) else (some false)) = some r := H
  have A3 := Aside0.mk A30
  clear A30
  by_cases c4 : fle t103 a1 = true
  · rw [if_pos c4] at H
    have c4b0 : fle t103 a1 = true := c4
    clear c4
    replace H := Option.bind_eq_some_iff.mp H
    obtain ⟨t104, A50, H⟩ := H
    replace H : (some (feq t104 a0)) = some r := H
    have A5 := Aside0.mk A50
    clear A50
    obtain rfl := Option.some.inj H
    go_enter Try.func65, Try.ntmps65
    go_wp2_with (first | ((with_reducible refine gate_callee (f := 82) rfl ?_); refine goesL_ (some 6) rfl rfl Try.func82 (by kernel_rfl) rfl #[.float .f64 a0] rfl (by (try simp only [List.map_toArray, List.map_cons, List.map_nil]); first | done | rfl | (simp only [List.length_drop, List.length_take]; rfl)) ?_; (with_reducible refine (math_Abs.calls a0 t103 _ A3.out).mono ?_); rintro e w' ⟨rfl, ⟨nd, rfl⟩⟩; refine ⟨_, rfl, ?_⟩) | (go_at_call 66; (with_reducible refine (math_Trunc.calls a0 t104 _ A5.out).mono ?_); rintro e w' ⟨rfl, ⟨nd, rfl⟩⟩))
    go_ret
    exact ⟨by first | rfl | (simp; done) | (simp [*]; done), by repeat (first | exact Drawn0.refl _ | apply Drawn0.step)⟩
  · rw [if_neg c4] at H
    have c4b0 : fle t103 a1 = false := Bool.eq_false_iff.mpr c4
    clear c4
    obtain rfl := Option.some.inj H
    go_enter Try.func65, Try.ntmps65
    go_wp2_with (first | ((with_reducible refine gate_callee (f := 82) rfl ?_); refine goesL_ (some 6) rfl rfl Try.func82 (by kernel_rfl) rfl #[.float .f64 a0] rfl (by (try simp only [List.map_toArray, List.map_cons, List.map_nil]); first | done | rfl | (simp only [List.length_drop, List.length_take]; rfl)) ?_; (with_reducible refine (math_Abs.calls a0 t103 _ A3.out).mono ?_); rintro e w' ⟨rfl, ⟨nd, rfl⟩⟩; refine ⟨_, rfl, ?_⟩))
    go_ret
    exact ⟨by first | rfl | (simp; done) | (simp [*]; done), by repeat (first | exact Drawn0.refl _ | apply Drawn0.step)⟩

/-! ### phasor_Fits: function 60 -/
def phasor_Fits.f (a0 : Cx) : Option (Bool) := (phasor_whole.f a0.re 4719772409484279808).bind fun t105 => (if t105 = true then ((phasor_whole.f a0.im 4719772409484279808).bind fun t106 => (some t106)) else (some false))
set_option maxHeartbeats 8000000 in
set_option maxRecDepth 100000 in
theorem phasor_Fits.calls (a0 : Cx) (r : Bool) (w : World) (h : phasor_Fits.f a0 = some r) :
    Calls Try.prog 60 #[.complex .f64 a0.re a0.im] w fun e w' => e = .returned (.bool r) ∧ Below w.heap.size w w' := by
  have HB := Aside0.mk (Below.refl w.heap.size w)
  have H : ((phasor_whole.f a0.re 4719772409484279808).bind fun t105 => (if t105 = true then ((phasor_whole.f a0.im 4719772409484279808).bind fun t106 => (some t106)) else (some false))) = some r := h
  clear h
  replace H := Option.bind_eq_some_iff.mp H
  obtain ⟨t105, A20, H⟩ := H
  replace H : (if t105 = true then ((phasor_whole.f a0.im 4719772409484279808).bind fun t106 => (some t106)) else (some false)) = some r := H
  have A2 := Aside0.mk A20
  clear A20
  by_cases c3 : t105 = true
  · subst c3
    have H1 : ((phasor_whole.f a0.im 4719772409484279808).bind fun t106 => (some t106)) = some r := by rw [if_pos rfl] at H; exact H
    clear H
    have H := H1
    clear H1
    replace H := Option.bind_eq_some_iff.mp H
    obtain ⟨t106, A40, H⟩ := H
    replace H : (some t106) = some r := H
    have A4 := Aside0.mk A40
    clear A40
    obtain rfl := Option.some.inj H
    go_enter Try.func60, Try.ntmps60
    go_wp2_with (first | ((with_reducible refine gate_callee (f := 65) rfl ?_); refine goesL_ (some 5) rfl rfl Try.func65 (by kernel_rfl) rfl #[.float .f64 a0.re, .float .f64 4719772409484279808] rfl (by (try simp only [List.map_toArray, List.map_cons, List.map_nil]); first | done | rfl | (simp only [List.length_drop, List.length_take]; rfl)) ?_; (with_reducible refine (phasor_whole.calls a0.re 4719772409484279808 true _ A2.out).mono ?_); rintro e w' ⟨rfl, ⟨nd, rfl⟩⟩; refine ⟨_, rfl, ?_⟩) | (go_at_call 65; (with_reducible refine (phasor_whole.calls a0.im 4719772409484279808 t106 _ A4.out).mono ?_); rintro e w' ⟨rfl, ⟨nd, rfl⟩⟩))
    go_ret
    exact ⟨by first | rfl | (simp [errW_none, errW_some] <;> rfl) | (simp [*, errW_none, errW_some] <;> rfl), by repeat (first | (with_reducible first | exact HB.out | apply below_alloc | apply pw_below_drewN | apply below_drew1) | exact HB.out)⟩
  · replace c3 := Bool.eq_false_iff.mpr c3
    subst c3
    have H1 : (some false) = some r := by rw [if_neg (show ¬ (false = true) by decide)] at H; exact H
    clear H
    have H := H1
    clear H1
    obtain rfl := Option.some.inj H
    go_enter Try.func60, Try.ntmps60
    go_wp2_with (first | ((with_reducible refine gate_callee (f := 65) rfl ?_); refine goesL_ (some 5) rfl rfl Try.func65 (by kernel_rfl) rfl #[.float .f64 a0.re, .float .f64 4719772409484279808] rfl (by (try simp only [List.map_toArray, List.map_cons, List.map_nil]); first | done | rfl | (simp only [List.length_drop, List.length_take]; rfl)) ?_; (with_reducible refine (phasor_whole.calls a0.re 4719772409484279808 false _ A2.out).mono ?_); rintro e w' ⟨rfl, ⟨nd, rfl⟩⟩; refine ⟨_, rfl, ?_⟩))
    go_ret
    exact ⟨by first | rfl | (simp [errW_none, errW_some] <;> rfl) | (simp [*, errW_none, errW_some] <;> rfl), by repeat (first | (with_reducible first | exact HB.out | apply below_alloc | apply pw_below_drewN | apply below_drew1) | exact HB.out)⟩

/-! ### phasor_conjugate: function 61 -/
def phasor_conjugate.f (a0 : Cx) : Option (Cx) := some (cx a0.re (fneg a0.im))
set_option maxHeartbeats 8000000 in
set_option maxRecDepth 100000 in
theorem phasor_conjugate.calls (a0 : Cx) (r : Cx) (w : World) (h : phasor_conjugate.f a0 = some r) :
    Calls Try.prog 61 #[.complex .f64 a0.re a0.im] w fun e w' => e = .returned (.complex .f64 r.re r.im) ∧ Below w.heap.size w w' := by
  have HB := Aside0.mk (Below.refl w.heap.size w)
  have H : (some (cx a0.re (fneg a0.im))) = some r := h
  clear h
  obtain rfl := Option.some.inj H
  go_enter Try.func61, Try.ntmps61
  go_wp2
  go_ret
  exact ⟨by first | rfl | (simp [errW_none, errW_some] <;> rfl) | (simp [*, errW_none, errW_some] <;> rfl), by repeat (first | (with_reducible first | exact HB.out | apply below_alloc | apply pw_below_drewN | apply below_drew1) | exact HB.out)⟩

/-! ### phasor_Power: function 26 -/
def phasor_Power.f (a0 : Cx) (a1 : Cx) : Option (Cx × Int) := (phasor_Fits.f a0).bind fun t107 => (if t107 = true then ((phasor_Fits.f a1).bind fun t108 => (if t108 = true then ((phasor_conjugate.f a1).bind fun t109 => (if cmulok a0.re a0.im t109.re t109.im = true then (some (cx (cmulre a0.re a0.im t109.re t109.im) (cmulim a0.re a0.im t109.re t109.im), 0)) else (none))) else (some (cx 0 0, 5)))) else (some (cx 0 0, 5)))
set_option maxHeartbeats 8000000 in
set_option maxRecDepth 100000 in
theorem phasor_Power.calls (a0 : Cx) (a1 : Cx) (r1 : Cx) (r2 : Int) (w : World) (h : phasor_Power.f a0 a1 = some (r1, r2)) :
    Calls Try.prog 26 #[.complex .f64 a0.re a0.im, .complex .f64 a1.re a1.im] w fun e w' => e = .returned (.tuple #[.complex .f64 r1.re r1.im, .int .i64 r2]) ∧ Below w.heap.size w w' := by
  have HB := Aside0.mk (Below.refl w.heap.size w)
  have H : ((phasor_Fits.f a0).bind fun t107 => (if t107 = true then ((phasor_Fits.f a1).bind fun t108 => (if t108 = true then ((phasor_conjugate.f a1).bind fun t109 => (if cmulok a0.re a0.im t109.re t109.im = true then (some (cx (cmulre a0.re a0.im t109.re t109.im) (cmulim a0.re a0.im t109.re t109.im), 0)) else (none))) else (some (cx 0 0, 5)))) else (some (cx 0 0, 5)))) = some (r1, r2) := h
  clear h
  replace H := Option.bind_eq_some_iff.mp H
  obtain ⟨t107, A30, H⟩ := H
  replace H : (if t107 = true then ((phasor_Fits.f a1).bind fun t108 => (if t108 = true then ((phasor_conjugate.f a1).bind fun t109 => (if cmulok a0.re a0.im t109.re t109.im = true then (some (cx (cmulre a0.re a0.im t109.re t109.im) (cmulim a0.re a0.im t109.re t109.im), 0)) else (none))) else (some (cx 0 0, 5)))) else (some (cx 0 0, 5))) = some (r1, r2) := H
  have A3 := Aside0.mk A30
  clear A30
  by_cases c4 : t107 = true
  · subst c4
    have H1 : ((phasor_Fits.f a1).bind fun t108 => (if t108 = true then ((phasor_conjugate.f a1).bind fun t109 => (if cmulok a0.re a0.im t109.re t109.im = true then (some (cx (cmulre a0.re a0.im t109.re t109.im) (cmulim a0.re a0.im t109.re t109.im), 0)) else (none))) else (some (cx 0 0, 5)))) = some (r1, r2) := by rw [if_pos rfl] at H; exact H
    clear H
    have H := H1
    clear H1
    replace H := Option.bind_eq_some_iff.mp H
    obtain ⟨t108, A50, H⟩ := H
    replace H : (if t108 = true then ((phasor_conjugate.f a1).bind fun t109 => (if cmulok a0.re a0.im t109.re t109.im = true then (some (cx (cmulre a0.re a0.im t109.re t109.im) (cmulim a0.re a0.im t109.re t109.im), 0)) else (none))) else (some (cx 0 0, 5))) = some (r1, r2) := H
    have A5 := Aside0.mk A50
    clear A50
    by_cases c6 : t108 = true
    · subst c6
      have H1 : ((phasor_conjugate.f a1).bind fun t109 => (if cmulok a0.re a0.im t109.re t109.im = true then (some (cx (cmulre a0.re a0.im t109.re t109.im) (cmulim a0.re a0.im t109.re t109.im), 0)) else (none))) = some (r1, r2) := by rw [if_pos rfl] at H; exact H
      clear H
      have H := H1
      clear H1
      replace H := Option.bind_eq_some_iff.mp H
      obtain ⟨t109, A70, H⟩ := H
      replace H : (if cmulok a0.re a0.im t109.re t109.im = true then (some (cx (cmulre a0.re a0.im t109.re t109.im) (cmulim a0.re a0.im t109.re t109.im), 0)) else (none)) = some (r1, r2) := H
      have A7 := Aside0.mk A70
      clear A70
      by_cases c8 : cmulok a0.re a0.im t109.re t109.im = true
      · rw [if_pos c8] at H
        have c8b0 := eq_true c8
        have c8b1 : decide (cmulok a0.re a0.im t109.re t109.im = true) = true := decide_eq_true c8
        clear c8
        simp only [Option.some.injEq, Prod.mk.injEq] at H
        obtain ⟨rfl, rfl⟩ := H
        go_enter Try.func26, Try.ntmps26
        go_wp2_with (first | ((with_reducible refine gate_callee (f := 60) rfl ?_); refine goesL_ (some 7) rfl rfl Try.func60 (by kernel_rfl) rfl #[.complex .f64 a0.re a0.im] rfl (by (try simp only [List.map_toArray, List.map_cons, List.map_nil]); first | done | rfl | (simp only [List.length_drop, List.length_take]; rfl)) ?_; (with_reducible refine (phasor_Fits.calls a0 true _ A3.out).mono ?_); rintro e w9 ⟨rfl, hb⟩; refine ⟨_, rfl, ?_⟩; have n0_ := Aside0.mk (below_step (by repeat (first | (with_reducible first | exact HB.out | apply below_alloc | apply pw_below_drewN | apply below_drew1) | exact HB.out)) hb); clear HB; have HB := n0_; clear n0_; (try clear hb); (try clear hb2); (try clear hk); (try clear hi)) | (go_at_call 60; (with_reducible refine (phasor_Fits.calls a1 true _ A5.out).mono ?_); rintro e w10 ⟨rfl, hb⟩; have n0_ := Aside0.mk (below_step (by repeat (first | (with_reducible first | exact HB.out | apply below_alloc | apply pw_below_drewN | apply below_drew1) | exact HB.out)) hb); clear HB; have HB := n0_; clear n0_; (try clear hb); (try clear hb2); (try clear hk); (try clear hi)) | ((with_reducible refine gate_callee (f := 61) rfl ?_); refine goesL_ (some 16) rfl rfl Try.func61 (by kernel_rfl) rfl #[.complex .f64 a1.re a1.im] rfl (by (try simp only [List.map_toArray, List.map_cons, List.map_nil]); first | done | rfl | (simp only [List.length_drop, List.length_take]; rfl)) ?_; (with_reducible refine (phasor_conjugate.calls a1 t109 _ A7.out).mono ?_); rintro e w11 ⟨rfl, hb⟩; refine ⟨_, rfl, ?_⟩; have n0_ := Aside0.mk (below_step (by repeat (first | (with_reducible first | exact HB.out | apply below_alloc | apply pw_below_drewN | apply below_drew1) | exact HB.out)) hb); clear HB; have HB := n0_; clear n0_; (try clear hb); (try clear hb2); (try clear hk); (try clear hi)))
        go_ret2
        exact ⟨by first | rfl | (simp [errW_none, errW_some] <;> rfl) | (simp [*, errW_none, errW_some] <;> rfl), by repeat (first | (with_reducible first | exact HB.out | apply below_alloc | apply pw_below_drewN | apply below_drew1) | exact HB.out)⟩
      · rw [if_neg c8] at H
        exact absurd H (by simp)
    · replace c6 := Bool.eq_false_iff.mpr c6
      subst c6
      have H1 : (some (cx 0 0, 5)) = some (r1, r2) := by rw [if_neg (show ¬ (false = true) by decide)] at H; exact H
      clear H
      have H := H1
      clear H1
      simp only [Option.some.injEq, Prod.mk.injEq] at H
      obtain ⟨rfl, rfl⟩ := H
      go_enter Try.func26, Try.ntmps26
      go_wp2_with (first | ((with_reducible refine gate_callee (f := 60) rfl ?_); refine goesL_ (some 7) rfl rfl Try.func60 (by kernel_rfl) rfl #[.complex .f64 a0.re a0.im] rfl (by (try simp only [List.map_toArray, List.map_cons, List.map_nil]); first | done | rfl | (simp only [List.length_drop, List.length_take]; rfl)) ?_; (with_reducible refine (phasor_Fits.calls a0 true _ A3.out).mono ?_); rintro e w12 ⟨rfl, hb⟩; refine ⟨_, rfl, ?_⟩; have n0_ := Aside0.mk (below_step (by repeat (first | (with_reducible first | exact HB.out | apply below_alloc | apply pw_below_drewN | apply below_drew1) | exact HB.out)) hb); clear HB; have HB := n0_; clear n0_; (try clear hb); (try clear hb2); (try clear hk); (try clear hi)) | (go_at_call 60; (with_reducible refine (phasor_Fits.calls a1 false _ A5.out).mono ?_); rintro e w13 ⟨rfl, hb⟩; have n0_ := Aside0.mk (below_step (by repeat (first | (with_reducible first | exact HB.out | apply below_alloc | apply pw_below_drewN | apply below_drew1) | exact HB.out)) hb); clear HB; have HB := n0_; clear n0_; (try clear hb); (try clear hb2); (try clear hk); (try clear hi)))
      go_ret2
      exact ⟨by first | rfl | (simp [errW_none, errW_some] <;> rfl) | (simp [*, errW_none, errW_some] <;> rfl), by repeat (first | (with_reducible first | exact HB.out | apply below_alloc | apply pw_below_drewN | apply below_drew1) | exact HB.out)⟩
  · replace c4 := Bool.eq_false_iff.mpr c4
    subst c4
    have H1 : (some (cx 0 0, 5)) = some (r1, r2) := by rw [if_neg (show ¬ (false = true) by decide)] at H; exact H
    clear H
    have H := H1
    clear H1
    simp only [Option.some.injEq, Prod.mk.injEq] at H
    obtain ⟨rfl, rfl⟩ := H
    go_enter Try.func26, Try.ntmps26
    go_wp2_with (first | ((with_reducible refine gate_callee (f := 60) rfl ?_); refine goesL_ (some 7) rfl rfl Try.func60 (by kernel_rfl) rfl #[.complex .f64 a0.re a0.im] rfl (by (try simp only [List.map_toArray, List.map_cons, List.map_nil]); first | done | rfl | (simp only [List.length_drop, List.length_take]; rfl)) ?_; (with_reducible refine (phasor_Fits.calls a0 false _ A3.out).mono ?_); rintro e w14 ⟨rfl, hb⟩; refine ⟨_, rfl, ?_⟩; have n0_ := Aside0.mk (below_step (by repeat (first | (with_reducible first | exact HB.out | apply below_alloc | apply pw_below_drewN | apply below_drew1) | exact HB.out)) hb); clear HB; have HB := n0_; clear n0_; (try clear hb); (try clear hb2); (try clear hk); (try clear hi)))
    go_ret2
    exact ⟨by first | rfl | (simp [errW_none, errW_some] <;> rfl) | (simp [*, errW_none, errW_some] <;> rfl), by repeat (first | (with_reducible first | exact HB.out | apply below_alloc | apply pw_below_drewN | apply below_drew1) | exact HB.out)⟩

/-! ### pylonlaw02_awake: function 24 -/
def pylonlaw02_awake.f  : Option (Bool) := (phasor_Power.f (cx 4607182418800017408 4611686018427387904) (cx 4613937818241073152 4616189618054758400)).bind fun bt110 => (if bt110.2 = 0 then (some (ceq bt110.1.re bt110.1.im 4622382067542392832 4611686018427387904)) else (some false))
set_option maxHeartbeats 8000000 in
set_option maxRecDepth 100000 in
theorem pylonlaw02_awake.calls  (r : Bool) (w : World) (h : pylonlaw02_awake.f  = some r) :
    Calls Try.prog 24 #[] w fun e w' => e = .returned (.bool r) ∧ Below w.heap.size w w' := by
  have HB := Aside0.mk (Below.refl w.heap.size w)
  have H : ((phasor_Power.f (cx 4607182418800017408 4611686018427387904) (cx 4613937818241073152 4616189618054758400)).bind fun bt110 => (if bt110.2 = 0 then (some (ceq bt110.1.re bt110.1.im 4622382067542392832 4611686018427387904)) else (some false))) = some r := h
  clear h
  replace H := Option.bind_eq_some_iff.mp H
  obtain ⟨⟨t110, t111⟩, A10, H⟩ := H
  replace H : (if t111 = 0 then (some (ceq t110.re t110.im 4622382067542392832 4611686018427387904)) else (some false)) = some r := H
  have A1 := Aside0.mk A10
  clear A10
  by_cases c2 : t111 = 0
  · rw [if_pos c2] at H
    have c2b0 : (t111 == 0) = true := beq_iff_eq.mpr c2
    have c2b1 : (t111 != 0) = false := bne_eq_false_iff_eq.mpr c2
    clear c2
    obtain rfl := Option.some.inj H
    go_enter Try.func24, Try.ntmps24
    go_wp2_with (first | ((with_reducible refine gate_callee (f := 26) rfl ?_); refine goesL_ (some 4) rfl rfl Try.func26 (by kernel_rfl) rfl #[.complex .f64 4607182418800017408 4611686018427387904, .complex .f64 4613937818241073152 4616189618054758400] rfl (by (try simp only [List.map_toArray, List.map_cons, List.map_nil]); first | done | rfl | (simp only [List.length_drop, List.length_take]; rfl)) ?_; (with_reducible refine (phasor_Power.calls (cx 4607182418800017408 4611686018427387904) (cx 4613937818241073152 4616189618054758400) t110 t111 _ A1.out).mono ?_); rintro e w3 ⟨rfl, hb⟩; refine ⟨_, rfl, ?_⟩; have n0_ := Aside0.mk (below_step (by repeat (first | (with_reducible first | exact HB.out | apply below_alloc | apply pw_below_drewN | apply below_drew1) | exact HB.out)) hb); clear HB; have HB := n0_; clear n0_; (try clear hb); (try clear hb2); (try clear hk); (try clear hi)))
    go_ret
    exact ⟨by first | rfl | (simp [errW_none, errW_some] <;> rfl) | (simp [*, errW_none, errW_some] <;> rfl), by repeat (first | (with_reducible first | exact HB.out | apply below_alloc | apply pw_below_drewN | apply below_drew1) | exact HB.out)⟩
  · rw [if_neg c2] at H
    have c2b0 : (t111 == 0) = false := beq_eq_false_iff_ne.mpr c2
    have c2b1 : (t111 != 0) = true := bne_iff_ne.mpr c2
    obtain rfl := Option.some.inj H
    go_enter Try.func24, Try.ntmps24
    go_wp2_with (first | ((with_reducible refine gate_callee (f := 26) rfl ?_); refine goesL_ (some 4) rfl rfl Try.func26 (by kernel_rfl) rfl #[.complex .f64 4607182418800017408 4611686018427387904, .complex .f64 4613937818241073152 4616189618054758400] rfl (by (try simp only [List.map_toArray, List.map_cons, List.map_nil]); first | done | rfl | (simp only [List.length_drop, List.length_take]; rfl)) ?_; (with_reducible refine (phasor_Power.calls (cx 4607182418800017408 4611686018427387904) (cx 4613937818241073152 4616189618054758400) t110 t111 _ A1.out).mono ?_); rintro e w4 ⟨rfl, hb⟩; refine ⟨_, rfl, ?_⟩; have n0_ := Aside0.mk (below_step (by repeat (first | (with_reducible first | exact HB.out | apply below_alloc | apply pw_below_drewN | apply below_drew1) | exact HB.out)) hb); clear HB; have HB := n0_; clear n0_; (try clear hb); (try clear hb2); (try clear hk); (try clear hi)))
    go_ret
    exact ⟨by first | rfl | (simp [errW_none, errW_some] <;> rfl) | (simp [*, errW_none, errW_some] <;> rfl), by repeat (first | (with_reducible first | exact HB.out | apply below_alloc | apply pw_below_drewN | apply below_drew1) | exact HB.out)⟩

/-! ### pylonlaw02_small: function 25 -/
def pylonlaw02_small.f (a0 : Int) (a1 : Int) : Option (Cx) := some (cx (floatOfInt .f64 a0) (floatOfInt .f64 a1))
set_option maxHeartbeats 8000000 in
set_option maxRecDepth 100000 in
theorem pylonlaw02_small.calls (a0 : Int) (a1 : Int) (r : Cx) (w : World) (h : pylonlaw02_small.f a0 a1 = some r) :
    Calls Try.prog 25 #[.int .i16 a0, .int .i16 a1] w fun e w' => e = .returned (.complex .f64 r.re r.im) ∧ Below w.heap.size w w' := by
  have HB := Aside0.mk (Below.refl w.heap.size w)
  have H : (some (cx (floatOfInt .f64 a0) (floatOfInt .f64 a1))) = some r := h
  clear h
  obtain rfl := Option.some.inj H
  go_enter Try.func25, Try.ntmps25
  go_wp2
  go_ret
  exact ⟨by first | rfl | (simp [errW_none, errW_some] <;> rfl) | (simp [*, errW_none, errW_some] <;> rfl), by repeat (first | (with_reducible first | exact HB.out | apply below_alloc | apply pw_below_drewN | apply below_drew1) | exact HB.out)⟩

/-! ### pylonlaw02_square: function 27 -/
def pylonlaw02_square.f (a0 : Cx) : Option (Nat) := if fmulok a0.re a0.re = true then (if fmulok a0.im a0.im = true then (if faddok (fmul a0.re a0.re) (fmul a0.im a0.im) = true then (some (fadd (fmul a0.re a0.re) (fmul a0.im a0.im))) else (none)) else (none)) else (none)
set_option maxHeartbeats 8000000 in
set_option maxRecDepth 100000 in
theorem pylonlaw02_square.calls (a0 : Cx) (r : Nat) (w : World) (h : pylonlaw02_square.f a0 = some r) :
    Calls Try.prog 27 #[.complex .f64 a0.re a0.im] w fun e w' => e = .returned (.float .f64 r) ∧ Below w.heap.size w w' := by
  have HB := Aside0.mk (Below.refl w.heap.size w)
  have H : (if fmulok a0.re a0.re = true then (if fmulok a0.im a0.im = true then (if faddok (fmul a0.re a0.re) (fmul a0.im a0.im) = true then (some (fadd (fmul a0.re a0.re) (fmul a0.im a0.im))) else (none)) else (none)) else (none)) = some r := h
  clear h
  by_cases c2 : fmulok a0.re a0.re = true
  · rw [if_pos c2] at H
    have c2b0 := eq_true c2
    have c2b1 : decide (fmulok a0.re a0.re = true) = true := decide_eq_true c2
    clear c2
    by_cases c3 : fmulok a0.im a0.im = true
    · rw [if_pos c3] at H
      have c3b0 := eq_true c3
      have c3b1 : decide (fmulok a0.im a0.im = true) = true := decide_eq_true c3
      clear c3
      by_cases c4 : faddok (fmul a0.re a0.re) (fmul a0.im a0.im) = true
      · rw [if_pos c4] at H
        have c4b0 := eq_true c4
        have c4b1 : decide (faddok (fmul a0.re a0.re) (fmul a0.im a0.im) = true) = true := decide_eq_true c4
        clear c4
        obtain rfl := Option.some.inj H
        go_enter Try.func27, Try.ntmps27
        go_wp2
        go_ret
        exact ⟨by first | rfl | (simp [errW_none, errW_some] <;> rfl) | (simp [*, errW_none, errW_some] <;> rfl), by repeat (first | (with_reducible first | exact HB.out | apply below_alloc | apply pw_below_drewN | apply below_drew1) | exact HB.out)⟩
      · rw [if_neg c4] at H
        exact absurd H (by simp)
    · rw [if_neg c3] at H
      exact absurd H (by simp)
  · rw [if_neg c2] at H
    exact absurd H (by simp)

/-! ### pylonlaw02_PhasorPowers: function 4 -/
def pylonlaw02_PhasorPowers.j0 : Nat → Cx → Cx → Cx → Cx → Cx → Bool → Option (Bool)
  | 0, _, _, _, _, _, _ => none
  | k + 1, x9, x10, x11, x13, x15, x56 => if x56 = true then (some false) else ((pylonlaw02_square.f x11).bind fun t121 => ((pylonlaw02_square.f x9).bind fun t122 => ((pylonlaw02_square.f x10).bind fun t123 => (if fmulok t122 t123 = true then (if feq t121 (fmul t122 t123) = true then (if ceq x11.re x11.im x13.re (fneg x13.im) = true then ((pylonlaw02_square.f x9).bind fun t124 => (some (ceq x15.re x15.im t124 0))) else (some false)) else (some false)) else (none)))))
def pylonlaw02_PhasorPowers.f (k : Nat) (a0 : Int) (a1 : Int) (a2 : Int) (a3 : Int) : Option (Bool) := (pylonlaw02_awake.f).bind fun t112 => (if t112 = true then ((pylonlaw02_small.f (Int.tmod a0 2048) (Int.tmod a1 2048)).bind fun t113 => ((pylonlaw02_small.f (Int.tmod a2 2048) (Int.tmod a3 2048)).bind fun t114 => ((phasor_Power.f t113 t114).bind fun bt115 => ((phasor_Power.f t114 t113).bind fun bt117 => ((phasor_Power.f t113 t113).bind fun bt119 => (if bt115.2 = 0 then (if bt117.2 = 0 then (pylonlaw02_PhasorPowers.j0 k t113 t114 bt115.1 bt117.1 bt119.1 (bt119.2 != 0)) else (pylonlaw02_PhasorPowers.j0 k t113 t114 bt115.1 bt117.1 bt119.1 true)) else (pylonlaw02_PhasorPowers.j0 k t113 t114 bt115.1 bt117.1 bt119.1 true))))))) else (some false))
theorem pylonlaw02_PhasorPowers.mono_l : ∀ k, (∀ y0 y1 y2 y3 y4 y5, LeO (pylonlaw02_PhasorPowers.j0 k y0 y1 y2 y3 y4 y5) (pylonlaw02_PhasorPowers.j0 (k + 1) y0 y1 y2 y3 y4 y5))
  | 0 => fun _ _ _ _ _ _ r h => by simp [pylonlaw02_PhasorPowers.j0] at h
  | k + 1 => by
    have ih0 := pylonlaw02_PhasorPowers.mono_l k
    · intro y0 y1 y2 y3 y4 y5
      unfold pylonlaw02_PhasorPowers.j0
      repeat' first
      | (with_reducible exact ih0 _ _ _ _ _ _)
      | (with_reducible exact LeO.refl _)
      | (with_reducible exact LeO.none _)
      | (with_reducible refine LeO.ite ?_ ?_)
      | (with_reducible refine LeO.bind ?_ (fun _ => ?_))
      | exact ih0 _ _ _ _ _ _
      | exact LeO.none _
      | refine LeO.ite ?_ ?_
      | refine LeO.bind ?_ (fun _ => ?_)
theorem pylonlaw02_PhasorPowers.mono : ∀ a0 a1 a2 a3 k, LeO (pylonlaw02_PhasorPowers.f k a0 a1 a2 a3) (pylonlaw02_PhasorPowers.f (k + 1) a0 a1 a2 a3) := by
  intro a0 a1 a2 a3 k
  have ih0 := pylonlaw02_PhasorPowers.mono_l k
  unfold pylonlaw02_PhasorPowers.f
  repeat' first
      | (with_reducible exact ih0 _ _ _ _ _ _)
      | (with_reducible exact LeO.refl _)
      | (with_reducible exact LeO.none _)
      | (with_reducible refine LeO.ite ?_ ?_)
      | (with_reducible refine LeO.bind ?_ (fun _ => ?_))
      | exact ih0 _ _ _ _ _ _
      | exact LeO.none _
      | refine LeO.ite ?_ ?_
      | refine LeO.bind ?_ (fun _ => ?_)
set_option maxHeartbeats 8000000 in
set_option maxRecDepth 100000 in
theorem pylonlaw02_PhasorPowers.calls (k : Nat) (a0 : Int) (a1 : Int) (a2 : Int) (a3 : Int) (r : Bool) (w : World) (h : pylonlaw02_PhasorPowers.f k a0 a1 a2 a3 = some r) :
    Calls Try.prog 4 #[.int .i16 a0, .int .i16 a1, .int .i16 a2, .int .i16 a3] w fun e w' => e = .returned (.bool r) ∧ Below w.heap.size w w' := by
  have HB := Aside0.mk (Below.refl w.heap.size w)
  have H : ((pylonlaw02_awake.f).bind fun t112 => (if t112 = true then ((pylonlaw02_small.f (Int.tmod a0 2048) (Int.tmod a1 2048)).bind fun t113 => ((pylonlaw02_small.f (Int.tmod a2 2048) (Int.tmod a3 2048)).bind fun t114 => ((phasor_Power.f t113 t114).bind fun bt115 => ((phasor_Power.f t114 t113).bind fun bt117 => ((phasor_Power.f t113 t113).bind fun bt119 => (if bt115.2 = 0 then (if bt117.2 = 0 then (pylonlaw02_PhasorPowers.j0 k t113 t114 bt115.1 bt117.1 bt119.1 (bt119.2 != 0)) else (pylonlaw02_PhasorPowers.j0 k t113 t114 bt115.1 bt117.1 bt119.1 true)) else (pylonlaw02_PhasorPowers.j0 k t113 t114 bt115.1 bt117.1 bt119.1 true))))))) else (some false))) = some r := h
  clear h
  replace H := Option.bind_eq_some_iff.mp H
  obtain ⟨t112, A50, H⟩ := H
  replace H : (if t112 = true then ((pylonlaw02_small.f (Int.tmod a0 2048) (Int.tmod a1 2048)).bind fun t113 => ((pylonlaw02_small.f (Int.tmod a2 2048) (Int.tmod a3 2048)).bind fun t114 => ((phasor_Power.f t113 t114).bind fun bt115 => ((phasor_Power.f t114 t113).bind fun bt117 => ((phasor_Power.f t113 t113).bind fun bt119 => (if bt115.2 = 0 then (if bt117.2 = 0 then (pylonlaw02_PhasorPowers.j0 k t113 t114 bt115.1 bt117.1 bt119.1 (bt119.2 != 0)) else (pylonlaw02_PhasorPowers.j0 k t113 t114 bt115.1 bt117.1 bt119.1 true)) else (pylonlaw02_PhasorPowers.j0 k t113 t114 bt115.1 bt117.1 bt119.1 true))))))) else (some false)) = some r := H
  have A5 := Aside0.mk A50
  clear A50
  by_cases c6 : t112 = true
  · subst c6
    have H1 : ((pylonlaw02_small.f (Int.tmod a0 2048) (Int.tmod a1 2048)).bind fun t113 => ((pylonlaw02_small.f (Int.tmod a2 2048) (Int.tmod a3 2048)).bind fun t114 => ((phasor_Power.f t113 t114).bind fun bt115 => ((phasor_Power.f t114 t113).bind fun bt117 => ((phasor_Power.f t113 t113).bind fun bt119 => (if bt115.2 = 0 then (if bt117.2 = 0 then (pylonlaw02_PhasorPowers.j0 k t113 t114 bt115.1 bt117.1 bt119.1 (bt119.2 != 0)) else (pylonlaw02_PhasorPowers.j0 k t113 t114 bt115.1 bt117.1 bt119.1 true)) else (pylonlaw02_PhasorPowers.j0 k t113 t114 bt115.1 bt117.1 bt119.1 true))))))) = some r := by rw [if_pos rfl] at H; exact H
    clear H
    have H := H1
    clear H1
    replace H := Option.bind_eq_some_iff.mp H
    obtain ⟨t113, A70, H⟩ := H
    replace H : ((pylonlaw02_small.f (Int.tmod a2 2048) (Int.tmod a3 2048)).bind fun t114 => ((phasor_Power.f t113 t114).bind fun bt115 => ((phasor_Power.f t114 t113).bind fun bt117 => ((phasor_Power.f t113 t113).bind fun bt119 => (if bt115.2 = 0 then (if bt117.2 = 0 then (pylonlaw02_PhasorPowers.j0 k t113 t114 bt115.1 bt117.1 bt119.1 (bt119.2 != 0)) else (pylonlaw02_PhasorPowers.j0 k t113 t114 bt115.1 bt117.1 bt119.1 true)) else (pylonlaw02_PhasorPowers.j0 k t113 t114 bt115.1 bt117.1 bt119.1 true)))))) = some r := H
    have A7 := Aside0.mk A70
    clear A70
    replace H := Option.bind_eq_some_iff.mp H
    obtain ⟨t114, A80, H⟩ := H
    replace H : ((phasor_Power.f t113 t114).bind fun bt115 => ((phasor_Power.f t114 t113).bind fun bt117 => ((phasor_Power.f t113 t113).bind fun bt119 => (if bt115.2 = 0 then (if bt117.2 = 0 then (pylonlaw02_PhasorPowers.j0 k t113 t114 bt115.1 bt117.1 bt119.1 (bt119.2 != 0)) else (pylonlaw02_PhasorPowers.j0 k t113 t114 bt115.1 bt117.1 bt119.1 true)) else (pylonlaw02_PhasorPowers.j0 k t113 t114 bt115.1 bt117.1 bt119.1 true))))) = some r := H
    have A8 := Aside0.mk A80
    clear A80
    replace H := Option.bind_eq_some_iff.mp H
    obtain ⟨⟨t115, t116⟩, A90, H⟩ := H
    replace H : ((phasor_Power.f t114 t113).bind fun bt117 => ((phasor_Power.f t113 t113).bind fun bt119 => (if t116 = 0 then (if bt117.2 = 0 then (pylonlaw02_PhasorPowers.j0 k t113 t114 t115 bt117.1 bt119.1 (bt119.2 != 0)) else (pylonlaw02_PhasorPowers.j0 k t113 t114 t115 bt117.1 bt119.1 true)) else (pylonlaw02_PhasorPowers.j0 k t113 t114 t115 bt117.1 bt119.1 true)))) = some r := H
    have A9 := Aside0.mk A90
    clear A90
    replace H := Option.bind_eq_some_iff.mp H
    obtain ⟨⟨t117, t118⟩, A100, H⟩ := H
    replace H : ((phasor_Power.f t113 t113).bind fun bt119 => (if t116 = 0 then (if t118 = 0 then (pylonlaw02_PhasorPowers.j0 k t113 t114 t115 t117 bt119.1 (bt119.2 != 0)) else (pylonlaw02_PhasorPowers.j0 k t113 t114 t115 t117 bt119.1 true)) else (pylonlaw02_PhasorPowers.j0 k t113 t114 t115 t117 bt119.1 true))) = some r := H
    have A10 := Aside0.mk A100
    clear A100
    replace H := Option.bind_eq_some_iff.mp H
    obtain ⟨⟨t119, t120⟩, A110, H⟩ := H
    replace H : (if t116 = 0 then (if t118 = 0 then (pylonlaw02_PhasorPowers.j0 k t113 t114 t115 t117 t119 (t120 != 0)) else (pylonlaw02_PhasorPowers.j0 k t113 t114 t115 t117 t119 true)) else (pylonlaw02_PhasorPowers.j0 k t113 t114 t115 t117 t119 true)) = some r := H
    have A11 := Aside0.mk A110
    clear A110
    have HC12 := Aside0.mk H
    clear H
    go_enter Try.func4, Try.ntmps4
    go_upto_region 7 with (first | ((with_reducible refine gate_callee (f := 24) rfl ?_); refine goesL_ (some 17) rfl rfl Try.func24 (by kernel_rfl) rfl #[] rfl (by (try simp only [List.map_toArray, List.map_cons, List.map_nil]); first | done | rfl | (simp only [List.length_drop, List.length_take]; rfl)) ?_; (with_reducible refine (pylonlaw02_awake.calls  true _ A5.out).mono ?_); rintro e w13 ⟨rfl, hb⟩; refine ⟨_, rfl, ?_⟩; have n0_ := Aside0.mk (below_step (by repeat (first | (with_reducible first | exact HB.out | apply below_alloc | apply pw_below_drewN | apply below_drew1) | exact HB.out)) hb); clear HB; have HB := n0_; clear n0_; (try clear hb); (try clear hb2); (try clear hk); (try clear hi)) | ((with_reducible refine gate_callee (f := 25) rfl ?_); refine goesL_ (some 23) rfl rfl Try.func25 (by kernel_rfl) rfl #[.int .i16 (Int.tmod a0 2048), .int .i16 (Int.tmod a1 2048)] rfl (by (try simp only [List.map_toArray, List.map_cons, List.map_nil]); first | done | rfl | (simp only [List.length_drop, List.length_take]; rfl)) ?_; (with_reducible refine (pylonlaw02_small.calls (Int.tmod a0 2048) (Int.tmod a1 2048) t113 _ A7.out).mono ?_); rintro e w14 ⟨rfl, hb⟩; refine ⟨_, rfl, ?_⟩; have n0_ := Aside0.mk (below_step (by repeat (first | (with_reducible first | exact HB.out | apply below_alloc | apply pw_below_drewN | apply below_drew1) | exact HB.out)) hb); clear HB; have HB := n0_; clear n0_; (try clear hb); (try clear hb2); (try clear hk); (try clear hi)) | ((with_reducible refine gate_callee (f := 25) rfl ?_); refine goesL_ (some 28) rfl rfl Try.func25 (by kernel_rfl) rfl #[.int .i16 (Int.tmod a2 2048), .int .i16 (Int.tmod a3 2048)] rfl (by (try simp only [List.map_toArray, List.map_cons, List.map_nil]); first | done | rfl | (simp only [List.length_drop, List.length_take]; rfl)) ?_; (with_reducible refine (pylonlaw02_small.calls (Int.tmod a2 2048) (Int.tmod a3 2048) t114 _ A8.out).mono ?_); rintro e w15 ⟨rfl, hb⟩; refine ⟨_, rfl, ?_⟩; have n0_ := Aside0.mk (below_step (by repeat (first | (with_reducible first | exact HB.out | apply below_alloc | apply pw_below_drewN | apply below_drew1) | exact HB.out)) hb); clear HB; have HB := n0_; clear n0_; (try clear hb); (try clear hb2); (try clear hk); (try clear hi)) | ((with_reducible refine gate_callee (f := 26) rfl ?_); refine goesL_ (some 32) rfl rfl Try.func26 (by kernel_rfl) rfl #[.complex .f64 t113.re t113.im, .complex .f64 t114.re t114.im] rfl (by (try simp only [List.map_toArray, List.map_cons, List.map_nil]); first | done | rfl | (simp only [List.length_drop, List.length_take]; rfl)) ?_; (with_reducible refine (phasor_Power.calls t113 t114 t115 t116 _ A9.out).mono ?_); rintro e w16 ⟨rfl, hb⟩; refine ⟨_, rfl, ?_⟩; have n0_ := Aside0.mk (below_step (by repeat (first | (with_reducible first | exact HB.out | apply below_alloc | apply pw_below_drewN | apply below_drew1) | exact HB.out)) hb); clear HB; have HB := n0_; clear n0_; (try clear hb); (try clear hb2); (try clear hk); (try clear hi)) | ((with_reducible refine gate_callee (f := 26) rfl ?_); refine goesL_ (some 38) rfl rfl Try.func26 (by kernel_rfl) rfl #[.complex .f64 t114.re t114.im, .complex .f64 t113.re t113.im] rfl (by (try simp only [List.map_toArray, List.map_cons, List.map_nil]); first | done | rfl | (simp only [List.length_drop, List.length_take]; rfl)) ?_; (with_reducible refine (phasor_Power.calls t114 t113 t117 t118 _ A10.out).mono ?_); rintro e w17 ⟨rfl, hb⟩; refine ⟨_, rfl, ?_⟩; have n0_ := Aside0.mk (below_step (by repeat (first | (with_reducible first | exact HB.out | apply below_alloc | apply pw_below_drewN | apply below_drew1) | exact HB.out)) hb); clear HB; have HB := n0_; clear n0_; (try clear hb); (try clear hb2); (try clear hk); (try clear hi)) | ((with_reducible refine gate_callee (f := 26) rfl ?_); refine goesL_ (some 44) rfl rfl Try.func26 (by kernel_rfl) rfl #[.complex .f64 t113.re t113.im, .complex .f64 t113.re t113.im] rfl (by (try simp only [List.map_toArray, List.map_cons, List.map_nil]); first | done | rfl | (simp only [List.length_drop, List.length_take]; rfl)) ?_; (with_reducible refine (phasor_Power.calls t113 t113 t119 t120 _ A11.out).mono ?_); rintro e w18 ⟨rfl, hb⟩; refine ⟨_, rfl, ?_⟩; have n0_ := Aside0.mk (below_step (by repeat (first | (with_reducible first | exact HB.out | apply below_alloc | apply pw_below_drewN | apply below_drew1) | exact HB.out)) hb); clear HB; have HB := n0_; clear n0_; (try clear hb); (try clear hb2); (try clear hk); (try clear hi)))
    (try simp only [Act.put, List.setIfInBounds_toArray, List.set_cons_zero, List.set_cons_succ])
    go_cut [56] (fun v56 wc => ∃ (kq : Nat) (x56_11 : Bool), v56 = .bool x56_11 ∧ Aside0 (pylonlaw02_PhasorPowers.j0 kq t113 t114 t115 t117 t119 x56_11 = some r) ∧ Aside0 (kq ≤ k) ∧ Aside0 (Below w.heap.size w wc))
    case first =>
      have H := HC12.out
      clear HC12
      by_cases c19 : t116 = 0
      · rw [if_pos c19] at H
        have c19b0 : (t116 == 0) = true := beq_iff_eq.mpr c19
        have c19b1 : (t116 != 0) = false := bne_eq_false_iff_eq.mpr c19
        clear c19
        (first | rw [c19b0] | (simp only [i64_w, i32_w]; rw [c19b0]) | skip)
        by_cases c20 : t118 = 0
        · rw [if_pos c20] at H
          have c20b0 : (t118 == 0) = true := beq_iff_eq.mpr c20
          have c20b1 : (t118 != 0) = false := bne_eq_false_iff_eq.mpr c20
          clear c20
          have H' := Aside0.mk H
          clear H
          go_wp2
          go_meet
          case rel => exact ⟨_, ((t120 != 0)), (by first | rfl | (simp; done) | (simp [*]; done)), H', ⟨by first | omega | exact Nat.le_refl _⟩, ⟨by repeat (first | (with_reducible first | exact HB.out | apply below_alloc | apply pw_below_drewN | apply below_drew1) | exact HB.out)⟩⟩
        · rw [if_neg c20] at H
          have c20b0 : (t118 == 0) = false := beq_eq_false_iff_ne.mpr c20
          have c20b1 : (t118 != 0) = true := bne_iff_ne.mpr c20
          have H' := Aside0.mk H
          clear H
          go_wp2
          go_meet
          case rel => exact ⟨_, (true), (by first | rfl | (simp; done) | (simp [*]; done)), H', ⟨by first | omega | exact Nat.le_refl _⟩, ⟨by repeat (first | (with_reducible first | exact HB.out | apply below_alloc | apply pw_below_drewN | apply below_drew1) | exact HB.out)⟩⟩
      · rw [if_neg c19] at H
        have c19b0 : (t116 == 0) = false := beq_eq_false_iff_ne.mpr c19
        have c19b1 : (t116 != 0) = true := bne_iff_ne.mpr c19
        (first | rw [c19b0] | (simp only [i64_w, i32_w]; rw [c19b0]) | skip)
        have H' := Aside0.mk H
        clear H
        go_wp2
        go_meet
        case rel => exact ⟨_, (true), (by first | rfl | (simp; done) | (simp [*]; done)), H', ⟨by first | omega | exact Nat.le_refl _⟩, ⟨by repeat (first | (with_reducible first | exact HB.out | apply below_alloc | apply pw_below_drewN | apply below_drew1) | exact HB.out)⟩⟩
    case rest =>
      clear HC12
      try clear c1
      try clear c2
      try clear p2
      try clear c4
      try clear c6
      try clear c19
      try clear c19b0
      try clear c19b1
      try clear c20
      try clear c20b0
      try clear c20b1
      obtain ⟨kq, x56_11, rfl, HA, HJ11, HB⟩ := hcut
      cases kq with
      | zero => exact absurd HA.out (by simp [pylonlaw02_PhasorPowers.j0])
      | succ kj11 =>
        have H := HA.out
        clear HA
        simp only [pylonlaw02_PhasorPowers.j0] at H
        by_cases c21 : x56_11 = true
        · subst c21
          have H1 : (some false) = some r := by rw [if_pos rfl] at H; exact H
          clear H
          have H := H1
          clear H1
          obtain rfl := Option.some.inj H
          go_wp2
          go_ret
          exact ⟨by first | rfl | (simp [errW_none, errW_some] <;> rfl) | (simp [*, errW_none, errW_some] <;> rfl), by repeat (first | (with_reducible first | exact HB.out | apply below_alloc | apply pw_below_drewN | apply below_drew1) | exact HB.out)⟩
        · replace c21 := Bool.eq_false_iff.mpr c21
          subst c21
          have H1 : ((pylonlaw02_square.f t115).bind fun t121 => ((pylonlaw02_square.f t113).bind fun t122 => ((pylonlaw02_square.f t114).bind fun t123 => (if fmulok t122 t123 = true then (if feq t121 (fmul t122 t123) = true then (if ceq t115.re t115.im t117.re (fneg t117.im) = true then ((pylonlaw02_square.f t113).bind fun t124 => (some (ceq t119.re t119.im t124 0))) else (some false)) else (some false)) else (none))))) = some r := by rw [if_neg (show ¬ (false = true) by decide)] at H; exact H
          clear H
          have H := H1
          clear H1
          replace H := Option.bind_eq_some_iff.mp H
          obtain ⟨t121, A220, H⟩ := H
          replace H : ((pylonlaw02_square.f t113).bind fun t122 => ((pylonlaw02_square.f t114).bind fun t123 => (if fmulok t122 t123 = true then (if feq t121 (fmul t122 t123) = true then (if ceq t115.re t115.im t117.re (fneg t117.im) = true then ((pylonlaw02_square.f t113).bind fun t124 => (some (ceq t119.re t119.im t124 0))) else (some false)) else (some false)) else (none)))) = some r := H
          have A22 := Aside0.mk A220
          clear A220
          replace H := Option.bind_eq_some_iff.mp H
          obtain ⟨t122, A230, H⟩ := H
          replace H : ((pylonlaw02_square.f t114).bind fun t123 => (if fmulok t122 t123 = true then (if feq t121 (fmul t122 t123) = true then (if ceq t115.re t115.im t117.re (fneg t117.im) = true then ((pylonlaw02_square.f t113).bind fun t124 => (some (ceq t119.re t119.im t124 0))) else (some false)) else (some false)) else (none))) = some r := H
          have A23 := Aside0.mk A230
          clear A230
          replace H := Option.bind_eq_some_iff.mp H
          obtain ⟨t123, A240, H⟩ := H
          replace H : (if fmulok t122 t123 = true then (if feq t121 (fmul t122 t123) = true then (if ceq t115.re t115.im t117.re (fneg t117.im) = true then ((pylonlaw02_square.f t113).bind fun t124 => (some (ceq t119.re t119.im t124 0))) else (some false)) else (some false)) else (none)) = some r := H
          have A24 := Aside0.mk A240
          clear A240
          by_cases c25 : fmulok t122 t123 = true
          · rw [if_pos c25] at H
            have c25b0 := eq_true c25
            have c25b1 : decide (fmulok t122 t123 = true) = true := decide_eq_true c25
            clear c25
            by_cases c26 : feq t121 (fmul t122 t123) = true
            · rw [if_pos c26] at H
              have c26b0 : feq t121 (fmul t122 t123) = true := c26
              clear c26
              by_cases c27 : ceq t115.re t115.im t117.re (fneg t117.im) = true
              · rw [if_pos c27] at H
                have c27b0 : ceq t115.re t115.im t117.re (fneg t117.im) = true := c27
                clear c27
                replace H := Option.bind_eq_some_iff.mp H
                obtain ⟨t124, A280, H⟩ := H
                replace H : (some (ceq t119.re t119.im t124 0)) = some r := H
                have A28 := Aside0.mk A280
                clear A280
                obtain rfl := Option.some.inj H
                go_wp2_with (first | ((with_reducible refine gate_callee (f := 27) rfl ?_); refine goesL_ (some 58) rfl rfl Try.func27 (by kernel_rfl) rfl #[.complex .f64 t115.re t115.im] rfl (by (try simp only [List.map_toArray, List.map_cons, List.map_nil]); first | done | rfl | (simp only [List.length_drop, List.length_take]; rfl)) ?_; (with_reducible refine (pylonlaw02_square.calls t115 t121 _ A22.out).mono ?_); rintro e w29 ⟨rfl, hb⟩; refine ⟨_, rfl, ?_⟩; have n0_ := Aside0.mk (below_step (by repeat (first | (with_reducible first | exact HB.out | apply below_alloc | apply pw_below_drewN | apply below_drew1) | exact HB.out)) hb); clear HB; have HB := n0_; clear n0_; (try clear hb); (try clear hb2); (try clear hk); (try clear hi)) | ((with_reducible refine gate_callee (f := 27) rfl ?_); refine goesL_ (some 60) rfl rfl Try.func27 (by kernel_rfl) rfl #[.complex .f64 t113.re t113.im] rfl (by (try simp only [List.map_toArray, List.map_cons, List.map_nil]); first | done | rfl | (simp only [List.length_drop, List.length_take]; rfl)) ?_; (with_reducible refine (pylonlaw02_square.calls t113 t122 _ A23.out).mono ?_); rintro e w30 ⟨rfl, hb⟩; refine ⟨_, rfl, ?_⟩; have n0_ := Aside0.mk (below_step (by repeat (first | (with_reducible first | exact HB.out | apply below_alloc | apply pw_below_drewN | apply below_drew1) | exact HB.out)) hb); clear HB; have HB := n0_; clear n0_; (try clear hb); (try clear hb2); (try clear hk); (try clear hi)) | ((with_reducible refine gate_callee (f := 27) rfl ?_); refine goesL_ (some 62) rfl rfl Try.func27 (by kernel_rfl) rfl #[.complex .f64 t114.re t114.im] rfl (by (try simp only [List.map_toArray, List.map_cons, List.map_nil]); first | done | rfl | (simp only [List.length_drop, List.length_take]; rfl)) ?_; (with_reducible refine (pylonlaw02_square.calls t114 t123 _ A24.out).mono ?_); rintro e w31 ⟨rfl, hb⟩; refine ⟨_, rfl, ?_⟩; have n0_ := Aside0.mk (below_step (by repeat (first | (with_reducible first | exact HB.out | apply below_alloc | apply pw_below_drewN | apply below_drew1) | exact HB.out)) hb); clear HB; have HB := n0_; clear n0_; (try clear hb); (try clear hb2); (try clear hk); (try clear hi)) | (go_at_call 27; (with_reducible refine (pylonlaw02_square.calls t113 t124 _ A28.out).mono ?_); rintro e w32 ⟨rfl, hb⟩; have n0_ := Aside0.mk (below_step (by repeat (first | (with_reducible first | exact HB.out | apply below_alloc | apply pw_below_drewN | apply below_drew1) | exact HB.out)) hb); clear HB; have HB := n0_; clear n0_; (try clear hb); (try clear hb2); (try clear hk); (try clear hi)))
                go_ret
                exact ⟨by first | rfl | (simp [errW_none, errW_some] <;> rfl) | (simp [*, errW_none, errW_some] <;> rfl), by repeat (first | (with_reducible first | exact HB.out | apply below_alloc | apply pw_below_drewN | apply below_drew1) | exact HB.out)⟩
              · rw [if_neg c27] at H
                have c27b0 : ceq t115.re t115.im t117.re (fneg t117.im) = false := Bool.eq_false_iff.mpr c27
                clear c27
                obtain rfl := Option.some.inj H
                go_wp2_with (first | ((with_reducible refine gate_callee (f := 27) rfl ?_); refine goesL_ (some 58) rfl rfl Try.func27 (by kernel_rfl) rfl #[.complex .f64 t115.re t115.im] rfl (by (try simp only [List.map_toArray, List.map_cons, List.map_nil]); first | done | rfl | (simp only [List.length_drop, List.length_take]; rfl)) ?_; (with_reducible refine (pylonlaw02_square.calls t115 t121 _ A22.out).mono ?_); rintro e w33 ⟨rfl, hb⟩; refine ⟨_, rfl, ?_⟩; have n0_ := Aside0.mk (below_step (by repeat (first | (with_reducible first | exact HB.out | apply below_alloc | apply pw_below_drewN | apply below_drew1) | exact HB.out)) hb); clear HB; have HB := n0_; clear n0_; (try clear hb); (try clear hb2); (try clear hk); (try clear hi)) | ((with_reducible refine gate_callee (f := 27) rfl ?_); refine goesL_ (some 60) rfl rfl Try.func27 (by kernel_rfl) rfl #[.complex .f64 t113.re t113.im] rfl (by (try simp only [List.map_toArray, List.map_cons, List.map_nil]); first | done | rfl | (simp only [List.length_drop, List.length_take]; rfl)) ?_; (with_reducible refine (pylonlaw02_square.calls t113 t122 _ A23.out).mono ?_); rintro e w34 ⟨rfl, hb⟩; refine ⟨_, rfl, ?_⟩; have n0_ := Aside0.mk (below_step (by repeat (first | (with_reducible first | exact HB.out | apply below_alloc | apply pw_below_drewN | apply below_drew1) | exact HB.out)) hb); clear HB; have HB := n0_; clear n0_; (try clear hb); (try clear hb2); (try clear hk); (try clear hi)) | ((with_reducible refine gate_callee (f := 27) rfl ?_); refine goesL_ (some 62) rfl rfl Try.func27 (by kernel_rfl) rfl #[.complex .f64 t114.re t114.im] rfl (by (try simp only [List.map_toArray, List.map_cons, List.map_nil]); first | done | rfl | (simp only [List.length_drop, List.length_take]; rfl)) ?_; (with_reducible refine (pylonlaw02_square.calls t114 t123 _ A24.out).mono ?_); rintro e w35 ⟨rfl, hb⟩; refine ⟨_, rfl, ?_⟩; have n0_ := Aside0.mk (below_step (by repeat (first | (with_reducible first | exact HB.out | apply below_alloc | apply pw_below_drewN | apply below_drew1) | exact HB.out)) hb); clear HB; have HB := n0_; clear n0_; (try clear hb); (try clear hb2); (try clear hk); (try clear hi)))
                go_ret
                exact ⟨by first | rfl | (simp [errW_none, errW_some] <;> rfl) | (simp [*, errW_none, errW_some] <;> rfl), by repeat (first | (with_reducible first | exact HB.out | apply below_alloc | apply pw_below_drewN | apply below_drew1) | exact HB.out)⟩
            · rw [if_neg c26] at H
              have c26b0 : feq t121 (fmul t122 t123) = false := Bool.eq_false_iff.mpr c26
              clear c26
              obtain rfl := Option.some.inj H
              go_wp2_with (first | ((with_reducible refine gate_callee (f := 27) rfl ?_); refine goesL_ (some 58) rfl rfl Try.func27 (by kernel_rfl) rfl #[.complex .f64 t115.re t115.im] rfl (by (try simp only [List.map_toArray, List.map_cons, List.map_nil]); first | done | rfl | (simp only [List.length_drop, List.length_take]; rfl)) ?_; (with_reducible refine (pylonlaw02_square.calls t115 t121 _ A22.out).mono ?_); rintro e w36 ⟨rfl, hb⟩; refine ⟨_, rfl, ?_⟩; have n0_ := Aside0.mk (below_step (by repeat (first | (with_reducible first | exact HB.out | apply below_alloc | apply pw_below_drewN | apply below_drew1) | exact HB.out)) hb); clear HB; have HB := n0_; clear n0_; (try clear hb); (try clear hb2); (try clear hk); (try clear hi)) | ((with_reducible refine gate_callee (f := 27) rfl ?_); refine goesL_ (some 60) rfl rfl Try.func27 (by kernel_rfl) rfl #[.complex .f64 t113.re t113.im] rfl (by (try simp only [List.map_toArray, List.map_cons, List.map_nil]); first | done | rfl | (simp only [List.length_drop, List.length_take]; rfl)) ?_; (with_reducible refine (pylonlaw02_square.calls t113 t122 _ A23.out).mono ?_); rintro e w37 ⟨rfl, hb⟩; refine ⟨_, rfl, ?_⟩; have n0_ := Aside0.mk (below_step (by repeat (first | (with_reducible first | exact HB.out | apply below_alloc | apply pw_below_drewN | apply below_drew1) | exact HB.out)) hb); clear HB; have HB := n0_; clear n0_; (try clear hb); (try clear hb2); (try clear hk); (try clear hi)) | ((with_reducible refine gate_callee (f := 27) rfl ?_); refine goesL_ (some 62) rfl rfl Try.func27 (by kernel_rfl) rfl #[.complex .f64 t114.re t114.im] rfl (by (try simp only [List.map_toArray, List.map_cons, List.map_nil]); first | done | rfl | (simp only [List.length_drop, List.length_take]; rfl)) ?_; (with_reducible refine (pylonlaw02_square.calls t114 t123 _ A24.out).mono ?_); rintro e w38 ⟨rfl, hb⟩; refine ⟨_, rfl, ?_⟩; have n0_ := Aside0.mk (below_step (by repeat (first | (with_reducible first | exact HB.out | apply below_alloc | apply pw_below_drewN | apply below_drew1) | exact HB.out)) hb); clear HB; have HB := n0_; clear n0_; (try clear hb); (try clear hb2); (try clear hk); (try clear hi)))
              go_ret
              exact ⟨by first | rfl | (simp [errW_none, errW_some] <;> rfl) | (simp [*, errW_none, errW_some] <;> rfl), by repeat (first | (with_reducible first | exact HB.out | apply below_alloc | apply pw_below_drewN | apply below_drew1) | exact HB.out)⟩
          · rw [if_neg c25] at H
            exact absurd H (by simp)
  · replace c6 := Bool.eq_false_iff.mpr c6
    subst c6
    have H1 : (some false) = some r := by rw [if_neg (show ¬ (false = true) by decide)] at H; exact H
    clear H
    have H := H1
    clear H1
    obtain rfl := Option.some.inj H
    go_enter Try.func4, Try.ntmps4
    go_wp2_with (first | ((with_reducible refine gate_callee (f := 24) rfl ?_); refine goesL_ (some 17) rfl rfl Try.func24 (by kernel_rfl) rfl #[] rfl (by (try simp only [List.map_toArray, List.map_cons, List.map_nil]); first | done | rfl | (simp only [List.length_drop, List.length_take]; rfl)) ?_; (with_reducible refine (pylonlaw02_awake.calls  false _ A5.out).mono ?_); rintro e w39 ⟨rfl, hb⟩; refine ⟨_, rfl, ?_⟩; have n0_ := Aside0.mk (below_step (by repeat (first | (with_reducible first | exact HB.out | apply below_alloc | apply pw_below_drewN | apply below_drew1) | exact HB.out)) hb); clear HB; have HB := n0_; clear n0_; (try clear hb); (try clear hb2); (try clear hk); (try clear hi)))
    go_ret
    exact ⟨by first | rfl | (simp [errW_none, errW_some] <;> rfl) | (simp [*, errW_none, errW_some] <;> rfl), by repeat (first | (with_reducible first | exact HB.out | apply below_alloc | apply pw_below_drewN | apply below_drew1) | exact HB.out)⟩

/-- THE ONE PURE STATEMENT of pylonlaw02_PhasorPowers: yours. -/
def pylonlaw02_PhasorPowers.Pure : Prop := ∀ (a0 : Int) (a1 : Int) (a2 : Int) (a3 : Int), (Lit.int .i16 a0).wf = true → (Lit.int .i16 a1).wf = true → (Lit.int .i16 a2).wf = true → (Lit.int .i16 a3).wf = true → ∃ k, pylonlaw02_PhasorPowers.f k a0 a1 a2 a3 = some true
theorem pylonlaw02_PhasorPowers.walk (P : pylonlaw02_PhasorPowers.Pure) (a0 : Int) (a1 : Int) (a2 : Int) (a3 : Int) (w : World) (w0 : (Lit.int .i16 a0).wf = true) (w1 : (Lit.int .i16 a1).wf = true) (w2 : (Lit.int .i16 a2).wf = true) (w3 : (Lit.int .i16 a3).wf = true) :
    Calls Try.prog 4 #[.int .i16 a0, .int .i16 a1, .int .i16 a2, .int .i16 a3] w fun e w' => e = .returned (.bool true) ∧ Below w.heap.size w w' := by
  obtain ⟨k, h⟩ := P a0 a1 a2 a3 w0 w1 w2 w3
  refine (pylonlaw02_PhasorPowers.calls k a0 a1 a2 a3 true w h).mono ?_
  rintro e w' ⟨rfl, hd⟩
  exact ⟨rfl, hd⟩

/-! ### pylonlaw02_Z_c: function 63 -/
def pylonlaw02_Z_c.f (a0_0 : Nat) (a0_1 : Nat) : Option (Cx) := some (cx a0_0 a0_1)
set_option maxHeartbeats 8000000 in
set_option maxRecDepth 100000 in
theorem pylonlaw02_Z_c.calls (a0_0 : Nat) (a0_1 : Nat) (r : Cx) (w : World) (h : pylonlaw02_Z_c.f a0_0 a0_1 = some r) :
    Calls Try.prog 63 #[.agg #[.float .f64 a0_0, .float .f64 a0_1]] w fun e w' => e = .returned (.complex .f64 r.re r.im) ∧ Below w.heap.size w w' := by
  have hu105 := Try.underlying105
  have HB := Aside0.mk (Below.refl w.heap.size w)
  have H : (some (cx a0_0 a0_1)) = some r := h
  clear h
  obtain rfl := Option.some.inj H
  go_enter Try.func63, Try.ntmps63
  go_wp2_with (first | ((with_reducible refine gate_dst (N := 1) rfl ?_); refine box_event ?hg (N := 1) ?hd (cs := #[.float .f64 a0_0, .float .f64 a0_1]) (t := 105) ?hr ?_; (case hd => rfl); (case hg => rfl); (case hr => first | (go_simp; done) | (go_simp; rfl)); intro gb125 hg w2 hbox hb; have n0_ := Aside0.mk (below_step (by repeat (first | (with_reducible first | exact HB.out | apply below_alloc | apply pw_below_drewN | apply below_drew1) | exact HB.out)) hb); have n1_ := Aside0.mk (hbox); have n2_ := Aside0.mk ((by rw [hg]; exact (below_size (by repeat (first | (with_reducible first | exact HB.out | apply below_alloc | apply pw_below_drewN | apply below_drew1) | exact HB.out))) : w.heap.size ≤ gb125)); have n3_ := Aside0.mk ((by rw [hg]; exact (below_size (by repeat (first | (with_reducible first | exact HB.out | apply below_alloc | apply pw_below_drewN | apply below_drew1) | exact HB.out))) : w.heap.size ≤ gb125)); clear HB; have HB := n0_; have BK125 := n1_; have GW125 := n2_; have GE125 := n3_; clear n0_ n1_ n2_ n3_; clear hb hbox hg; have hcz3_0 : w2.cell? ⟨gb125, 0, none⟩ = some (.float .f64 a0_0) := (blk_cell BK125.out 0).trans rfl; have hcz3_1 : w2.cell? ⟨gb125, 1, none⟩ = some (.float .f64 a0_1) := (blk_cell BK125.out 1).trans rfl; have hfz3_0 := blk_frozen BK125.out 0; have hfz3_1 := blk_frozen BK125.out 1))
  go_ret
  exact ⟨by first | rfl | (simp [errW_none, errW_some] <;> rfl) | (simp [*, errW_none, errW_some] <;> rfl), by repeat (first | (with_reducible first | exact HB.out | apply below_alloc | apply pw_below_drewN | apply below_drew1 | refine below_set ?_ GE125.out) | exact HB.out)⟩

/-! ### pylonlaw02_numbers: function 32 -/
def pylonlaw02_numbers.l0 : Nat → List (S105) → List Cx → Int → Int → Option (List Cx)
  | 0, _, _, _, _ => none
  | k + 1, x0, x3, x9, x10 => if x10 < x9 then (if 0 ≤ x10 then (if x10 < (x0.length : Int) then ((pylonlaw02_Z_c.f ((rd_T105 x0 x10).f0) ((rd_T105 x0 x10).f1)).bind fun t130 => (if x10 < (x3.length : Int) then (pylonlaw02_numbers.l0 k x0 (x3.set (x10 : Int).toNat t130) x9 (wrap64 (x10 + 1))) else (none))) else (none)) else (none)) else (some x3)
def pylonlaw02_numbers.f (k : Nat) (l0 : List (S105)) : Option (List Cx) := if 0 ≤ (l0.length : Int) then (if ((l0.length : Int) : Int).toNat ≤ 17592186044416 then (pylonlaw02_numbers.l0 k l0 (List.replicate ((l0.length : Int) : Int).toNat (cx 0 0)) (l0.length : Int) 0) else (none)) else (none)
theorem pylonlaw02_numbers.mono_l : ∀ k, (∀ y0 y1 y2 y3, LeO (pylonlaw02_numbers.l0 k y0 y1 y2 y3) (pylonlaw02_numbers.l0 (k + 1) y0 y1 y2 y3))
  | 0 => fun _ _ _ _ r h => by simp [pylonlaw02_numbers.l0] at h
  | k + 1 => by
    have ih0 := pylonlaw02_numbers.mono_l k
    · intro y0 y1 y2 y3
      unfold pylonlaw02_numbers.l0
      repeat' first
      | (with_reducible exact ih0 _ _ _ _)
      | (with_reducible exact LeO.refl _)
      | (with_reducible exact LeO.none _)
      | (with_reducible refine LeO.ite ?_ ?_)
      | (with_reducible refine LeO.bind ?_ (fun _ => ?_))
      | exact ih0 _ _ _ _
      | exact LeO.none _
      | refine LeO.ite ?_ ?_
      | refine LeO.bind ?_ (fun _ => ?_)
theorem pylonlaw02_numbers.mono : ∀ a0 k, LeO (pylonlaw02_numbers.f k a0) (pylonlaw02_numbers.f (k + 1) a0) := by
  intro a0 k
  have ih0 := pylonlaw02_numbers.mono_l k
  unfold pylonlaw02_numbers.f
  repeat' first
      | (with_reducible exact ih0 _ _ _ _)
      | (with_reducible exact LeO.refl _)
      | (with_reducible exact LeO.none _)
      | (with_reducible refine LeO.ite ?_ ?_)
      | (with_reducible refine LeO.bind ?_ (fun _ => ?_))
      | exact ih0 _ _ _ _
      | exact LeO.none _
      | refine LeO.ite ?_ ?_
      | refine LeO.bind ?_ (fun _ => ?_)
set_option maxHeartbeats 8000000 in
set_option maxRecDepth 100000 in
theorem pylonlaw02_numbers.calls (k : Nat) (A0 : Option Addr) (c0 : Nat) (l0 : List (S105)) (r : List Cx) (w : World) (hr0 : Kd.C k105 w A0 l0.length l0) (hc0 : l0.length ≤ c0) (h : pylonlaw02_numbers.f k l0 = some r) :
    Calls Try.prog 32 #[.slice A0 l0.length c0] w fun e w' => ∃ v0_ : Value, e = .returned (v0_) ∧ Kd.R Kd.c128 31 w' w.heap.size (fun _ => True) v0_ r ∧ Below w.heap.size w w' := by
  have hu105 := Try.underlying105
  have HR0 := Aside0.mk hr0
  have HC0 := Aside0.mk hc0
  clear hr0 hc0
  have HB := Aside0.mk (Below.refl w.heap.size w)
  have H : (if 0 ≤ (l0.length : Int) then (if ((l0.length : Int) : Int).toNat ≤ 17592186044416 then (pylonlaw02_numbers.l0 k l0 (List.replicate ((l0.length : Int) : Int).toNat (cx 0 0)) (l0.length : Int) 0) else (none)) else (none)) = some r := h
  clear h
  by_cases c2 : 0 ≤ (l0.length : Int)
  · rw [if_pos c2] at H
    have c2b0 := eq_true c2
    have c2b1 : decide (0 ≤ (l0.length : Int)) = true := decide_eq_true c2
    clear c2
    by_cases c3 : ((l0.length : Int) : Int).toNat ≤ 17592186044416
    · rw [if_pos c3] at H
      have c3b0 := eq_true c3
      have c3b1 : decide (((l0.length : Int) : Int).toNat ≤ 17592186044416) = true := decide_eq_true c3
      clear c3
      obtain ⟨y126, hy126⟩ : ∃ y_ : List Cx, y_ = (List.replicate ((l0.length : Int) : Int).toNat (cx 0 0)) := ⟨_, rfl⟩
      replace H : (pylonlaw02_numbers.l0 k l0 y126 (l0.length : Int) 0) = some r := by first | (rw [hy126]; with_reducible exact H) | (have H2_ := (Option.bind_some _ _).symm.trans H; rw [hy126]; with_reducible exact H2_) | (have H2_ := (Option.bind_some _ _).symm.trans H; with_reducible exact H2_) | with_reducible exact H | (rw [hy126]; exact H) | exact H
      have Ny126 := Aside0.mk hy126
      clear hy126
      have H' := Aside0.mk H
      clear H
      go_enter Try.func32, Try.ntmps32
      go_wp2_with (first | ((with_reducible refine gate_dst (N := 7) rfl ?_); refine Kd.R_make Kd.c128 _ 31 rfl (N := 7) rfl 26 _ _ rfl (l0.length : Int) rfl rfl Try.underlying26 (.complex .f64 0 0) 16 info31 rfl (by decide) (by omega) (cx 0 0) (ok := fun _ => True) (okp := fun _ => True) rfl (fun _ hk => hk) trivial (of_decide_eq_true (by first | (with_reducible assumption) | assumption)) (Nat.le_trans (Nat.mul_le_mul_right _ (of_decide_eq_true (by first | (with_reducible assumption) | assumption) : (l0.length : Int).toNat ≤ 17592186044416)) (by omega)) (Below.refl _ _) (Nat.le_refl _) ?_; intro v127 w4 ho5 hb hg_ hnew_; clear hg_ hnew_; (first | rw [← Ny126.out] at ho5 | (simp only [Int.reduceToNat] at ho5; rw [← Ny126.out] at ho5)); have n0_ := Aside0.mk (Kd.R_lower ho5 (below_size (by repeat (first | (with_reducible first | exact HB.out | apply below_alloc | apply pw_below_drewN | apply below_drew1) | exact HB.out)))); have n1_ := Aside0.mk (below_step (by repeat (first | (with_reducible first | exact HB.out | apply below_alloc | apply pw_below_drewN | apply below_drew1) | exact HB.out)) hb); clear HB; have HO128 := n0_; have HB := n1_; clear n0_ n1_; clear hb ho5))
      go_loopg [10] k (fun kq v10 w' => ∃ (x3_1 : List Cx) (x10_1 : Int), v10 = .int .i64 x10_1 ∧ Aside0 (pylonlaw02_numbers.l0 kq l0 x3_1 (l0.length : Int) x10_1 = some r) ∧ Aside0 (kq ≤ k) ∧ Aside0 (Kd.R Kd.c128 31 w' w.heap.size (fun _ => True) v127 x3_1) ∧ Aside0 (Below w.heap.size w w'))
      case atStart => exact ⟨(y126), (0), (by first | rfl | (simp; done) | (simp [*]; done)), H', ⟨Nat.le_refl _⟩, ⟨by (with_reducible repeat (first | apply Kd.R_alloc | apply Kd.R_drewN | apply Kd.R_drew)); exact HO128.out⟩, ⟨by repeat (first | (with_reducible first | exact HB.out | apply below_alloc | apply pw_below_drewN | apply below_drew1) | exact HB.out)⟩⟩
      case round =>
        clear H'
        try clear c1
        try clear c2
        try clear c2b0
        try clear c2b1
        try clear p2
        try clear c3
        try clear c3b0
        try clear c3b1
        obtain ⟨x3_1, x10_1, rfl, HA, HK1, HO_3, HB⟩ := hrel
        cases gk with
        | zero => exact absurd HA.out (by simp [pylonlaw02_numbers.l0])
        | succ k1 =>
          have H := HA.out
          clear HA
          simp only [pylonlaw02_numbers.l0] at H
          by_cases c6 : x10_1 < (l0.length : Int)
          · rw [if_pos c6] at H
            have c6b0 : decide (x10_1 < (l0.length : Int)) = true := decide_eq_true c6
            clear c6
            by_cases c7 : 0 ≤ x10_1
            · rw [if_pos c7] at H
              have c7b0 : decide (0 ≤ x10_1) = true := decide_eq_true c7
              clear c7
              by_cases c8 : x10_1 < (l0.length : Int)
              · rw [if_pos c8] at H
                have c8b0 : decide (x10_1 < (l0.length : Int)) = true := decide_eq_true c8
                clear c8
                replace H := Option.bind_eq_some_iff.mp H
                obtain ⟨t130, A90, H⟩ := H
                replace H : (if x10_1 < (x3_1.length : Int) then (pylonlaw02_numbers.l0 k1 l0 (x3_1.set (x10_1 : Int).toNat t130) (l0.length : Int) (wrap64 (x10_1 + 1))) else (none)) = some r := H
                have A9 := Aside0.mk A90
                clear A90
                by_cases c10 : x10_1 < (x3_1.length : Int)
                · rw [if_pos c10] at H
                  have c10b0 : decide (x10_1 < (x3_1.length : Int)) = true := decide_eq_true c10
                  clear c10
                  obtain ⟨y131, hy131⟩ : ∃ y_ : List Cx, y_ = (x3_1.set (x10_1 : Int).toNat t130) := ⟨_, rfl⟩
                  replace H : (pylonlaw02_numbers.l0 k1 l0 y131 (l0.length : Int) (wrap64 (x10_1 + 1))) = some r := by first | (rw [hy131]; with_reducible exact H) | (have H2_ := (Option.bind_some _ _).symm.trans H; rw [hy131]; with_reducible exact H2_) | (have H2_ := (Option.bind_some _ _).symm.trans H; with_reducible exact H2_) | with_reducible exact H | (rw [hy131]; exact H) | exact H
                  have Ny131 := Aside0.mk hy131
                  clear hy131
                  have H' := Aside0.mk H
                  clear H
                  have p129 : 0 ≤ (x10_1 : Int) := of_decide_eq_true (by first | (with_reducible assumption) | assumption)
                  have q129 : x10_1 < (l0.length : Int) := of_decide_eq_true (by first | (with_reducible assumption) | assumption)
                  obtain ⟨ad129, e129, hx129_0, hx129_1⟩ := at_T105 HR0.out x10_1 p129 q129
                  cases e129
                  replace hx129_0 := (HB.out.cell (World.block_lt_of_cell? w _ hx129_0)).trans hx129_0
                  replace hx129_1 := (HB.out.cell (World.block_lt_of_cell? w _ hx129_1)).trans hx129_1
                  replace p129 := eq_true p129
                  replace q129 := eq_true q129
                  go_wp2_with (first | ((with_reducible refine gate_callee (f := 63) rfl ?_); refine goesL_ (some 19) rfl rfl Try.func63 (by kernel_rfl) rfl #[.agg #[.float .f64 ((rd_T105 l0 x10_1).f0), .float .f64 ((rd_T105 l0 x10_1).f1)]] rfl (by (try simp only [List.map_toArray, List.map_cons, List.map_nil]); first | done | rfl | (simp only [List.length_drop, List.length_take]; rfl)) ?_; (with_reducible refine (pylonlaw02_Z_c.calls ((rd_T105 l0 x10_1).f0) ((rd_T105 l0 x10_1).f1) t130 _ A9.out).mono ?_); rintro e w12 ⟨rfl, hb⟩; refine ⟨_, rfl, ?_⟩; have n0_ := Aside0.mk (Kd.R_below (by (with_reducible repeat (first | apply Kd.R_alloc | apply Kd.R_drewN | apply Kd.R_drew)); exact HO_3.out) hb); have n1_ := Aside0.mk (below_step (by repeat (first | (with_reducible first | exact HB.out | apply below_alloc | apply pw_below_drewN | apply below_drew1) | exact HB.out)) hb); clear HO_3; clear HB; have HO_3 := n0_; have HB := n1_; clear n0_ n1_; (try clear hb); (try clear hb2); (try clear hk); (try clear hi); have p11 : 0 ≤ (x10_1 : Int) := of_decide_eq_true (by first | (with_reducible assumption) | assumption); have q11 : (x10_1 : Int) < ((x3_1.length : Int) : Int) := of_decide_eq_true (by first | (with_reducible assumption) | assumption); obtain ⟨go11, co11, eo11, gb11, gl11, cl11, HG11⟩ := Kd.R_form HO_3.out (by omega); (first | cases eo11 | (injection eo11 with ea_ en_ ec_; (first | subst ea_ | (injection ea_ with ea_; subst ea_)); subst ec_; clear en_)); have GB11 := Aside0.mk gb11; have GG11 := Aside0.mk HG11; clear gb11 gl11 HG11; obtain ⟨hx11_0, hf11_0⟩ := Kd.R_celln (cx 0 0) HO_3.out (x10_1 : Int) p11 q11; replace p11 := eq_true p11; replace q11 := eq_true q11; obtain ⟨hy13_, hz13_⟩ := Kd.R_celln (cx 0 0) HO_3.out (x10_1 : Int) (of_decide_eq_true (by first | (with_reducible assumption) | assumption)) (of_decide_eq_true (by first | (with_reducible assumption) | assumption)); have HP13 := Kd.R_putg HO_3.out (x10_1 : Int) t130) | ((with_reducible refine gate_store (t := 31) (p := 20) rfl ?_); refine store_event (t := 31) (p := 20) (v := ?vo_w14) (w1 := (w12.setCell ⟨go11, (x10_1 : Int).toNat, none⟩ (.complex .f64 t130.re t130.im))) ?hg ?ho ?hn ?hr ?_; (case ho => rfl); (case hg => rfl); (case hn => rfl); (case hr => first | (go_simp; done) | (go_simp; rfl)); intro w14 hw; have hg : w12.grownBy w14 (some go11) := (by rw [hw]; exact HP13.2); have hp_ : Kd.R Kd.c128 31 w14 w.heap.size (fun _ => True) (.slice (some ⟨go11, 0, none⟩) x3_1.length co11) y131 := (by rw [hw, Ny131.out]; exact HP13.1); clear HP13; have n0_ := Aside0.mk (hp_); have n1_ := Aside0.mk ((by rw [hw]; exact below_set (HB.out) GB11.out : Below w.heap.size w w14)); clear HO_3; clear HB; have HO_3 := n0_; have HB := n1_; clear n0_ n1_; clear hg hw hp_))
                  go_roundg k1
                  case measure => have := HK1.out; omega
                  case rel => exact ⟨(y131), (wrap64 (x10_1 + 1)), (by first | rfl | (simp; done) | (simp [*]; done)), H', ⟨by have := HK1.out; omega⟩, ⟨by (with_reducible repeat (first | apply Kd.R_alloc | apply Kd.R_drewN | apply Kd.R_drew)); exact HO_3.out⟩, ⟨by repeat (first | (with_reducible first | exact HB.out | apply below_alloc | apply pw_below_drewN | apply below_drew1) | exact HB.out)⟩⟩
                · rw [if_neg c10] at H
                  exact absurd H (by simp)
              · rw [if_neg c8] at H
                exact absurd H (by simp)
            · rw [if_neg c7] at H
              exact absurd H (by simp)
          · rw [if_neg c6] at H
            have c6b0 : decide (x10_1 < (l0.length : Int)) = false := decide_eq_false c6
            clear c6
            obtain rfl := Option.some.inj H
            go_wp2
            go_ret
            exact ⟨_, by first | rfl | (simp [errW_none, errW_some] <;> rfl) | (simp [*, errW_none, errW_some] <;> rfl), by (with_reducible repeat (first | apply Kd.R_alloc | apply Kd.R_drewN | apply Kd.R_drew)); exact HO_3.out, by repeat (first | (with_reducible first | exact HB.out | apply below_alloc | apply pw_below_drewN | apply below_drew1) | exact HB.out)⟩
    · rw [if_neg c3] at H
      exact absurd H (by simp)
  · rw [if_neg c2] at H
    exact absurd H (by simp)

end Go.Proofs.Ytapimggcnneabaa.PH
