-- Written by a program of this session for this claim (wip/print2.sh). Lean checks it.
import Derived.Test.YtofedlghaopciaaGreatDoorPAx0
import Derived.Test.YtofedlghaopciaaGreatDoorPAx1
import Derived.Test.YtofedlghaopciaaGreatDoorPAx5
import Derived.Test.YtofedlghaopciaaGreatDoorPAx6
import Derived.Test.YtofedlghaopciaaGreatDoorPAx8
import Derived.Test.YtofedlghaopciaaGreatDoorPk1
namespace Go.Proofs.YtofedlghaopciaaGreatDoor.PA
open Go.Proofs.YtofedlghaopciaaGreatDoorW.PrintWords
attribute [local go_sem high] fx_eql fx_neq fx_lss fx_leq fx_gtr fx_geq fx_add fx_sub fx_mul fx_neg fx_toint cxx_add cxx_sub cxx_mul cxx_eql cxx_neq cxx_pick st_float st_complex
open Go.RowKit Go.Proofs.YtofedlghaopciaaGreatDoorW.PrintWords Go.Proofs.YtofedlghaopciaaGreatDoorW.PrintLast Go.Proofs.YtofedlghaopciaaGreatDoorW.PrintMore
attribute [local go_sem] max2_int min2_int max_two min_two max_three min_three max_four min_four   -- for this text's walks alone
set_option linter.unusedVariables false
set_option linter.unusedSimpArgs false

/-! ### phasor_Read: function 22 -/
def phasor_Read.f (k : Nat) (a0 : ByteArray) : Option (Cx × Int) := (strings_LastIndexAny.f a0 (⟨#[43, 45]⟩ : ByteArray)).bind fun t214 => (if t214 < 1 then (some (cx 0 0, 1)) else (if 0 ≤ t214 then (if t214 ≤ (a0.size : Int) then ((fix_Read.f k (a0.extract 0 (t214 : Int).toNat)).bind fun bt215 => ((strings_TrimPrefix.f (a0.extract (t214 : Int).toNat a0.size) (⟨#[43]⟩ : ByteArray)).bind fun t217 => ((strings_TrimSuffix.f t217 (⟨#[105]⟩ : ByteArray)).bind fun t218 => ((fix_Read.f k t218).bind fun bt219 => ((phasor_Of.f bt215.1 bt219.1).bind fun bt221 => ((phasor_Text.f bt221.1).bind fun bt223 => (if bt215.2 = 0 then (if bt219.2 = 0 then (if bt221.2 = 0 then (if bt223.2 = 0 then (if bt223.1.toList = a0.toList then (some (bt221.1, 0)) else (some (cx 0 0, 1))) else (some (cx 0 0, 1))) else (some (cx 0 0, 1))) else (some (cx 0 0, 1))) else (some (cx 0 0, 1))))))))) else (none)) else (none)))
theorem phasor_Read.mono : ∀ a0 k, LeO (phasor_Read.f k a0) (phasor_Read.f (k + 1) a0) := by
 intro a0 k
 unfold phasor_Read.f
 repeat' first
   | (with_reducible exact fix_Read.mono _ _)
   | (with_reducible exact LeO.refl _)
   | (with_reducible exact LeO.none _)
   | (with_reducible refine LeO.ite ?_ ?_)
   | (with_reducible refine LeO.bind ?_ (fun _ => ?_))
   | exact fix_Read.mono _ _
   | exact LeO.none _
   | refine LeO.ite ?_ ?_
   | refine LeO.bind ?_ (fun _ => ?_)
set_option maxHeartbeats 8000000 in
set_option maxRecDepth 100000 in
theorem phasor_Read.calls (k : Nat) (a0 : ByteArray) (r1 : Cx) (r2 : Int) (w : World) (hT_ : Go.Proofs.YtofedlghaopciaaGreatDoor.Hand.T3 w) (h : phasor_Read.f k a0 = some (r1, r2)) :
  Calls Tryz.prog 22 #[.string a0] w fun e w' => e = .returned (.tuple #[.complex .f64 r1.re r1.im, .int .i64 r2]) ∧ Below w.heap.size w w' := by
 have HTB := Aside0.mk hT_
 clear hT_
 have HB := Aside0.mk (Below.refl w.heap.size w)
 have H : ((strings_LastIndexAny.f a0 (⟨#[43, 45]⟩ : ByteArray)).bind fun t214 => (if t214 < 1 then (some (cx 0 0, 1)) else (if 0 ≤ t214 then (if t214 ≤ (a0.size : Int) then ((fix_Read.f k (a0.extract 0 (t214 : Int).toNat)).bind fun bt215 => ((strings_TrimPrefix.f (a0.extract (t214 : Int).toNat a0.size) (⟨#[43]⟩ : ByteArray)).bind fun t217 => ((strings_TrimSuffix.f t217 (⟨#[105]⟩ : ByteArray)).bind fun t218 => ((fix_Read.f k t218).bind fun bt219 => ((phasor_Of.f bt215.1 bt219.1).bind fun bt221 => ((phasor_Text.f bt221.1).bind fun bt223 => (if bt215.2 = 0 then (if bt219.2 = 0 then (if bt221.2 = 0 then (if bt223.2 = 0 then (if bt223.1.toList = a0.toList then (some (bt221.1, 0)) else (some (cx 0 0, 1))) else (some (cx 0 0, 1))) else (some (cx 0 0, 1))) else (some (cx 0 0, 1))) else (some (cx 0 0, 1))))))))) else (none)) else (none)))) = some (r1, r2) := h
 clear h
 replace H := Option.bind_eq_some_iff.mp H
 obtain ⟨t214, A20, H⟩ := H
 replace H : (if t214 < 1 then (some (cx 0 0, 1)) else (if 0 ≤ t214 then (if t214 ≤ (a0.size : Int) then ((fix_Read.f k (a0.extract 0 (t214 : Int).toNat)).bind fun bt215 => ((strings_TrimPrefix.f (a0.extract (t214 : Int).toNat a0.size) (⟨#[43]⟩ : ByteArray)).bind fun t217 => ((strings_TrimSuffix.f t217 (⟨#[105]⟩ : ByteArray)).bind fun t218 => ((fix_Read.f k t218).bind fun bt219 => ((phasor_Of.f bt215.1 bt219.1).bind fun bt221 => ((phasor_Text.f bt221.1).bind fun bt223 => (if bt215.2 = 0 then (if bt219.2 = 0 then (if bt221.2 = 0 then (if bt223.2 = 0 then (if bt223.1.toList = a0.toList then (some (bt221.1, 0)) else (some (cx 0 0, 1))) else (some (cx 0 0, 1))) else (some (cx 0 0, 1))) else (some (cx 0 0, 1))) else (some (cx 0 0, 1))))))))) else (none)) else (none))) = some (r1, r2) := H
 have A2 := Aside0.mk A20
 clear A20
 by_cases c3 : t214 < 1
 ·
  rw [if_pos c3] at H
  have c3b0 : decide (t214 < 1) = true := decide_eq_true c3
  clear c3
  simp only [Option.some.injEq, Prod.mk.injEq] at H
  obtain ⟨rfl, rfl⟩ := H
  go_enter Tryz.func22, Tryz.ntmps22
  go_wp2_with (first | ((with_reducible refine gate_callee (f := 42) rfl ?_); refine gL_ (some 14) Tryz.func42 #[.string a0, .string (⟨#[43, 45]⟩ : ByteArray)] ?_; (with_reducible refine (strings_LastIndexAny.calls a0 (⟨#[43, 45]⟩ : ByteArray) t214 _ ?side1 A2.out).mono ?_); (case side1 => exact Go.Proofs.YtofedlghaopciaaGreatDoor.Hand.GW.on HTB.out bl_); rintro e w4 ⟨rfl, hb⟩; refine ⟨_, rfl, ?_⟩; replace HB := Aside0.mk (bst_ hb); (try clear hb); (try clear hb2); (try clear hk); (try clear hi)))
  go_ret2
  exact fin_
 ·
  rw [if_neg c3] at H
  have c3b0 : decide (t214 < 1) = false := decide_eq_false c3
  clear c3
  by_cases c5 : 0 ≤ t214
  ·
   rw [if_pos c5] at H
   have c5b0 := eq_true c5
   have c5b1 : decide (0 ≤ t214) = true := decide_eq_true c5
   clear c5
   by_cases c6 : t214 ≤ (a0.size : Int)
   ·
    rw [if_pos c6] at H
    have c6b0 := eq_true c6
    have c6b1 : decide (t214 ≤ (a0.size : Int)) = true := decide_eq_true c6
    clear c6
    replace H := Option.bind_eq_some_iff.mp H
    obtain ⟨⟨t215, t216⟩, A70, H⟩ := H
    replace H : ((strings_TrimPrefix.f (a0.extract (t214 : Int).toNat a0.size) (⟨#[43]⟩ : ByteArray)).bind fun t217 => ((strings_TrimSuffix.f t217 (⟨#[105]⟩ : ByteArray)).bind fun t218 => ((fix_Read.f k t218).bind fun bt219 => ((phasor_Of.f t215 bt219.1).bind fun bt221 => ((phasor_Text.f bt221.1).bind fun bt223 => (if t216 = 0 then (if bt219.2 = 0 then (if bt221.2 = 0 then (if bt223.2 = 0 then (if bt223.1.toList = a0.toList then (some (bt221.1, 0)) else (some (cx 0 0, 1))) else (some (cx 0 0, 1))) else (some (cx 0 0, 1))) else (some (cx 0 0, 1))) else (some (cx 0 0, 1)))))))) = some (r1, r2) := H
    have A7 := Aside0.mk A70
    clear A70
    have c8b0 := eq_true (of_decide_eq_true (by first | (with_reducible assumption) | assumption) : 0 ≤ t214)
    have c9b0 := eq_true (of_decide_eq_true (by first | (with_reducible assumption) | assumption) : t214 ≤ (a0.size : Int))
    replace H := Option.bind_eq_some_iff.mp H
    obtain ⟨t217, A100, H⟩ := H
    replace H : ((strings_TrimSuffix.f t217 (⟨#[105]⟩ : ByteArray)).bind fun t218 => ((fix_Read.f k t218).bind fun bt219 => ((phasor_Of.f t215 bt219.1).bind fun bt221 => ((phasor_Text.f bt221.1).bind fun bt223 => (if t216 = 0 then (if bt219.2 = 0 then (if bt221.2 = 0 then (if bt223.2 = 0 then (if bt223.1.toList = a0.toList then (some (bt221.1, 0)) else (some (cx 0 0, 1))) else (some (cx 0 0, 1))) else (some (cx 0 0, 1))) else (some (cx 0 0, 1))) else (some (cx 0 0, 1))))))) = some (r1, r2) := H
    have A10 := Aside0.mk A100
    clear A100
    replace H := Option.bind_eq_some_iff.mp H
    obtain ⟨t218, A110, H⟩ := H
    replace H : ((fix_Read.f k t218).bind fun bt219 => ((phasor_Of.f t215 bt219.1).bind fun bt221 => ((phasor_Text.f bt221.1).bind fun bt223 => (if t216 = 0 then (if bt219.2 = 0 then (if bt221.2 = 0 then (if bt223.2 = 0 then (if bt223.1.toList = a0.toList then (some (bt221.1, 0)) else (some (cx 0 0, 1))) else (some (cx 0 0, 1))) else (some (cx 0 0, 1))) else (some (cx 0 0, 1))) else (some (cx 0 0, 1)))))) = some (r1, r2) := H
    have A11 := Aside0.mk A110
    clear A110
    replace H := Option.bind_eq_some_iff.mp H
    obtain ⟨⟨t219, t220⟩, A120, H⟩ := H
    replace H : ((phasor_Of.f t215 t219).bind fun bt221 => ((phasor_Text.f bt221.1).bind fun bt223 => (if t216 = 0 then (if t220 = 0 then (if bt221.2 = 0 then (if bt223.2 = 0 then (if bt223.1.toList = a0.toList then (some (bt221.1, 0)) else (some (cx 0 0, 1))) else (some (cx 0 0, 1))) else (some (cx 0 0, 1))) else (some (cx 0 0, 1))) else (some (cx 0 0, 1))))) = some (r1, r2) := H
    have A12 := Aside0.mk A120
    clear A120
    replace H := Option.bind_eq_some_iff.mp H
    obtain ⟨⟨t221, t222⟩, A130, H⟩ := H
    replace H : ((phasor_Text.f t221).bind fun bt223 => (if t216 = 0 then (if t220 = 0 then (if t222 = 0 then (if bt223.2 = 0 then (if bt223.1.toList = a0.toList then (some (t221, 0)) else (some (cx 0 0, 1))) else (some (cx 0 0, 1))) else (some (cx 0 0, 1))) else (some (cx 0 0, 1))) else (some (cx 0 0, 1)))) = some (r1, r2) := H
    have A13 := Aside0.mk A130
    clear A130
    replace H := Option.bind_eq_some_iff.mp H
    obtain ⟨⟨t223, t224⟩, A140, H⟩ := H
    replace H : (if t216 = 0 then (if t220 = 0 then (if t222 = 0 then (if t224 = 0 then (if t223.toList = a0.toList then (some (t221, 0)) else (some (cx 0 0, 1))) else (some (cx 0 0, 1))) else (some (cx 0 0, 1))) else (some (cx 0 0, 1))) else (some (cx 0 0, 1))) = some (r1, r2) := H
    have A14 := Aside0.mk A140
    clear A140
    by_cases c15 : t216 = 0
    ·
     rw [if_pos c15] at H
     obtain ⟨c15b0, c15b1⟩ := eqT_ c15
     clear c15
     by_cases c16 : t220 = 0
     ·
      rw [if_pos c16] at H
      obtain ⟨c16b0, c16b1⟩ := eqT_ c16
      clear c16
      by_cases c17 : t222 = 0
      ·
       rw [if_pos c17] at H
       obtain ⟨c17b0, c17b1⟩ := eqT_ c17
       clear c17
       by_cases c18 : t224 = 0
       ·
        rw [if_pos c18] at H
        obtain ⟨c18b0, c18b1⟩ := eqT_ c18
        clear c18
        by_cases c19 : t223.toList = a0.toList
        ·
         rw [if_pos c19] at H
         have c19b0 : (t223.toList == a0.toList) = true := beq_iff_eq.mpr c19
         have c19b1 : (t223.toList != a0.toList) = false := bne_eq_false_iff_eq.mpr c19
         clear c19
         simp only [Option.some.injEq, Prod.mk.injEq] at H
         obtain ⟨rfl, rfl⟩ := H
         go_enter Tryz.func22, Tryz.ntmps22
         go_wp2_with (first | ((with_reducible refine gate_callee (f := 42) rfl ?_); refine gL_ (some 14) Tryz.func42 #[.string a0, .string (⟨#[43, 45]⟩ : ByteArray)] ?_; (with_reducible refine (strings_LastIndexAny.calls a0 (⟨#[43, 45]⟩ : ByteArray) t214 _ ?side1 A2.out).mono ?_); (case side1 => exact Go.Proofs.YtofedlghaopciaaGreatDoor.Hand.GW.on HTB.out bl_); rintro e w20 ⟨rfl, hb⟩; refine ⟨_, rfl, ?_⟩; replace HB := Aside0.mk (bst_ hb); (try clear hb); (try clear hb2); (try clear hk); (try clear hi)) | ((with_reducible refine gate_callee (f := 43) rfl ?_); refine gL_ (some 21) Tryz.func43 #[.string (a0.extract 0 (t214 : Int).toNat)] ?_; (with_reducible refine (fix_Read.calls k (a0.extract 0 (t214 : Int).toNat) t215 t216 _ ?side1 A7.out).mono ?_); (case side1 => exact Go.Proofs.YtofedlghaopciaaGreatDoor.Hand.GW.on HTB.out bl_); rintro e w21 ⟨rfl, hb⟩; refine ⟨_, rfl, ?_⟩; replace HB := Aside0.mk (bst_ hb); (try clear hb); (try clear hb2); (try clear hk); (try clear hi)) | ((with_reducible refine gate_callee (f := 45) rfl ?_); refine gL_ (some 28) Tryz.func45 #[.string (a0.extract (t214 : Int).toNat a0.size), .string (⟨#[43]⟩ : ByteArray)] ?_; (with_reducible refine (strings_TrimPrefix.calls (a0.extract (t214 : Int).toNat a0.size) (⟨#[43]⟩ : ByteArray) t217 _ A10.out).mono ?_); rintro e w' ⟨rfl, ⟨nd, rfl⟩⟩; refine ⟨_, rfl, ?_⟩) | ((with_reducible refine gate_callee (f := 44) rfl ?_); refine gL_ (some 29) Tryz.func44 #[.string t217, .string (⟨#[105]⟩ : ByteArray)] ?_; (with_reducible refine (strings_TrimSuffix.calls t217 (⟨#[105]⟩ : ByteArray) t218 _ A11.out).mono ?_); rintro e w' ⟨rfl, ⟨nd, rfl⟩⟩; refine ⟨_, rfl, ?_⟩) | ((with_reducible refine gate_callee (f := 43) rfl ?_); refine gL_ (some 30) Tryz.func43 #[.string t218] ?_; (with_reducible refine (fix_Read.calls k t218 t219 t220 _ ?side1 A12.out).mono ?_); (case side1 => exact Go.Proofs.YtofedlghaopciaaGreatDoor.Hand.GW.on HTB.out bl_); rintro e w22 ⟨rfl, hb⟩; refine ⟨_, rfl, ?_⟩; replace HB := Aside0.mk (bst_ hb); (try clear hb); (try clear hb2); (try clear hk); (try clear hi)) | ((with_reducible refine gate_callee (f := 11) rfl ?_); refine gL_ (some 36) Tryz.func11 #[.int .i64 t215, .int .i64 t219] ?_; (with_reducible refine (phasor_Of.calls t215 t219 t221 t222 _ A13.out).mono ?_); rintro e w23 ⟨rfl, hb⟩; refine ⟨_, rfl, ?_⟩; replace HB := Aside0.mk (bst_ hb); (try clear hb); (try clear hb2); (try clear hk); (try clear hi)) | ((with_reducible refine gate_callee (f := 21) rfl ?_); refine gL_ (some 41) Tryz.func21 #[.complex .f64 t221.re t221.im] ?_; (with_reducible refine (phasor_Text.calls t221 t223 t224 _ ?side1 A14.out).mono ?_); (case side1 => exact Go.Proofs.YtofedlghaopciaaGreatDoor.Hand.GW.on HTB.out bl_); rintro e w24 ⟨rfl, hb⟩; refine ⟨_, rfl, ?_⟩; replace HB := Aside0.mk (bst_ hb); (try clear hb); (try clear hb2); (try clear hk); (try clear hi)))
         go_ret2
         exact fin_
        ·
         rw [if_neg c19] at H
         have c19b0 : (t223.toList == a0.toList) = false := beq_eq_false_iff_ne.mpr c19
         have c19b1 : (t223.toList != a0.toList) = true := bne_iff_ne.mpr c19
         simp only [Option.some.injEq, Prod.mk.injEq] at H
         obtain ⟨rfl, rfl⟩ := H
         go_enter Tryz.func22, Tryz.ntmps22
         go_wp2_with (first | ((with_reducible refine gate_callee (f := 42) rfl ?_); refine gL_ (some 14) Tryz.func42 #[.string a0, .string (⟨#[43, 45]⟩ : ByteArray)] ?_; (with_reducible refine (strings_LastIndexAny.calls a0 (⟨#[43, 45]⟩ : ByteArray) t214 _ ?side1 A2.out).mono ?_); (case side1 => exact Go.Proofs.YtofedlghaopciaaGreatDoor.Hand.GW.on HTB.out bl_); rintro e w25 ⟨rfl, hb⟩; refine ⟨_, rfl, ?_⟩; replace HB := Aside0.mk (bst_ hb); (try clear hb); (try clear hb2); (try clear hk); (try clear hi)) | ((with_reducible refine gate_callee (f := 43) rfl ?_); refine gL_ (some 21) Tryz.func43 #[.string (a0.extract 0 (t214 : Int).toNat)] ?_; (with_reducible refine (fix_Read.calls k (a0.extract 0 (t214 : Int).toNat) t215 t216 _ ?side1 A7.out).mono ?_); (case side1 => exact Go.Proofs.YtofedlghaopciaaGreatDoor.Hand.GW.on HTB.out bl_); rintro e w26 ⟨rfl, hb⟩; refine ⟨_, rfl, ?_⟩; replace HB := Aside0.mk (bst_ hb); (try clear hb); (try clear hb2); (try clear hk); (try clear hi)) | ((with_reducible refine gate_callee (f := 45) rfl ?_); refine gL_ (some 28) Tryz.func45 #[.string (a0.extract (t214 : Int).toNat a0.size), .string (⟨#[43]⟩ : ByteArray)] ?_; (with_reducible refine (strings_TrimPrefix.calls (a0.extract (t214 : Int).toNat a0.size) (⟨#[43]⟩ : ByteArray) t217 _ A10.out).mono ?_); rintro e w' ⟨rfl, ⟨nd, rfl⟩⟩; refine ⟨_, rfl, ?_⟩) | ((with_reducible refine gate_callee (f := 44) rfl ?_); refine gL_ (some 29) Tryz.func44 #[.string t217, .string (⟨#[105]⟩ : ByteArray)] ?_; (with_reducible refine (strings_TrimSuffix.calls t217 (⟨#[105]⟩ : ByteArray) t218 _ A11.out).mono ?_); rintro e w' ⟨rfl, ⟨nd, rfl⟩⟩; refine ⟨_, rfl, ?_⟩) | ((with_reducible refine gate_callee (f := 43) rfl ?_); refine gL_ (some 30) Tryz.func43 #[.string t218] ?_; (with_reducible refine (fix_Read.calls k t218 t219 t220 _ ?side1 A12.out).mono ?_); (case side1 => exact Go.Proofs.YtofedlghaopciaaGreatDoor.Hand.GW.on HTB.out bl_); rintro e w27 ⟨rfl, hb⟩; refine ⟨_, rfl, ?_⟩; replace HB := Aside0.mk (bst_ hb); (try clear hb); (try clear hb2); (try clear hk); (try clear hi)) | ((with_reducible refine gate_callee (f := 11) rfl ?_); refine gL_ (some 36) Tryz.func11 #[.int .i64 t215, .int .i64 t219] ?_; (with_reducible refine (phasor_Of.calls t215 t219 t221 t222 _ A13.out).mono ?_); rintro e w28 ⟨rfl, hb⟩; refine ⟨_, rfl, ?_⟩; replace HB := Aside0.mk (bst_ hb); (try clear hb); (try clear hb2); (try clear hk); (try clear hi)) | ((with_reducible refine gate_callee (f := 21) rfl ?_); refine gL_ (some 41) Tryz.func21 #[.complex .f64 t221.re t221.im] ?_; (with_reducible refine (phasor_Text.calls t221 t223 t224 _ ?side1 A14.out).mono ?_); (case side1 => exact Go.Proofs.YtofedlghaopciaaGreatDoor.Hand.GW.on HTB.out bl_); rintro e w29 ⟨rfl, hb⟩; refine ⟨_, rfl, ?_⟩; replace HB := Aside0.mk (bst_ hb); (try clear hb); (try clear hb2); (try clear hk); (try clear hi)))
         go_ret2
         exact fin_
       ·
        rw [if_neg c18] at H
        obtain ⟨c18b0, c18b1⟩ := eqF_ c18
        simp only [Option.some.injEq, Prod.mk.injEq] at H
        obtain ⟨rfl, rfl⟩ := H
        go_enter Tryz.func22, Tryz.ntmps22
        go_wp2_with (first | ((with_reducible refine gate_callee (f := 42) rfl ?_); refine gL_ (some 14) Tryz.func42 #[.string a0, .string (⟨#[43, 45]⟩ : ByteArray)] ?_; (with_reducible refine (strings_LastIndexAny.calls a0 (⟨#[43, 45]⟩ : ByteArray) t214 _ ?side1 A2.out).mono ?_); (case side1 => exact Go.Proofs.YtofedlghaopciaaGreatDoor.Hand.GW.on HTB.out bl_); rintro e w30 ⟨rfl, hb⟩; refine ⟨_, rfl, ?_⟩; replace HB := Aside0.mk (bst_ hb); (try clear hb); (try clear hb2); (try clear hk); (try clear hi)) | ((with_reducible refine gate_callee (f := 43) rfl ?_); refine gL_ (some 21) Tryz.func43 #[.string (a0.extract 0 (t214 : Int).toNat)] ?_; (with_reducible refine (fix_Read.calls k (a0.extract 0 (t214 : Int).toNat) t215 t216 _ ?side1 A7.out).mono ?_); (case side1 => exact Go.Proofs.YtofedlghaopciaaGreatDoor.Hand.GW.on HTB.out bl_); rintro e w31 ⟨rfl, hb⟩; refine ⟨_, rfl, ?_⟩; replace HB := Aside0.mk (bst_ hb); (try clear hb); (try clear hb2); (try clear hk); (try clear hi)) | ((with_reducible refine gate_callee (f := 45) rfl ?_); refine gL_ (some 28) Tryz.func45 #[.string (a0.extract (t214 : Int).toNat a0.size), .string (⟨#[43]⟩ : ByteArray)] ?_; (with_reducible refine (strings_TrimPrefix.calls (a0.extract (t214 : Int).toNat a0.size) (⟨#[43]⟩ : ByteArray) t217 _ A10.out).mono ?_); rintro e w' ⟨rfl, ⟨nd, rfl⟩⟩; refine ⟨_, rfl, ?_⟩) | ((with_reducible refine gate_callee (f := 44) rfl ?_); refine gL_ (some 29) Tryz.func44 #[.string t217, .string (⟨#[105]⟩ : ByteArray)] ?_; (with_reducible refine (strings_TrimSuffix.calls t217 (⟨#[105]⟩ : ByteArray) t218 _ A11.out).mono ?_); rintro e w' ⟨rfl, ⟨nd, rfl⟩⟩; refine ⟨_, rfl, ?_⟩) | ((with_reducible refine gate_callee (f := 43) rfl ?_); refine gL_ (some 30) Tryz.func43 #[.string t218] ?_; (with_reducible refine (fix_Read.calls k t218 t219 t220 _ ?side1 A12.out).mono ?_); (case side1 => exact Go.Proofs.YtofedlghaopciaaGreatDoor.Hand.GW.on HTB.out bl_); rintro e w32 ⟨rfl, hb⟩; refine ⟨_, rfl, ?_⟩; replace HB := Aside0.mk (bst_ hb); (try clear hb); (try clear hb2); (try clear hk); (try clear hi)) | ((with_reducible refine gate_callee (f := 11) rfl ?_); refine gL_ (some 36) Tryz.func11 #[.int .i64 t215, .int .i64 t219] ?_; (with_reducible refine (phasor_Of.calls t215 t219 t221 t222 _ A13.out).mono ?_); rintro e w33 ⟨rfl, hb⟩; refine ⟨_, rfl, ?_⟩; replace HB := Aside0.mk (bst_ hb); (try clear hb); (try clear hb2); (try clear hk); (try clear hi)) | ((with_reducible refine gate_callee (f := 21) rfl ?_); refine gL_ (some 41) Tryz.func21 #[.complex .f64 t221.re t221.im] ?_; (with_reducible refine (phasor_Text.calls t221 t223 t224 _ ?side1 A14.out).mono ?_); (case side1 => exact Go.Proofs.YtofedlghaopciaaGreatDoor.Hand.GW.on HTB.out bl_); rintro e w34 ⟨rfl, hb⟩; refine ⟨_, rfl, ?_⟩; replace HB := Aside0.mk (bst_ hb); (try clear hb); (try clear hb2); (try clear hk); (try clear hi)))
        go_ret2
        exact fin_
      ·
       rw [if_neg c17] at H
       obtain ⟨c17b0, c17b1⟩ := eqF_ c17
       simp only [Option.some.injEq, Prod.mk.injEq] at H
       obtain ⟨rfl, rfl⟩ := H
       go_enter Tryz.func22, Tryz.ntmps22
       go_wp2_with (first | ((with_reducible refine gate_callee (f := 42) rfl ?_); refine gL_ (some 14) Tryz.func42 #[.string a0, .string (⟨#[43, 45]⟩ : ByteArray)] ?_; (with_reducible refine (strings_LastIndexAny.calls a0 (⟨#[43, 45]⟩ : ByteArray) t214 _ ?side1 A2.out).mono ?_); (case side1 => exact Go.Proofs.YtofedlghaopciaaGreatDoor.Hand.GW.on HTB.out bl_); rintro e w35 ⟨rfl, hb⟩; refine ⟨_, rfl, ?_⟩; replace HB := Aside0.mk (bst_ hb); (try clear hb); (try clear hb2); (try clear hk); (try clear hi)) | ((with_reducible refine gate_callee (f := 43) rfl ?_); refine gL_ (some 21) Tryz.func43 #[.string (a0.extract 0 (t214 : Int).toNat)] ?_; (with_reducible refine (fix_Read.calls k (a0.extract 0 (t214 : Int).toNat) t215 t216 _ ?side1 A7.out).mono ?_); (case side1 => exact Go.Proofs.YtofedlghaopciaaGreatDoor.Hand.GW.on HTB.out bl_); rintro e w36 ⟨rfl, hb⟩; refine ⟨_, rfl, ?_⟩; replace HB := Aside0.mk (bst_ hb); (try clear hb); (try clear hb2); (try clear hk); (try clear hi)) | ((with_reducible refine gate_callee (f := 45) rfl ?_); refine gL_ (some 28) Tryz.func45 #[.string (a0.extract (t214 : Int).toNat a0.size), .string (⟨#[43]⟩ : ByteArray)] ?_; (with_reducible refine (strings_TrimPrefix.calls (a0.extract (t214 : Int).toNat a0.size) (⟨#[43]⟩ : ByteArray) t217 _ A10.out).mono ?_); rintro e w' ⟨rfl, ⟨nd, rfl⟩⟩; refine ⟨_, rfl, ?_⟩) | ((with_reducible refine gate_callee (f := 44) rfl ?_); refine gL_ (some 29) Tryz.func44 #[.string t217, .string (⟨#[105]⟩ : ByteArray)] ?_; (with_reducible refine (strings_TrimSuffix.calls t217 (⟨#[105]⟩ : ByteArray) t218 _ A11.out).mono ?_); rintro e w' ⟨rfl, ⟨nd, rfl⟩⟩; refine ⟨_, rfl, ?_⟩) | ((with_reducible refine gate_callee (f := 43) rfl ?_); refine gL_ (some 30) Tryz.func43 #[.string t218] ?_; (with_reducible refine (fix_Read.calls k t218 t219 t220 _ ?side1 A12.out).mono ?_); (case side1 => exact Go.Proofs.YtofedlghaopciaaGreatDoor.Hand.GW.on HTB.out bl_); rintro e w37 ⟨rfl, hb⟩; refine ⟨_, rfl, ?_⟩; replace HB := Aside0.mk (bst_ hb); (try clear hb); (try clear hb2); (try clear hk); (try clear hi)) | ((with_reducible refine gate_callee (f := 11) rfl ?_); refine gL_ (some 36) Tryz.func11 #[.int .i64 t215, .int .i64 t219] ?_; (with_reducible refine (phasor_Of.calls t215 t219 t221 t222 _ A13.out).mono ?_); rintro e w38 ⟨rfl, hb⟩; refine ⟨_, rfl, ?_⟩; replace HB := Aside0.mk (bst_ hb); (try clear hb); (try clear hb2); (try clear hk); (try clear hi)) | ((with_reducible refine gate_callee (f := 21) rfl ?_); refine gL_ (some 41) Tryz.func21 #[.complex .f64 t221.re t221.im] ?_; (with_reducible refine (phasor_Text.calls t221 t223 t224 _ ?side1 A14.out).mono ?_); (case side1 => exact Go.Proofs.YtofedlghaopciaaGreatDoor.Hand.GW.on HTB.out bl_); rintro e w39 ⟨rfl, hb⟩; refine ⟨_, rfl, ?_⟩; replace HB := Aside0.mk (bst_ hb); (try clear hb); (try clear hb2); (try clear hk); (try clear hi)))
       go_ret2
       exact fin_
     ·
      rw [if_neg c16] at H
      obtain ⟨c16b0, c16b1⟩ := eqF_ c16
      simp only [Option.some.injEq, Prod.mk.injEq] at H
      obtain ⟨rfl, rfl⟩ := H
      go_enter Tryz.func22, Tryz.ntmps22
      go_wp2_with (first | ((with_reducible refine gate_callee (f := 42) rfl ?_); refine gL_ (some 14) Tryz.func42 #[.string a0, .string (⟨#[43, 45]⟩ : ByteArray)] ?_; (with_reducible refine (strings_LastIndexAny.calls a0 (⟨#[43, 45]⟩ : ByteArray) t214 _ ?side1 A2.out).mono ?_); (case side1 => exact Go.Proofs.YtofedlghaopciaaGreatDoor.Hand.GW.on HTB.out bl_); rintro e w40 ⟨rfl, hb⟩; refine ⟨_, rfl, ?_⟩; replace HB := Aside0.mk (bst_ hb); (try clear hb); (try clear hb2); (try clear hk); (try clear hi)) | ((with_reducible refine gate_callee (f := 43) rfl ?_); refine gL_ (some 21) Tryz.func43 #[.string (a0.extract 0 (t214 : Int).toNat)] ?_; (with_reducible refine (fix_Read.calls k (a0.extract 0 (t214 : Int).toNat) t215 t216 _ ?side1 A7.out).mono ?_); (case side1 => exact Go.Proofs.YtofedlghaopciaaGreatDoor.Hand.GW.on HTB.out bl_); rintro e w41 ⟨rfl, hb⟩; refine ⟨_, rfl, ?_⟩; replace HB := Aside0.mk (bst_ hb); (try clear hb); (try clear hb2); (try clear hk); (try clear hi)) | ((with_reducible refine gate_callee (f := 45) rfl ?_); refine gL_ (some 28) Tryz.func45 #[.string (a0.extract (t214 : Int).toNat a0.size), .string (⟨#[43]⟩ : ByteArray)] ?_; (with_reducible refine (strings_TrimPrefix.calls (a0.extract (t214 : Int).toNat a0.size) (⟨#[43]⟩ : ByteArray) t217 _ A10.out).mono ?_); rintro e w' ⟨rfl, ⟨nd, rfl⟩⟩; refine ⟨_, rfl, ?_⟩) | ((with_reducible refine gate_callee (f := 44) rfl ?_); refine gL_ (some 29) Tryz.func44 #[.string t217, .string (⟨#[105]⟩ : ByteArray)] ?_; (with_reducible refine (strings_TrimSuffix.calls t217 (⟨#[105]⟩ : ByteArray) t218 _ A11.out).mono ?_); rintro e w' ⟨rfl, ⟨nd, rfl⟩⟩; refine ⟨_, rfl, ?_⟩) | ((with_reducible refine gate_callee (f := 43) rfl ?_); refine gL_ (some 30) Tryz.func43 #[.string t218] ?_; (with_reducible refine (fix_Read.calls k t218 t219 t220 _ ?side1 A12.out).mono ?_); (case side1 => exact Go.Proofs.YtofedlghaopciaaGreatDoor.Hand.GW.on HTB.out bl_); rintro e w42 ⟨rfl, hb⟩; refine ⟨_, rfl, ?_⟩; replace HB := Aside0.mk (bst_ hb); (try clear hb); (try clear hb2); (try clear hk); (try clear hi)) | ((with_reducible refine gate_callee (f := 11) rfl ?_); refine gL_ (some 36) Tryz.func11 #[.int .i64 t215, .int .i64 t219] ?_; (with_reducible refine (phasor_Of.calls t215 t219 t221 t222 _ A13.out).mono ?_); rintro e w43 ⟨rfl, hb⟩; refine ⟨_, rfl, ?_⟩; replace HB := Aside0.mk (bst_ hb); (try clear hb); (try clear hb2); (try clear hk); (try clear hi)) | ((with_reducible refine gate_callee (f := 21) rfl ?_); refine gL_ (some 41) Tryz.func21 #[.complex .f64 t221.re t221.im] ?_; (with_reducible refine (phasor_Text.calls t221 t223 t224 _ ?side1 A14.out).mono ?_); (case side1 => exact Go.Proofs.YtofedlghaopciaaGreatDoor.Hand.GW.on HTB.out bl_); rintro e w44 ⟨rfl, hb⟩; refine ⟨_, rfl, ?_⟩; replace HB := Aside0.mk (bst_ hb); (try clear hb); (try clear hb2); (try clear hk); (try clear hi)))
      go_ret2
      exact fin_
    ·
     rw [if_neg c15] at H
     obtain ⟨c15b0, c15b1⟩ := eqF_ c15
     simp only [Option.some.injEq, Prod.mk.injEq] at H
     obtain ⟨rfl, rfl⟩ := H
     go_enter Tryz.func22, Tryz.ntmps22
     go_wp2_with (first | ((with_reducible refine gate_callee (f := 42) rfl ?_); refine gL_ (some 14) Tryz.func42 #[.string a0, .string (⟨#[43, 45]⟩ : ByteArray)] ?_; (with_reducible refine (strings_LastIndexAny.calls a0 (⟨#[43, 45]⟩ : ByteArray) t214 _ ?side1 A2.out).mono ?_); (case side1 => exact Go.Proofs.YtofedlghaopciaaGreatDoor.Hand.GW.on HTB.out bl_); rintro e w45 ⟨rfl, hb⟩; refine ⟨_, rfl, ?_⟩; replace HB := Aside0.mk (bst_ hb); (try clear hb); (try clear hb2); (try clear hk); (try clear hi)) | ((with_reducible refine gate_callee (f := 43) rfl ?_); refine gL_ (some 21) Tryz.func43 #[.string (a0.extract 0 (t214 : Int).toNat)] ?_; (with_reducible refine (fix_Read.calls k (a0.extract 0 (t214 : Int).toNat) t215 t216 _ ?side1 A7.out).mono ?_); (case side1 => exact Go.Proofs.YtofedlghaopciaaGreatDoor.Hand.GW.on HTB.out bl_); rintro e w46 ⟨rfl, hb⟩; refine ⟨_, rfl, ?_⟩; replace HB := Aside0.mk (bst_ hb); (try clear hb); (try clear hb2); (try clear hk); (try clear hi)) | ((with_reducible refine gate_callee (f := 45) rfl ?_); refine gL_ (some 28) Tryz.func45 #[.string (a0.extract (t214 : Int).toNat a0.size), .string (⟨#[43]⟩ : ByteArray)] ?_; (with_reducible refine (strings_TrimPrefix.calls (a0.extract (t214 : Int).toNat a0.size) (⟨#[43]⟩ : ByteArray) t217 _ A10.out).mono ?_); rintro e w' ⟨rfl, ⟨nd, rfl⟩⟩; refine ⟨_, rfl, ?_⟩) | ((with_reducible refine gate_callee (f := 44) rfl ?_); refine gL_ (some 29) Tryz.func44 #[.string t217, .string (⟨#[105]⟩ : ByteArray)] ?_; (with_reducible refine (strings_TrimSuffix.calls t217 (⟨#[105]⟩ : ByteArray) t218 _ A11.out).mono ?_); rintro e w' ⟨rfl, ⟨nd, rfl⟩⟩; refine ⟨_, rfl, ?_⟩) | ((with_reducible refine gate_callee (f := 43) rfl ?_); refine gL_ (some 30) Tryz.func43 #[.string t218] ?_; (with_reducible refine (fix_Read.calls k t218 t219 t220 _ ?side1 A12.out).mono ?_); (case side1 => exact Go.Proofs.YtofedlghaopciaaGreatDoor.Hand.GW.on HTB.out bl_); rintro e w47 ⟨rfl, hb⟩; refine ⟨_, rfl, ?_⟩; replace HB := Aside0.mk (bst_ hb); (try clear hb); (try clear hb2); (try clear hk); (try clear hi)) | ((with_reducible refine gate_callee (f := 11) rfl ?_); refine gL_ (some 36) Tryz.func11 #[.int .i64 t215, .int .i64 t219] ?_; (with_reducible refine (phasor_Of.calls t215 t219 t221 t222 _ A13.out).mono ?_); rintro e w48 ⟨rfl, hb⟩; refine ⟨_, rfl, ?_⟩; replace HB := Aside0.mk (bst_ hb); (try clear hb); (try clear hb2); (try clear hk); (try clear hi)) | ((with_reducible refine gate_callee (f := 21) rfl ?_); refine gL_ (some 41) Tryz.func21 #[.complex .f64 t221.re t221.im] ?_; (with_reducible refine (phasor_Text.calls t221 t223 t224 _ ?side1 A14.out).mono ?_); (case side1 => exact Go.Proofs.YtofedlghaopciaaGreatDoor.Hand.GW.on HTB.out bl_); rintro e w49 ⟨rfl, hb⟩; refine ⟨_, rfl, ?_⟩; replace HB := Aside0.mk (bst_ hb); (try clear hb); (try clear hb2); (try clear hk); (try clear hi)))
     go_ret2
     exact fin_
   ·
    rw [if_neg c6] at H
    exact absurd H (by simp)
  ·
   rw [if_neg c5] at H
   exact absurd H (by simp)

end Go.Proofs.YtofedlghaopciaaGreatDoor.PA
