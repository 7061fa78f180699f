-- Written by a program of this session for this claim (wip/print2.sh). Lean checks it.
import Derived.Test.YtofedlghaopciaaDoorPPx0
import Derived.Test.YtofedlghaopciaaDoorPPx1
import Derived.Test.YtofedlghaopciaaDoorHandS
namespace Go.Proofs.YtofedlghaopciaaDoor.PP
open Go.Proofs.YtofedlghaopciaaDoorW.PrintWords
attribute [local go_sem high] fx_eql fx_neq fx_lss fx_leq fx_gtr fx_geq fx_add fx_sub fx_mul fx_neg fx_toint cxx_add cxx_sub cxx_mul cxx_eql cxx_neq cxx_pick st_float st_complex
open Go.RowKit Go.Proofs.YtofedlghaopciaaDoorW.PrintWords Go.Proofs.YtofedlghaopciaaDoorW.PrintLast Go.Proofs.YtofedlghaopciaaDoorW.PrintMore
attribute [local go_sem] max2_int min2_int max_two min_two max_three min_three max_four min_four   -- for this text's walks alone
set_option linter.unusedVariables false
set_option linter.unusedSimpArgs false

/-! ### phasor_Text: function 7 -/
def phasor_Text.f (a0 : Cx) : Option (ByteArray × Int) := (phasor_Parts.f a0).bind fun bt133 => (if bt133.2.2 = 0 then (if bt133.2.1 < 0 then ((fix_Text.f bt133.1).bind fun t136 => (if t136.size + 0 ≤ 9223372036854775807 then ((fix_Text.f bt133.2.1).bind fun t137 => (if (t136 ++ (⟨#[]⟩ : ByteArray)).size + t137.size ≤ 9223372036854775807 then (if ((t136 ++ (⟨#[]⟩ : ByteArray)) ++ t137).size + 1 ≤ 9223372036854775807 then (some (((t136 ++ (⟨#[]⟩ : ByteArray)) ++ t137) ++ (⟨#[105]⟩ : ByteArray), 0)) else (none)) else (none))) else (none))) else ((fix_Text.f bt133.1).bind fun t138 => (if t138.size + 1 ≤ 9223372036854775807 then ((fix_Text.f bt133.2.1).bind fun t139 => (if (t138 ++ (⟨#[43]⟩ : ByteArray)).size + t139.size ≤ 9223372036854775807 then (if ((t138 ++ (⟨#[43]⟩ : ByteArray)) ++ t139).size + 1 ≤ 9223372036854775807 then (some (((t138 ++ (⟨#[43]⟩ : ByteArray)) ++ t139) ++ (⟨#[105]⟩ : ByteArray), 0)) else (none)) else (none))) else (none)))) else (some ((⟨#[]⟩ : ByteArray), bt133.2.2)))
set_option maxHeartbeats 8000000 in
set_option maxRecDepth 100000 in
theorem phasor_Text.calls (a0 : Cx) (r1 : ByteArray) (r2 : Int) (w : World) (hT_ : Go.Proofs.YtofedlghaopciaaDoor.Hand.T3 w) (h : phasor_Text.f a0 = some (r1, r2)) :
    Calls Tryd.prog 7 #[.complex .f64 a0.re a0.im] w fun e w' => e = .returned (.tuple #[.string r1, .int .i64 r2]) ∧ Below w.heap.size w w' := by
  have HTB := Aside0.mk hT_
  clear hT_
  have HB := Aside0.mk (Below.refl w.heap.size w)
  have H : ((phasor_Parts.f a0).bind fun bt133 => (if bt133.2.2 = 0 then (if bt133.2.1 < 0 then ((fix_Text.f bt133.1).bind fun t136 => (if t136.size + 0 ≤ 9223372036854775807 then ((fix_Text.f bt133.2.1).bind fun t137 => (if (t136 ++ (⟨#[]⟩ : ByteArray)).size + t137.size ≤ 9223372036854775807 then (if ((t136 ++ (⟨#[]⟩ : ByteArray)) ++ t137).size + 1 ≤ 9223372036854775807 then (some (((t136 ++ (⟨#[]⟩ : ByteArray)) ++ t137) ++ (⟨#[105]⟩ : ByteArray), 0)) else (none)) else (none))) else (none))) else ((fix_Text.f bt133.1).bind fun t138 => (if t138.size + 1 ≤ 9223372036854775807 then ((fix_Text.f bt133.2.1).bind fun t139 => (if (t138 ++ (⟨#[43]⟩ : ByteArray)).size + t139.size ≤ 9223372036854775807 then (if ((t138 ++ (⟨#[43]⟩ : ByteArray)) ++ t139).size + 1 ≤ 9223372036854775807 then (some (((t138 ++ (⟨#[43]⟩ : ByteArray)) ++ t139) ++ (⟨#[105]⟩ : ByteArray), 0)) else (none)) else (none))) else (none)))) else (some ((⟨#[]⟩ : ByteArray), bt133.2.2)))) = some (r1, r2) := h
  clear h
  replace H := Option.bind_eq_some_iff.mp H
  obtain ⟨⟨t133, t134, t135⟩, A20, H⟩ := H
  replace H : (if t135 = 0 then (if t134 < 0 then ((fix_Text.f t133).bind fun t136 => (if t136.size + 0 ≤ 9223372036854775807 then ((fix_Text.f t134).bind fun t137 => (if (t136 ++ (⟨#[]⟩ : ByteArray)).size + t137.size ≤ 9223372036854775807 then (if ((t136 ++ (⟨#[]⟩ : ByteArray)) ++ t137).size + 1 ≤ 9223372036854775807 then (some (((t136 ++ (⟨#[]⟩ : ByteArray)) ++ t137) ++ (⟨#[105]⟩ : ByteArray), 0)) else (none)) else (none))) else (none))) else ((fix_Text.f t133).bind fun t138 => (if t138.size + 1 ≤ 9223372036854775807 then ((fix_Text.f t134).bind fun t139 => (if (t138 ++ (⟨#[43]⟩ : ByteArray)).size + t139.size ≤ 9223372036854775807 then (if ((t138 ++ (⟨#[43]⟩ : ByteArray)) ++ t139).size + 1 ≤ 9223372036854775807 then (some (((t138 ++ (⟨#[43]⟩ : ByteArray)) ++ t139) ++ (⟨#[105]⟩ : ByteArray), 0)) else (none)) else (none))) else (none)))) else (some ((⟨#[]⟩ : ByteArray), t135))) = some (r1, r2) := H
  have A2 := Aside0.mk A20
  clear A20
  by_cases c3 : t135 = 0
  · rw [if_pos c3] at H
    have c3b0 : (t135 == 0) = true := beq_iff_eq.mpr c3
    have c3b1 : (t135 != 0) = false := bne_eq_false_iff_eq.mpr c3
    clear c3
    by_cases c4 : t134 < 0
    · rw [if_pos c4] at H
      have c4b0 : decide (t134 < 0) = true := decide_eq_true c4
      clear c4
      replace H := Option.bind_eq_some_iff.mp H
      obtain ⟨t136, A50, H⟩ := H
      replace H : (if t136.size + 0 ≤ 9223372036854775807 then ((fix_Text.f t134).bind fun t137 => (if (t136 ++ (⟨#[]⟩ : ByteArray)).size + t137.size ≤ 9223372036854775807 then (if ((t136 ++ (⟨#[]⟩ : ByteArray)) ++ t137).size + 1 ≤ 9223372036854775807 then (some (((t136 ++ (⟨#[]⟩ : ByteArray)) ++ t137) ++ (⟨#[105]⟩ : ByteArray), 0)) else (none)) else (none))) else (none)) = some (r1, r2) := H
      have A5 := Aside0.mk A50
      clear A50
      by_cases c6 : t136.size + 0 ≤ 9223372036854775807
      · rw [if_pos c6] at H
        have c6b0 := eq_true c6
        have c6b1 : decide (t136.size + 0 ≤ 9223372036854775807) = true := decide_eq_true c6
        try have c6b2 : (9223372036854775807 < t136.size + 0) = False := eq_false (Nat.not_lt.2 c6)
        have c6b4 : (9223372036854775807 < t136.size) = False := eq_false (by have e_ : t136.size + 0 = t136.size := (by (try simp only [ByteArray.size_append]); rfl); rw [← e_]; exact Nat.not_lt.2 c6)
        replace H := Option.bind_eq_some_iff.mp H
        obtain ⟨t137, A70, H⟩ := H
        replace H : (if (t136 ++ (⟨#[]⟩ : ByteArray)).size + t137.size ≤ 9223372036854775807 then (if ((t136 ++ (⟨#[]⟩ : ByteArray)) ++ t137).size + 1 ≤ 9223372036854775807 then (some (((t136 ++ (⟨#[]⟩ : ByteArray)) ++ t137) ++ (⟨#[105]⟩ : ByteArray), 0)) else (none)) else (none)) = some (r1, r2) := H
        have A7 := Aside0.mk A70
        clear A70
        by_cases c8 : (t136 ++ (⟨#[]⟩ : ByteArray)).size + t137.size ≤ 9223372036854775807
        · rw [if_pos c8] at H
          have c8b0 := eq_true c8
          have c8b1 : decide ((t136 ++ (⟨#[]⟩ : ByteArray)).size + t137.size ≤ 9223372036854775807) = true := decide_eq_true c8
          try have c8b2 : (9223372036854775807 < (t136 ++ (⟨#[]⟩ : ByteArray)).size + t137.size) = False := eq_false (Nat.not_lt.2 c8)
          have c8b4 : (9223372036854775807 < t136.size + t137.size) = False := eq_false (by have e_ : (t136 ++ (⟨#[]⟩ : ByteArray)).size + t137.size = t136.size + t137.size := (by (try simp only [ByteArray.size_append]); rfl); rw [← e_]; exact Nat.not_lt.2 c8)
          by_cases c9 : ((t136 ++ (⟨#[]⟩ : ByteArray)) ++ t137).size + 1 ≤ 9223372036854775807
          · rw [if_pos c9] at H
            have c9b0 := eq_true c9
            have c9b1 : decide (((t136 ++ (⟨#[]⟩ : ByteArray)) ++ t137).size + 1 ≤ 9223372036854775807) = true := decide_eq_true c9
            try have c9b2 : (9223372036854775807 < ((t136 ++ (⟨#[]⟩ : ByteArray)) ++ t137).size + 1) = False := eq_false (Nat.not_lt.2 c9)
            have c9b4 : (9223372036854775807 < t136.size + t137.size + 1) = False := eq_false (by have e_ : ((t136 ++ (⟨#[]⟩ : ByteArray)) ++ t137).size + 1 = t136.size + t137.size + 1 := (by (try simp only [ByteArray.size_append]); rfl); rw [← e_]; exact Nat.not_lt.2 c9)
            simp only [Option.some.injEq, Prod.mk.injEq] at H
            obtain ⟨rfl, rfl⟩ := H
            go_enter Tryd.func7, Tryd.ntmps7
            go_wp2_with (first | ((with_reducible refine gate_callee (f := 9) rfl ?_); refine goesL_ (some 10) rfl rfl Tryd.func9 (by kernel_rfl) rfl #[.complex .f64 a0.re a0.im] rfl (by (try simp only [List.map_toArray, List.map_cons, List.map_nil]); first | done | rfl | (simp only [List.length_drop, List.length_take]; rfl)) ?_; (with_reducible refine (phasor_Parts.calls a0 t133 t134 t135 _ A2.out).mono ?_); rintro e w10 ⟨rfl, hb⟩; refine ⟨_, rfl, ?_⟩; have n0_ := Aside0.mk (below_step (by repeat (first | (with_reducible first | exact HB.out | apply below_alloc | apply pw_below_drewN | apply below_drew1) | exact HB.out)) hb); clear HB; have HB := n0_; clear n0_; (try clear hb); (try clear hb2); (try clear hk); (try clear hi)) | ((with_reducible refine gate_callee (f := 12) rfl ?_); refine goesL_ (some 20) rfl rfl Tryd.func12 (by kernel_rfl) rfl #[.int .i64 t133] rfl (by (try simp only [List.map_toArray, List.map_cons, List.map_nil]); first | done | rfl | (simp only [List.length_drop, List.length_take]; rfl)) ?_; (with_reducible refine (fix_Text.calls t133 t136 _ ?side1 A5.out).mono ?_); (case side1 => exact Go.Proofs.YtofedlghaopciaaDoor.Hand.GW.on HTB.out (by repeat (first | (with_reducible first | exact HB.out | apply below_alloc | apply pw_below_drewN | apply below_drew1) | exact HB.out))); rintro e w11 ⟨rfl, hb⟩; refine ⟨_, rfl, ?_⟩; have n0_ := Aside0.mk (below_step (by repeat (first | (with_reducible first | exact HB.out | apply below_alloc | apply pw_below_drewN | apply below_drew1) | exact HB.out)) hb); clear HB; have HB := n0_; clear n0_; (try clear hb); (try clear hb2); (try clear hk); (try clear hi)) | ((with_reducible refine gate_callee (f := 12) rfl ?_); refine goesL_ (some 24) rfl rfl Tryd.func12 (by kernel_rfl) rfl #[.int .i64 t134] rfl (by (try simp only [List.map_toArray, List.map_cons, List.map_nil]); first | done | rfl | (simp only [List.length_drop, List.length_take]; rfl)) ?_; (with_reducible refine (fix_Text.calls t134 t137 _ ?side1 A7.out).mono ?_); (case side1 => exact Go.Proofs.YtofedlghaopciaaDoor.Hand.GW.on HTB.out (by repeat (first | (with_reducible first | exact HB.out | apply below_alloc | apply pw_below_drewN | apply below_drew1) | exact HB.out))); rintro e w12 ⟨rfl, hb⟩; refine ⟨_, rfl, ?_⟩; have n0_ := Aside0.mk (below_step (by repeat (first | (with_reducible first | exact HB.out | apply below_alloc | apply pw_below_drewN | apply below_drew1) | exact HB.out)) hb); clear HB; have HB := n0_; clear n0_; (try clear hb); (try clear hb2); (try clear hk); (try clear hi)))
            go_ret2
            exact ⟨by first | rfl | (simp [errW_none, errW_some] <;> rfl) | (simp [*, errW_none, errW_some] <;> rfl), by repeat (first | (with_reducible first | exact HB.out | apply below_alloc | apply pw_below_drewN | apply below_drew1) | exact HB.out)⟩
          · rw [if_neg c9] at H
            exact absurd H (by simp)
        · rw [if_neg c8] at H
          exact absurd H (by simp)
      · rw [if_neg c6] at H
        exact absurd H (by simp)
    · rw [if_neg c4] at H
      have c4b0 : decide (t134 < 0) = false := decide_eq_false c4
      clear c4
      replace H := Option.bind_eq_some_iff.mp H
      obtain ⟨t138, A130, H⟩ := H
      replace H : (if t138.size + 1 ≤ 9223372036854775807 then ((fix_Text.f t134).bind fun t139 => (if (t138 ++ (⟨#[43]⟩ : ByteArray)).size + t139.size ≤ 9223372036854775807 then (if ((t138 ++ (⟨#[43]⟩ : ByteArray)) ++ t139).size + 1 ≤ 9223372036854775807 then (some (((t138 ++ (⟨#[43]⟩ : ByteArray)) ++ t139) ++ (⟨#[105]⟩ : ByteArray), 0)) else (none)) else (none))) else (none)) = some (r1, r2) := H
      have A13 := Aside0.mk A130
      clear A130
      by_cases c14 : t138.size + 1 ≤ 9223372036854775807
      · rw [if_pos c14] at H
        have c14b0 := eq_true c14
        have c14b1 : decide (t138.size + 1 ≤ 9223372036854775807) = true := decide_eq_true c14
        try have c14b2 : (9223372036854775807 < t138.size + 1) = False := eq_false (Nat.not_lt.2 c14)
        replace H := Option.bind_eq_some_iff.mp H
        obtain ⟨t139, A150, H⟩ := H
        replace H : (if (t138 ++ (⟨#[43]⟩ : ByteArray)).size + t139.size ≤ 9223372036854775807 then (if ((t138 ++ (⟨#[43]⟩ : ByteArray)) ++ t139).size + 1 ≤ 9223372036854775807 then (some (((t138 ++ (⟨#[43]⟩ : ByteArray)) ++ t139) ++ (⟨#[105]⟩ : ByteArray), 0)) else (none)) else (none)) = some (r1, r2) := H
        have A15 := Aside0.mk A150
        clear A150
        by_cases c16 : (t138 ++ (⟨#[43]⟩ : ByteArray)).size + t139.size ≤ 9223372036854775807
        · rw [if_pos c16] at H
          have c16b0 := eq_true c16
          have c16b1 : decide ((t138 ++ (⟨#[43]⟩ : ByteArray)).size + t139.size ≤ 9223372036854775807) = true := decide_eq_true c16
          try have c16b2 : (9223372036854775807 < (t138 ++ (⟨#[43]⟩ : ByteArray)).size + t139.size) = False := eq_false (Nat.not_lt.2 c16)
          have c16b4 : (9223372036854775807 < t138.size + 1 + t139.size) = False := eq_false (by have e_ : (t138 ++ (⟨#[43]⟩ : ByteArray)).size + t139.size = t138.size + 1 + t139.size := (by (try simp only [ByteArray.size_append]); rfl); rw [← e_]; exact Nat.not_lt.2 c16)
          by_cases c17 : ((t138 ++ (⟨#[43]⟩ : ByteArray)) ++ t139).size + 1 ≤ 9223372036854775807
          · rw [if_pos c17] at H
            have c17b0 := eq_true c17
            have c17b1 : decide (((t138 ++ (⟨#[43]⟩ : ByteArray)) ++ t139).size + 1 ≤ 9223372036854775807) = true := decide_eq_true c17
            try have c17b2 : (9223372036854775807 < ((t138 ++ (⟨#[43]⟩ : ByteArray)) ++ t139).size + 1) = False := eq_false (Nat.not_lt.2 c17)
            have c17b4 : (9223372036854775807 < t138.size + 1 + t139.size + 1) = False := eq_false (by have e_ : ((t138 ++ (⟨#[43]⟩ : ByteArray)) ++ t139).size + 1 = t138.size + 1 + t139.size + 1 := (by (try simp only [ByteArray.size_append]); rfl); rw [← e_]; exact Nat.not_lt.2 c17)
            simp only [Option.some.injEq, Prod.mk.injEq] at H
            obtain ⟨rfl, rfl⟩ := H
            go_enter Tryd.func7, Tryd.ntmps7
            go_wp2_with (first | ((with_reducible refine gate_callee (f := 9) rfl ?_); refine goesL_ (some 10) rfl rfl Tryd.func9 (by kernel_rfl) rfl #[.complex .f64 a0.re a0.im] rfl (by (try simp only [List.map_toArray, List.map_cons, List.map_nil]); first | done | rfl | (simp only [List.length_drop, List.length_take]; rfl)) ?_; (with_reducible refine (phasor_Parts.calls a0 t133 t134 t135 _ A2.out).mono ?_); rintro e w18 ⟨rfl, hb⟩; refine ⟨_, rfl, ?_⟩; have n0_ := Aside0.mk (below_step (by repeat (first | (with_reducible first | exact HB.out | apply below_alloc | apply pw_below_drewN | apply below_drew1) | exact HB.out)) hb); clear HB; have HB := n0_; clear n0_; (try clear hb); (try clear hb2); (try clear hk); (try clear hi)) | ((with_reducible refine gate_callee (f := 12) rfl ?_); refine goesL_ (some 20) rfl rfl Tryd.func12 (by kernel_rfl) rfl #[.int .i64 t133] rfl (by (try simp only [List.map_toArray, List.map_cons, List.map_nil]); first | done | rfl | (simp only [List.length_drop, List.length_take]; rfl)) ?_; (with_reducible refine (fix_Text.calls t133 t138 _ ?side1 A13.out).mono ?_); (case side1 => exact Go.Proofs.YtofedlghaopciaaDoor.Hand.GW.on HTB.out (by repeat (first | (with_reducible first | exact HB.out | apply below_alloc | apply pw_below_drewN | apply below_drew1) | exact HB.out))); rintro e w19 ⟨rfl, hb⟩; refine ⟨_, rfl, ?_⟩; have n0_ := Aside0.mk (below_step (by repeat (first | (with_reducible first | exact HB.out | apply below_alloc | apply pw_below_drewN | apply below_drew1) | exact HB.out)) hb); clear HB; have HB := n0_; clear n0_; (try clear hb); (try clear hb2); (try clear hk); (try clear hi)) | ((with_reducible refine gate_callee (f := 12) rfl ?_); refine goesL_ (some 24) rfl rfl Tryd.func12 (by kernel_rfl) rfl #[.int .i64 t134] rfl (by (try simp only [List.map_toArray, List.map_cons, List.map_nil]); first | done | rfl | (simp only [List.length_drop, List.length_take]; rfl)) ?_; (with_reducible refine (fix_Text.calls t134 t139 _ ?side1 A15.out).mono ?_); (case side1 => exact Go.Proofs.YtofedlghaopciaaDoor.Hand.GW.on HTB.out (by repeat (first | (with_reducible first | exact HB.out | apply below_alloc | apply pw_below_drewN | apply below_drew1) | exact HB.out))); rintro e w20 ⟨rfl, hb⟩; refine ⟨_, rfl, ?_⟩; have n0_ := Aside0.mk (below_step (by repeat (first | (with_reducible first | exact HB.out | apply below_alloc | apply pw_below_drewN | apply below_drew1) | exact HB.out)) hb); clear HB; have HB := n0_; clear n0_; (try clear hb); (try clear hb2); (try clear hk); (try clear hi)))
            go_ret2
            exact ⟨by first | rfl | (simp [errW_none, errW_some] <;> rfl) | (simp [*, errW_none, errW_some] <;> rfl), by repeat (first | (with_reducible first | exact HB.out | apply below_alloc | apply pw_below_drewN | apply below_drew1) | exact HB.out)⟩
          · rw [if_neg c17] at H
            exact absurd H (by simp)
        · rw [if_neg c16] at H
          exact absurd H (by simp)
      · rw [if_neg c14] at H
        exact absurd H (by simp)
  · rw [if_neg c3] at H
    have c3b0 : (t135 == 0) = false := beq_eq_false_iff_ne.mpr c3
    have c3b1 : (t135 != 0) = true := bne_iff_ne.mpr c3
    simp only [Option.some.injEq, Prod.mk.injEq] at H
    obtain ⟨rfl, rfl⟩ := H
    go_enter Tryd.func7, Tryd.ntmps7
    go_wp2_with (first | ((with_reducible refine gate_callee (f := 9) rfl ?_); refine goesL_ (some 10) rfl rfl Tryd.func9 (by kernel_rfl) rfl #[.complex .f64 a0.re a0.im] rfl (by (try simp only [List.map_toArray, List.map_cons, List.map_nil]); first | done | rfl | (simp only [List.length_drop, List.length_take]; rfl)) ?_; (with_reducible refine (phasor_Parts.calls a0 t133 t134 t135 _ A2.out).mono ?_); rintro e w21 ⟨rfl, hb⟩; refine ⟨_, rfl, ?_⟩; have n0_ := Aside0.mk (below_step (by repeat (first | (with_reducible first | exact HB.out | apply below_alloc | apply pw_below_drewN | apply below_drew1) | exact HB.out)) hb); clear HB; have HB := n0_; clear n0_; (try clear hb); (try clear hb2); (try clear hk); (try clear hi)))
    go_ret2
    exact ⟨by first | rfl | (simp [errW_none, errW_some] <;> rfl) | (simp [*, errW_none, errW_some] <;> rfl), by repeat (first | (with_reducible first | exact HB.out | apply below_alloc | apply pw_below_drewN | apply below_drew1) | exact HB.out)⟩

-- NOT PRINTED: function 62 (bytealg_IndexByteString)

-- NOT PRINTED: function 49 (stringslite_IndexByte)

-- NOT PRINTED: function 31 (strings_IndexByte)

/-! ### strings_LastIndexAny: function 13 -/
def strings_LastIndexAny.f (a0 : ByteArray) (a1 : ByteArray) : Option (Int) := Go.Proofs.YtofedlghaopciaaDoor.Hand.lastA a0 a1
theorem strings_LastIndexAny.calls (a0 : ByteArray) (a1 : ByteArray) (r : Int) (w : World) (hT_ : Go.Proofs.YtofedlghaopciaaDoor.Hand.T3 w) (h : strings_LastIndexAny.f a0 a1 = some r) :
    Calls Tryd.prog 13 #[.string a0, .string a1] w fun e w' => e = .returned (.int .i64 r) ∧ Below w.heap.size w w' :=
  Go.Proofs.YtofedlghaopciaaDoor.Hand.last_calls3 a0 a1 r w hT_ h

end Go.Proofs.YtofedlghaopciaaDoor.PP
