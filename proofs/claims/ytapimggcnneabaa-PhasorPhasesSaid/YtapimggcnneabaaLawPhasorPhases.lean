-- Written by a program of this session for this claim (wip/print2.sh). Lean checks it.
import Derived.Test.YtapimggcnneabaaRows
import Derived.Test.YtapimggcnneabaaPHx3
import Derived.Test.YtapimggcnneabaaPurePhasorPhases
import Derived.WalkKit
import Derived.ProofKit
import Derived.OpenShut
import Derived.ShutString
import Derived.ChangeOld
import Derived.Below
import Derived.SizedLaws
namespace Go.Proofs.Ytapimggcnneabaa.phasorPhases
open Go.ChangeShapes Go.WideShapes Go.ChangeAt Go.RowKit Go.Proofs.Ytapimggcnneabaa.PH Go.Proofs.YtapimggcnneabaaW.PrintWords
open Go.ChangeMaps (open_string shut_string)
set_option linter.unusedVariables false
theorem own : ownKnob Try.prog.godebug = none := by kernel_rfl
theorem laidOut : laidOutB Try.prog = true := by kernel_rfl
set_option maxRecDepth 100000 in
theorem lifted (os : Os) (started : os.Started) (H : Type) (enc : TypeId × Value → H) :
    ReturnsInHanded {} Try.checked os 7 .any (Rows.phasorPhasesSpec.pre6 enc Try.prog Try.f7 Rows.phasorPhasesRow.domain false) (Rows.phasorPhasesSpec.post enc Try.prog Try.f7 false true false false) := by
  refine returnsInHanded_of_change_sized (C := Try.checked) own started (by kernel_rfl) Try.func7
    (ChangeSpec.witness6 (enc := enc) (C := Try.checked) false ⟨#[], #[.slice none 0 0, .slice none 0 0, .slice none 0 0, .slice none 0 0], []⟩ 8 (by kernel_rfl) (by kernel_rfl) (by kernel_rfl) (by kernel_rfl)) ?_
  intro W base args ds gs before hval0 hW hcnd hsz0 _
  have hsz : (DataW.weightsEach Try.prog (Try.f7.params.toList ++ Rows.phasorPhasesSpec.plain.varTypes Try.prog) (ds ++ gs)).all (· ≤ reachBytes) = true := hsz0
  have hval : ∀ (j : Nat) t v, Try.f7.params[j]? = some t → args[j]? = some v → Value.okWide Try.prog W .any base t v := hval0
  have hW' := hW
  obtain ⟨p, q, hA0, hV, rfl, hfz, hnd⟩ := hW
  have hA : DataW.TrodAll enc Try.prog W 0 (fun _ => true) true Try.f7.params.toList args.toList ds p := hA0
  rw [Try.params7] at hA hval hsz
  obtain ⟨v0, vs0, d0, ds0, p0, q0, hargs, rfl, rfl, h0, r0⟩ := trodAll_cons hA
  obtain ⟨v1, vs1, d1, ds1, p1, q1, rfl, rfl, rfl, h1, r1⟩ := trodAll_cons r0
  obtain ⟨v2, vs2, d2, ds2, p2, q2, rfl, rfl, rfl, h2, r2⟩ := trodAll_cons r1
  obtain ⟨v3, vs3, d3, ds3, p3, q3, rfl, rfl, rfl, h3, r3⟩ := trodAll_cons r2
  obtain ⟨rfl, rfl, rfl⟩ := trodAll_nil r3
  obtain rfl : args = #[v0, v1, v2, v3] := by cases args; simp_all
  obtain ⟨rfl, rfl⟩ := trodVars_none hV
  have k0 := h0
  have lt0 : ∀ x ∈ p0, x.block < W.heap.size := by obtain ⟨m, hm⟩ := k0; exact DataW.trod_lt m _ _ _ hm
  obtain ⟨x0, hK0, ok0⟩ := opens_arg (j := 0) (opens_slice Try.underlying52 (B := 16) (by kernel_rfl) (by kernel_rfl) (opens105 W)) hsz rfl rfl h0
  obtain ⟨A0, c0, hcs0, hcap0, hR0⟩ := hK0
  obtain ⟨a_0, len_0, cap_0, rfl⟩ := okWide_slice Try.underlying52 (hval 0 52 v0 rfl rfl)
  have hv0 := arg_one (by rfl) hcs0
  rw [hv0] at hW' k0 ⊢
  have k1 := h1
  have lt1 : ∀ x ∈ p1, x.block < W.heap.size := by obtain ⟨m, hm⟩ := k1; exact DataW.trod_lt m _ _ _ hm
  obtain ⟨x1, hK1, ok1⟩ := opens_arg (j := 1) (opens_slice Try.underlying52 (B := 16) (by kernel_rfl) (by kernel_rfl) (opens105 W)) hsz rfl rfl h1
  obtain ⟨A1, c1, hcs1, hcap1, hR1⟩ := hK1
  obtain ⟨a_1, len_1, cap_1, rfl⟩ := okWide_slice Try.underlying52 (hval 1 52 v1 rfl rfl)
  have hv1 := arg_one (by rfl) hcs1
  rw [hv1] at hW' k1 ⊢
  have k2 := h2
  have lt2 : ∀ x ∈ p2, x.block < W.heap.size := by obtain ⟨m, hm⟩ := k2; exact DataW.trod_lt m _ _ _ hm
  obtain ⟨x2, hK2, ok2⟩ := opens_arg (j := 2) (opens_slice Try.underlying52 (B := 16) (by kernel_rfl) (by kernel_rfl) (opens105 W)) hsz rfl rfl h2
  obtain ⟨A2, c2, hcs2, hcap2, hR2⟩ := hK2
  obtain ⟨a_2, len_2, cap_2, rfl⟩ := okWide_slice Try.underlying52 (hval 2 52 v2 rfl rfl)
  have hv2 := arg_one (by rfl) hcs2
  rw [hv2] at hW' k2 ⊢
  have k3 := h3
  have lt3 : ∀ x ∈ p3, x.block < W.heap.size := by obtain ⟨m, hm⟩ := k3; exact DataW.trod_lt m _ _ _ hm
  obtain ⟨x3, hK3, ok3⟩ := opens_arg (j := 3) (opens_slice Try.underlying52 (B := 16) (by kernel_rfl) (by kernel_rfl) (opens105 W)) hsz rfl rfl h3
  obtain ⟨A3, c3, hcs3, hcap3, hR3⟩ := hK3
  obtain ⟨a_3, len_3, cap_3, rfl⟩ := okWide_slice Try.underlying52 (hval 3 52 v3 rfl rfl)
  have hv3 := arg_one (by rfl) hcs3
  rw [hv3] at hW' k3 ⊢
  clear hA0 hval0 hsz0 hsz
  have P := Pure.PhasorPhases
  unfold pylonlaw02_PhasorPhases.Pure at P
  obtain ⟨k, h⟩ := P _ _ _ _ ok0 ok1 ok2 ok3
  refine (pylonlaw02_PhasorPhases.calls (k := k) (A0 := A0) (c0 := c0) (l0 := x0) (hr0 := hR0) (hc0 := hcap0) (A1 := A1) (c1 := c1) (l1 := x1) (hr1 := hR1) (hc1 := hcap1) (A2 := A2) (c2 := c2) (l2 := x2) (hr2 := hR2) (hc2 := hcap2) (A3 := A3) (c3 := c3) (l3 := x3) (hr3 := hR3) (hc3 := hcap3) (r := true) (w := W) (h := h)).mono fun e W' hq => ?_
  obtain ⟨he, bel0⟩ := hq
  have bel : Below W.heap.size W W' := bel0
  subst he
  exact ⟨_, rfl, _, _, _, [], _, [], hW', trodAll_mk1 (shut_bool Try.underlying4 _), (trodAll_cons_mk (Below.trod laidOut (by kernel_rfl) (of_decide_eq_true (by kernel_rfl)) k0 bel lt0) (trodAll_cons_mk (Below.trod laidOut (by kernel_rfl) (of_decide_eq_true (by kernel_rfl)) k1 bel lt1) (trodAll_cons_mk (Below.trod laidOut (by kernel_rfl) (of_decide_eq_true (by kernel_rfl)) k2 bel lt2) (trodAll_cons_mk (Below.trod laidOut (by kernel_rfl) (of_decide_eq_true (by kernel_rfl)) k3 bel lt3) trodAll_mk0)))), rfl, bel.frame _, fun h => by cases h⟩
theorem over : Rows.phasorPhasesRow.holds Try.pinned (OpenSpec.ofChange Rows.phasorPhasesSpec) :=
  OpenClaim.holds_of_wide 7 Try.f7 rfl rfl rfl rfl rfl rfl rfl ⟨rfl, rfl, rfl, rfl, rfl⟩ rfl rfl rfl rfl rfl (by kernel_rfl) Try.func7 (by kernel_rfl)
    (of_decide_eq_true (by kernel_rfl)) (by unfold Func.isWrapper; first | (rw [if_pos (by decide +kernel)]; kernel_rfl) | (rw [if_neg (by decide +kernel)]; exact ⟨rfl, rfl⟩))
    (fun os started H enc _ => lifted os started H enc)
theorem proved : Rows.PhasorPhasesSaid := over
#print axioms proved
end Go.Proofs.Ytapimggcnneabaa.phasorPhases
namespace Go.Proofs.Ytapimggcnneabaa
/-- The row, under a short name, for the claim. -/
theorem phasorPhases_holds : Rows.PhasorPhasesSaid := phasorPhases.proved
end Go.Proofs.Ytapimggcnneabaa
