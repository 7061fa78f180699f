-- Written by a program of this session for this claim (wip/print2.sh). Lean checks it.
import Derived.Test.YtapimggcnneabaaRows
import Derived.Test.YtapimggcnneabaaPMAx5
import Derived.Test.YtapimggcnneabaaPureMeterAll
import Derived.WalkKit
import Derived.ProofKit
import Derived.OpenShut
import Derived.ShutString
import Derived.ChangeOld
import Derived.Below
import Derived.SizedLaws
namespace Go.Proofs.Ytapimggcnneabaa.meterAll
open Go.ChangeShapes Go.WideShapes Go.ChangeAt Go.RowKit Go.Proofs.Ytapimggcnneabaa.PMA Go.Proofs.YtapimggcnneabaaW.PrintWords
open Go.ChangeMaps (open_string shut_string)
set_option linter.unusedVariables false
theorem own : ownKnob Try.prog.godebug = none := by kernel_rfl
theorem laidOut : laidOutB Try.prog = true := by kernel_rfl
set_option maxRecDepth 100000 in
theorem lifted (os : Os) (started : os.Started) (H : Type) (enc : TypeId × Value → H) :
    ReturnsInHanded {} Try.checked os 10 .any (Rows.meterAllSpec.pre6 enc Try.prog Try.f10 Rows.meterAllRow.domain false) (Rows.meterAllSpec.post enc Try.prog Try.f10 false true false false) := by
  refine returnsInHanded_of_change_sized (C := Try.checked) own started (by kernel_rfl) Try.func10
    (ChangeSpec.witness6 (enc := enc) (C := Try.checked) false ⟨#[], #[.slice none 0 0], []⟩ 8 (by kernel_rfl) (by kernel_rfl) (by kernel_rfl) (by kernel_rfl)) ?_
  intro W base args ds gs before hval0 hW hcnd hsz0 _
  have hsz : (DataW.weightsEach Try.prog (Try.f10.params.toList ++ Rows.meterAllSpec.plain.varTypes Try.prog) (ds ++ gs)).all (· ≤ reachBytes) = true := hsz0
  have hval : ∀ (j : Nat) t v, Try.f10.params[j]? = some t → args[j]? = some v → Value.okWide Try.prog W .any base t v := hval0
  have hW' := hW
  obtain ⟨p, q, hA0, hV, rfl, hfz, hnd⟩ := hW
  have hA : DataW.TrodAll enc Try.prog W 0 (fun _ => true) true Try.f10.params.toList args.toList ds p := hA0
  rw [Try.params10] at hA hval hsz
  obtain ⟨v0, vs0, d0, ds0, p0, q0, hargs, rfl, rfl, h0, r0⟩ := trodAll_cons hA
  obtain ⟨rfl, rfl, rfl⟩ := trodAll_nil r0
  obtain rfl : args = #[v0] := by cases args; simp_all
  obtain ⟨rfl, rfl⟩ := trodVars_none hV
  have k0 := h0
  have lt0 : ∀ x ∈ p0, x.block < W.heap.size := by obtain ⟨m, hm⟩ := k0; exact DataW.trod_lt m _ _ _ hm
  obtain ⟨x0, hK0, ok0⟩ := opens_arg (j := 0) (opens_slice Try.underlying68 (B := 128) (by kernel_rfl) (by kernel_rfl) (opens73 W)) hsz rfl rfl h0
  obtain ⟨A0, c0, hcs0, hcap0, hR0⟩ := hK0
  obtain ⟨a_0, len_0, cap_0, rfl⟩ := okWide_slice Try.underlying68 (hval 0 68 v0 rfl rfl)
  have hv0 := arg_one (by rfl) hcs0
  rw [hv0] at hW' k0 ⊢
  clear hA0 hval0 hsz0 hsz
  have P := Pure.MeterAll
  unfold pylonlaw12_MeterAll.Pure at P
  obtain ⟨k, h⟩ := P _ ok0
  refine (pylonlaw12_MeterAll.calls (k := k) (A0 := A0) (c0 := c0) (l0 := x0) (hr0 := hR0) (hc0 := hcap0) (r := true) (w := W) (h := h)).mono fun e W' hq => ?_
  obtain ⟨he, bel0⟩ := hq
  have bel : Below W.heap.size W W' := bel0
  subst he
  exact ⟨_, rfl, _, _, _, [], _, [], hW', trodAll_mk1 (shut_bool Try.underlying4 _), (trodAll_cons_mk (Below.trod laidOut (by kernel_rfl) (of_decide_eq_true (by kernel_rfl)) k0 bel lt0) trodAll_mk0), rfl, bel.frame _, fun h => by cases h⟩
theorem over : Rows.meterAllRow.holds Try.pinned (OpenSpec.ofChange Rows.meterAllSpec) :=
  OpenClaim.holds_of_wide 10 Try.f10 rfl rfl rfl rfl rfl rfl rfl ⟨rfl, rfl, rfl, rfl, rfl⟩ rfl rfl rfl rfl rfl (by kernel_rfl) Try.func10 (by kernel_rfl)
    (of_decide_eq_true (by kernel_rfl)) (by unfold Func.isWrapper; first | (rw [if_pos (by decide +kernel)]; kernel_rfl) | (rw [if_neg (by decide +kernel)]; exact ⟨rfl, rfl⟩))
    (fun os started H enc _ => lifted os started H enc)
theorem proved : Rows.MeterAllSaid := over
#print axioms proved
end Go.Proofs.Ytapimggcnneabaa.meterAll
namespace Go.Proofs.Ytapimggcnneabaa
/-- The row, under a short name, for the claim. -/
theorem meterAll_holds : Rows.MeterAllSaid := meterAll.proved
end Go.Proofs.Ytapimggcnneabaa
