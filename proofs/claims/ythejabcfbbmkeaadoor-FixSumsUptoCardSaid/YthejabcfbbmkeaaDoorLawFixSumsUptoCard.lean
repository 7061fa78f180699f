-- Written by a program of this session for this claim (wip/print2.sh). Lean checks it.
import Derived.Test.YthejabcfbbmkeaaDoorRows
import Derived.Test.YthejabcfbbmkeaaDoorPFx4
import Derived.Test.YthejabcfbbmkeaaDoorPureFixSumsUpto
import Derived.Test.YthejabcfbbmkeaaDoorBulk
import Derived.Deep.DeepHandedRow
import Derived.Deep.DeepWitnessRowRef
import Derived.WalkKit
import Derived.ProofKit
import Derived.OpenShut
import Derived.ShutString
import Derived.ChangeOld
import Derived.Below
import Derived.SizedLaws
import Derived.Test.YthejabcfbbmkeaaDoorHandRow
import Derived.Test.YthejabcfbbmkeaaDoorTie
import Derived.Test.YthejabcfbbmkeaaDoorCards
import Derived.SevenTiedAt
import Derived.LaidMore
import Derived.MakeChecks
import Derived.Stop.Joined
import Derived.ProofKit
namespace Go.Proofs.YthejabcfbbmkeaaDoor.fixSumsUpto
open Go.ChangeShapes Go.WideShapes Go.ChangeAt Go.RowKit Go.Proofs.YthejabcfbbmkeaaDoor.PF Go.Proofs.YthejabcfbbmkeaaDoorW.PrintWords
open Go.ChangeMaps (open_string shut_string)
set_option linter.unusedVariables false
theorem own : ownKnob Tryd.prog.godebug = none := by kernel_rfl
theorem laidOut : laidOutB Tryd.prog = true := by kernel_rfl
theorem door_met (os : Os) (args : Array Value) : laidMetH Tryd.prog Rows.fixSumsUptoRow.laid ((World.doorLaid Tryd.prog 62 os).forCall (fun _ _ => 0) ⟨#[], args, []⟩).memory :=
  laidMetH_of_parts3 (fuel := 8) (laidMet_of_run' 8 (by kernel_rfl) (by kernel_rfl)) (by kernel_rfl) (by kernel_rfl)
theorem reads (os : Os) {H : Type} (enc : TypeId × Value → H) : ∃ places, DataW.whole enc Tryd.prog ((World.doorLaid Tryd.prog 62 os).forCall (fun _ _ => 0) ⟨#[], #[.slice none 0 0, .slice none 0 0], []⟩).memory Tryd.f6.params.toList Rows.fixSumsSpec.vars false (#[.slice none 0 0, .slice none 0 0] : Array Value).toList 8 = some ([.nil, .nil], [], places) :=
  ⟨[], by kernel_rfl⟩
set_option maxRecDepth 100000 in
theorem lifted (os : Os) (started : os.Started) (H : Type) (enc : TypeId × Value → H) (F : Stop.Interp) :
    ReturnsInHanded {} Tryd.checked os 6 .any ((Rows.OpenSpec.upto Rows.fixSumsSpec).preRow enc Tryd.prog Tryd.f6 Rows.fixSumsUptoRow.domain false Rows.fixSumsUptoRow.laid) (((Rows.OpenSpec.upto Rows.fixSumsSpec).at F).post enc Tryd.prog Tryd.f6 false true false false) := by
  obtain ⟨places, hx⟩ := reads os enc
  refine returnsInHanded_of_row (C := Tryd.checked) (s := (Rows.OpenSpec.upto Rows.fixSumsSpec)) own started (by kernel_rfl) Tryd.func6
    (witness_row_atRef (enc := enc) (C := Tryd.checked) false (World.doorLaid Tryd.prog 62 os) #[.slice none 0 0, .slice none 0 0] rfl (by kernel_rfl) (by kernel_rfl) (by kernel_rfl)
      (OpenSpec.preRow_of_cond 8 hx (by kernel_rfl) (fun c hc => by cases hc; kernel_rfl) (by kernel_rfl) (door_met os _))) ?_
  intro W base args ds gs before hval0 hW hcnd hk_ hsz0 hL _ _
  have hsz : (DataW.weightsEach Tryd.prog (Tryd.f6.params.toList ++ Rows.fixSumsSpec.plain.varTypes Tryd.prog) (ds ++ gs)).all (· ≤ reachBytes) = true := hsz0
  have hk : Rows.uptoSmall H (ds ++ gs) = true := hk_ _ rfl
  have hval : ∀ (j : Nat) t v, Tryd.f6.params[j]? = some t → args[j]? = some v → Value.okWide Tryd.prog W .any base t v := hval0
  have hW' := hW
  obtain ⟨p, q, hA0, hV, rfl, hfz, hnd⟩ := hW
  have hA : DataW.TrodAll enc Tryd.prog W 0 (fun _ => true) true Tryd.f6.params.toList args.toList ds p := hA0
  rw [Tryd.params6] at hA hval hsz
  obtain ⟨v0, vs0, d0, ds0, p0, q0, hargs, rfl, rfl, h0, r0⟩ := trodAll_cons hA
  obtain ⟨v1, vs1, d1, ds1, p1, q1, rfl, rfl, rfl, h1, r1⟩ := trodAll_cons r0
  obtain ⟨rfl, rfl, rfl⟩ := trodAll_nil r1
  obtain rfl : args = #[v0, v1] := by cases args; simp_all
  obtain ⟨rfl, rfl⟩ := trodVars_none hV
  have k0 := h0
  have lt0 : ∀ x ∈ p0, x.block < W.heap.size := by obtain ⟨m, hm⟩ := k0; exact DataW.trod_lt m _ _ _ hm
  obtain ⟨x0, hK0, ok0⟩ := opens_arg (j := 0) (opens_slice Tryd.underlying34 (B := 8) (by kernel_rfl) (by kernel_rfl) (opens_int Tryd.underlying2)) hsz rfl rfl h0
  obtain ⟨A0, c0, hcs0, hcap0, hR0⟩ := hK0
  obtain ⟨a_0, len_0, cap_0, rfl⟩ := okWide_slice Tryd.underlying34 (hval 0 34 v0 rfl rfl)
  have hv0 := arg_one (by rfl) hcs0
  rw [hv0] at hW' k0 ⊢
  have k1 := h1
  have lt1 : ∀ x ∈ p1, x.block < W.heap.size := by obtain ⟨m, hm⟩ := k1; exact DataW.trod_lt m _ _ _ hm
  obtain ⟨x1, hK1, ok1⟩ := opens_arg (j := 1) (opens_slice Tryd.underlying34 (B := 8) (by kernel_rfl) (by kernel_rfl) (opens_int Tryd.underlying2)) hsz rfl rfl h1
  obtain ⟨A1, c1, hcs1, hcap1, hR1⟩ := hK1
  obtain ⟨a_1, len_1, cap_1, rfl⟩ := okWide_slice Tryd.underlying34 (hval 1 34 v1 rfl rfl)
  have hv1 := arg_one (by rfl) hcs1
  rw [hv1] at hW' k1 ⊢
  have hT : Go.Proofs.YthejabcfbbmkeaaDoor.Hand.T1 W := Go.Proofs.YthejabcfbbmkeaaDoor.Hand.t1_of (by rw [MakeChecks.laidMetH_plain _ _ _ (by kernel_rfl)] at hL; exact hL.tail.tail)
  have hB := Bulk.bound hk
  have hB0 := Bulk.slice Tryd.underlying34 k0
  have hB1 := Bulk.slice Tryd.underlying34 k1
  simp only [Rows.uptoBulkAll, List.append_nil] at hB
  clear hA0 hval0 hsz0 hsz
  obtain ⟨k, h⟩ := Pure.FixSumsUpto _ _ ok0 ok1 (by omega)
  refine (pylonlaw01_FixSums.calls (hT_ := hT) (k := k) (A0 := A0) (c0 := c0) (l0 := x0) (hr0 := hR0) (hc0 := hcap0) (A1 := A1) (c1 := c1) (l1 := x1) (hr1 := hR1) (hc1 := hcap1) (r := true) (w := W) (h := h)).mono fun e W' hq => ?_
  obtain ⟨he, bel0⟩ := hq
  have bel : Below W.heap.size W W' := bel0
  subst he
  exact ⟨_, rfl, _, _, _, [], _, [], hW', trodAll_mk1 (shut_bool Tryd.underlying4 _), (trodAll_cons_mk (Below.trod laidOut (by kernel_rfl) (of_decide_eq_true (by kernel_rfl)) k0 bel lt0) (trodAll_cons_mk (Below.trod laidOut (by kernel_rfl) (of_decide_eq_true (by kernel_rfl)) k1 bel lt1) trodAll_mk0)), rfl, bel.frame _, fun h => by cases h⟩
theorem over : Rows.fixSumsUptoRow.holds Tryd.pinned (Rows.OpenSpec.upto Rows.fixSumsSpec) :=
  OpenClaim.holds_of_cond 6 Tryd.f6 rfl rfl rfl rfl rfl rfl rfl ⟨rfl, rfl, rfl, rfl, rfl⟩ rfl rfl rfl rfl rfl (by kernel_rfl) Tryd.func6 (by kernel_rfl)
    (of_decide_eq_true (by kernel_rfl)) (by unfold Func.isWrapper; first | (rw [if_pos (by decide +kernel)]; kernel_rfl) | (rw [if_neg (by decide +kernel)]; exact ⟨rfl, rfl⟩))
    (fun os started H enc _ F => by rw [OpenClaim.pre_eq_preRow]; exact lifted os started H enc F)
theorem proved : Rows.FixSumsUptoSaid := over
end Go.Proofs.YthejabcfbbmkeaaDoor.fixSumsUpto
namespace Go.Proofs.YthejabcfbbmkeaaDoor
/-- The row, under a short name, for the claim. -/
theorem fixSumsUpto_holds : Rows.FixSumsUptoSaid := fixSumsUpto.proved
/-- The tied card. -/
theorem fixSumsUptoCard_holds : Rows.FixSumsUptoCardSaid :=
  Claim7.holds_tied_plain_at .later [] [.data, .data, .data] true (true, "06bd059c6035e4d7c73d44ecac8991b9f771a21d9d4086929fa55cfaf7a31b80") true
    fixSumsUpto_holds (fun _ h => by cases h) (by kernel_rfl) (fun _ h => by cases h) fixSumsUpto_row_tie rfl ⟨rfl, rfl⟩ (by kernel_rfl) rfl
    (fun f fn hf hfn => by
      obtain rfl : f = 6 := Option.some.inj ((show Tryd.prog.funcNamed "pylon/pylonlaw01.FixSums" = some 6 by kernel_rfl).symm.trans hf) |>.symm
      obtain rfl : fn = Tryd.f6 := (Option.some.inj (Tryd.func6.symm.trans hfn)).symm
      exact ⟨by kernel_rfl, fun j t ht => by
        rw [Tryd.params6] at ht
        have hm : t ∈ ([34, 34] : List TypeId) := by simpa using Array.mem_of_getElem? ht
        have hall : (([34, 34] : List TypeId).all fun u => !Tryd.prog.wantsStandIn u) = true := by kernel_rfl
        exact (show Tryd.prog.wantsStandIn t = false by simpa using List.all_eq_true.1 hall t hm)⟩)
    (by kernel_rfl)
#print axioms fixSumsUptoCard_holds
end Go.Proofs.YthejabcfbbmkeaaDoor
