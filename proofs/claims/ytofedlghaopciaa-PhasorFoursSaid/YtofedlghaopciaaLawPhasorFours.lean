/- PhasorFours: for every input the law returns true, and the input reads as it did. -/
import Derived.Test.YtofedlghaopciaaRows
import Derived.Test.YtofedlghaopciaaFourNQ
import Derived.Test.YtofedlghaopciaaXOpen
import Derived.WalkKit
import Derived.ProofKit
import Derived.OpenShut
import Derived.ShutString
import Derived.ChangeOld
import Derived.Below
import Derived.SizedLaws
namespace Go.Proofs.Ytofedlghaopciaa.phasorFours
open Go.ChangeShapes Go.WideShapes Go.ChangeAt Go.RowKit Go.Proofs.Ytofedlghaopciaa.FourW Go.Proofs.YtofedlghaopciaaW.PrintWords
set_option linter.unusedVariables false
set_option linter.unusedSimpArgs false
theorem own : ownKnob Try.prog.godebug = none := by kernel_rfl
theorem laidOut : laidOutB Try.prog = true := by kernel_rfl
theorem wf16 {x : Int} (h : (Lit.int .i16 x).wf = true) : x.natAbs ≤ 32768 := by
  have : -32768 ≤ x ∧ x ≤ 32767 := by simpa [Lit.wf, IntKind.min, IntKind.max, IntKind.bits, IntKind.signed] using h
  omega
theorem open_one {H : Type} {enc : TypeId × Value → H} {W : World} {base : Nat} {spare : Nat → Bool} {held : Bool} {m : Nat} {c : Value} {x : DataW H × List MemPlace} (h : DataW.trod enc Try.prog W base spare held m 22 [c] = some x) : ∃ n : Int, c = .int .i16 n ∧ n.natAbs ≤ 32768 := by
  obtain ⟨n, e0, _, wn⟩ := DataW.trod_int Try.underlying22 h
  simp at e0
  exact ⟨n, e0, wf16 wn⟩
/-- An array of eight numbers, opened. -/
theorem open_arr {H : Type} {enc : TypeId × Value → H} {W : World} {base : Nat} {spare : Nat → Bool} {held : Bool} {v : Value} {x : DataW H} {ps : List MemPlace} {r : Reach} {b0 : Nat} (hv : Value.okWide Try.prog W r b0 23 v) (h : DataW.Trod enc Try.prog W base spare held 23 v x ps) :
    ∃ f : Nat → Int, v = .agg (arr8 f) ∧ ∀ i, i < 8 → (f i).natAbs ≤ 32768 := by
  have hu : Try.prog.underlying 23 = some (.array 8 22) := Try.underlying23
  have hc1 : Try.prog.cellsOf 22 = 1 := by kernel_rfl
  have hc8 : Try.prog.cellsOf 23 = 8 := by kernel_rfl
  obtain ⟨cs, rfl⟩ : ∃ cs, v = .agg cs := by
    simp only [Value.okWide, hu] at hv
    obtain ⟨cs, rfl, _⟩ := hv
    exact ⟨cs, rfl⟩
  obtain ⟨fuel, hf⟩ := h
  obtain ⟨xs, m, rfl, _, hl, hxl, hg⟩ := DataW.trod_array hu hf
  rw [hc8] at hl
  rw [hc1] at hg
  obtain ⟨l, hcl⟩ : ∃ l : List Value, cs = l.toArray := ⟨cs.toList, by simp⟩
  subst hcl
  have hl' : l.length = 8 := by simpa [Value.cells] using hl
  have key : ∀ i c, i < 8 → l[i]? = some c → ∃ n : Int, c = .int .i16 n ∧ n.natAbs ≤ 32768 := by
    intro i c hi hc
    have h1 := hg i hi
    have e : (((Value.agg l.toArray).cells.toList.drop (i * 1)).take 1) = [c] := by
      have hlt : i < l.length := by omega
      have hci : l[i] = c := by rw [List.getElem?_eq_getElem hlt] at hc; exact Option.some.inj hc
      show ((l.toArray.toList.drop (i * 1)).take 1) = [c]
      rw [Nat.mul_one, List.toList_toArray, List.drop_eq_getElem_cons hlt, hci]
      rfl
    rw [e] at h1
    have hix : i < xs.length := by omega
    rw [List.getElem?_eq_getElem hix] at h1
    exact open_one h1
  obtain ⟨a0, a1, a2, a3, a4, a5, a6, a7, rfl⟩ : ∃ a0 a1 a2 a3 a4 a5 a6 a7, l = [a0, a1, a2, a3, a4, a5, a6, a7] := by
    match l, hl' with
    | [a0, a1, a2, a3, a4, a5, a6, a7], _ => exact ⟨_, _, _, _, _, _, _, _, rfl⟩
  obtain ⟨n0, rfl, b0⟩ := key 0 a0 (by decide) rfl
  obtain ⟨n1, rfl, b1⟩ := key 1 a1 (by decide) rfl
  obtain ⟨n2, rfl, b2⟩ := key 2 a2 (by decide) rfl
  obtain ⟨n3, rfl, b3⟩ := key 3 a3 (by decide) rfl
  obtain ⟨n4, rfl, b4⟩ := key 4 a4 (by decide) rfl
  obtain ⟨n5, rfl, b5⟩ := key 5 a5 (by decide) rfl
  obtain ⟨n6, rfl, b6⟩ := key 6 a6 (by decide) rfl
  obtain ⟨n7, rfl, b7⟩ := key 7 a7 (by decide) rfl
  refine ⟨fun i => [n0, n1, n2, n3, n4, n5, n6, n7].getD i 0, rfl, fun i hi => ?_⟩
  rcases eight_of hi with rfl | rfl | rfl | rfl | rfl | rfl | rfl | rfl
  · exact b0
  · exact b1
  · exact b2
  · exact b3
  · exact b4
  · exact b5
  · exact b6
  · exact b7
set_option maxRecDepth 100000 in
theorem lifted (os : Os) (started : os.Started) (H : Type) (enc : TypeId × Value → H) :
    ReturnsInHanded {} Try.checked os 3 .any (Rows.phasorFoursSpec.pre6 enc Try.prog Try.f3 Rows.phasorFoursRow.domain false) (Rows.phasorFoursSpec.post enc Try.prog Try.f3 false true false false) := by
  refine returnsInHanded_of_change_sized (C := Try.checked) own started (by kernel_rfl) Try.func3
    (ChangeSpec.witness6 (enc := enc) (C := Try.checked) false ⟨#[], #[.agg (arr8 fun _ => 0), .agg (arr8 fun _ => 0)], []⟩ 8 (by kernel_rfl) (by kernel_rfl) (by kernel_rfl) (by kernel_rfl)) ?_
  intro W base args ds gs before hval0 hW hcnd hsz0 _
  have hval : ∀ (j : Nat) t v, Try.f3.params[j]? = some t → args[j]? = some v → Value.okWide Try.prog W .any base t v := hval0
  have hW' := hW
  obtain ⟨p, q, hA0, hV, rfl, hfz, hnd⟩ := hW
  have hA : DataW.TrodAll enc Try.prog W 0 (fun _ => true) true Try.f3.params.toList args.toList ds p := hA0
  rw [Try.params3] at hA hval
  obtain ⟨v0, vs0, d0, ds0, p0, q0, hargs, rfl, rfl, h0, r0⟩ := trodAll_cons hA
  obtain ⟨v1, vs1, d1, ds1, p1, q1, rfl, rfl, rfl, h1, r1⟩ := trodAll_cons r0
  obtain ⟨rfl, rfl, rfl⟩ := trodAll_nil r1
  obtain rfl : args = #[v0, v1] := by cases args; simp_all
  obtain ⟨rfl, rfl⟩ := trodVars_none hV
  have k0 := h0
  have lt0 : ∀ x ∈ p0, x.block < W.heap.size := by obtain ⟨m, hm⟩ := k0; exact DataW.trod_lt m _ _ _ hm
  have k1 := h1
  have lt1 : ∀ x ∈ p1, x.block < W.heap.size := by obtain ⟨m, hm⟩ := k1; exact DataW.trod_lt m _ _ _ hm
  obtain ⟨xs, rfl, hx⟩ := open_arr (hval 0 23 v0 rfl rfl) h0
  obtain ⟨ys, rfl, hy⟩ := open_arr (hval 1 23 v1 rfl rfl) h1
  clear hA0 hval0 hsz0
  refine (fours_calls xs ys hx hy W).mono fun e W' hq => ?_
  obtain ⟨he, bel⟩ := hq
  subst he
  exact ⟨_, rfl, _, _, _, [], _, [], hW', trodAll_mk1 (shut_bool Try.underlying4 _), (trodAll_cons_mk (Below.trod laidOut (by kernel_rfl) (of_decide_eq_true (by kernel_rfl)) k0 bel lt0) (trodAll_cons_mk (Below.trod laidOut (by kernel_rfl) (of_decide_eq_true (by kernel_rfl)) k1 bel lt1) trodAll_mk0)), rfl, bel.frame _, fun h => by cases h⟩
theorem over : Rows.phasorFoursRow.holds Try.pinned (OpenSpec.ofChange Rows.phasorFoursSpec) :=
  OpenClaim.holds_of_wide 3 Try.f3 rfl rfl rfl rfl rfl rfl rfl ⟨rfl, rfl, rfl, rfl, rfl⟩ rfl rfl rfl rfl rfl (by kernel_rfl) Try.func3 (by kernel_rfl)
    (of_decide_eq_true (by kernel_rfl)) (by unfold Func.isWrapper; first | (rw [if_pos (by decide +kernel)]; kernel_rfl) | (rw [if_neg (by decide +kernel)]; exact ⟨rfl, rfl⟩))
    (fun os started H enc _ => lifted os started H enc)
theorem proved : Rows.PhasorFoursSaid := over
end Go.Proofs.Ytofedlghaopciaa.phasorFours
namespace Go.Proofs.Ytofedlghaopciaa
/-- The row, under a short name, for the claim. -/
theorem phasorFours_holds : Rows.PhasorFoursSaid := phasorFours.proved
#print axioms phasorFours_holds
end Go.Proofs.Ytofedlghaopciaa
