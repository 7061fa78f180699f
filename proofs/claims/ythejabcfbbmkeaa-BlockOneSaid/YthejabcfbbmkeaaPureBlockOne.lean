/- BlockOne holds: a single step's price is its rate's product, divided by 1000, half up; whatever the input, the law answers true and its arguments read as before. -/
import Derived.Test.YthejabcfbbmkeaaBlockPB
import Derived.Test.YthejabcfbbmkeaaPBx11
set_option linter.unusedVariables false
namespace Go.Proofs.Ythejabcfbbmkeaa.Pure
open Go.RowKit Go.Proofs.Ythejabcfbbmkeaa.PB Go.Proofs.Ythejabcfbbmkeaa.Num Go.Proofs.Ythejabcfbbmkeaa.PureB Go.Proofs.YthejabcfbbmkeaaW.PrintWords Go.Proofs.YthejabcfbbmkeaaW.PrintLast Go.Proofs.YthejabcfbbmkeaaW.PrintMore
theorem one_price {r w : Int} (h0 : -10000000 ≤ r) (h1 : r ≤ 10000000) (w0 : 0 ≤ w) (w1 : w ≤ 500000000000000) : priceA [(⟨0, r⟩ : S35)] w = prOf (w * r) := by
  have hg : goodL [(⟨0, r⟩ : S35)] = true := by
    simp only [goodL, gB, rateOk, decide_eq_true h0, decide_eq_true h1]; rfl
  have hp : partsA [(⟨0, r⟩ : S35)] w = ([w], 0) := by
    unfold partsA
    rw [if_pos hg, if_pos ⟨w0, w1⟩]
    simp only [pR]
    rw [show mx 0 (mn w 500000000000000 - 0) = w by unfold mx mn; (repeat' split) <;> omega]
  unfold priceA
  rw [hp]
  simp [tR]
theorem one_j0 {H V : Int} {P : Int × Int} (hH : -1000000000000000 ≤ H ∧ H ≤ 1000000000000000) (hP : (P = (0, 5)) ∨ (P = (V, 0) ∧ -1000000000000000 ≤ V ∧ V ≤ 1000000000000000 ∧ (H + V = 0 ∨ H + V = 1))) :
    Ev (fun k => pylonlaw17_BlockOne.j0 k H 0 P.1 P.2 H false) true := by
  refine Ev.shift ?_
  simp only [pylonlaw17_BlockOne.j0, Bool.false_eq_true, if_false, if_true]
  rcases hP with rfl | ⟨rfl, v0, v1, hv⟩
  · simp only [if_true]
    exact Ev.now _
  · have e : wrap64 (H + V) = H + V := i64in (by omega) (by omega)
    simp only [if_neg (show ¬ (0 : Int) = 5 by omega), if_true, e]
    rcases hv with hv | hv
    · simp only [hv, if_true]; exact Ev.now _
    · simp only [hv, if_neg (show ¬ (1 : Int) = 0 by omega), beq_self_eq_true]; exact Ev.now _
theorem BlockOne : pylonlaw17_BlockOne.Pure := by
  intro a0 a1 h0 h1
  have w0 := wf64 h0
  have w1 := wf64 h1
  refine Ev.rounds (g := fun k => pylonlaw17_BlockOne.f k a0 a1) ?_
  unfold pylonlaw17_BlockOne.f
  refine Ev.bind awake_ev ?_
  obtain ⟨e, he, e0, e1⟩ := energy_f w1.1 w1.2
  simp only [if_true, he, Option.bind_some]
  have hr : -10000000 ≤ Int.tmod a0 10000001 ∧ Int.tmod a0 10000001 ≤ 10000000 := by
    have a := Int.tmod_lt_of_pos a0 (show (0 : Int) < 10000001 by omega)
    have b := Int.lt_tmod_of_pos a0 (show (0 : Int) < 10000001 by omega)
    omega
  have hw : 0 ≤ Int.tmod e 1000000000000 ∧ Int.tmod e 1000000000000 < 1000000000000 := by rw [tmodn e0]; omega
  generalize Int.tmod a0 10000001 = r at *
  generalize Int.tmod e 1000000000000 = w at *
  have en : wrap64 (-r) = -r := i64in (by omega) (by omega)
  rw [en]
  refine Ev.bind (price_f (l := [(⟨0, r⟩ : S35)]) (wh := w) (by simp) (by omega) (by omega)) ?_
  refine Ev.bind (price_f (l := [(⟨0, -r⟩ : S35)]) (wh := w) (by simp) (by omega) (by omega)) ?_
  refine Ev.bind (ref_muldiv_f (a := w) (b := r) (c := 1000) (wf_i (by omega) (by omega)) (wf_i (by omega) (by omega)) (by decide)) ?_
  rw [one_price hr.1 hr.2 hw.1 (by omega), one_price (r := -r) (by omega) (by omega) hw.1 (by omega)]
  have hb := prod_bounds (q := w) (r := r) hw.1 hr.1 hr.2
  have hz : w * -r = -(w * r) := Int.mul_neg ..
  rw [hz]
  have s1 := halfUp_spec (w * r) (d := 1000) (by omega)
  have s2 := halfUp_spec (-(w * r)) (d := 1000) (by omega)
  have em : mulDivA w r 1000 = (halfUp (w * r) 1000, 0) := by
    unfold mulDivA mulDiv
    rw [if_neg (by omega), if_neg (by omega)]
    unfold fits
    rw [if_pos (by omega)]
  rw [em]
  unfold prOf
  generalize halfUp (w * r) 1000 = H at *
  generalize halfUp (-(w * r)) 1000 = V at *
  generalize w * r = z at *
  simp only [if_true]
  by_cases a : H > 1000000000000000
  · simp only [if_pos a, if_neg (show ¬ (-1000000000000000 ≤ H ∧ H ≤ 1000000000000000) by omega)]
    refine Ev.shift ?_
    simp only [pylonlaw17_BlockOne.j0, if_true]
    exact Ev.now _
  · simp only [if_neg a]
    by_cases c : H < -1000000000000000
    · simp only [decide_eq_true c, if_neg (show ¬ (-1000000000000000 ≤ H ∧ H ≤ 1000000000000000) by omega)]
      refine Ev.shift ?_
      simp only [pylonlaw17_BlockOne.j0, if_true]
      exact Ev.now _
    · simp only [decide_eq_false c, if_pos (show (-1000000000000000 ≤ H ∧ H ≤ 1000000000000000) by omega)]
      refine one_j0 (V := V) (by omega) ?_
      by_cases v : -1000000000000000 ≤ V ∧ V ≤ 1000000000000000
      · rw [if_pos v]; exact .inr ⟨rfl, v.1, v.2, by omega⟩
      · rw [if_neg v]; exact .inl rfl
end Go.Proofs.Ythejabcfbbmkeaa.Pure
