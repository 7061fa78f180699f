/- FixDivs holds: a is q * b + r, and r is from 0 to one less than b's distance from 0; whatever the input, the law answers true and its arguments read as before. -/
import Derived.Test.YthejabcfbbmkeaaDoorFixAF
import Derived.Test.YthejabcfbbmkeaaDoorPFx3
set_option linter.unusedVariables false
namespace Go.Proofs.YthejabcfbbmkeaaDoor.Pure
open Go.RowKit Go.Proofs.YthejabcfbbmkeaaDoor.PF Go.Proofs.YthejabcfbbmkeaaDoor.Num Go.Proofs.YthejabcfbbmkeaaDoor.PureF Go.Proofs.YthejabcfbbmkeaaDoorW.PrintWords Go.Proofs.YthejabcfbbmkeaaDoorW.PrintLast Go.Proofs.YthejabcfbbmkeaaDoorW.PrintMore
theorem FixDivs : pylonlaw01_FixDivs.Pure := by
  intro a b ha hb
  have wa := wf32 ha
  have wb := wf32 hb
  refine Ev.rounds (g := fun k => pylonlaw01_FixDivs.f k a b) ?_
  unfold pylonlaw01_FixDivs.f
  refine Ev.bind awake_ev ?_
  have ea : wrap64 a = a := i64in (by omega) (by omega)
  have eb : wrap64 b = b := i64in (by omega) (by omega)
  simp only [if_true, ea, eb]
  by_cases h0 : b = 0
  · subst h0
    refine Ev.bind (a := (0, 0, 6)) (by unfold fix_Div.f; simp only [if_true]; exact Ev.now _) ?_
    simp only [if_true]
    exact Ev.now _
  · obtain ⟨q, r, hf, h1, h2, h3, h4, h5, h6⟩ := div_f h0 (by omega) (by omega) (by omega) (by omega) (show ¬ (a = -9223372036854775808 ∧ b = -1) by omega)
    refine Ev.bind hf ?_
    have em : wrap64 (q * b) = q * b := i64in (by omega) (by omega)
    have es : wrap64 (q * b + r) = a := by rw [h1, ea]
    simp only [if_neg h0, if_neg (show ¬ q > 4294967296 by omega), if_neg (show ¬ q < -4294967296 by omega), if_true, em, es, if_pos (show r ≥ 0 from h2)]
    by_cases c : b < 0
    · simp only [if_pos c, i64in (x := -b) (by omega) (by omega), decide_eq_true (show r < -b by omega)]
      exact Ev.now _
    · simp only [if_neg c, decide_eq_true (show r < b by omega)]
      exact Ev.now _
end Go.Proofs.YthejabcfbbmkeaaDoor.Pure
