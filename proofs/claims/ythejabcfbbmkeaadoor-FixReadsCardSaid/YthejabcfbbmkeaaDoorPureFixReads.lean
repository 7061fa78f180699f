/- FixReads: what Read takes writes back as it was; what it bars is no number's text, or is a long one. -/
import Derived.Test.YthejabcfbbmkeaaDoorFixTG
import Derived.Test.YthejabcfbbmkeaaDoorPGx6
set_option linter.unusedVariables false
set_option linter.unusedSimpArgs false
namespace Go.Proofs.YthejabcfbbmkeaaDoor.Pure
open Go.RowKit Go.Proofs.YthejabcfbbmkeaaDoor.PG Go.Proofs.YthejabcfbbmkeaaDoor.PureG Go.Proofs.YthejabcfbbmkeaaDoor.Num Go.Proofs.YthejabcfbbmkeaaDoor.Dig Go.Proofs.YthejabcfbbmkeaaDoorW.PrintWords Go.Proofs.YthejabcfbbmkeaaDoorW.PrintLast Go.Proofs.YthejabcfbbmkeaaDoorW.PrintMore
theorem FixReads : pylonlaw01_FixReads.Pure := by
  intro s hs
  obtain ⟨l, rfl⟩ : ∃ l : List UInt8, s = ⟨l.toArray⟩ := ⟨s.data.toList, rfl⟩
  rw [sz_mk] at hs
  apply ev_ex
  unfold pylonlaw01_FixReads.f
  refine Ev.bind awake_ev ?_
  simp only [if_true]
  refine Ev.bind (read_f l (by omega)) ?_
  have hT := istext_f l (by omega)
  unfold readA fits
  by_cases hn : isNum l
  · rw [if_pos hn]
    by_cases c : -9223372036854775808 ≤ num l ∧ num l ≤ 9223372036854775807
    · rw [if_pos c]
      simp only [if_true, text_f c.1 c.2, Option.bind_some, itoa_of_num hn, list_mk, beq_self_eq_true]
      exact Ev.now _
    · rw [if_neg c]
      simp only [show ¬ (5 : Int) = 0 by omega, if_false, if_true]
      refine Ev.bind hT ?_
      have := long_num hn c
      simp only [decide_eq_true hn, if_true, sz_mk, decide_eq_true (show ((l.length : Nat) : Int) ≥ 19 by omega)]
      exact Ev.now _
  · rw [if_neg hn]
    simp only [show ¬ (1 : Int) = 0 by omega, show ¬ (1 : Int) = 5 by omega, if_false, if_true]
    refine Ev.bind hT ?_
    simp only [decide_eq_false hn, Bool.not_false]
    exact Ev.now _
end Go.Proofs.YthejabcfbbmkeaaDoor.Pure
