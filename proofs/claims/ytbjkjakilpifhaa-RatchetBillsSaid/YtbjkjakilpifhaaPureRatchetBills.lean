/- RatchetBills holds: every Billed of the program is the reference's; whatever the input, the law answers true and its arguments read as before. -/
import Derived.Test.YtbjkjakilpifhaaRatR
import Derived.Test.YtbjkjakilpifhaaPRx6
set_option linter.unusedVariables false
namespace Go.Proofs.Ytbjkjakilpifhaa.Pure
open Go.RowKit Go.Proofs.Ytbjkjakilpifhaa.PR Go.Proofs.Ytbjkjakilpifhaa.Num Go.Proofs.Ytbjkjakilpifhaa.PureR Go.Proofs.YtbjkjakilpifhaaW.PrintWords Go.Proofs.YtbjkjakilpifhaaW.PrintLast Go.Proofs.YtbjkjakilpifhaaW.PrintMore
theorem RatchetBills : pylonlaw18_RatchetBills.Pure := by
  intro l p m _ hl hw hp hm
  refine Ev.rounds (g := fun k => pylonlaw18_RatchetBills.f k l p m) ?_
  obtain ⟨r, hr, hA⟩ := ref_billed_f (l := l) (p := p) (m := m) (by omega)
  obtain ⟨q, hq, hB⟩ := billed_f (l := l) (p := p) (m := m) (by omega)
  have e := hA.unique hB
  subst e
  unfold pylonlaw18_RatchetBills.f
  refine Ev.bind awake_ev ?_
  simp only [if_true]
  refine Ev.bind hr ?_
  simp only [Option.bind_some, List.nil_append, List.length_nil, if_pos (show 0 + l.length < 17592186044416 by omega)]
  refine Ev.bind hq ?_
  simp only [if_true]
  exact Ev.ofEq (by simp)
end Go.Proofs.Ytbjkjakilpifhaa.Pure
