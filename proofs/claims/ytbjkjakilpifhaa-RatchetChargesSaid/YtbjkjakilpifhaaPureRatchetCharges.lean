/- RatchetCharges holds: every Charge of the program is the reference's; whatever the input, the law answers true and its arguments read as before. -/
import Derived.Test.YtbjkjakilpifhaaRatR
import Derived.Test.YtbjkjakilpifhaaPRx6
set_option linter.unusedVariables false
namespace Go.Proofs.Ytbjkjakilpifhaa.Pure
open Go.RowKit Go.Proofs.Ytbjkjakilpifhaa.PR Go.Proofs.Ytbjkjakilpifhaa.Num Go.Proofs.Ytbjkjakilpifhaa.PureR Go.Proofs.YtbjkjakilpifhaaW.PrintWords Go.Proofs.YtbjkjakilpifhaaW.PrintLast Go.Proofs.YtbjkjakilpifhaaW.PrintMore
theorem RatchetCharges : pylonlaw18_RatchetCharges.Pure := by
  intro a b ha hb
  refine Ev.rounds (g := fun k => pylonlaw18_RatchetCharges.f k a b) ?_
  unfold pylonlaw18_RatchetCharges.f
  refine Ev.bind awake_ev ?_
  simp only [if_true]
  refine Ev.bind (ref_charge_f ha hb) ?_
  refine Ev.bind (charge_f ha hb) ?_
  simp only [if_true]
  exact Ev.ofEq (by simp)
end Go.Proofs.Ytbjkjakilpifhaa.Pure
