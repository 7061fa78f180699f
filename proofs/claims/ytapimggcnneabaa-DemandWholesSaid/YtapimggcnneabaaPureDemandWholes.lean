/- DemandWholes holds: the whole windows. -/
import Derived.Test.YtapimggcnneabaaDemandWD
import Derived.Test.YtapimggcnneabaaPDx7
set_option linter.unusedVariables false
set_option linter.unusedSimpArgs false
namespace Go.Proofs.Ytapimggcnneabaa.Pure
open Go.RowKit Go.Proofs.Ytapimggcnneabaa.PD Go.Proofs.Ytapimggcnneabaa.PureD Go.Proofs.Ytapimggcnneabaa.Num Go.Proofs.Ytapimggcnneabaa.Flt Go.Proofs.YtapimggcnneabaaW.PrintWords Go.Proofs.YtapimggcnneabaaW.PrintLast Go.Proofs.YtapimggcnneabaaW.PrintMore
theorem DemandWholes : pylonlaw16_DemandWholes.Pure := by
  intro t0 st mi f t _ _ _ _ _
  refine ev_ex (r := true) ?_
  have key : ∃ R : List S90 × Int, Ev (fun k => demand_Whole.f k t0 st mi f t) R ∧ Ev (fun k => pylonref16_Whole.f k t0 st mi f t) R ∧ (R.1.length : Int) ≤ 140737488355328 := by
    by_cases h : OkW t0 st mi f t
    · have := theWins_len h
      exact ⟨_, whole_f _ _ _ _ _ h, refwhole_f _ _ _ _ _ h, by simp only; omega⟩
    · exact ⟨_, whole_no _ _ _ _ _ h, refwhole_no _ _ _ _ _ h, by simp⟩
  obtain ⟨R, e1, e2, hl⟩ := key
  unfold pylonlaw16_DemandWholes.f
  refine ev_bind awake_ev ?_
  simp only [if_true]
  refine ev_bind e2 (ev_bind e1 ?_)
  simp only [if_true]
  exact ev_bind (same_f hl) (Ev.now _)
end Go.Proofs.Ytapimggcnneabaa.Pure
