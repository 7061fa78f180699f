/- DemandPowers holds: every Power. -/
import Derived.Test.YtapimggcnneabaaDemandD
import Derived.Test.YtapimggcnneabaaPDx5
set_option linter.unusedVariables false
set_option linter.unusedSimpArgs false
namespace Go.Proofs.Ytapimggcnneabaa.Pure
open Go.RowKit Go.Proofs.Ytapimggcnneabaa.PD Go.Proofs.Ytapimggcnneabaa.PureD Go.Proofs.Ytapimggcnneabaa.Num Go.Proofs.Ytapimggcnneabaa.Flt Go.Proofs.YtapimggcnneabaaW.PrintWords Go.Proofs.YtapimggcnneabaaW.PrintLast Go.Proofs.YtapimggcnneabaaW.PrintMore
theorem DemandPowers : pylonlaw16_DemandPowers.Pure := by
  intro a b m ha hb hm
  refine ev_ex (r := true) ?_
  have hz : Bits (cx a b) := ⟨wf_lt ha, wf_lt hb⟩
  have key : ∃ R : Int × Int, Ev (fun k => demand_Power.f k (cx a b) m) R ∧ Ev (fun k => pylonref16_Power.f k (cx a b) m) R := by
    by_cases hl : Len m
    · by_cases g : GoodC 40000000000 (cx a b)
      · obtain ⟨A, B, s⟩ := g
        exact ⟨_, power_ok hz s hl, refpower_ok s hl⟩
      · exact ⟨_, power_no hz g hl, refpower_no g hl⟩
    · exact ⟨_, power_arg hl, refpower_arg hl⟩
  obtain ⟨R, e1, e2⟩ := key
  unfold pylonlaw16_DemandPowers.f pylonlaw16_Z_c.f
  refine ev_bind awake_ev ?_
  simp only [if_true, Option.bind_some]
  refine ev_bind e2 (ev_bind e1 ?_)
  simp only [if_true]
  exact Ev.ofEq (by simp)
end Go.Proofs.Ytapimggcnneabaa.Pure
