/- DemandPeaks holds: the greatest power of the whole windows. -/
import Derived.Test.YtapimggcnneabaaDemandPD
import Derived.Test.YtapimggcnneabaaPDx11
set_option linter.unusedVariables false
set_option linter.unusedSimpArgs false
namespace Go.Proofs.Ytapimggcnneabaa.Pure
open Go.RowKit Go.Proofs.Ytapimggcnneabaa.PD Go.Proofs.Ytapimggcnneabaa.PureD Go.Proofs.Ytapimggcnneabaa.Num Go.Proofs.Ytapimggcnneabaa.Flt Go.Proofs.YtapimggcnneabaaW.PrintWords Go.Proofs.YtapimggcnneabaaW.PrintLast Go.Proofs.YtapimggcnneabaaW.PrintMore
theorem DemandPeaks : pylonlaw16_DemandPeaks.Pure := by
  intro l t0 st mi f t hl _ _ _ _ _
  refine ev_ex (r := true) ?_
  have hlen : (l.map conv).length = l.length := List.length_map ..
  unfold pylonlaw16_DemandPeaks.f
  refine ev_bind awake_ev ?_
  simp only [if_true]
  refine ev_bind (numbers_f hl.1) (ev_bind (refpeak_f _ _ _ _ _ _) ?_)
  simp only [Option.bind_some, List.nil_append, List.length_nil, if_pos (show 0 + (l.map conv).length < 8796093022208 by omega)]
  refine ev_bind (peak_f (bits_conv hl.2) _ _ _ _ _) ?_
  simp only [if_true]
  exact Ev.ofEq (by simp)
end Go.Proofs.Ytapimggcnneabaa.Pure
