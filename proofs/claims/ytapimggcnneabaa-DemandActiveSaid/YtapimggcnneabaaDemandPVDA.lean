/- The reference's points. -/
import Derived.Test.YtapimggcnneabaaDemandPDA
import Derived.Test.YtapimggcnneabaaDemandVDA
import Derived.Test.YtapimggcnneabaaPDAx5
set_option linter.unusedVariables false
set_option linter.unusedSimpArgs false
namespace Go.Proofs.Ytapimggcnneabaa.PureDA
open Go.RowKit Go.Proofs.Ytapimggcnneabaa.PDA Go.Proofs.Ytapimggcnneabaa.Num Go.Proofs.Ytapimggcnneabaa.Flt Go.Proofs.YtapimggcnneabaaW.PrintWords Go.Proofs.YtapimggcnneabaaW.PrintLast Go.Proofs.YtapimggcnneabaaW.PrintMore

theorem rfits_yes {z : Cx} (h : GoodC 10000000000 z) : pylonref12_Fits.f z = some (val z.re, val z.im, true) := by
  unfold pylonref12_Fits.f
  rw [within_yes (M := 10000000000) (by omega) (by omega) h.small]
  rfl
theorem rfits_no {z : Cx} (h : ¬ GoodC 10000000000 z) : ∃ a b, pylonref12_Fits.f z = some (a, b, false) := by
  obtain ⟨a, b, e⟩ := within_no (M := 10000000000) (by omega) (by omega) h
  unfold pylonref12_Fits.f
  rw [e]
  exact ⟨a, b, rfl⟩

end Go.Proofs.Ytapimggcnneabaa.PureDA
