/- The reference's lengths of a window. -/
import Derived.Test.YtapimggcnneabaaDemandDK
import Derived.Test.YtapimggcnneabaaPDKx4
set_option linter.unusedVariables false
set_option linter.unusedSimpArgs false
namespace Go.Proofs.Ytapimggcnneabaa.PureDK
open Go.RowKit Go.Proofs.Ytapimggcnneabaa.PDK Go.Proofs.Ytapimggcnneabaa.Num Go.Proofs.Ytapimggcnneabaa.Flt Go.Proofs.YtapimggcnneabaaW.PrintWords Go.Proofs.YtapimggcnneabaaW.PrintLast Go.Proofs.YtapimggcnneabaaW.PrintMore

theorem rlen_yes {m : Int} (h : Len m) : pylonref16_length.f m = some true := by
  rcases h with rfl | rfl | rfl <;> rfl
theorem rlen_no {m : Int} (h : ¬ Len m) : pylonref16_length.f m = some false := by
  unfold pylonref16_length.f
  rw [if_neg (fun e => h (.inl e)), if_neg (fun e => h (.inr (.inl e))), show (m == 60) = false from beq_eq_false_iff_ne.mpr (fun e => h (.inr (.inr e)))]

end Go.Proofs.Ytapimggcnneabaa.PureDK
