/- MeterSplits holds: a point's In and Out and reactive energy make the point, and one of In and Out is 0. -/
import Derived.Test.YtapimggcnneabaaMeterM
import Derived.Test.YtapimggcnneabaaPMx1
import Derived.Test.YtapimggcnneabaaPMx2
set_option linter.unusedVariables false
namespace Go.Proofs.Ytapimggcnneabaa.Pure
open Go.RowKit Go.Proofs.Ytapimggcnneabaa.PM Go.Proofs.Ytapimggcnneabaa.PureM Go.Proofs.Ytapimggcnneabaa.Num Go.Proofs.Ytapimggcnneabaa.Flt Go.Proofs.YtapimggcnneabaaW.PrintWords Go.Proofs.YtapimggcnneabaaW.PrintLast Go.Proofs.YtapimggcnneabaaW.PrintMore
theorem wf_float {x : Nat} (h : (Lit.float .f64 x).wf = true) : x < 18446744073709551616 := by
  simpa [Lit.wf] using h
theorem MeterSplits : pylonlaw12_MeterSplits.Pure := by
  intro a b ha hb
  have ha := wf_float ha
  have hb := wf_float hb
  refine ⟨0 + 1, ?_⟩
  unfold pylonlaw12_MeterSplits.f pylonlaw12_Z_c.f meter_Split.f
  rw [awake_ok]
  simp only [Option.bind_some, if_true]
  by_cases h : ∃ A B, Small (cx a b) A B
  · obtain ⟨A, B, h⟩ := h
    rw [fits_yes (z := cx a b) ha hb h]
    obtain ⟨⟨h1, h2⟩, h3, h4⟩ := h
    obtain ⟨c1, c2⟩ := h1.toint (by omega) (by omega)
    obtain ⟨c3, c4⟩ := h3.toint (by omega) (by omega)
    have e1 : wrap64 (-A) = -A := i64in (by omega) (by omega)
    have e2 : mx A 0 - mx (-A) 0 = A := by unfold mx; omega
    have e3 : wrap64 A = A := i64in (by omega) (by omega)
    have e4 : mx A 0 ≥ 0 := by unfold mx; omega
    have e5 : mx (-A) 0 ≥ 0 := by unfold mx; omega
    have e6 : mx A 0 = 0 ∨ mx (-A) 0 = 0 := by unfold mx; omega
    have e7 : ceq (cx a b).re (cx a b).im (floatOfInt .f64 A) (floatOfInt .f64 B) = true := by
      rw [ceq_is h1 h3 (of_int (by omega)) (of_int (by omega))]
      simp
    simp only [Option.bind_some, if_true, c1, c2, c3, c4, e1, e2, e3, if_pos e4, if_pos e5, e7]
    rcases e6 with e6 | e6
    · rw [if_pos e6]
    · simp only [e6, if_true]
      split <;> rfl
  · rw [fits_no (z := cx a b) ha hb h]
    rfl
end Go.Proofs.Ytapimggcnneabaa.Pure
