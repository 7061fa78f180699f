/- Package meter: which numbers fit. -/
import Derived.Test.YtapimggcnneabaaMeterAMA
import Derived.Test.YtapimggcnneabaaPMAx1
set_option linter.unusedVariables false
set_option linter.unusedSimpArgs false
namespace Go.Proofs.Ytapimggcnneabaa.PureMA
open Go.RowKit Go.Proofs.Ytapimggcnneabaa.PMA Go.Proofs.Ytapimggcnneabaa.Num Go.Proofs.Ytapimggcnneabaa.Flt Go.Proofs.YtapimggcnneabaaW.PrintWords Go.Proofs.YtapimggcnneabaaW.PrintLast Go.Proofs.YtapimggcnneabaaW.PrintMore

theorem whole_yes {x : Nat} {n : Int} (hx : x < 18446744073709551616) (h : Is x n) (hn : n.natAbs ≤ 10000000000) : meter_whole.f x = some true := by
  obtain ⟨h1, h2⟩ := whole_iff (x := x) (M := 10000000000) (by decide) is_most
  obtain ⟨a, b⟩ := h2.2 ⟨n, h, hn⟩
  unfold meter_whole.f math_Abs.f math_Trunc.f
  rw [abs_bits x hx]
  simp only [Option.bind_some, a, if_true, h1 a, b]
theorem whole_no {x : Nat} (hx : x < 18446744073709551616) (h : ¬ ∃ n, Is x n ∧ n.natAbs ≤ 10000000000) : meter_whole.f x = some false := by
  obtain ⟨h1, h2⟩ := whole_iff (x := x) (M := 10000000000) (by decide) is_most
  unfold meter_whole.f math_Abs.f math_Trunc.f
  rw [abs_bits x hx]
  simp only [Option.bind_some]
  by_cases a : fle (x % 9223372036854775808) 4756540486875873280 = true
  · rw [if_pos a, if_pos (h1 a), Option.bind_some]
    have : feq (ftrunc x) x = false := by
      cases c : feq (ftrunc x) x
      · rfl
      · exact (h (h2.1 ⟨a, c⟩)).elim
    rw [this]
  · rw [if_neg a]
/-- Both parts are whole and small. -/
def Small (z : Cx) (A B : Int) : Prop := (Is z.re A ∧ A.natAbs ≤ 10000000000) ∧ Is z.im B ∧ B.natAbs ≤ 10000000000
theorem fits_yes {z : Cx} {A B : Int} (h0 : z.re < 18446744073709551616) (h1 : z.im < 18446744073709551616) (h : Small z A B) : meter_Fits.f z = some true := by
  unfold meter_Fits.f
  rw [whole_yes h0 h.1.1 h.1.2, whole_yes h1 h.2.1 h.2.2]
  rfl
theorem fits_no {z : Cx} (h0 : z.re < 18446744073709551616) (h1 : z.im < 18446744073709551616) (h : ¬ ∃ A B, Small z A B) : meter_Fits.f z = some false := by
  unfold meter_Fits.f
  by_cases a : ∃ n, Is z.re n ∧ n.natAbs ≤ 10000000000
  · obtain ⟨n, a, b⟩ := a
    rw [whole_yes h0 a b, whole_no h1 (fun ⟨m, c, d⟩ => h ⟨n, m, ⟨a, b⟩, c, d⟩)]
    rfl
  · rw [whole_no h0 a]
    rfl
end Go.Proofs.Ytapimggcnneabaa.PureMA
