/- Package fix's products and quotients: what the printed functions compute, as plain arithmetic. -/
import Derived.Test.YthejabcfbbmkeaaPBx2

import Derived.Test.YthejabcfbbmkeaaNum
set_option linter.unusedVariables false
set_option linter.unusedSimpArgs false
namespace Go.Proofs.Ythejabcfbbmkeaa.PureB
open Go.RowKit Go.Proofs.Ythejabcfbbmkeaa.PB Go.Proofs.Ythejabcfbbmkeaa.Num Go.Proofs.YthejabcfbbmkeaaW.PrintWords Go.Proofs.YthejabcfbbmkeaaW.PrintLast Go.Proofs.YthejabcfbbmkeaaW.PrintMore

theorem mul64_f {a b : Int} (ha0 : 0 ≤ a) (ha : a < 18446744073709551616) (hb0 : 0 ≤ b) (hb : b < 18446744073709551616) :
    bits_Mul64.f a b = some (a * b / 18446744073709551616, a * b % 18446744073709551616) := by
  unfold bits_Mul64.f
  have e := mul64_arith a b ha0 ha hb0 hb
  rw [and_mask32 ha0 ha, and_mask32 hb0 hb]
  simp only [IntKind.wrap_u64]
  rw [and_mask32 (Int.emod_nonneg _ (by omega)) (Int.emod_lt_of_pos _ (by omega)), e]

end Go.Proofs.Ythejabcfbbmkeaa.PureB
