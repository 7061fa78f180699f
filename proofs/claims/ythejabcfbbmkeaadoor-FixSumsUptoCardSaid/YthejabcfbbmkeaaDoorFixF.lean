/- Package fix's products and quotients: what the printed functions compute, as plain arithmetic. -/
import Derived.Test.YthejabcfbbmkeaaDoorPFx1
import Derived.Test.YthejabcfbbmkeaaDoorPFx1
import Derived.Test.YthejabcfbbmkeaaDoorPFx2
import Derived.Test.YthejabcfbbmkeaaDoorNum
set_option linter.unusedVariables false
set_option linter.unusedSimpArgs false
namespace Go.Proofs.YthejabcfbbmkeaaDoor.PureF
open Go.RowKit Go.Proofs.YthejabcfbbmkeaaDoor.PF Go.Proofs.YthejabcfbbmkeaaDoor.Num Go.Proofs.YthejabcfbbmkeaaDoorW.PrintWords Go.Proofs.YthejabcfbbmkeaaDoorW.PrintLast Go.Proofs.YthejabcfbbmkeaaDoorW.PrintMore

theorem mul64_f {a b : Int} (ha0 : 0 ≤ a) (ha : a < 18446744073709551616) (hb0 : 0 ≤ b) (hb : b < 18446744073709551616) :
    bits_Mul64.f a b = some (a * b / 18446744073709551616, a * b % 18446744073709551616) := by
  unfold bits_Mul64.f
  have e := mul64_arith a b ha0 ha hb0 hb
  rw [and_mask32 ha0 ha, and_mask32 hb0 hb]
  simp only [IntKind.wrap_u64]
  rw [and_mask32 (Int.emod_nonneg _ (by omega)) (Int.emod_lt_of_pos _ (by omega)), e]

theorem size_f {a : Int} (h0 : -9223372036854775808 ≤ a) (h1 : a ≤ 9223372036854775807) : fix_size.f a = some (a.natAbs : Int) := by
  unfold fix_size.f
  simp only [IntKind.wrap_u64]
  split <;> (congr 1; omega)

theorem number_f (k : Nat) (neg : Bool) {hi lo : Int} (h0 : 0 ≤ hi) (l0 : 0 ≤ lo) (l1 : lo < 18446744073709551616) :
    fix_number.f (k + 1) neg hi lo = some (fits (if neg = true then -(hi * 18446744073709551616 + lo) else hi * 18446744073709551616 + lo)) := by
  unfold fix_number.f fits
  by_cases hh : hi = 0
  · subst hh
    cases neg
    · simp only [if_true, Bool.false_eq_true, if_false, fix_number.j0]
      by_cases hl : lo > 9223372036854775807
      · rw [if_pos (by simpa using hl), if_neg (by omega)]
      · rw [if_neg (by simpa using hl), if_pos (by omega), i64in (by omega) (by omega)]
        simp
    · simp only [if_true]
      by_cases hl : lo > 9223372036854775808
      · rw [if_pos hl]
        simp only [fix_number.j0]
        rw [if_pos (by simpa using hl), if_neg (by omega)]
      · rw [if_neg hl, if_pos (by omega)]
        simp only [fix_number.j0, Bool.false_eq_true, if_false, if_true, IntKind.wrap_u64]
        congr 2
        unfold wrap64
        omega
  · rw [if_neg hh]
    simp only [fix_number.j0]
    rw [if_pos (by simpa using hh), if_neg (by cases neg <;> simp <;> omega)]
end Go.Proofs.YthejabcfbbmkeaaDoor.PureF
