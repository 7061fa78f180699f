/- The reference's products and signs: what the printed functions compute, as plain arithmetic. -/
import Derived.Test.YthejabcfbbmkeaaPBx5
import Derived.Test.YthejabcfbbmkeaaPBx6
import Derived.Test.YthejabcfbbmkeaaFixB
set_option linter.unusedVariables false
set_option linter.unusedSimpArgs false
namespace Go.Proofs.Ythejabcfbbmkeaa.PureB
open Go.RowKit Go.Proofs.Ythejabcfbbmkeaa.PB Go.Proofs.Ythejabcfbbmkeaa.Num Go.Proofs.YthejabcfbbmkeaaW.PrintWords Go.Proofs.YthejabcfbbmkeaaW.PrintLast Go.Proofs.YthejabcfbbmkeaaW.PrintMore

theorem signed_f (k : Nat) (neg : Bool) {hi lo : Int} (h0 : 0 ≤ hi) (l0 : 0 ≤ lo) (l1 : lo < 18446744073709551616) :
    pylonref01_signed.f (k + 1) neg hi lo = some (fits (if neg = true then -(hi * 18446744073709551616 + lo) else hi * 18446744073709551616 + lo)) := by
  unfold pylonref01_signed.f fits
  by_cases hh : hi = 0
  · subst hh
    cases neg
    · simp only [if_true, Bool.false_eq_true, if_false]
      by_cases hl : lo ≥ 9223372036854775808
      · rw [if_pos hl]
        simp only [pylonref01_signed.j0, if_true]
        rw [if_neg (by omega)]
      · rw [if_neg hl, if_pos (by omega)]
        simp only [pylonref01_signed.j0, Bool.false_eq_true, if_false]
        rw [i64in (by omega) (by omega)]
        simp
    · simp only [if_true, pylonref01_signed.j0]
      by_cases hl : lo > 9223372036854775808
      · rw [if_pos (by simpa using hl), if_neg (by omega)]
      · rw [if_neg (by simpa using hl)]
        have hf : (if -9223372036854775808 ≤ -(0 * 18446744073709551616 + lo) ∧ -(0 * 18446744073709551616 + lo) ≤ 9223372036854775807 then (-(0 * 18446744073709551616 + lo), (0 : Int)) else (0, 5)) = (-lo, 0) := by rw [if_pos (by omega)]; simp
        rw [hf]
        split
        · simp only [IntKind.wrap_u64]
          congr 2
          unfold wrap64
          omega
        · congr 2
          unfold wrap64
          omega
  · rw [if_neg hh]
    simp only [pylonref01_signed.j0, if_true]
    rw [if_neg (by cases neg <;> simp <;> omega)]

theorem mag_f {a : Int} (h0 : -9223372036854775808 ≤ a) (h1 : a ≤ 9223372036854775807) : pylonref01_mag.f a = some (a.natAbs : Int) := by
  unfold pylonref01_mag.f
  simp only [IntKind.wrap_u64]
  split
  · congr 1
    rw [i64in (x := a + 1) (by omega) (by omega), i64in (by omega) (by omega)]
    omega
  · congr 1
    omega

theorem product_f {a b : Int} (ha0 : 0 ≤ a) (ha : a < 18446744073709551616) (hb0 : 0 ≤ b) (hb : b < 18446744073709551616) :
    pylonref01_product.f a b = some (a * b / 18446744073709551616, a * b % 18446744073709551616) := by
  unfold pylonref01_product.f
  simp only [IntKind.wrap_u64]
  have t : ∀ x m : Int, 0 ≤ x → Int.tmod x m = x % m := fun x m h => Int.tmod_eq_emod_of_nonneg h
  simp only [t a _ ha0, t b _ hb0]
  have t2 : ∀ x : Int, Int.tmod (x % 18446744073709551616) 4294967296 = x % 18446744073709551616 % 4294967296 := fun x => t _ _ (Int.emod_nonneg _ (by omega))
  simp only [t2]
  have ex : a = a / 4294967296 * 4294967296 + a % 4294967296 := by omega
  have ey : b = b / 4294967296 * 4294967296 + b % 4294967296 := by omega
  generalize hx1 : a / 4294967296 = x1 at *
  generalize hx0 : a % 4294967296 = x0 at *
  generalize hy1 : b / 4294967296 = y1 at *
  generalize hy0 : b % 4294967296 = y0 at *
  have b1 : 0 ≤ x1 ∧ x1 ≤ 4294967295 := by omega
  have b2 : 0 ≤ x0 ∧ x0 ≤ 4294967295 := by omega
  have b3 : 0 ≤ y1 ∧ y1 ≤ 4294967295 := by omega
  have b4 : 0 ≤ y0 ∧ y0 ≤ 4294967295 := by omega
  have p11 := prod_bound x1 y1 b1.1 b1.2 b3.1 b3.2
  have p10 := prod_bound x1 y0 b1.1 b1.2 b4.1 b4.2
  have p01 := prod_bound x0 y1 b2.1 b2.2 b3.1 b3.2
  have p00 := prod_bound x0 y0 b2.1 b2.2 b4.1 b4.2
  have e : a * b = x1 * y1 * 18446744073709551616 + (x1 * y0 + x0 * y1) * 4294967296 + x0 * y0 := by rw [ex, ey, split_mul]
  rw [e]
  generalize x1 * y1 = p at *
  generalize x1 * y0 = q at *
  generalize x0 * y1 = r at *
  generalize x0 * y0 = s at *
  congr 2 <;> omega
end Go.Proofs.Ythejabcfbbmkeaa.PureB
