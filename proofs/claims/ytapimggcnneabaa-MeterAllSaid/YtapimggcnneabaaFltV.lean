/- Floats against whole numbers: which lie in a range, and which of these are whole. -/
import Derived.Test.YtapimggcnneabaaFlt
set_option linter.unusedVariables false
set_option linter.unusedSimpArgs false
namespace Go.Proofs.Ytapimggcnneabaa.Flt
open Ieee Go.Proofs.YtapimggcnneabaaW.PrintWords

/-- The whole number that bits stand for. -/
noncomputable def val (x : Nat) : Int := by
  classical
  exact if h : ∃ n, Is x n then Classical.choose h else 0
theorem val_of {x : Nat} {n : Int} (h : Is x n) : val x = n := by
  unfold val
  rw [dif_pos ⟨n, h⟩]
  exact (Classical.choose_spec (⟨n, h⟩ : ∃ n, Is x n)).uniq h

theorem compare_ge (a b : Int) : (some (compare a b) == some .gt || some (compare a b) == some .eq) = decide (a ≥ b) := by
  simp only [compare, compareOfLessAndEq]
  by_cases h : a = b
  · subst h; simp
  · by_cases h1 : a < b
    · simp [h, h1]
    · simp [h, h1]; omega

section
variable {x y : Nat} {s : Bool} {m q : Nat} {n : Int}
theorem order_at (hx : Ieee.double.read x = .number s m (-(q : Int))) (hy : Is y n) : ∃ p : Int, 0 < p ∧ Ieee.double.order x y = some (compare (signed s m 0 * p) (n * ((2 ^ q : Nat) : Int) * p)) := by
  obtain ⟨s', m', q', e', f'⟩ := hy
  refine ⟨((2 ^ (max q q' - q) : Nat) : Int), pow_pos' _, ?_⟩
  have h4 : 2 ^ (max q q') = 2 ^ q * 2 ^ (max q q' - q) := by rw [← Nat.pow_add]; congr 1; omega
  rw [order_num hx e', min_neg, shift_up f' (Nat.le_max_right q q'), signed_shift s m, show (-(q : Int) - (-((max q q' : Nat) : Int))).toNat = max q q' - q by omega, h4, Int.natCast_mul, Int.mul_assoc]
theorem fle_num (hx : Ieee.double.read x = .number s m (-(q : Int))) (hy : Is y n) : fle x y = decide (signed s m 0 ≤ n * ((2 ^ q : Nat) : Int)) := by
  obtain ⟨p, hp, e⟩ := order_at hx hy
  show (Ieee.double.order x y == some .lt || Ieee.double.order x y == some .eq) = _
  rw [e, compare_le]
  congr 1
  exact propext ⟨fun h => Int.le_of_mul_le_mul_right h hp, fun h => Int.mul_le_mul_of_nonneg_right h (Int.le_of_lt hp)⟩
theorem fge_num (hx : Ieee.double.read x = .number s m (-(q : Int))) (hy : Is y n) : fge x y = decide (signed s m 0 ≥ n * ((2 ^ q : Nat) : Int)) := by
  obtain ⟨p, hp, e⟩ := order_at hx hy
  show (Ieee.double.order x y == some .gt || Ieee.double.order x y == some .eq) = _
  rw [e, compare_ge]
  congr 1
  exact propext ⟨fun h => Int.le_of_mul_le_mul_right h hp, fun h => Int.mul_le_mul_of_nonneg_right h (Int.le_of_lt hp)⟩
theorem feq_num (hx : Ieee.double.read x = .number s m (-(q : Int))) (hy : Is y n) : feq y x = decide (n * ((2 ^ q : Nat) : Int) = signed s m 0) := by
  obtain ⟨s', m', q', e', f'⟩ := hy
  show (Ieee.double.order y x == some .eq) = _
  have h4 : 2 ^ (max q' q) = 2 ^ q * 2 ^ (max q' q - q) := by rw [← Nat.pow_add]; congr 1; omega
  rw [order_num e' hx, compare_eq, min_neg, shift_up f' (Nat.le_max_left q' q), signed_shift s m, show (-(q : Int) - (-((max q' q : Nat) : Int))).toNat = max q' q - q by omega, h4, Int.natCast_mul, ← Int.mul_assoc]
  have hp := pow_pos' (max q' q - q)
  congr 1
  exact propext ⟨fun h => Int.eq_of_mul_eq_mul_right (by omega) h, fun h => by rw [h]⟩
/-- Truncated to an int64. -/
theorem trunc_num (hx : Ieee.double.read x = .number s m (-(q : Int))) (h : m / 2 ^ q < 9223372036854775808) : f2iok x = true ∧ f2i x = signed s (m / 2 ^ q) 0 := by
  have hi : (FloatKind.f64.decode x).toInt .zero = some (signed s (m / 2 ^ q) 0) := by
    show (Ieee.double.read x).toInt .zero = _
    rw [hx]
    show some (signed s (Toward.zero.cut s (m <<< (-(q : Int)).toNat) (-(-(q : Int))).toNat) 0) = _
    have e1 : (-(q : Int)).toNat = 0 := by omega
    have e2 : (-(-(q : Int))).toNat = q := by omega
    rw [e1, e2, Nat.shiftLeft_zero, cut_floor]
  have hb := signed_natAbs s (m / 2 ^ q)
  have : floatToIntVal .f64 x .i64 = some (signed s (m / 2 ^ q) 0) := by
    unfold floatToIntVal
    rw [hi]
    have a : IntKind.i64.min = -9223372036854775808 := rfl
    have b : IntKind.i64.max = 9223372036854775807 := rfl
    simp only [a, b]
    rw [if_pos (by omega)]
  unfold f2iok f2i
  rw [this]
  exact ⟨rfl, rfl⟩
/-- What lies between -M and M, M below 2^53, has no place above 0. -/
theorem in_range {M : Int} {lo hi : Nat} (hM0 : 0 ≤ M) (hM : M < 9007199254740992) (hlo : Is lo (-M)) (hhi : Is hi M) (h1 : fge x lo = true) (h2 : fle x hi = true) :
    ∃ s m q, Ieee.double.read x = .number s m (-((q : Nat) : Int)) ∧ m ≤ M.toNat * 2 ^ q := by
  rcases read_cases x with ⟨s, m, q, e⟩ | ⟨s, m, k, e, hm⟩ | ⟨s, e⟩ | ⟨s, t, e⟩
  · refine ⟨s, m, q, e, ?_⟩
    rw [fge_num e hlo] at h1
    rw [fle_num e hhi] at h2
    have h1 := of_decide_eq_true h1
    have h2 := of_decide_eq_true h2
    rw [Int.neg_mul] at h1
    have h3 := signed_natAbs s m
    have h4 : M * ((2 ^ q : Nat) : Int) = ((M.toNat * 2 ^ q : Nat) : Int) := by rw [Int.natCast_mul, Int.toNat_of_nonneg hM0]
    rw [h4] at h1 h2
    generalize M.toNat * 2 ^ q = z at *
    omega
  · exfalso
    obtain ⟨s', m', q', e', f'⟩ := hlo
    obtain ⟨s2, m2, q2, e2, f2⟩ := hhi
    have a1 : (Ieee.double.order x lo == some .gt || Ieee.double.order x lo == some .eq) = true := h1
    have a2 : (Ieee.double.order x hi == some .lt || Ieee.double.order x hi == some .eq) = true := h2
    rw [order_num e e', compare_ge, show min (((k + 1 : Nat)) : Int) (-(q' : Int)) = -(q' : Int) by omega, show (-(q' : Int) - (-(q' : Int))).toNat = 0 by omega, f', show ((((k + 1 : Nat)) : Int) - (-(q' : Int))).toNat = (k + 1) + q' by omega] at a1
    rw [order_num e e2, compare_le, show min (((k + 1 : Nat)) : Int) (-(q2 : Int)) = -(q2 : Int) by omega, show (-(q2 : Int) - (-(q2 : Int))).toNat = 0 by omega, f2, show ((((k + 1 : Nat)) : Int) - (-(q2 : Int))).toNat = (k + 1) + q2 by omega] at a2
    have a1 := of_decide_eq_true a1
    have a2 := of_decide_eq_true a2
    have sp : ∀ r : Nat, signed s m (k + 1 + r) = signed s (m * 2 ^ (k + 1)) 0 * ((2 ^ r : Nat) : Int) := by
      intro r
      rw [← signed_shift]
      unfold signed
      rw [Nat.shiftLeft_eq, Nat.shiftLeft_eq, Nat.pow_add, Nat.mul_assoc]
    rw [sp] at a1 a2
    have b1 := Int.le_of_mul_le_mul_right a1 (pow_pos' _)
    have b2 := Int.le_of_mul_le_mul_right a2 (pow_pos' _)
    have h3 := signed_natAbs s (m * 2 ^ (k + 1))
    have h5 : 2 ^ 53 ≤ m * 2 ^ (k + 1) := by
      calc 2 ^ 53 = 4503599627370496 * 2 ^ 1 := by decide
        _ ≤ m * 2 ^ (k + 1) := Nat.mul_le_mul hm (Nat.pow_le_pow_right (by omega) (by omega))
    generalize m * 2 ^ (k + 1) = z at *
    omega
  · exfalso
    obtain ⟨s', m', q', e', f'⟩ := hlo
    obtain ⟨s2, m2, q2, e2, f2⟩ := hhi
    have a1 : ((Ieee.double.read x).order (Ieee.double.read lo) == some .gt || (Ieee.double.read x).order (Ieee.double.read lo) == some .eq) = true := h1
    have a2 : ((Ieee.double.read x).order (Ieee.double.read hi) == some .lt || (Ieee.double.read x).order (Ieee.double.read hi) == some .eq) = true := h2
    rw [e, e'] at a1
    rw [e, e2] at a2
    cases s
    · cases a2
    · cases a1
  · exfalso
    have a1 : ((Ieee.double.read x).order (Ieee.double.read lo) == some .gt || (Ieee.double.read x).order (Ieee.double.read lo) == some .eq) = true := h1
    rw [e] at a1
    cases h : Ieee.double.read lo <;> rw [h] at a1 <;> cases a1
/-- In the range, but not whole. -/
theorem not_whole {M : Int} {lo hi : Nat} (hM0 : 0 ≤ M) (hM : M < 9007199254740992) (hlo : Is lo (-M)) (hhi : Is hi M) (h1 : fge x lo = true) (h2 : fle x hi = true) (h : ¬ ∃ n, Is x n ∧ n.natAbs ≤ M.toNat) :
    f2iok x = true ∧ feq (floatOfInt .f64 (f2i x)) x = false := by
  obtain ⟨s, m, q, e, hm⟩ := in_range hM0 hM hlo hhi h1 h2
  have hq := Nat.two_pow_pos q
  have hb : m / 2 ^ q ≤ M.toNat := by
    have := Nat.div_le_div_right (c := 2 ^ q) hm
    rwa [Nat.mul_div_cancel _ hq] at this
  have hs := signed_natAbs s (m / 2 ^ q)
  obtain ⟨a, b⟩ := trunc_num e (by omega)
  refine ⟨a, ?_⟩
  rw [b, feq_num e (of_int (by omega))]
  refine decide_eq_false fun h3 => h ⟨_, ⟨s, m, q, e, h3.symm⟩, by omega⟩
end
end Go.Proofs.Ytapimggcnneabaa.Flt
