/- Floats that stand for whole numbers up to 2^53 itself: the greatest sums of four products. -/
import Derived.Test.YtapimggcnneabaaFlt
set_option linter.unusedVariables false
set_option linter.unusedSimpArgs false
namespace Go.Proofs.Ytapimggcnneabaa.Flt
open Ieee Go.Proofs.YtapimggcnneabaaW.PrintWords

theorem nearest_read53 (neg : Bool) (mag q : Nat) (h : mag = 9007199254740992 * 2 ^ q) : Ieee.double.read (Ieee.double.nearest neg mag (-(q : Int))) = .number neg 4503599627370496 1 := by
  have hq := Nat.two_pow_pos q
  have hmag : mag ≠ 0 := by rw [h]; exact Nat.mul_ne_zero (by omega) (by omega)
  have hlogm : mag.log2 = 53 + q := by
    rw [Nat.log2_eq_iff hmag, h, show (9007199254740992 : Nat) = 2 ^ 53 by rfl, ← Nat.pow_add]
    refine ⟨Nat.le_refl _, ?_⟩
    exact Nat.pow_lt_pow_right (by omega) (by omega)
  have hkept : Toward.even.cut neg (mag <<< (-(q : Int) - 1).toNat) (1 - (-(q : Int))).toNat = 4503599627370496 := by
    have e1 : (-(q : Int) - 1).toNat = 0 := by omega
    have e2 : (1 - (-(q : Int))).toNat = 1 + q := by omega
    rw [e1, e2, Nat.shiftLeft_zero]
    have e3 : mag = 4503599627370496 * 2 ^ (1 + q) := by rw [h, Nat.pow_add]; omega
    rw [e3]
    exact cut_exact _ (.inl rfl) _ _ _ (by omega)
  have hlast : max (-(q : Int) + mag.log2 - Ieee.double.fractionBits) (-1074) = 1 := by
    rw [hlogm]
    have e : (Ieee.double.fractionBits : Int) = 52 := rfl
    rw [e]
    omega
  rw [nearest_gen _ neg mag _ _ _ 52 _ _ _ hmag e_binade e_inf e_least e_frac hlast hkept]
  have e : min (((1 : Int) - (-1074)).toNat * 4503599627370496 + 4503599627370496) 9218868437227405312 = 4845873199050653696 := by decide
  rw [e, read_word neg _ (by decide) (by decide)]
  rfl

/-- The bits x stand for the whole number n, from -2^53 to 2^53. -/
def IsT (x : Nat) (n : Int) : Prop := Is x n ∨ (n.natAbs = 9007199254740992 ∧ Ieee.double.read x = .number (decide (n < 0)) 4503599627370496 1)

theorem IsT.small {x : Nat} {n : Int} (h : IsT x n) (b : n.natAbs < 9007199254740992) : Is x n := by
  rcases h with h | ⟨h, _⟩
  · exact h
  · omega
theorem write_top (neg : Bool) (mag q : Nat) (N : Int) (h : signed neg mag 0 = N * ((2 ^ q : Nat) : Int)) (h1 : N.natAbs = 9007199254740992) : Ieee.double.read (Ieee.double.write (.number neg mag (-(q : Int)))) = .number (decide (N < 0)) 4503599627370496 1 := by
  show Ieee.double.read (Ieee.double.nearest neg mag (-(q : Int))) = _
  have hm : mag = N.natAbs * 2 ^ q := by
    have := congrArg Int.natAbs h
    rw [signed_natAbs, Int.natAbs_mul, Int.natAbs_natCast] at this
    exact this
  have hq := pow_pos' q
  have hs : neg = decide (N < 0) := by
    rcases Int.lt_or_le N 0 with h3 | h3
    · have h2 : N * ((2 ^ q : Nat) : Int) < 0 := Int.mul_neg_of_neg_of_pos h3 hq
      rw [decide_eq_true h3]
      cases neg
      · rw [← h] at h2
        unfold signed at h2
        rw [Nat.shiftLeft_zero] at h2
        simp only [Bool.false_eq_true, if_false] at h2
        omega
      · rfl
    · have h4 : 0 < N := by omega
      have h2 : 0 < N * ((2 ^ q : Nat) : Int) := Int.mul_pos h4 hq
      rw [decide_eq_false (by omega)]
      cases neg
      · rfl
      · rw [← h] at h2
        unfold signed at h2
        rw [Nat.shiftLeft_zero] at h2
        simp only [if_true] at h2
        omega
  rw [h1] at hm
  rw [nearest_read53 neg mag q hm, hs]

theorem Is.addT {x y : Nat} {a b : Int} (hx : Is x a) (hy : Is y b) (h : (a + b).natAbs ≤ 9007199254740992) : faddok x y = true ∧ IsT (fadd x y) (a + b) := by
  by_cases h0 : (a + b).natAbs < 2 ^ 53
  · obtain ⟨o, r⟩ := hx.add hy h0
    exact ⟨o, .inl r⟩
  · have h1 : (a + b).natAbs = 9007199254740992 := by omega
    obtain ⟨s, m, q, e, f⟩ := hx
    obtain ⟨s', m', q', e', f'⟩ := hy
    have hd : ∃ d, Datum.sum (.number s m (-(q : Int))) (.number s' m' (-(q' : Int))) = some d ∧ Ieee.double.read (Ieee.double.write d) = .number (decide (a + b < 0)) 4503599627370496 1 := by
      refine ⟨_, rfl, ?_⟩
      rw [min_neg]
      have e1 := shift_up f (Nat.le_max_left q q')
      have e2 := shift_up f' (Nat.le_max_right q q')
      rw [e1, e2]
      refine write_top _ _ _ _ ?_ h1
      rw [signed_self, Int.add_mul]
      split <;> simp
    obtain ⟨d, h2, h3⟩ := hd
    have : floatBits .add .f64 x y = some (Ieee.double.write d) := by
      show ((Ieee.double.read x).sum (Ieee.double.read y)).map Ieee.double.write = _
      rw [e, e', h2]
      rfl
    unfold faddok fadd
    rw [this]
    exact ⟨rfl, .inr ⟨h1, h3⟩⟩

theorem IsT.feq_same {x y : Nat} {n : Int} (hx : IsT x n) (hy : IsT y n) : feq x y = true := by
  rcases hx with hx | ⟨h1, hx⟩
  · rcases hy with hy | ⟨h2, hy⟩
    · rw [hx.feq hy]; exact decide_eq_true rfl
    · obtain ⟨s, m, q, e, f⟩ := hx
      show (Ieee.double.order x y == some .eq) = true
      rw [order_num e hy, compare_eq]
      refine decide_eq_true ?_
      have : min (-(q : Int)) 1 = -(q : Int) := by omega
      rw [this, show (-(q : Int) - -(q : Int)).toNat = 0 by omega, f, show ((1 : Int) - -(q : Int)).toNat = 1 + q by omega]
      have e3 : signed (decide (n < 0)) 4503599627370496 (1 + q) = signed (decide (n < 0)) 4503599627370496 1 * ((2 ^ q : Nat) : Int) := by
        rw [signed_shift, signed_shift _ _ 1, Int.mul_assoc, ← Int.natCast_mul, ← Nat.pow_add]
      rw [e3]
      congr 1
      rcases Int.lt_or_le n 0 with h3 | h3
      · rw [decide_eq_true h3]
        show n = -9007199254740992
        omega
      · rw [decide_eq_false (by omega)]
        show n = 9007199254740992
        omega
  · rcases hy with hy | ⟨h2, hy⟩
    · obtain ⟨s, m, q, e, f⟩ := hy
      show (Ieee.double.order x y == some .eq) = true
      rw [order_num hx e, compare_eq]
      refine decide_eq_true ?_
      have : min (1 : Int) (-(q : Int)) = -(q : Int) := by omega
      rw [this, show (-(q : Int) - -(q : Int)).toNat = 0 by omega, f, show ((1 : Int) - -(q : Int)).toNat = 1 + q by omega]
      have e3 : signed (decide (n < 0)) 4503599627370496 (1 + q) = signed (decide (n < 0)) 4503599627370496 1 * ((2 ^ q : Nat) : Int) := by
        rw [signed_shift, signed_shift _ _ 1, Int.mul_assoc, ← Int.natCast_mul, ← Nat.pow_add]
      rw [e3]
      congr 1
      rcases Int.lt_or_le n 0 with h3 | h3
      · rw [decide_eq_true h3]
        show -9007199254740992 = n
        omega
      · rw [decide_eq_false (by omega)]
        show 9007199254740992 = n
        omega
    · show (Ieee.double.order x y == some .eq) = true
      rw [order_num hx hy, compare_eq]
      exact decide_eq_true rfl

theorem caddT_is {a b c d : Nat} {A B C D : Int} (ha : Is a A) (hb : Is b B) (hc : Is c C) (hd : Is d D) (h1 : (A + C).natAbs ≤ 9007199254740992) (h2 : (B + D).natAbs ≤ 9007199254740992) :
    caddok a b c d = true ∧ IsT (caddre a b c d) (A + C) ∧ IsT (caddim a b c d) (B + D) := by
  obtain ⟨o1, r1⟩ := ha.addT hc h1
  obtain ⟨o2, r2⟩ := hb.addT hd h2
  have e : cSumBits .add .f64 a b c d = some (fadd a c, fadd b d) := by
    unfold cSumBits
    have s1 : floatBits .add .f64 a c = some (fadd a c) := get_some 0 o1
    have s2 : floatBits .add .f64 b d = some (fadd b d) := get_some 0 o2
    simp only [s1, s2, Option.bind_some]
  unfold caddok caddre caddim
  rw [e]
  exact ⟨rfl, r1, r2⟩
theorem ceq_top {a b c d : Nat} {A B : Int} (ha : IsT a A) (hb : IsT b B) (hc : IsT c A) (hd : IsT d B) : ceq a b c d = true := by
  unfold ceq
  rw [ha.feq_same hc, hb.feq_same hd]
  rfl
end Go.Proofs.Ytapimggcnneabaa.Flt
