/- Texts of this claim, joined. -/
import Derived.Test.YtofedlghaopciaaGreatDoorPk2
import Derived.Laws.BitsAllLaws
import Derived.Laws.ComplexQuo
import Derived.Test.YtofedlghaopciaaGreatDoorPAx1
import Derived.Test.YtofedlghaopciaaGreatDoorPAx2
import Derived.StillTailTactics
import Derived.Laws.Bits64
import Derived.Laws.MathBits
import Derived.Lib.ItoaNum
import Derived.Lib.ParseIntB
import Derived.Test.YtofedlghaopciaaGreatDoorPAx3
import Derived.Test.YtofedlghaopciaaGreatDoorPAx4
import Derived.Test.YtofedlghaopciaaGreatDoorPAx12
import Derived.Test.YtofedlghaopciaaGreatDoorPAx8
import Derived.Test.YtofedlghaopciaaGreatDoorPAx14
import Derived.Laws.Strings
import Derived.KernelRfl
import Derived.Test.YtofedlghaopciaaGreatDoorPAx13
import Derived.Laws.BitsLemmas
import Derived.Laws.StructEq
import Derived.Test.YtofedlghaopciaaGreatDoorPk1
import Derived.Test.YtofedlghaopciaaGreatDoorPAx5
import Derived.Test.YtofedlghaopciaaGreatDoorPAx9
import Derived.Test.YtofedlghaopciaaGreatDoorPAx11
section
/- Floats that stand for whole numbers: exact below 2^53. -/
set_option linter.unusedVariables false
set_option linter.unusedSimpArgs false
namespace Go.Proofs.YtofedlghaopciaaGreatDoor.Flt
open Ieee Go.Proofs.YtofedlghaopciaaGreatDoorW.PrintWords

theorem cut_zero (way : Toward) (hw : way = .even ∨ way = .zero) (neg : Bool) (n : Nat) : way.cut neg n 0 = n := by
  rcases hw with rfl | rfl <;> simp [Toward.cut, Nat.mod_one]

theorem cut_exact (way : Toward) (hw : way = .even ∨ way = .zero) (neg : Bool) (n d : Nat) (h : n ≠ 0) : way.cut neg (n * 2 ^ d) d = n := by
  have h0 : 0 < 2 ^ d := Nat.two_pow_pos d
  have hl : d ≤ (n * 2 ^ d).log2 := by
    rw [Nat.le_log2 (Nat.mul_ne_zero h (by omega))]
    exact Nat.le_mul_of_pos_left _ (Nat.pos_of_ne_zero h)
  have hm : min d ((n * 2 ^ d).log2 + 2) = d := by omega
  unfold Toward.cut
  simp only [hm, Nat.one_shiftLeft, Nat.mul_div_cancel _ h0, Nat.mul_mod_left]
  rcases hw with rfl | rfl
  · have e1 : ¬ (2 ^ d < 2 * 0) := by omega
    have e2 : ¬ (2 ^ d = 2 * 0) := by omega
    simp [e1, e2]
  · simp

theorem e_binade : Ieee.double.binade = 4503599627370496 := rfl
theorem e_inf : Ieee.double.infRung = 9218868437227405312 := rfl
theorem e_sign : Ieee.double.signWeight = 9223372036854775808 := rfl
theorem e_least : Ieee.double.leastPlace = -1074 := rfl
theorem e_frac : Ieee.double.fractionBits = 52 := rfl

theorem read_gen (f : Format) (x B I S : Nat) (L : Int) (hb : f.binade = B) (hi : f.infRung = I) (hs : f.signWeight = S) (hl : f.leastPlace = L) : f.read x = if x % S < B then .number (x / S % 2 == 1) (x % S) L
    else if x % S < I then .number (x / S % 2 == 1) (B + x % S % B) (L + ((x % S / B - 1 : Nat) : Int))
    else if x % S = I then .infinity (x / S % 2 == 1) else .nan (x / S % 2 == 1) (x % S - I) := by
  subst hb hi hs hl
  rfl
theorem nearest_gen (f : Format) (neg : Bool) (mag : Nat) (place : Int) (B I F : Nat) (L last : Int) (kept : Nat) (h0 : mag ≠ 0) (hb : f.binade = B) (hi : f.infRung = I) (hl : f.leastPlace = L) (hF : f.fractionBits = F)
    (hlast : max (place + mag.log2 - F) L = last) (hkept : Toward.even.cut neg (mag <<< (place - last).toNat) (last - place).toNat = kept) : f.nearest neg mag place = f.word neg (min ((last - L).toNat * B + kept) I) := by
  subst hb hi hl hF hlast hkept
  unfold Format.nearest
  rw [if_neg h0]
theorem word_gen (f : Format) (neg : Bool) (r S : Nat) (hs : f.signWeight = S) : f.word neg r = if neg = true then S + r else r := by
  subst hs
  rfl

/-- A word is read in its three parts. -/
theorem read_eq (x : Nat) : Ieee.double.read x = if x % 9223372036854775808 < 4503599627370496 then .number (x / 9223372036854775808 % 2 == 1) (x % 9223372036854775808) (-1074)
    else if x % 9223372036854775808 < 9218868437227405312 then .number (x / 9223372036854775808 % 2 == 1) (4503599627370496 + x % 9223372036854775808 % 4503599627370496) (-1074 + ((x % 9223372036854775808 / 4503599627370496 - 1 : Nat) : Int))
    else if x % 9223372036854775808 = 9218868437227405312 then .infinity (x / 9223372036854775808 % 2 == 1) else .nan (x / 9223372036854775808 % 2 == 1) (x % 9223372036854775808 - 9218868437227405312) :=
  read_gen _ x _ _ _ _ e_binade e_inf e_sign e_least

theorem word_eq (neg : Bool) (r : Nat) : Ieee.double.word neg r = if neg = true then 9223372036854775808 + r else r := word_gen _ neg r _ e_sign

theorem rung_parts (L K : Nat) (h1 : 4503599627370496 ≤ K) (h2 : K < 9007199254740992) (hL : L < 53) : min ((1022 + L) * 4503599627370496 + K) 9218868437227405312 = (1022 + L) * 4503599627370496 + K ∧
    4503599627370496 ≤ (1022 + L) * 4503599627370496 + K ∧ (1022 + L) * 4503599627370496 + K < 9218868437227405312 ∧ 4503599627370496 + ((1022 + L) * 4503599627370496 + K) % 4503599627370496 = K ∧ ((1022 + L) * 4503599627370496 + K) / 4503599627370496 = 1023 + L := by
  refine ⟨by omega, by omega, by omega, by omega, by omega⟩

theorem word_parts (neg : Bool) (r : Nat) (h : r < 9223372036854775808) : Ieee.double.word neg r % 9223372036854775808 = r ∧ (Ieee.double.word neg r / 9223372036854775808 % 2 == 1) = neg := by
  rw [word_eq]
  cases neg
  · have a : r % 9223372036854775808 = r := Nat.mod_eq_of_lt h
    have b : r / 9223372036854775808 = 0 := Nat.div_eq_of_lt h
    simp only [Bool.false_eq_true, if_false, a, b, true_and]
    rfl
  · have a : (9223372036854775808 + r) % 9223372036854775808 = r := by omega
    have b : (9223372036854775808 + r) / 9223372036854775808 = 1 := by omega
    simp only [if_true, a, b, true_and]
    rfl

theorem read_word (neg : Bool) (r : Nat) (h1 : 4503599627370496 ≤ r) (h2 : r < 9218868437227405312) : Ieee.double.read (Ieee.double.word neg r) = .number neg (4503599627370496 + r % 4503599627370496) (-1074 + ((r / 4503599627370496 - 1 : Nat) : Int)) := by
  obtain ⟨a, b⟩ := word_parts neg r (by omega)
  have c : ¬ r < 4503599627370496 := by omega
  rw [read_eq, a, b, if_neg c, if_pos h2]

theorem place_e (L : Nat) (hL : L < 53) : (-((52 - L : Nat) : Int) - (-1074)).toNat = 1022 + L := by omega
theorem place_e' (L : Nat) (hL : L < 53) : (-1074 + ((1023 + L - 1 : Nat) : Int)) = -((52 - L : Nat) : Int) := by omega

/-- The canonical form of a whole number. -/
theorem nearest_read (neg : Bool) (mag : Nat) (q : Nat) (N : Nat) (hN : N < 2 ^ 53) (h0 : N ≠ 0) (h : mag = N * 2 ^ q) :
    Ieee.double.read (Ieee.double.nearest neg mag (-(q : Int))) = .number neg (N * 2 ^ (52 - N.log2)) (-((52 - N.log2 : Nat) : Int)) := by
  have hlog : N.log2 < 53 := (Nat.log2_lt h0).2 hN
  have hmag : mag ≠ 0 := by rw [h]; exact Nat.mul_ne_zero h0 (by have := Nat.two_pow_pos q; omega)
  have hlogm : mag.log2 = N.log2 + q := by
    rw [h, Nat.log2_eq_iff (by rw [← h]; exact hmag)]
    have a := Nat.log2_self_le h0
    have b := Nat.lt_log2_self (n := N)
    have hq := Nat.two_pow_pos q
    refine ⟨?_, ?_⟩
    · rw [Nat.pow_add]; exact Nat.mul_le_mul_right _ a
    · rw [show N.log2 + q + 1 = (N.log2 + 1) + q by omega, Nat.pow_add]; exact (Nat.mul_lt_mul_right hq).2 b
  have hkept : Toward.even.cut neg (mag <<< (-(q : Int) - (-((52 - N.log2 : Nat) : Int))).toNat) (-((52 - N.log2 : Nat) : Int) - (-(q : Int))).toNat = N * 2 ^ (52 - N.log2) := by
    by_cases hc : 52 - N.log2 ≤ q
    · have e1 : (-(q : Int) - (-((52 - N.log2 : Nat) : Int))).toNat = 0 := by omega
      have e2 : (-((52 - N.log2 : Nat) : Int) - (-(q : Int))).toNat = q - (52 - N.log2) := by omega
      rw [e1, e2, h, Nat.shiftLeft_zero]
      have e3 : N * 2 ^ q = (N * 2 ^ (52 - N.log2)) * 2 ^ (q - (52 - N.log2)) := by
        rw [Nat.mul_assoc, ← Nat.pow_add, Nat.add_sub_cancel' hc]
      rw [e3]
      exact cut_exact _ (.inl rfl) _ _ _ (Nat.mul_ne_zero h0 (by have := Nat.two_pow_pos (52 - N.log2); omega))
    · have e1 : (-(q : Int) - (-((52 - N.log2 : Nat) : Int))).toNat = 52 - N.log2 - q := by omega
      have e2 : (-((52 - N.log2 : Nat) : Int) - (-(q : Int))).toNat = 0 := by omega
      rw [e1, e2, cut_zero _ (.inl rfl), Nat.shiftLeft_eq, h, Nat.mul_assoc, ← Nat.pow_add]
      congr 2
      omega
  have hlast : max (-(q : Int) + mag.log2 - Ieee.double.fractionBits) Ieee.double.leastPlace = -((52 - N.log2 : Nat) : Int) := by
    rw [hlogm]
    have : Ieee.double.leastPlace = -1074 := rfl
    have e : (Ieee.double.fractionBits : Int) = 52 := rfl
    rw [this, e]
    omega
  have hK1 : 2 ^ 52 ≤ N * 2 ^ (52 - N.log2) := by
    have a := Nat.log2_self_le h0
    calc 2 ^ 52 = 2 ^ N.log2 * 2 ^ (52 - N.log2) := by rw [← Nat.pow_add]; congr 1; omega
      _ ≤ _ := Nat.mul_le_mul_right _ a
  have hK2 : N * 2 ^ (52 - N.log2) < 2 ^ 53 := by
    have b := Nat.lt_log2_self (n := N)
    calc N * 2 ^ (52 - N.log2) < 2 ^ (N.log2 + 1) * 2 ^ (52 - N.log2) := (Nat.mul_lt_mul_right (Nat.two_pow_pos _)).2 b
      _ = 2 ^ 53 := by rw [← Nat.pow_add]; congr 1; omega
  have hK1' : 4503599627370496 ≤ N * 2 ^ (52 - N.log2) := Nat.le_trans (by decide) hK1
  have hK2' : N * 2 ^ (52 - N.log2) < 9007199254740992 := Nat.lt_of_lt_of_le hK2 (by decide)
  obtain ⟨r1, r2, r3, r4, r5⟩ := rung_parts N.log2 (N * 2 ^ (52 - N.log2)) hK1' hK2' hlog
  rw [e_least] at hlast
  rw [nearest_gen _ neg mag _ _ _ 52 _ _ _ hmag e_binade e_inf e_least e_frac hlast hkept]
  have e := place_e N.log2 hlog
  rw [e, r1, read_word neg _ r2 r3, r4, r5]
  have e' := place_e' N.log2 hlog
  rw [e']

theorem nearest_read0 (neg : Bool) (p : Int) : Ieee.double.read (Ieee.double.nearest neg 0 p) = .number neg 0 (-1074) := by
  unfold Format.nearest
  rw [if_pos rfl]
  obtain ⟨a, b⟩ := word_parts neg 0 (by omega)
  rw [read_eq, a, b]
  rfl
/-- The bits x stand for the whole number n. -/
def Is (x : Nat) (n : Int) : Prop := ∃ s m q, Ieee.double.read x = .number s m (-((q : Nat) : Int)) ∧ signed s m 0 = n * ((2 ^ q : Nat) : Int)

theorem signed_shift (s : Bool) (m k : Nat) : signed s m k = signed s m 0 * ((2 ^ k : Nat) : Int) := by
  unfold signed
  rw [Nat.shiftLeft_eq, Nat.shiftLeft_zero]
  cases s
  · simp
  · simp [Int.neg_mul]
theorem signed_natAbs (s : Bool) (m : Nat) : (signed s m 0).natAbs = m := by
  unfold signed
  rw [Nat.shiftLeft_zero]
  cases s <;> simp
theorem signed_self (s : Bool) (t : Int) (h : if t = 0 then True else s = decide (t < 0)) : signed s t.natAbs 0 = t := by
  unfold signed
  rw [Nat.shiftLeft_zero]
  by_cases h0 : t = 0
  · subst h0; cases s <;> rfl
  · rw [if_neg h0] at h
    subst h
    by_cases h1 : t < 0
    · simp only [h1, decide_true, if_true]; omega
    · simp only [h1, decide_false, Bool.false_eq_true, if_false]; omega
theorem signed_not (s : Bool) (m k : Nat) : signed (!s) m k = -signed s m k := by
  unfold signed
  cases s <;> simp
theorem signed_mul (s t : Bool) (m n : Nat) : signed (s ^^ t) (m * n) 0 = signed s m 0 * signed t n 0 := by
  unfold signed
  rw [Nat.shiftLeft_zero, Nat.shiftLeft_zero, Nat.shiftLeft_zero]
  cases s <;> cases t <;> simp [Int.natCast_mul, Int.mul_neg, Int.neg_mul]
theorem signed_zero (s : Bool) : signed s 0 0 = 0 := by cases s <;> rfl

theorem pow_pos' (q : Nat) : (0 : Int) < ((2 ^ q : Nat) : Int) := by exact_mod_cast Nat.two_pow_pos q

/-- What is written of a whole number below 2^53 stands for it. -/
theorem write_is (neg : Bool) (mag q : Nat) (N : Int) (h : signed neg mag 0 = N * ((2 ^ q : Nat) : Int)) (h1 : N.natAbs < 2 ^ 53) : Is (Ieee.double.write (.number neg mag (-(q : Int)))) N := by
  show Is (Ieee.double.nearest neg mag (-(q : Int))) N
  have hm : mag = N.natAbs * 2 ^ q := by
    have := congrArg Int.natAbs h
    rw [signed_natAbs, Int.natAbs_mul, Int.natAbs_natCast] at this
    exact this
  by_cases h0 : N = 0
  · subst h0
    have : mag = 0 := by rw [hm]; simp
    subst this
    exact ⟨neg, 0, 1074, nearest_read0 neg _, by rw [signed_zero, Int.zero_mul]⟩
  · refine ⟨neg, _, _, nearest_read neg mag q N.natAbs h1 (by omega) hm, ?_⟩
    have hs : signed neg N.natAbs 0 = N := by
      refine signed_self _ _ ?_
      rw [if_neg h0]
      rw [hm] at h
      have hq := pow_pos' q
      have hmm : 0 < N.natAbs * 2 ^ q := Nat.mul_pos (by omega) (Nat.two_pow_pos q)
      cases neg
      · have h2 : (0 : Int) < N * ((2 ^ q : Nat) : Int) := by
          rw [← h]; unfold signed; rw [Nat.shiftLeft_zero]
          simp only [Bool.false_eq_true, if_false]
          exact_mod_cast hmm
        have : 0 < N := by
          rcases Int.lt_or_le 0 N with h3 | h3
          · exact h3
          · have := Int.mul_nonpos_of_nonpos_of_nonneg h3 (Int.le_of_lt hq)
            omega
        simp; omega
      · have h2 : N * ((2 ^ q : Nat) : Int) < 0 := by
          rw [← h]; unfold signed; rw [Nat.shiftLeft_zero]
          simp only [if_true]
          have : (0 : Int) < ((N.natAbs * 2 ^ q : Nat) : Int) := by exact_mod_cast hmm
          omega
        have : N < 0 := by
          rcases Int.lt_or_le N 0 with h3 | h3
          · exact h3
          · have := Int.mul_nonneg h3 (Int.le_of_lt hq)
            omega
        simp [this]
    generalize 52 - N.natAbs.log2 = z
    have e : signed neg (N.natAbs * 2 ^ z) 0 = signed neg N.natAbs z := by
      unfold signed
      rw [Nat.shiftLeft_zero, Nat.shiftLeft_eq]
    rw [e, signed_shift, hs]

theorem of_int {n : Int} (h : n.natAbs < 2 ^ 53) : Is (floatOfInt .f64 n) n := by
  have := write_is (decide (n < 0)) n.natAbs 0 n (by
    rw [signed_self]
    · simp
    · split <;> simp) h
  exact this

theorem Is.uniq {x : Nat} {a b : Int} (h : Is x a) (k : Is x b) : a = b := by
  obtain ⟨s, m, q, e, f⟩ := h
  obtain ⟨s', m', q', e', f'⟩ := k
  rw [e] at e'
  injection e' with e1 e2 e3
  have : q = q' := by omega
  subst e1 e2 this
  rw [f] at f'
  exact Int.eq_of_mul_eq_mul_right (by have := pow_pos' q; omega) f'

theorem shift_up {s : Bool} {m q M : Nat} {a : Int} (h : signed s m 0 = a * ((2 ^ q : Nat) : Int)) (hq : q ≤ M) : signed s m (-(q : Int) - (-(M : Int))).toNat = a * ((2 ^ M : Nat) : Int) := by
  rw [signed_shift, h, Int.mul_assoc, ← Int.natCast_mul, ← Nat.pow_add]
  congr 3
  omega

theorem min_neg (q r : Nat) : min (-(q : Int)) (-(r : Int)) = -((max q r : Nat) : Int) := by omega

theorem sum_is {s t : Bool} {m n q r : Nat} {a b : Int} (ha : signed s m 0 = a * ((2 ^ q : Nat) : Int)) (hb : signed t n 0 = b * ((2 ^ r : Nat) : Int)) (h : (a + b).natAbs < 2 ^ 53) :
    ∃ d, Datum.sum (.number s m (-(q : Int))) (.number t n (-(r : Int))) = some d ∧ Is (Ieee.double.write d) (a + b) := by
  refine ⟨_, rfl, ?_⟩
  rw [min_neg]
  have e1 := shift_up ha (Nat.le_max_left q r)
  have e2 := shift_up hb (Nat.le_max_right q r)
  rw [e1, e2]
  refine write_is _ _ _ _ ?_ h
  rw [signed_self, Int.add_mul]
  split <;> simp

theorem Is.add {x y : Nat} {a b : Int} (hx : Is x a) (hy : Is y b) (h : (a + b).natAbs < 2 ^ 53) : faddok x y = true ∧ Is (fadd x y) (a + b) := by
  obtain ⟨s, m, q, e, f⟩ := hx
  obtain ⟨s', m', q', e', f'⟩ := hy
  obtain ⟨d, h1, h2⟩ := sum_is f f' h
  have : floatBits .add .f64 x y = some (Ieee.double.write d) := by
    show ((Ieee.double.read x).sum (Ieee.double.read y)).map Ieee.double.write = _
    rw [e, e', h1]
    rfl
  unfold faddok fadd
  rw [this]
  exact ⟨rfl, h2⟩

theorem Is.sub {x y : Nat} {a b : Int} (hx : Is x a) (hy : Is y b) (h : (a - b).natAbs < 2 ^ 53) : fsubok x y = true ∧ Is (fsub x y) (a - b) := by
  obtain ⟨s, m, q, e, f⟩ := hx
  obtain ⟨s', m', q', e', f'⟩ := hy
  have f2 : signed (!s') m' 0 = (-b) * ((2 ^ q' : Nat) : Int) := by rw [signed_not, f', Int.neg_mul]
  obtain ⟨d, h1, h2⟩ := sum_is f f2 (by rw [← Int.sub_eq_add_neg]; exact h)
  have : floatBits .sub .f64 x y = some (Ieee.double.write d) := by
    show ((Ieee.double.read x).sum (Ieee.double.read y).opposite).map Ieee.double.write = _
    rw [e, e']
    show (Datum.sum (.number s m (-(q : Int))) (.number (!s') m' (-(q' : Int)))).map Ieee.double.write = _
    rw [h1]
    rfl
  unfold fsubok fsub
  rw [this]
  exact ⟨rfl, by rw [Int.sub_eq_add_neg]; exact h2⟩

theorem Is.mul {x y : Nat} {a b : Int} (hx : Is x a) (hy : Is y b) (h : (a * b).natAbs < 2 ^ 53) : fmulok x y = true ∧ Is (fmul x y) (a * b) := by
  obtain ⟨s, m, q, e, f⟩ := hx
  obtain ⟨s', m', q', e', f'⟩ := hy
  have : floatBits .mul .f64 x y = some (Ieee.double.write (.number (s ^^ s') (m * m') (-((q + q' : Nat) : Int)))) := by
    show ((Ieee.double.read x).product (Ieee.double.read y)).map Ieee.double.write = _
    rw [e, e']
    show some (Ieee.double.write (.number (s ^^ s') (m * m') (-(q : Int) + -(q' : Int)))) = _
    rw [show (-(q : Int) + -(q' : Int)) = -((q + q' : Nat) : Int) by omega]
  unfold fmulok fmul
  rw [this]
  refine ⟨rfl, ?_⟩
  refine write_is _ _ _ _ ?_ h
  rw [signed_mul, f, f', Nat.pow_add, Int.natCast_mul, Int.mul_assoc, Int.mul_assoc]
  congr 1
  rw [← Int.mul_assoc, ← Int.mul_assoc, Int.mul_comm _ b]

theorem Is.order {x y : Nat} {a b : Int} (hx : Is x a) (hy : Is y b) : Ieee.double.order x y = some (compare a b) := by
  obtain ⟨s, m, q, e, f⟩ := hx
  obtain ⟨s', m', q', e', f'⟩ := hy
  show (Ieee.double.read x).order (Ieee.double.read y) = _
  rw [e, e']
  show some (compare (signed s m (-(q : Int) - min (-(q : Int)) (-(q' : Int))).toNat) (signed s' m' (-(q' : Int) - min (-(q : Int)) (-(q' : Int))).toNat)) = _
  rw [min_neg, shift_up f (Nat.le_max_left q q'), shift_up f' (Nat.le_max_right q q')]
  have hp := pow_pos' (max q q')
  generalize ((2 ^ (max q q') : Nat) : Int) = p at hp
  congr 1
  simp only [compare, compareOfLessAndEq]
  have h1 : a * p < b * p ↔ a < b := Int.mul_lt_mul_right hp
  have h2 : a * p = b * p ↔ a = b := ⟨fun h => Int.eq_of_mul_eq_mul_right (by omega) h, fun h => by rw [h]⟩
  simp only [h1, h2]
theorem Is.feq {x y : Nat} {a b : Int} (hx : Is x a) (hy : Is y b) : feq x y = decide (a = b) := by
  show (Ieee.double.order x y == some .eq) = _
  rw [hx.order hy]
  simp only [compare, compareOfLessAndEq]
  by_cases h : a = b
  · subst h; simp
  · by_cases h1 : a < b
    · simp [h, h1]
    · simp [h, h1]
theorem Is.fle {x y : Nat} {a b : Int} (hx : Is x a) (hy : Is y b) : fle x y = decide (a ≤ b) := by
  show (Ieee.double.order x y == some .lt || Ieee.double.order x y == some .eq) = _
  rw [hx.order hy]
  simp only [compare, compareOfLessAndEq]
  by_cases h : a = b
  · subst h; simp
  · by_cases h1 : a < b
    · simp [h1]; omega
    · simp [h, h1]; omega
theorem Is.fge {x y : Nat} {a b : Int} (hx : Is x a) (hy : Is y b) : fge x y = decide (a ≥ b) := by
  show (Ieee.double.order x y == some .gt || Ieee.double.order x y == some .eq) = _
  rw [hx.order hy]
  simp only [compare, compareOfLessAndEq]
  by_cases h : a = b
  · subst h; simp
  · by_cases h1 : a < b
    · simp [h, h1]
    · simp [h, h1]; omega
theorem Is.flt {x y : Nat} {a b : Int} (hx : Is x a) (hy : Is y b) : flt x y = decide (a < b) := by
  show (Ieee.double.order x y == some .lt) = _
  rw [hx.order hy]
  simp only [compare, compareOfLessAndEq]
  by_cases h1 : a < b
  · simp [h1]
  · by_cases h : a = b
    · subst h; simp
    · simp [h, h1]

theorem cut_floor (neg : Bool) (n d : Nat) : Toward.zero.cut neg n d = n / 2 ^ d := by
  unfold Toward.cut
  simp only [Nat.one_shiftLeft, Bool.toNat_false, Nat.add_zero]
  by_cases h : d ≤ n.log2 + 2
  · rw [Nat.min_eq_left h]
  · rw [Nat.min_eq_right (by omega)]
    have h1 : n < 2 ^ (n.log2 + 2) := Nat.lt_of_lt_of_le Nat.lt_log2_self (Nat.pow_le_pow_right (by omega) (by omega))
    have h2 : n < 2 ^ d := Nat.lt_of_lt_of_le h1 (Nat.pow_le_pow_right (by omega) (by omega))
    rw [Nat.div_eq_of_lt h1, Nat.div_eq_of_lt h2]

theorem Is.toint {x : Nat} {n : Int} (h : Is x n) (h0 : -9223372036854775808 ≤ n) (h1 : n ≤ 9223372036854775807) : f2iok x = true ∧ f2i x = n := by
  obtain ⟨s, m, q, e, f⟩ := h
  have hm : m = n.natAbs * 2 ^ q := by
    have := congrArg Int.natAbs f
    rw [signed_natAbs, Int.natAbs_mul, Int.natAbs_natCast] at this
    exact this
  have hi : (FloatKind.f64.decode x).toInt .zero = some n := by
    show (Ieee.double.read x).toInt .zero = _
    rw [e]
    show some (signed s (Toward.zero.cut s (m <<< (-(q : Int)).toNat) (-(-(q : Int))).toNat) 0) = _
    have e1 : (-(q : Int)).toNat = 0 := by omega
    have e2 : (-(-(q : Int))).toNat = q := by omega
    rw [e1, e2, Nat.shiftLeft_zero, cut_floor]
    have e3 : m / 2 ^ q = n.natAbs := by rw [hm, Nat.mul_div_cancel _ (Nat.two_pow_pos q)]
    rw [e3]
    have e4 : signed s n.natAbs 0 * ((2 ^ q : Nat) : Int) = n * ((2 ^ q : Nat) : Int) := by
      rw [← f, hm, ← signed_shift]
      unfold signed
      rw [Nat.shiftLeft_eq, Nat.shiftLeft_zero]
    rw [Int.eq_of_mul_eq_mul_right (by have := pow_pos' q; omega) e4]
  have : floatToIntVal .f64 x .i64 = some n := by
    unfold floatToIntVal
    rw [hi]
    have a : IntKind.i64.min = -9223372036854775808 := rfl
    have b : IntKind.i64.max = 9223372036854775807 := rfl
    simp only [a, b]
    rw [if_pos ⟨h0, h1⟩]
  unfold f2iok f2i
  rw [this]
  exact ⟨rfl, rfl⟩

/-- Which data a word stands for. -/
theorem read_cases (x : Nat) : (∃ s m q, Ieee.double.read x = .number s m (-((q : Nat) : Int))) ∨ (∃ s m k, Ieee.double.read x = .number s m (((k + 1 : Nat)) : Int) ∧ 4503599627370496 ≤ m) ∨ (∃ s, Ieee.double.read x = .infinity s) ∨ (∃ s t, Ieee.double.read x = .nan s t) := by
  rw [read_eq]
  split
  · exact .inl ⟨_, _, 1074, rfl⟩
  · split
    · generalize x % 9223372036854775808 / 4503599627370496 - 1 = e
      generalize x % 9223372036854775808 % 4503599627370496 = r
      by_cases h : e ≤ 1074
      · refine .inl ⟨(x / 9223372036854775808 % 2 == 1), 4503599627370496 + r, 1074 - e, ?_⟩
        rw [show (-1074 + (e : Int)) = -((1074 - e : Nat) : Int) by omega]
      · refine .inr (.inl ⟨(x / 9223372036854775808 % 2 == 1), 4503599627370496 + r, e - 1075, ?_, Nat.le_add_right _ r⟩)
        rw [show (-1074 + (e : Int)) = ((e - 1075 + 1 : Nat) : Int) by omega]
    · split
      · exact .inr (.inr (.inl ⟨_, rfl⟩))
      · exact .inr (.inr (.inr ⟨_, _, rfl⟩))
/-- The bits without the sign. -/
theorem read_abs (x : Nat) : Ieee.double.read (x % 9223372036854775808) = match Ieee.double.read x with | .number _ m i => .number false m i | .infinity _ => .infinity false | .nan _ t => .nan false t := by
  rw [read_eq, read_eq, Nat.mod_mod]
  have : (x % 9223372036854775808 / 9223372036854775808 % 2 == 1) = false := by
    rw [Nat.div_eq_of_lt (Nat.mod_lt _ (by omega))]
    rfl
  rw [this]
  split
  · rfl
  · split
    · rfl
    · split <;> rfl

theorem order_num {x y : Nat} {s t : Bool} {m n : Nat} {i j : Int} (hx : Ieee.double.read x = .number s m i) (hy : Ieee.double.read y = .number t n j) :
    Ieee.double.order x y = some (compare (signed s m (i - min i j).toNat) (signed t n (j - min i j).toNat)) := by
  show (Ieee.double.read x).order (Ieee.double.read y) = _
  rw [hx, hy]
  rfl
theorem compare_le (a b : Int) : (some (compare a b) == some .lt || some (compare a b) == some .eq) = decide (a ≤ b) := by
  simp only [compare, compareOfLessAndEq]
  by_cases h : a = b
  · subst h; simp
  · by_cases h1 : a < b
    · simp [h1]; omega
    · simp [h, h1]; omega
theorem compare_eq (a b : Int) : (some (compare a b) == some .eq) = decide (a = b) := by
  simp only [compare, compareOfLessAndEq]
  by_cases h : a = b
  · subst h; simp
  · by_cases h1 : a < b
    · simp [h, h1]
    · simp [h, h1]

/-- Is a float whole, and not farther from 0 than most? -/
theorem whole_iff {x y : Nat} {M : Nat} (hM : M < 2 ^ 53) (hy : Is y (M : Int)) :
    (fle (x % 9223372036854775808) y = true → ftruncok x = true) ∧ ((fle (x % 9223372036854775808) y = true ∧ feq (ftrunc x) x = true) ↔ ∃ n, Is x n ∧ n.natAbs ≤ M) := by
  rcases read_cases x with ⟨s, m, q, e⟩ | ⟨s, m, k, e, hm⟩ | ⟨s, e⟩ | ⟨s, t, e⟩
  · have ea := read_abs x
    rw [e] at ea
    have hok : ftruncok x = true := by
      show (!(Ieee.double.read x).isNaN) = true
      rw [e]; rfl
    have hle : fle (x % 9223372036854775808) y = decide (m ≤ M * 2 ^ q) := by
      obtain ⟨s', m', q', e', f'⟩ := hy
      show (Ieee.double.order (x % 9223372036854775808) y == some .lt || Ieee.double.order (x % 9223372036854775808) y == some .eq) = _
      rw [order_num ea e', compare_le, min_neg, shift_up f' (Nat.le_max_right q q')]
      have h1 : signed false m (-(q : Int) - (-((max q q' : Nat) : Int))).toNat = ((m * 2 ^ (max q q' - q) : Nat) : Int) := by
        unfold signed
        rw [Nat.shiftLeft_eq]
        simp only [Bool.false_eq_true, if_false]
        congr 3
        omega
      rw [h1]
      have h2 : 2 ^ (max q q') = 2 ^ q * 2 ^ (max q q' - q) := by rw [← Nat.pow_add]; congr 1; omega
      rw [h2, ← Int.natCast_mul, ← Nat.mul_assoc]
      have h3 := Nat.two_pow_pos (max q q' - q)
      congr 1
      refine propext ⟨fun h => ?_, fun h => ?_⟩
      · exact Nat.le_of_mul_le_mul_right (by exact_mod_cast h) h3
      · exact_mod_cast Nat.mul_le_mul_right _ h
    refine ⟨fun _ => hok, ?_⟩
    rw [hle]
    have ht : ftrunc x = Ieee.double.write (.number s (m / 2 ^ q) 0) := by
      show Ieee.double.write ((Ieee.double.read x).integral .zero) = _
      rw [e]
      show Ieee.double.write (.number s (Toward.zero.cut s (m <<< (-(q : Int)).toNat) (-(-(q : Int))).toNat) 0) = _
      have e1 : (-(q : Int)).toNat = 0 := by omega
      have e2 : (-(-(q : Int))).toNat = q := by omega
      rw [e1, e2, Nat.shiftLeft_zero, cut_floor]
    have hq := Nat.two_pow_pos q
    constructor
    · rintro ⟨h1, h2⟩
      have h1 := of_decide_eq_true h1
      have hb : m / 2 ^ q ≤ M := by
        have := Nat.div_le_div_right (c := 2 ^ q) h1
        rwa [Nat.mul_div_cancel _ hq] at this
      have hT : Is (ftrunc x) (signed s (m / 2 ^ q) 0) := by
        rw [ht]
        exact write_is s _ 0 _ (by simp) (by rw [signed_natAbs]; omega)
      obtain ⟨s', m', q', e', f'⟩ := hT
      have h3 : Go.Proofs.YtofedlghaopciaaGreatDoorW.PrintWords.feq (ftrunc x) x = decide (signed s (m / 2 ^ q) 0 * ((2 ^ (max q' q) : Nat) : Int) = signed s m (-(q : Int) - (-((max q' q : Nat) : Int))).toNat) := by
        show (Ieee.double.order (ftrunc x) x == some .eq) = _
        rw [order_num e' e, compare_eq, min_neg, shift_up f' (Nat.le_max_left q' q)]
      rw [h3] at h2
      have h2 := of_decide_eq_true h2
      rw [signed_shift s m, show (-(q : Int) - (-((max q' q : Nat) : Int))).toNat = max q' q - q by omega] at h2
      have h4 : 2 ^ (max q' q) = 2 ^ q * 2 ^ (max q' q - q) := by rw [← Nat.pow_add]; congr 1; omega
      rw [h4, Int.natCast_mul, ← Int.mul_assoc] at h2
      have h5 := Int.eq_of_mul_eq_mul_right (by have := pow_pos' (max q' q - q); omega) h2
      exact ⟨signed s (m / 2 ^ q) 0, ⟨s, m, q, e, h5.symm⟩, by rw [signed_natAbs]; exact hb⟩
    · rintro ⟨n, hx, hn⟩
      obtain ⟨s', m', q', e', f'⟩ := id hx
      rw [e] at e'
      injection e' with c1 c2 c3
      have c4 : q = q' := by omega
      subst c1 c2 c4
      have hmn : m = n.natAbs * 2 ^ q := by
        have := congrArg Int.natAbs f'
        rw [signed_natAbs, Int.natAbs_mul, Int.natAbs_natCast] at this
        exact this
      have hT : Is (ftrunc x) n := by
        rw [ht]
        refine write_is s _ 0 _ ?_ (by omega)
        have : m / 2 ^ q = n.natAbs := by rw [hmn, Nat.mul_div_cancel _ hq]
        rw [this]
        have e4 : signed s n.natAbs 0 * ((2 ^ q : Nat) : Int) = n * ((2 ^ q : Nat) : Int) := by
          rw [← f', hmn, ← signed_shift]
          unfold signed
          rw [Nat.shiftLeft_eq, Nat.shiftLeft_zero]
        rw [Int.eq_of_mul_eq_mul_right (by have := pow_pos' q; omega) e4]
        simp
      refine ⟨decide_eq_true ?_, ?_⟩
      · rw [hmn]; exact Nat.mul_le_mul_right _ hn
      · rw [Is.feq hT hx]; exact decide_eq_true rfl
  · have ea := read_abs x
    rw [e] at ea
    have hle : fle (x % 9223372036854775808) y = false := by
      obtain ⟨s', m', q', e', f'⟩ := hy
      show (Ieee.double.order (x % 9223372036854775808) y == some .lt || Ieee.double.order (x % 9223372036854775808) y == some .eq) = _
      rw [order_num ea e', compare_le]
      have h0 : min (((k + 1 : Nat)) : Int) (-(q' : Int)) = -(q' : Int) := by omega
      rw [h0, show (-(q' : Int) - (-(q' : Int))).toNat = 0 by omega, f', show ((((k + 1 : Nat)) : Int) - (-(q' : Int))).toNat = (k + 1) + q' by omega]
      have h1 : signed false m (k + 1 + q') = ((m * 2 ^ (k + 1) * 2 ^ q' : Nat) : Int) := by
        unfold signed
        rw [Nat.shiftLeft_eq, Nat.pow_add, Nat.mul_assoc]
        simp only [Bool.false_eq_true, if_false]
      rw [h1, ← Int.natCast_mul]
      refine decide_eq_false fun h => ?_
      have h2 : m * 2 ^ (k + 1) ≤ M := Nat.le_of_mul_le_mul_right (by exact_mod_cast h) (Nat.two_pow_pos q')
      have h3 : 2 ^ 53 ≤ m * 2 ^ (k + 1) := by
        calc 2 ^ 53 = 4503599627370496 * 2 ^ 1 := by decide
          _ ≤ m * 2 ^ (k + 1) := Nat.mul_le_mul hm (Nat.pow_le_pow_right (by omega) (by omega))
      omega
    rw [hle]
    refine ⟨fun h => (by cases h), ⟨fun h => (by cases h.1), ?_⟩⟩
    rintro ⟨n, ⟨s', m', q', e', f'⟩, _⟩
    rw [e] at e'
    injection e' with c1 c2 c3
    omega
  · have ea := read_abs x
    rw [e] at ea
    have hle : fle (x % 9223372036854775808) y = false := by
      obtain ⟨s', m', q', e', f'⟩ := hy
      show ((Ieee.double.read (x % 9223372036854775808)).order (Ieee.double.read y) == some .lt || (Ieee.double.read (x % 9223372036854775808)).order (Ieee.double.read y) == some .eq) = _
      rw [ea, e']
      rfl
    rw [hle]
    refine ⟨fun h => (by cases h), ⟨fun h => (by cases h.1), ?_⟩⟩
    rintro ⟨n, ⟨s', m', q', e', f'⟩, _⟩
    rw [e] at e'
    cases e'
  · have ea := read_abs x
    rw [e] at ea
    have hle : fle (x % 9223372036854775808) y = false := by
      show ((Ieee.double.read (x % 9223372036854775808)).order (Ieee.double.read y) == some .lt || (Ieee.double.read (x % 9223372036854775808)).order (Ieee.double.read y) == some .eq) = _
      rw [ea]
      cases Ieee.double.read y <;> rfl
    rw [hle]
    refine ⟨fun h => (by cases h), ⟨fun h => (by cases h.1), ?_⟩⟩
    rintro ⟨n, ⟨s', m', q', e', f'⟩, _⟩
    rw [e] at e'
    cases e'

theorem abs_bits (x : Nat) (h : x < 18446744073709551616) : u2f (Go.bits .andNot .u64 (f2u x) 9223372036854775808) = x % 9223372036854775808 := by
  unfold u2f f2u
  rw [u64_andNot _ _ (by omega) (by omega) (by omega) (by omega)]
  have := Nat.and_two_pow_sub_one_eq_mod x 63
  simpa using this

theorem Is.mul_some {x y : Nat} {a b : Int} (hx : Is x a) (hy : Is y b) (h : (a * b).natAbs < 2 ^ 53) : floatBits .mul .f64 x y = some (fmul x y) := get_some 0 (hx.mul hy h).1
theorem Is.add_some {x y : Nat} {a b : Int} (hx : Is x a) (hy : Is y b) (h : (a + b).natAbs < 2 ^ 53) : floatBits .add .f64 x y = some (fadd x y) := get_some 0 (hx.add hy h).1
theorem Is.sub_some {x y : Nat} {a b : Int} (hx : Is x a) (hy : Is y b) (h : (a - b).natAbs < 2 ^ 53) : floatBits .sub .f64 x y = some (fsub x y) := get_some 0 (hx.sub hy h).1

theorem cmul_is {a b c d : Nat} {A B C D : Int} (ha : Is a A) (hb : Is b B) (hc : Is c C) (hd : Is d D) (h1 : (A * C).natAbs < 2 ^ 53) (h2 : (B * D).natAbs < 2 ^ 53) (h3 : (A * D).natAbs < 2 ^ 53) (h4 : (B * C).natAbs < 2 ^ 53)
    (h5 : (A * C - B * D).natAbs < 2 ^ 53) (h6 : (A * D + B * C).natAbs < 2 ^ 53) : cmulok a b c d = true ∧ Is (cmulre a b c d) (A * C - B * D) ∧ Is (cmulim a b c d) (A * D + B * C) := by
  have e : cMulBits a b c d = some (fsub (fmul a c) (fmul b d), fadd (fmul a d) (fmul b c)) := by
    unfold cMulBits
    simp only [ha.mul_some hc h1, hb.mul_some hd h2, ha.mul_some hd h3, hb.mul_some hc h4, Option.bind_some, (ha.mul hc h1).2.sub_some (hb.mul hd h2).2 h5, (ha.mul hd h3).2.add_some (hb.mul hc h4).2 h6]
  unfold cmulok cmulre cmulim
  rw [e]
  exact ⟨rfl, ((ha.mul hc h1).2.sub (hb.mul hd h2).2 h5).2, ((ha.mul hd h3).2.add (hb.mul hc h4).2 h6).2⟩

theorem wf_lt {x : Nat} (h : (Lit.float .f64 x).wf = true) : x < 18446744073709551616 := by
  simpa [Lit.wf] using h
theorem cmul_lt (a b c d : Nat) : cmulre a b c d < 18446744073709551616 ∧ cmulim a b c d < 18446744073709551616 := by
  unfold cmulre cmulim
  cases h : cMulBits a b c d with
  | none => exact ⟨by decide, by decide⟩
  | some p =>
    unfold cMulBits at h
    obtain ⟨ac, _, h⟩ := Option.bind_eq_some_iff.mp h
    obtain ⟨bd, _, h⟩ := Option.bind_eq_some_iff.mp h
    obtain ⟨re, h1, h⟩ := Option.bind_eq_some_iff.mp h
    obtain ⟨ad, _, h⟩ := Option.bind_eq_some_iff.mp h
    obtain ⟨bc, _, h⟩ := Option.bind_eq_some_iff.mp h
    obtain ⟨im, h2, h⟩ := Option.bind_eq_some_iff.mp h
    cases h
    exact ⟨wf_lt (floatBits_wf h1), wf_lt (floatBits_wf h2)⟩
theorem cadd_is {a b c d : Nat} {A B C D : Int} (ha : Is a A) (hb : Is b B) (hc : Is c C) (hd : Is d D) (h1 : (A + C).natAbs < 2 ^ 53) (h2 : (B + D).natAbs < 2 ^ 53) :
    caddok a b c d = true ∧ Is (caddre a b c d) (A + C) ∧ Is (caddim a b c d) (B + D) := by
  have e : cSumBits .add .f64 a b c d = some (fadd a c, fadd b d) := by
    unfold cSumBits
    simp only [ha.add_some hc h1, hb.add_some hd h2, Option.bind_some]
  unfold caddok caddre caddim
  rw [e]
  exact ⟨rfl, (ha.add hc h1).2, (hb.add hd h2).2⟩

theorem ceq_is {a b c d : Nat} {A B C D : Int} (ha : Is a A) (hb : Is b B) (hc : Is c C) (hd : Is d D) : ceq a b c d = (decide (A = C) && decide (B = D)) := by
  unfold ceq
  rw [ha.feq hc, hb.feq hd]

theorem is_zero : Is 0 0 := ⟨false, 0, 1074, by rw [read_eq]; rfl, by rw [signed_zero, Int.zero_mul]⟩
theorem Is.neg {x : Nat} {n : Int} (h : Is x n) : Is (fneg x) (-n) := by
  obtain ⟨s, m, q, e, f⟩ := h
  have a : (x ^^^ 9223372036854775808) % 9223372036854775808 = x % 9223372036854775808 := by
    have := Nat.xor_mod_two_pow (a := x) (b := 9223372036854775808) (n := 63)
    simpa using this
  have b : ((x ^^^ 9223372036854775808) / 9223372036854775808 % 2 == 1) = !(x / 9223372036854775808 % 2 == 1) := by
    have h1 : (x ^^^ 9223372036854775808) / 9223372036854775808 = x / 9223372036854775808 ^^^ 1 := by
      have := Nat.xor_div_two_pow (a := x) (b := 9223372036854775808) (n := 63)
      simpa using this
    rw [h1]
    have h2 := Nat.xor_mod_two_pow (a := x / 9223372036854775808) (b := 1) (n := 1)
    simp only [Nat.pow_one] at h2
    rw [h2]
    rcases Nat.mod_two_eq_zero_or_one (x / 9223372036854775808) with h3 | h3 <;> rw [h3] <;> rfl
  refine ⟨!s, m, q, ?_, by rw [signed_not, f, Int.neg_mul]⟩
  unfold fneg
  rw [read_eq] at e ⊢
  rw [a, b]
  split at e
  · rename_i c
    rw [if_pos c]
    injection e with e1 e2 e3
    rw [e1, e2, e3]
  · rename_i c
    rw [if_neg c]
    split at e
    · rename_i c
      rw [if_pos c]
      injection e with e1 e2 e3
      rw [e1, e2, e3]
    · split at e <;> cases e
end Go.Proofs.YtofedlghaopciaaGreatDoor.Flt
end
section
/- Floats that stand for a fourth of a whole number: the quotient by 4. -/
set_option linter.unusedVariables false
set_option linter.unusedSimpArgs false
namespace Go.Proofs.YtofedlghaopciaaGreatDoor.Flt
open Ieee Go.Proofs.YtofedlghaopciaaGreatDoorW.PrintWords

theorem rung_parts4 (L K : Nat) (h1 : 4503599627370496 ≤ K) (h2 : K < 9007199254740992) (hL : L < 53) : min ((1020 + L) * 4503599627370496 + K) 9218868437227405312 = (1020 + L) * 4503599627370496 + K ∧
    4503599627370496 ≤ (1020 + L) * 4503599627370496 + K ∧ (1020 + L) * 4503599627370496 + K < 9218868437227405312 ∧ 4503599627370496 + ((1020 + L) * 4503599627370496 + K) % 4503599627370496 = K ∧ ((1020 + L) * 4503599627370496 + K) / 4503599627370496 = 1021 + L := by
  refine ⟨by omega, by omega, by omega, by omega, by omega⟩
theorem place4_e (L : Nat) (hL : L < 53) : (-((54 - L : Nat) : Int) - (-1074)).toNat = 1020 + L := by omega
theorem place4_e' (L : Nat) (hL : L < 53) : (-1074 + ((1021 + L - 1 : Nat) : Int)) = -((54 - L : Nat) : Int) := by omega
/-- The canonical form of a fourth. -/
theorem nearest_read4 (neg : Bool) (mag : Nat) (r : Nat) (N : Nat) (hN : N < 2 ^ 53) (h0 : N ≠ 0) (h : mag = N * 2 ^ r) :
    Ieee.double.read (Ieee.double.nearest neg mag (-((r + 2 : Nat) : Int))) = .number neg (N * 2 ^ (52 - N.log2)) (-((54 - N.log2 : Nat) : Int)) := by
  have hlog : N.log2 < 53 := (Nat.log2_lt h0).2 hN
  have hmag : mag ≠ 0 := by rw [h]; exact Nat.mul_ne_zero h0 (by have := Nat.two_pow_pos r; omega)
  have hlogm : mag.log2 = N.log2 + r := by
    rw [h, Nat.log2_eq_iff (by rw [← h]; exact hmag)]
    have a := Nat.log2_self_le h0
    have b := Nat.lt_log2_self (n := N)
    have hq := Nat.two_pow_pos r
    refine ⟨?_, ?_⟩
    · rw [Nat.pow_add]; exact Nat.mul_le_mul_right _ a
    · rw [show N.log2 + r + 1 = (N.log2 + 1) + r by omega, Nat.pow_add]; exact (Nat.mul_lt_mul_right hq).2 b
  have hkept : Toward.even.cut neg (mag <<< (-((r + 2 : Nat) : Int) - (-((54 - N.log2 : Nat) : Int))).toNat) (-((54 - N.log2 : Nat) : Int) - (-((r + 2 : Nat) : Int))).toNat = N * 2 ^ (52 - N.log2) := by
    by_cases hc : 52 - N.log2 ≤ r
    · have e1 : (-((r + 2 : Nat) : Int) - (-((54 - N.log2 : Nat) : Int))).toNat = 0 := by omega
      have e2 : (-((54 - N.log2 : Nat) : Int) - (-((r + 2 : Nat) : Int))).toNat = r - (52 - N.log2) := by omega
      rw [e1, e2, h, Nat.shiftLeft_zero]
      have e3 : N * 2 ^ r = (N * 2 ^ (52 - N.log2)) * 2 ^ (r - (52 - N.log2)) := by
        rw [Nat.mul_assoc, ← Nat.pow_add, Nat.add_sub_cancel' hc]
      rw [e3]
      exact cut_exact _ (.inl rfl) _ _ _ (Nat.mul_ne_zero h0 (by have := Nat.two_pow_pos (52 - N.log2); omega))
    · have e1 : (-((r + 2 : Nat) : Int) - (-((54 - N.log2 : Nat) : Int))).toNat = 52 - N.log2 - r := by omega
      have e2 : (-((54 - N.log2 : Nat) : Int) - (-((r + 2 : Nat) : Int))).toNat = 0 := by omega
      rw [e1, e2, cut_zero _ (.inl rfl), Nat.shiftLeft_eq, h, Nat.mul_assoc, ← Nat.pow_add]
      congr 2
      omega
  have hlast : max (-((r + 2 : Nat) : Int) + mag.log2 - Ieee.double.fractionBits) Ieee.double.leastPlace = -((54 - N.log2 : Nat) : Int) := by
    rw [hlogm]
    have : Ieee.double.leastPlace = -1074 := rfl
    have e : (Ieee.double.fractionBits : Int) = 52 := rfl
    rw [this, e]
    omega
  have hK1 : 2 ^ 52 ≤ N * 2 ^ (52 - N.log2) := by
    have a := Nat.log2_self_le h0
    calc 2 ^ 52 = 2 ^ N.log2 * 2 ^ (52 - N.log2) := by rw [← Nat.pow_add]; congr 1; omega
      _ ≤ _ := Nat.mul_le_mul_right _ a
  have hK2 : N * 2 ^ (52 - N.log2) < 2 ^ 53 := by
    have b := Nat.lt_log2_self (n := N)
    calc N * 2 ^ (52 - N.log2) < 2 ^ (N.log2 + 1) * 2 ^ (52 - N.log2) := (Nat.mul_lt_mul_right (Nat.two_pow_pos _)).2 b
      _ = 2 ^ 53 := by rw [← Nat.pow_add]; congr 1; omega
  have hK1' : 4503599627370496 ≤ N * 2 ^ (52 - N.log2) := Nat.le_trans (by decide) hK1
  have hK2' : N * 2 ^ (52 - N.log2) < 9007199254740992 := Nat.lt_of_lt_of_le hK2 (by decide)
  obtain ⟨r1, r2, r3, r4, r5⟩ := rung_parts4 N.log2 (N * 2 ^ (52 - N.log2)) hK1' hK2' hlog
  rw [e_least] at hlast
  rw [nearest_gen _ neg mag _ _ _ 52 _ _ _ hmag e_binade e_inf e_least e_frac hlast hkept]
  have e := place4_e N.log2 hlog
  rw [e, r1, read_word neg _ r2 r3, r4, r5]
  have e' := place4_e' N.log2 hlog
  rw [e']

/-- The bits x stand for a fourth of n. -/
def IsQ (x : Nat) (n : Int) : Prop := ∃ s m q, Ieee.double.read x = .number s m (-((q : Nat) : Int)) ∧ signed s m 0 * 4 = n * ((2 ^ q : Nat) : Int)

theorem sign_of {neg : Bool} {N : Int} {q : Nat} (h : signed neg (N.natAbs * 2 ^ q) 0 = N * ((2 ^ q : Nat) : Int)) (h0 : N ≠ 0) : signed neg N.natAbs 0 = N := by
  have hq := pow_pos' q
  have e : signed neg (N.natAbs * 2 ^ q) 0 = signed neg N.natAbs 0 * ((2 ^ q : Nat) : Int) := by
    rw [← signed_shift]
    unfold signed
    rw [Nat.shiftLeft_zero, Nat.shiftLeft_eq]
  rw [e] at h
  exact Int.eq_of_mul_eq_mul_right (by omega) h

theorem write_q (neg : Bool) (mag r : Nat) (N : Int) (h : signed neg mag 0 = N * ((2 ^ r : Nat) : Int)) (h1 : N.natAbs < 2 ^ 53) : IsQ (Ieee.double.write (.number neg mag (-((r + 2 : Nat) : Int)))) N := by
  show IsQ (Ieee.double.nearest neg mag (-((r + 2 : Nat) : Int))) N
  have hm : mag = N.natAbs * 2 ^ r := by
    have := congrArg Int.natAbs h
    rw [signed_natAbs, Int.natAbs_mul, Int.natAbs_natCast] at this
    exact this
  by_cases h0 : N = 0
  · subst h0
    have : mag = 0 := by rw [hm]; simp
    subst this
    exact ⟨neg, 0, 1074, nearest_read0 neg _, by rw [signed_zero, Int.zero_mul, Int.zero_mul]⟩
  · have hl : N.natAbs.log2 < 53 := (Nat.log2_lt (by omega)).2 h1
    refine ⟨neg, _, _, nearest_read4 neg mag r N.natAbs h1 (by omega) hm, ?_⟩
    rw [hm] at h
    have hs := sign_of h h0
    have e : signed neg (N.natAbs * 2 ^ (52 - N.natAbs.log2)) 0 = signed neg N.natAbs (52 - N.natAbs.log2) := by
      unfold signed
      rw [Nat.shiftLeft_zero, Nat.shiftLeft_eq]
    rw [e, signed_shift, hs, Int.mul_assoc]
    congr 1
    have e2 : 2 ^ (54 - N.natAbs.log2) = 2 ^ (52 - N.natAbs.log2) * 4 := by
      rw [show 54 - N.natAbs.log2 = (52 - N.natAbs.log2) + 2 by omega, Nat.pow_add]
    rw [e2, Int.natCast_mul]
    rfl

theorem read_lt {x : Nat} {s : Bool} {m : Nat} {i : Int} (h : Ieee.double.read x = .number s m i) : m < 9007199254740992 := by
  rw [read_eq] at h
  split at h
  · injection h; omega
  · split at h
    · injection h; omega
    · split at h <;> cases h
theorem read_four : Ieee.double.read 4616189618054758400 = .number false 4503599627370496 (-((50 : Nat) : Int)) := by
  rw [read_eq]; rfl
theorem log_four : (4503599627370496 : Nat).log2 = 52 := by decide

theorem quo4 {x : Nat} {N : Int} (hx : Is x N) (h1 : N.natAbs < 2 ^ 53) : ∃ e, floatBits .quo .f64 x 4616189618054758400 = some e ∧ IsQ e N := by
  obtain ⟨s, m, q, e, f⟩ := hx
  have hm := read_lt e
  have hl : m.log2 ≤ 52 := by
    by_cases h0 : m = 0
    · subst h0; decide
    · have := (Nat.log2_lt h0).2 (show m < 2 ^ 53 by omega); omega
  refine ⟨_, (by
    show ((Ieee.double.read x).quotient (Ieee.double.fractionBits + 2) (Ieee.double.read 4616189618054758400)).map Ieee.double.write = some (Ieee.double.write (.number s (m * 2 ^ (55 - m.log2)) (-((q + 55 - m.log2 + 2 : Nat) : Int))))
    rw [e, read_four, e_frac]
    show Option.map _ (some (Datum.number (s ^^ false) (2 * ((m <<< (52 + 2 + (4503599627370496 : Nat).log2 - m.log2)) / 4503599627370496) + ((m <<< (52 + 2 + (4503599627370496 : Nat).log2 - m.log2)) % 4503599627370496 != 0).toNat) (-(q : Int) - (-((50 : Nat) : Int)) - ((52 + 2 + (4503599627370496 : Nat).log2 - m.log2 : Nat) : Int) - 1))) = _
    rw [log_four]
    have e2 : m <<< (52 + 2 + 52 - m.log2) = (m * 2 ^ (54 - m.log2)) * 4503599627370496 := by
      rw [Nat.shiftLeft_eq, show 52 + 2 + 52 - m.log2 = (54 - m.log2) + 52 by omega, Nat.pow_add, ← Nat.mul_assoc]
    rw [e2, Nat.mul_div_cancel _ (by omega), Nat.mul_mod_left]
    have e3 : 2 * (m * 2 ^ (54 - m.log2)) + ((0 : Nat) != 0).toNat = m * 2 ^ (55 - m.log2) := by
      rw [show 55 - m.log2 = (54 - m.log2) + 1 by omega, Nat.pow_succ]
      generalize 2 ^ (54 - m.log2) = P
      show 2 * (m * P) + 0 = m * (P * 2)
      rw [← Nat.mul_assoc m P 2, Nat.mul_comm 2, Nat.add_zero]
    rw [e3]
    have e4 : (-(q : Int) - (-((50 : Nat) : Int)) - ((52 + 2 + 52 - m.log2 : Nat) : Int) - 1) = (-((q + 55 - m.log2 + 2 : Nat) : Int)) := by omega
    rw [e4, Bool.xor_false]
    rfl), ?_⟩
  refine write_q s _ _ N ?_ h1
  have e5 : signed s (m * 2 ^ (55 - m.log2)) 0 = signed s m (55 - m.log2) := by
    unfold signed
    rw [Nat.shiftLeft_zero, Nat.shiftLeft_eq]
  rw [e5, signed_shift, f, Int.mul_assoc, ← Int.natCast_mul, ← Nat.pow_add]
  congr 3
  omega

/-- What is cut off a fourth. -/
theorem IsQ.trunc {e : Nat} {N : Int} (h : IsQ e N) (h1 : N.natAbs < 2 ^ 53) : ftruncok e = true ∧ feq (ftrunc e) e = decide (N % 4 = 0) ∧ (N % 4 = 0 → Is e (N / 4)) := by
  obtain ⟨s, m, q, r, f⟩ := h
  have hq := Nat.two_pow_pos q
  have hq' := pow_pos' q
  have hm : m * 4 = N.natAbs * 2 ^ q := by
    have := congrArg Int.natAbs f
    rw [Int.natAbs_mul, signed_natAbs, Int.natAbs_mul, Int.natAbs_natCast] at this
    exact this
  have hok : ftruncok e = true := by
    show (!(Ieee.double.read e).isNaN) = true
    rw [r]; rfl
  have ht : ftrunc e = Ieee.double.write (.number s (m / 2 ^ q) 0) := by
    show Ieee.double.write ((Ieee.double.read e).integral .zero) = _
    rw [r]
    show Ieee.double.write (.number s (Toward.zero.cut s (m <<< (-(q : Int)).toNat) (-(-(q : Int))).toNat) 0) = _
    have e1 : (-(q : Int)).toNat = 0 := by omega
    have e2 : (-(-(q : Int))).toNat = q := by omega
    rw [e1, e2, Nat.shiftLeft_zero, cut_floor]
  have hb : m / 2 ^ q < 2 ^ 53 := by
    have h2 : m ≤ N.natAbs * 2 ^ q := by omega
    have := Nat.div_le_div_right (c := 2 ^ q) h2
    rw [Nat.mul_div_cancel _ hq] at this
    omega
  have hT : Is (ftrunc e) (signed s (m / 2 ^ q) 0) := by
    rw [ht]
    exact write_is s _ 0 _ (by simp) (by rw [signed_natAbs]; omega)
  have hd : N % 4 = 0 → signed s m 0 = (N / 4) * ((2 ^ q : Nat) : Int) := fun h4 => by
    have h5 : N = N / 4 * 4 := by omega
    rw [h5] at f
    have : signed s m 0 * 4 = (N / 4 * ((2 ^ q : Nat) : Int)) * 4 := by
      rw [f, Int.mul_assoc, Int.mul_assoc, Int.mul_comm 4]
    omega
  refine ⟨hok, ?_, fun h4 => ⟨s, m, q, r, hd h4⟩⟩
  obtain ⟨s', m', q', e', f'⟩ := hT
  have h3 : Go.Proofs.YtofedlghaopciaaGreatDoorW.PrintWords.feq (ftrunc e) e = decide (signed s (m / 2 ^ q) 0 * ((2 ^ (max q' q) : Nat) : Int) = signed s m (-(q : Int) - (-((max q' q : Nat) : Int))).toNat) := by
    show (Ieee.double.order (ftrunc e) e == some .eq) = _
    rw [order_num e' r, compare_eq, min_neg, shift_up f' (Nat.le_max_left q' q)]
  rw [h3]
  congr 1
  refine propext ?_
  rw [signed_shift s m, show (-(q : Int) - (-((max q' q : Nat) : Int))).toNat = max q' q - q by omega]
  have h4 : 2 ^ (max q' q) = 2 ^ q * 2 ^ (max q' q - q) := by rw [← Nat.pow_add]; congr 1; omega
  rw [h4, Int.natCast_mul, ← Int.mul_assoc]
  constructor
  · intro h2
    have h5 := Int.eq_of_mul_eq_mul_right (by have := pow_pos' (max q' q - q); omega) h2
    have h6 : signed s (m / 2 ^ q) 0 * 4 * ((2 ^ q : Nat) : Int) = N * ((2 ^ q : Nat) : Int) := by
      rw [← f, ← h5, Int.mul_assoc, Int.mul_assoc, Int.mul_comm 4]
    have h7 := Int.eq_of_mul_eq_mul_right (by omega) h6
    omega
  · intro h2
    congr 1
    have h5 := hd h2
    have h6 : m = (N / 4).natAbs * 2 ^ q := by
      have := congrArg Int.natAbs h5
      rw [signed_natAbs, Int.natAbs_mul, Int.natAbs_natCast] at this
      exact this
    have h7 : m / 2 ^ q = (N / 4).natAbs := by rw [h6, Nat.mul_div_cancel _ hq]
    rw [h7, h5]
    congr 1
    by_cases h0 : N / 4 = 0
    · rw [h0]; exact signed_zero s
    · rw [h6] at h5
      exact sign_of h5 h0

theorem IsQ.notNaN {e : Nat} {N : Int} (h : IsQ e N) : Op.Complex.isNaN e = false := by
  obtain ⟨s, m, q, r, f⟩ := h
  show (Ieee.double.read e).isNaN = false
  rw [r]; rfl

/-- A complex number by 4. -/
theorem cquo4 {a b : Nat} {A B : Int} (ha : Is a A) (hb : Is b B) (h1 : A.natAbs < 2 ^ 53) (h2 : B.natAbs < 2 ^ 53) : ∃ e f, cQuoBits a b 4616189618054758400 0 = some (e, f) ∧ IsQ e A ∧ IsQ f B ∧ e < 18446744073709551616 ∧ f < 18446744073709551616 := by
  have q1 : floatBits .quo .f64 0 4616189618054758400 = some 0 := by decide +kernel
  have q2 : floatBits .mul .f64 0 0 = some 0 := by decide +kernel
  have q3 : floatBits .add .f64 4616189618054758400 0 = some 4616189618054758400 := by decide +kernel
  have hge : absGe 4616189618054758400 0 = true := by decide +kernel
  have q4 := hb.mul_some is_zero (by rw [Int.mul_zero]; decide)
  have i4 := (hb.mul is_zero (by rw [Int.mul_zero]; decide)).2
  have q7 := ha.mul_some is_zero (by rw [Int.mul_zero]; decide)
  have i7 := (ha.mul is_zero (by rw [Int.mul_zero]; decide)).2
  rw [Int.mul_zero] at i4 i7
  have q5 := ha.add_some i4 (by rw [Int.add_zero]; exact h1)
  have i5 := (ha.add i4 (by rw [Int.add_zero]; exact h1)).2
  have q8 := hb.sub_some i7 (by rw [Int.sub_zero]; exact h2)
  have i8 := (hb.sub i7 (by rw [Int.sub_zero]; exact h2)).2
  rw [Int.add_zero] at i5
  rw [Int.sub_zero] at i8
  obtain ⟨e, q6, i6⟩ := quo4 i5 h1
  obtain ⟨f, q9, i9⟩ := quo4 i8 h2
  refine ⟨e, f, ?_, i6, i9, wf_lt (floatBits_wf q6), wf_lt (floatBits_wf q9)⟩
  unfold cQuoBits
  simp only [hge, if_true, q1, q2, q3, q4, q5, q6, q7, q8, q9, Option.bind_some, i6.notNaN, Bool.false_and, Bool.not_false]
end Go.Proofs.YtofedlghaopciaaGreatDoor.Flt
end
section
/- Floats that stand for whole numbers up to 2^53 itself: the greatest sums of four products. -/
set_option linter.unusedVariables false
set_option linter.unusedSimpArgs false
namespace Go.Proofs.YtofedlghaopciaaGreatDoor.Flt
open Ieee Go.Proofs.YtofedlghaopciaaGreatDoorW.PrintWords

theorem nearest_read53 (neg : Bool) (mag q : Nat) (h : mag = 9007199254740992 * 2 ^ q) : Ieee.double.read (Ieee.double.nearest neg mag (-(q : Int))) = .number neg 4503599627370496 1 := by
  have hq := Nat.two_pow_pos q
  have hmag : mag ≠ 0 := by rw [h]; exact Nat.mul_ne_zero (by omega) (by omega)
  have hlogm : mag.log2 = 53 + q := by
    rw [Nat.log2_eq_iff hmag, h, show (9007199254740992 : Nat) = 2 ^ 53 by rfl, ← Nat.pow_add]
    refine ⟨Nat.le_refl _, ?_⟩
    exact Nat.pow_lt_pow_right (by omega) (by omega)
  have hkept : Toward.even.cut neg (mag <<< (-(q : Int) - 1).toNat) (1 - (-(q : Int))).toNat = 4503599627370496 := by
    have e1 : (-(q : Int) - 1).toNat = 0 := by omega
    have e2 : (1 - (-(q : Int))).toNat = 1 + q := by omega
    rw [e1, e2, Nat.shiftLeft_zero]
    have e3 : mag = 4503599627370496 * 2 ^ (1 + q) := by rw [h, Nat.pow_add]; omega
    rw [e3]
    exact cut_exact _ (.inl rfl) _ _ _ (by omega)
  have hlast : max (-(q : Int) + mag.log2 - Ieee.double.fractionBits) (-1074) = 1 := by
    rw [hlogm]
    have e : (Ieee.double.fractionBits : Int) = 52 := rfl
    rw [e]
    omega
  rw [nearest_gen _ neg mag _ _ _ 52 _ _ _ hmag e_binade e_inf e_least e_frac hlast hkept]
  have e : min (((1 : Int) - (-1074)).toNat * 4503599627370496 + 4503599627370496) 9218868437227405312 = 4845873199050653696 := by decide
  rw [e, read_word neg _ (by decide) (by decide)]
  rfl

/-- The bits x stand for the whole number n, from -2^53 to 2^53. -/
def IsT (x : Nat) (n : Int) : Prop := Is x n ∨ (n.natAbs = 9007199254740992 ∧ Ieee.double.read x = .number (decide (n < 0)) 4503599627370496 1)

theorem IsT.small {x : Nat} {n : Int} (h : IsT x n) (b : n.natAbs < 9007199254740992) : Is x n := by
  rcases h with h | ⟨h, _⟩
  · exact h
  · omega
theorem write_top (neg : Bool) (mag q : Nat) (N : Int) (h : signed neg mag 0 = N * ((2 ^ q : Nat) : Int)) (h1 : N.natAbs = 9007199254740992) : Ieee.double.read (Ieee.double.write (.number neg mag (-(q : Int)))) = .number (decide (N < 0)) 4503599627370496 1 := by
  show Ieee.double.read (Ieee.double.nearest neg mag (-(q : Int))) = _
  have hm : mag = N.natAbs * 2 ^ q := by
    have := congrArg Int.natAbs h
    rw [signed_natAbs, Int.natAbs_mul, Int.natAbs_natCast] at this
    exact this
  have hq := pow_pos' q
  have hs : neg = decide (N < 0) := by
    rcases Int.lt_or_le N 0 with h3 | h3
    · have h2 : N * ((2 ^ q : Nat) : Int) < 0 := Int.mul_neg_of_neg_of_pos h3 hq
      rw [decide_eq_true h3]
      cases neg
      · rw [← h] at h2
        unfold signed at h2
        rw [Nat.shiftLeft_zero] at h2
        simp only [Bool.false_eq_true, if_false] at h2
        omega
      · rfl
    · have h4 : 0 < N := by omega
      have h2 : 0 < N * ((2 ^ q : Nat) : Int) := Int.mul_pos h4 hq
      rw [decide_eq_false (by omega)]
      cases neg
      · rfl
      · rw [← h] at h2
        unfold signed at h2
        rw [Nat.shiftLeft_zero] at h2
        simp only [if_true] at h2
        omega
  rw [h1] at hm
  rw [nearest_read53 neg mag q hm, hs]

theorem Is.addT {x y : Nat} {a b : Int} (hx : Is x a) (hy : Is y b) (h : (a + b).natAbs ≤ 9007199254740992) : faddok x y = true ∧ IsT (fadd x y) (a + b) := by
  by_cases h0 : (a + b).natAbs < 2 ^ 53
  · obtain ⟨o, r⟩ := hx.add hy h0
    exact ⟨o, .inl r⟩
  · have h1 : (a + b).natAbs = 9007199254740992 := by omega
    obtain ⟨s, m, q, e, f⟩ := hx
    obtain ⟨s', m', q', e', f'⟩ := hy
    have hd : ∃ d, Datum.sum (.number s m (-(q : Int))) (.number s' m' (-(q' : Int))) = some d ∧ Ieee.double.read (Ieee.double.write d) = .number (decide (a + b < 0)) 4503599627370496 1 := by
      refine ⟨_, rfl, ?_⟩
      rw [min_neg]
      have e1 := shift_up f (Nat.le_max_left q q')
      have e2 := shift_up f' (Nat.le_max_right q q')
      rw [e1, e2]
      refine write_top _ _ _ _ ?_ h1
      rw [signed_self, Int.add_mul]
      split <;> simp
    obtain ⟨d, h2, h3⟩ := hd
    have : floatBits .add .f64 x y = some (Ieee.double.write d) := by
      show ((Ieee.double.read x).sum (Ieee.double.read y)).map Ieee.double.write = _
      rw [e, e', h2]
      rfl
    unfold faddok fadd
    rw [this]
    exact ⟨rfl, .inr ⟨h1, h3⟩⟩

theorem IsT.feq_same {x y : Nat} {n : Int} (hx : IsT x n) (hy : IsT y n) : feq x y = true := by
  rcases hx with hx | ⟨h1, hx⟩
  · rcases hy with hy | ⟨h2, hy⟩
    · rw [hx.feq hy]; exact decide_eq_true rfl
    · obtain ⟨s, m, q, e, f⟩ := hx
      show (Ieee.double.order x y == some .eq) = true
      rw [order_num e hy, compare_eq]
      refine decide_eq_true ?_
      have : min (-(q : Int)) 1 = -(q : Int) := by omega
      rw [this, show (-(q : Int) - -(q : Int)).toNat = 0 by omega, f, show ((1 : Int) - -(q : Int)).toNat = 1 + q by omega]
      have e3 : signed (decide (n < 0)) 4503599627370496 (1 + q) = signed (decide (n < 0)) 4503599627370496 1 * ((2 ^ q : Nat) : Int) := by
        rw [signed_shift, signed_shift _ _ 1, Int.mul_assoc, ← Int.natCast_mul, ← Nat.pow_add]
      rw [e3]
      congr 1
      rcases Int.lt_or_le n 0 with h3 | h3
      · rw [decide_eq_true h3]
        show n = -9007199254740992
        omega
      · rw [decide_eq_false (by omega)]
        show n = 9007199254740992
        omega
  · rcases hy with hy | ⟨h2, hy⟩
    · obtain ⟨s, m, q, e, f⟩ := hy
      show (Ieee.double.order x y == some .eq) = true
      rw [order_num hx e, compare_eq]
      refine decide_eq_true ?_
      have : min (1 : Int) (-(q : Int)) = -(q : Int) := by omega
      rw [this, show (-(q : Int) - -(q : Int)).toNat = 0 by omega, f, show ((1 : Int) - -(q : Int)).toNat = 1 + q by omega]
      have e3 : signed (decide (n < 0)) 4503599627370496 (1 + q) = signed (decide (n < 0)) 4503599627370496 1 * ((2 ^ q : Nat) : Int) := by
        rw [signed_shift, signed_shift _ _ 1, Int.mul_assoc, ← Int.natCast_mul, ← Nat.pow_add]
      rw [e3]
      congr 1
      rcases Int.lt_or_le n 0 with h3 | h3
      · rw [decide_eq_true h3]
        show -9007199254740992 = n
        omega
      · rw [decide_eq_false (by omega)]
        show 9007199254740992 = n
        omega
    · show (Ieee.double.order x y == some .eq) = true
      rw [order_num hx hy, compare_eq]
      exact decide_eq_true rfl

theorem caddT_is {a b c d : Nat} {A B C D : Int} (ha : Is a A) (hb : Is b B) (hc : Is c C) (hd : Is d D) (h1 : (A + C).natAbs ≤ 9007199254740992) (h2 : (B + D).natAbs ≤ 9007199254740992) :
    caddok a b c d = true ∧ IsT (caddre a b c d) (A + C) ∧ IsT (caddim a b c d) (B + D) := by
  obtain ⟨o1, r1⟩ := ha.addT hc h1
  obtain ⟨o2, r2⟩ := hb.addT hd h2
  have e : cSumBits .add .f64 a b c d = some (fadd a c, fadd b d) := by
    unfold cSumBits
    have s1 : floatBits .add .f64 a c = some (fadd a c) := get_some 0 o1
    have s2 : floatBits .add .f64 b d = some (fadd b d) := get_some 0 o2
    simp only [s1, s2, Option.bind_some]
  unfold caddok caddre caddim
  rw [e]
  exact ⟨rfl, r1, r2⟩
theorem ceq_top {a b c d : Nat} {A B : Int} (ha : IsT a A) (hb : IsT b B) (hc : IsT c A) (hd : IsT d B) : ceq a b c d = true := by
  unfold ceq
  rw [ha.feq_same hc, hb.feq_same hd]
  rfl
end Go.Proofs.YtofedlghaopciaaGreatDoor.Flt
end
section
/- Floats against whole numbers: which lie in a range, and which of these are whole. -/
set_option linter.unusedVariables false
set_option linter.unusedSimpArgs false
namespace Go.Proofs.YtofedlghaopciaaGreatDoor.Flt
open Ieee Go.Proofs.YtofedlghaopciaaGreatDoorW.PrintWords

/-- The whole number that bits stand for. -/
noncomputable def val (x : Nat) : Int := by
  classical
  exact if h : ∃ n, Is x n then Classical.choose h else 0
theorem val_of {x : Nat} {n : Int} (h : Is x n) : val x = n := by
  unfold val
  rw [dif_pos ⟨n, h⟩]
  exact (Classical.choose_spec (⟨n, h⟩ : ∃ n, Is x n)).uniq h

theorem compare_ge (a b : Int) : (some (compare a b) == some .gt || some (compare a b) == some .eq) = decide (a ≥ b) := by
  simp only [compare, compareOfLessAndEq]
  by_cases h : a = b
  · subst h; simp
  · by_cases h1 : a < b
    · simp [h, h1]
    · simp [h, h1]; omega

section
variable {x y : Nat} {s : Bool} {m q : Nat} {n : Int}
theorem order_at (hx : Ieee.double.read x = .number s m (-(q : Int))) (hy : Is y n) : ∃ p : Int, 0 < p ∧ Ieee.double.order x y = some (compare (signed s m 0 * p) (n * ((2 ^ q : Nat) : Int) * p)) := by
  obtain ⟨s', m', q', e', f'⟩ := hy
  refine ⟨((2 ^ (max q q' - q) : Nat) : Int), pow_pos' _, ?_⟩
  have h4 : 2 ^ (max q q') = 2 ^ q * 2 ^ (max q q' - q) := by rw [← Nat.pow_add]; congr 1; omega
  rw [order_num hx e', min_neg, shift_up f' (Nat.le_max_right q q'), signed_shift s m, show (-(q : Int) - (-((max q q' : Nat) : Int))).toNat = max q q' - q by omega, h4, Int.natCast_mul, Int.mul_assoc]
theorem fle_num (hx : Ieee.double.read x = .number s m (-(q : Int))) (hy : Is y n) : fle x y = decide (signed s m 0 ≤ n * ((2 ^ q : Nat) : Int)) := by
  obtain ⟨p, hp, e⟩ := order_at hx hy
  show (Ieee.double.order x y == some .lt || Ieee.double.order x y == some .eq) = _
  rw [e, compare_le]
  congr 1
  exact propext ⟨fun h => Int.le_of_mul_le_mul_right h hp, fun h => Int.mul_le_mul_of_nonneg_right h (Int.le_of_lt hp)⟩
theorem fge_num (hx : Ieee.double.read x = .number s m (-(q : Int))) (hy : Is y n) : fge x y = decide (signed s m 0 ≥ n * ((2 ^ q : Nat) : Int)) := by
  obtain ⟨p, hp, e⟩ := order_at hx hy
  show (Ieee.double.order x y == some .gt || Ieee.double.order x y == some .eq) = _
  rw [e, compare_ge]
  congr 1
  exact propext ⟨fun h => Int.le_of_mul_le_mul_right h hp, fun h => Int.mul_le_mul_of_nonneg_right h (Int.le_of_lt hp)⟩
theorem feq_num (hx : Ieee.double.read x = .number s m (-(q : Int))) (hy : Is y n) : feq y x = decide (n * ((2 ^ q : Nat) : Int) = signed s m 0) := by
  obtain ⟨s', m', q', e', f'⟩ := hy
  show (Ieee.double.order y x == some .eq) = _
  have h4 : 2 ^ (max q' q) = 2 ^ q * 2 ^ (max q' q - q) := by rw [← Nat.pow_add]; congr 1; omega
  rw [order_num e' hx, compare_eq, min_neg, shift_up f' (Nat.le_max_left q' q), signed_shift s m, show (-(q : Int) - (-((max q' q : Nat) : Int))).toNat = max q' q - q by omega, h4, Int.natCast_mul, ← Int.mul_assoc]
  have hp := pow_pos' (max q' q - q)
  congr 1
  exact propext ⟨fun h => Int.eq_of_mul_eq_mul_right (by omega) h, fun h => by rw [h]⟩
/-- Truncated to an int64. -/
theorem trunc_num (hx : Ieee.double.read x = .number s m (-(q : Int))) (h : m / 2 ^ q < 9223372036854775808) : f2iok x = true ∧ f2i x = signed s (m / 2 ^ q) 0 := by
  have hi : (FloatKind.f64.decode x).toInt .zero = some (signed s (m / 2 ^ q) 0) := by
    show (Ieee.double.read x).toInt .zero = _
    rw [hx]
    show some (signed s (Toward.zero.cut s (m <<< (-(q : Int)).toNat) (-(-(q : Int))).toNat) 0) = _
    have e1 : (-(q : Int)).toNat = 0 := by omega
    have e2 : (-(-(q : Int))).toNat = q := by omega
    rw [e1, e2, Nat.shiftLeft_zero, cut_floor]
  have hb := signed_natAbs s (m / 2 ^ q)
  have : floatToIntVal .f64 x .i64 = some (signed s (m / 2 ^ q) 0) := by
    unfold floatToIntVal
    rw [hi]
    have a : IntKind.i64.min = -9223372036854775808 := rfl
    have b : IntKind.i64.max = 9223372036854775807 := rfl
    simp only [a, b]
    rw [if_pos (by omega)]
  unfold f2iok f2i
  rw [this]
  exact ⟨rfl, rfl⟩
/-- What lies between -M and M, M below 2^53, has no place above 0. -/
theorem in_range {M : Int} {lo hi : Nat} (hM0 : 0 ≤ M) (hM : M < 9007199254740992) (hlo : Is lo (-M)) (hhi : Is hi M) (h1 : fge x lo = true) (h2 : fle x hi = true) :
    ∃ s m q, Ieee.double.read x = .number s m (-((q : Nat) : Int)) ∧ m ≤ M.toNat * 2 ^ q := by
  rcases read_cases x with ⟨s, m, q, e⟩ | ⟨s, m, k, e, hm⟩ | ⟨s, e⟩ | ⟨s, t, e⟩
  · refine ⟨s, m, q, e, ?_⟩
    rw [fge_num e hlo] at h1
    rw [fle_num e hhi] at h2
    have h1 := of_decide_eq_true h1
    have h2 := of_decide_eq_true h2
    rw [Int.neg_mul] at h1
    have h3 := signed_natAbs s m
    have h4 : M * ((2 ^ q : Nat) : Int) = ((M.toNat * 2 ^ q : Nat) : Int) := by rw [Int.natCast_mul, Int.toNat_of_nonneg hM0]
    rw [h4] at h1 h2
    generalize M.toNat * 2 ^ q = z at *
    omega
  · exfalso
    obtain ⟨s', m', q', e', f'⟩ := hlo
    obtain ⟨s2, m2, q2, e2, f2⟩ := hhi
    have a1 : (Ieee.double.order x lo == some .gt || Ieee.double.order x lo == some .eq) = true := h1
    have a2 : (Ieee.double.order x hi == some .lt || Ieee.double.order x hi == some .eq) = true := h2
    rw [order_num e e', compare_ge, show min (((k + 1 : Nat)) : Int) (-(q' : Int)) = -(q' : Int) by omega, show (-(q' : Int) - (-(q' : Int))).toNat = 0 by omega, f', show ((((k + 1 : Nat)) : Int) - (-(q' : Int))).toNat = (k + 1) + q' by omega] at a1
    rw [order_num e e2, compare_le, show min (((k + 1 : Nat)) : Int) (-(q2 : Int)) = -(q2 : Int) by omega, show (-(q2 : Int) - (-(q2 : Int))).toNat = 0 by omega, f2, show ((((k + 1 : Nat)) : Int) - (-(q2 : Int))).toNat = (k + 1) + q2 by omega] at a2
    have a1 := of_decide_eq_true a1
    have a2 := of_decide_eq_true a2
    have sp : ∀ r : Nat, signed s m (k + 1 + r) = signed s (m * 2 ^ (k + 1)) 0 * ((2 ^ r : Nat) : Int) := by
      intro r
      rw [← signed_shift]
      unfold signed
      rw [Nat.shiftLeft_eq, Nat.shiftLeft_eq, Nat.pow_add, Nat.mul_assoc]
    rw [sp] at a1 a2
    have b1 := Int.le_of_mul_le_mul_right a1 (pow_pos' _)
    have b2 := Int.le_of_mul_le_mul_right a2 (pow_pos' _)
    have h3 := signed_natAbs s (m * 2 ^ (k + 1))
    have h5 : 2 ^ 53 ≤ m * 2 ^ (k + 1) := by
      calc 2 ^ 53 = 4503599627370496 * 2 ^ 1 := by decide
        _ ≤ m * 2 ^ (k + 1) := Nat.mul_le_mul hm (Nat.pow_le_pow_right (by omega) (by omega))
    generalize m * 2 ^ (k + 1) = z at *
    omega
  · exfalso
    obtain ⟨s', m', q', e', f'⟩ := hlo
    obtain ⟨s2, m2, q2, e2, f2⟩ := hhi
    have a1 : ((Ieee.double.read x).order (Ieee.double.read lo) == some .gt || (Ieee.double.read x).order (Ieee.double.read lo) == some .eq) = true := h1
    have a2 : ((Ieee.double.read x).order (Ieee.double.read hi) == some .lt || (Ieee.double.read x).order (Ieee.double.read hi) == some .eq) = true := h2
    rw [e, e'] at a1
    rw [e, e2] at a2
    cases s
    · cases a2
    · cases a1
  · exfalso
    have a1 : ((Ieee.double.read x).order (Ieee.double.read lo) == some .gt || (Ieee.double.read x).order (Ieee.double.read lo) == some .eq) = true := h1
    rw [e] at a1
    cases h : Ieee.double.read lo <;> rw [h] at a1 <;> cases a1
/-- In the range, but not whole. -/
theorem not_whole {M : Int} {lo hi : Nat} (hM0 : 0 ≤ M) (hM : M < 9007199254740992) (hlo : Is lo (-M)) (hhi : Is hi M) (h1 : fge x lo = true) (h2 : fle x hi = true) (h : ¬ ∃ n, Is x n ∧ n.natAbs ≤ M.toNat) :
    f2iok x = true ∧ feq (floatOfInt .f64 (f2i x)) x = false := by
  obtain ⟨s, m, q, e, hm⟩ := in_range hM0 hM hlo hhi h1 h2
  have hq := Nat.two_pow_pos q
  have hb : m / 2 ^ q ≤ M.toNat := by
    have := Nat.div_le_div_right (c := 2 ^ q) hm
    rwa [Nat.mul_div_cancel _ hq] at this
  have hs := signed_natAbs s (m / 2 ^ q)
  obtain ⟨a, b⟩ := trunc_num e (by omega)
  refine ⟨a, ?_⟩
  rw [b, feq_num e (of_int (by omega))]
  refine decide_eq_false fun h3 => h ⟨_, ⟨s, m, q, e, h3.symm⟩, by omega⟩
end
end Go.Proofs.YtofedlghaopciaaGreatDoor.Flt
end
section
/- phasor.sums, Four, Back: arrays of four complex numbers, walked by hand. -/
set_option linter.unusedVariables false
set_option linter.unusedSimpArgs false
namespace Go.Proofs.YtofedlghaopciaaGreatDoor.FourW
open Go Go.RowKit Go.Proofs.YtofedlghaopciaaGreatDoor.PA Go.Proofs.YtofedlghaopciaaGreatDoorW.PrintWords Go.Proofs.YtofedlghaopciaaGreatDoorW.PrintLast Go.Proofs.YtofedlghaopciaaGreatDoorW.PrintMore
attribute [local go_sem high] fx_eql fx_neq fx_lss fx_leq fx_gtr fx_geq fx_add fx_sub fx_mul fx_neg fx_toint cxx_add cxx_sub cxx_mul cxx_eql cxx_neq cxx_pick st_float st_complex
theorem still_tail {P : Program} {id : Nat} {Q : Exit → Act → World → Prop} {a : Act} {w : World} {l : List Oper} (n : Nat) (hm : P.follows .mixedOrders = true) (hB : Region.lexTailB .any l.toArray n = true)
    (h : wpStill P l.toArray w.drew (fun a' => wpList P l.toArray Q (l.drop n) a' w.drew) (l.take n) a) : (Code.region id l.toArray true).wp P Q a w := wp_region_still_tail n hm hB h
/-- i to the power m, as unit gives it. -/
def unitV (m : Int) : Cx := (phasor_unit.f m).getD (cx 0 0)
def stepOk (o z u : Cx) : Bool := cmulok z.re z.im u.re u.im && caddok o.re o.im (cmulre z.re z.im u.re u.im) (cmulim z.re z.im u.re u.im)
def stepV (o z u : Cx) : Cx := cx (caddre o.re o.im (cmulre z.re z.im u.re u.im) (cmulim z.re z.im u.re u.im)) (caddim o.re o.im (cmulre z.re z.im u.re u.im) (cmulim z.re z.im u.re u.im))
/-- The sum for k over the first n. -/
def part (x : Nat → Cx) (s : Int) (k : Nat) : Nat → Cx
  | 0 => cx 0 0
  | n + 1 => stepV (part x s k n) (x n) (unitV (s * k * n))
def sumsOk (x : Nat → Cx) (s : Int) : Prop := ∀ k n, k < 4 → n < 4 → stepOk (part x s k n) (x n) (unitV (s * k * n)) = true ∧ phasor_unit.f (s * k * n) = some (unitV (s * k * n))
/-- Row j while row k stands at n. -/
def cell (x : Nat → Cx) (s : Int) (k n j : Nat) : Cx := if j < k then part x s j 4 else if j = k then part x s k n else cx 0 0
abbrev arr (f : Nat → Cx) : Array Value := #[.complex .f64 (f 0).re (f 0).im, .complex .f64 (f 1).re (f 1).im, .complex .f64 (f 2).re (f 2).im, .complex .f64 (f 3).re (f 3).im]
abbrev arr0 : Array Value := #[.complex .f64 0 0, .complex .f64 0 0, .complex .f64 0 0, .complex .f64 0 0]
set_option maxRecDepth 100000 in
theorem unit_same (m : Int) (hm : ∃ r, phasor_unit.f m = some r) (w : World) : Calls Tryz.prog 37 #[.int .i64 m] w fun e w' => e = .returned (.complex .f64 (unitV m).re (unitV m).im) ∧ w' = w := by
  have hu26 := Tryz.underlying26
  have hpk26 := fun w k i a1 a2 b1 b2 c1 c2 d1 d2 => cxx_pick (P := Tryz.prog) w 26 k i a1 a2 b1 b2 c1 c2 d1 d2 (by kernel_rfl) (by kernel_rfl) (by kernel_rfl) (by kernel_rfl)
  obtain ⟨r, hr⟩ := hm
  have hv : unitV m = r := by unfold unitV; rw [hr]; rfl
  rw [hv]
  clear hv
  unfold phasor_unit.f at hr
  by_cases c2 : 0 ≤ (Go.bits .and .i64 m 3)
  · by_cases c3 : (Go.bits .and .i64 m 3) < 4
    · rw [if_pos c2, if_pos c3] at hr
      obtain rfl := Option.some.inj hr
      clear hr
      go_enter Tryz.func37, Tryz.ntmps37
      go_wp2
      go_ret
      exact ⟨rfl, rfl⟩
    · rw [if_pos c2, if_neg c3] at hr; cases hr
  · rw [if_neg c2] at hr; cases hr
/-- The three blocks: what came in, the result's, the sums'. -/
abbrev W3 (w : World) (x o : Nat → Cx) (nd : Nat) : World := (((w.alloc (.cells (arr x) 26)).alloc (.cells arr0 26)).alloc (.cells (arr o) 26)).drewN nd
theorem pick4 (x : Nat → Cx) (i : Int) (h0 : 0 ≤ i) (h1 : i < 4) (W : World) : (Instr.index 26 (.agg (arr x)) (.int .i64 i)).run Tryz.prog W = .ok (.complex .f64 (pk4 i (x 0).re (x 1).re (x 2).re (x 3).re) (pk4 i (x 0).im (x 1).im (x 2).im (x 3).im)) W :=
  cxx_pick (P := Tryz.prog) W 26 .i64 i _ _ _ _ _ _ _ _ (by kernel_rfl) (by kernel_rfl) (by kernel_rfl) (by kernel_rfl) h0 h1
theorem W3_congr {w : World} {x o o' : Nat → Cx} {nd : Nat} (h : ∀ j, j < 4 → o j = o' j) : W3 w x o nd = W3 w x o' nd := by
  unfold W3 arr
  rw [h 0 (by decide), h 1 (by decide), h 2 (by decide), h 3 (by decide)]
theorem W3_set (w : World) (x o : Nat → Cx) (nd k : Nat) (hk : k < 4) (z : Cx) : (W3 w x o nd).setCell ⟨w.heap.size + 1 + 1, k, none⟩ (.complex .f64 z.re z.im) = W3 w x (fun j => if j = k then z else o j) nd := by
  have e : ∀ (W : World) a v, (W.drewN nd).setCell a v = (W.setCell a v).drewN nd := fun _ _ _ => rfl
  unfold W3
  rw [e, World.setCell_alloc_at _ _ _ _ _ (by simp)]
  have : k = 0 ∨ k = 1 ∨ k = 2 ∨ k = 3 := by omega
  rcases this with rfl | rfl | rfl | rfl <;> rfl
theorem W3_res (w : World) (x o : Nat → Cx) (nd : Nat) (v0 v1 v2 v3 : Value) : ((((W3 w x o nd).setCell ⟨w.heap.size + 1, 0, none⟩ v0).setCell ⟨w.heap.size + 1, 1, none⟩ v1).setCell ⟨w.heap.size + 1, 2, none⟩ v2).setCell ⟨w.heap.size + 1, 3, none⟩ v3 =
    (((w.alloc (.cells (arr x) 26)).alloc (.cells #[v0, v1, v2, v3] 26)).alloc (.cells (arr o) 26)).drewN nd := by
  have e : ∀ (W : World) a v, (W.drewN nd).setCell a v = (W.setCell a v).drewN nd := fun _ _ _ => rfl
  have f : ∀ (W : World) (c : Array Value) (i : Nat) (v : Value), W.heap.size = w.heap.size + 1 → ((W.alloc (.cells c 26)).alloc (.cells (arr o) 26)).setCell ⟨w.heap.size + 1, i, none⟩ v = (W.alloc (.cells (c.setIfInBounds i v) 26)).alloc (.cells (arr o) 26) := by
    intro W c i v hW
    rw [World.setCell_alloc_past _ _ _ _ (by simp [hW]), World.setCell_alloc_at _ _ _ _ _ hW.symm]
  unfold W3
  simp only [e]
  rw [f _ _ _ _ (by simp), f _ _ _ _ (by simp), f _ _ _ _ (by simp), f _ _ _ _ (by simp)]
  rfl
theorem cell_now (x : Nat → Cx) (s : Int) (k n : Nat) : cell x s k n k = part x s k n := by unfold cell; rw [if_neg (by omega), if_pos rfl]
theorem cell_step (x : Nat → Cx) (s : Int) (k n j : Nat) : (if j = k then stepV (cell x s k n k) (x n) (unitV (s * k * n)) else cell x s k n j) = cell x s k (n + 1) j := by
  by_cases h : j = k
  · subst h
    rw [if_pos rfl, cell_now, cell_now]
    rfl
  · rw [if_neg h]
    unfold cell
    simp only [if_neg h]
theorem cell_next (x : Nat → Cx) (s : Int) (k j : Nat) : cell x s k 4 j = cell x s (k + 1) 0 j := by
  unfold cell
  by_cases h : j < k
  · rw [if_pos h, if_pos (by omega)]
  · rw [if_neg h]
    by_cases h2 : j = k
    · subst h2; rw [if_pos rfl, if_pos (by omega)]
    · rw [if_neg h2, if_neg (by omega)]
      split <;> rfl
theorem c0 : ((0 : Nat) : Int) = 0 := rfl
theorem c1 : ((1 : Nat) : Int) = 1 := rfl
theorem c2 : ((2 : Nat) : Int) = 2 := rfl
theorem c3 : ((3 : Nat) : Int) = 3 := rfl
theorem four_of {k : Nat} (h : k < 4) : k = 0 ∨ k = 1 ∨ k = 2 ∨ k = 3 := by omega
set_option maxHeartbeats 4000000 in
set_option maxRecDepth 100000 in
theorem sums_calls (x : Nat → Cx) (s : Int) (hs : s = 1 ∨ s = -1) (w : World) (h : sumsOk x s) :
    Calls Tryz.prog 39 #[.agg (arr x), .int .i64 s] w fun e w' => e = .returned (.agg (arr fun k => part x s k 4)) ∧ Below w.heap.size w w' := by
  have H := Aside0.mk h
  have HS := Aside0.mk hs
  clear h hs
  have hi0 : ∀ W, (Instr.index 26 (.agg (arr x)) (.int .i64 0)).run Tryz.prog W = .ok (.complex .f64 (x 0).re (x 0).im) W := pick4 x 0 (by decide) (by decide)
  have hi1 : ∀ W, (Instr.index 26 (.agg (arr x)) (.int .i64 1)).run Tryz.prog W = .ok (.complex .f64 (x 1).re (x 1).im) W := pick4 x 1 (by decide) (by decide)
  have hi2 : ∀ W, (Instr.index 26 (.agg (arr x)) (.int .i64 2)).run Tryz.prog W = .ok (.complex .f64 (x 2).re (x 2).im) W := pick4 x 2 (by decide) (by decide)
  have hi3 : ∀ W, (Instr.index 26 (.agg (arr x)) (.int .i64 3)).run Tryz.prog W = .ok (.complex .f64 (x 3).re (x 3).im) W := pick4 x 3 (by decide) (by decide)
  go_enter Tryz.func39, Tryz.ntmps39
  go_wp2
  go_loopg [9] 4 (fun g s9 wx => ∃ k nd : Nat, k + g = 4 ∧ s9 = .int .i64 k ∧ wx = W3 w x (cell x s k 0) nd)
  case atStart => exact ⟨0, 0, rfl, rfl, rfl⟩
  case round =>
    obtain ⟨k, nd, hk, rfl, rfl⟩ := hrel
    cases gk with
    | zero =>
      obtain rfl : k = 4 := by omega
      have hres : ∀ j, j < 4 → cell x s 4 0 j = part x s j 4 := fun j hj => by unfold cell; rw [if_pos hj]
      go_wp2
      rw [W3_res]
      refine bodyPost_ret (v := .agg (arr fun k => part x s k 4)) ?_ rfl ⟨rfl, ?_⟩
      · simp [results, Tryz.results39, go_sem]
      · exact pw_below_drewN ((((Below.refl _ _).alloc (Nat.le_refl _) _).alloc (by simp) _).alloc (by simp; omega) _) nd
    | succ g =>
      have hlt : k < 4 := by omega
      have h0 : (0 : Int) ≤ (k : Int) := by omega
      go_wp2
      go_loopg [13] 4 (fun g2 s13 wx => ∃ n nd2 : Nat, n + g2 = 4 ∧ s13 = .int .i64 n ∧ wx = W3 w x (cell x s k n) nd2)
      case atStart => exact ⟨0, nd, rfl, rfl, rfl⟩
      case round =>
        obtain ⟨n, nd2, hn, rfl, rfl⟩ := hrel
        cases gk with
        | zero =>
          obtain rfl : n = 4 := by omega
          go_wp2
          go_roundg g
          case measure => omega
          case rel => exact ⟨k + 1, _, by omega, by go_num, W3_congr (fun j _ => cell_next x s k j)⟩
        | succ g2 =>
          have hltn : n < 4 := by omega
          obtain ⟨hst1, hst2⟩ := H.out k n hlt hltn
          rw [← cell_now] at hst1
          unfold stepOk at hst1
          obtain ⟨hm, ha⟩ := (Bool.and_eq_true _ _).mp hst1
          have HU := Aside0.mk (⟨_, hst2⟩ : ∃ r, phasor_unit.f (s * k * n) = some r)
          clear hst1 hst2
          rcases HS.out with rfl | rfl
          all_goals
           rcases four_of hlt with rfl | rfl | rfl | rfl
          all_goals
           rcases four_of hltn with rfl | rfl | rfl | rfl
          all_goals simp only [c0, c1, c2, c3, Int.reduceMul, Int.reduceNeg] at hm ha
          all_goals
            have HE := Aside0.mk (W3_set w x)
            go_wp2
            refine still_tail 12 (by kernel_rfl) (by kernel_rfl) ?_
            simp only [List.take_succ_cons, List.take_zero, List.drop_succ_cons, List.drop_zero]
            iterate 9 still_step
            still_call (unit_same _ HU.out _)
            iterate 2 still_step
            refine wpStill_nil ?_
            go_wp2
            go_roundg g2
            case measure => omega
            case rel =>
              first
                | refine ⟨1, nd2 + 1, by omega, rfl, ?_⟩
                | refine ⟨2, nd2 + 1, by omega, rfl, ?_⟩
                | refine ⟨3, nd2 + 1, by omega, rfl, ?_⟩
                | refine ⟨4, nd2 + 1, by omega, rfl, ?_⟩
              · refine (W3_set w x _ _ _ (by decide) (stepV _ _ _)).trans ?_
                exact W3_congr (fun j _ => cell_step x _ _ _ j)
end Go.Proofs.YtofedlghaopciaaGreatDoor.FourW
end
section
/- phasor.Four, walked by hand over phasor.sums. -/
set_option linter.unusedVariables false
set_option linter.unusedSimpArgs false
namespace Go.Proofs.YtofedlghaopciaaGreatDoor.FourW
open Go Go.RowKit Go.Proofs.YtofedlghaopciaaGreatDoor.PA Go.Proofs.YtofedlghaopciaaGreatDoorW.PrintWords Go.Proofs.YtofedlghaopciaaGreatDoorW.PrintLast Go.Proofs.YtofedlghaopciaaGreatDoorW.PrintMore
attribute [local go_sem high] fx_eql fx_neq fx_lss fx_leq fx_gtr fx_geq fx_add fx_sub fx_mul fx_neg fx_toint cxx_add cxx_sub cxx_mul cxx_eql cxx_neq cxx_pick st_float st_complex
abbrev W2 (w : World) (x : Nat → Cx) (nd : Nat) : World := ((w.alloc (.cells (arr x) 26)).alloc (.cells arr0 26)).drewN nd
/-- Four stores into one block: what the four cells hold. -/
theorem four_sets (w : World) (b : Nat) (v0 v1 v2 v3 : Value) {u0 u1 u2 u3 : Value} (h0 : w.cell? ⟨b, 0, none⟩ = some u0) (h1 : w.cell? ⟨b, 1, none⟩ = some u1) (h2 : w.cell? ⟨b, 2, none⟩ = some u2) (h3 : w.cell? ⟨b, 3, none⟩ = some u3) :
    ((((w.setCell ⟨b, 0, none⟩ v0).setCell ⟨b, 1, none⟩ v1).setCell ⟨b, 2, none⟩ v2).setCell ⟨b, 3, none⟩ v3).cell? ⟨b, 0, none⟩ = some v0 ∧
    ((((w.setCell ⟨b, 0, none⟩ v0).setCell ⟨b, 1, none⟩ v1).setCell ⟨b, 2, none⟩ v2).setCell ⟨b, 3, none⟩ v3).cell? ⟨b, 1, none⟩ = some v1 ∧
    ((((w.setCell ⟨b, 0, none⟩ v0).setCell ⟨b, 1, none⟩ v1).setCell ⟨b, 2, none⟩ v2).setCell ⟨b, 3, none⟩ v3).cell? ⟨b, 2, none⟩ = some v2 ∧
    ((((w.setCell ⟨b, 0, none⟩ v0).setCell ⟨b, 1, none⟩ v1).setCell ⟨b, 2, none⟩ v2).setCell ⟨b, 3, none⟩ v3).cell? ⟨b, 3, none⟩ = some v3 := by
  have n : ∀ (W : World) (i j : Nat) (v : Value), i ≠ j → (W.setCell ⟨b, i, none⟩ v).cell? ⟨b, j, none⟩ = W.cell? ⟨b, j, none⟩ := fun W i j v h => World.cell?_setCell_other (h := fun e => h (by injection e)) ..
  refine ⟨?_, ?_, ?_, ?_⟩
  · rw [n _ 3 0 _ (by decide), n _ 2 0 _ (by decide), n _ 1 0 _ (by decide)]; exact World.cell?_setCell_same (h := h0) ..
  · rw [n _ 3 1 _ (by decide), n _ 2 1 _ (by decide)]; exact World.cell?_setCell_same (h := ((n _ 0 1 _ (by decide)).trans h1)) ..
  · rw [n _ 3 2 _ (by decide)]; exact World.cell?_setCell_same (h := (((n _ 1 2 _ (by decide)).trans (n _ 0 2 _ (by decide))).trans h2)) ..
  · exact World.cell?_setCell_same (h := ((((n _ 2 3 _ (by decide)).trans (n _ 1 3 _ (by decide))).trans (n _ 0 3 _ (by decide))).trans h3)) ..
theorem W2_below (w : World) (x : Nat → Cx) (nd : Nat) : Below w.heap.size w (W2 w x nd) := pw_below_drewN (((Below.refl _ _).alloc (Nat.le_refl _) _).alloc (by simp) _) nd
theorem W2_cell (w : World) (x : Nat → Cx) (nd j : Nat) (hj : j < 4) : (W2 w x nd).cell? ⟨w.heap.size + 1, j, none⟩ = some (.complex .f64 0 0) := by
  show ((w.alloc (.cells (arr x) 26)).alloc (.cells arr0 26)).cell? _ = _
  rw [World.cell?_alloc_at _ _ _ _ (by simp)]
  rcases four_of hj with rfl | rfl | rfl | rfl <;> rfl
theorem W2_arg (w : World) (x : Nat → Cx) (nd j : Nat) (hj : j < 4) : (W2 w x nd).cell? ⟨w.heap.size, j, none⟩ = some (.complex .f64 (x j).re (x j).im) := by
  show ((w.alloc (.cells (arr x) 26)).alloc (.cells arr0 26)).cell? _ = _
  rw [World.cell?_alloc_past _ _ _ (by simp), World.cell?_alloc_at _ _ _ _ rfl]
  rcases four_of hj with rfl | rfl | rfl | rfl <;> rfl
theorem W2_free (w : World) (x : Nat → Cx) (nd j : Nat) : (W2 w x nd).frozen? ⟨w.heap.size + 1, j, none⟩ = false := by
  show ((w.alloc (.cells (arr x) 26)).alloc (.cells arr0 26)).frozen? _ = _
  exact World.frozen?_alloc_at _ _ _ _ (by simp)
theorem bcell {W w1 : World} {n : Nat} (hb : Below n W w1) : (∀ b o, b < n → w1.cell? ⟨b, o, none⟩ = W.cell? ⟨b, o, none⟩) ∧ (∀ b o, b < n → w1.frozen? ⟨b, o, none⟩ = W.frozen? ⟨b, o, none⟩) :=
  ⟨fun b o h => hb.cell (p := ⟨b, o, none⟩) h, fun b o h => hb.frozen (p := ⟨b, o, none⟩) h⟩
set_option maxHeartbeats 4000000 in
set_option maxRecDepth 100000 in
theorem four_yes (x : Nat → Cx) (w : World) (hb : ∀ j, j < 4 → phasor_Fits.f (x j) = some true) (hs : sumsOk x (-1)) :
    Calls Tryz.prog 19 #[.agg (arr x)] w fun e w' => e = .returned (.tuple #[.agg (arr fun k => part x (-1) k 4), .int .i64 0]) ∧ Below w.heap.size w w' := by
  have H := Aside0.mk hb
  have HS := Aside0.mk hs
  clear hb hs
  have hi0 : ∀ W, (Instr.index 26 (.agg (arr x)) (.int .i64 0)).run Tryz.prog W = .ok (.complex .f64 (x 0).re (x 0).im) W := pick4 x 0 (by decide) (by decide)
  have hi1 : ∀ W, (Instr.index 26 (.agg (arr x)) (.int .i64 1)).run Tryz.prog W = .ok (.complex .f64 (x 1).re (x 1).im) W := pick4 x 1 (by decide) (by decide)
  have hi2 : ∀ W, (Instr.index 26 (.agg (arr x)) (.int .i64 2)).run Tryz.prog W = .ok (.complex .f64 (x 2).re (x 2).im) W := pick4 x 2 (by decide) (by decide)
  have hi3 : ∀ W, (Instr.index 26 (.agg (arr x)) (.int .i64 3)).run Tryz.prog W = .ok (.complex .f64 (x 3).re (x 3).im) W := pick4 x 3 (by decide) (by decide)
  go_enter Tryz.func19, Tryz.ntmps19
  go_wp2
  go_loopg [7] 4 (fun g s7 wx => ∃ n : Nat, n + g = 4 ∧ s7 = .int .i64 n ∧ Below (w.heap.size + 2) (W2 w x 0) wx)
  case atStart => exact ⟨0, rfl, rfl, Below.refl _ _⟩
  case round =>
    obtain ⟨n, hn, rfl, hbx⟩ := hrel
    have HB := Aside0.mk hbx
    cases gk with
    | zero =>
      obtain rfl : n = 4 := by omega
      obtain ⟨hc, hf⟩ := bcell hbx
      have k0 : ∀ j, j < 4 → wr.cell? ⟨w.heap.size, j, none⟩ = some (.complex .f64 (x j).re (x j).im) := fun j hj => (hc _ j (by omega)).trans (W2_arg w x 0 j hj)
      have r0 : ∀ j, j < 4 → wr.cell? ⟨w.heap.size + 1, j, none⟩ = some (.complex .f64 0 0) := fun j hj => (hc _ j (by omega)).trans (W2_cell w x 0 j hj)
      have k00 := k0 0 (by decide)
      have k01 := k0 1 (by decide)
      have k02 := k0 2 (by decide)
      have k03 := k0 3 (by decide)
      have hz : w.heap.size + 2 ≤ wr.heap.size := by have := hbx.size; simpa using this
      have HR := Aside0.mk r0
      have HZ := Aside0.mk hz
      have HFz := Aside0.mk hf
      clear k0 r0 hc hf hbx hz
      go_wp2_with (go_at_call 39; refine (sums_calls x (-1) (.inr rfl) _ HS.out).mono ?_; rintro e w1 ⟨rfl, hb⟩; have HB1 := Aside0.mk hb; have hc1 : ∀ j, j < 4 → w1.cell? ⟨w.heap.size + 1, j, none⟩ = some (.complex .f64 0 0) := (fun j hj => ((bcell hb).1 _ j (by have := HZ.out; omega)).trans (HR.out j hj)); have c10 := hc1 0 (by decide); have c11 := hc1 1 (by decide); have c12 := hc1 2 (by decide); have c13 := hc1 3 (by decide); have hf1 : ∀ j, w1.frozen? ⟨w.heap.size + 1, j, none⟩ = false := (fun j => ((bcell hb).2 _ j (by have := HZ.out; omega)).trans ((HFz.out _ j (by omega)).trans (W2_free w x 0 j))); clear hb hc1)
      have e := four_sets w1 (w.heap.size + 1) (.complex .f64 (part x (-1) 0 4).re (part x (-1) 0 4).im) (.complex .f64 (part x (-1) 1 4).re (part x (-1) 1 4).im) (.complex .f64 (part x (-1) 2 4).re (part x (-1) 2 4).im) (.complex .f64 (part x (-1) 3 4).re (part x (-1) 3 4).im) c10 c11 c12 c13
      obtain ⟨e0, e1, e2, e3⟩ := e
      refine bodyPost_ret (v := .tuple #[.agg (arr fun k => part x (-1) k 4), .int .i64 0]) ?_ rfl ⟨rfl, ?_⟩
      · simp [results, Tryz.results19, go_sem, e0, e1, e2, e3]
      · exact ((((((W2_below w x 0).trans (HB.out.mono (by omega))).trans (HB1.out.mono (by have := HZ.out; omega))).setCell (by simp) _).setCell (by simp) _).setCell (by simp) _).setCell (by simp) _
    | succ g =>
      have hlt : n < 4 := by omega
      have HF := Aside0.mk (fun W => phasor_Fits.calls (x n) true W (H.out n hlt))
      clear hbx
      rcases four_of hlt with rfl | rfl | rfl | rfl
      all_goals
        go_wp2_with (go_at_call 9; refine (HF.out _).mono ?_; rintro e w1 ⟨rfl, hb⟩; have HB1 := Aside0.mk (HB.out.trans (hb.mono (by have := HB.out.size; simpa using this))); clear hb)
        go_roundg g
        case measure => omega
        case rel => first
          | exact ⟨1, by omega, rfl, HB1.out⟩
          | exact ⟨2, by omega, rfl, HB1.out⟩
          | exact ⟨3, by omega, rfl, HB1.out⟩
          | exact ⟨4, by omega, rfl, HB1.out⟩
set_option maxHeartbeats 4000000 in
set_option maxRecDepth 100000 in
theorem four_no (x : Nat → Cx) (w : World) (m : Nat) (hm : m < 4) (hb : ∀ j, j < m → phasor_Fits.f (x j) = some true) (hs : phasor_Fits.f (x m) = some false) :
    Calls Tryz.prog 19 #[.agg (arr x)] w fun e w' => e = .returned (.tuple #[.agg arr0, .int .i64 5]) ∧ Below w.heap.size w w' := by
  have H := Aside0.mk hb
  have HS := Aside0.mk hs
  clear hb hs
  have hi0 : ∀ W, (Instr.index 26 (.agg (arr x)) (.int .i64 0)).run Tryz.prog W = .ok (.complex .f64 (x 0).re (x 0).im) W := pick4 x 0 (by decide) (by decide)
  have hi1 : ∀ W, (Instr.index 26 (.agg (arr x)) (.int .i64 1)).run Tryz.prog W = .ok (.complex .f64 (x 1).re (x 1).im) W := pick4 x 1 (by decide) (by decide)
  have hi2 : ∀ W, (Instr.index 26 (.agg (arr x)) (.int .i64 2)).run Tryz.prog W = .ok (.complex .f64 (x 2).re (x 2).im) W := pick4 x 2 (by decide) (by decide)
  have hi3 : ∀ W, (Instr.index 26 (.agg (arr x)) (.int .i64 3)).run Tryz.prog W = .ok (.complex .f64 (x 3).re (x 3).im) W := pick4 x 3 (by decide) (by decide)
  go_enter Tryz.func19, Tryz.ntmps19
  go_wp2
  go_loopg [7] 4 (fun g s7 wx => ∃ n : Nat, n + g = 4 ∧ n ≤ m ∧ s7 = .int .i64 n ∧ Below (w.heap.size + 2) (W2 w x 0) wx)
  case atStart => exact ⟨0, rfl, Nat.zero_le _, rfl, Below.refl _ _⟩
  case round =>
    obtain ⟨n, hn, hnm, rfl, hbx⟩ := hrel
    have HB := Aside0.mk hbx
    cases gk with
    | zero => omega
    | succ g =>
      have hlt : n < 4 := by omega
      by_cases hlm : n < m
      · have HF := Aside0.mk (fun W => phasor_Fits.calls (x n) true W (H.out n hlm))
        have HM := Aside0.mk hlm
        clear hbx hm hnm hlm
        rcases four_of hlt with rfl | rfl | rfl | rfl
        all_goals
          go_wp2_with (go_at_call 9; refine (HF.out _).mono ?_; rintro e w1 ⟨rfl, hb⟩; have HB1 := Aside0.mk (HB.out.trans (hb.mono (by have := HB.out.size; simpa using this))); clear hb)
          go_roundg g
          case measure => omega
          case rel =>
            have hlm := HM.out
            first
            | exact ⟨1, by omega, by omega, rfl, HB1.out⟩
            | exact ⟨2, by omega, by omega, rfl, HB1.out⟩
            | exact ⟨3, by omega, by omega, rfl, HB1.out⟩
            | exact ⟨4, by omega, by omega, rfl, HB1.out⟩
      · obtain rfl : n = m := by omega
        have HF := Aside0.mk (fun W => phasor_Fits.calls (x n) false W HS.out)
        have HZ := Aside0.mk (by have := hbx.size; simpa using this : w.heap.size + 2 ≤ wr.heap.size)
        have HR := Aside0.mk (fun j (hj : j < 4) => ((bcell hbx).1 _ j (by omega)).trans (W2_cell w x 0 j hj))
        have HG := Aside0.mk (fun j => ((bcell hbx).2 _ j (by omega)).trans (W2_free w x 0 j))
        clear hbx hm hnm hlm
        rcases four_of hlt with rfl | rfl | rfl | rfl
        all_goals
          go_wp2_with (go_at_call 9; refine (HF.out _).mono ?_; rintro e w1 ⟨rfl, hb⟩; have HB1 := Aside0.mk (HB.out.trans (hb.mono (by have := HB.out.size; simpa using this))); have hc1 : ∀ j, j < 4 → w1.cell? ⟨w.heap.size + 1, j, none⟩ = some (.complex .f64 0 0) := (fun j hj => ((bcell hb).1 _ j (by have := HZ.out; omega)).trans (HR.out j hj)); have c10 := hc1 0 (by decide); have c11 := hc1 1 (by decide); have c12 := hc1 2 (by decide); have c13 := hc1 3 (by decide); have hf1 : ∀ j, w1.frozen? ⟨w.heap.size + 1, j, none⟩ = false := (fun j => ((bcell hb).2 _ j (by have := HZ.out; omega)).trans (HG.out j)); clear hb hc1)
          have e := four_sets w1 (w.heap.size + 1) (.complex .f64 0 0) (.complex .f64 0 0) (.complex .f64 0 0) (.complex .f64 0 0) c10 c11 c12 c13
          obtain ⟨e0, e1, e2, e3⟩ := e
          refine bodyPost_ret (v := .tuple #[.agg arr0, .int .i64 5]) ?_ rfl ⟨rfl, ?_⟩
          · simp [results, Tryz.results19, go_sem, e0, e1, e2, e3]
          · exact ((((((W2_below w x 0).trans (HB1.out.mono (by omega)))).setCell (by simp) _).setCell (by simp) _).setCell (by simp) _).setCell (by simp) _
end Go.Proofs.YtofedlghaopciaaGreatDoor.FourW
end
section
/- phasor.Back, walked by hand over phasor.sums. -/
set_option linter.unusedVariables false
set_option linter.unusedSimpArgs false
namespace Go.Proofs.YtofedlghaopciaaGreatDoor.FourW
open Go Go.RowKit Go.Proofs.YtofedlghaopciaaGreatDoor.PA Go.Proofs.YtofedlghaopciaaGreatDoorW.PrintWords Go.Proofs.YtofedlghaopciaaGreatDoorW.PrintLast Go.Proofs.YtofedlghaopciaaGreatDoorW.PrintMore
attribute [local go_sem high] fx_eql fx_neq fx_lss fx_leq fx_gtr fx_geq fx_add fx_sub fx_mul fx_neg fx_toint cxx_add cxx_sub cxx_mul cxx_eql cxx_neq cxx_pick st_float st_complex
/-- The greatest part that Back takes, as bits. -/
abbrev most4 : Nat := 4728779608739020800
theorem W2_res (w : World) (x : Nat → Cx) (nd : Nat) (v0 v1 v2 v3 : Value) : ((((W2 w x nd).setCell ⟨w.heap.size + 1, 0, none⟩ v0).setCell ⟨w.heap.size + 1, 1, none⟩ v1).setCell ⟨w.heap.size + 1, 2, none⟩ v2).setCell ⟨w.heap.size + 1, 3, none⟩ v3 =
    ((w.alloc (.cells (arr x) 26)).alloc (.cells #[v0, v1, v2, v3] 26)).drewN nd := by
  have e : ∀ (W : World) a v, (W.drewN nd).setCell a v = (W.setCell a v).drewN nd := fun _ _ _ => rfl
  have f : ∀ (W : World) (c : Array Value) (i : Nat) (v : Value), W.heap.size = w.heap.size + 1 → (W.alloc (.cells c 26)).setCell ⟨w.heap.size + 1, i, none⟩ v = W.alloc (.cells (c.setIfInBounds i v) 26) := fun W c i v hW => World.setCell_alloc_at _ _ _ _ _ hW.symm
  unfold W2
  simp only [e]
  rw [f _ _ _ _ (by simp), f _ _ _ _ (by simp), f _ _ _ _ (by simp), f _ _ _ _ (by simp)]
  rfl
def wholeYes (z : Cx) : Prop := phasor_whole.f z.re most4 = some true ∧ phasor_whole.f z.im most4 = some true
def wholeNo (z : Cx) : Prop := phasor_whole.f z.re most4 = some false ∨ (phasor_whole.f z.re most4 = some true ∧ phasor_whole.f z.im most4 = some false)
set_option maxHeartbeats 4000000 in
set_option maxRecDepth 100000 in
theorem back_range (x : Nat → Cx) (w : World) (m : Nat) (hm : m < 4) (hb : ∀ j, j < m → wholeYes (x j)) (hs : wholeNo (x m)) :
    Calls Tryz.prog 20 #[.agg (arr x)] w fun e w' => e = .returned (.tuple #[.agg arr0, .int .i64 5]) ∧ Below w.heap.size w w' := by
  have H := Aside0.mk hb
  have HS := Aside0.mk hs
  clear hb hs
  have hi0 : ∀ W, (Instr.index 26 (.agg (arr x)) (.int .i64 0)).run Tryz.prog W = .ok (.complex .f64 (x 0).re (x 0).im) W := pick4 x 0 (by decide) (by decide)
  have hi1 : ∀ W, (Instr.index 26 (.agg (arr x)) (.int .i64 1)).run Tryz.prog W = .ok (.complex .f64 (x 1).re (x 1).im) W := pick4 x 1 (by decide) (by decide)
  have hi2 : ∀ W, (Instr.index 26 (.agg (arr x)) (.int .i64 2)).run Tryz.prog W = .ok (.complex .f64 (x 2).re (x 2).im) W := pick4 x 2 (by decide) (by decide)
  have hi3 : ∀ W, (Instr.index 26 (.agg (arr x)) (.int .i64 3)).run Tryz.prog W = .ok (.complex .f64 (x 3).re (x 3).im) W := pick4 x 3 (by decide) (by decide)
  go_enter Tryz.func20, Tryz.ntmps20
  go_wp2
  go_loopg [10] 4 (fun g s10 wx => ∃ n nd : Nat, n + g = 4 ∧ n ≤ m ∧ s10 = .int .i64 n ∧ wx = W2 w x nd)
  case atStart => exact ⟨0, 0, rfl, Nat.zero_le _, rfl, rfl⟩
  case round =>
    obtain ⟨n, nd, hn, hnm, rfl, rfl⟩ := hrel
    cases gk with
    | zero => omega
    | succ g =>
      have hlt : n < 4 := by omega
      by_cases hlm : n < m
      · have HF := Aside0.mk (fun W => phasor_whole.calls (x n).re most4 true W (H.out n hlm).1)
        have HF2 := Aside0.mk (fun W => phasor_whole.calls (x n).im most4 true W (H.out n hlm).2)
        have HM := Aside0.mk hlm
        clear hm hnm hlm
        rcases four_of hlt with rfl | rfl | rfl | rfl
        all_goals
          go_wp2_with (go_at_call 36; (first | ((with_reducible refine (HF.out _).mono ?_); rintro e w1 ⟨rfl, ⟨nq, rfl⟩⟩) | ((with_reducible refine (HF2.out _).mono ?_); rintro e w1 ⟨rfl, ⟨nq, rfl⟩⟩)))
          go_roundg g
          case measure => omega
          case rel =>
            have hlm := HM.out
            first
            | exact ⟨1, _, by omega, by omega, rfl, rfl⟩
            | exact ⟨2, _, by omega, by omega, rfl, rfl⟩
            | exact ⟨3, _, by omega, by omega, rfl, rfl⟩
            | exact ⟨4, _, by omega, by omega, rfl, rfl⟩
      · obtain rfl : n = m := by omega
        clear hm hnm hlm
        rcases HS.out with hs | ⟨hs1, hs2⟩
        · have HF := Aside0.mk (fun W => phasor_whole.calls (x n).re most4 false W hs)
          clear hs
          rcases four_of hlt with rfl | rfl | rfl | rfl
          all_goals
            go_wp2_with (go_at_call 36; (first | ((with_reducible refine (HF.out _).mono ?_); rintro e w1 ⟨rfl, ⟨nq, rfl⟩⟩)))
            rw [W2_res]
            refine bodyPost_ret (v := .tuple #[.agg arr0, .int .i64 5]) ?_ rfl ⟨rfl, ?_⟩
            · simp [results, Tryz.results20, go_sem]
            · exact pw_below_drewN (((Below.refl _ _).alloc (Nat.le_refl _) _).alloc (by simp) _) _
        · have HF := Aside0.mk (fun W => phasor_whole.calls (x n).re most4 true W hs1)
          have HF2 := Aside0.mk (fun W => phasor_whole.calls (x n).im most4 false W hs2)
          clear hs1 hs2
          rcases four_of hlt with rfl | rfl | rfl | rfl
          all_goals
            go_wp2_with (go_at_call 36; (first | ((with_reducible refine (HF.out _).mono ?_); rintro e w1 ⟨rfl, ⟨nq, rfl⟩⟩) | ((with_reducible refine (HF2.out _).mono ?_); rintro e w1 ⟨rfl, ⟨nq, rfl⟩⟩)))
            rw [W2_res]
            refine bodyPost_ret (v := .tuple #[.agg arr0, .int .i64 5]) ?_ rfl ⟨rfl, ?_⟩
            · simp [results, Tryz.results20, go_sem]
            · exact pw_below_drewN (((Below.refl _ _).alloc (Nat.le_refl _) _).alloc (by simp) _) _
end Go.Proofs.YtofedlghaopciaaGreatDoor.FourW
end
section
/- phasor.Back, walked by hand: what it answers where all parts fit. -/
set_option linter.unusedVariables false
set_option linter.unusedSimpArgs false
namespace Go.Proofs.YtofedlghaopciaaGreatDoor.FourW
open Go Go.RowKit Go.Proofs.YtofedlghaopciaaGreatDoor.PA Go.Proofs.YtofedlghaopciaaGreatDoorW.PrintWords Go.Proofs.YtofedlghaopciaaGreatDoorW.PrintLast Go.Proofs.YtofedlghaopciaaGreatDoorW.PrintMore
attribute [local go_sem high] fx_eql fx_neq fx_lss fx_leq fx_gtr fx_geq fx_add fx_sub fx_mul fx_neg fx_toint cxx_add cxx_sub cxx_mul cxx_eql cxx_neq cxx_pick st_float st_complex
abbrev four : Nat := 4616189618054758400
def wholeQ (z : Cx) : Prop := ∃ a b, math_Trunc.f z.re = some a ∧ feq a z.re = true ∧ math_Trunc.f z.im = some b ∧ feq b z.im = true
def fracQ (z : Cx) : Prop := (∃ a, math_Trunc.f z.re = some a ∧ feq a z.re = false) ∨ (∃ a b, math_Trunc.f z.re = some a ∧ feq a z.re = true ∧ math_Trunc.f z.im = some b ∧ feq b z.im = false)
abbrev W4 (w : World) (o : Nat → Cx) (nd : Nat) : World := (w.alloc (.cells (arr o) 26)).drewN nd
theorem W4_congr {w : World} {o o' : Nat → Cx} {nd : Nat} (h : ∀ j, j < 4 → o j = o' j) : W4 w o nd = W4 w o' nd := by
  unfold W4 arr
  rw [h 0 (by decide), h 1 (by decide), h 2 (by decide), h 3 (by decide)]
theorem W4_set (w : World) (o : Nat → Cx) (nd k : Nat) (hk : k < 4) (z : Cx) : (W4 w o nd).setCell ⟨w.heap.size, k, none⟩ (.complex .f64 z.re z.im) = W4 w (fun j => if j = k then z else o j) nd := by
  have e : ∀ (W : World) a v, (W.drewN nd).setCell a v = (W.setCell a v).drewN nd := fun _ _ _ => rfl
  unfold W4
  rw [e, World.setCell_alloc_at _ _ _ _ _ rfl]
  rcases four_of hk with rfl | rfl | rfl | rfl <;> rfl
theorem W4_old (w : World) (o : Nat → Cx) (nd b j : Nat) (h : b < w.heap.size) : (W4 w o nd).cell? ⟨b, j, none⟩ = w.cell? ⟨b, j, none⟩ := World.cell?_alloc_past _ _ _ h
theorem W4_below {w0 : World} (w : World) (o : Nat → Cx) (nd : Nat) {n : Nat} (h : Below n w0 w) (hn : n ≤ w.heap.size) : Below n w0 (W4 w o nd) := pw_below_drewN (h.alloc hn _) nd
def mid (y z : Nat → Cx) (k j : Nat) : Cx := if j < k then z j else y j
theorem mid_step (y z : Nat → Cx) (k j : Nat) : (if j = k then z k else mid y z k j) = mid y z (k + 1) j := by
  unfold mid
  by_cases h : j = k
  · subst h; rw [if_pos rfl, if_pos (by omega)]
  · rw [if_neg h]
    by_cases h2 : j < k
    · rw [if_pos h2, if_pos (by omega)]
    · rw [if_neg h2, if_neg (by omega)]
theorem quo_run (a b e f : Nat) (h : cQuoBits a b four 0 = some (e, f)) (W : World) : (binOp .quo 25 (.complex .f64 a b) (.complex .f64 four 0)).run Tryz.prog W = .ok (.complex .f64 e f) W := (run_complex_quo W 25 a b four 0 e f h).1
set_option maxHeartbeats 1000000 in
set_option maxRecDepth 100000 in
theorem back_yes (x z : Nat → Cx) (w : World) (hb : ∀ j, j < 4 → wholeYes (x j)) (hs : sumsOk x 1) (hq : ∀ j, j < 4 → cQuoBits (part x 1 j 4).re (part x 1 j 4).im four 0 = some ((z j).re, (z j).im)) (ht : ∀ j, j < 4 → wholeQ (z j)) :
    Calls Tryz.prog 20 #[.agg (arr x)] w fun e w' => e = .returned (.tuple #[.agg (arr z), .int .i64 0]) ∧ Below w.heap.size w w' := by
  have H := Aside0.mk hb
  have HS := Aside0.mk hs
  have HQ := Aside0.mk hq
  have HT := Aside0.mk ht
  clear hb hs hq ht
  have hi0 : ∀ W, (Instr.index 26 (.agg (arr x)) (.int .i64 0)).run Tryz.prog W = .ok (.complex .f64 (x 0).re (x 0).im) W := pick4 x 0 (by decide) (by decide)
  have hi1 : ∀ W, (Instr.index 26 (.agg (arr x)) (.int .i64 1)).run Tryz.prog W = .ok (.complex .f64 (x 1).re (x 1).im) W := pick4 x 1 (by decide) (by decide)
  have hi2 : ∀ W, (Instr.index 26 (.agg (arr x)) (.int .i64 2)).run Tryz.prog W = .ok (.complex .f64 (x 2).re (x 2).im) W := pick4 x 2 (by decide) (by decide)
  have hi3 : ∀ W, (Instr.index 26 (.agg (arr x)) (.int .i64 3)).run Tryz.prog W = .ok (.complex .f64 (x 3).re (x 3).im) W := pick4 x 3 (by decide) (by decide)
  have hj0 : ∀ W, (Instr.index 26 (.agg (arr fun k => part x 1 k 4)) (.int .i64 0)).run Tryz.prog W = .ok (.complex .f64 (part x 1 0 4).re (part x 1 0 4).im) W := pick4 (fun k => part x 1 k 4) 0 (by decide) (by decide)
  have hj1 : ∀ W, (Instr.index 26 (.agg (arr fun k => part x 1 k 4)) (.int .i64 1)).run Tryz.prog W = .ok (.complex .f64 (part x 1 1 4).re (part x 1 1 4).im) W := pick4 (fun k => part x 1 k 4) 1 (by decide) (by decide)
  have hj2 : ∀ W, (Instr.index 26 (.agg (arr fun k => part x 1 k 4)) (.int .i64 2)).run Tryz.prog W = .ok (.complex .f64 (part x 1 2 4).re (part x 1 2 4).im) W := pick4 (fun k => part x 1 k 4) 2 (by decide) (by decide)
  have hj3 : ∀ W, (Instr.index 26 (.agg (arr fun k => part x 1 k 4)) (.int .i64 3)).run Tryz.prog W = .ok (.complex .f64 (part x 1 3 4).re (part x 1 3 4).im) W := pick4 (fun k => part x 1 k 4) 3 (by decide) (by decide)
  go_enter Tryz.func20, Tryz.ntmps20
  go_wp2
  go_loopg [10] 4 (fun g s10 wx => ∃ n nd : Nat, n + g = 4 ∧ s10 = .int .i64 n ∧ wx = W2 w x nd)
  case atStart => exact ⟨0, 0, rfl, rfl, rfl⟩
  case round =>
    obtain ⟨n, nd, hn, rfl, rfl⟩ := hrel
    cases gk with
    | zero =>
      obtain rfl : n = 4 := by omega
      go_wp2_with (go_at_call 39; (with_reducible refine (sums_calls x 1 (.inl rfl) _ HS.out).mono ?_); rintro e w1 ⟨rfl, hb⟩; have HB1 := Aside0.mk ((W2_below w x nd).trans (hb.mono (by simp; omega))); have hc1 : ∀ j, j < 4 → w1.cell? ⟨w.heap.size + 1, j, none⟩ = some (.complex .f64 0 0) := (fun j hj => ((bcell hb).1 _ j (by simp)).trans (W2_cell w x nd j hj)); have c10 := hc1 0 (by decide); have c11 := hc1 1 (by decide); have c12 := hc1 2 (by decide); have c13 := hc1 3 (by decide); have hf1 : ∀ j, w1.frozen? ⟨w.heap.size + 1, j, none⟩ = false := (fun j => ((bcell hb).2 _ j (by simp)).trans (W2_free w x nd j)); have hz : w.heap.size + 1 < w1.heap.size := (by have := hb.size; simp at this; omega); clear hb hc1)
      go_loopg [28] 4 (fun g2 s28 wx => ∃ k nd2 : Nat, k + g2 = 4 ∧ s28 = .int .i64 k ∧ wx = W4 w1 (mid (fun k => part x 1 k 4) z k) nd2)
      case atStart => exact ⟨0, 0, rfl, rfl, rfl⟩
      case round =>
        obtain ⟨k, nd2, hk, rfl, rfl⟩ := hrel
        cases gk with
        | zero => 
          obtain rfl : k = 4 := by omega
          go_wp2
          obtain ⟨e0, e1, e2, e3⟩ := four_sets (W4 w1 (mid (fun k => part x 1 k 4) z 4) nd2) (w.heap.size + 1) (.complex .f64 (mid (fun k => part x 1 k 4) z 4 0).re (mid (fun k => part x 1 k 4) z 4 0).im) (.complex .f64 (mid (fun k => part x 1 k 4) z 4 1).re (mid (fun k => part x 1 k 4) z 4 1).im) (.complex .f64 (mid (fun k => part x 1 k 4) z 4 2).re (mid (fun k => part x 1 k 4) z 4 2).im) (.complex .f64 (mid (fun k => part x 1 k 4) z 4 3).re (mid (fun k => part x 1 k 4) z 4 3).im) ((W4_old w1 _ nd2 _ _ hz).trans c10) ((W4_old w1 _ nd2 _ _ hz).trans c11) ((W4_old w1 _ nd2 _ _ hz).trans c12) ((W4_old w1 _ nd2 _ _ hz).trans c13)
          refine bodyPost_ret (v := .tuple #[.agg (arr (mid (fun k => part x 1 k 4) z 4)), .int .i64 0]) ?_ rfl ⟨rfl, ?_⟩
          · simp [results, Tryz.results20, go_sem, e0, e1, e2, e3]
          · exact (((((W4_below w1 _ nd2 HB1.out (by omega)).setCell (by simp) _).setCell (by simp) _).setCell (by simp) _).setCell (by simp) _)
        | succ g2 =>
          have hltk : k < 4 := by omega
          have hquo := quo_run _ _ _ _ (HQ.out k hltk)
          obtain ⟨a, b, ha, hfa, hb, hfb⟩ := HT.out k hltk
          have HF := Aside0.mk (fun W => math_Trunc.calls (z k).re a W ha)
          have HF2 := Aside0.mk (fun W => math_Trunc.calls (z k).im b W hb)
          clear ha hb
          have HE := Aside0.mk (fun n => (W4_set w1 (mid (fun k => part x 1 k 4) z k) n k hltk (z k)).trans (W4_congr (fun j _ => mid_step (fun k => part x 1 k 4) z k j)))
          have HK := Aside0.mk (show k + 1 + g2 = 4 by omega)
          rcases four_of hltk with rfl | rfl | rfl | rfl
          all_goals
            go_wp2_with (go_at_call 40; (first | ((with_reducible refine (HF.out _).mono ?_); rintro e w2 ⟨rfl, ⟨nq, rfl⟩⟩) | ((with_reducible refine (HF2.out _).mono ?_); rintro e w2 ⟨rfl, ⟨nq, rfl⟩⟩)))
            go_roundg g2
            case measure => omega
            case rel =>
              exact ⟨_, _, HK.out, rfl, HE.out _⟩
    | succ g =>
      have hlt : n < 4 := by omega
      have HF := Aside0.mk (fun W => phasor_whole.calls (x n).re most4 true W (H.out n hlt).1)
      have HF2 := Aside0.mk (fun W => phasor_whole.calls (x n).im most4 true W (H.out n hlt).2)
      rcases four_of hlt with rfl | rfl | rfl | rfl
      all_goals
        go_wp2_with (go_at_call 36; (first | ((with_reducible refine (HF.out _).mono ?_); rintro e w1 ⟨rfl, ⟨nq, rfl⟩⟩) | ((with_reducible refine (HF2.out _).mono ?_); rintro e w1 ⟨rfl, ⟨nq, rfl⟩⟩)))
        go_roundg g
        case measure => omega
        case rel => first
          | exact ⟨1, _, by omega, rfl, rfl⟩
          | exact ⟨2, _, by omega, rfl, rfl⟩
          | exact ⟨3, _, by omega, rfl, rfl⟩
          | exact ⟨4, _, by omega, rfl, rfl⟩
end Go.Proofs.YtofedlghaopciaaGreatDoor.FourW
end
section
/- phasor.Back, walked by hand: where a fourth isn't whole. -/
set_option linter.unusedVariables false
set_option linter.unusedSimpArgs false
namespace Go.Proofs.YtofedlghaopciaaGreatDoor.FourW
open Go Go.RowKit Go.Proofs.YtofedlghaopciaaGreatDoor.PA Go.Proofs.YtofedlghaopciaaGreatDoorW.PrintWords Go.Proofs.YtofedlghaopciaaGreatDoorW.PrintLast Go.Proofs.YtofedlghaopciaaGreatDoorW.PrintMore
attribute [local go_sem high] fx_eql fx_neq fx_lss fx_leq fx_gtr fx_geq fx_add fx_sub fx_mul fx_neg fx_toint cxx_add cxx_sub cxx_mul cxx_eql cxx_neq cxx_pick st_float st_complex
set_option maxHeartbeats 1000000 in
set_option maxRecDepth 100000 in
theorem back_arg (x z : Nat → Cx) (w : World) (m : Nat) (hm : m < 4) (hb : ∀ j, j < 4 → wholeYes (x j)) (hs : sumsOk x 1) (hq : ∀ j, j < 4 → cQuoBits (part x 1 j 4).re (part x 1 j 4).im four 0 = some ((z j).re, (z j).im)) (hp : ∀ j, j < m → wholeQ (z j)) (ht : fracQ (z m)) :
    Calls Tryz.prog 20 #[.agg (arr x)] w fun e w' => e = .returned (.tuple #[.agg arr0, .int .i64 8]) ∧ Below w.heap.size w w' := by
  have H := Aside0.mk hb
  have HS := Aside0.mk hs
  have HQ := Aside0.mk hq
  have HT := Aside0.mk ht
  have HP := Aside0.mk hp
  have HM := Aside0.mk hm
  clear hb hs hq ht hp hm
  have hi0 : ∀ W, (Instr.index 26 (.agg (arr x)) (.int .i64 0)).run Tryz.prog W = .ok (.complex .f64 (x 0).re (x 0).im) W := pick4 x 0 (by decide) (by decide)
  have hi1 : ∀ W, (Instr.index 26 (.agg (arr x)) (.int .i64 1)).run Tryz.prog W = .ok (.complex .f64 (x 1).re (x 1).im) W := pick4 x 1 (by decide) (by decide)
  have hi2 : ∀ W, (Instr.index 26 (.agg (arr x)) (.int .i64 2)).run Tryz.prog W = .ok (.complex .f64 (x 2).re (x 2).im) W := pick4 x 2 (by decide) (by decide)
  have hi3 : ∀ W, (Instr.index 26 (.agg (arr x)) (.int .i64 3)).run Tryz.prog W = .ok (.complex .f64 (x 3).re (x 3).im) W := pick4 x 3 (by decide) (by decide)
  have hj0 : ∀ W, (Instr.index 26 (.agg (arr fun k => part x 1 k 4)) (.int .i64 0)).run Tryz.prog W = .ok (.complex .f64 (part x 1 0 4).re (part x 1 0 4).im) W := pick4 (fun k => part x 1 k 4) 0 (by decide) (by decide)
  have hj1 : ∀ W, (Instr.index 26 (.agg (arr fun k => part x 1 k 4)) (.int .i64 1)).run Tryz.prog W = .ok (.complex .f64 (part x 1 1 4).re (part x 1 1 4).im) W := pick4 (fun k => part x 1 k 4) 1 (by decide) (by decide)
  have hj2 : ∀ W, (Instr.index 26 (.agg (arr fun k => part x 1 k 4)) (.int .i64 2)).run Tryz.prog W = .ok (.complex .f64 (part x 1 2 4).re (part x 1 2 4).im) W := pick4 (fun k => part x 1 k 4) 2 (by decide) (by decide)
  have hj3 : ∀ W, (Instr.index 26 (.agg (arr fun k => part x 1 k 4)) (.int .i64 3)).run Tryz.prog W = .ok (.complex .f64 (part x 1 3 4).re (part x 1 3 4).im) W := pick4 (fun k => part x 1 k 4) 3 (by decide) (by decide)
  go_enter Tryz.func20, Tryz.ntmps20
  go_wp2
  go_loopg [10] 4 (fun g s10 wx => ∃ n nd : Nat, n + g = 4 ∧ s10 = .int .i64 n ∧ wx = W2 w x nd)
  case atStart => exact ⟨0, 0, rfl, rfl, rfl⟩
  case round =>
    obtain ⟨n, nd, hn, rfl, rfl⟩ := hrel
    cases gk with
    | zero =>
      obtain rfl : n = 4 := by omega
      go_wp2_with (go_at_call 39; (with_reducible refine (sums_calls x 1 (.inl rfl) _ HS.out).mono ?_); rintro e w1 ⟨rfl, hb⟩; have HB1 := Aside0.mk ((W2_below w x nd).trans (hb.mono (by simp; omega))); have hc1 : ∀ j, j < 4 → w1.cell? ⟨w.heap.size + 1, j, none⟩ = some (.complex .f64 0 0) := (fun j hj => ((bcell hb).1 _ j (by simp)).trans (W2_cell w x nd j hj)); have c10 := hc1 0 (by decide); have c11 := hc1 1 (by decide); have c12 := hc1 2 (by decide); have c13 := hc1 3 (by decide); have hf1 : ∀ j, w1.frozen? ⟨w.heap.size + 1, j, none⟩ = false := (fun j => ((bcell hb).2 _ j (by simp)).trans (W2_free w x nd j)); have hz : w.heap.size + 1 < w1.heap.size := (by have := hb.size; simp at this; omega); clear hb hc1)
      go_loopg [28] 4 (fun g2 s28 wx => ∃ k nd2 : Nat, k + g2 = 4 ∧ k ≤ m ∧ s28 = .int .i64 k ∧ wx = W4 w1 (mid (fun k => part x 1 k 4) z k) nd2)
      case atStart => exact ⟨0, 0, rfl, Nat.zero_le _, rfl, rfl⟩
      case round =>
        obtain ⟨k, nd2, hk, hkm, rfl, rfl⟩ := hrel
        cases gk with
        | zero => have := HM.out; omega
        | succ g2 =>
          have hltk : k < 4 := by omega
          have hquo := quo_run _ _ _ _ (HQ.out k hltk)
          by_cases hlm : k < m
          · obtain ⟨a, b, ha, hfa, hb, hfb⟩ := HP.out k hlm
            have HF := Aside0.mk (fun W => math_Trunc.calls (z k).re a W ha)
            have HF2 := Aside0.mk (fun W => math_Trunc.calls (z k).im b W hb)
            clear ha hb
            have HE := Aside0.mk (fun n => (W4_set w1 (mid (fun k => part x 1 k 4) z k) n k hltk (z k)).trans (W4_congr (fun j _ => mid_step (fun k => part x 1 k 4) z k j)))
            have HK := Aside0.mk (show k + 1 + g2 = 4 by omega)
            have HL := Aside0.mk (show k + 1 ≤ m by omega)
            clear hkm hlm
            rcases four_of hltk with rfl | rfl | rfl | rfl
            all_goals
              go_wp2_with (go_at_call 40; (first | ((with_reducible refine (HF.out _).mono ?_); rintro e w2 ⟨rfl, ⟨nq, rfl⟩⟩) | ((with_reducible refine (HF2.out _).mono ?_); rintro e w2 ⟨rfl, ⟨nq, rfl⟩⟩)))
              go_roundg g2
              case measure => omega
              case rel =>
                exact ⟨_, _, HK.out, HL.out, rfl, HE.out _⟩
          · obtain rfl : k = m := by omega
            clear hkm hlm
            have HD : ∀ n v0 v1 v2 v3, _ := fun (n : Nat) v0 v1 v2 v3 => four_sets (W4 w1 (mid (fun k => part x 1 k 4) z k) n) (w.heap.size + 1) v0 v1 v2 v3 ((W4_old w1 _ n _ _ hz).trans c10) ((W4_old w1 _ n _ _ hz).trans c11) ((W4_old w1 _ n _ _ hz).trans c12) ((W4_old w1 _ n _ _ hz).trans c13)
            have HD := Aside0.mk HD
            have HBW := Aside0.mk (fun n => W4_below w1 (mid (fun k => part x 1 k 4) z k) n HB1.out (by omega))
            rcases HT.out with ⟨a, ha, hfa⟩ | ⟨a, b, ha, hfa, hb, hfb⟩
            · have HF := Aside0.mk (fun W => math_Trunc.calls (z k).re a W ha)
              clear ha
              rcases four_of hltk with rfl | rfl | rfl | rfl
              all_goals
                go_wp2_with (go_at_call 40; (first | ((with_reducible refine (HF.out _).mono ?_); rintro e w2 ⟨rfl, ⟨nq, rfl⟩⟩)))
                obtain ⟨e0, e1, e2, e3⟩ := HD.out (nd2 + nq) (.complex .f64 0 0) (.complex .f64 0 0) (.complex .f64 0 0) (.complex .f64 0 0)
                refine bodyPost_ret (v := .tuple #[.agg arr0, .int .i64 8]) ?_ rfl ⟨rfl, ?_⟩
                · simp [results, Tryz.results20, go_sem, e0, e1, e2, e3]
                · exact (((((HBW.out _).setCell (by simp) _).setCell (by simp) _).setCell (by simp) _).setCell (by simp) _)
            · have HF := Aside0.mk (fun W => math_Trunc.calls (z k).re a W ha)
              have HF2 := Aside0.mk (fun W => math_Trunc.calls (z k).im b W hb)
              clear ha hb
              rcases four_of hltk with rfl | rfl | rfl | rfl
              all_goals
                go_wp2_with (go_at_call 40; (first | ((with_reducible refine (HF.out _).mono ?_); rintro e w2 ⟨rfl, ⟨nq, rfl⟩⟩) | ((with_reducible refine (HF2.out _).mono ?_); rintro e w2 ⟨rfl, ⟨nq2, rfl⟩⟩)))
                obtain ⟨e0, e1, e2, e3⟩ := HD.out (nd2 + nq + nq2) (.complex .f64 0 0) (.complex .f64 0 0) (.complex .f64 0 0) (.complex .f64 0 0)
                refine bodyPost_ret (v := .tuple #[.agg arr0, .int .i64 8]) ?_ rfl ⟨rfl, ?_⟩
                · simp [results, Tryz.results20, go_sem, e0, e1, e2, e3]
                · exact (((((HBW.out _).setCell (by simp) _).setCell (by simp) _).setCell (by simp) _).setCell (by simp) _)
    | succ g =>
      have hlt : n < 4 := by omega
      have HF := Aside0.mk (fun W => phasor_whole.calls (x n).re most4 true W (H.out n hlt).1)
      have HF2 := Aside0.mk (fun W => phasor_whole.calls (x n).im most4 true W (H.out n hlt).2)
      rcases four_of hlt with rfl | rfl | rfl | rfl
      all_goals
        go_wp2_with (go_at_call 36; (first | ((with_reducible refine (HF.out _).mono ?_); rintro e w1 ⟨rfl, ⟨nq, rfl⟩⟩) | ((with_reducible refine (HF2.out _).mono ?_); rintro e w1 ⟨rfl, ⟨nq, rfl⟩⟩)))
        go_roundg g
        case measure => omega
        case rel => first
          | exact ⟨1, _, by omega, rfl, rfl⟩
          | exact ⟨2, _, by omega, rfl, rfl⟩
          | exact ⟨3, _, by omega, rfl, rfl⟩
          | exact ⟨4, _, by omega, rfl, rfl⟩
end Go.Proofs.YtofedlghaopciaaGreatDoor.FourW
end
section
/- Plain arithmetic: words of 64 bits, products and quotients of two words, half up. No program in sight. -/
set_option linter.unusedVariables false
set_option linter.unusedSimpArgs false
namespace Go.Proofs.YtofedlghaopciaaGreatDoor.Num
open Go.RowKit Go.Proofs.YtofedlghaopciaaGreatDoorW.PrintWords Go.Proofs.YtofedlghaopciaaGreatDoorW.PrintMore

theorem Ev.shift {α : Type} {g : Nat → Option α} {r : α} (h : Ev (fun k => g (k + 1)) r) : Ev g r := by
  obtain ⟨K, h⟩ := h
  refine ⟨K + 1, fun k hk => ?_⟩
  obtain ⟨m, rfl⟩ : ∃ m, k = m + 1 := ⟨k - 1, by omega⟩
  exact h m (by omega)
theorem Ev.later {α : Type} {g : Nat → Option α} {r : α} (h : Ev g r) : Ev (fun k => g (k + 1)) r := by
  obtain ⟨K, h⟩ := h
  exact ⟨K, fun k hk => h (k + 1) (by omega)⟩
theorem Ev.pair {α β : Type} (F : α × β) : Ev (fun _ => some (F.1, F.2)) F := Ev.now F
theorem Ev.ofEq {α : Type} {o : Option α} {r : α} (h : o = some r) : Ev (fun _ => o) r := ⟨0, fun _ _ => h⟩
theorem Ev.unique {α : Type} {g : Nat → Option α} {r s : α} (h : Ev g r) (k : Ev g s) : r = s := by
  obtain ⟨K, h⟩ := h
  obtain ⟨L, k⟩ := k
  have a := h (max K L) (Nat.le_max_left _ _)
  have b := k (max K L) (Nat.le_max_right _ _)
  rw [a] at b
  exact Option.some.inj b

theorem w64 {x : Int} (h0 : 0 ≤ x) (h : x < 18446744073709551616) : IntKind.u64.wrap x = x := by rw [IntKind.wrap_u64]; omega
theorem i64in {x : Int} (h0 : -9223372036854775808 ≤ x) (h : x ≤ 9223372036854775807) : wrap64 x = x := by unfold wrap64; omega
theorem and_mask32 {x : Int} (h0 : 0 ≤ x) (h : x < 18446744073709551616) : Go.bits .and .u64 x 4294967295 = x % 4294967296 := by
  rw [u64_and x 4294967295 h0 h (by omega) (by omega)]
  obtain ⟨n, rfl⟩ := Int.eq_ofNat_of_zero_le h0
  have := Nat.and_two_pow_sub_one_eq_mod n 32
  simp only [Int.toNat_natCast]
  rw [show (4294967295 : Int).toNat = 2 ^ 32 - 1 by rfl, this]
  omega
/-- '|' of two words whose bits lie apart. -/
theorem or_join {x y : Int} (i : Nat) (hx0 : 0 ≤ x) (hx : x < 18446744073709551616) (hm : x % 2 ^ i = 0) (hy0 : 0 ≤ y) (hy1 : y < 18446744073709551616) (hy : y < 2 ^ i) : Go.bits .or .u64 x y = x + y := by
  rw [u64_or x y hx0 hx hy0 hy1]
  obtain ⟨n, rfl⟩ := Int.eq_ofNat_of_zero_le hx0
  obtain ⟨m, rfl⟩ := Int.eq_ofNat_of_zero_le hy0
  simp only [Int.toNat_natCast]
  rw [nat_join i n m (by exact_mod_cast hm) (by exact_mod_cast hy)]
  omega

theorem shr64 {x n : Int} (h0 : 0 ≤ n) (h : n ≤ 64) : shr .u64 x n = x / 2 ^ n.toNat := by
  unfold shr
  rw [Nat.min_eq_left (by simp [IntKind.bits]; omega)]
theorem shl64 {x n : Int} (h0 : 0 ≤ n) (h : n ≤ 64) : shl .u64 x n = (x * 2 ^ n.toNat) % 18446744073709551616 := by
  unfold shl
  rw [Nat.min_eq_left (by simp [IntKind.bits]; omega), IntKind.wrap_u64]

/-! ### The quotient of two words by one: one digit of 32 bits -/
/-- What a guess that is not below the true digit tells: greater than it, or the digit itself. -/
theorem digit_high {U u1 y q rhat yn1 yn0 : Int} (hy : y = yn1 * 4294967296 + yn0) (hq : q * yn1 + rhat = U) (h : q * yn0 > 4294967296 * rhat + u1) : U * 4294967296 + u1 < q * y := by
  have e : q * y = q * yn1 * 4294967296 + q * yn0 := by rw [hy, Int.mul_add, Int.mul_assoc]
  have : q * yn1 = U - rhat := by omega
  rw [e, this]
  omega
theorem digit_low {U u1 y q rhat yn1 yn0 : Int} (hy : y = yn1 * 4294967296 + yn0) (hq : q * yn1 + rhat = U) (h : q * yn0 ≤ 4294967296 * rhat + u1) : q * y ≤ U * 4294967296 + u1 := by
  have e : q * y = q * yn1 * 4294967296 + q * yn0 := by rw [hy, Int.mul_add, Int.mul_assoc]
  have : q * yn1 = U - rhat := by omega
  rw [e, this]
  omega
theorem quot_is {n y q : Int} (hy : 0 < y) (h1 : q * y ≤ n) (h2 : n < (q + 1) * y) : q = n / y := by
  have a := Int.le_ediv_of_mul_le hy h1
  have b := Int.ediv_lt_of_lt_mul hy h2
  omega
theorem digit_lt {U u1 y : Int} (hy : 0 < y) (hU : U < y) (h1 : u1 < 4294967296) : (U * 4294967296 + u1) / y < 4294967296 := by
  refine Int.ediv_lt_of_lt_mul hy ?_
  omega

/-! ### Half up -/
/-- n / d, half up (d above 0). -/
def halfUp (n d : Int) : Int := (2 * n + d) / (2 * d)
/-- A product's quotient by c, half up, c not 0. -/
def mulDiv (a b c : Int) : Int := if c < 0 then halfUp (-(a * b)) (-c) else halfUp (a * b) c
/-- As the code answers: the number and the error's number. -/
def fits (n : Int) : Int × Int := if -9223372036854775808 ≤ n ∧ n ≤ 9223372036854775807 then (n, 0) else (0, 5)

/-! ### Rounds, and what follows -/
theorem ev_bind {α β : Type} {g : Nat → Option α} {a : α} {F : Nat → α → Option β} {r : β} (h : Ev g a) (h2 : Ev (fun k => F k a) r) : Ev (fun k => (g k).bind (F k)) r := by
  obtain ⟨K, h⟩ := h
  obtain ⟨L, h2⟩ := h2
  refine ⟨max K L, fun k hk => ?_⟩
  have := h k (by omega)
  show (g k).bind (F k) = _
  rw [this]
  exact h2 k (by omega)
theorem ev_ex {α : Type} {g : Nat → Option α} {r : α} (h : Ev g r) : ∃ k, g k = some r := by
  obtain ⟨K, h⟩ := h
  exact ⟨K, h K (Nat.le_refl _)⟩
theorem Ev.ofEqK {α : Type} {g : Nat → Option α} {r : α} (h : ∀ k, g k = some r) : Ev g r := ⟨0, fun k _ => h k⟩
theorem drop_cons {α : Type} (d : α) {xs : List α} {i : Int} (h0 : 0 ≤ i) (h1 : i < (xs.length : Int)) : xs.drop i.toNat = rdOf d xs i :: xs.drop (i + 1).toNat := by
  have h : i.toNat < xs.length := by omega
  rw [List.drop_eq_getElem_cons h, show (i + 1).toNat = i.toNat + 1 by omega]
  unfold rdOf
  rw [List.getD_eq_getElem?_getD, List.getElem?_eq_getElem h]
  rfl
theorem drop_end {α : Type} {xs : List α} {i : Int} (h : (xs.length : Int) ≤ i) : xs.drop i.toNat = [] := List.drop_eq_nil_of_le (by omega)
/-- '|' of two words whose bits lie apart, the lower one first. -/
theorem or_join' {x y : Int} (i : Nat) (hx0 : 0 ≤ x) (hx : x < 18446744073709551616) (hm : x % 2 ^ i = 0) (hy0 : 0 ≤ y) (hy1 : y < 18446744073709551616) (hy : y < 2 ^ i) : Go.bits .or .u64 y x = x + y := by
  rw [← or_join i hx0 hx hm hy0 hy1 hy, u64_or x y hx0 hx hy0 hy1, u64_or y x hy0 hy1 hx0 hx, Nat.or_comm]

/-! ### Whole square roots -/
/-- r is the whole square root of N. -/
def IsRoot (N r : Int) : Prop := 0 ≤ r ∧ r * r ≤ N ∧ N < (r + 1) * (r + 1)
theorem sq_le {a b : Int} (h0 : 0 ≤ a) (h : a ≤ b) : a * a ≤ b * b := Int.mul_le_mul h h h0 (by omega)
theorem IsRoot.le_of {N r x : Int} (h : IsRoot N r) (hx : 0 ≤ x) (hN : N < x * x) : r ≤ x := by
  rcases Int.lt_or_le x r with g | g
  · have := sq_le hx (Int.le_of_lt g)
    have := h.2.1
    omega
  · exact g
theorem IsRoot.top {N r x : Int} (h : IsRoot N r) (hx : r ≤ x) (hN : x * x ≤ N) : x = r := by
  rcases Int.lt_or_le r x with g | g
  · have := sq_le (a := r + 1) (b := x) (by have := h.1; omega) (by omega)
    have := h.2.2
    omega
  · omega
theorem IsRoot.uniq {N r s : Int} (h : IsRoot N r) (k : IsRoot N s) : r = s := by
  rcases Int.lt_or_le s r with g | g
  · exact k.top (Int.le_of_lt g) h.2.1
  · exact (h.top g k.2.1).symm
theorem IsRoot.pos {N r : Int} (h : IsRoot N r) (hN : 1 ≤ N) : 1 ≤ r := by
  rcases Int.lt_or_le r 1 with g | g
  · have h0 := h.1
    have e : r = 0 := by omega
    have := h.2.2
    rw [e] at this
    omega
  · exact g
theorem root_exists (n : Nat) : ∃ r, IsRoot (n : Int) r := by
  induction n with
  | zero => exact ⟨0, by decide, by decide, by decide⟩
  | succ n ih =>
    obtain ⟨r, h0, h1, h2⟩ := ih
    by_cases g : (r + 1) * (r + 1) ≤ ((n + 1 : Nat) : Int)
    · refine ⟨r + 1, by omega, g, ?_⟩
      have e : (r + 1 + 1) * (r + 1 + 1) = (r + 1) * (r + 1) + (2 * r + 3) := by grind
      rw [e]
      omega
    · exact ⟨r, h0, by omega, by omega⟩
theorem sq_nonneg (a : Int) : 0 ≤ a * a := by
  have := Int.natAbs_mul_self (a := a)
  have h : 0 ≤ (a.natAbs : Int) * a.natAbs := Int.mul_nonneg (by omega) (by omega)
  omega
/-- One of Newton's steps is not below the root. -/
theorem newton {N r x : Int} (hr : IsRoot N r) (hx : 0 < x) : r ≤ (x + N / x) / 2 := by
  rcases Int.lt_or_le ((x + N / x) / 2) r with g | g
  · have h1 : N / x + 1 ≤ 2 * r - x := by omega
    have h2 : (N / x + 1) * x ≤ (2 * r - x) * x := Int.mul_le_mul_of_nonneg_right h1 (Int.le_of_lt hx)
    have h3 := Int.lt_ediv_add_one_mul_self N hx
    have h4 := sq_nonneg (r - x)
    have h5 : (r - x) * (r - x) = r * r - (2 * r - x) * x := by grind
    have := hr.2.1
    omega
  · exact g
end Go.Proofs.YtofedlghaopciaaGreatDoor.Num
end
section
/- Decimal texts: what they spell, which are numbers' texts; strconv's parse of them. -/
set_option linter.unusedVariables false
set_option linter.unusedSimpArgs false
namespace Go.Proofs.YtofedlghaopciaaGreatDoor.Dig
open Go.Lib Go.Proofs.YtofedlghaopciaaGreatDoor.Num
def digs (l : List UInt8) : Prop := ∀ c ∈ l, 48 ≤ c.toNat ∧ c.toNat ≤ 57
instance (l : List UInt8) : Decidable (digs l) := inferInstanceAs (Decidable (∀ c ∈ l, _))
/-- A digit more. -/
def step (a : Nat) (c : UInt8) : Nat := a * 10 + (c.toNat - 48)
theorem step_eq (a : Nat) (c : UInt8) : step a c = a * 10 + (c.toNat - 48) := rfl
attribute [irreducible] step
/-- What the digits spell, behind acc. -/
def val : Nat → List UInt8 → Nat
  | acc, [] => acc
  | acc, c :: r => val (step acc c) r
theorem val_nil (a : Nat) : val a [] = a := rfl
theorem val_cons (a : Nat) (c : UInt8) (r : List UInt8) : val a (c :: r) = val (step a c) r := rfl
theorem val_append (l m : List UInt8) : ∀ (a : Nat), val a (l ++ m) = val (val a l) m := by
  induction l with
  | nil => intro a; rfl
  | cons c l ih => intro a; rw [List.cons_append, val_cons, val_cons, ih]
theorem le_val (l : List UInt8) : ∀ (a : Nat), a ≤ val a l := by
  induction l with
  | nil => intro a; rw [val_nil]; exact Nat.le_refl _
  | cons c l ih => intro a; rw [val_cons]; have h1 := ih (step a c); have h2 := step_eq a c; omega
theorem val_lt (l : List UInt8) : ∀ (a : Nat), digs l → val a l < (a + 1) * 10 ^ l.length := by
  induction l with
  | nil => intro a _; rw [val_nil]; simp
  | cons c l ih =>
    intro a h
    have hc := h c (by simp)
    have IH := ih (step a c) (fun d hd => h d (by simp [hd]))
    have hs := step_eq a c
    rw [val_cons, List.length_cons, Nat.pow_succ]
    refine Nat.lt_of_lt_of_le IH ?_
    rw [Nat.mul_comm (10 ^ l.length) 10, ← Nat.mul_assoc]
    exact Nat.mul_le_mul_right _ (by omega)
theorem u8_of {n : Nat} (h : n < 256) : (UInt8.ofNat n).toNat = n := by simp [Nat.mod_eq_of_lt h]
theorem dec_digs (u : Nat) : digs (decDigits u) := by
  induction u using Nat.strongRecOn with
  | _ u ih =>
    rw [decDigits]
    by_cases h : u < 10
    · rw [dif_pos h]
      intro c hc
      simp only [List.mem_singleton] at hc
      subst hc
      rw [u8_of (by omega)]; omega
    · rw [dif_neg h]
      intro c hc
      rcases List.mem_append.1 hc with hc | hc
      · exact ih (u / 10) (by omega) c hc
      · simp only [List.mem_singleton] at hc
        subst hc
        rw [u8_of (by omega)]; omega
theorem dec_val (u : Nat) : val 0 (decDigits u) = u := by
  induction u using Nat.strongRecOn with
  | _ u ih =>
    rw [decDigits]
    by_cases h : u < 10
    · rw [dif_pos h, val_cons, val_nil, step_eq, u8_of (by omega)]; omega
    · rw [dif_neg h, val_append, ih (u / 10) (by omega), val_cons, val_nil, step_eq, u8_of (by omega)]; omega
theorem dec_ne (u : Nat) : decDigits u ≠ [] := by
  rw [decDigits]
  by_cases h : u < 10
  · rw [dif_pos h]; simp
  · rw [dif_neg h]; simp
/-- Without a nought ahead. -/
def lead (l : List UInt8) : Prop := l ≠ [] ∧ (l = [48] ∨ l.head? ≠ some 48)
theorem dec_head (u : Nat) (h0 : u ≠ 0) : (decDigits u).head? ≠ some 48 := by
  induction u using Nat.strongRecOn with
  | _ u ih =>
    rw [decDigits]
    by_cases h : u < 10
    · rw [dif_pos h]
      simp only [List.head?_cons]
      intro he
      have := congrArg UInt8.toNat (Option.some.inj he)
      rw [u8_of (by omega)] at this
      have h2 : (48 : UInt8).toNat = 48 := rfl
      omega
    · rw [dif_neg h]
      have := ih (u / 10) (by omega) (by omega)
      cases hd : decDigits (u / 10) with
      | nil => exact absurd hd (dec_ne _)
      | cons c r => rw [hd] at this; simpa using this
theorem dec_zero : decDigits 0 = [48] := by rw [decDigits, dif_pos (by omega)]; rfl
/-- Digits without a nought ahead are the text of what they spell. -/
theorem dec_of_val (l : List UInt8) (hd : digs l) (hl : lead l) : decDigits (val 0 l) = l := by
  have key : ∀ (n : Nat) (l : List UInt8), l.length = n → digs l → l ≠ [] → l.head? ≠ some 48 → decDigits (val 0 l) = l ∧ 0 < val 0 l := by
    intro n
    induction n using Nat.strongRecOn with
    | _ n ih =>
      intro l hn hd hne hh
      obtain ⟨p, c, rfl⟩ : ∃ p c, l = p ++ [c] := ⟨l.dropLast, l.getLast hne, (List.dropLast_concat_getLast hne).symm⟩
      have hc := hd c (by simp)
      cases p with
      | nil =>
        rw [List.nil_append, val_cons, val_nil]
        have hs := step_eq 0 c
        have h48 : c.toNat ≠ 48 := by
          intro h
          apply hh
          simp only [List.nil_append, List.head?_cons]
          exact congrArg some (UInt8.toNat_inj.1 h)
        refine ⟨?_, by omega⟩
        rw [decDigits, dif_pos (by omega)]
        congr 1
        apply UInt8.toNat_inj.1
        rw [u8_of (by omega)]; omega
      | cons d p =>
        have hd2 : digs (d :: p) := fun x hx => hd x (List.mem_append_left _ hx)
        have IH := ih (d :: p).length (by simp at hn ⊢; omega) (d :: p) rfl hd2 (by simp) (by simpa using hh)
        rw [val_append, val_cons, val_nil]
        have hs := step_eq (val 0 (d :: p)) c
        have hp := IH.2
        have e0 := IH.1
        generalize val 0 (d :: p) = V at *
        generalize step V c = W at *
        refine ⟨?_, by omega⟩
        have e1 : W / 10 = V := by omega
        have e2 : UInt8.ofNat (48 + W % 10) = c := by
          apply UInt8.toNat_inj.1
          rw [u8_of (by omega)]; omega
        rw [decDigits, dif_neg (by omega), e1, e2, e0]
  rcases hl with ⟨hne, rfl | hh⟩
  · have : val 0 [48] = 0 := by rw [val_cons, val_nil, step_eq]; rfl
    rw [this]; exact dec_zero
  · exact (key l.length l rfl hd hne hh).1
theorem val_pos {l : List UInt8} (hne : l ≠ []) (hd : digs l) (hh : l.head? ≠ some 48) : 0 < val 0 l := by
  cases l with
  | nil => exact absurd rfl hne
  | cons c r =>
    have hc := hd c (by simp)
    have h48 : c.toNat ≠ 48 := by
      intro h; apply hh; simp only [List.head?_cons]; exact congrArg some (UInt8.toNat_inj.1 h)
    have h1 := le_val r (step 0 c)
    have h2 := step_eq 0 c
    rw [val_cons]; omega
theorem parseM (l : List UInt8) : ∀ (a : Nat), digs l → a ≤ 18446744073709551615 → parseUintM 18446744073709551615 a l = if val a l ≤ 18446744073709551615 then .ok (val a l) else .range := by
  induction l with
  | nil => intro a _ ha; rw [val_nil, if_pos ha]; rfl
  | cons c r ih =>
    intro a h ha
    have hc := h c (by simp)
    have hv := le_val r (step a c)
    have hs := step_eq a c
    rw [val_cons]
    unfold parseUintM
    rw [if_pos hc, ← hs]
    by_cases h1 : 1844674407370955162 ≤ a
    · rw [if_pos h1, if_neg (by omega)]
    · rw [if_neg h1]
      by_cases h2 : 18446744073709551615 < step a c
      · rw [if_pos h2, if_neg (by omega)]
      · rw [if_neg h2]
        exact ih _ (fun d hd => h d (by simp [hd])) (by omega)
/-- What stands behind the sign. -/
def mag (l : List UInt8) : List UInt8 := if l.head? = some 45 then l.tail else l
/-- Is it a number's text? -/
def isNum (l : List UInt8) : Prop := digs (mag l) ∧ mag l ≠ [] ∧ ((mag l).head? = some 48 → l = [48])
instance (l : List UInt8) : Decidable (isNum l) := inferInstanceAs (Decidable (_ ∧ _ ∧ (_ → _)))
/-- The number. -/
def num (l : List UInt8) : Int := if l.head? = some 45 then -(val 0 (mag l) : Int) else val 0 (mag l)
theorem isNum_lead {l : List UInt8} (h : isNum l) : lead (mag l) := by
  refine ⟨h.2.1, ?_⟩
  by_cases c : (mag l).head? = some 48
  · have e := h.2.2 c
    subst e; exact .inl rfl
  · exact .inr c
theorem itoa_num (n : Int) : isNum (itoa n) ∧ num (itoa n) = n := by
  by_cases h : n < 0
  · have e : itoa n = 45 :: decDigits n.natAbs := by unfold itoa; rw [if_pos h]
    have m : mag (45 :: decDigits n.natAbs) = decDigits n.natAbs := by unfold mag; simp
    rw [e]
    refine ⟨⟨by rw [m]; exact dec_digs _, by rw [m]; exact dec_ne _, fun c => ?_⟩, ?_⟩
    · rw [m] at c; exact absurd c (dec_head _ (by omega))
    · unfold num; rw [m, dec_val]; simp; omega
  · have e : itoa n = decDigits n.toNat := by unfold itoa; rw [if_neg h]
    have hh : (decDigits n.toNat).head? ≠ some 45 := by
      cases hd : decDigits n.toNat with
      | nil => simp
      | cons c r =>
        have := dec_digs n.toNat c (by rw [hd]; simp)
        intro hc
        simp only [List.head?_cons, Option.some.injEq] at hc
        subst hc
        exact absurd this.1 (by decide)
    have m : mag (decDigits n.toNat) = decDigits n.toNat := by unfold mag; rw [if_neg hh]
    rw [e]
    refine ⟨⟨by rw [m]; exact dec_digs _, by rw [m]; exact dec_ne _, fun c => ?_⟩, ?_⟩
    · rw [m] at c
      by_cases z : n.toNat = 0
      · rw [z]; exact dec_zero
      · exact absurd c (dec_head _ z)
    · unfold num; rw [m, if_neg hh, dec_val]; omega
theorem itoa_of_num {l : List UInt8} (h : isNum l) : itoa (num l) = l := by
  have d := dec_of_val (mag l) h.1 (isNum_lead h)
  unfold num
  by_cases c : l.head? = some 45
  · have m : l = 45 :: mag l := by
      unfold mag; rw [if_pos c]
      cases l with
      | nil => simp at c
      | cons a r => simp at c; subst c; rfl
    have hp : 0 < val 0 (mag l) := by
      refine val_pos h.2.1 h.1 fun c2 => ?_
      have := h.2.2 c2
      subst this; simp at c
    rw [if_pos c]
    unfold itoa
    rw [if_pos (by omega), show (-(val 0 (mag l) : Int)).natAbs = val 0 (mag l) by omega, d, ← m]
  · have m : mag l = l := by unfold mag; rw [if_neg c]
    rw [if_neg c]
    unfold itoa
    rw [if_neg (by omega), Int.toNat_natCast, d, m]
theorem parse_num {l : List UInt8} (h : isNum l) : parseIntB 64 l = if -9223372036854775808 ≤ num l ∧ num l ≤ 9223372036854775807 then .ok (num l) else .range := by
  cases l with
  | nil => have := h.2.1; unfold mag at this; simp at this
  | cons c r =>
    have hx : (if c.toNat = 43 ∨ c.toNat = 45 then r else c :: r) = mag (c :: r) := by
      unfold mag
      by_cases e : c = 45
      · subst e; simp
      · have e45 : c.toNat ≠ 45 := fun h => e (UInt8.toNat_inj.1 h)
        have hm : mag (c :: r) = c :: r := by unfold mag; rw [if_neg (by simpa using e)]
        have hd := h.1 c (by rw [hm]; simp)
        rw [if_neg (by omega), if_neg (by simpa using e)]
    have hneg : (c.toNat = 45) ↔ (c :: r).head? = some 45 := by
      simp only [List.head?_cons, Option.some.injEq]
      exact ⟨fun h => UInt8.toNat_inj.1 h, fun h => by subst h; rfl⟩
    have hp := parseM (mag (c :: r)) 0 h.1 (by omega)
    simp only [parseIntB, hx]
    unfold parseUintB
    rw [if_neg h.2.1, show (2 ^ 64 - 1 : Nat) = 18446744073709551615 by decide, hp]
    unfold num
    by_cases b : val 0 (mag (c :: r)) ≤ 18446744073709551615
    · rw [if_pos b]
      simp only [show (2 ^ (64 - 1) : Nat) = 9223372036854775808 by decide]
      by_cases n : c.toNat = 45
      · rw [if_pos (hneg.1 n)]
        simp only [n, not_true, false_and, if_false, true_and, if_true]
        by_cases g : 9223372036854775808 < val 0 (mag (c :: r))
        · rw [if_pos g, if_neg (by omega)]
        · rw [if_neg g, if_pos (by omega)]
      · rw [if_neg (fun h => n (hneg.2 h))]
        simp only [n, not_false_eq_true, true_and, if_false, false_and]
        by_cases g : 9223372036854775808 ≤ val 0 (mag (c :: r))
        · rw [if_pos g, if_neg (by omega)]
        · rw [if_neg g, if_pos (by omega)]
    · rw [if_neg b]
      rw [if_neg]
      split <;> omega
theorem itoa_head (n : Int) : (itoa n).head? = some 45 ↔ n < 0 := by
  unfold itoa
  by_cases h : n < 0
  · rw [if_pos h]; simp [h]
  · rw [if_neg h]
    refine ⟨fun hc => ?_, fun hc => absurd hc h⟩
    cases hd : decDigits n.toNat with
    | nil => rw [hd] at hc; simp at hc
    | cons c r =>
      have := dec_digs n.toNat c (by rw [hd]; simp)
      rw [hd] at hc
      simp only [List.head?_cons, Option.some.injEq] at hc
      subst hc
      exact absurd this.1 (by decide)
theorem mag_len (l : List UInt8) : (mag l).length ≤ l.length := by
  unfold mag; split
  · simp
  · exact Nat.le_refl _
theorem digs_cons {c : UInt8} {t : List UInt8} : digs (c :: t) ↔ (48 ≤ c.toNat ∧ c.toNat ≤ 57) ∧ digs t := by simp [digs]
/-- What Read answers. -/
def readA (l : List UInt8) : Int × Int := if isNum l then fits (num l) else (0, 1)
end Go.Proofs.YtofedlghaopciaaGreatDoor.Dig
end
section
/- Package fix's products and quotients: what the printed functions compute, as plain arithmetic. -/
set_option linter.unusedVariables false
set_option linter.unusedSimpArgs false
namespace Go.Proofs.YtofedlghaopciaaGreatDoor.PureA
open Go.RowKit Go.Proofs.YtofedlghaopciaaGreatDoor.PA Go.Proofs.YtofedlghaopciaaGreatDoor.Num Go.Proofs.YtofedlghaopciaaGreatDoorW.PrintWords Go.Proofs.YtofedlghaopciaaGreatDoorW.PrintLast Go.Proofs.YtofedlghaopciaaGreatDoorW.PrintMore

theorem mul64_f {a b : Int} (ha0 : 0 ≤ a) (ha : a < 18446744073709551616) (hb0 : 0 ≤ b) (hb : b < 18446744073709551616) :
    bits_Mul64.f a b = some (a * b / 18446744073709551616, a * b % 18446744073709551616) := by
  unfold bits_Mul64.f
  have e := mul64_arith a b ha0 ha hb0 hb
  rw [and_mask32 ha0 ha, and_mask32 hb0 hb]
  simp only [IntKind.wrap_u64]
  rw [and_mask32 (Int.emod_nonneg _ (by omega)) (Int.emod_lt_of_pos _ (by omega)), e]

theorem size_f {a : Int} (h0 : -9223372036854775808 ≤ a) (h1 : a ≤ 9223372036854775807) : fix_size.f a = some (a.natAbs : Int) := by
  unfold fix_size.f
  simp only [IntKind.wrap_u64]
  split <;> (congr 1; omega)

theorem number_f (k : Nat) (neg : Bool) {hi lo : Int} (h0 : 0 ≤ hi) (l0 : 0 ≤ lo) (l1 : lo < 18446744073709551616) :
    fix_number.f (k + 1) neg hi lo = some (fits (if neg = true then -(hi * 18446744073709551616 + lo) else hi * 18446744073709551616 + lo)) := by
  unfold fix_number.f fits
  by_cases hh : hi = 0
  · subst hh
    cases neg
    · simp only [if_true, Bool.false_eq_true, if_false, fix_number.j0]
      by_cases hl : lo > 9223372036854775807
      · rw [if_pos (by simpa using hl), if_neg (by omega)]
      · rw [if_neg (by simpa using hl), if_pos (by omega), i64in (by omega) (by omega)]
        simp
    · simp only [if_true]
      by_cases hl : lo > 9223372036854775808
      · rw [if_pos hl]
        simp only [fix_number.j0]
        rw [if_pos (by simpa using hl), if_neg (by omega)]
      · rw [if_neg hl, if_pos (by omega)]
        simp only [fix_number.j0, Bool.false_eq_true, if_false, if_true, IntKind.wrap_u64]
        congr 2
        unfold wrap64
        omega
  · rw [if_neg hh]
    simp only [fix_number.j0]
    rw [if_pos (by simpa using hh), if_neg (by cases neg <;> simp <;> omega)]
end Go.Proofs.YtofedlghaopciaaGreatDoor.PureA
end
section
/- math/bits.Len64 and Div64: what the printed functions compute. -/
set_option linter.unusedVariables false
set_option linter.unusedSimpArgs false
namespace Go.Proofs.YtofedlghaopciaaGreatDoor.PureA
open Go.RowKit Go.Proofs.YtofedlghaopciaaGreatDoor.PA Go.Proofs.YtofedlghaopciaaGreatDoor.Num Go.Proofs.YtofedlghaopciaaGreatDoorW.PrintWords Go.Proofs.YtofedlghaopciaaGreatDoorW.PrintLast Go.Proofs.YtofedlghaopciaaGreatDoorW.PrintMore

theorem bt_get {s : ByteArray} {i : Int} (h : i.toNat < s.size) : bt s i = ((s[i.toNat]'h).toNat : Int) := by
  unfold bt; rw [dif_pos h]
theorem bitLen64 {n b : Nat} (h : n < 2 ^ b) : bitLen n ≤ b := by
  unfold bitLen
  split
  · omega
  · rename_i h0
    have := (Nat.log2_lt h0).2 h
    omega
theorem len_tab (s : ByteArray) (ht : ∀ i : Int, 0 ≤ i → i < 256 → bt s i = ((bitLen i.toNat : Nat) : Int)) (n z : Nat) (h : n < 4294967296) (hz : z ≤ 64) :
    (if (n : Int) ≥ 65536 then (if ((n : Int) / 65536) ≥ 256 then (if 0 ≤ ((((n : Int) / 65536) / 256) % 256) then (if ((((n : Int) / 65536) / 256) % 256) < 256 then (some (wrap64 ((wrap64 ((wrap64 ((z : Int) + 16)) + 8)) + (wrap64 (bt s ((((n : Int) / 65536) / 256) % 256)))))) else (none)) else (none))
      else (if 0 ≤ (((n : Int) / 65536) % 256) then (if (((n : Int) / 65536) % 256) < 256 then (some (wrap64 ((wrap64 ((z : Int) + 16)) + (wrap64 (bt s (((n : Int) / 65536) % 256)))))) else (none)) else (none)))
      else (if (n : Int) ≥ 256 then (if 0 ≤ (((n : Int) / 256) % 256) then (if (((n : Int) / 256) % 256) < 256 then (some (wrap64 ((wrap64 ((z : Int) + 8)) + (wrap64 (bt s (((n : Int) / 256) % 256)))))) else (none)) else (none))
      else (if 0 ≤ ((n : Int) % 256) then (if ((n : Int) % 256) < 256 then (some (wrap64 ((z : Int) + (wrap64 (bt s ((n : Int) % 256)))))) else (none)) else (none)))) = some ((z + bitLen n : Nat) : Int) := by
  by_cases h1 : (n : Int) ≥ 65536
  · rw [if_pos h1]
    by_cases h2 : (n : Int) / 65536 ≥ 256
    · rw [if_pos h2, if_pos (by omega), if_pos (by omega), ht _ (by omega) (by omega)]
      have e : ((n : Int) / 65536 / 256 % 256).toNat = n / 65536 / 256 := by omega
      have l := bitLen64 (n := n / 65536 / 256) (b := 8) (by omega)
      have s1 := bitLen_shift n 16 (by omega)
      have s2 := bitLen_shift (n / 2 ^ 16) 8 (by omega)
      rw [e]
      simp only [Nat.reducePow] at s1 s2
      rw [i64in (x := (z : Int) + 16) (by omega) (by omega), i64in (x := (z : Int) + 16 + 8) (by omega) (by omega), i64in (x := ((bitLen (n / 65536 / 256) : Nat) : Int)) (by omega) (by omega), i64in (x := (z : Int) + 16 + 8 + ((bitLen (n / 65536 / 256) : Nat) : Int)) (by omega) (by omega)]
      refine congrArg some ?_
      omega
    · rw [if_neg h2, if_pos (by omega), if_pos (by omega), ht _ (by omega) (by omega)]
      have e : ((n : Int) / 65536 % 256).toNat = n / 65536 := by omega
      have l := bitLen64 (n := n / 65536) (b := 8) (by omega)
      have s1 := bitLen_shift n 16 (by omega)
      rw [e]
      simp only [Nat.reducePow] at s1
      rw [i64in (x := (z : Int) + 16) (by omega) (by omega), i64in (x := ((bitLen (n / 65536) : Nat) : Int)) (by omega) (by omega), i64in (x := (z : Int) + 16 + ((bitLen (n / 65536) : Nat) : Int)) (by omega) (by omega)]
      refine congrArg some ?_
      omega
  · rw [if_neg h1]
    by_cases h2 : (n : Int) ≥ 256
    · rw [if_pos h2, if_pos (by omega), if_pos (by omega), ht _ (by omega) (by omega)]
      have e : ((n : Int) / 256 % 256).toNat = n / 256 := by omega
      have l := bitLen64 (n := n / 256) (b := 8) (by omega)
      have s1 := bitLen_shift n 8 (by omega)
      rw [e]
      simp only [Nat.reducePow] at s1
      rw [i64in (x := (z : Int) + 8) (by omega) (by omega), i64in (x := ((bitLen (n / 256) : Nat) : Int)) (by omega) (by omega), i64in (x := (z : Int) + 8 + ((bitLen (n / 256) : Nat) : Int)) (by omega) (by omega)]
      refine congrArg some ?_
      omega
    · rw [if_neg h2, if_pos (by omega), if_pos (by omega), ht _ (by omega) (by omega)]
      have e : ((n : Int) % 256).toNat = n := by omega
      have l := bitLen64 (n := n) (b := 8) (by omega)
      rw [e]
      rw [i64in (x := ((bitLen (n) : Nat) : Int)) (by omega) (by omega), i64in (x := (z : Int) + ((bitLen (n) : Nat) : Int)) (by omega) (by omega)]
      refine congrArg some ?_
      omega
set_option maxRecDepth 1000000 in
theorem len_j (k : Nat) (n z : Nat) (h : n < 4294967296) (hz : z ≤ 64) : bits_Len64.j0 (k + 1) n z = some ((z + bitLen n : Nat) : Int) := by
  rw [bits_Len64.j0]
  exact len_tab _ (fun i h0 h1 => (bt_get (show i.toNat < _ by show i.toNat < 256; omega)).trans (congrArg Nat.cast (len8tab_get _ _))) n z h hz
theorem len64_f (k : Nat) (n : Nat) (h : n < 18446744073709551616) : bits_Len64.f (k + 1) n = some ((bitLen n : Nat) : Int) := by
  unfold bits_Len64.f
  by_cases h1 : (n : Int) ≥ 4294967296
  · rw [if_pos h1]
    have e : (n : Int) / 4294967296 = ((n / 4294967296 : Nat) : Int) := by omega
    rw [e, show (32 : Int) = ((32 : Nat) : Int) by rfl, len_j k _ 32 (by omega) (by omega)]
    have s1 := bitLen_shift n 32 (by simp only [Nat.reducePow]; omega)
    simp only [Nat.reducePow] at s1
    rw [s1]
  · rw [if_neg h1, show (0 : Int) = ((0 : Nat) : Int) by rfl, len_j k _ 0 (by omega) (by omega), Nat.zero_add]

/-! ### Div64: the second digit -/
section
variable {y s yn1 yn0 U u0 q1 : Int}
theorem l1_ends (hy : y = yn1 * 4294967296 + yn0) (h0 : 0 ≤ yn0) (h1 : yn0 < 4294967296) (hn0 : 2147483648 ≤ yn1) (hn1 : yn1 < 4294967296) (hU0 : 0 ≤ U) (hU : U < y) (hu0 : 0 ≤ u0) (hu1 : u0 < 4294967296) (hs : 0 ≤ s) :
    ∀ (d : Nat) (rhat q : Int), 4294967296 ≤ rhat + d * yn1 → 0 ≤ rhat → rhat < 4294967296 → q * yn1 + rhat = U → 0 ≤ q → q ≤ 4294967297 → (U * 4294967296 + u0) / y ≤ q →
    Ev (fun k => bits_Div64.l1 k y s yn1 yn0 u0 q1 rhat U q) (IntKind.u64.wrap (IntKind.u64.wrap (q1 * 4294967296) + (U * 4294967296 + u0) / y), shr .u64 (IntKind.u64.wrap (IntKind.u64.wrap (IntKind.u64.wrap (U * 4294967296) + u0) - IntKind.u64.wrap ((U * 4294967296 + u0) / y * y))) s) := by
  have hy0 : 0 < y := by omega
  intro d
  induction d with
  | zero => intro rhat q hd; simp at hd; omega
  | succ d ih =>
    intro rhat q hd hr0 hr1 hq hq0 hq1 hQ
    have hb : yn1 * (d + 1 : Nat) = yn1 * d + yn1 := by rw [Int.natCast_add, Int.mul_add]; simp
    have dec : (U * 4294967296 + u0) / y < q → Ev (fun k => bits_Div64.j4 k y s yn1 yn0 u0 q1 rhat U q true) (IntKind.u64.wrap (IntKind.u64.wrap (q1 * 4294967296) + (U * 4294967296 + u0) / y), shr .u64 (IntKind.u64.wrap (IntKind.u64.wrap (IntKind.u64.wrap (U * 4294967296) + u0) - IntKind.u64.wrap ((U * 4294967296 + u0) / y * y))) s) := by
      intro hlt
      have hQ0 : 0 ≤ (U * 4294967296 + u0) / y := Int.ediv_nonneg (by omega) (by omega)
      refine Ev.shift ?_
      simp only [bits_Div64.j4, if_true]
      have e1 : IntKind.u64.wrap (rhat + yn1) = rhat + yn1 := w64 (by omega) (by omega)
      have e2 : IntKind.u64.wrap (q - 1) = q - 1 := w64 (by omega) (by omega)
      rw [e1, e2]
      by_cases hbr : rhat + yn1 ≥ 4294967296
      · have hle : (q - 1) * yn0 ≤ 4294967296 * 4294967295 := Int.mul_le_mul (by omega) (by omega) h0 (by omega)
        have hlow : (q - 1) * y ≤ U * 4294967296 + u0 := digit_low hy (rhat := rhat + yn1) (by rw [Int.sub_mul]; omega) (by omega)
        have := Int.le_ediv_of_mul_le hy0 hlow
        have e : q - 1 = (U * 4294967296 + u0) / y := by omega
        rw [e]
        simp only [if_pos hbr, if_pos hs]
        exact Ev.now _
      · simp only [if_neg hbr]
        refine ih (rhat + yn1) (q - 1) ?_ (by omega) (by omega) (by rw [Int.sub_mul]; omega) (by omega) (by omega) (by omega)
        rw [Int.mul_comm] at hd
        rw [Int.mul_comm (d : Int)]
        omega
    refine Ev.shift ?_
    simp only [bits_Div64.l1]
    by_cases hB : q ≥ 4294967296
    · simp only [if_pos hB]
      exact dec (by have := digit_lt hy0 hU hu1; omega)
    · simp only [if_neg hB]
      have hm : q * yn0 ≤ 4294967295 * 4294967295 := Int.mul_le_mul (by omega) (by omega) h0 (by omega)
      have hm0 : 0 ≤ q * yn0 := Int.mul_nonneg hq0 h0
      have e1 : IntKind.u64.wrap (q * yn0) = q * yn0 := w64 hm0 (by omega)
      have e2 : IntKind.u64.wrap (4294967296 * rhat) = 4294967296 * rhat := w64 (by omega) (by omega)
      have e3 : IntKind.u64.wrap (4294967296 * rhat + u0) = 4294967296 * rhat + u0 := w64 (by omega) (by omega)
      rw [e1, e2, e3]
      by_cases ht : q * yn0 > 4294967296 * rhat + u0
      · rw [decide_eq_true ht]
        refine dec ?_
        have := digit_high hy hq ht
        have := Int.ediv_lt_of_lt_mul hy0 this
        omega
      · rw [decide_eq_false ht]
        have hlow := digit_low (u1 := u0) hy hq (by omega)
        have := Int.le_ediv_of_mul_le hy0 hlow
        have e : q = (U * 4294967296 + u0) / y := by omega
        refine Ev.shift ?_
        simp only [bits_Div64.j4, Bool.false_eq_true, if_false, if_pos hs]
        rw [e]
        exact Ev.now _
/-! ### The first digit -/
theorem l0_ends {u1 : Int} {r : Int × Int} (hy : y = yn1 * 4294967296 + yn0) (h0 : 0 ≤ yn0) (h1 : yn0 < 4294967296) (hn0 : 2147483648 ≤ yn1) (hn1 : yn1 < 4294967296) (hU0 : 0 ≤ U) (hU : U < y) (hu0 : 0 ≤ u1) (hu1 : u1 < 4294967296)
    (hK : Ev (fun k => bits_Div64.j2 k y s yn1 yn0 U u1 u0 ((U * 4294967296 + u1) / y)) r) :
    ∀ (d : Nat) (rhat q : Int), 4294967296 ≤ rhat + d * yn1 → 0 ≤ rhat → rhat < 4294967296 → q * yn1 + rhat = U → 0 ≤ q → q ≤ 4294967297 → (U * 4294967296 + u1) / y ≤ q →
    Ev (fun k => bits_Div64.l0 k y s yn1 yn0 U u1 u0 q rhat) r := by
  have hy0 : 0 < y := by omega
  intro d
  induction d with
  | zero => intro rhat q hd; simp at hd; omega
  | succ d ih =>
    intro rhat q hd hr0 hr1 hq hq0 hq1 hQ
    have hb : yn1 * (d + 1 : Nat) = yn1 * d + yn1 := by rw [Int.natCast_add, Int.mul_add]; simp
    have dec : (U * 4294967296 + u1) / y < q → Ev (fun k => bits_Div64.j1 k y s yn1 yn0 U u1 u0 q rhat true) r := by
      intro hlt
      have hQ0 : 0 ≤ (U * 4294967296 + u1) / y := Int.ediv_nonneg (by omega) (by omega)
      refine Ev.shift ?_
      simp only [bits_Div64.j1, if_true]
      have e1 : IntKind.u64.wrap (rhat + yn1) = rhat + yn1 := w64 (by omega) (by omega)
      have e2 : IntKind.u64.wrap (q - 1) = q - 1 := w64 (by omega) (by omega)
      rw [e1, e2]
      by_cases hbr : rhat + yn1 ≥ 4294967296
      · have hle : (q - 1) * yn0 ≤ 4294967296 * 4294967295 := Int.mul_le_mul (by omega) (by omega) h0 (by omega)
        have hlow : (q - 1) * y ≤ U * 4294967296 + u1 := digit_low hy (rhat := rhat + yn1) (by rw [Int.sub_mul]; omega) (by omega)
        have := Int.le_ediv_of_mul_le hy0 hlow
        have e : q - 1 = (U * 4294967296 + u1) / y := by omega
        rw [e]
        simp only [if_pos hbr]
        exact hK
      · simp only [if_neg hbr]
        refine ih (rhat + yn1) (q - 1) ?_ (by omega) (by omega) (by rw [Int.sub_mul]; omega) (by omega) (by omega) (by omega)
        rw [Int.mul_comm] at hd
        rw [Int.mul_comm (d : Int)]
        omega
    refine Ev.shift ?_
    simp only [bits_Div64.l0]
    by_cases hB : q ≥ 4294967296
    · simp only [if_pos hB]
      exact dec (by have := digit_lt hy0 hU hu1; omega)
    · simp only [if_neg hB]
      have hm : q * yn0 ≤ 4294967295 * 4294967295 := Int.mul_le_mul (by omega) (by omega) h0 (by omega)
      have hm0 : 0 ≤ q * yn0 := Int.mul_nonneg hq0 h0
      have e1 : IntKind.u64.wrap (q * yn0) = q * yn0 := w64 hm0 (by omega)
      have e2 : IntKind.u64.wrap (4294967296 * rhat) = 4294967296 * rhat := w64 (by omega) (by omega)
      have e3 : IntKind.u64.wrap (4294967296 * rhat + u1) = 4294967296 * rhat + u1 := w64 (by omega) (by omega)
      rw [e1, e2, e3]
      by_cases ht : q * yn0 > 4294967296 * rhat + u1
      · rw [decide_eq_true ht]
        refine dec ?_
        have := digit_high hy hq ht
        have := Int.ediv_lt_of_lt_mul hy0 this
        omega
      · rw [decide_eq_false ht]
        have hlow := digit_low (u1 := u1) hy hq (by omega)
        have := Int.le_ediv_of_mul_le hy0 hlow
        have e : q = (U * 4294967296 + u1) / y := by omega
        refine Ev.shift ?_
        simp only [bits_Div64.j1, Bool.false_eq_true, if_false]
        rw [e]
        exact hK
end
/-- The first guess. -/
theorem guess {U u1 y yn1 yn0 : Int} (hy : y = yn1 * 4294967296 + yn0) (h0 : 0 ≤ yn0) (h1 : yn0 < 4294967296) (hn0 : 2147483648 ≤ yn1) (hU0 : 0 ≤ U) (hU : U < y) (hu0 : 0 ≤ u1) (hu1 : u1 < 4294967296) :
    (U / yn1) * yn1 + (U - U / yn1 * yn1) = U ∧ 0 ≤ U - U / yn1 * yn1 ∧ U - U / yn1 * yn1 < yn1 ∧ 0 ≤ U / yn1 ∧ U / yn1 ≤ 4294967297 ∧ (U * 4294967296 + u1) / y ≤ U / yn1 := by
  have a := Int.emod_add_mul_ediv U yn1
  have b := Int.emod_nonneg U (show yn1 ≠ 0 by omega)
  have c := Int.emod_lt_of_pos U (show 0 < yn1 by omega)
  rw [Int.mul_comm] at a
  have d : 0 ≤ U / yn1 := Int.ediv_nonneg hU0 (by omega)
  refine ⟨by omega, by omega, by omega, d, ?_, ?_⟩
  · have : U / yn1 < 4294967298 := Int.ediv_lt_of_lt_mul (by omega) (by omega)
    omega
  · have : (U * 4294967296 + u1) / y < U / yn1 + 1 := by
      refine Int.ediv_lt_of_lt_mul (by omega) ?_
      have e : (U / yn1 + 1) * y = (U / yn1 + 1) * yn1 * 4294967296 + (U / yn1 + 1) * yn0 := by rw [hy, Int.mul_add, Int.mul_assoc]
      have f : 0 ≤ (U / yn1 + 1) * yn0 := Int.mul_nonneg (by omega) h0
      have g : (U / yn1 + 1) * yn1 = U / yn1 * yn1 + yn1 := by rw [Int.add_mul]; omega
      rw [e]
      omega
    omega
/-- Both digits, of a normed divisor. -/
theorem two_digits {y U u1 u0 : Int} (hy0 : 0 < y) :
    ((U * 4294967296 + u1) / y * 4294967296 + ((U * 4294967296 + u1 - (U * 4294967296 + u1) / y * y) * 4294967296 + u0) / y) * y + ((U * 4294967296 + u1 - (U * 4294967296 + u1) / y * y) * 4294967296 + u0 - ((U * 4294967296 + u1 - (U * 4294967296 + u1) / y * y) * 4294967296 + u0) / y * y) = U * 18446744073709551616 + (u1 * 4294967296 + u0) := by
  generalize (U * 4294967296 + u1) / y = Q1
  generalize ((U * 4294967296 + u1 - Q1 * y) * 4294967296 + u0) / y = Q0
  rw [Int.add_mul, Int.mul_right_comm]
  omega
theorem rest_bounds {n y : Int} (hy0 : 0 < y) : 0 ≤ n - n / y * y ∧ n - n / y * y < y := by
  have a := Int.emod_add_mul_ediv n y
  have b := Int.emod_nonneg n (show y ≠ 0 by omega)
  have c := Int.emod_lt_of_pos n hy0
  rw [Int.mul_comm] at a
  omega
end Go.Proofs.YtofedlghaopciaaGreatDoor.PureA
end
section
/- math/bits.Div64, fix.MulDiv and the reference's: the quotient of a product, half up. -/
set_option linter.unusedVariables false
set_option linter.unusedSimpArgs false
namespace Go.Proofs.YtofedlghaopciaaGreatDoor.PureA
open Go.RowKit Go.Proofs.YtofedlghaopciaaGreatDoor.PA Go.Proofs.YtofedlghaopciaaGreatDoor.Num Go.Proofs.YtofedlghaopciaaGreatDoorW.PrintWords Go.Proofs.YtofedlghaopciaaGreatDoorW.PrintLast Go.Proofs.YtofedlghaopciaaGreatDoorW.PrintMore

/-- From the first digit on: both digits of the quotient by a normed divisor. -/
theorem digits_ends {y s yn1 yn0 U u1 u0 : Int} (hy : y = yn1 * 4294967296 + yn0) (h0 : 0 ≤ yn0) (h1 : yn0 < 4294967296) (hn0 : 2147483648 ≤ yn1) (hn1 : yn1 < 4294967296) (hU0 : 0 ≤ U) (hU : U < y)
    (hu10 : 0 ≤ u1) (hu11 : u1 < 4294967296) (hu0 : 0 ≤ u0) (hu1 : u0 < 4294967296) (hs0 : 0 ≤ s) (hs : s ≤ 64) :
    Ev (fun k => bits_Div64.l0 k y s yn1 yn0 U u1 u0 (U / yn1) (U - U / yn1 * yn1))
      ((U * 18446744073709551616 + (u1 * 4294967296 + u0)) / y, ((U * 18446744073709551616 + (u1 * 4294967296 + u0)) % y) / 2 ^ s.toNat) := by
  have hy0 : 0 < y := by omega
  have hyM : y < 18446744073709551616 := by omega
  obtain ⟨g1, g2, g3, g4, g5, g6⟩ := guess (u1 := u1) hy h0 h1 hn0 hU0 hU hu10 hu11
  refine l0_ends hy h0 h1 hn0 hn1 hU0 hU hu10 hu11 ?_ 2 _ _ (by omega) g2 (by omega) g1 g4 g5 g6
  have r1 := rest_bounds (n := U * 4294967296 + u1) hy0
  have q1lt := digit_lt hy0 hU hu11
  have q1ge : 0 ≤ (U * 4294967296 + u1) / y := Int.ediv_nonneg (by omega) (by omega)
  have r2 := rest_bounds (n := (U * 4294967296 + u1 - (U * 4294967296 + u1) / y * y) * 4294967296 + u0) hy0
  have q0lt := digit_lt (u1 := u0) hy0 r1.2 hu1
  have q0ge : 0 ≤ ((U * 4294967296 + u1 - (U * 4294967296 + u1) / y * y) * 4294967296 + u0) / y := Int.ediv_nonneg (by omega) (by omega)
  have two := two_digits (U := U) (u1 := u1) (u0 := u0) hy0
  generalize hQ1 : (U * 4294967296 + u1) / y = Q1 at *
  generalize hR1 : U * 4294967296 + u1 - Q1 * y = R1 at *
  generalize hQ0 : (R1 * 4294967296 + u0) / y = Q0 at *
  generalize hR0 : R1 * 4294967296 + u0 - Q0 * y = R0 at *
  have hq : (U * 18446744073709551616 + (u1 * 4294967296 + u0)) / y = Q1 * 4294967296 + Q0 := by
    refine (quot_is hy0 ?_ ?_).symm
    · omega
    · rw [Int.add_mul (Q1 * 4294967296 + Q0) 1 y]; omega
  have hr : (U * 18446744073709551616 + (u1 * 4294967296 + u0)) % y = R0 := by
    have a := Int.emod_add_mul_ediv (U * 18446744073709551616 + (u1 * 4294967296 + u0)) y
    rw [hq, Int.mul_comm y] at a
    omega
  rw [hq, hr]
  refine Ev.shift ?_
  simp only [bits_Div64.j2, if_neg (show ¬ yn1 = 0 by omega)]
  have e21 : IntKind.u64.wrap ((IntKind.u64.wrap ((IntKind.u64.wrap (U * 4294967296)) + u1)) - (IntKind.u64.wrap (Q1 * y))) = R1 := by
    simp only [IntKind.wrap_u64]
    generalize Q1 * y = z at *
    omega
  rw [e21]
  obtain ⟨g1, g2, g3, g4, g5, g6⟩ := guess (u1 := u0) hy h0 h1 hn0 r1.1 r1.2 hu0 hu1
  have et : Int.tdiv R1 yn1 = R1 / yn1 := Int.tdiv_eq_ediv_of_nonneg r1.1
  have ew : IntKind.u64.wrap (Int.tdiv R1 yn1) = R1 / yn1 := by rw [et]; exact w64 g4 (by omega)
  have er : IntKind.u64.wrap (R1 - IntKind.u64.wrap (R1 / yn1 * yn1)) = R1 - R1 / yn1 * yn1 := by
    simp only [IntKind.wrap_u64]
    generalize R1 / yn1 * yn1 = z at *
    omega
  rw [ew, er]
  have fin := l1_ends (q1 := Q1) hy h0 h1 hn0 hn1 r1.1 r1.2 hu0 hu1 hs0 2 _ _ (by omega) g2 (by omega) g1 g4 g5 g6
  rw [hQ0] at fin
  have f1 : IntKind.u64.wrap (IntKind.u64.wrap (Q1 * 4294967296) + Q0) = Q1 * 4294967296 + Q0 := by
    simp only [IntKind.wrap_u64]
    omega
  have f2 : IntKind.u64.wrap (IntKind.u64.wrap (IntKind.u64.wrap (R1 * 4294967296) + u0) - IntKind.u64.wrap (Q0 * y)) = R0 := by
    simp only [IntKind.wrap_u64]
    generalize Q0 * y = z at *
    omega
  rw [f1, f2, shr64 hs0 hs] at fin
  exact fin

theorem lead_f (k : Nat) (n : Nat) (h : n < 18446744073709551616) : bits_LeadingZeros64.f (k + 1) n = some ((64 : Int) - (bitLen n : Nat)) := by
  unfold bits_LeadingZeros64.f
  have := bitLen64 (n := n) (b := 64) (by simpa using h)
  rw [len64_f k n h]
  simp only [Option.bind_some]
  rw [i64in (by omega) (by omega)]

theorem tmodn {x m : Int} (h : 0 ≤ x) : Int.tmod x m = x % m := Int.tmod_eq_emod_of_nonneg h

theorem pow_split (s : Nat) (h : s ≤ 64) : (2 : Int) ^ s * 2 ^ (64 - s) = 18446744073709551616 := by
  rw [← Int.pow_add, show s + (64 - s) = 64 by omega]; rfl

theorem div64_f {hi lo y : Int} (h0 : 0 ≤ hi) (l0 : 0 ≤ lo) (l1 : lo < 18446744073709551616) (hy : hi < y) (hyM : y < 18446744073709551616) :
    Ev (fun k => bits_Div64.f k hi lo y) ((hi * 18446744073709551616 + lo) / y, (hi * 18446744073709551616 + lo) % y) := by
  have hy0 : 0 < y := by omega
  unfold bits_Div64.f
  simp only [if_neg (show ¬ y = 0 by omega), if_neg (show ¬ y ≤ hi by omega)]
  by_cases hz : hi = 0
  · subst hz
    simp only [if_true]
    refine Ev.ofEq ?_
    have a : 0 ≤ lo / y := Int.ediv_nonneg l0 (by omega)
    have b : lo / y ≤ lo := Int.ediv_le_self _ l0
    rw [Int.tdiv_eq_ediv_of_nonneg l0, tmodn l0, w64 a (by omega)]
    simp
  · simp only [if_neg hz]
    obtain ⟨n, rfl⟩ := Int.eq_ofNat_of_zero_le (show 0 ≤ y by omega)
    have hnM : n < 18446744073709551616 := by omega
    have hb := bitLen_spec n
    have hb64 := bitLen64 (n := n) (b := 64) (by simpa using hnM)
    have hb1 : 1 ≤ bitLen n := by unfold bitLen; rw [if_neg (by omega)]; omega
    refine Ev.shift ?_
    simp only [lead_f _ n hnM, Option.bind_some]
    have hs : ∃ s : Nat, s = 64 - bitLen n ∧ s < 64 := ⟨_, rfl, by omega⟩
    obtain ⟨s, hse, hs64⟩ := hs
    have es : (64 : Int) - (bitLen n : Nat) = (s : Nat) := by omega
    rw [es]
    have ews : IntKind.u64.wrap ((s : Nat) : Int) = (s : Int) := w64 (by omega) (by omega)
    have ews2 : IntKind.u64.wrap (64 - (s : Int)) = ((64 - s : Nat) : Int) := by rw [w64 (by omega) (by omega)]; omega
    rw [ews, ews2]
    simp only [if_pos (show (0 : Int) ≤ (s : Int) by omega), if_pos (show (0 : Int) ≤ ((64 - s : Nat) : Int) by omega)]
    -- the powers
    have hp := pow_split s (by omega)
    have hS0 : (0 : Int) < 2 ^ s := Int.pow_pos (by omega)
    have hT0 : (0 : Int) < 2 ^ (64 - s) := Int.pow_pos (by omega)
    have hlt : (n : Int) < 2 ^ (64 - s) := by
      have h1 := hb.1
      rw [show bitLen n = 64 - s by omega] at h1
      exact_mod_cast h1
    have hge : (2 : Int) ^ 63 ≤ n * 2 ^ s := by
      have h1 := hb.2 (by omega)
      rw [show bitLen n - 1 = 63 - s by omega] at h1
      have h2 : (2 : Int) ^ (63 - s) ≤ n := by exact_mod_cast h1
      have h3 : (2 : Int) ^ 63 = 2 ^ (63 - s) * 2 ^ s := by rw [← Int.pow_add, show 63 - s + s = 63 by omega]
      rw [h3]
      exact Int.mul_le_mul_of_nonneg_right h2 (by omega)
    have hyS : (n : Int) * 2 ^ s < 18446744073709551616 := by
      rw [← hp, Int.mul_comm (2 ^ s)]
      exact Int.mul_lt_mul_of_pos_right hlt hS0
    have hhS : hi * 2 ^ s < n * 2 ^ s := Int.mul_lt_mul_of_pos_right hy hS0
    have hhS0 : 0 ≤ hi * 2 ^ s := Int.mul_nonneg h0 (by omega)
    have esl : ∀ x : Int, shl .u64 x (s : Int) = (x * 2 ^ s) % 18446744073709551616 := fun x => by rw [shl64 (by omega) (by omega)]; simp
    have esr : shr .u64 lo ((64 - s : Nat) : Int) = lo / 2 ^ (64 - s) := by rw [shr64 (by omega) (by omega)]; simp
    have hq0 : 0 ≤ lo / 2 ^ (64 - s) := Int.ediv_nonneg l0 (by omega)
    have hq1 : lo / 2 ^ (64 - s) < 2 ^ s := Int.ediv_lt_of_lt_mul hT0 (by rw [hp]; exact l1)
    have hlo := Int.emod_add_mul_ediv lo (2 ^ (64 - s))
    have hm0 := Int.emod_nonneg lo (show (2 : Int) ^ (64 - s) ≠ 0 by omega)
    have hm1 := Int.emod_lt_of_pos lo hT0
    -- lo shifted: what leaves, and what stays
    have hloS : lo * 2 ^ s = lo / 2 ^ (64 - s) * 18446744073709551616 + lo % 2 ^ (64 - s) * 2 ^ s := by
      have : lo * 2 ^ s = (lo % 2 ^ (64 - s) + 2 ^ (64 - s) * (lo / 2 ^ (64 - s))) * 2 ^ s := by rw [hlo]
      rw [this, Int.add_mul, Int.mul_right_comm, Int.mul_comm (2 ^ (64 - s)) (2 ^ s), hp, Int.mul_comm (18446744073709551616 : Int)]
      omega
    have hst0 : 0 ≤ lo % 2 ^ (64 - s) * 2 ^ s := Int.mul_nonneg hm0 (by omega)
    have hst1 : lo % 2 ^ (64 - s) * 2 ^ s < 18446744073709551616 := by
      rw [← hp, Int.mul_comm (2 ^ s)]
      exact Int.mul_lt_mul_of_pos_right hm1 hS0
    have e10 : shl .u64 lo (s : Int) = lo % 2 ^ (64 - s) * 2 ^ s := by rw [esl, hloS]; omega
    have eY : shl .u64 (n : Int) (s : Int) = n * 2 ^ s := by rw [esl]; exact Int.emod_eq_of_lt (Int.mul_nonneg (by omega) (by omega)) hyS
    have eH : shl .u64 hi (s : Int) = hi * 2 ^ s := by rw [esl]; exact Int.emod_eq_of_lt hhS0 (by omega)
    have hMs : (2 : Int) ^ s ≤ 18446744073709551616 := by
      rw [← hp]
      have : (2 : Int) ^ s * 1 ≤ 2 ^ s * 2 ^ (64 - s) := Int.mul_le_mul_of_nonneg_left (by omega) (by omega)
      omega
    have eU : Go.bits .or .u64 (hi * 2 ^ s) (lo / 2 ^ (64 - s)) = hi * 2 ^ s + lo / 2 ^ (64 - s) :=
      or_join s hhS0 (by omega) (Int.mul_emod_left ..) hq0 (by omega) hq1
    rw [e10, eY, eH, esr, eU]
    have hU : hi * 2 ^ s + lo / 2 ^ (64 - s) < n * 2 ^ s := by
      have : (hi + 1) * 2 ^ s ≤ n * 2 ^ s := Int.mul_le_mul_of_nonneg_right (by omega) (by omega)
      rw [Int.add_mul] at this
      omega
    have all : (hi * 2 ^ s + lo / 2 ^ (64 - s)) * 18446744073709551616 + lo % 2 ^ (64 - s) * 2 ^ s = (hi * 18446744073709551616 + lo) * 2 ^ s := by
      rw [Int.add_mul, Int.add_mul, hloS, Int.mul_right_comm]
      omega
    have eqq : (hi * 18446744073709551616 + lo) * 2 ^ s / (n * 2 ^ s) = (hi * 18446744073709551616 + lo) / n := Int.mul_ediv_mul_of_pos_left _ _ hS0
    have eqr : (hi * 18446744073709551616 + lo) * 2 ^ s % (n * 2 ^ s) / 2 ^ s = (hi * 18446744073709551616 + lo) % n := by
      rw [Int.mul_comm _ (2 ^ s), Int.mul_comm (n : Int) (2 ^ s), Int.mul_emod_mul_of_pos _ _ hS0, Int.mul_ediv_cancel_left _ (by omega)]
    have hU0 : 0 ≤ hi * 2 ^ s + lo / 2 ^ (64 - s) := by omega
    have h63 : (2 : Int) ^ 63 = 9223372036854775808 := by rfl
    rw [h63] at hge
    generalize (n : Int) * 2 ^ s = Y at *
    generalize hi * 2 ^ s + lo / 2 ^ (64 - s) = U at *
    generalize lo % 2 ^ (64 - s) * 2 ^ s = L at *
    have key := digits_ends (s := (s : Int)) (y := Y) (yn1 := Y / 4294967296) (yn0 := Y % 4294967296) (U := U) (u1 := L / 4294967296) (u0 := L % 4294967296) (by omega) (by omega) (by omega) (by omega) (by omega) (by omega) hU (by omega) (by omega) (by omega) (by omega) (by omega) (by omega)
    have eL : L / 4294967296 * 4294967296 + L % 4294967296 = L := by omega
    rw [eL, all, eqq, show ((s : Int)).toNat = s by simp, eqr] at key
    rw [and_mask32 (x := Y) (by omega) (by omega), and_mask32 (x := L) (by omega) (by omega)]
    simp only [if_neg (show ¬ Y / 4294967296 = 0 by omega)]
    have et : Int.tdiv U (Y / 4294967296) = U / (Y / 4294967296) := Int.tdiv_eq_ediv_of_nonneg hU0
    obtain ⟨g1, g2, g3, g4, g5, g6⟩ := guess (y := Y) (yn1 := Y / 4294967296) (yn0 := Y % 4294967296) (U := U) (u1 := L / 4294967296) (by omega) (by omega) (by omega) (by omega) hU0 hU (by omega) (by omega)
    have ew : IntKind.u64.wrap (Int.tdiv U (Y / 4294967296)) = U / (Y / 4294967296) := by rw [et]; exact w64 g4 (by omega)
    have er : IntKind.u64.wrap (U - IntKind.u64.wrap (U / (Y / 4294967296) * (Y / 4294967296))) = U - U / (Y / 4294967296) * (Y / 4294967296) := by
      simp only [IntKind.wrap_u64]
      generalize U / (Y / 4294967296) * (Y / 4294967296) = z at *
      omega
    rw [ew, er]
    exact Ev.later key
end Go.Proofs.YtofedlghaopciaaGreatDoor.PureA
end
section
/- The reference's products and signs: what the printed functions compute, as plain arithmetic. -/
set_option linter.unusedVariables false
set_option linter.unusedSimpArgs false
namespace Go.Proofs.YtofedlghaopciaaGreatDoor.PureA
open Go.RowKit Go.Proofs.YtofedlghaopciaaGreatDoor.PA Go.Proofs.YtofedlghaopciaaGreatDoor.Num Go.Proofs.YtofedlghaopciaaGreatDoorW.PrintWords Go.Proofs.YtofedlghaopciaaGreatDoorW.PrintLast Go.Proofs.YtofedlghaopciaaGreatDoorW.PrintMore

theorem signed_f (k : Nat) (neg : Bool) {hi lo : Int} (h0 : 0 ≤ hi) (l0 : 0 ≤ lo) (l1 : lo < 18446744073709551616) :
    pylonref01_signed.f (k + 1) neg hi lo = some (fits (if neg = true then -(hi * 18446744073709551616 + lo) else hi * 18446744073709551616 + lo)) := by
  unfold pylonref01_signed.f fits
  by_cases hh : hi = 0
  · subst hh
    cases neg
    · simp only [if_true, Bool.false_eq_true, if_false]
      by_cases hl : lo ≥ 9223372036854775808
      · rw [if_pos hl]
        simp only [pylonref01_signed.j0, if_true]
        rw [if_neg (by omega)]
      · rw [if_neg hl, if_pos (by omega)]
        simp only [pylonref01_signed.j0, Bool.false_eq_true, if_false]
        rw [i64in (by omega) (by omega)]
        simp
    · simp only [if_true, pylonref01_signed.j0]
      by_cases hl : lo > 9223372036854775808
      · rw [if_pos (by simpa using hl), if_neg (by omega)]
      · rw [if_neg (by simpa using hl)]
        have hf : (if -9223372036854775808 ≤ -(0 * 18446744073709551616 + lo) ∧ -(0 * 18446744073709551616 + lo) ≤ 9223372036854775807 then (-(0 * 18446744073709551616 + lo), (0 : Int)) else (0, 5)) = (-lo, 0) := by rw [if_pos (by omega)]; simp
        rw [hf]
        split
        · simp only [IntKind.wrap_u64]
          congr 2
          unfold wrap64
          omega
        · congr 2
          unfold wrap64
          omega
  · rw [if_neg hh]
    simp only [pylonref01_signed.j0, if_true]
    rw [if_neg (by cases neg <;> simp <;> omega)]

theorem mag_f {a : Int} (h0 : -9223372036854775808 ≤ a) (h1 : a ≤ 9223372036854775807) : pylonref01_mag.f a = some (a.natAbs : Int) := by
  unfold pylonref01_mag.f
  simp only [IntKind.wrap_u64]
  split
  · congr 1
    rw [i64in (x := a + 1) (by omega) (by omega), i64in (by omega) (by omega)]
    omega
  · congr 1
    omega

theorem product_f {a b : Int} (ha0 : 0 ≤ a) (ha : a < 18446744073709551616) (hb0 : 0 ≤ b) (hb : b < 18446744073709551616) :
    pylonref01_product.f a b = some (a * b / 18446744073709551616, a * b % 18446744073709551616) := by
  unfold pylonref01_product.f
  simp only [IntKind.wrap_u64]
  have t : ∀ x m : Int, 0 ≤ x → Int.tmod x m = x % m := fun x m h => Int.tmod_eq_emod_of_nonneg h
  simp only [t a _ ha0, t b _ hb0]
  have t2 : ∀ x : Int, Int.tmod (x % 18446744073709551616) 4294967296 = x % 18446744073709551616 % 4294967296 := fun x => t _ _ (Int.emod_nonneg _ (by omega))
  simp only [t2]
  have ex : a = a / 4294967296 * 4294967296 + a % 4294967296 := by omega
  have ey : b = b / 4294967296 * 4294967296 + b % 4294967296 := by omega
  generalize hx1 : a / 4294967296 = x1 at *
  generalize hx0 : a % 4294967296 = x0 at *
  generalize hy1 : b / 4294967296 = y1 at *
  generalize hy0 : b % 4294967296 = y0 at *
  have b1 : 0 ≤ x1 ∧ x1 ≤ 4294967295 := by omega
  have b2 : 0 ≤ x0 ∧ x0 ≤ 4294967295 := by omega
  have b3 : 0 ≤ y1 ∧ y1 ≤ 4294967295 := by omega
  have b4 : 0 ≤ y0 ∧ y0 ≤ 4294967295 := by omega
  have p11 := prod_bound x1 y1 b1.1 b1.2 b3.1 b3.2
  have p10 := prod_bound x1 y0 b1.1 b1.2 b4.1 b4.2
  have p01 := prod_bound x0 y1 b2.1 b2.2 b3.1 b3.2
  have p00 := prod_bound x0 y0 b2.1 b2.2 b4.1 b4.2
  have e : a * b = x1 * y1 * 18446744073709551616 + (x1 * y0 + x0 * y1) * 4294967296 + x0 * y0 := by rw [ex, ey, split_mul]
  rw [e]
  generalize x1 * y1 = p at *
  generalize x1 * y0 = q at *
  generalize x0 * y1 = r at *
  generalize x0 * y0 = s at *
  congr 2 <;> omega
end Go.Proofs.YtofedlghaopciaaGreatDoor.PureA
end
section
/- Texts of numbers: the reference's IsText and fix.Read, each said in plain words. -/
set_option linter.unusedVariables false
set_option linter.unusedSimpArgs false
namespace Go.Proofs.YtofedlghaopciaaGreatDoor.PureA
open Go.RowKit Go.Proofs.YtofedlghaopciaaGreatDoor.PA Go.Proofs.YtofedlghaopciaaGreatDoor.Num Go.Proofs.YtofedlghaopciaaGreatDoor.Dig Go.Proofs.YtofedlghaopciaaGreatDoorW.PrintWords Go.Proofs.YtofedlghaopciaaGreatDoorW.PrintLast Go.Proofs.YtofedlghaopciaaGreatDoorW.PrintMore

theorem sz_mk (l : List UInt8) : (ByteArray.mk l.toArray).size = l.length := by simp [ByteArray.size]
theorem bt_mk (l : List UInt8) (i : Int) : bt ⟨l.toArray⟩ i = ((rdOf (0 : UInt8) l i).toNat : Int) := by
  unfold bt rdOf
  by_cases h : i.toNat < l.length
  · rw [dif_pos (by rw [sz_mk]; exact h), List.getD_eq_getElem?_getD, List.getElem?_eq_getElem h]; rfl
  · rw [dif_neg (by rw [sz_mk]; exact h), List.getD_eq_getElem?_getD, List.getElem?_eq_none (by omega)]; rfl
theorem list_mk (l : List UInt8) : (ByteArray.mk l.toArray).toList = l := by rw [ByteArray.toList_eq]
theorem tail_mk (l : List UInt8) : (ByteArray.mk l.toArray).extract 1 (ByteArray.mk l.toArray).size = ⟨l.tail.toArray⟩ := by
  apply ByteArray.ext
  rw [ByteArray.data_extract, sz_mk]
  apply Array.ext'
  cases l with
  | nil => rfl
  | cons a r => simp
/-- The sign's test. -/
theorem sign_mk (l : List UInt8) (h : 0 < l.length) : (bt ⟨l.toArray⟩ 0 == 45) = decide (l.head? = some 45) := by
  cases l with
  | nil => simp at h
  | cons a r =>
    rw [bt_mk]
    have e : rdOf (0 : UInt8) (a :: r) 0 = a := rfl
    rw [e]
    by_cases c : a = 45
    · subst c; simp
    · have : (a.toNat : Int) ≠ 45 := fun h => c (UInt8.toNat_inj.1 (show a.toNat = 45 by omega))
      simp [c, this]
theorem istext_loop (l : List UInt8) (hl : (l.length : Int) ≤ 281474976710656) : ∀ (n : Nat) (i : Int), 0 ≤ i → i ≤ l.length → ((l.length : Int) - i).toNat = n →
    Ev (fun k => pylonref01_IsText.l0 k ⟨l.toArray⟩ i) (decide (digs (l.drop i.toNat))) := by
  intro n
  induction n with
  | zero =>
    intro i h0 h1 hn
    refine Ev.shift ?_
    simp only [pylonref01_IsText.l0, sz_mk, if_neg (show ¬ i < (l.length : Int) by omega)]
    rw [drop_end (by omega), decide_eq_true (show digs [] from fun c hc => by cases hc)]
    exact Ev.now _
  | succ n ih =>
    intro i h0 h1 hn
    have hlt : i < (l.length : Int) := by omega
    have IH := ih (i + 1) (by omega) (by omega) (by omega)
    refine Ev.shift ?_
    simp only [pylonref01_IsText.l0, sz_mk, if_pos hlt, if_pos h0, bt_mk, i64in (x := i + 1) (by omega) (by omega)]
    rw [drop_cons (0 : UInt8) h0 hlt]
    generalize rdOf (0 : UInt8) l i = c at *
    by_cases c1 : (c.toNat : Int) < 48
    · simp only [if_pos c1]
      rw [decide_eq_false (fun h => by have := (digs_cons.1 h).1; omega)]
      exact Ev.now _
    · by_cases c2 : (c.toNat : Int) > 57
      · simp only [if_neg c1, if_pos c2]
        rw [decide_eq_false (fun h => by have := (digs_cons.1 h).1; omega)]
        exact Ev.now _
      · simp only [if_neg c1, if_neg c2]
        rw [decide_eq_decide.2 (show digs (c :: l.drop (i + 1).toNat) ↔ digs (l.drop (i + 1).toNat) from ⟨fun h => (digs_cons.1 h).2, fun h => digs_cons.2 ⟨by omega, h⟩⟩)]
        exact IH
theorem bt0 {l m : List UInt8} {c : UInt8} (h : l = c :: m) : bt ⟨l.toArray⟩ 0 = (c.toNat : Int) := by subst h; rw [bt_mk]; rfl
theorem is48 {c : UInt8} : (c.toNat : Int) = 48 ↔ c = 48 := ⟨fun h => UInt8.toNat_inj.1 (show c.toNat = 48 by omega), fun h => by subst h; rfl⟩
/-- IsText asks whether it is a number's text. -/
theorem istext_f (l : List UInt8) (hl : (l.length : Int) ≤ 281474976710656) : Ev (fun k => pylonref01_IsText.f k ⟨l.toArray⟩) (decide (isNum l)) := by
  have hm := mag_len l
  have j2t : ∀ m : List UInt8, Ev (fun k => pylonref01_IsText.j2 k ⟨m.toArray⟩ true) false := fun m => by
    refine Ev.shift ?_
    simp only [pylonref01_IsText.j2, if_true]
    exact Ev.now _
  have j2f : Ev (fun k => pylonref01_IsText.j2 k ⟨(mag l).toArray⟩ false) (decide (digs (mag l))) := by
    refine Ev.shift ?_
    simp only [pylonref01_IsText.j2, Bool.false_eq_true, if_false]
    have := istext_loop (mag l) (by omega) _ 0 (by omega) (by omega) rfl
    simpa using this
  have key : Ev (fun k => pylonref01_IsText.j1 k ⟨(mag l).toArray⟩ (decide (l.head? = some 45))) (decide (isNum l)) := by
    refine Ev.shift ?_
    simp only [pylonref01_IsText.j1, sz_mk]
    rcases hM : mag l with _ | ⟨c, r⟩
    · simp only [List.length_nil, Int.natCast_zero, if_true]
      rw [decide_eq_false (fun h => h.2.1 hM)]
      exact j2t []
    · rw [hM] at j2f hm
      simp only [List.length_cons] at hm ⊢
      simp only [if_neg (show ¬ (((r.length + 1 : Nat)) : Int) = 0 by omega), if_pos (show (0 : Int) < ((r.length + 1 : Nat) : Int) by omega), bt0 (l := c :: r) rfl]
      by_cases h48 : c = 48
      · simp only [if_pos (is48.2 h48)]
        by_cases h1 : ((r.length + 1 : Nat) : Int) > 1
        · simp only [if_pos h1]
          rw [decide_eq_false (fun h => by
            have := h.2.2 (by rw [hM, h48]; rfl)
            have h3 := congrArg List.length this
            simp only [List.length_cons, List.length_nil] at h3; omega)]
          exact j2t _
        · simp only [if_neg h1]
          have hr : r = [] := List.eq_nil_of_length_eq_zero (by omega)
          by_cases hn : l.head? = some 45
          · simp only [hn, decide_true]
            rw [decide_eq_false (fun h => by
              have := h.2.2 (by rw [hM, h48]; rfl)
              rw [this] at hn; simp at hn)]
            exact j2t _
          · simp only [hn, decide_false]
            have hl2 : l = [48] := by
              have : mag l = l := by unfold mag; rw [if_neg hn]
              rw [← this, hM, hr, h48]
            rw [decide_eq_decide.2 (show isNum l ↔ digs (c :: r) from ⟨fun h => hM ▸ h.1, fun h => ⟨by rw [hM]; exact h, by rw [hM]; simp, fun _ => hl2⟩⟩)]
            exact j2f
      · simp only [if_neg (fun h => h48 (is48.1 h))]
        rw [decide_eq_decide.2 (show isNum l ↔ digs (c :: r) from ⟨fun h => hM ▸ h.1, fun h => ⟨by rw [hM]; exact h, by rw [hM]; simp, fun h2 => by rw [hM] at h2; simp at h2; exact absurd h2 h48⟩⟩)]
        exact j2f
  have j0 : Ev (fun k => pylonref01_IsText.j0 k ⟨l.toArray⟩ (decide (l.head? = some 45))) (decide (isNum l)) := by
    refine Ev.shift ?_
    simp only [pylonref01_IsText.j0]
    by_cases hn : l.head? = some 45
    · have hpos : 0 < l.length := by cases l with
        | nil => simp at hn
        | cons a r => simp
      have hM : mag l = l.tail := by unfold mag; rw [if_pos hn]
      rw [hM] at key
      simp only [hn, decide_true, if_true, if_pos (show (1 : Int) ≤ ((ByteArray.mk l.toArray).size : Int) by rw [sz_mk]; omega), tail_mk] at key ⊢
      exact key
    · have hM : mag l = l := by unfold mag; rw [if_neg hn]
      rw [hM] at key
      simp only [hn, decide_false, Bool.false_eq_true, if_false] at key ⊢
      exact key
  unfold pylonref01_IsText.f
  by_cases hp : 0 < l.length
  · simp only [sz_mk, if_pos (show ((l.length : Nat) : Int) > 0 by omega), if_pos (show (0 : Int) < ((l.length : Nat) : Int) by omega), sign_mk l hp]
    exact j0
  · have e : l = [] := List.eq_nil_of_length_eq_zero (by omega)
    simp only [sz_mk, if_neg (show ¬ ((l.length : Nat) : Int) > 0 by omega)]
    subst e
    exact j0
/-! ### fix.Read -/
/-- What the parse gives. -/
def readE (s : ByteArray) : Int × Int := if Hand.parseOk s = true then (Hand.parseV s, 0) else (0, 5)
theorem readE_num {l : List UInt8} (h : isNum l) : readE ⟨l.toArray⟩ = fits (num l) := by
  have hp := parse_num h
  unfold readE Hand.parseOk Hand.parseV fits
  by_cases c : -9223372036854775808 ≤ num l ∧ num l ≤ 9223372036854775807
  · rw [if_pos c] at hp ⊢
    simp only [hp, if_true]
  · rw [if_neg c] at hp ⊢
    simp only [hp, Bool.false_eq_true, if_false]
theorem read_loop (s : ByteArray) (hs : s.size ≤ 281474976710656) (l : List UInt8) (hl : (l.length : Int) ≤ 281474976710656) : ∀ (n : Nat) (i : Int), 0 ≤ i → i ≤ l.length → ((l.length : Int) - i).toNat = n →
    Ev (fun k => fix_Read.l0 k s ⟨l.toArray⟩ (l.length : Int) i) (if digs (l.drop i.toNat) then readE s else (0, 1)) := by
  intro n
  induction n with
  | zero =>
    intro i h0 h1 hn
    refine Ev.shift ?_
    simp only [fix_Read.l0, sz_mk, if_neg (show ¬ i < (l.length : Int) by omega), if_pos (show Hand.parseFit s = true from decide_eq_true hs)]
    rw [drop_end (by omega), if_pos (show digs [] from fun c hc => by cases hc)]
    simp only [Option.isNone_none, Option.isNone_some, if_true, Bool.false_eq_true, if_false]
    exact Ev.ofEqK fun k => by unfold readE; by_cases c : Hand.parseOk s = true <;> simp [c]
  | succ n ih =>
    intro i h0 h1 hn
    have hlt : i < (l.length : Int) := by omega
    have IH := ih (i + 1) (by omega) (by omega) (by omega)
    refine Ev.shift ?_
    simp only [fix_Read.l0, sz_mk, if_pos hlt, if_pos h0, bt_mk, i64in (x := i + 1) (by omega) (by omega)]
    rw [drop_cons (0 : UInt8) h0 hlt]
    generalize rdOf (0 : UInt8) l i = c at *
    by_cases c1 : (c.toNat : Int) < 48
    · simp only [if_pos c1]
      rw [if_neg (fun h => by have := (digs_cons.1 h).1; omega)]
      exact Ev.now _
    · by_cases c2 : (c.toNat : Int) > 57
      · simp only [if_neg c1, if_pos c2]
        rw [if_neg (fun h => by have := (digs_cons.1 h).1; omega)]
        exact Ev.now _
      · simp only [if_neg c1, if_neg c2]
        have e : (digs (c :: l.drop (i + 1).toNat)) = digs (l.drop (i + 1).toNat) := propext ⟨fun h => (digs_cons.1 h).2, fun h => digs_cons.2 ⟨by omega, h⟩⟩
        simp only [e]
        exact IH
theorem read_f (l : List UInt8) (hl : l.length ≤ 281474976710656) : Ev (fun k => fix_Read.f k ⟨l.toArray⟩) (readA l) := by
  have hm := mag_len l
  have j2t : ∀ m : List UInt8, Ev (fun k => fix_Read.j2 k ⟨l.toArray⟩ ⟨m.toArray⟩ true) (0, 1) := fun m => by
    refine Ev.shift ?_
    simp only [fix_Read.j2, if_true]
    exact Ev.now _
  have j2f : Ev (fun k => fix_Read.j2 k ⟨l.toArray⟩ ⟨(mag l).toArray⟩ false) (if digs (mag l) then readE ⟨l.toArray⟩ else (0, 1)) := by
    refine Ev.shift ?_
    simp only [fix_Read.j2, Bool.false_eq_true, if_false, sz_mk]
    have := read_loop ⟨l.toArray⟩ (by rw [sz_mk]; exact hl) (mag l) (by omega) _ 0 (by omega) (by omega) rfl
    simpa using this
  have key : Ev (fun k => fix_Read.j1 k ⟨l.toArray⟩ ⟨(mag l).toArray⟩) (readA l) := by
    refine Ev.shift ?_
    simp only [fix_Read.j1, sz_mk, list_mk]
    unfold readA
    rcases hM : mag l with _ | ⟨c, r⟩
    · simp only [if_true]
      rw [if_neg (fun h => h.2.1 hM)]
      exact j2t []
    · rw [hM] at j2f hm
      simp only [List.length_cons, reduceCtorEq, if_false] at hm ⊢
      simp only [if_pos (show (0 : Int) < ((r.length + 1 : Nat) : Int) by omega), bt0 (l := c :: r) rfl]
      by_cases h48 : c = 48
      · simp only [if_pos (is48.2 h48)]
        by_cases h1 : l = [48]
        · have hn : isNum l := by rw [h1]; decide
          have hd : digs (c :: r) := hM ▸ hn.1
          have e : (l != ([48] : List UInt8)) = false := by rw [h1]; rfl
          simp only [e]
          rw [if_pos hn, ← readE_num hn]
          rw [if_pos hd] at j2f
          exact j2f
        · have e : (l != ([48] : List UInt8)) = true := by simpa using h1
          simp only [e]
          rw [if_neg (fun h => h1 (h.2.2 (by rw [hM, h48]; rfl)))]
          exact j2t _
      · simp only [if_neg (fun h => h48 (is48.1 h))]
        by_cases hd : digs (c :: r)
        · have hn : isNum l := ⟨by rw [hM]; exact hd, by rw [hM]; simp, fun h2 => by rw [hM] at h2; simp at h2; exact absurd h2 h48⟩
          rw [if_pos hn, ← readE_num hn]
          rw [if_pos hd] at j2f
          exact j2f
        · rw [if_neg (fun h => hd (hM ▸ h.1))]
          rw [if_neg hd] at j2f
          exact j2f
  have j0 : Ev (fun k => fix_Read.j0 k ⟨l.toArray⟩ ⟨l.toArray⟩ (decide (l.head? = some 45))) (readA l) := by
    refine Ev.shift ?_
    simp only [fix_Read.j0]
    by_cases hn : l.head? = some 45
    · have hpos : 0 < l.length := by cases l with
        | nil => simp at hn
        | cons a r => simp
      have hM : mag l = l.tail := by unfold mag; rw [if_pos hn]
      rw [hM] at key
      simp only [hn, decide_true, if_true, if_pos (show (1 : Int) ≤ ((ByteArray.mk l.toArray).size : Int) by rw [sz_mk]; omega), tail_mk] at key ⊢
      exact key
    · have hM : mag l = l := by unfold mag; rw [if_neg hn]
      rw [hM] at key
      simp only [hn, decide_false, Bool.false_eq_true, if_false] at key ⊢
      exact key
  unfold fix_Read.f
  by_cases hp : 0 < l.length
  · simp only [sz_mk, if_pos (show ((l.length : Nat) : Int) > 0 by omega), if_pos (show (0 : Int) < ((l.length : Nat) : Int) by omega), sign_mk l hp]
    exact j0
  · have e : l = [] := List.eq_nil_of_length_eq_zero (by omega)
    simp only [sz_mk, if_neg (show ¬ ((l.length : Nat) : Int) > 0 by omega)]
    subst e
    exact j0
end Go.Proofs.YtofedlghaopciaaGreatDoor.PureA
end
section
/- The reference's Text and Read, each said in plain words. -/
set_option linter.unusedVariables false
set_option linter.unusedSimpArgs false
namespace Go.Proofs.YtofedlghaopciaaGreatDoor.PureA
open Go.RowKit Go.Proofs.YtofedlghaopciaaGreatDoor.PA Go.Proofs.YtofedlghaopciaaGreatDoor.Num Go.Proofs.YtofedlghaopciaaGreatDoor.Dig Go.Proofs.YtofedlghaopciaaGreatDoorW.PrintWords Go.Proofs.YtofedlghaopciaaGreatDoorW.PrintLast Go.Proofs.YtofedlghaopciaaGreatDoorW.PrintMore

theorem enc {d : Int} (h0 : 0 ≤ d) (h1 : d < 10) : Go.Utf8.encode (wrap32 (IntKind.u64.wrap (48 + d))) = ⟨[UInt8.ofNat (48 + d.toNat)].toArray⟩ := by
  have e : wrap32 (IntKind.u64.wrap (48 + d)) = 48 + d := by
    rw [w64 (by omega) (by omega)]; unfold wrap32; omega
  have hv : Go.Utf8.valid (48 + d) = true := by unfold Go.Utf8.valid; simp; omega
  rw [e]
  unfold Go.Utf8.encode
  simp only [hv, if_true]
  rw [if_pos (by omega), show (48 + d).toNat = 48 + d.toNat by omega]
theorem app_mkV (l m : List UInt8) : (ByteArray.mk l.toArray) ++ (ByteArray.mk m.toArray) = ⟨(l ++ m).toArray⟩ := by
  apply ByteArray.ext
  rw [ByteArray.data_append]
  simp
def sgn (n : Int) (l : List UInt8) : List UInt8 := if n < 0 then 45 :: l else l
theorem text_end {n : Int} {m : List UInt8} (hm : m ≠ []) (hl : m.length ≤ 1000) : Ev (fun k => pylonref01_Text.l0 k n 0 ⟨m.toArray⟩) ⟨(sgn n m).toArray⟩ := by
  refine Ev.shift ?_
  simp only [pylonref01_Text.l0, show ¬ (0 : Int) > 0 by omega, if_false, list_mk, if_neg hm, sz_mk]
  unfold sgn
  by_cases c : n < 0
  · simp only [if_pos c, if_pos (show 1 + m.length ≤ 9223372036854775807 by omega)]
    have := app_mkV [45] m
    simp only [List.cons_append, List.nil_append] at this
    rw [← this]
    exact Ev.now _
  · simp only [if_neg c]
    exact Ev.now _
theorem text_step {n : Int} {u : Nat} {m : List UInt8} {R : ByteArray} (hu : u < 18446744073709551616) (h : u ≠ 0 ∨ m = []) (hl : m.length ≤ 1000) (hN : Ev (fun k => pylonref01_Text.l0 k n ((u / 10 : Nat) : Int) ⟨(UInt8.ofNat (48 + u % 10) :: m).toArray⟩) R) :
    Ev (fun k => pylonref01_Text.l0 k n (u : Int) ⟨m.toArray⟩) R := by
  have e1 : Int.tmod (u : Int) 10 = ((u % 10 : Nat) : Int) := by rw [Int.tmod_eq_emod_of_nonneg (by omega)]; omega
  have e2 : IntKind.u64.wrap (Int.tdiv (u : Int) 10) = ((u / 10 : Nat) : Int) := by rw [Int.tdiv_eq_ediv_of_nonneg (by omega), w64 (by omega) (by omega)]; omega
  have e3 := enc (d := ((u % 10 : Nat) : Int)) (by omega) (by omega)
  rw [Int.toNat_natCast] at e3
  have e4 := app_mkV [UInt8.ofNat (48 + u % 10)] m
  simp only [List.cons_append, List.nil_append] at e4
  refine Ev.shift ?_
  simp only [pylonref01_Text.l0, e1, e2, e3, e4, list_mk, sz_mk, List.length_cons, List.length_nil, if_pos (show 0 + 1 + m.length ≤ 9223372036854775807 by omega)]
  by_cases c : u = 0
  · have hm : m = [] := by rcases h with h | h; exact absurd c h; exact h
    simp only [show ¬ (u : Int) > 0 by omega, if_false, if_pos hm]
    exact hN
  · simp only [if_pos (show (u : Int) > 0 by omega)]
    exact hN
theorem dec_len (u : Nat) (h : u < 18446744073709551616) : (Lib.decDigits u).length ≤ 100 := by
  have hv := val_lt (Lib.decDigits u)
  have key : ∀ (n u : Nat), u < 10 ^ n → (Lib.decDigits u).length ≤ n + 1 := by
    intro n
    induction n with
    | zero =>
      intro u hu
      rw [Lib.decDigits, dif_pos (by omega)]; simp
    | succ n ih =>
      intro u hu
      rw [Lib.decDigits]
      by_cases c : u < 10
      · rw [dif_pos c]; simp
      · rw [dif_neg c]
        have := ih (u / 10) (by rw [Nat.pow_succ] at hu; omega)
        simp; omega
  have := key 20 u (by omega)
  omega
theorem text_loop (n : Int) : ∀ (u : Nat), u < 18446744073709551616 → ∀ (m : List UInt8), (u ≠ 0 ∨ m = []) → m.length + (Lib.decDigits u).length ≤ 1000 →
    Ev (fun k => pylonref01_Text.l0 k n (u : Int) ⟨m.toArray⟩) ⟨(sgn n (Lib.decDigits u ++ m)).toArray⟩ := by
  intro u
  induction u using Nat.strongRecOn with
  | _ u ih =>
    intro hu m h hl
    refine text_step hu h (by omega) ?_
    rw [Lib.decDigits] at hl ⊢
    by_cases c : u < 10
    · rw [dif_pos c] at hl ⊢
      rw [show u / 10 = 0 by omega, show u % 10 = u by omega]
      simp only [List.cons_append, List.nil_append, List.length_cons, List.length_nil] at hl ⊢
      exact text_end (by simp) (by simp; omega)
    · rw [dif_neg c] at hl ⊢
      simp only [List.length_append, List.length_cons, List.length_nil] at hl
      rw [List.append_assoc]
      exact ih (u / 10) (by omega) (by omega) (UInt8.ofNat (48 + u % 10) :: m) (.inl (by omega)) (by simp only [List.length_cons]; omega)
theorem reftext_f {n : Int} (h0 : -9223372036854775808 ≤ n) (h1 : n ≤ 9223372036854775807) : Ev (fun k => pylonref01_Text.f k n) ⟨(Lib.itoa n).toArray⟩ := by
  unfold pylonref01_Text.f
  simp only [mag_f h0 h1, Option.bind_some]
  have := text_loop n n.natAbs (by omega) [] (.inr rfl) (by have := dec_len n.natAbs (by omega); simp; omega)
  have e : sgn n (Lib.decDigits n.natAbs ++ []) = Lib.itoa n := by
    unfold sgn Lib.itoa
    rw [List.append_nil]
    by_cases c : n < 0
    · rw [if_pos c, if_pos c]
    · rw [if_neg c, if_neg c, show n.natAbs = n.toNat by omega]
  rw [e] at this
  exact this

/-! ### Read -/
theorem refread_loop (neg : Bool) (l : List UInt8) (hl : (l.length : Int) ≤ 281474976710656) (hd : digs l) : ∀ (n : Nat) (i : Int) (a : Nat), 0 ≤ i → i ≤ l.length → ((l.length : Int) - i).toNat = n → a ≤ 9223372036854775808 →
    Ev (fun k => pylonref01_Read.l0 k ⟨l.toArray⟩ neg (a : Int) i) (fits (if neg = true then -(val a (l.drop i.toNat) : Int) else (val a (l.drop i.toNat) : Int))) := by
  intro n
  induction n with
  | zero =>
    intro i a h0 h1 hn ha
    refine Ev.shift (Ev.shift ?_)
    simp only [pylonref01_Read.l0, sz_mk, if_neg (show ¬ i < (l.length : Int) by omega), signed_f _ neg (hi := 0) (lo := (a : Int)) (by omega) (by omega) (by omega), Option.bind_some]
    rw [drop_end (by omega), val_nil, Int.zero_mul, Int.zero_add]
    exact Ev.pair _
  | succ n ih =>
    intro i a h0 h1 hn ha
    have hlt : i < (l.length : Int) := by omega
    have hc := hd (rdOf (0 : UInt8) l i) (by
      have := drop_cons (0 : UInt8) h0 hlt
      exact List.mem_of_mem_drop (by rw [this]; simp))
    refine Ev.shift ?_
    simp only [pylonref01_Read.l0, sz_mk, if_pos hlt, if_pos h0, bt_mk, i64in (x := i + 1) (by omega) (by omega)]
    rw [drop_cons (0 : UInt8) h0 hlt, val_cons]
    generalize rdOf (0 : UInt8) l i = c at *
    have hs := Dig.step_eq a c
    have IH := ih (i + 1) (Dig.step a c) (by omega) (by omega) (by omega)
    have hv := le_val (l.drop (i + 1).toNat) (Dig.step a c)
    rw [show ((c.toNat : Int) - 48) % 256 = (c.toNat : Int) - 48 by omega]
    by_cases g : (a : Int) > (9223372036854775808 - ((c.toNat : Int) - 48)) / 10
    · simp only [if_pos g]
      unfold fits
      rw [if_neg (by cases neg <;> simp <;> omega)]
      exact Ev.now _
    · simp only [if_neg g]
      rw [w64 (x := (a : Int) * 10) (by omega) (by omega), w64 (x := (a : Int) * 10 + ((c.toNat : Int) - 48)) (by omega) (by omega), show (a : Int) * 10 + ((c.toNat : Int) - 48) = ((Dig.step a c : Nat) : Int) by omega]
      exact IH (by omega)
theorem refread_f (l : List UInt8) (hl : l.length ≤ 281474976710656) : Ev (fun k => pylonref01_Read.f k ⟨l.toArray⟩) (readA l) := by
  have hm := mag_len l
  unfold pylonref01_Read.f readA
  refine Ev.bind (istext_f l (by omega)) ?_
  by_cases hn : isNum l
  · have hp : 0 < l.length := by
      have := List.length_pos_iff.2 hn.2.1
      omega
    have hL := refread_loop (decide (l.head? = some 45)) (mag l) (by omega) hn.1 _ 0 0 (by omega) (by omega) rfl (by omega)
    simp only [Int.toNat_zero, List.drop_zero, decide_eq_true_eq] at hL
    have key : Ev (fun k => pylonref01_Read.j0 k ⟨(mag l).toArray⟩ (decide (l.head? = some 45))) (fits (num l)) := by
      refine Ev.shift ?_
      simp only [pylonref01_Read.j0]
      unfold num
      exact hL
    rw [if_pos hn]
    simp only [decide_eq_true hn, if_true, sz_mk, if_pos (show (0 : Int) < (l.length : Int) by omega), sign_mk l hp]
    by_cases c : l.head? = some 45
    · have hM : mag l = l.tail := by unfold mag; rw [if_pos c]
      have hb : bt ⟨l.toArray⟩ 0 = 45 := by
        have := sign_mk l hp
        rw [decide_eq_true c] at this
        simpa using this
      have ht := tail_mk l
      rw [sz_mk] at ht
      rw [hM] at key
      simp only [if_pos hb, if_pos (show (1 : Int) ≤ (l.length : Int) by omega), ht]
      exact key
    · have hM : mag l = l := by unfold mag; rw [if_neg c]
      have hb : ¬ bt ⟨l.toArray⟩ 0 = 45 := fun h => by
        have := sign_mk l hp
        rw [decide_eq_false c] at this
        simp [h] at this
      rw [hM] at key
      simp only [if_neg hb]
      exact key
  · rw [if_neg hn]
    simp only [decide_eq_false hn, Bool.false_eq_true, if_false]
    exact Ev.now _
end Go.Proofs.YtofedlghaopciaaGreatDoor.PureA
end
section
/- Package phasor: what the printed functions compute, as plain arithmetic. -/
set_option linter.unusedVariables false
set_option linter.unusedSimpArgs false
namespace Go.Proofs.YtofedlghaopciaaGreatDoor.PureA
open Go.RowKit Go.Proofs.YtofedlghaopciaaGreatDoor.PA Go.Proofs.YtofedlghaopciaaGreatDoor.Num Go.Proofs.YtofedlghaopciaaGreatDoor.Flt Go.Proofs.YtofedlghaopciaaGreatDoorW.PrintWords Go.Proofs.YtofedlghaopciaaGreatDoorW.PrintLast Go.Proofs.YtofedlghaopciaaGreatDoorW.PrintMore

theorem is_const {b : Nat} {n : Int} (h : n.natAbs < 2 ^ 53) (e : floatOfInt .f64 n = b) : Is b n := e ▸ of_int h
theorem fint_lt (n : Int) : floatOfInt .f64 n < 18446744073709551616 := wf_lt (floatOfInt_wf .f64 n)
theorem is_1 : Is 4607182418800017408 1 := is_const (by decide) (by decide +kernel)
theorem is_2 : Is 4611686018427387904 2 := is_const (by decide) (by decide +kernel)
theorem is_3 : Is 4613937818241073152 3 := is_const (by decide) (by decide +kernel)
theorem is_4 : Is 4616189618054758400 4 := is_const (by decide) (by decide +kernel)
theorem is_11 : Is 4622382067542392832 11 := is_const (by decide) (by decide +kernel)
theorem is_m1 : Is 13830554455654793216 (-1) := is_const (by decide) (by decide +kernel)
theorem is_part : Is 4719772409484279808 ((33554432 : Nat) : Int) := is_const (by decide) (by decide +kernel)

theorem whole_yes {x y M : Nat} {n : Int} (hx : x < 18446744073709551616) (hM : M < 2 ^ 53) (hy : Is y (M : Int)) (h : Is x n) (hn : n.natAbs ≤ M) : phasor_whole.f x y = some true := by
  obtain ⟨h1, h2⟩ := whole_iff (x := x) hM hy
  obtain ⟨a, b⟩ := h2.2 ⟨n, h, hn⟩
  unfold phasor_whole.f math_Abs.f math_Trunc.f
  rw [abs_bits x hx]
  simp only [Option.bind_some, a, if_true, h1 a, b]
theorem whole_no {x y M : Nat} (hx : x < 18446744073709551616) (hM : M < 2 ^ 53) (hy : Is y (M : Int)) (h : ¬ ∃ n, Is x n ∧ n.natAbs ≤ M) : phasor_whole.f x y = some false := by
  obtain ⟨h1, h2⟩ := whole_iff (x := x) hM hy
  unfold phasor_whole.f math_Abs.f math_Trunc.f
  rw [abs_bits x hx]
  simp only [Option.bind_some]
  by_cases a : fle (x % 9223372036854775808) y = true
  · rw [if_pos a, if_pos (h1 a), Option.bind_some]
    have : feq (ftrunc x) x = false := by
      cases c : feq (ftrunc x) x
      · rfl
      · exact (h (h2.1 ⟨a, c⟩)).elim
    rw [this]
  · rw [if_neg a]
/-- Both parts are whole and small. -/
def Small (z : Cx) (A B : Int) : Prop := (Is z.re A ∧ A.natAbs ≤ 33554432) ∧ Is z.im B ∧ B.natAbs ≤ 33554432
def Good (z : Cx) : Prop := ∃ A B, Small z A B
/-- Bits of 64. -/
def Bits (z : Cx) : Prop := z.re < 18446744073709551616 ∧ z.im < 18446744073709551616
theorem fits_yes {z : Cx} {A B : Int} (hb : Bits z) (h : Small z A B) : phasor_Fits.f z = some true := by
  unfold phasor_Fits.f
  rw [whole_yes hb.1 (by decide) is_part h.1.1 h.1.2, whole_yes hb.2 (by decide) is_part h.2.1 h.2.2]
  rfl
theorem fits_no {z : Cx} (hb : Bits z) (h : ¬ Good z) : phasor_Fits.f z = some false := by
  unfold phasor_Fits.f
  by_cases a : ∃ n, Is z.re n ∧ n.natAbs ≤ 33554432
  · obtain ⟨n, a, b⟩ := a
    rw [whole_yes hb.1 (by decide) is_part a b, whole_no hb.2 (by decide) is_part (fun ⟨m, c, d⟩ => h ⟨n, m, ⟨a, b⟩, c, d⟩)]
    rfl
  · rw [whole_no hb.1 (by decide) is_part a]
    rfl

theorem prod_le {P Q : Int} {m n : Nat} (hP : P.natAbs ≤ m) (hQ : Q.natAbs ≤ n) : (P * Q).natAbs ≤ m * n := by
  rw [Int.natAbs_mul]
  exact Nat.mul_le_mul hP hQ

theorem power_ok {u v : Cx} {A B C D : Int} (hu : Bits u) (hv : Bits v) (su : Small u A B) (sv : Small v C D) :
    ∃ z, phasor_Power.f u v = some (z, 0) ∧ Is z.re (A * C + B * D) ∧ Is z.im (B * C - A * D) ∧ Bits z := by
  obtain ⟨⟨a1, a2⟩, a3, a4⟩ := id su
  obtain ⟨⟨c1, c2⟩, c3, c4⟩ := id sv
  have p1 := prod_le a2 c2
  have p2 := prod_le a4 c4
  have p3 := prod_le a2 c4
  have p4 := prod_le a4 c2
  obtain ⟨ok, r, i⟩ := cmul_is a1 a3 c1 c3.neg (by omega) (by rw [Int.mul_neg]; omega) (by rw [Int.mul_neg]; omega) (by omega) (by rw [Int.mul_neg]; omega) (by rw [Int.mul_neg]; omega)
  rw [Int.mul_neg, Int.sub_neg] at r
  rw [Int.mul_neg, show -(A * D) + B * C = B * C - A * D by omega] at i
  refine ⟨cx _ _, ?_, r, i, (cmul_lt _ _ _ _).1, (cmul_lt _ _ _ _).2⟩
  unfold phasor_Power.f phasor_conjugate.f
  rw [fits_yes hu su, fits_yes hv sv]
  simp only [Option.bind_some, if_true, ok]
  rfl
theorem power_no {u v : Cx} (hu : Bits u) (hv : Bits v) (h : ¬ (Good u ∧ Good v)) : phasor_Power.f u v = some (cx 0 0, 5) := by
  unfold phasor_Power.f
  by_cases g : Good u
  · obtain ⟨A, B, s⟩ := id g
    rw [fits_yes hu s, fits_no hv (fun g2 => h ⟨g, g2⟩)]
    rfl
  · rw [fits_no hu g]
    rfl

theorem awake_ok : pylonlaw02_awake.f = some true := by
  unfold pylonlaw02_awake.f
  obtain ⟨z, e, r, i, _⟩ := power_ok (u := cx 4607182418800017408 4611686018427387904) (v := cx 4613937818241073152 4616189618054758400) (A := 1) (B := 2) (C := 3) (D := 4) ⟨by decide, by decide⟩ ⟨by decide, by decide⟩ ⟨⟨is_1, by decide⟩, is_2, by decide⟩ ⟨⟨is_3, by decide⟩, is_4, by decide⟩
  rw [e]
  simp only [Option.bind_some, if_true]
  rw [ceq_is r i is_11 is_2]
  rfl
end Go.Proofs.YtofedlghaopciaaGreatDoor.PureA
end
section
/- Four-point sums of floats that stand for whole numbers: what they stand for. -/
set_option linter.unusedVariables false
set_option linter.unusedSimpArgs false
namespace Go.Proofs.YtofedlghaopciaaGreatDoor.FourW
open Go Go.RowKit Go.Proofs.YtofedlghaopciaaGreatDoor.PA Go.Proofs.YtofedlghaopciaaGreatDoor.Num Go.Proofs.YtofedlghaopciaaGreatDoor.Flt Go.Proofs.YtofedlghaopciaaGreatDoor.PureA Go.Proofs.YtofedlghaopciaaGreatDoorW.PrintWords Go.Proofs.YtofedlghaopciaaGreatDoorW.PrintLast Go.Proofs.YtofedlghaopciaaGreatDoorW.PrintMore
theorem and3 (n : Int) : Go.bits .and .i64 n 3 = n % 4 := by
  have h3 : (BitVec.ofInt 64 3).toNat = 2 ^ 2 - 1 := by decide
  have key : (BitVec.ofInt 64 n &&& BitVec.ofInt 64 3).toNat = (n % ((2 ^ 64 : Nat) : Int)).toNat % 2 ^ 2 := by
    rw [BitVec.toNat_and, BitVec.toNat_ofInt, h3, Nat.and_two_pow_sub_one_eq_mod]
  show IntKind.i64.wrap ((BitVec.ofInt 64 n &&& BitVec.ofInt 64 3).toNat : Nat) = n % 4
  rw [key, IntKind.wrap_i64]
  omega
/-- The parts of i to the power m, m from 0 to 3. -/
def wR (m : Int) : Int := if m = 0 then 1 else if m = 2 then -1 else 0
def wI (m : Int) : Int := if m = 1 then 1 else if m = 3 then -1 else 0
theorem wR_le (m : Int) : (wR m).natAbs ≤ 1 := by unfold wR; split <;> (try split) <;> decide
theorem wI_le (m : Int) : (wI m).natAbs ≤ 1 := by unfold wI; split <;> (try split) <;> decide
theorem unit_ok (k : Int) : phasor_unit.f k = some (unitV k) ∧ Is (unitV k).re (wR (k % 4)) ∧ Is (unitV k).im (wI (k % 4)) := by
  have key : ∃ u, phasor_unit.f k = some u ∧ Is u.re (wR (k % 4)) ∧ Is u.im (wI (k % 4)) := by
    unfold phasor_unit.f
    rw [and3]
    have h : k % 4 = 0 ∨ k % 4 = 1 ∨ k % 4 = 2 ∨ k % 4 = 3 := by omega
    rw [if_pos (by omega), if_pos (by omega)]
    rcases h with h | h | h | h <;> rw [h]
    · exact ⟨_, rfl, is_1, is_zero⟩
    · exact ⟨_, rfl, is_zero, is_1⟩
    · exact ⟨_, rfl, is_m1, is_zero⟩
    · exact ⟨_, rfl, is_zero, is_m1⟩
  obtain ⟨u, e, h1, h2⟩ := key
  have hv : unitV k = u := by unfold unitV; rw [e]; rfl
  rw [hv]
  exact ⟨e, h1, h2⟩
/-- The whole numbers' sums. -/
def sR (A B : Nat → Int) (s : Int) (k : Nat) : Nat → Int
  | 0 => 0
  | n + 1 => sR A B s k n + (A n * wR (s * k * n % 4) - B n * wI (s * k * n % 4))
def sI (A B : Nat → Int) (s : Int) (k : Nat) : Nat → Int
  | 0 => 0
  | n + 1 => sI A B s k n + (A n * wI (s * k * n % 4) + B n * wR (s * k * n % 4))
/-- An array of whole numbers, none farther from 0 than M. -/
def Whole (x : Nat → Cx) (A B : Nat → Int) (M : Nat) : Prop := ∀ n, n < 4 → (Is (x n).re (A n) ∧ (A n).natAbs ≤ M) ∧ Is (x n).im (B n) ∧ (B n).natAbs ≤ M
theorem step_is {o z u : Cx} {O P A B U V : Int} {M N : Nat} (h1 : Is o.re O) (h2 : Is o.im P) (h3 : Is z.re A) (h4 : Is z.im B) (h5 : Is u.re U) (h6 : Is u.im V) (a : A.natAbs ≤ M) (b : B.natAbs ≤ M) (c : U.natAbs ≤ 1) (d : V.natAbs ≤ 1)
    (e : O.natAbs ≤ N) (f : P.natAbs ≤ N) (g : N + 2 * M < 9007199254740992) :
    stepOk o z u = true ∧ Is (stepV o z u).re (O + (A * U - B * V)) ∧ Is (stepV o z u).im (P + (A * V + B * U)) ∧ (O + (A * U - B * V)).natAbs ≤ N + 2 * M ∧ (P + (A * V + B * U)).natAbs ≤ N + 2 * M := by
  have p1 := prod_le a c
  have p2 := prod_le b d
  have p3 := prod_le a d
  have p4 := prod_le b c
  rw [Nat.mul_one] at p1 p2 p3 p4
  obtain ⟨ok, r, i⟩ := cmul_is h3 h4 h5 h6 (by omega) (by omega) (by omega) (by omega) (by omega) (by omega)
  obtain ⟨ok2, r2, i2⟩ := cadd_is h1 h2 r i (by omega) (by omega)
  refine ⟨?_, r2, i2, by omega, by omega⟩
  unfold stepOk
  rw [ok, ok2]
  rfl
theorem part_is {x : Nat → Cx} {A B : Nat → Int} {M : Nat} (h : Whole x A B M) (hM : M ≤ 1073741824) (s : Int) (k : Nat) : ∀ n, n ≤ 4 →
    Is (part x s k n).re (sR A B s k n) ∧ Is (part x s k n).im (sI A B s k n) ∧ (sR A B s k n).natAbs ≤ 2 * M * n ∧ (sI A B s k n).natAbs ≤ 2 * M * n := by
  intro n
  induction n with
  | zero => exact fun _ => ⟨is_zero, is_zero, Nat.zero_le _, Nat.zero_le _⟩
  | succ n ih =>
    intro hn
    obtain ⟨i1, i2, i3, i4⟩ := ih (by omega)
    obtain ⟨⟨h1, h2⟩, h3, h4⟩ := h n (by omega)
    obtain ⟨_, u1, u2⟩ := unit_ok (s * k * n)
    have hm : 2 * M * n ≤ 2 * M * 4 := Nat.mul_le_mul_left _ (by omega)
    obtain ⟨_, r1, r2, r3, r4⟩ := step_is i1 i2 h1 h3 u1 u2 h2 h4 (wR_le _) (wI_le _) i3 i4 (by omega)
    refine ⟨r1, r2, ?_, ?_⟩
    · rw [Nat.mul_succ]; exact r3
    · rw [Nat.mul_succ]; exact r4
theorem sums_ok {x : Nat → Cx} {A B : Nat → Int} {M : Nat} (h : Whole x A B M) (hM : M ≤ 1073741824) (s : Int) : sumsOk x s := by
  intro k n hk hn
  obtain ⟨i1, i2, i3, i4⟩ := part_is h hM s k n (by omega)
  obtain ⟨⟨h1, h2⟩, h3, h4⟩ := h n hn
  obtain ⟨e, u1, u2⟩ := unit_ok (s * k * n)
  have hm : 2 * M * n ≤ 2 * M * 4 := Nat.mul_le_mul_left _ (by omega)
  exact ⟨(step_is i1 i2 h1 h3 u1 u2 h2 h4 (wR_le _) (wI_le _) i3 i4 (by omega)).1, e⟩
/-- The sum of the squares over the first n. -/
def qS (A B : Nat → Int) : Nat → Int
  | 0 => 0
  | n + 1 => qS A B n + (A n * A n + B n * B n)
end Go.Proofs.YtofedlghaopciaaGreatDoor.FourW
end
section
/- Blocks of four complex numbers; pairs of whole numbers. -/
set_option linter.unusedVariables false
set_option linter.unusedSimpArgs false
namespace Go.Proofs.YtofedlghaopciaaGreatDoor.FourW
open Go Go.RowKit Go.Proofs.YtofedlghaopciaaGreatDoor.PA Go.Proofs.YtofedlghaopciaaGreatDoor.Num Go.Proofs.YtofedlghaopciaaGreatDoor.Flt Go.Proofs.YtofedlghaopciaaGreatDoor.PureA Go.Proofs.YtofedlghaopciaaGreatDoorW.PrintWords Go.Proofs.YtofedlghaopciaaGreatDoorW.PrintLast Go.Proofs.YtofedlghaopciaaGreatDoorW.PrintMore
def numZ (a b : Int) : Cx := cx (floatOfInt .f64 a) (floatOfInt .f64 b)
abbrev zz : Nat → Cx := fun _ => cx 0 0
/-- A block holds four complex numbers. -/
def Row (w : World) (b : Nat) (f : Nat → Cx) : Prop := (∀ j, j < 4 → w.cell? ⟨b, j, none⟩ = some (.complex .f64 (f j).re (f j).im)) ∧ (∀ j, w.frozen? ⟨b, j, none⟩ = false) ∧ b < w.heap.size
theorem Row.below {w w' : World} {b : Nat} {f : Nat → Cx} (h : Row w b f) (hb : Below w.heap.size w w') : Row w' b f :=
  ⟨fun j hj => ((bcell hb).1 _ j h.2.2).trans (h.1 j hj), fun j => ((bcell hb).2 _ j h.2.2).trans (h.2.1 j), Nat.lt_of_lt_of_le h.2.2 hb.size⟩
theorem Row.alloc {w : World} {b : Nat} {f : Nat → Cx} (h : Row w b f) (o : Obj) : Row (w.alloc o) b f := h.below ((Below.refl _ _).alloc (Nat.le_refl _) _)
theorem Row.draw {w : World} {b : Nat} {f : Nat → Cx} (h : Row w b f) (n : Nat) : Row (w.drewN n) b f := h
theorem Row.made (w : World) (f : Nat → Cx) : Row (w.alloc (.cells (arr f) 26)) w.heap.size f :=
  ⟨fun j hj => by rw [World.cell?_alloc_at _ _ _ _ rfl]; rcases four_of hj with rfl | rfl | rfl | rfl <;> rfl, fun j => World.frozen?_alloc_at _ _ _ _ rfl, by simp⟩
theorem Row.congr {w : World} {b : Nat} {f g : Nat → Cx} (h : Row w b f) (e : ∀ j, j < 4 → f j = g j) : Row w b g := ⟨fun j hj => by rw [← e j hj]; exact h.1 j hj, h.2⟩
theorem Row.here {w : World} {b : Nat} {f : Nat → Cx} (h : Row w b f) (k : Nat) (hk : k < 4) (z : Cx) : Row (w.setCell ⟨b, k, none⟩ (.complex .f64 z.re z.im)) b (fun j => if j = k then z else f j) := by
  refine ⟨fun j hj => ?_, fun j => ?_, ?_⟩
  · by_cases e : j = k
    · subst e
      simp only [if_true]
      exact World.cell?_setCell_same (h := h.1 j hj) ..
    · simp only [if_neg e]
      exact (World.cell?_setCell_other (h := fun x => e (by injection x with _ y; exact y.symm)) ..).trans (h.1 j hj)
  · rw [World.frozen?_setCell]; exact h.2.1 j
  · simpa using h.2.2
theorem Row.away {w : World} {b c : Nat} {f : Nat → Cx} (h : Row w b f) (k : Nat) (v : Value) (hc : c ≠ b) : Row (w.setCell ⟨c, k, none⟩ v) b f := by
  refine ⟨fun j hj => ?_, fun j => ?_, ?_⟩
  · exact (World.cell?_setCell_other (h := fun x => hc (by injection x)) ..).trans (h.1 j hj)
  · rw [World.frozen?_setCell]; exact h.2.1 j
  · simpa using h.2.2
theorem code_world {P : Program} {c : Code} {Q : Exit → Act → World → Prop} {a : Act} {w : World} (R : World → Prop) (h : R w) (k : ∀ w', R w' → c.wp P Q a w') : c.wp P Q a w := k w h
/-- A block holds two whole numbers. -/
def Two (w : World) (b : Nat) (x y : Int) : Prop := w.cell? ⟨b, 0, none⟩ = some (.int .i64 x) ∧ w.cell? ⟨b, 1, none⟩ = some (.int .i64 y) ∧ (∀ j, w.frozen? ⟨b, j, none⟩ = false) ∧ b < w.heap.size
theorem Two.below {w w' : World} {b : Nat} {x y : Int} (h : Two w b x y) (hb : Below w.heap.size w w') : Two w' b x y :=
  ⟨((bcell hb).1 _ 0 h.2.2.2).trans h.1, ((bcell hb).1 _ 1 h.2.2.2).trans h.2.1, fun j => ((bcell hb).2 _ j h.2.2.2).trans (h.2.2.1 j), Nat.lt_of_lt_of_le h.2.2.2 hb.size⟩
theorem Two.made (w : World) (x y : Int) (t : TypeId) : Two (w.alloc (.cells #[.int .i64 x, .int .i64 y] t)) w.heap.size x y :=
  ⟨World.cell?_alloc_at _ _ _ _ rfl, World.cell?_alloc_at _ _ _ _ rfl, fun j => World.frozen?_alloc_at _ _ _ _ rfl, by simp⟩
theorem Two.draw {w : World} {b : Nat} {x y : Int} (h : Two w b x y) (n : Nat) : Two (w.drewN n) b x y := h
theorem Two.alloc {w : World} {b : Nat} {x y : Int} (h : Two w b x y) (o : Obj) : Two (w.alloc o) b x y := h.below ((Below.refl _ _).alloc (Nat.le_refl _) _)
theorem Two.put {w : World} {b : Nat} {x y : Int} (h : Two w b x y) (x' y' : Int) : Two ((w.setCell ⟨b, 0, none⟩ (.int .i64 x')).setCell ⟨b, 1, none⟩ (.int .i64 y')) b x' y' := by
  refine ⟨?_, ?_, fun j => ?_, ?_⟩
  · exact (World.cell?_setCell_other (h := fun e => by injection e with _ e; cases e) ..).trans (World.cell?_setCell_same (h := h.1) ..)
  · exact World.cell?_setCell_same (h := (World.cell?_setCell_other (h := fun e => by injection e with _ e; cases e) ..).trans h.2.1) ..
  · rw [World.frozen?_setCell, World.frozen?_setCell]; exact h.2.2.1 j
  · simpa using h.2.2.2
theorem Two.away {w : World} {b c : Nat} {x y : Int} (h : Two w b x y) (k : Nat) (v : Value) (hc : c ≠ b) : Two (w.setCell ⟨c, k, none⟩ v) b x y := by
  refine ⟨?_, ?_, fun j => ?_, ?_⟩
  · exact (World.cell?_setCell_other (h := fun x => hc (by injection x)) ..).trans h.1
  · exact (World.cell?_setCell_other (h := fun x => hc (by injection x)) ..).trans h.2.1
  · rw [World.frozen?_setCell]; exact h.2.2.1 j
  · simpa using h.2.2.2
end Go.Proofs.YtofedlghaopciaaGreatDoor.FourW
end
section
/- Package phasor: lists of numbers, the power of several phases. -/
set_option linter.unusedVariables false
set_option linter.unusedSimpArgs false
namespace Go.Proofs.YtofedlghaopciaaGreatDoor.PureA
open Go.RowKit Go.Proofs.YtofedlghaopciaaGreatDoor.PA Go.Proofs.YtofedlghaopciaaGreatDoor.Num Go.Proofs.YtofedlghaopciaaGreatDoor.Flt Go.Proofs.YtofedlghaopciaaGreatDoorW.PrintWords Go.Proofs.YtofedlghaopciaaGreatDoorW.PrintLast Go.Proofs.YtofedlghaopciaaGreatDoorW.PrintMore

/-- The whole number that bits stand for. -/
noncomputable def val (x : Nat) : Int := by
  classical
  exact if h : ∃ n, Is x n then Classical.choose h else 0
theorem val_of {x : Nat} {n : Int} (h : Is x n) : val x = n := by
  unfold val
  rw [dif_pos ⟨n, h⟩]
  exact (Classical.choose_spec (⟨n, h⟩ : ∃ n, Is x n)).uniq h
theorem Good.small {z : Cx} (h : Good z) : Small z (val z.re) (val z.im) := by
  obtain ⟨A, B, h⟩ := h
  rw [val_of h.1.1, val_of h.2.1]
  exact h
def conv (s : S33) : Cx := cx s.f0 s.f1
theorem bits_conv {l : List S33} (h : ∀ y ∈ l, okS33 y) : ∀ z ∈ l.map conv, Bits z := by
  intro z hz
  obtain ⟨y, hy, rfl⟩ := List.mem_map.mp hz
  exact ⟨wf_lt (h y hy).1, wf_lt (h y hy).2⟩
theorem set_mid {α : Type} (A : List α) (z v : α) (m : Nat) : (A ++ List.replicate (m + 1) z).set A.length v = (A ++ [v]) ++ List.replicate m z := by
  rw [List.set_append_right _ _ (Nat.le_refl _), Nat.sub_self, List.replicate_succ]
  simp
theorem numbers_l0 {l : List S33} (hl : (l.length : Int) ≤ 140737488355328) : ∀ (d : Nat) (i : Int), 0 ≤ i → (l.length : Int) - i = d →
    Ev (fun k => pylonlaw02_numbers.l0 k l ((l.take i.toNat).map conv ++ List.replicate d (cx 0 0)) (l.length : Int) i) (l.map conv) := by
  intro d
  induction d with
  | zero =>
    intro i i0 hd
    refine Ev.shift ?_
    simp only [pylonlaw02_numbers.l0, if_neg (show ¬ i < (l.length : Int) by omega)]
    rw [List.take_of_length_le (by omega)]
    simp only [List.replicate_zero, List.append_nil]
    exact Ev.now _
  | succ d ih =>
    intro i i0 hd
    have hi : i < (l.length : Int) := by omega
    have ei : wrap64 (i + 1) = i + 1 := i64in (by omega) (by omega)
    have hlen : ((l.take i.toNat).map conv).length = i.toNat := by rw [List.length_map, List.length_take]; omega
    have hi2 : i < ((((l.take i.toNat).map conv ++ List.replicate (d + 1) (cx 0 0)).length : Nat) : Int) := by
      rw [List.length_append, hlen, List.length_replicate]; omega
    have hs : ((l.take i.toNat).map conv ++ List.replicate (d + 1) (cx 0 0)).set i.toNat (conv (rd_T33 l i)) = (l.take (i + 1).toNat).map conv ++ List.replicate d (cx 0 0) := by
      have := set_mid ((l.take i.toNat).map conv) (cx 0 0) (conv (rd_T33 l i)) d
      rw [hlen] at this
      rw [this, show (i + 1).toNat = i.toNat + 1 by omega, List.take_add_one]
      have hg : l[i.toNat]? = some (rd_T33 l i) := by
        unfold rd_T33
        rw [List.getD_eq_getElem?_getD, List.getElem?_eq_getElem (show i.toNat < l.length by omega)]
        rfl
      rw [hg]
      simp
    have := ih (i + 1) (by omega) (by omega)
    refine Ev.shift ?_
    simp only [pylonlaw02_numbers.l0, if_pos hi, if_pos i0, pylonlaw02_Z_c.f, Option.bind_some, if_pos hi2, ei]
    rw [← hs] at this
    exact this
theorem numbers_f {l : List S33} (hl : (l.length : Int) ≤ 140737488355328) (hl2 : l.length ≤ 17592186044416) : Ev (fun k => pylonlaw02_numbers.f k l) (l.map conv) := by
  unfold pylonlaw02_numbers.f
  simp only [Int.toNat_natCast, if_pos (show (0 : Int) ≤ (l.length : Int) by omega), if_pos hl2]
  have := numbers_l0 hl l.length 0 (by omega) (by omega)
  simpa using this

/-- A pair of numbers is good; its power's parts. -/
def PGood (p : Cx × Cx) : Prop := Good p.1 ∧ Good p.2
noncomputable def pRe (p : Cx × Cx) : Int := val p.1.re * val p.2.re + val p.1.im * val p.2.im
noncomputable def pIm (p : Cx × Cx) : Int := val p.1.im * val p.2.re - val p.1.re * val p.2.im
noncomputable def sRe (l : List (Cx × Cx)) : Int := (l.map pRe).sum
noncomputable def sIm (l : List (Cx × Cx)) : Int := (l.map pIm).sum
theorem sRe_cons (p : Cx × Cx) (l : List (Cx × Cx)) : sRe (p :: l) = pRe p + sRe l := by simp [sRe]
theorem sIm_cons (p : Cx × Cx) (l : List (Cx × Cx)) : sIm (p :: l) = pIm p + sIm l := by simp [sIm]
theorem pair_ok {p : Cx × Cx} (h : PGood p) (b1 : Bits p.1) (b2 : Bits p.2) : ∃ z, phasor_Power.f p.1 p.2 = some (z, 0) ∧ Is z.re (pRe p) ∧ Is z.im (pIm p) ∧ (pRe p).natAbs ≤ 2251799813685248 ∧ (pIm p).natAbs ≤ 2251799813685248 := by
  obtain ⟨⟨q1, q2⟩, q3, q4⟩ := h.1.small
  obtain ⟨⟨r1, r2⟩, r3, r4⟩ := h.2.small
  obtain ⟨z, e, i1, i2, _⟩ := power_ok b1 b2 h.1.small h.2.small
  have p1 := prod_le q2 r2
  have p2 := prod_le q4 r4
  have p3 := prod_le q2 r4
  have p4 := prod_le q4 r2
  refine ⟨z, e, i1, i2, ?_, ?_⟩
  · unfold pRe; omega
  · unfold pIm; omega
theorem rdOf_get {α : Type} (d : α) {xs : List α} {i : Int} (h : i.toNat < xs.length) : rdOf d xs i = xs[i.toNat]'h := by
  unfold rdOf
  rw [List.getD_eq_getElem?_getD, List.getElem?_eq_getElem h]
  rfl
theorem zip_at {u v : List Cx} (h : u.length = v.length) {i : Int} (i0 : 0 ≤ i) (hi : i < (u.length : Int)) : (u.zip v).drop i.toNat = (rdOf (cx 0 0) u i, rdOf (cx 0 0) v i) :: (u.zip v).drop (i + 1).toNat := by
  have hl : i.toNat < (u.zip v).length := by rw [List.length_zip]; omega
  rw [List.drop_eq_getElem_cons hl, List.getElem_zip, show (i + 1).toNat = i.toNat + 1 by omega, rdOf_get (cx 0 0) (by omega), rdOf_get (cx 0 0) (by omega)]

/-- From place i on. -/
theorem phases_l0 {u v : List Cx} (hlen : u.length = v.length) (h4 : u.length ≤ 4) (bu : ∀ z ∈ u, Bits z) (bv : ∀ z ∈ v, Bits z) :
    ∀ (d : Nat) (i : Int) (s : Cx) (A B : Int), 0 ≤ i → (u.length : Int) - i = d → IsT s.re A → IsT s.im B → A.natAbs ≤ i.toNat * 2251799813685248 → B.natAbs ≤ i.toNat * 2251799813685248 →
    ((∀ p ∈ (u.zip v).drop i.toNat, PGood p) → ∃ z, Ev (fun k => phasor_Phases.l0 k u v s (u.length : Int) i) (z, 0) ∧ IsT z.re (A + sRe ((u.zip v).drop i.toNat)) ∧ IsT z.im (B + sIm ((u.zip v).drop i.toNat)) ∧
      (A + sRe ((u.zip v).drop i.toNat)).natAbs ≤ u.length * 2251799813685248 ∧ (B + sIm ((u.zip v).drop i.toNat)).natAbs ≤ u.length * 2251799813685248) ∧
    ((¬ ∀ p ∈ (u.zip v).drop i.toNat, PGood p) → Ev (fun k => phasor_Phases.l0 k u v s (u.length : Int) i) (cx 0 0, 5)) := by
  intro d
  induction d with
  | zero =>
    intro i s A B i0 hd hA hB a b
    have hz : (u.zip v).drop i.toNat = [] := List.drop_eq_nil_of_le (by rw [List.length_zip]; omega)
    rw [hz]
    have e1 : A + sRe [] = A := by rw [show sRe [] = 0 from rfl, Int.add_zero]
    have e2 : B + sIm [] = B := by rw [show sIm [] = 0 from rfl, Int.add_zero]
    have hi : i.toNat = u.length := by omega
    rw [e1, e2]
    refine ⟨fun _ => ⟨s, ?_, hA, hB, by rw [← hi]; exact a, by rw [← hi]; exact b⟩, fun h => (h (fun p hp => by cases hp)).elim⟩
    refine Ev.shift ?_
    simp only [phasor_Phases.l0, if_neg (show ¬ i < (u.length : Int) by omega)]
    exact Ev.now _
  | succ d ih =>
    intro i s A B i0 hd hA hB a b
    have hi : i < (u.length : Int) := by omega
    have ei : wrap64 (i + 1) = i + 1 := i64in (by omega) (by omega)
    have hz := zip_at hlen i0 hi
    have hu : rdOf (cx 0 0) u i ∈ u := by
      have := drop_cons (xs := u) (cx 0 0) i0 hi
      exact List.mem_of_mem_drop (i := i.toNat) (by rw [this]; exact List.mem_cons_self)
    have hv : rdOf (cx 0 0) v i ∈ v := by
      have := drop_cons (xs := v) (cx 0 0) i0 (by omega)
      exact List.mem_of_mem_drop (i := i.toNat) (by rw [this]; exact List.mem_cons_self)
    have b1 := bu _ hu
    have b2 := bv _ hv
    rw [hz]
    by_cases g : PGood (rdOf (cx 0 0) u i, rdOf (cx 0 0) v i)
    · obtain ⟨z, e, z1, z2, z3, z4⟩ := pair_ok g b1 b2
      have hA' : Is s.re A := hA.small (by omega)
      have hB' : Is s.im B := hB.small (by omega)
      obtain ⟨ok, r, m⟩ := caddT_is hA' hB' z1 z2 (by omega) (by omega)
      obtain ⟨i1, i2⟩ := ih (i + 1) (cx (caddre s.re s.im z.re z.im) (caddim s.re s.im z.re z.im)) _ _ (by omega) (by omega) r m (by omega) (by omega)
      refine ⟨fun h => ?_, fun h => ?_⟩
      · obtain ⟨z', f, f1, f2, f3, f4⟩ := i1 (fun p hp => h p (List.mem_cons_of_mem _ hp))
        rw [Int.add_assoc, ← sRe_cons] at f1 f3
        rw [Int.add_assoc, ← sIm_cons] at f2 f4
        refine ⟨z', ?_, f1, f2, f3, f4⟩
        refine Ev.shift ?_
        simp only [phasor_Phases.l0, if_pos hi, if_pos i0, if_pos (show i < (v.length : Int) by omega), e, Option.bind_some, if_true, ok, ei]
        exact f
      · have f := i2 (fun h2 => h (fun p hp => by
          rcases List.mem_cons.mp hp with rfl | hp
          · exact g
          · exact h2 p hp))
        refine Ev.shift ?_
        simp only [phasor_Phases.l0, if_pos hi, if_pos i0, if_pos (show i < (v.length : Int) by omega), e, Option.bind_some, if_true, ok, ei]
        exact f
    · refine ⟨fun h => (g (h _ List.mem_cons_self)).elim, fun _ => ?_⟩
      have e : phasor_Power.f (rdOf (cx 0 0) u i) (rdOf (cx 0 0) v i) = some (cx 0 0, 5) := power_no b1 b2 g
      refine Ev.shift ?_
      simp only [phasor_Phases.l0, if_pos hi, if_pos i0, if_pos (show i < (v.length : Int) by omega), e, Option.bind_some]
      exact Ev.now _
/-- The power of several phases. -/
theorem phases_f {u v : List Cx} (hlen : u.length = v.length) (h4 : u.length ≤ 4) (bu : ∀ z ∈ u, Bits z) (bv : ∀ z ∈ v, Bits z) :
    ((∀ p ∈ u.zip v, PGood p) → ∃ z, Ev (fun k => phasor_Phases.f k u v) (z, 0) ∧ IsT z.re (sRe (u.zip v)) ∧ IsT z.im (sIm (u.zip v)) ∧ (sRe (u.zip v)).natAbs ≤ u.length * 2251799813685248 ∧ (sIm (u.zip v)).natAbs ≤ u.length * 2251799813685248) ∧
    ((¬ ∀ p ∈ u.zip v, PGood p) → Ev (fun k => phasor_Phases.f k u v) (cx 0 0, 5)) := by
  have h := phases_l0 hlen h4 bu bv u.length 0 (cx 0 0) 0 0 (by omega) (by omega) (.inl is_zero) (.inl is_zero) (by simp) (by simp)
  simp only [Int.toNat_zero, List.drop_zero, Int.zero_add] at h
  have hj : ∀ r, Ev (fun k => phasor_Phases.l0 k u v (cx 0 0) (u.length : Int) 0) r → Ev (fun k => phasor_Phases.f k u v) r := by
    intro r hr
    unfold phasor_Phases.f
    simp only [if_pos (show (u.length : Int) = (v.length : Int) by omega), decide_eq_false (show ¬ (u.length : Int) > 4 by omega)]
    refine Ev.shift ?_
    simp only [phasor_Phases.j0, Bool.false_eq_true, if_false]
    exact hr
  refine ⟨fun g => ?_, fun g => hj _ (h.2 g)⟩
  obtain ⟨z, e, r⟩ := h.1 g
  exact ⟨z, hj _ e, r⟩
end Go.Proofs.YtofedlghaopciaaGreatDoor.PureA
end
section
/- Texts of complex numbers: Of, Parts, Text, Read, each said in plain words. -/
set_option linter.unusedVariables false
set_option linter.unusedSimpArgs false
namespace Go.Proofs.YtofedlghaopciaaGreatDoor.PureA
open Go.RowKit Go.Proofs.YtofedlghaopciaaGreatDoor.PA Go.Proofs.YtofedlghaopciaaGreatDoor.Num Go.Proofs.YtofedlghaopciaaGreatDoor.Flt Go.Proofs.YtofedlghaopciaaGreatDoor.Dig Go.Proofs.YtofedlghaopciaaGreatDoor.Sign Go.Proofs.YtofedlghaopciaaGreatDoorW.PrintWords Go.Proofs.YtofedlghaopciaaGreatDoorW.PrintLast Go.Proofs.YtofedlghaopciaaGreatDoorW.PrintMore

theorem fixtext_f {n : Int} (h0 : -9223372036854775808 ≤ n) (h1 : n ≤ 9223372036854775807) : fix_Text.f n = some ⟨(Lib.itoa n).toArray⟩ := by
  unfold fix_Text.f Hand.textA
  rw [if_pos ⟨h0, h1⟩]
theorem app_mk (l m : List UInt8) : (ByteArray.mk l.toArray) ++ (ByteArray.mk m.toArray) = ⟨(l ++ m).toArray⟩ := by
  apply ByteArray.ext
  rw [ByteArray.data_append]
  simp
def zOf (a b : Int) : Cx := cx (floatOfInt .f64 a) (floatOfInt .f64 b)
theorem small_of {a b : Int} (ha : a.natAbs ≤ 33554432) (hb : b.natAbs ≤ 33554432) : Small (zOf a b) a b := ⟨⟨of_int (by omega), ha⟩, of_int (by omega), hb⟩
theorem bits_of (a b : Int) : Bits (zOf a b) := ⟨fint_lt a, fint_lt b⟩
theorem small_0 : Small (cx 0 0) 0 0 := ⟨⟨is_zero, by decide⟩, is_zero, by decide⟩
theorem bits_0 : Bits (cx 0 0) := ⟨by decide, by decide⟩
theorem of_yes {a b : Int} (ha : a.natAbs ≤ 33554432) (hb : b.natAbs ≤ 33554432) : phasor_Of.f a b = some (zOf a b, 0) := by
  unfold phasor_Of.f
  rw [if_neg (by omega), if_neg (by omega), if_neg (by omega), if_neg (by omega)]
  rfl
theorem of_no {a b : Int} (h : ¬ (a.natAbs ≤ 33554432 ∧ b.natAbs ≤ 33554432)) : phasor_Of.f a b = some (cx 0 0, 5) := by
  unfold phasor_Of.f
  by_cases h1 : a < -33554432
  · rw [if_pos h1]
  · rw [if_neg h1]
    by_cases h2 : a > 33554432
    · rw [if_pos h2]
    · rw [if_neg h2]
      by_cases h3 : b < -33554432
      · rw [if_pos h3]
      · rw [if_neg h3, if_pos (by omega)]
theorem parts_f {z : Cx} {a b : Int} (hb : Bits z) (h : Small z a b) : phasor_Parts.f z = some (a, b, 0) := by
  obtain ⟨⟨h1, h2⟩, h3, h4⟩ := id h
  have t1 := h1.toint (by omega) (by omega)
  have t3 := h3.toint (by omega) (by omega)
  unfold phasor_Parts.f
  rw [fits_yes hb h]
  simp only [Option.bind_some, if_true, t1.1, t1.2, t3.1, t3.2]
def txt (a b : Int) : List UInt8 := Lib.itoa a ++ ((if b < 0 then [] else [43]) ++ (Lib.itoa b ++ [105]))
theorem ptext_f {z : Cx} {a b : Int} (hb : Bits z) (h : Small z a b) : phasor_Text.f z = some (⟨(txt a b).toArray⟩, 0) := by
  have hp := parts_f hb h
  obtain ⟨⟨h1, h2⟩, h3, h4⟩ := h
  have l1 := Lib.itoa_length_le a (by omega) (by omega)
  have l2 := Lib.itoa_length_le b (by omega) (by omega)
  unfold phasor_Text.f txt
  rw [hp]
  simp only [Option.bind_some, if_true, fixtext_f (n := a) (by omega) (by omega), fixtext_f (n := b) (by omega) (by omega)]
  by_cases c : b < 0
  · have e1 : (ByteArray.mk (Lib.itoa a).toArray) ++ (⟨#[]⟩ : ByteArray) = ⟨(Lib.itoa a).toArray⟩ := by
      have := app_mk (Lib.itoa a) []
      rw [List.append_nil] at this
      exact this
    have e3 := app_mk (Lib.itoa a ++ Lib.itoa b) [105]
    simp only [if_pos c, e1, app_mk, sz_mk]
    rw [if_pos (by omega), if_pos (by omega), if_pos (by simp; omega)]
    simp
  · have e1 := app_mk (Lib.itoa a) [43]
    have e3 := app_mk (Lib.itoa a ++ [43] ++ Lib.itoa b) [105]
    have e43 : (⟨#[43]⟩ : ByteArray) = ⟨[(43 : UInt8)].toArray⟩ := rfl
    have e105 : (⟨#[105]⟩ : ByteArray) = ⟨[(105 : UInt8)].toArray⟩ := rfl
    simp only [if_neg c, e43, e105, e1, app_mk, sz_mk]
    rw [if_pos (by omega), if_pos (by simp; omega), if_pos (by simp; omega)]
    simp

/-! ### The trims -/
theorem take_mk (l : List UInt8) (n : Nat) : (ByteArray.mk l.toArray).extract 0 n = ⟨(l.take n).toArray⟩ := by
  apply ByteArray.ext
  rw [ByteArray.data_extract]
  apply Array.ext'
  simp
theorem drop_mk (l : List UInt8) (n : Nat) : (ByteArray.mk l.toArray).extract n (ByteArray.mk l.toArray).size = ⟨(l.drop n).toArray⟩ := by
  apply ByteArray.ext
  rw [ByteArray.data_extract, sz_mk]
  apply Array.ext'
  have e : ((l.drop n).take (l.length - n)) = l.drop n := List.take_of_length_le (by simp)
  first | (simp [e]; done) | (rw [Array.toList_extract]; simp [List.extract, e]; done) | (rw [Array.toList_extract, List.extract_eq_take_drop]; exact e)
def tp (l : List UInt8) : List UInt8 := if l.take 1 = [43] then l.drop 1 else l
def ts (l : List UInt8) : List UInt8 := if l.length ≥ 1 ∧ l.drop (l.length - 1) = [105] then l.take (l.length - 1) else l
theorem tp_f (l : List UInt8) : strings_TrimPrefix.f ⟨l.toArray⟩ ⟨#[43]⟩ = some ⟨(tp l).toArray⟩ := by
  have e43 : (⟨#[43]⟩ : ByteArray) = ⟨[(43 : UInt8)].toArray⟩ := rfl
  unfold strings_TrimPrefix.f stringslite_TrimPrefix.f stringslite_HasPrefix.f tp
  rw [e43]
  simp only [sz_mk, List.length_cons, List.length_nil]
  by_cases c : ((l.length : Nat) : Int) ≥ ((0 + 1 : Nat) : Int)
  · rw [if_pos c, if_pos (by omega), if_pos (by omega)]
    simp only [Option.bind_some, show (((0 + 1 : Nat) : Int)).toNat = 1 by rfl, take_mk, list_mk]
    by_cases d : l.take 1 = [43]
    · rw [d]
      simp only [beq_self_eq_true, if_true, if_pos (show (0 : Int) ≤ ((0 + 1 : Nat) : Int) by omega), if_pos (show ((0 + 1 : Nat) : Int) ≤ (l.length : Int) by omega), Option.bind_some]
      have := drop_mk l 1
      rw [sz_mk] at this
      rw [this]
    · have e : (l.take 1 == [43]) = false := beq_eq_false_iff_ne.2 d
      rw [e, if_neg d]
      rfl
  · rw [if_neg c]
    have e : l = [] := List.eq_nil_of_length_eq_zero (by omega)
    subst e
    rfl
theorem ts_f (l : List UInt8) (hl : l.length ≤ 281474976710656) : strings_TrimSuffix.f ⟨l.toArray⟩ ⟨#[105]⟩ = some ⟨(ts l).toArray⟩ := by
  have e43 : (⟨#[105]⟩ : ByteArray) = ⟨[(105 : UInt8)].toArray⟩ := rfl
  unfold strings_TrimSuffix.f stringslite_TrimSuffix.f stringslite_HasSuffix.f ts
  rw [e43]
  simp only [sz_mk, List.length_cons, List.length_nil]
  by_cases c : ((l.length : Nat) : Int) ≥ ((0 + 1 : Nat) : Int)
  · have hw : wrap64 ((l.length : Int) - ((0 + 1 : Nat) : Int)) = ((l.length - 1 : Nat) : Int) := by rw [i64in (by omega) (by omega)]; omega
    rw [if_pos c, hw, if_pos (by omega), if_pos (by omega)]
    have hd := drop_mk l (l.length - 1)
    rw [sz_mk] at hd
    simp only [Option.bind_some, Int.toNat_natCast, hd, list_mk]
    by_cases d : l.drop (l.length - 1) = [105]
    · rw [d]
      simp only [beq_self_eq_true, if_true, if_pos (show (0 : Int) ≤ ((l.length - 1 : Nat) : Int) by omega), if_pos (show ((l.length - 1 : Nat) : Int) ≤ (l.length : Int) by omega), Option.bind_some, take_mk]
      rw [if_pos ⟨by omega, trivial⟩]
    · have e : (l.drop (l.length - 1) == [105]) = false := beq_eq_false_iff_ne.2 d
      rw [e]
      simp only [Bool.false_eq_true, if_false, Option.bind_some]
      rw [if_neg (show ¬ (l.length ≥ 1 ∧ l.drop (l.length - 1) = [105]) from fun h => d h.2)]
  · rw [if_neg c]
    simp only [Bool.false_eq_true, if_false, Option.bind_some]
    rw [if_neg (show ¬ (l.length ≥ 1 ∧ l.drop (l.length - 1) = [105]) from fun h => by have := h.1; omega)]
theorem tp_len (l : List UInt8) : (tp l).length ≤ l.length := by unfold tp; split <;> simp
theorem ts_len (l : List UInt8) : (ts l).length ≤ l.length := by unfold ts; split <;> simp

/-! ### Read -/
theorem last_f (l : List UInt8) (hl : l.length ≤ 281474976710656) : strings_LastIndexAny.f ⟨l.toArray⟩ ⟨#[43, 45]⟩ = some (lastAny l) := by
  unfold strings_LastIndexAny.f Hand.lastA
  rw [if_pos ⟨rfl, by rw [sz_mk]; exact hl⟩]
theorem pread_no (l : List UInt8) (hl : l.length ≤ 281474976710656) (h : lastAny l < 1) : Ev (fun k => phasor_Read.f k ⟨l.toArray⟩) (cx 0 0, 1) := by
  unfold phasor_Read.f
  simp only [last_f l hl, Option.bind_some, if_pos h]
  exact Ev.now _
/-- What Of makes of two numbers, as a small number. -/
theorem of_any (a b : Int) : ∃ z e a' b', phasor_Of.f a b = some (z, e) ∧ Small z a' b' ∧ Bits z ∧ (e = 0 ∨ e = 5) ∧ (e = 0 → z = zOf a b ∧ a' = a ∧ b' = b) := by
  by_cases h : a.natAbs ≤ 33554432 ∧ b.natAbs ≤ 33554432
  · exact ⟨_, _, a, b, of_yes h.1 h.2, small_of h.1 h.2, bits_of a b, .inl rfl, fun _ => ⟨rfl, rfl, rfl⟩⟩
  · exact ⟨_, _, 0, 0, of_no h, small_0, bits_0, .inr rfl, fun h => absurd h (by decide)⟩
theorem pread_yes (l : List UInt8) (hl : l.length ≤ 281474976710656) {c : Nat} (hc : lastAny l = c) (h1 : 1 ≤ c) (h2 : c ≤ l.length) {z : Cx} {e a b : Int}
    (ho : phasor_Of.f (readA (l.take c)).1 (readA (ts (tp (l.drop c)))).1 = some (z, e)) (hs : Small z a b) (hb : Bits z) :
    Ev (fun k => phasor_Read.f k ⟨l.toArray⟩) (if (readA (l.take c)).2 = 0 ∧ (readA (ts (tp (l.drop c)))).2 = 0 ∧ e = 0 ∧ txt a b = l then (z, 0) else (cx 0 0, 1)) := by
  have hd := drop_mk l c
  have l1 := tp_len (l.drop c)
  have l2 := ts_len (tp (l.drop c))
  have l3 : (l.drop c).length ≤ l.length := by simp
  have l4 : (l.take c).length ≤ l.length := by simp; omega
  unfold phasor_Read.f
  simp only [last_f l hl, Option.bind_some, hc, if_neg (show ¬ ((c : Nat) : Int) < 1 by omega), if_pos (show (0 : Int) ≤ (c : Int) by omega), sz_mk, if_pos (show (c : Int) ≤ (l.length : Int) by omega), Int.toNat_natCast]
  rw [sz_mk] at hd
  rw [take_mk, hd]
  refine Ev.bind (read_f (l.take c) (by omega)) ?_
  simp only [tp_f, Option.bind_some]
  rw [ts_f _ (by omega)]
  simp only [Option.bind_some]
  refine Ev.bind (read_f _ (by omega)) ?_
  rw [ho]
  simp only [Option.bind_some]
  rw [ptext_f hb hs]
  simp only [Option.bind_some, list_mk]
  by_cases c1 : (readA (l.take c)).2 = 0
  · by_cases c2 : (readA (ts (tp (l.drop c)))).2 = 0
    · by_cases c3 : e = 0
      · by_cases c4 : txt a b = l
        · simp only [if_pos c1, if_pos c2, if_pos c3, if_pos c4, if_true]
          rw [if_pos ⟨c1, c2, c3, c4⟩]
          exact Ev.now _
        · simp only [if_pos c1, if_pos c2, if_pos c3, if_neg c4, if_true]
          rw [if_neg (fun h => c4 h.2.2.2)]
          exact Ev.now _
      · simp only [if_pos c1, if_pos c2, if_neg c3]
        rw [if_neg (fun h => c3 h.2.2.1)]
        exact Ev.now _
    · simp only [if_pos c1, if_neg c2]
      rw [if_neg (fun h => c2 h.2.1)]
      exact Ev.now _
  · simp only [if_neg c1]
    rw [if_neg (fun h => c1 h.1)]
    exact Ev.now _
end Go.Proofs.YtofedlghaopciaaGreatDoor.PureA
end
section
/- pylonref02.Four, walked by hand. -/
set_option linter.unusedVariables false
set_option linter.unusedSimpArgs false
namespace Go.Proofs.YtofedlghaopciaaGreatDoor.FourW
open Go Go.RowKit Go.Proofs.YtofedlghaopciaaGreatDoor.PA Go.Proofs.YtofedlghaopciaaGreatDoor.Num Go.Proofs.YtofedlghaopciaaGreatDoor.Flt Go.Proofs.YtofedlghaopciaaGreatDoor.PureA Go.Proofs.YtofedlghaopciaaGreatDoorW.PrintWords Go.Proofs.YtofedlghaopciaaGreatDoorW.PrintLast Go.Proofs.YtofedlghaopciaaGreatDoorW.PrintMore
attribute [local go_sem high] fx_eql fx_neq fx_lss fx_leq fx_gtr fx_geq fx_add fx_sub fx_mul fx_neg fx_toint cxx_add cxx_sub cxx_mul cxx_eql cxx_neq cxx_pick st_float st_complex
theorem w64 {x : Int} (a : -9223372036854775808 ≤ x) (b : x ≤ 9223372036854775807) : wrap64 x = x := i64in a b
theorem power_ok (m : Int) (h : -100 ≤ m ∧ m ≤ 100) : pylonref02_power.f m = some (wR (m % 4), wI (m % 4)) := by
  have key : Int.tmod (wrap64 (Int.tmod m 4 + 4)) 4 = m % 4 := by
    rcases Int.le_total 0 m with h0 | h0
    · rw [Int.tmod_eq_emod_of_nonneg h0, w64 (by omega) (by omega), Int.tmod_eq_emod_of_nonneg (by omega)]
      omega
    · have e : Int.tmod m 4 = -((-m) % 4) := by
        have h := Int.neg_tmod (-m) 4
        rw [Int.neg_neg] at h
        rw [h, Int.tmod_eq_emod_of_nonneg (a := -m) (by omega)]
      rw [e, w64 (by omega) (by omega), Int.tmod_eq_emod_of_nonneg (by omega)]
      omega
  unfold pylonref02_power.f wR wI
  rw [key]
  have h4 : m % 4 = 0 ∨ m % 4 = 1 ∨ m % 4 = 2 ∨ m % 4 = 3 := by omega
  rcases h4 with h4 | h4 | h4 | h4 <;> rw [h4] <;> rfl
theorem times_ok {A B U V : Int} {M : Nat} (hM : M ≤ 1073741824) (a : A.natAbs ≤ M) (b : B.natAbs ≤ M) (u : U.natAbs ≤ 1) (v : V.natAbs ≤ 1) : pylonref02_times.f A B U V = some (A * U - B * V, A * V + B * U) := by
  have p1 := prod_le a u
  have p2 := prod_le b v
  have p3 := prod_le a v
  have p4 := prod_le b u
  unfold pylonref02_times.f
  rw [w64 (x := A * U) (by omega) (by omega), w64 (x := B * V) (by omega) (by omega), w64 (x := A * V) (by omega) (by omega), w64 (x := B * U) (by omega) (by omega), w64 (by omega) (by omega), w64 (by omega) (by omega)]
theorem plus_ok {A B C D : Int} (a : A.natAbs ≤ 8589934592) (b : B.natAbs ≤ 8589934592) (c : C.natAbs ≤ 8589934592) (d : D.natAbs ≤ 8589934592) : pylonref02_plus.f A B C D = some (A + C, B + D) := by
  unfold pylonref02_plus.f
  rw [w64 (by omega) (by omega), w64 (by omega) (by omega)]
theorem small_kn {k n : Nat} (hk : k < 4) (hn : n < 4) : k * n ≤ 9 := Nat.mul_le_mul (show k ≤ 3 by omega) (show n ≤ 3 by omega)
theorem sR_le {A B : Nat → Int} {M : Nat} (h : ∀ n, n < 4 → (A n).natAbs ≤ M ∧ (B n).natAbs ≤ M) (s : Int) (k : Nat) : ∀ n, n ≤ 4 → (sR A B s k n).natAbs ≤ 2 * M * n ∧ (sI A B s k n).natAbs ≤ 2 * M * n := by
  intro n
  induction n with
  | zero => exact fun _ => ⟨Nat.zero_le _, Nat.zero_le _⟩
  | succ n ih =>
    intro hn
    obtain ⟨i1, i2⟩ := ih (by omega)
    obtain ⟨a, b⟩ := h n (by omega)
    have p1 := prod_le a (wR_le (s * k * n % 4))
    have p2 := prod_le b (wI_le (s * k * n % 4))
    have p3 := prod_le a (wI_le (s * k * n % 4))
    have p4 := prod_le b (wR_le (s * k * n % 4))
    rw [Nat.mul_one] at p1 p2 p3 p4
    rw [Nat.mul_succ]
    show (sR A B s k n + (A n * wR (s * k * n % 4) - B n * wI (s * k * n % 4))).natAbs ≤ _ ∧ (sI A B s k n + (A n * wI (s * k * n % 4) + B n * wR (s * k * n % 4))).natAbs ≤ _
    omega
theorem plus_bounds {A B U V S T : Int} {n : Nat} (a : A.natAbs ≤ 134217728) (b : B.natAbs ≤ 134217728) (u : U.natAbs ≤ 1) (v : V.natAbs ≤ 1) (h : S.natAbs ≤ 2 * 134217728 * n ∧ T.natAbs ≤ 2 * 134217728 * n) (hn : n < 4) :
    pylonref02_plus.f S T (A * U - B * V) (A * V + B * U) = some (S + (A * U - B * V), T + (A * V + B * U)) := by
  have p1 := prod_le a u
  have p2 := prod_le b v
  have p3 := prod_le a v
  have p4 := prod_le b u
  exact plus_ok (by omega) (by omega) (by omega) (by omega)
/-- Two pairs stand so. -/
def Pairs (c d : Nat) (a b a' b' : Int) (w' : World) : Prop := w'.cell? ⟨c, 0, none⟩ = some (.int .i64 a) ∧ w'.cell? ⟨c, 1, none⟩ = some (.int .i64 b) ∧ w'.cell? ⟨d, 0, none⟩ = some (.int .i64 a') ∧ w'.cell? ⟨d, 1, none⟩ = some (.int .i64 b')
theorem Pairs.below {c d : Nat} {a b a' b' : Int} {w w' : World} (h : Pairs c d a b a' b' w) (hb : Below w.heap.size w w') (hc : c < w.heap.size) (hd : d < w.heap.size) : Pairs c d a b a' b' w' :=
  ⟨((bcell hb).1 _ 0 hc).trans h.1, ((bcell hb).1 _ 1 hc).trans h.2.1, ((bcell hb).1 _ 0 hd).trans h.2.2.1, ((bcell hb).1 _ 1 hd).trans h.2.2.2⟩
def ref4.T : Bool × List (List Nat × List Nat) := (true, [([], []), ([], []), ([], []), ([2], [2]), ([], []), ([3, 4], [3, 4]), ([5], [5]), ([1, 6, 6], [1, 6]), ([0, 7, 7], [0, 7]), ([8, 8, 0, 1, 2, 3, 4, 5, 6, 7, 8], [8])])
def ref4.B : List Nat := [0, 0, 0, 4, 0, 28, 60, 126, 255, 511]
theorem ref4.tab : rtab .any (opsOf Tryz.f31 12) = ref4.T := by kernel_rfl
theorem ref4.bits : waitsOk ref4.T.2 ref4.B = true := by kernel_rfl
set_option maxHeartbeats 4000000 in
set_option maxRecDepth 100000 in
theorem rfour_yes (x : Nat → Cx) (A B : Nat → Int) (w : World) (hF : ∀ j, j < 4 → pylonref02_Fits.f (x j) = some (A j, B j, true)) (hM : ∀ j, j < 4 → (A j).natAbs ≤ 134217728 ∧ (B j).natAbs ≤ 134217728) :
    Calls Tryz.prog 31 #[.agg (arr x)] w fun e w' => e = .returned (.tuple #[.agg (arr fun k => numZ (sR A B (-1) k 4) (sI A B (-1) k 4)), .int .i64 0]) ∧ Below w.heap.size w w' := by
  have H := Aside0.mk hF
  have HM := Aside0.mk hM
  clear hF hM
  go_enter Tryz.func31, Tryz.ntmps31
  go_wp2
  go_loopg [10] 4 (fun g s10 wx => ∃ k : Nat, k + g = 4 ∧ s10 = .int .i64 k ∧ Row wx w.heap.size x ∧ Row wx (w.heap.size + 1) zz ∧ Row wx (w.heap.size + 1 + 1) (mid zz (fun k => numZ (sR A B (-1) k 4) (sI A B (-1) k 4)) k) ∧ Below w.heap.size w wx)
  case atStart =>
    have h1 := Row.made w x
    have e2 := Row.made (w.alloc (.cells (arr x) 26)) zz
    have e3 := Row.made ((w.alloc (.cells (arr x) 26)).alloc (.cells arr0 26)) zz
    simp only [World.size_alloc] at e2 e3
    exact ⟨0, rfl, rfl, (h1.alloc _).alloc _, e2.alloc _, e3, (((Below.refl _ _).alloc (Nat.le_refl _) _).alloc (by simp) _).alloc (by simp; omega) _⟩
  case round =>
    obtain ⟨k, hk, rfl, hrx, hrz, hro, hb0⟩ := hrel
    obtain ⟨wo, rfl⟩ : ∃ wo : World, wo = wr := ⟨_, rfl⟩
    have HX := Aside0.mk hrx
    have HZR := Aside0.mk hrz
    have HO := Aside0.mk hro
    have HB := Aside0.mk hb0
    clear hrx hrz hro hb0
    cases gk with
    | zero =>
      obtain rfl : k = 4 := by omega
      have HO4 : Aside0 (Row wo (w.heap.size + 1 + 1) (fun k => numZ (sR A B (-1) k 4) (sI A B (-1) k 4))) := Aside0.mk (HO.out.congr (fun j hj => by unfold mid; rw [if_pos hj]))
      have cor := HO4.out
      have co0 := cor.1 0 (by decide)
      have co1 := cor.1 1 (by decide)
      have co2 := cor.1 2 (by decide)
      have co3 := cor.1 3 (by decide)
      have cof := cor.2.1
      have coz := cor.2.2
      clear cor
      have czr := HZR.out
      have cz0 := czr.1 0 (by decide)
      have cz1 := czr.1 1 (by decide)
      have cz2 := czr.1 2 (by decide)
      have cz3 := czr.1 3 (by decide)
      have czf := czr.2.1
      have czz := czr.2.2
      clear czr
      go_wp2
      obtain ⟨e0, e1, e2, e3⟩ := four_sets wo (w.heap.size + 1) (.complex .f64 (numZ (sR A B (-1) 0 4) (sI A B (-1) 0 4)).re (numZ (sR A B (-1) 0 4) (sI A B (-1) 0 4)).im) (.complex .f64 (numZ (sR A B (-1) 1 4) (sI A B (-1) 1 4)).re (numZ (sR A B (-1) 1 4) (sI A B (-1) 1 4)).im) (.complex .f64 (numZ (sR A B (-1) 2 4) (sI A B (-1) 2 4)).re (numZ (sR A B (-1) 2 4) (sI A B (-1) 2 4)).im) (.complex .f64 (numZ (sR A B (-1) 3 4) (sI A B (-1) 3 4)).re (numZ (sR A B (-1) 3 4) (sI A B (-1) 3 4)).im) cz0 cz1 cz2 cz3
      refine bodyPost_ret (v := .tuple #[.agg (arr fun k => numZ (sR A B (-1) k 4) (sI A B (-1) k 4)), .int .i64 0]) ?_ rfl ⟨rfl, ?_⟩
      · simp [results, Tryz.results31, go_sem, e0, e1, e2, e3]
      · exact ((((HB.out.setCell (by simp) _).setCell (by simp) _).setCell (by simp) _).setCell (by simp) _)
    | succ g =>
      have hltk : k < 4 := by omega
      have h0k : (0 : Int) ≤ (k : Int) := by omega
      have hdk : decide ((k : Int) < 4) = true := decide_eq_true (by omega)
      have HK := Aside0.mk (show k + 1 + g = 4 by omega)
      go_wp2
      go_loopg [14] 4 (fun g2 s14 wx => ∃ n : Nat, n + g2 = 4 ∧ s14 = .int .i64 n ∧ Row wx w.heap.size x ∧ Row wx (w.heap.size + 1) zz ∧ Row wx (w.heap.size + 1 + 1) (mid zz (fun k => numZ (sR A B (-1) k 4) (sI A B (-1) k 4)) k) ∧ Below w.heap.size w wx ∧ Two wx wo.heap.size (sR A B (-1) k n) (sI A B (-1) k n))
      case atStart =>
        have h1 := Two.made wo 0 0 59
        exact ⟨0, rfl, rfl, HX.out.alloc _, HZR.out.alloc _, HO.out.alloc _, HB.out.alloc HB.out.size _, h1⟩
      case round =>
        obtain ⟨n, hn, rfl, hrx, hrz, hro, hb0, htw⟩ := hrel
        have JX := Aside0.mk hrx
        have JZ := Aside0.mk hrz
        have JO := Aside0.mk hro
        have JB := Aside0.mk hb0
        have JT := Aside0.mk htw
        have JS := Aside0.mk hb0.size
        have HC0 := Aside0.mk (show w.heap.size + 1 + 1 < wo.heap.size from HO.out.2.2)
        clear hrx hrz hro hb0 htw
        cases gk with
        | zero =>
          obtain rfl : n = 4 := by omega
          have t0 := JT.out.1
          have t1 := JT.out.2.1
          have GO := Aside0.mk (fun W (h : Row W (w.heap.size + 1 + 1) (mid zz (fun k => numZ (sR A B (-1) k 4) (sI A B (-1) k 4)) k)) => (h.here k hltk (numZ (sR A B (-1) k 4) (sI A B (-1) k 4))).congr (fun j _ => mid_step zz (fun k => numZ (sR A B (-1) k 4) (sI A B (-1) k 4)) k j))
          go_wp2_with (fail)
          (with_reducible refine (pylonref02_Made.calls (sR A B (-1) k 4) (sI A B (-1) k 4) (numZ (sR A B (-1) k 4) (sI A B (-1) k 4)) _ rfl).mono ?_)
          rintro e w1 ⟨rfl, hb⟩
          have KX := Aside0.mk (JX.out.below hb)
          have KZ := Aside0.mk (JZ.out.below hb)
          have KO := Aside0.mk (JO.out.below hb)
          have KB := Aside0.mk (JB.out.trans (hb.mono JS.out))
          have c0 := KO.out.1 k hltk
          have cf := KO.out.2.1
          clear hb t0 t1
          go_wp2
          go_roundg g
          case measure => omega
          case rel =>
            exact ⟨k + 1, HK.out, by go_num, KX.out.away _ _ (by omega), KZ.out.away _ _ (by omega), GO.out _ KO.out, KB.out.setCell (by simp; omega) _⟩
        | succ g2 =>
          have hltn : n < 4 := by omega
          have h0n : (0 : Int) ≤ (n : Int) := by omega
          have HK2 := Aside0.mk (show n + 1 + g2 = 4 by omega)
          have cx0 := JX.out.1 n hltn
          go_wp2_with (fail)
          (with_reducible refine (pylonref02_Fits.calls (x n) (A n) (B n) true _ (H.out n hltn)).mono ?_)
          rintro e w1 ⟨rfl, hb⟩
          clear cx0
          have KX := Aside0.mk ((JX.out.below hb).alloc (.cells #[.int .i64 (A n), .int .i64 (B n)] 59))
          have KZ := Aside0.mk ((JZ.out.below hb).alloc (.cells #[.int .i64 (A n), .int .i64 (B n)] 59))
          have KO := Aside0.mk ((JO.out.below hb).alloc (.cells #[.int .i64 (A n), .int .i64 (B n)] 59))
          have KT := Aside0.mk ((JT.out.below hb).alloc (.cells #[.int .i64 (A n), .int .i64 (B n)] 59))
          have KB := Aside0.mk ((JB.out.trans (hb.mono JS.out)).alloc (Nat.le_trans JS.out hb.size) (.cells #[.int .i64 (A n), .int .i64 (B n)] 59))
          have KD := Aside0.mk (Two.made w1 (A n) (B n) 59)
          have HC : Aside0 (∀ W : World, w1.heap.size + 1 ≤ W.heap.size → wo.heap.size < W.heap.size) := Aside0.mk (fun W h => by have := JT.out.2.2.2; have := hb.size; omega)
          have HD : Aside0 (∀ W : World, w1.heap.size + 1 ≤ W.heap.size → w1.heap.size < W.heap.size) := Aside0.mk (fun W h => by omega)
          clear hb
          go_wp2
          refine code_world (fun W => Row W w.heap.size x ∧ Row W (w.heap.size + 1) zz ∧ Row W (w.heap.size + 1 + 1) (mid zz (fun k => numZ (sR A B (-1) k 4) (sI A B (-1) k 4)) k) ∧ Two W wo.heap.size (sR A B (-1) k n) (sI A B (-1) k n) ∧ Below w.heap.size w W ∧ Two W w1.heap.size (A n) (B n) ∧ W.heap.size = w1.heap.size + 1) ⟨KX.out, KZ.out, KO.out, KT.out, KB.out, KD.out, by simp⟩ (fun wz hz => ?_)
          obtain ⟨zx, zz0, zo, zt, zb, zd, zs⟩ := hz
          have ZX := Aside0.mk zx
          have ZZ := Aside0.mk zz0
          have ZO := Aside0.mk zo
          have ZT := Aside0.mk zt
          have ZB := Aside0.mk zb
          have ZS := Aside0.mk zs
          have ZD := Aside0.mk zd
          clear zx zz0 zo zt zb zd zs KX KZ KO KT KB KD
          have HV0 : Aside0 (w1.heap.size + 1 ≤ wz.drew.heap.size) := Aside0.mk (by have := ZS.out; show _ ≤ wz.heap.size; omega)
          have hPA : Pairs wo.heap.size w1.heap.size (sR A B (-1) k n) (sI A B (-1) k n) (A n) (B n) wz.drew := ⟨ZT.out.1, ZT.out.2.1, ZD.out.1, ZD.out.2.1⟩
          have kn := small_kn hltk hltn
          have kw1 : IntKind.i64.wrap (-(k : Int)) = -(k : Int) := by rw [IntKind.wrap_i64]; omega
          have kw2 : IntKind.i64.wrap (-(k : Int) * (n : Int)) = -(k : Int) * (n : Int) := by
            have e : -(k : Int) * (n : Int) = -((k * n : Nat) : Int) := by rw [Int.natCast_mul, Int.neg_mul]
            rw [IntKind.wrap_i64, e]
            omega
          have HPW : Aside0 (pylonref02_power.f (-(k : Int) * (n : Int)) = some (wR (-1 * (k : Int) * (n : Int) % 4), wI (-1 * (k : Int) * (n : Int) % 4))) := Aside0.mk (by
            have e : -(k : Int) * (n : Int) = -((k * n : Nat) : Int) := by rw [Int.natCast_mul, Int.neg_mul]
            have e2 : -1 * (k : Int) * (n : Int) = -((k * n : Nat) : Int) := by rw [Int.natCast_mul, Int.neg_mul, Int.one_mul, Int.neg_mul]
            rw [e, e2]
            exact power_ok _ (by omega))
          have hAB := HM.out n hltn
          have HTM := Aside0.mk (times_ok (M := 134217728) (by decide) hAB.1 hAB.2 (wR_le (-1 * (k : Int) * (n : Int) % 4)) (wI_le (-1 * (k : Int) * (n : Int) % 4)))
          have hsb := sR_le (A := A) (B := B) (M := 134217728) HM.out (-1) k n (by omega)
          have hsb2 := sR_le (A := A) (B := B) (M := 134217728) HM.out (-1) k (n + 1) (by omega)
          have HPL : Aside0 (pylonref02_plus.f (sR A B (-1) k n) (sI A B (-1) k n) (A n * wR (-1 * (k : Int) * (n : Int) % 4) - B n * wI (-1 * (k : Int) * (n : Int) % 4)) (A n * wI (-1 * (k : Int) * (n : Int) % 4) + B n * wR (-1 * (k : Int) * (n : Int) % 4)) = some (sR A B (-1) k (n + 1), sI A B (-1) k (n + 1))) := Aside0.mk (plus_bounds hAB.1 hAB.2 (wR_le _) (wI_le _) hsb hltn)
          clear kn hAB hsb hsb2 h0k h0n
          refine start_ (n := 10) (S := Pairs wo.heap.size w1.heap.size (sR A B (-1) k n) (sI A B (-1) k n) (A n) (B n)) (ds := [9]) #[false, false, false, false, false, false, false, false, false, false] (by kernel_rfl) rfl rfl (hPA) (fun hHeld => ?_)
          refine with_tabW ref4.tab ref4.bits (fun HT_ HW_ => ?_)
          refine take_ (i := 0) (N := some 27) (v := ?_) (a' := ?_) #[true, false, false, false, false, false, false, false, false, false] rfl rfl (take_ofW HT_.out HW_.out (by kernel_rfl)) (fun _ _ _ h => h) (Or.inl ⟨by rfl, ?_⟩) hHeld ?_ ?_
          rotate_left
          · rintro w' ⟨s0, s1, s2, s3⟩
            go_simp
            with_reducible rfl
          rotate_left
          · simp only [Act.put, List.setIfInBounds_toArray, List.set_cons_zero, List.set_cons_succ]
            rfl
          refine take_ (i := 1) (N := some 28) (v := ?_) (a' := ?_) #[true, true, false, false, false, false, false, false, false, false] rfl rfl (take_ofW HT_.out HW_.out (by kernel_rfl)) (fun _ _ _ h => h) (Or.inl ⟨by rfl, ?_⟩) hHeld ?_ ?_
          rotate_left
          · rintro w' ⟨s0, s1, s2, s3⟩
            go_simp
            with_reducible rfl
          rotate_left
          · simp only [Act.put, List.setIfInBounds_toArray, List.set_cons_zero, List.set_cons_succ]
            rfl
          refine pure_ (i := 2) (N := some 29) (v := ?_) (a' := ?_) #[true, true, true, false, false, false, false, false, false, false] rfl rfl (any_of HT_.out (by kernel_rfl)) (fun _ _ _ h => h) (Or.inl ⟨by rfl, ?_⟩) ?_ ?_
          rotate_left
          · intro w'
            go_simp
            with_reducible rfl
          rotate_left
          · simp only [Act.put, List.setIfInBounds_toArray, List.set_cons_zero, List.set_cons_succ]
            rfl
          refine pure_ (i := 3) (N := some 30) (v := ?_) (a' := ?_) #[true, true, true, true, false, false, false, false, false, false] rfl rfl (any_of HT_.out (by kernel_rfl)) (fun _ _ _ h => h) (Or.inl ⟨by rfl, ?_⟩) ?_ ?_
          rotate_left
          · intro w'
            go_simp
            with_reducible rfl
          rotate_left
          · simp only [Act.put, List.setIfInBounds_toArray, List.set_cons_zero, List.set_cons_succ]
            rfl
          refine pure_ (i := 4) (N := some 31) (v := ?_) (a' := ?_) #[true, true, true, true, true, false, false, false, false, false] rfl rfl (any_of HT_.out (by kernel_rfl)) (fun _ _ _ h => h) (Or.inl ⟨by rfl, ?_⟩) ?_ ?_
          rotate_left
          · intro w'
            go_simp
            with_reducible rfl
          rotate_left
          · simp only [Act.put, List.setIfInBounds_toArray, List.set_cons_zero, List.set_cons_succ]
            rfl
          refine pure_ (i := 5) (N := some 32) (v := ?_) (a' := ?_) #[true, true, true, true, true, true, false, false, false, false] rfl rfl (any_of HT_.out (by kernel_rfl)) (fun _ _ _ h => h) (Or.inl ⟨by rfl, ?_⟩) ?_ ?_
          rotate_left
          · intro w'
            go_simp
            with_reducible rfl
          rotate_left
          · simp only [Act.put, List.setIfInBounds_toArray, List.set_cons_zero, List.set_cons_succ]
            rfl
          refine one_ (i := 6) (N := some 33) #[true, true, true, true, true, true, true, false, false, false] rfl rfl (one_of HT_.out (by kernel_rfl)) (by decide) (fun K hK => ?_)
          refine goes_ Tryz.func51 (by kernel_rfl) rfl _ (by rfl) rfl rfl (by (try simp only [List.map_toArray, List.map_cons, List.map_nil]); rfl) ?_
          refine (pylonref02_power.calls _ _ _ _ HPW.out).mono ?_
          rintro e v1 ⟨rfl, hb⟩
          have HV1 := Aside0.mk (Nat.le_trans HV0.out hb.size)
          have HW1 := Aside0.mk hb
          refine ⟨_, rfl, ?_⟩
          refine hK.out _ _ (Pairs.below hHeld hb (HC.out _ HV0.out) (HD.out _ HV0.out)) (fun hHeld => ?_)
          clear hK K
          refine norm_ (a' := ?_) ?_ ?_
          rotate_left
          · show Act.put _ (some 33) _ = _
            simp only [Act.put, List.setIfInBounds_toArray, List.set_cons_zero, List.set_cons_succ]
            rfl
          refine one_ (i := 7) (N := some 34) #[true, true, true, true, true, true, true, true, false, false] rfl rfl (one_of HT_.out (by kernel_rfl)) (by decide) (fun K hK => ?_)
          refine goes_ Tryz.func49 (by kernel_rfl) rfl _ (by rfl) rfl rfl (by (try simp only [List.map_toArray, List.map_cons, List.map_nil]); rfl) ?_
          refine (pylonref02_times.calls _ _ _ _ _ _ _ HTM.out).mono ?_
          rintro e v2 ⟨rfl, hb⟩
          have HV2 := Aside0.mk (Nat.le_trans HV1.out hb.size)
          have HW2 := Aside0.mk (HW1.out.trans (hb.mono HW1.out.size))
          refine ⟨_, rfl, ?_⟩
          refine hK.out _ _ (Pairs.below hHeld hb (HC.out _ HV1.out) (HD.out _ HV1.out)) (fun hHeld => ?_)
          clear hK K
          refine norm_ (a' := ?_) ?_ ?_
          rotate_left
          · show Act.put _ (some 34) _ = _
            simp only [Act.put, List.setIfInBounds_toArray, List.set_cons_zero, List.set_cons_succ]
            rfl
          refine one_ (i := 8) (N := some 35) #[true, true, true, true, true, true, true, true, true, false] rfl rfl (one_of HT_.out (by kernel_rfl)) (by decide) (fun K hK => ?_)
          refine goes_ Tryz.func48 (by kernel_rfl) rfl _ (by rfl) rfl rfl (by (try simp only [List.map_toArray, List.map_cons, List.map_nil]); rfl) ?_
          refine (pylonref02_plus.calls _ _ _ _ _ _ _ HPL.out).mono ?_
          rintro e v3 ⟨rfl, hb⟩
          have HV3 := Aside0.mk (Nat.le_trans HV2.out hb.size)
          have HW3 := Aside0.mk (HW2.out.trans (hb.mono HW2.out.size))
          refine ⟨_, rfl, ?_⟩
          refine hK.out _ _ (Pairs.below hHeld hb (HC.out _ HV2.out) (HD.out _ HV2.out)) (fun hHeld => ?_)
          clear hK K
          refine norm_ (a' := ?_) ?_ ?_
          rotate_left
          · show Act.put _ (some 35) _ = _
            simp only [Act.put, List.setIfInBounds_toArray, List.set_cons_zero, List.set_cons_succ]
            rfl
          refine last_ (i := 9) (N := none) #[true, true, true, true, true, true, true, true, true, true] rfl rfl (one_of HT_.out (by kernel_rfl)) (by decide) (fun K hK => ?_)
          have hq0 := hHeld.1
          have hq1 := hHeld.2.1
          have hqf := ((ZT.out.draw 1).below HW3.out).2.2.1
          refine skip_ (w1 := ?_) (by rfl) rfl ?_ ?_
          rotate_left
          · go_simp
            rfl
          refine hK.out _ _ ?_
          clear hK K
          refine done_ (by kernel_rfl) ?_
          go_wp2
          go_roundg g2
          case measure => omega
          case rel =>
            have hlo := JT.out.2.2.2
            have hh := HC0.out
            have hw := ZB.out.size
            exact ⟨n + 1, HK2.out, by go_num, (((ZX.out.draw 1).below HW3.out).away _ _ (by omega)).away _ _ (by omega), (((ZZ.out.draw 1).below HW3.out).away _ _ (by omega)).away _ _ (by omega), (((ZO.out.draw 1).below HW3.out).away _ _ (by omega)).away _ _ (by omega), (((pw_below_drewN ZB.out 1).trans (HW3.out.mono hw)).setCell (by simp; omega) _).setCell (by simp; omega) _, ((ZT.out.draw 1).below HW3.out).put _ _⟩
set_option maxHeartbeats 4000000 in
set_option maxRecDepth 100000 in
theorem rfour_no (x : Nat → Cx) (A B : Nat → Int) (w : World) (m : Nat) (hm : m < 4) (hN : ∃ a b, pylonref02_Fits.f (x m) = some (a, b, false)) (hF : ∀ j, j < m → pylonref02_Fits.f (x j) = some (A j, B j, true)) (hM : ∀ j, j < 4 → (A j).natAbs ≤ 134217728 ∧ (B j).natAbs ≤ 134217728) :
    Calls Tryz.prog 31 #[.agg (arr x)] w fun e w' => e = .returned (.tuple #[.agg arr0, .int .i64 5]) ∧ Below w.heap.size w w' := by
  have H := Aside0.mk hF
  have HN := Aside0.mk hN
  have HMM := Aside0.mk hm
  have HM := Aside0.mk hM
  clear hF hM hN hm
  go_enter Tryz.func31, Tryz.ntmps31
  go_wp2
  go_loopg [10] 3 (fun g s10 wx => ∃ k : Nat, k + g = 3 ∧ s10 = .int .i64 k ∧ Row wx w.heap.size x ∧ Row wx (w.heap.size + 1) zz ∧ Row wx (w.heap.size + 1 + 1) (mid zz (fun k => numZ (sR A B (-1) k 4) (sI A B (-1) k 4)) k) ∧ Below w.heap.size w wx)
  case atStart =>
    have h1 := Row.made w x
    have e2 := Row.made (w.alloc (.cells (arr x) 26)) zz
    have e3 := Row.made ((w.alloc (.cells (arr x) 26)).alloc (.cells arr0 26)) zz
    simp only [World.size_alloc] at e2 e3
    exact ⟨0, rfl, rfl, (h1.alloc _).alloc _, e2.alloc _, e3, (((Below.refl _ _).alloc (Nat.le_refl _) _).alloc (by simp) _).alloc (by simp; omega) _⟩
  case round =>
    obtain ⟨k, hk, rfl, hrx, hrz, hro, hb0⟩ := hrel
    obtain ⟨wo, rfl⟩ : ∃ wo : World, wo = wr := ⟨_, rfl⟩
    have HX := Aside0.mk hrx
    have HZR := Aside0.mk hrz
    have HO := Aside0.mk hro
    have HB := Aside0.mk hb0
    clear hrx hrz hro hb0
    all_goals
      have hltk : k < 4 := by omega
      have h0k : (0 : Int) ≤ (k : Int) := by omega
      have hdk : decide ((k : Int) < 4) = true := decide_eq_true (by omega)
      go_wp2
      go_loopg [14] 4 (fun g2 s14 wx => ∃ n : Nat, n + g2 = 4 ∧ n ≤ m ∧ s14 = .int .i64 n ∧ Row wx w.heap.size x ∧ Row wx (w.heap.size + 1) zz ∧ Row wx (w.heap.size + 1 + 1) (mid zz (fun k => numZ (sR A B (-1) k 4) (sI A B (-1) k 4)) k) ∧ Below w.heap.size w wx ∧ Two wx wo.heap.size (sR A B (-1) k n) (sI A B (-1) k n))
      case atStart =>
        have h1 := Two.made wo 0 0 59
        exact ⟨0, rfl, Nat.zero_le _, rfl, HX.out.alloc _, HZR.out.alloc _, HO.out.alloc _, HB.out.alloc HB.out.size _, h1⟩
      case round =>
        obtain ⟨n, hn, hnm, rfl, hrx, hrz, hro, hb0, htw⟩ := hrel
        have JX := Aside0.mk hrx
        have JZ := Aside0.mk hrz
        have JO := Aside0.mk hro
        have JB := Aside0.mk hb0
        have JT := Aside0.mk htw
        have JS := Aside0.mk hb0.size
        have HC0 := Aside0.mk (show w.heap.size + 1 + 1 < wo.heap.size from HO.out.2.2)
        clear hrx hrz hro hb0 htw
        cases gk with
        | zero => have := HMM.out; omega
        | succ g2 =>
          have hltn : n < 4 := by omega
          have h0n : (0 : Int) ≤ (n : Int) := by omega
          have HK2 := Aside0.mk (show n + 1 + g2 = 4 by omega)
          by_cases hlm : n < m
          · have cx0 := JX.out.1 n hltn
            have HL := Aside0.mk (show n + 1 ≤ m by omega)
            have HLM := Aside0.mk hlm
            clear hnm hlm
            go_wp2_with (fail)
            (with_reducible refine (pylonref02_Fits.calls (x n) (A n) (B n) true _ (H.out n HLM.out)).mono ?_)
            rintro e w1 ⟨rfl, hb⟩
            clear cx0
            have KX := Aside0.mk ((JX.out.below hb).alloc (.cells #[.int .i64 (A n), .int .i64 (B n)] 59))
            have KZ := Aside0.mk ((JZ.out.below hb).alloc (.cells #[.int .i64 (A n), .int .i64 (B n)] 59))
            have KO := Aside0.mk ((JO.out.below hb).alloc (.cells #[.int .i64 (A n), .int .i64 (B n)] 59))
            have KT := Aside0.mk ((JT.out.below hb).alloc (.cells #[.int .i64 (A n), .int .i64 (B n)] 59))
            have KB := Aside0.mk ((JB.out.trans (hb.mono JS.out)).alloc (Nat.le_trans JS.out hb.size) (.cells #[.int .i64 (A n), .int .i64 (B n)] 59))
            have KD := Aside0.mk (Two.made w1 (A n) (B n) 59)
            have HC : Aside0 (∀ W : World, w1.heap.size + 1 ≤ W.heap.size → wo.heap.size < W.heap.size) := Aside0.mk (fun W h => by have := JT.out.2.2.2; have := hb.size; omega)
            have HD : Aside0 (∀ W : World, w1.heap.size + 1 ≤ W.heap.size → w1.heap.size < W.heap.size) := Aside0.mk (fun W h => by omega)
            clear hb
            go_wp2
            refine code_world (fun W => Row W w.heap.size x ∧ Row W (w.heap.size + 1) zz ∧ Row W (w.heap.size + 1 + 1) (mid zz (fun k => numZ (sR A B (-1) k 4) (sI A B (-1) k 4)) k) ∧ Two W wo.heap.size (sR A B (-1) k n) (sI A B (-1) k n) ∧ Below w.heap.size w W ∧ Two W w1.heap.size (A n) (B n) ∧ W.heap.size = w1.heap.size + 1) ⟨KX.out, KZ.out, KO.out, KT.out, KB.out, KD.out, by simp⟩ (fun wz hz => ?_)
            obtain ⟨zx, zz0, zo, zt, zb, zd, zs⟩ := hz
            have ZX := Aside0.mk zx
            have ZZ := Aside0.mk zz0
            have ZO := Aside0.mk zo
            have ZT := Aside0.mk zt
            have ZB := Aside0.mk zb
            have ZS := Aside0.mk zs
            have ZD := Aside0.mk zd
            clear zx zz0 zo zt zb zd zs KX KZ KO KT KB KD
            have HV0 : Aside0 (w1.heap.size + 1 ≤ wz.drew.heap.size) := Aside0.mk (by have := ZS.out; show _ ≤ wz.heap.size; omega)
            have hPA : Pairs wo.heap.size w1.heap.size (sR A B (-1) k n) (sI A B (-1) k n) (A n) (B n) wz.drew := ⟨ZT.out.1, ZT.out.2.1, ZD.out.1, ZD.out.2.1⟩
            have kn := small_kn hltk hltn
            have kw1 : IntKind.i64.wrap (-(k : Int)) = -(k : Int) := by rw [IntKind.wrap_i64]; omega
            have kw2 : IntKind.i64.wrap (-(k : Int) * (n : Int)) = -(k : Int) * (n : Int) := by
              have e : -(k : Int) * (n : Int) = -((k * n : Nat) : Int) := by rw [Int.natCast_mul, Int.neg_mul]
              rw [IntKind.wrap_i64, e]
              omega
            have HPW : Aside0 (pylonref02_power.f (-(k : Int) * (n : Int)) = some (wR (-1 * (k : Int) * (n : Int) % 4), wI (-1 * (k : Int) * (n : Int) % 4))) := Aside0.mk (by
              have e : -(k : Int) * (n : Int) = -((k * n : Nat) : Int) := by rw [Int.natCast_mul, Int.neg_mul]
              have e2 : -1 * (k : Int) * (n : Int) = -((k * n : Nat) : Int) := by rw [Int.natCast_mul, Int.neg_mul, Int.one_mul, Int.neg_mul]
              rw [e, e2]
              exact power_ok _ (by omega))
            have hAB := HM.out n hltn
            have HTM := Aside0.mk (times_ok (M := 134217728) (by decide) hAB.1 hAB.2 (wR_le (-1 * (k : Int) * (n : Int) % 4)) (wI_le (-1 * (k : Int) * (n : Int) % 4)))
            have hsb := sR_le (A := A) (B := B) (M := 134217728) HM.out (-1) k n (by omega)
            have hsb2 := sR_le (A := A) (B := B) (M := 134217728) HM.out (-1) k (n + 1) (by omega)
            have HPL : Aside0 (pylonref02_plus.f (sR A B (-1) k n) (sI A B (-1) k n) (A n * wR (-1 * (k : Int) * (n : Int) % 4) - B n * wI (-1 * (k : Int) * (n : Int) % 4)) (A n * wI (-1 * (k : Int) * (n : Int) % 4) + B n * wR (-1 * (k : Int) * (n : Int) % 4)) = some (sR A B (-1) k (n + 1), sI A B (-1) k (n + 1))) := Aside0.mk (plus_bounds hAB.1 hAB.2 (wR_le _) (wI_le _) hsb hltn)
            clear kn hAB hsb hsb2 h0k h0n
            refine start_ (n := 10) (S := Pairs wo.heap.size w1.heap.size (sR A B (-1) k n) (sI A B (-1) k n) (A n) (B n)) (ds := [9]) #[false, false, false, false, false, false, false, false, false, false] (by kernel_rfl) rfl rfl (hPA) (fun hHeld => ?_)
            refine with_tabW ref4.tab ref4.bits (fun HT_ HW_ => ?_)
            refine take_ (i := 0) (N := some 27) (v := ?_) (a' := ?_) #[true, false, false, false, false, false, false, false, false, false] rfl rfl (take_ofW HT_.out HW_.out (by kernel_rfl)) (fun _ _ _ h => h) (Or.inl ⟨by rfl, ?_⟩) hHeld ?_ ?_
            rotate_left
            · rintro w' ⟨s0, s1, s2, s3⟩
              go_simp
              with_reducible rfl
            rotate_left
            · simp only [Act.put, List.setIfInBounds_toArray, List.set_cons_zero, List.set_cons_succ]
              rfl
            refine take_ (i := 1) (N := some 28) (v := ?_) (a' := ?_) #[true, true, false, false, false, false, false, false, false, false] rfl rfl (take_ofW HT_.out HW_.out (by kernel_rfl)) (fun _ _ _ h => h) (Or.inl ⟨by rfl, ?_⟩) hHeld ?_ ?_
            rotate_left
            · rintro w' ⟨s0, s1, s2, s3⟩
              go_simp
              with_reducible rfl
            rotate_left
            · simp only [Act.put, List.setIfInBounds_toArray, List.set_cons_zero, List.set_cons_succ]
              rfl
            refine pure_ (i := 2) (N := some 29) (v := ?_) (a' := ?_) #[true, true, true, false, false, false, false, false, false, false] rfl rfl (any_of HT_.out (by kernel_rfl)) (fun _ _ _ h => h) (Or.inl ⟨by rfl, ?_⟩) ?_ ?_
            rotate_left
            · intro w'
              go_simp
              with_reducible rfl
            rotate_left
            · simp only [Act.put, List.setIfInBounds_toArray, List.set_cons_zero, List.set_cons_succ]
              rfl
            refine pure_ (i := 3) (N := some 30) (v := ?_) (a' := ?_) #[true, true, true, true, false, false, false, false, false, false] rfl rfl (any_of HT_.out (by kernel_rfl)) (fun _ _ _ h => h) (Or.inl ⟨by rfl, ?_⟩) ?_ ?_
            rotate_left
            · intro w'
              go_simp
              with_reducible rfl
            rotate_left
            · simp only [Act.put, List.setIfInBounds_toArray, List.set_cons_zero, List.set_cons_succ]
              rfl
            refine pure_ (i := 4) (N := some 31) (v := ?_) (a' := ?_) #[true, true, true, true, true, false, false, false, false, false] rfl rfl (any_of HT_.out (by kernel_rfl)) (fun _ _ _ h => h) (Or.inl ⟨by rfl, ?_⟩) ?_ ?_
            rotate_left
            · intro w'
              go_simp
              with_reducible rfl
            rotate_left
            · simp only [Act.put, List.setIfInBounds_toArray, List.set_cons_zero, List.set_cons_succ]
              rfl
            refine pure_ (i := 5) (N := some 32) (v := ?_) (a' := ?_) #[true, true, true, true, true, true, false, false, false, false] rfl rfl (any_of HT_.out (by kernel_rfl)) (fun _ _ _ h => h) (Or.inl ⟨by rfl, ?_⟩) ?_ ?_
            rotate_left
            · intro w'
              go_simp
              with_reducible rfl
            rotate_left
            · simp only [Act.put, List.setIfInBounds_toArray, List.set_cons_zero, List.set_cons_succ]
              rfl
            refine one_ (i := 6) (N := some 33) #[true, true, true, true, true, true, true, false, false, false] rfl rfl (one_of HT_.out (by kernel_rfl)) (by decide) (fun K hK => ?_)
            refine goes_ Tryz.func51 (by kernel_rfl) rfl _ (by rfl) rfl rfl (by (try simp only [List.map_toArray, List.map_cons, List.map_nil]); rfl) ?_
            refine (pylonref02_power.calls _ _ _ _ HPW.out).mono ?_
            rintro e v1 ⟨rfl, hb⟩
            have HV1 := Aside0.mk (Nat.le_trans HV0.out hb.size)
            have HW1 := Aside0.mk hb
            refine ⟨_, rfl, ?_⟩
            refine hK.out _ _ (Pairs.below hHeld hb (HC.out _ HV0.out) (HD.out _ HV0.out)) (fun hHeld => ?_)
            clear hK K
            refine norm_ (a' := ?_) ?_ ?_
            rotate_left
            · show Act.put _ (some 33) _ = _
              simp only [Act.put, List.setIfInBounds_toArray, List.set_cons_zero, List.set_cons_succ]
              rfl
            refine one_ (i := 7) (N := some 34) #[true, true, true, true, true, true, true, true, false, false] rfl rfl (one_of HT_.out (by kernel_rfl)) (by decide) (fun K hK => ?_)
            refine goes_ Tryz.func49 (by kernel_rfl) rfl _ (by rfl) rfl rfl (by (try simp only [List.map_toArray, List.map_cons, List.map_nil]); rfl) ?_
            refine (pylonref02_times.calls _ _ _ _ _ _ _ HTM.out).mono ?_
            rintro e v2 ⟨rfl, hb⟩
            have HV2 := Aside0.mk (Nat.le_trans HV1.out hb.size)
            have HW2 := Aside0.mk (HW1.out.trans (hb.mono HW1.out.size))
            refine ⟨_, rfl, ?_⟩
            refine hK.out _ _ (Pairs.below hHeld hb (HC.out _ HV1.out) (HD.out _ HV1.out)) (fun hHeld => ?_)
            clear hK K
            refine norm_ (a' := ?_) ?_ ?_
            rotate_left
            · show Act.put _ (some 34) _ = _
              simp only [Act.put, List.setIfInBounds_toArray, List.set_cons_zero, List.set_cons_succ]
              rfl
            refine one_ (i := 8) (N := some 35) #[true, true, true, true, true, true, true, true, true, false] rfl rfl (one_of HT_.out (by kernel_rfl)) (by decide) (fun K hK => ?_)
            refine goes_ Tryz.func48 (by kernel_rfl) rfl _ (by rfl) rfl rfl (by (try simp only [List.map_toArray, List.map_cons, List.map_nil]); rfl) ?_
            refine (pylonref02_plus.calls _ _ _ _ _ _ _ HPL.out).mono ?_
            rintro e v3 ⟨rfl, hb⟩
            have HV3 := Aside0.mk (Nat.le_trans HV2.out hb.size)
            have HW3 := Aside0.mk (HW2.out.trans (hb.mono HW2.out.size))
            refine ⟨_, rfl, ?_⟩
            refine hK.out _ _ (Pairs.below hHeld hb (HC.out _ HV2.out) (HD.out _ HV2.out)) (fun hHeld => ?_)
            clear hK K
            refine norm_ (a' := ?_) ?_ ?_
            rotate_left
            · show Act.put _ (some 35) _ = _
              simp only [Act.put, List.setIfInBounds_toArray, List.set_cons_zero, List.set_cons_succ]
              rfl
            refine last_ (i := 9) (N := none) #[true, true, true, true, true, true, true, true, true, true] rfl rfl (one_of HT_.out (by kernel_rfl)) (by decide) (fun K hK => ?_)
            have hq0 := hHeld.1
            have hq1 := hHeld.2.1
            have hqf := ((ZT.out.draw 1).below HW3.out).2.2.1
            refine skip_ (w1 := ?_) (by rfl) rfl ?_ ?_
            rotate_left
            · go_simp
              rfl
            refine hK.out _ _ ?_
            clear hK K
            refine done_ (by kernel_rfl) ?_
            go_wp2
            go_roundg g2
            case measure => omega
            case rel =>
              have hlo := JT.out.2.2.2
              have hh := HC0.out
              have hw := ZB.out.size
              exact ⟨n + 1, HK2.out, HL.out, by go_num, (((ZX.out.draw 1).below HW3.out).away _ _ (by omega)).away _ _ (by omega), (((ZZ.out.draw 1).below HW3.out).away _ _ (by omega)).away _ _ (by omega), (((ZO.out.draw 1).below HW3.out).away _ _ (by omega)).away _ _ (by omega), (((pw_below_drewN ZB.out 1).trans (HW3.out.mono hw)).setCell (by simp; omega) _).setCell (by simp; omega) _, ((ZT.out.draw 1).below HW3.out).put _ _⟩
          · obtain rfl : n = m := by omega
            obtain ⟨a, b, hab⟩ := HN.out
            have cx0 := JX.out.1 n hltn
            clear hnm hlm
            go_wp2_with (fail)
            (with_reducible refine (pylonref02_Fits.calls (x n) a b false _ hab).mono ?_)
            rintro e w1 ⟨rfl, hb⟩
            clear cx0
            have KB := Aside0.mk (JB.out.trans (hb.mono JS.out))
            have KS := Aside0.mk (Nat.le_trans JS.out hb.size)
            have czr := (JZ.out.below hb)
            have cz0 := czr.1 0 (by decide)
            have cz1 := czr.1 1 (by decide)
            have cz2 := czr.1 2 (by decide)
            have cz3 := czr.1 3 (by decide)
            have czf := czr.2.1
            have czz := czr.2.2
            clear czr
            clear hb
            go_wp2
            obtain ⟨e0, e1, e2, e3⟩ := four_sets w1 (w.heap.size + 1) (.complex .f64 0 0) (.complex .f64 0 0) (.complex .f64 0 0) (.complex .f64 0 0) cz0 cz1 cz2 cz3
            have u0 := fun (o : Obj) => (World.cell?_alloc_past o _ 0 (by simpa using czz)).trans e0
            have u1 := fun (o : Obj) => (World.cell?_alloc_past o _ 1 (by simpa using czz)).trans e1
            have u2 := fun (o : Obj) => (World.cell?_alloc_past o _ 2 (by simpa using czz)).trans e2
            have u3 := fun (o : Obj) => (World.cell?_alloc_past o _ 3 (by simpa using czz)).trans e3
            refine bodyPost_ret (v := .tuple #[.agg arr0, .int .i64 5]) ?_ rfl ⟨rfl, ?_⟩
            · simp [results, Tryz.results31, go_sem, u0, u1, u2, u3]
            · exact ((((KB.out.setCell (by simp) _).setCell (by simp) _).setCell (by simp) _).setCell (by simp) _).alloc (by simpa using KS.out) _
end Go.Proofs.YtofedlghaopciaaGreatDoor.FourW
end
section
/- PhasorAll: which numbers fit, on both sides; Of, Parts, Turn. -/
set_option linter.unusedVariables false
set_option linter.unusedSimpArgs false
namespace Go.Proofs.YtofedlghaopciaaGreatDoor.PureA
open Go.RowKit Go.Proofs.YtofedlghaopciaaGreatDoor.PA Go.Proofs.YtofedlghaopciaaGreatDoor.Num Go.Proofs.YtofedlghaopciaaGreatDoor.Flt Go.Proofs.YtofedlghaopciaaGreatDoor.FourW Go.Proofs.YtofedlghaopciaaGreatDoorW.PrintWords Go.Proofs.YtofedlghaopciaaGreatDoorW.PrintLast Go.Proofs.YtofedlghaopciaaGreatDoorW.PrintMore
section
variable {M : Int}
theorem rwhole_yes (hM0 : 0 ≤ M) (hM : M < 9007199254740992) {x : Nat} {n : Int} (h : Is x n) (hn : n.natAbs ≤ M.toNat) : pylonref02_whole.f x M = some (n, true) := by
  have a := of_int (n := M) (by omega)
  obtain ⟨o, e⟩ := h.toint (by omega) (by omega)
  unfold pylonref02_whole.f
  rw [h.fge a.neg, h.fle a, decide_eq_true (by omega), decide_eq_true (by omega), o, e, (of_int (n := n) (by omega)).feq h, decide_eq_true rfl]
  rfl
theorem rwhole_no (hM0 : 0 ≤ M) (hM : M < 9007199254740992) {x : Nat} (h : ¬ ∃ n, Is x n ∧ n.natAbs ≤ M.toNat) : ∃ m, pylonref02_whole.f x M = some (m, false) := by
  have a := of_int (n := M) (by omega)
  unfold pylonref02_whole.f
  by_cases h1 : fge x (fneg (floatOfInt .f64 M)) = true
  · by_cases h2 : fle x (floatOfInt .f64 M) = true
    · obtain ⟨o, e⟩ := not_whole hM0 hM a.neg a h1 h2 h
      rw [if_pos h1, if_pos h2, if_pos o, e]
      exact ⟨_, rfl⟩
    · rw [if_pos h1, if_neg h2]
      exact ⟨_, rfl⟩
  · rw [if_neg h1]
    exact ⟨_, rfl⟩
/-- Both parts whole and not farther from 0 than m. -/
def In (m : Nat) (z : Cx) (A B : Int) : Prop := (Is z.re A ∧ A.natAbs ≤ m) ∧ Is z.im B ∧ B.natAbs ≤ m
theorem within_yes (hM0 : 0 ≤ M) (hM : M < 9007199254740992) {z : Cx} {A B : Int} (h : In M.toNat z A B) : pylonref02_Within.f z M = some (A, B, true) := by
  unfold pylonref02_Within.f
  rw [rwhole_yes hM0 hM h.1.1 h.1.2, rwhole_yes hM0 hM h.2.1 h.2.2]
  rfl
theorem within_no (hM0 : 0 ≤ M) (hM : M < 9007199254740992) {z : Cx} (h : ¬ ∃ A B, In M.toNat z A B) : ∃ a b, pylonref02_Within.f z M = some (a, b, false) := by
  unfold pylonref02_Within.f
  by_cases g : ∃ n, Is z.re n ∧ n.natAbs ≤ M.toNat
  · obtain ⟨n, n1, n2⟩ := g
    obtain ⟨m, e⟩ := rwhole_no hM0 hM (x := z.im) (fun ⟨b, b1, b2⟩ => h ⟨n, b, ⟨n1, n2⟩, b1, b2⟩)
    rw [rwhole_yes hM0 hM n1 n2, e]
    exact ⟨_, _, rfl⟩
  · obtain ⟨m, e⟩ := rwhole_no hM0 hM g
    by_cases g2 : ∃ n, Is z.im n ∧ n.natAbs ≤ M.toNat
    · obtain ⟨n, n1, n2⟩ := g2
      rw [e, rwhole_yes hM0 hM n1 n2]
      exact ⟨_, _, rfl⟩
    · obtain ⟨m2, e2⟩ := rwhole_no hM0 hM g2
      rw [e, e2]
      exact ⟨_, _, rfl⟩
end
theorem rfits_yes {z : Cx} {A B : Int} (h : Small z A B) : pylonref02_Fits.f z = some (A, B, true) := by
  unfold pylonref02_Fits.f
  rw [within_yes (M := 33554432) (by decide) (by decide) h]
  rfl
theorem rfits_no {z : Cx} (h : ¬ Good z) : ∃ a b, pylonref02_Fits.f z = some (a, b, false) := by
  obtain ⟨a, b, e⟩ := within_no (M := 33554432) (by decide) (by decide) (z := z) h
  unfold pylonref02_Fits.f
  rw [e]
  exact ⟨a, b, rfl⟩
/-! ### Of -/
theorem rof_yes {a b : Int} (ha : a.natAbs ≤ 33554432) (hb : b.natAbs ≤ 33554432) : pylonref02_Of.f a b = some (cx (floatOfInt .f64 a) (floatOfInt .f64 b), 0) := by
  unfold pylonref02_Of.f
  rw [if_neg (by omega), if_neg (by omega), if_neg (by omega), if_neg (by omega)]
  rfl
theorem rof_no {a b : Int} (h : ¬ (a.natAbs ≤ 33554432 ∧ b.natAbs ≤ 33554432)) : pylonref02_Of.f a b = some (cx 0 0, 5) := by
  unfold pylonref02_Of.f
  by_cases h1 : a < -33554432
  · rw [if_pos h1]
  · by_cases h2 : a > 33554432
    · rw [if_neg h1, if_pos h2]
    · by_cases h3 : b < -33554432
      · rw [if_neg h1, if_neg h2, if_pos h3]
      · rw [if_neg h1, if_neg h2, if_neg h3, if_pos (by omega)]
/-! ### Parts -/
theorem parts_yes {z : Cx} {a b : Int} (hb : Bits z) (h : Small z a b) : phasor_Parts.f z = some (a, b, 0) := by
  obtain ⟨o1, e1⟩ := h.1.1.toint (by have := h.1.2; omega) (by have := h.1.2; omega)
  obtain ⟨o2, e2⟩ := h.2.1.toint (by have := h.2.2; omega) (by have := h.2.2; omega)
  unfold phasor_Parts.f
  rw [fits_yes hb h]
  simp only [Option.bind_some, if_true, o1, o2, e1, e2]
theorem parts_no {z : Cx} (hb : Bits z) (h : ¬ Good z) : phasor_Parts.f z = some (0, 0, 5) := by
  unfold phasor_Parts.f
  rw [fits_no hb h]
  rfl
/-! ### Turn: a product with a power of i -/
theorem mulp {A B : Int} {k : Int} (ha : A.natAbs ≤ 33554432) (hb : B.natAbs ≤ 33554432) : (A * wR k).natAbs ≤ 33554432 ∧ (A * wI k).natAbs ≤ 33554432 ∧ (B * wR k).natAbs ≤ 33554432 ∧ (B * wI k).natAbs ≤ 33554432 := by
  have p := wR_le k
  have q := wI_le k
  have f : ∀ {x y : Int}, x.natAbs ≤ 33554432 → y.natAbs ≤ 1 → (x * y).natAbs ≤ 33554432 := fun hx hy => Nat.le_trans (prod_le hx hy) (by decide)
  exact ⟨f ha p, f ha q, f hb p, f hb q⟩
theorem turn_yes {z : Cx} {A B : Int} (hb : Bits z) (h : Small z A B) (k : Int) : ∃ r, phasor_Turn.f z k = some (r, 0) ∧ Is r.re (A * wR (k % 4) - B * wI (k % 4)) ∧ Is r.im (A * wI (k % 4) + B * wR (k % 4)) := by
  obtain ⟨u1, u2, u3⟩ := unit_ok k
  obtain ⟨m1, m2, m3, m4⟩ := mulp (k := k % 4) h.1.2 h.2.2
  obtain ⟨o, r1, r2⟩ := cmul_is h.1.1 h.2.1 u2 u3 (by omega) (by omega) (by omega) (by omega) (by omega) (by omega)
  unfold phasor_Turn.f
  rw [fits_yes hb h, Option.bind_some, if_pos rfl, u1, Option.bind_some, if_pos o]
  exact ⟨_, rfl, r1, r2⟩
theorem turn_no {z : Cx} (hb : Bits z) (h : ¬ Good z) (k : Int) : phasor_Turn.f z k = some (cx 0 0, 5) := by
  unfold phasor_Turn.f
  rw [fits_no hb h]
  rfl
end Go.Proofs.YtofedlghaopciaaGreatDoor.PureA
end
section
/- PhasorAll: the document's power of several phases, beside the program's. -/
set_option linter.unusedVariables false
set_option linter.unusedSimpArgs false
namespace Go.Proofs.YtofedlghaopciaaGreatDoor.PureA
open Go.RowKit Go.Proofs.YtofedlghaopciaaGreatDoor.PA Go.Proofs.YtofedlghaopciaaGreatDoor.Num Go.Proofs.YtofedlghaopciaaGreatDoor.Flt Go.Proofs.YtofedlghaopciaaGreatDoor.FourW Go.Proofs.YtofedlghaopciaaGreatDoorW.PrintWords Go.Proofs.YtofedlghaopciaaGreatDoorW.PrintLast Go.Proofs.YtofedlghaopciaaGreatDoorW.PrintMore
theorem of_intT {n : Int} (h : n.natAbs ≤ 9007199254740992) : IsT (floatOfInt .f64 n) n := by
  by_cases g : n.natAbs < 9007199254740992
  · exact .inl (of_int (by omega))
  · have e : n = 9007199254740992 ∨ n = -9007199254740992 := by omega
    rcases e with rfl | rfl
    · exact .inr ⟨rfl, by rfl⟩
    · exact .inr ⟨rfl, by rfl⟩
theorem power_any (m : Int) : pylonref02_power.f m = some (wR (m % 4), wI (m % 4)) := by
  have key : Int.tmod (wrap64 (Int.tmod m 4 + 4)) 4 = m % 4 := by
    rcases Int.le_total 0 m with h0 | h0
    · rw [Int.tmod_eq_emod_of_nonneg h0, i64in (by omega) (by omega), Int.tmod_eq_emod_of_nonneg (by omega)]
      omega
    · have e : Int.tmod m 4 = -((-m) % 4) := by
        have h := Int.neg_tmod (-m) 4
        rw [Int.neg_neg] at h
        rw [h, Int.tmod_eq_emod_of_nonneg (a := -m) (by omega)]
      rw [e, i64in (by omega) (by omega), Int.tmod_eq_emod_of_nonneg (by omega)]
      omega
  unfold pylonref02_power.f wR wI
  rw [key]
  have h4 : m % 4 = 0 ∨ m % 4 = 1 ∨ m % 4 = 2 ∨ m % 4 = 3 := by omega
  rcases h4 with h4 | h4 | h4 | h4 <;> rw [h4] <;> rfl
/-- Turn, on both sides. -/
theorem rturn_yes {z : Cx} {A B : Int} (h : Small z A B) (k : Int) : pylonref02_Turn.f z k = some (numZ (A * wR (k % 4) - B * wI (k % 4)) (A * wI (k % 4) + B * wR (k % 4)), 0) := by
  unfold pylonref02_Turn.f
  rw [rfits_yes h, Option.bind_some, if_pos rfl, power_any, Option.bind_some, times_ok (M := 33554432) (by decide) h.1.2 h.2.2 (wR_le _) (wI_le _), Option.bind_some]
  rfl
theorem rturn_no {z : Cx} (h : ¬ Good z) (k : Int) : pylonref02_Turn.f z k = some (cx 0 0, 5) := by
  obtain ⟨a, b, e⟩ := rfits_no h
  unfold pylonref02_Turn.f
  rw [e]
  rfl
theorem rpair {p : Cx × Cx} (h : PGood p) : ∃ a b c d, pylonref02_Fits.f p.1 = some (a, b, true) ∧ pylonref02_Fits.f p.2 = some (c, d, true) ∧ (pylonref02_conj.f c d).bind (fun q => pylonref02_times.f a b q.1 q.2) = some (pRe p, pIm p) ∧ (pRe p).natAbs ≤ 2251799813685248 ∧ (pIm p).natAbs ≤ 2251799813685248 := by
  have s1 := h.1.small
  have s2 := h.2.small
  refine ⟨_, _, _, _, rfits_yes s1, rfits_yes s2, ?_⟩
  obtain ⟨⟨q1, q2⟩, q3, q4⟩ := s1
  obtain ⟨⟨r1, r2⟩, r3, r4⟩ := s2
  unfold pRe pIm
  generalize val p.1.re = A at *
  generalize val p.1.im = B at *
  generalize val p.2.re = C at *
  generalize val p.2.im = D at *
  have p1 := prod_le q2 r2
  have p2 := prod_le q4 r4
  have p3 := prod_le q2 r4
  have p4 := prod_le q4 r2
  refine ⟨?_, by omega, by omega⟩
  unfold pylonref02_conj.f pylonref02_times.f
  rw [Option.bind_some, i64in (x := -D) (by omega) (by omega), Int.mul_neg, Int.mul_neg, i64in (x := A * C) (by omega) (by omega), i64in (x := -(B * D)) (by omega) (by omega), i64in (x := -(A * D)) (by omega) (by omega), i64in (x := B * C) (by omega) (by omega), i64in (by omega) (by omega), i64in (by omega) (by omega)]
  rw [show A * C - -(B * D) = A * C + B * D by omega, show -(A * D) + B * C = B * C - A * D by omega]
theorem rphases_l0 {u v : List Cx} (hlen : u.length = v.length) (h4 : u.length ≤ 4) :
    ∀ (d : Nat) (i A B : Int), 0 ≤ i → (u.length : Int) - i = d → A.natAbs ≤ i.toNat * 2251799813685248 → B.natAbs ≤ i.toNat * 2251799813685248 →
    ((∀ p ∈ (u.zip v).drop i.toNat, PGood p) → Ev (fun k => pylonref02_Phases.l0 k u v (u.length : Int) i A B) (numZ (A + sRe ((u.zip v).drop i.toNat)) (B + sIm ((u.zip v).drop i.toNat)), 0)) ∧
    ((¬ ∀ p ∈ (u.zip v).drop i.toNat, PGood p) → Ev (fun k => pylonref02_Phases.l0 k u v (u.length : Int) i A B) (cx 0 0, 5)) := by
  intro d
  induction d with
  | zero =>
    intro i A B i0 hd a b
    have hz : (u.zip v).drop i.toNat = [] := List.drop_eq_nil_of_le (by rw [List.length_zip]; omega)
    rw [hz]
    have e1 : A + sRe [] = A := by rw [show sRe [] = 0 from rfl, Int.add_zero]
    have e2 : B + sIm [] = B := by rw [show sIm [] = 0 from rfl, Int.add_zero]
    rw [e1, e2]
    refine ⟨fun _ => ?_, fun h => (h (fun p hp => by cases hp)).elim⟩
    refine Ev.shift ?_
    simp only [pylonref02_Phases.l0, if_neg (show ¬ i < (u.length : Int) by omega)]
    exact Ev.now _
  | succ d ih =>
    intro i A B i0 hd a b
    have hi : i < (u.length : Int) := by omega
    have hv : i < (v.length : Int) := by omega
    have ei : wrap64 (i + 1) = i + 1 := i64in (by omega) (by omega)
    rw [zip_at hlen i0 hi]
    by_cases g : PGood (rdOf (cx 0 0) u i, rdOf (cx 0 0) v i)
    · obtain ⟨a', b', c', d', f1, f2, f3, f4, f5⟩ := rpair g
      have hs : ∀ r, Ev (fun k => pylonref02_Phases.l0 k u v (u.length : Int) (i + 1) (A + pRe (rdOf (cx 0 0) u i, rdOf (cx 0 0) v i)) (B + pIm (rdOf (cx 0 0) u i, rdOf (cx 0 0) v i))) r → Ev (fun k => pylonref02_Phases.l0 k u v (u.length : Int) i A B) r := by
        intro r hr
        refine Ev.shift ?_
        simp only [pylonref02_Phases.l0, if_pos hi, if_pos i0, if_pos hv, f1, f2, Option.bind_some, if_true, Bool.not_true]
        refine Ev.shift ?_
        obtain ⟨q, e1, e2⟩ := Option.bind_eq_some_iff.mp f3
        simp only [pylonref02_Phases.j2, Bool.false_eq_true, if_false, e1, e2, Option.bind_some, ei]
        unfold pylonref02_plus.f
        rw [i64in (by omega) (by omega), i64in (by omega) (by omega)]
        exact hr
      obtain ⟨i1, i2⟩ := ih (i + 1) (A + pRe (rdOf (cx 0 0) u i, rdOf (cx 0 0) v i)) (B + pIm (rdOf (cx 0 0) u i, rdOf (cx 0 0) v i)) (by omega) (by omega) (by omega) (by omega)
      refine ⟨fun h => ?_, fun h => ?_⟩
      · have f := i1 (fun p hp => h p (List.mem_cons_of_mem _ hp))
        rw [Int.add_assoc, ← sRe_cons, Int.add_assoc, ← sIm_cons] at f
        exact hs _ f
      · exact hs _ (i2 (fun h2 => h (fun p hp => by
          rcases List.mem_cons.mp hp with rfl | hp
          · exact g
          · exact h2 p hp)))
    · refine ⟨fun h => (g (h _ List.mem_cons_self)).elim, fun _ => ?_⟩
      refine Ev.shift ?_
      by_cases g1 : Good (rdOf (cx 0 0) u i)
      · obtain ⟨c, d', e2⟩ := rfits_no (z := rdOf (cx 0 0) v i) (fun q => g ⟨g1, q⟩)
        simp only [pylonref02_Phases.l0, if_pos hi, if_pos i0, if_pos hv, rfits_yes g1.small, e2, Option.bind_some, if_true, Bool.not_false]
        refine Ev.shift ?_
        simp only [pylonref02_Phases.j2, if_true]
        exact Ev.now _
      · obtain ⟨a', b', e1⟩ := rfits_no g1
        obtain ⟨c, d', q, e2⟩ : ∃ c d q, pylonref02_Fits.f (rdOf (cx 0 0) v i) = some (c, d, q) := by
          by_cases g2 : Good (rdOf (cx 0 0) v i)
          · exact ⟨_, _, _, rfits_yes g2.small⟩
          · obtain ⟨c, d', e⟩ := rfits_no g2
            exact ⟨_, _, _, e⟩
        simp only [pylonref02_Phases.l0, if_pos hi, if_pos i0, if_pos hv, e1, e2, Option.bind_some, Bool.false_eq_true, if_false]
        refine Ev.shift ?_
        simp only [pylonref02_Phases.j2, if_true]
        exact Ev.now _
theorem rphases_f {u v : List Cx} (hlen : u.length = v.length) (h4 : u.length ≤ 4) :
    ((∀ p ∈ u.zip v, PGood p) → Ev (fun k => pylonref02_Phases.f k u v) (numZ (sRe (u.zip v)) (sIm (u.zip v)), 0)) ∧ ((¬ ∀ p ∈ u.zip v, PGood p) → Ev (fun k => pylonref02_Phases.f k u v) (cx 0 0, 5)) := by
  have h := rphases_l0 hlen h4 u.length 0 0 0 (by omega) (by omega) (by simp) (by simp)
  simp only [Int.toNat_zero, List.drop_zero, Int.zero_add] at h
  have hj : ∀ r, Ev (fun k => pylonref02_Phases.l0 k u v (u.length : Int) 0 0 0) r → Ev (fun k => pylonref02_Phases.f k u v) r := by
    intro r hr
    unfold pylonref02_Phases.f
    simp only [if_pos (show (u.length : Int) = (v.length : Int) by omega), decide_eq_false (show ¬ (u.length : Int) > 4 by omega)]
    refine Ev.shift ?_
    simp only [pylonref02_Phases.j0, Bool.false_eq_true, if_false]
    exact hr
  exact ⟨fun g => hj _ (h.1 g), fun g => hj _ (h.2 g)⟩
/-- Lists that do not fit together, or too long: both sides. -/
theorem phases_arg {u v : List Cx} (h : ¬ (u.length = v.length ∧ u.length ≤ 4)) : Ev (fun k => phasor_Phases.f k u v) (cx 0 0, 8) ∧ Ev (fun k => pylonref02_Phases.f k u v) (cx 0 0, 8) := by
  unfold phasor_Phases.f pylonref02_Phases.f
  by_cases e : (u.length : Int) = (v.length : Int)
  · simp only [if_pos e, decide_eq_true (show (u.length : Int) > 4 by omega)]
    refine ⟨Ev.shift ?_, Ev.shift ?_⟩
    · simp only [phasor_Phases.j0, if_true]; exact Ev.now _
    · simp only [pylonref02_Phases.j0, if_true]; exact Ev.now _
  · simp only [if_neg e]
    refine ⟨Ev.shift ?_, Ev.shift ?_⟩
    · simp only [phasor_Phases.j0, if_true]; exact Ev.now _
    · simp only [pylonref02_Phases.j0, if_true]; exact Ev.now _
end Go.Proofs.YtofedlghaopciaaGreatDoor.PureA
end
