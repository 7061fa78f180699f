/- Floats that stand for whole numbers: exact below 2^53. -/
import Derived.Test.YtofedlghaopciaaXFlo
import Derived.Laws.BitsAllLaws
set_option linter.unusedVariables false
set_option linter.unusedSimpArgs false
namespace Go.Proofs.Ytofedlghaopciaa.Flt
open Ieee Go.Proofs.YtofedlghaopciaaW.PrintWords

theorem cut_zero (way : Toward) (hw : way = .even ∨ way = .zero) (neg : Bool) (n : Nat) : way.cut neg n 0 = n := by
  rcases hw with rfl | rfl <;> simp [Toward.cut, Nat.mod_one]

theorem cut_exact (way : Toward) (hw : way = .even ∨ way = .zero) (neg : Bool) (n d : Nat) (h : n ≠ 0) : way.cut neg (n * 2 ^ d) d = n := by
  have h0 : 0 < 2 ^ d := Nat.two_pow_pos d
  have hl : d ≤ (n * 2 ^ d).log2 := by
    rw [Nat.le_log2 (Nat.mul_ne_zero h (by omega))]
    exact Nat.le_mul_of_pos_left _ (Nat.pos_of_ne_zero h)
  have hm : min d ((n * 2 ^ d).log2 + 2) = d := by omega
  unfold Toward.cut
  simp only [hm, Nat.one_shiftLeft, Nat.mul_div_cancel _ h0, Nat.mul_mod_left]
  rcases hw with rfl | rfl
  · have e1 : ¬ (2 ^ d < 2 * 0) := by omega
    have e2 : ¬ (2 ^ d = 2 * 0) := by omega
    simp [e1, e2]
  · simp

theorem e_binade : Ieee.double.binade = 4503599627370496 := rfl
theorem e_inf : Ieee.double.infRung = 9218868437227405312 := rfl
theorem e_sign : Ieee.double.signWeight = 9223372036854775808 := rfl
theorem e_least : Ieee.double.leastPlace = -1074 := rfl
theorem e_frac : Ieee.double.fractionBits = 52 := rfl

theorem read_gen (f : Format) (x B I S : Nat) (L : Int) (hb : f.binade = B) (hi : f.infRung = I) (hs : f.signWeight = S) (hl : f.leastPlace = L) : f.read x = if x % S < B then .number (x / S % 2 == 1) (x % S) L
    else if x % S < I then .number (x / S % 2 == 1) (B + x % S % B) (L + ((x % S / B - 1 : Nat) : Int))
    else if x % S = I then .infinity (x / S % 2 == 1) else .nan (x / S % 2 == 1) (x % S - I) := by
  subst hb hi hs hl
  rfl
theorem nearest_gen (f : Format) (neg : Bool) (mag : Nat) (place : Int) (B I F : Nat) (L last : Int) (kept : Nat) (h0 : mag ≠ 0) (hb : f.binade = B) (hi : f.infRung = I) (hl : f.leastPlace = L) (hF : f.fractionBits = F)
    (hlast : max (place + mag.log2 - F) L = last) (hkept : Toward.even.cut neg (mag <<< (place - last).toNat) (last - place).toNat = kept) : f.nearest neg mag place = f.word neg (min ((last - L).toNat * B + kept) I) := by
  subst hb hi hl hF hlast hkept
  unfold Format.nearest
  rw [if_neg h0]
theorem word_gen (f : Format) (neg : Bool) (r S : Nat) (hs : f.signWeight = S) : f.word neg r = if neg = true then S + r else r := by
  subst hs
  rfl

/-- A word is read in its three parts. -/
theorem read_eq (x : Nat) : Ieee.double.read x = if x % 9223372036854775808 < 4503599627370496 then .number (x / 9223372036854775808 % 2 == 1) (x % 9223372036854775808) (-1074)
    else if x % 9223372036854775808 < 9218868437227405312 then .number (x / 9223372036854775808 % 2 == 1) (4503599627370496 + x % 9223372036854775808 % 4503599627370496) (-1074 + ((x % 9223372036854775808 / 4503599627370496 - 1 : Nat) : Int))
    else if x % 9223372036854775808 = 9218868437227405312 then .infinity (x / 9223372036854775808 % 2 == 1) else .nan (x / 9223372036854775808 % 2 == 1) (x % 9223372036854775808 - 9218868437227405312) :=
  read_gen _ x _ _ _ _ e_binade e_inf e_sign e_least

theorem word_eq (neg : Bool) (r : Nat) : Ieee.double.word neg r = if neg = true then 9223372036854775808 + r else r := word_gen _ neg r _ e_sign

theorem rung_parts (L K : Nat) (h1 : 4503599627370496 ≤ K) (h2 : K < 9007199254740992) (hL : L < 53) : min ((1022 + L) * 4503599627370496 + K) 9218868437227405312 = (1022 + L) * 4503599627370496 + K ∧
    4503599627370496 ≤ (1022 + L) * 4503599627370496 + K ∧ (1022 + L) * 4503599627370496 + K < 9218868437227405312 ∧ 4503599627370496 + ((1022 + L) * 4503599627370496 + K) % 4503599627370496 = K ∧ ((1022 + L) * 4503599627370496 + K) / 4503599627370496 = 1023 + L := by
  refine ⟨by omega, by omega, by omega, by omega, by omega⟩

theorem word_parts (neg : Bool) (r : Nat) (h : r < 9223372036854775808) : Ieee.double.word neg r % 9223372036854775808 = r ∧ (Ieee.double.word neg r / 9223372036854775808 % 2 == 1) = neg := by
  rw [word_eq]
  cases neg
  · have a : r % 9223372036854775808 = r := Nat.mod_eq_of_lt h
    have b : r / 9223372036854775808 = 0 := Nat.div_eq_of_lt h
    simp only [Bool.false_eq_true, if_false, a, b, true_and]
    rfl
  · have a : (9223372036854775808 + r) % 9223372036854775808 = r := by omega
    have b : (9223372036854775808 + r) / 9223372036854775808 = 1 := by omega
    simp only [if_true, a, b, true_and]
    rfl

theorem read_word (neg : Bool) (r : Nat) (h1 : 4503599627370496 ≤ r) (h2 : r < 9218868437227405312) : Ieee.double.read (Ieee.double.word neg r) = .number neg (4503599627370496 + r % 4503599627370496) (-1074 + ((r / 4503599627370496 - 1 : Nat) : Int)) := by
  obtain ⟨a, b⟩ := word_parts neg r (by omega)
  have c : ¬ r < 4503599627370496 := by omega
  rw [read_eq, a, b, if_neg c, if_pos h2]

theorem place_e (L : Nat) (hL : L < 53) : (-((52 - L : Nat) : Int) - (-1074)).toNat = 1022 + L := by omega
theorem place_e' (L : Nat) (hL : L < 53) : (-1074 + ((1023 + L - 1 : Nat) : Int)) = -((52 - L : Nat) : Int) := by omega

/-- The canonical form of a whole number. -/
theorem nearest_read (neg : Bool) (mag : Nat) (q : Nat) (N : Nat) (hN : N < 2 ^ 53) (h0 : N ≠ 0) (h : mag = N * 2 ^ q) :
    Ieee.double.read (Ieee.double.nearest neg mag (-(q : Int))) = .number neg (N * 2 ^ (52 - N.log2)) (-((52 - N.log2 : Nat) : Int)) := by
  have hlog : N.log2 < 53 := (Nat.log2_lt h0).2 hN
  have hmag : mag ≠ 0 := by rw [h]; exact Nat.mul_ne_zero h0 (by have := Nat.two_pow_pos q; omega)
  have hlogm : mag.log2 = N.log2 + q := by
    rw [h, Nat.log2_eq_iff (by rw [← h]; exact hmag)]
    have a := Nat.log2_self_le h0
    have b := Nat.lt_log2_self (n := N)
    have hq := Nat.two_pow_pos q
    refine ⟨?_, ?_⟩
    · rw [Nat.pow_add]; exact Nat.mul_le_mul_right _ a
    · rw [show N.log2 + q + 1 = (N.log2 + 1) + q by omega, Nat.pow_add]; exact (Nat.mul_lt_mul_right hq).2 b
  have hkept : Toward.even.cut neg (mag <<< (-(q : Int) - (-((52 - N.log2 : Nat) : Int))).toNat) (-((52 - N.log2 : Nat) : Int) - (-(q : Int))).toNat = N * 2 ^ (52 - N.log2) := by
    by_cases hc : 52 - N.log2 ≤ q
    · have e1 : (-(q : Int) - (-((52 - N.log2 : Nat) : Int))).toNat = 0 := by omega
      have e2 : (-((52 - N.log2 : Nat) : Int) - (-(q : Int))).toNat = q - (52 - N.log2) := by omega
      rw [e1, e2, h, Nat.shiftLeft_zero]
      have e3 : N * 2 ^ q = (N * 2 ^ (52 - N.log2)) * 2 ^ (q - (52 - N.log2)) := by
        rw [Nat.mul_assoc, ← Nat.pow_add, Nat.add_sub_cancel' hc]
      rw [e3]
      exact cut_exact _ (.inl rfl) _ _ _ (Nat.mul_ne_zero h0 (by have := Nat.two_pow_pos (52 - N.log2); omega))
    · have e1 : (-(q : Int) - (-((52 - N.log2 : Nat) : Int))).toNat = 52 - N.log2 - q := by omega
      have e2 : (-((52 - N.log2 : Nat) : Int) - (-(q : Int))).toNat = 0 := by omega
      rw [e1, e2, cut_zero _ (.inl rfl), Nat.shiftLeft_eq, h, Nat.mul_assoc, ← Nat.pow_add]
      congr 2
      omega
  have hlast : max (-(q : Int) + mag.log2 - Ieee.double.fractionBits) Ieee.double.leastPlace = -((52 - N.log2 : Nat) : Int) := by
    rw [hlogm]
    have : Ieee.double.leastPlace = -1074 := rfl
    have e : (Ieee.double.fractionBits : Int) = 52 := rfl
    rw [this, e]
    omega
  have hK1 : 2 ^ 52 ≤ N * 2 ^ (52 - N.log2) := by
    have a := Nat.log2_self_le h0
    calc 2 ^ 52 = 2 ^ N.log2 * 2 ^ (52 - N.log2) := by rw [← Nat.pow_add]; congr 1; omega
      _ ≤ _ := Nat.mul_le_mul_right _ a
  have hK2 : N * 2 ^ (52 - N.log2) < 2 ^ 53 := by
    have b := Nat.lt_log2_self (n := N)
    calc N * 2 ^ (52 - N.log2) < 2 ^ (N.log2 + 1) * 2 ^ (52 - N.log2) := (Nat.mul_lt_mul_right (Nat.two_pow_pos _)).2 b
      _ = 2 ^ 53 := by rw [← Nat.pow_add]; congr 1; omega
  have hK1' : 4503599627370496 ≤ N * 2 ^ (52 - N.log2) := Nat.le_trans (by decide) hK1
  have hK2' : N * 2 ^ (52 - N.log2) < 9007199254740992 := Nat.lt_of_lt_of_le hK2 (by decide)
  obtain ⟨r1, r2, r3, r4, r5⟩ := rung_parts N.log2 (N * 2 ^ (52 - N.log2)) hK1' hK2' hlog
  rw [e_least] at hlast
  rw [nearest_gen _ neg mag _ _ _ 52 _ _ _ hmag e_binade e_inf e_least e_frac hlast hkept]
  have e := place_e N.log2 hlog
  rw [e, r1, read_word neg _ r2 r3, r4, r5]
  have e' := place_e' N.log2 hlog
  rw [e']

theorem nearest_read0 (neg : Bool) (p : Int) : Ieee.double.read (Ieee.double.nearest neg 0 p) = .number neg 0 (-1074) := by
  unfold Format.nearest
  rw [if_pos rfl]
  obtain ⟨a, b⟩ := word_parts neg 0 (by omega)
  rw [read_eq, a, b]
  rfl
/-- The bits x stand for the whole number n. -/
def Is (x : Nat) (n : Int) : Prop := ∃ s m q, Ieee.double.read x = .number s m (-((q : Nat) : Int)) ∧ signed s m 0 = n * ((2 ^ q : Nat) : Int)

theorem signed_shift (s : Bool) (m k : Nat) : signed s m k = signed s m 0 * ((2 ^ k : Nat) : Int) := by
  unfold signed
  rw [Nat.shiftLeft_eq, Nat.shiftLeft_zero]
  cases s
  · simp
  · simp [Int.neg_mul]
theorem signed_natAbs (s : Bool) (m : Nat) : (signed s m 0).natAbs = m := by
  unfold signed
  rw [Nat.shiftLeft_zero]
  cases s <;> simp
theorem signed_self (s : Bool) (t : Int) (h : if t = 0 then True else s = decide (t < 0)) : signed s t.natAbs 0 = t := by
  unfold signed
  rw [Nat.shiftLeft_zero]
  by_cases h0 : t = 0
  · subst h0; cases s <;> rfl
  · rw [if_neg h0] at h
    subst h
    by_cases h1 : t < 0
    · simp only [h1, decide_true, if_true]; omega
    · simp only [h1, decide_false, Bool.false_eq_true, if_false]; omega
theorem signed_not (s : Bool) (m k : Nat) : signed (!s) m k = -signed s m k := by
  unfold signed
  cases s <;> simp
theorem signed_mul (s t : Bool) (m n : Nat) : signed (s ^^ t) (m * n) 0 = signed s m 0 * signed t n 0 := by
  unfold signed
  rw [Nat.shiftLeft_zero, Nat.shiftLeft_zero, Nat.shiftLeft_zero]
  cases s <;> cases t <;> simp [Int.natCast_mul, Int.mul_neg, Int.neg_mul]
theorem signed_zero (s : Bool) : signed s 0 0 = 0 := by cases s <;> rfl

theorem pow_pos' (q : Nat) : (0 : Int) < ((2 ^ q : Nat) : Int) := by exact_mod_cast Nat.two_pow_pos q

/-- What is written of a whole number below 2^53 stands for it. -/
theorem write_is (neg : Bool) (mag q : Nat) (N : Int) (h : signed neg mag 0 = N * ((2 ^ q : Nat) : Int)) (h1 : N.natAbs < 2 ^ 53) : Is (Ieee.double.write (.number neg mag (-(q : Int)))) N := by
  show Is (Ieee.double.nearest neg mag (-(q : Int))) N
  have hm : mag = N.natAbs * 2 ^ q := by
    have := congrArg Int.natAbs h
    rw [signed_natAbs, Int.natAbs_mul, Int.natAbs_natCast] at this
    exact this
  by_cases h0 : N = 0
  · subst h0
    have : mag = 0 := by rw [hm]; simp
    subst this
    exact ⟨neg, 0, 1074, nearest_read0 neg _, by rw [signed_zero, Int.zero_mul]⟩
  · refine ⟨neg, _, _, nearest_read neg mag q N.natAbs h1 (by omega) hm, ?_⟩
    have hs : signed neg N.natAbs 0 = N := by
      refine signed_self _ _ ?_
      rw [if_neg h0]
      rw [hm] at h
      have hq := pow_pos' q
      have hmm : 0 < N.natAbs * 2 ^ q := Nat.mul_pos (by omega) (Nat.two_pow_pos q)
      cases neg
      · have h2 : (0 : Int) < N * ((2 ^ q : Nat) : Int) := by
          rw [← h]; unfold signed; rw [Nat.shiftLeft_zero]
          simp only [Bool.false_eq_true, if_false]
          exact_mod_cast hmm
        have : 0 < N := by
          rcases Int.lt_or_le 0 N with h3 | h3
          · exact h3
          · have := Int.mul_nonpos_of_nonpos_of_nonneg h3 (Int.le_of_lt hq)
            omega
        simp; omega
      · have h2 : N * ((2 ^ q : Nat) : Int) < 0 := by
          rw [← h]; unfold signed; rw [Nat.shiftLeft_zero]
          simp only [if_true]
          have : (0 : Int) < ((N.natAbs * 2 ^ q : Nat) : Int) := by exact_mod_cast hmm
          omega
        have : N < 0 := by
          rcases Int.lt_or_le N 0 with h3 | h3
          · exact h3
          · have := Int.mul_nonneg h3 (Int.le_of_lt hq)
            omega
        simp [this]
    generalize 52 - N.natAbs.log2 = z
    have e : signed neg (N.natAbs * 2 ^ z) 0 = signed neg N.natAbs z := by
      unfold signed
      rw [Nat.shiftLeft_zero, Nat.shiftLeft_eq]
    rw [e, signed_shift, hs]

theorem of_int {n : Int} (h : n.natAbs < 2 ^ 53) : Is (floatOfInt .f64 n) n := by
  have := write_is (decide (n < 0)) n.natAbs 0 n (by
    rw [signed_self]
    · simp
    · split <;> simp) h
  exact this

theorem Is.uniq {x : Nat} {a b : Int} (h : Is x a) (k : Is x b) : a = b := by
  obtain ⟨s, m, q, e, f⟩ := h
  obtain ⟨s', m', q', e', f'⟩ := k
  rw [e] at e'
  injection e' with e1 e2 e3
  have : q = q' := by omega
  subst e1 e2 this
  rw [f] at f'
  exact Int.eq_of_mul_eq_mul_right (by have := pow_pos' q; omega) f'

theorem shift_up {s : Bool} {m q M : Nat} {a : Int} (h : signed s m 0 = a * ((2 ^ q : Nat) : Int)) (hq : q ≤ M) : signed s m (-(q : Int) - (-(M : Int))).toNat = a * ((2 ^ M : Nat) : Int) := by
  rw [signed_shift, h, Int.mul_assoc, ← Int.natCast_mul, ← Nat.pow_add]
  congr 3
  omega

theorem min_neg (q r : Nat) : min (-(q : Int)) (-(r : Int)) = -((max q r : Nat) : Int) := by omega

theorem sum_is {s t : Bool} {m n q r : Nat} {a b : Int} (ha : signed s m 0 = a * ((2 ^ q : Nat) : Int)) (hb : signed t n 0 = b * ((2 ^ r : Nat) : Int)) (h : (a + b).natAbs < 2 ^ 53) :
    ∃ d, Datum.sum (.number s m (-(q : Int))) (.number t n (-(r : Int))) = some d ∧ Is (Ieee.double.write d) (a + b) := by
  refine ⟨_, rfl, ?_⟩
  rw [min_neg]
  have e1 := shift_up ha (Nat.le_max_left q r)
  have e2 := shift_up hb (Nat.le_max_right q r)
  rw [e1, e2]
  refine write_is _ _ _ _ ?_ h
  rw [signed_self, Int.add_mul]
  split <;> simp

theorem Is.add {x y : Nat} {a b : Int} (hx : Is x a) (hy : Is y b) (h : (a + b).natAbs < 2 ^ 53) : faddok x y = true ∧ Is (fadd x y) (a + b) := by
  obtain ⟨s, m, q, e, f⟩ := hx
  obtain ⟨s', m', q', e', f'⟩ := hy
  obtain ⟨d, h1, h2⟩ := sum_is f f' h
  have : floatBits .add .f64 x y = some (Ieee.double.write d) := by
    show ((Ieee.double.read x).sum (Ieee.double.read y)).map Ieee.double.write = _
    rw [e, e', h1]
    rfl
  unfold faddok fadd
  rw [this]
  exact ⟨rfl, h2⟩

theorem Is.sub {x y : Nat} {a b : Int} (hx : Is x a) (hy : Is y b) (h : (a - b).natAbs < 2 ^ 53) : fsubok x y = true ∧ Is (fsub x y) (a - b) := by
  obtain ⟨s, m, q, e, f⟩ := hx
  obtain ⟨s', m', q', e', f'⟩ := hy
  have f2 : signed (!s') m' 0 = (-b) * ((2 ^ q' : Nat) : Int) := by rw [signed_not, f', Int.neg_mul]
  obtain ⟨d, h1, h2⟩ := sum_is f f2 (by rw [← Int.sub_eq_add_neg]; exact h)
  have : floatBits .sub .f64 x y = some (Ieee.double.write d) := by
    show ((Ieee.double.read x).sum (Ieee.double.read y).opposite).map Ieee.double.write = _
    rw [e, e']
    show (Datum.sum (.number s m (-(q : Int))) (.number (!s') m' (-(q' : Int)))).map Ieee.double.write = _
    rw [h1]
    rfl
  unfold fsubok fsub
  rw [this]
  exact ⟨rfl, by rw [Int.sub_eq_add_neg]; exact h2⟩

theorem Is.mul {x y : Nat} {a b : Int} (hx : Is x a) (hy : Is y b) (h : (a * b).natAbs < 2 ^ 53) : fmulok x y = true ∧ Is (fmul x y) (a * b) := by
  obtain ⟨s, m, q, e, f⟩ := hx
  obtain ⟨s', m', q', e', f'⟩ := hy
  have : floatBits .mul .f64 x y = some (Ieee.double.write (.number (s ^^ s') (m * m') (-((q + q' : Nat) : Int)))) := by
    show ((Ieee.double.read x).product (Ieee.double.read y)).map Ieee.double.write = _
    rw [e, e']
    show some (Ieee.double.write (.number (s ^^ s') (m * m') (-(q : Int) + -(q' : Int)))) = _
    rw [show (-(q : Int) + -(q' : Int)) = -((q + q' : Nat) : Int) by omega]
  unfold fmulok fmul
  rw [this]
  refine ⟨rfl, ?_⟩
  refine write_is _ _ _ _ ?_ h
  rw [signed_mul, f, f', Nat.pow_add, Int.natCast_mul, Int.mul_assoc, Int.mul_assoc]
  congr 1
  rw [← Int.mul_assoc, ← Int.mul_assoc, Int.mul_comm _ b]

theorem Is.order {x y : Nat} {a b : Int} (hx : Is x a) (hy : Is y b) : Ieee.double.order x y = some (compare a b) := by
  obtain ⟨s, m, q, e, f⟩ := hx
  obtain ⟨s', m', q', e', f'⟩ := hy
  show (Ieee.double.read x).order (Ieee.double.read y) = _
  rw [e, e']
  show some (compare (signed s m (-(q : Int) - min (-(q : Int)) (-(q' : Int))).toNat) (signed s' m' (-(q' : Int) - min (-(q : Int)) (-(q' : Int))).toNat)) = _
  rw [min_neg, shift_up f (Nat.le_max_left q q'), shift_up f' (Nat.le_max_right q q')]
  have hp := pow_pos' (max q q')
  generalize ((2 ^ (max q q') : Nat) : Int) = p at hp
  congr 1
  simp only [compare, compareOfLessAndEq]
  have h1 : a * p < b * p ↔ a < b := Int.mul_lt_mul_right hp
  have h2 : a * p = b * p ↔ a = b := ⟨fun h => Int.eq_of_mul_eq_mul_right (by omega) h, fun h => by rw [h]⟩
  simp only [h1, h2]
theorem Is.feq {x y : Nat} {a b : Int} (hx : Is x a) (hy : Is y b) : feq x y = decide (a = b) := by
  show (Ieee.double.order x y == some .eq) = _
  rw [hx.order hy]
  simp only [compare, compareOfLessAndEq]
  by_cases h : a = b
  · subst h; simp
  · by_cases h1 : a < b
    · simp [h, h1]
    · simp [h, h1]
theorem Is.fle {x y : Nat} {a b : Int} (hx : Is x a) (hy : Is y b) : fle x y = decide (a ≤ b) := by
  show (Ieee.double.order x y == some .lt || Ieee.double.order x y == some .eq) = _
  rw [hx.order hy]
  simp only [compare, compareOfLessAndEq]
  by_cases h : a = b
  · subst h; simp
  · by_cases h1 : a < b
    · simp [h1]; omega
    · simp [h, h1]; omega
theorem Is.fge {x y : Nat} {a b : Int} (hx : Is x a) (hy : Is y b) : fge x y = decide (a ≥ b) := by
  show (Ieee.double.order x y == some .gt || Ieee.double.order x y == some .eq) = _
  rw [hx.order hy]
  simp only [compare, compareOfLessAndEq]
  by_cases h : a = b
  · subst h; simp
  · by_cases h1 : a < b
    · simp [h, h1]
    · simp [h, h1]; omega
theorem Is.flt {x y : Nat} {a b : Int} (hx : Is x a) (hy : Is y b) : flt x y = decide (a < b) := by
  show (Ieee.double.order x y == some .lt) = _
  rw [hx.order hy]
  simp only [compare, compareOfLessAndEq]
  by_cases h1 : a < b
  · simp [h1]
  · by_cases h : a = b
    · subst h; simp
    · simp [h, h1]

theorem cut_floor (neg : Bool) (n d : Nat) : Toward.zero.cut neg n d = n / 2 ^ d := by
  unfold Toward.cut
  simp only [Nat.one_shiftLeft, Bool.toNat_false, Nat.add_zero]
  by_cases h : d ≤ n.log2 + 2
  · rw [Nat.min_eq_left h]
  · rw [Nat.min_eq_right (by omega)]
    have h1 : n < 2 ^ (n.log2 + 2) := Nat.lt_of_lt_of_le Nat.lt_log2_self (Nat.pow_le_pow_right (by omega) (by omega))
    have h2 : n < 2 ^ d := Nat.lt_of_lt_of_le h1 (Nat.pow_le_pow_right (by omega) (by omega))
    rw [Nat.div_eq_of_lt h1, Nat.div_eq_of_lt h2]

theorem Is.toint {x : Nat} {n : Int} (h : Is x n) (h0 : -9223372036854775808 ≤ n) (h1 : n ≤ 9223372036854775807) : f2iok x = true ∧ f2i x = n := by
  obtain ⟨s, m, q, e, f⟩ := h
  have hm : m = n.natAbs * 2 ^ q := by
    have := congrArg Int.natAbs f
    rw [signed_natAbs, Int.natAbs_mul, Int.natAbs_natCast] at this
    exact this
  have hi : (FloatKind.f64.decode x).toInt .zero = some n := by
    show (Ieee.double.read x).toInt .zero = _
    rw [e]
    show some (signed s (Toward.zero.cut s (m <<< (-(q : Int)).toNat) (-(-(q : Int))).toNat) 0) = _
    have e1 : (-(q : Int)).toNat = 0 := by omega
    have e2 : (-(-(q : Int))).toNat = q := by omega
    rw [e1, e2, Nat.shiftLeft_zero, cut_floor]
    have e3 : m / 2 ^ q = n.natAbs := by rw [hm, Nat.mul_div_cancel _ (Nat.two_pow_pos q)]
    rw [e3]
    have e4 : signed s n.natAbs 0 * ((2 ^ q : Nat) : Int) = n * ((2 ^ q : Nat) : Int) := by
      rw [← f, hm, ← signed_shift]
      unfold signed
      rw [Nat.shiftLeft_eq, Nat.shiftLeft_zero]
    rw [Int.eq_of_mul_eq_mul_right (by have := pow_pos' q; omega) e4]
  have : floatToIntVal .f64 x .i64 = some n := by
    unfold floatToIntVal
    rw [hi]
    have a : IntKind.i64.min = -9223372036854775808 := rfl
    have b : IntKind.i64.max = 9223372036854775807 := rfl
    simp only [a, b]
    rw [if_pos ⟨h0, h1⟩]
  unfold f2iok f2i
  rw [this]
  exact ⟨rfl, rfl⟩

/-- Which data a word stands for. -/
theorem read_cases (x : Nat) : (∃ s m q, Ieee.double.read x = .number s m (-((q : Nat) : Int))) ∨ (∃ s m k, Ieee.double.read x = .number s m (((k + 1 : Nat)) : Int) ∧ 4503599627370496 ≤ m) ∨ (∃ s, Ieee.double.read x = .infinity s) ∨ (∃ s t, Ieee.double.read x = .nan s t) := by
  rw [read_eq]
  split
  · exact .inl ⟨_, _, 1074, rfl⟩
  · split
    · generalize x % 9223372036854775808 / 4503599627370496 - 1 = e
      generalize x % 9223372036854775808 % 4503599627370496 = r
      by_cases h : e ≤ 1074
      · refine .inl ⟨(x / 9223372036854775808 % 2 == 1), 4503599627370496 + r, 1074 - e, ?_⟩
        rw [show (-1074 + (e : Int)) = -((1074 - e : Nat) : Int) by omega]
      · refine .inr (.inl ⟨(x / 9223372036854775808 % 2 == 1), 4503599627370496 + r, e - 1075, ?_, Nat.le_add_right _ r⟩)
        rw [show (-1074 + (e : Int)) = ((e - 1075 + 1 : Nat) : Int) by omega]
    · split
      · exact .inr (.inr (.inl ⟨_, rfl⟩))
      · exact .inr (.inr (.inr ⟨_, _, rfl⟩))
/-- The bits without the sign. -/
theorem read_abs (x : Nat) : Ieee.double.read (x % 9223372036854775808) = match Ieee.double.read x with | .number _ m i => .number false m i | .infinity _ => .infinity false | .nan _ t => .nan false t := by
  rw [read_eq, read_eq, Nat.mod_mod]
  have : (x % 9223372036854775808 / 9223372036854775808 % 2 == 1) = false := by
    rw [Nat.div_eq_of_lt (Nat.mod_lt _ (by omega))]
    rfl
  rw [this]
  split
  · rfl
  · split
    · rfl
    · split <;> rfl

theorem order_num {x y : Nat} {s t : Bool} {m n : Nat} {i j : Int} (hx : Ieee.double.read x = .number s m i) (hy : Ieee.double.read y = .number t n j) :
    Ieee.double.order x y = some (compare (signed s m (i - min i j).toNat) (signed t n (j - min i j).toNat)) := by
  show (Ieee.double.read x).order (Ieee.double.read y) = _
  rw [hx, hy]
  rfl
theorem compare_le (a b : Int) : (some (compare a b) == some .lt || some (compare a b) == some .eq) = decide (a ≤ b) := by
  simp only [compare, compareOfLessAndEq]
  by_cases h : a = b
  · subst h; simp
  · by_cases h1 : a < b
    · simp [h1]; omega
    · simp [h, h1]; omega
theorem compare_eq (a b : Int) : (some (compare a b) == some .eq) = decide (a = b) := by
  simp only [compare, compareOfLessAndEq]
  by_cases h : a = b
  · subst h; simp
  · by_cases h1 : a < b
    · simp [h, h1]
    · simp [h, h1]

/-- Is a float whole, and not farther from 0 than most? -/
theorem whole_iff {x y : Nat} {M : Nat} (hM : M < 2 ^ 53) (hy : Is y (M : Int)) :
    (fle (x % 9223372036854775808) y = true → ftruncok x = true) ∧ ((fle (x % 9223372036854775808) y = true ∧ feq (ftrunc x) x = true) ↔ ∃ n, Is x n ∧ n.natAbs ≤ M) := by
  rcases read_cases x with ⟨s, m, q, e⟩ | ⟨s, m, k, e, hm⟩ | ⟨s, e⟩ | ⟨s, t, e⟩
  · have ea := read_abs x
    rw [e] at ea
    have hok : ftruncok x = true := by
      show (!(Ieee.double.read x).isNaN) = true
      rw [e]; rfl
    have hle : fle (x % 9223372036854775808) y = decide (m ≤ M * 2 ^ q) := by
      obtain ⟨s', m', q', e', f'⟩ := hy
      show (Ieee.double.order (x % 9223372036854775808) y == some .lt || Ieee.double.order (x % 9223372036854775808) y == some .eq) = _
      rw [order_num ea e', compare_le, min_neg, shift_up f' (Nat.le_max_right q q')]
      have h1 : signed false m (-(q : Int) - (-((max q q' : Nat) : Int))).toNat = ((m * 2 ^ (max q q' - q) : Nat) : Int) := by
        unfold signed
        rw [Nat.shiftLeft_eq]
        simp only [Bool.false_eq_true, if_false]
        congr 3
        omega
      rw [h1]
      have h2 : 2 ^ (max q q') = 2 ^ q * 2 ^ (max q q' - q) := by rw [← Nat.pow_add]; congr 1; omega
      rw [h2, ← Int.natCast_mul, ← Nat.mul_assoc]
      have h3 := Nat.two_pow_pos (max q q' - q)
      congr 1
      refine propext ⟨fun h => ?_, fun h => ?_⟩
      · exact Nat.le_of_mul_le_mul_right (by exact_mod_cast h) h3
      · exact_mod_cast Nat.mul_le_mul_right _ h
    refine ⟨fun _ => hok, ?_⟩
    rw [hle]
    have ht : ftrunc x = Ieee.double.write (.number s (m / 2 ^ q) 0) := by
      show Ieee.double.write ((Ieee.double.read x).integral .zero) = _
      rw [e]
      show Ieee.double.write (.number s (Toward.zero.cut s (m <<< (-(q : Int)).toNat) (-(-(q : Int))).toNat) 0) = _
      have e1 : (-(q : Int)).toNat = 0 := by omega
      have e2 : (-(-(q : Int))).toNat = q := by omega
      rw [e1, e2, Nat.shiftLeft_zero, cut_floor]
    have hq := Nat.two_pow_pos q
    constructor
    · rintro ⟨h1, h2⟩
      have h1 := of_decide_eq_true h1
      have hb : m / 2 ^ q ≤ M := by
        have := Nat.div_le_div_right (c := 2 ^ q) h1
        rwa [Nat.mul_div_cancel _ hq] at this
      have hT : Is (ftrunc x) (signed s (m / 2 ^ q) 0) := by
        rw [ht]
        exact write_is s _ 0 _ (by simp) (by rw [signed_natAbs]; omega)
      obtain ⟨s', m', q', e', f'⟩ := hT
      have h3 : Go.Proofs.YtofedlghaopciaaW.PrintWords.feq (ftrunc x) x = decide (signed s (m / 2 ^ q) 0 * ((2 ^ (max q' q) : Nat) : Int) = signed s m (-(q : Int) - (-((max q' q : Nat) : Int))).toNat) := by
        show (Ieee.double.order (ftrunc x) x == some .eq) = _
        rw [order_num e' e, compare_eq, min_neg, shift_up f' (Nat.le_max_left q' q)]
      rw [h3] at h2
      have h2 := of_decide_eq_true h2
      rw [signed_shift s m, show (-(q : Int) - (-((max q' q : Nat) : Int))).toNat = max q' q - q by omega] at h2
      have h4 : 2 ^ (max q' q) = 2 ^ q * 2 ^ (max q' q - q) := by rw [← Nat.pow_add]; congr 1; omega
      rw [h4, Int.natCast_mul, ← Int.mul_assoc] at h2
      have h5 := Int.eq_of_mul_eq_mul_right (by have := pow_pos' (max q' q - q); omega) h2
      exact ⟨signed s (m / 2 ^ q) 0, ⟨s, m, q, e, h5.symm⟩, by rw [signed_natAbs]; exact hb⟩
    · rintro ⟨n, hx, hn⟩
      obtain ⟨s', m', q', e', f'⟩ := id hx
      rw [e] at e'
      injection e' with c1 c2 c3
      have c4 : q = q' := by omega
      subst c1 c2 c4
      have hmn : m = n.natAbs * 2 ^ q := by
        have := congrArg Int.natAbs f'
        rw [signed_natAbs, Int.natAbs_mul, Int.natAbs_natCast] at this
        exact this
      have hT : Is (ftrunc x) n := by
        rw [ht]
        refine write_is s _ 0 _ ?_ (by omega)
        have : m / 2 ^ q = n.natAbs := by rw [hmn, Nat.mul_div_cancel _ hq]
        rw [this]
        have e4 : signed s n.natAbs 0 * ((2 ^ q : Nat) : Int) = n * ((2 ^ q : Nat) : Int) := by
          rw [← f', hmn, ← signed_shift]
          unfold signed
          rw [Nat.shiftLeft_eq, Nat.shiftLeft_zero]
        rw [Int.eq_of_mul_eq_mul_right (by have := pow_pos' q; omega) e4]
        simp
      refine ⟨decide_eq_true ?_, ?_⟩
      · rw [hmn]; exact Nat.mul_le_mul_right _ hn
      · rw [Is.feq hT hx]; exact decide_eq_true rfl
  · have ea := read_abs x
    rw [e] at ea
    have hle : fle (x % 9223372036854775808) y = false := by
      obtain ⟨s', m', q', e', f'⟩ := hy
      show (Ieee.double.order (x % 9223372036854775808) y == some .lt || Ieee.double.order (x % 9223372036854775808) y == some .eq) = _
      rw [order_num ea e', compare_le]
      have h0 : min (((k + 1 : Nat)) : Int) (-(q' : Int)) = -(q' : Int) := by omega
      rw [h0, show (-(q' : Int) - (-(q' : Int))).toNat = 0 by omega, f', show ((((k + 1 : Nat)) : Int) - (-(q' : Int))).toNat = (k + 1) + q' by omega]
      have h1 : signed false m (k + 1 + q') = ((m * 2 ^ (k + 1) * 2 ^ q' : Nat) : Int) := by
        unfold signed
        rw [Nat.shiftLeft_eq, Nat.pow_add, Nat.mul_assoc]
        simp only [Bool.false_eq_true, if_false]
      rw [h1, ← Int.natCast_mul]
      refine decide_eq_false fun h => ?_
      have h2 : m * 2 ^ (k + 1) ≤ M := Nat.le_of_mul_le_mul_right (by exact_mod_cast h) (Nat.two_pow_pos q')
      have h3 : 2 ^ 53 ≤ m * 2 ^ (k + 1) := by
        calc 2 ^ 53 = 4503599627370496 * 2 ^ 1 := by decide
          _ ≤ m * 2 ^ (k + 1) := Nat.mul_le_mul hm (Nat.pow_le_pow_right (by omega) (by omega))
      omega
    rw [hle]
    refine ⟨fun h => (by cases h), ⟨fun h => (by cases h.1), ?_⟩⟩
    rintro ⟨n, ⟨s', m', q', e', f'⟩, _⟩
    rw [e] at e'
    injection e' with c1 c2 c3
    omega
  · have ea := read_abs x
    rw [e] at ea
    have hle : fle (x % 9223372036854775808) y = false := by
      obtain ⟨s', m', q', e', f'⟩ := hy
      show ((Ieee.double.read (x % 9223372036854775808)).order (Ieee.double.read y) == some .lt || (Ieee.double.read (x % 9223372036854775808)).order (Ieee.double.read y) == some .eq) = _
      rw [ea, e']
      rfl
    rw [hle]
    refine ⟨fun h => (by cases h), ⟨fun h => (by cases h.1), ?_⟩⟩
    rintro ⟨n, ⟨s', m', q', e', f'⟩, _⟩
    rw [e] at e'
    cases e'
  · have ea := read_abs x
    rw [e] at ea
    have hle : fle (x % 9223372036854775808) y = false := by
      show ((Ieee.double.read (x % 9223372036854775808)).order (Ieee.double.read y) == some .lt || (Ieee.double.read (x % 9223372036854775808)).order (Ieee.double.read y) == some .eq) = _
      rw [ea]
      cases Ieee.double.read y <;> rfl
    rw [hle]
    refine ⟨fun h => (by cases h), ⟨fun h => (by cases h.1), ?_⟩⟩
    rintro ⟨n, ⟨s', m', q', e', f'⟩, _⟩
    rw [e] at e'
    cases e'

theorem abs_bits (x : Nat) (h : x < 18446744073709551616) : u2f (Go.bits .andNot .u64 (f2u x) 9223372036854775808) = x % 9223372036854775808 := by
  unfold u2f f2u
  rw [u64_andNot _ _ (by omega) (by omega) (by omega) (by omega)]
  have := Nat.and_two_pow_sub_one_eq_mod x 63
  simpa using this

theorem Is.mul_some {x y : Nat} {a b : Int} (hx : Is x a) (hy : Is y b) (h : (a * b).natAbs < 2 ^ 53) : floatBits .mul .f64 x y = some (fmul x y) := get_some 0 (hx.mul hy h).1
theorem Is.add_some {x y : Nat} {a b : Int} (hx : Is x a) (hy : Is y b) (h : (a + b).natAbs < 2 ^ 53) : floatBits .add .f64 x y = some (fadd x y) := get_some 0 (hx.add hy h).1
theorem Is.sub_some {x y : Nat} {a b : Int} (hx : Is x a) (hy : Is y b) (h : (a - b).natAbs < 2 ^ 53) : floatBits .sub .f64 x y = some (fsub x y) := get_some 0 (hx.sub hy h).1

theorem cmul_is {a b c d : Nat} {A B C D : Int} (ha : Is a A) (hb : Is b B) (hc : Is c C) (hd : Is d D) (h1 : (A * C).natAbs < 2 ^ 53) (h2 : (B * D).natAbs < 2 ^ 53) (h3 : (A * D).natAbs < 2 ^ 53) (h4 : (B * C).natAbs < 2 ^ 53)
    (h5 : (A * C - B * D).natAbs < 2 ^ 53) (h6 : (A * D + B * C).natAbs < 2 ^ 53) : cmulok a b c d = true ∧ Is (cmulre a b c d) (A * C - B * D) ∧ Is (cmulim a b c d) (A * D + B * C) := by
  have e : cMulBits a b c d = some (fsub (fmul a c) (fmul b d), fadd (fmul a d) (fmul b c)) := by
    unfold cMulBits
    simp only [ha.mul_some hc h1, hb.mul_some hd h2, ha.mul_some hd h3, hb.mul_some hc h4, Option.bind_some, (ha.mul hc h1).2.sub_some (hb.mul hd h2).2 h5, (ha.mul hd h3).2.add_some (hb.mul hc h4).2 h6]
  unfold cmulok cmulre cmulim
  rw [e]
  exact ⟨rfl, ((ha.mul hc h1).2.sub (hb.mul hd h2).2 h5).2, ((ha.mul hd h3).2.add (hb.mul hc h4).2 h6).2⟩

theorem wf_lt {x : Nat} (h : (Lit.float .f64 x).wf = true) : x < 18446744073709551616 := by
  simpa [Lit.wf] using h
theorem cmul_lt (a b c d : Nat) : cmulre a b c d < 18446744073709551616 ∧ cmulim a b c d < 18446744073709551616 := by
  unfold cmulre cmulim
  cases h : cMulBits a b c d with
  | none => exact ⟨by decide, by decide⟩
  | some p =>
    unfold cMulBits at h
    obtain ⟨ac, _, h⟩ := Option.bind_eq_some_iff.mp h
    obtain ⟨bd, _, h⟩ := Option.bind_eq_some_iff.mp h
    obtain ⟨re, h1, h⟩ := Option.bind_eq_some_iff.mp h
    obtain ⟨ad, _, h⟩ := Option.bind_eq_some_iff.mp h
    obtain ⟨bc, _, h⟩ := Option.bind_eq_some_iff.mp h
    obtain ⟨im, h2, h⟩ := Option.bind_eq_some_iff.mp h
    cases h
    exact ⟨wf_lt (floatBits_wf h1), wf_lt (floatBits_wf h2)⟩
theorem cadd_lt (a b c d : Nat) : caddre a b c d < 18446744073709551616 ∧ caddim a b c d < 18446744073709551616 := by
  unfold caddre caddim
  cases h : cSumBits .add .f64 a b c d with
  | none => exact ⟨by decide, by decide⟩
  | some p =>
    unfold cSumBits at h
    obtain ⟨re, h1, h⟩ := Option.bind_eq_some_iff.mp h
    obtain ⟨im, h2, h⟩ := Option.bind_eq_some_iff.mp h
    cases h
    exact ⟨wf_lt (floatBits_wf h1), wf_lt (floatBits_wf h2)⟩

theorem cadd_is {a b c d : Nat} {A B C D : Int} (ha : Is a A) (hb : Is b B) (hc : Is c C) (hd : Is d D) (h1 : (A + C).natAbs < 2 ^ 53) (h2 : (B + D).natAbs < 2 ^ 53) :
    caddok a b c d = true ∧ Is (caddre a b c d) (A + C) ∧ Is (caddim a b c d) (B + D) := by
  have e : cSumBits .add .f64 a b c d = some (fadd a c, fadd b d) := by
    unfold cSumBits
    simp only [ha.add_some hc h1, hb.add_some hd h2, Option.bind_some]
  unfold caddok caddre caddim
  rw [e]
  exact ⟨rfl, (ha.add hc h1).2, (hb.add hd h2).2⟩

theorem ceq_is {a b c d : Nat} {A B C D : Int} (ha : Is a A) (hb : Is b B) (hc : Is c C) (hd : Is d D) : ceq a b c d = (decide (A = C) && decide (B = D)) := by
  unfold ceq
  rw [ha.feq hc, hb.feq hd]

theorem is_zero : Is 0 0 := ⟨false, 0, 1074, by rw [read_eq]; rfl, by rw [signed_zero, Int.zero_mul]⟩
theorem Is.neg {x : Nat} {n : Int} (h : Is x n) : Is (fneg x) (-n) := by
  obtain ⟨s, m, q, e, f⟩ := h
  have a : (x ^^^ 9223372036854775808) % 9223372036854775808 = x % 9223372036854775808 := by
    have := Nat.xor_mod_two_pow (a := x) (b := 9223372036854775808) (n := 63)
    simpa using this
  have b : ((x ^^^ 9223372036854775808) / 9223372036854775808 % 2 == 1) = !(x / 9223372036854775808 % 2 == 1) := by
    have h1 : (x ^^^ 9223372036854775808) / 9223372036854775808 = x / 9223372036854775808 ^^^ 1 := by
      have := Nat.xor_div_two_pow (a := x) (b := 9223372036854775808) (n := 63)
      simpa using this
    rw [h1]
    have h2 := Nat.xor_mod_two_pow (a := x / 9223372036854775808) (b := 1) (n := 1)
    simp only [Nat.pow_one] at h2
    rw [h2]
    rcases Nat.mod_two_eq_zero_or_one (x / 9223372036854775808) with h3 | h3 <;> rw [h3] <;> rfl
  refine ⟨!s, m, q, ?_, by rw [signed_not, f, Int.neg_mul]⟩
  unfold fneg
  rw [read_eq] at e ⊢
  rw [a, b]
  split at e
  · rename_i c
    rw [if_pos c]
    injection e with e1 e2 e3
    rw [e1, e2, e3]
  · rename_i c
    rw [if_neg c]
    split at e
    · rename_i c
      rw [if_pos c]
      injection e with e1 e2 e3
      rw [e1, e2, e3]
    · split at e <;> cases e
end Go.Proofs.Ytofedlghaopciaa.Flt
