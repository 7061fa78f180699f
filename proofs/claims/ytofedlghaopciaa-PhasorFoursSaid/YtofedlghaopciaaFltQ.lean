/- Floats that stand for a fourth of a whole number: the quotient by 4. -/
import Derived.Test.YtofedlghaopciaaFlt
import Derived.Laws.ComplexQuo
set_option linter.unusedVariables false
set_option linter.unusedSimpArgs false
namespace Go.Proofs.Ytofedlghaopciaa.Flt
open Ieee Go.Proofs.YtofedlghaopciaaW.PrintWords

theorem rung_parts4 (L K : Nat) (h1 : 4503599627370496 ≤ K) (h2 : K < 9007199254740992) (hL : L < 53) : min ((1020 + L) * 4503599627370496 + K) 9218868437227405312 = (1020 + L) * 4503599627370496 + K ∧
    4503599627370496 ≤ (1020 + L) * 4503599627370496 + K ∧ (1020 + L) * 4503599627370496 + K < 9218868437227405312 ∧ 4503599627370496 + ((1020 + L) * 4503599627370496 + K) % 4503599627370496 = K ∧ ((1020 + L) * 4503599627370496 + K) / 4503599627370496 = 1021 + L := by
  refine ⟨by omega, by omega, by omega, by omega, by omega⟩
theorem place4_e (L : Nat) (hL : L < 53) : (-((54 - L : Nat) : Int) - (-1074)).toNat = 1020 + L := by omega
theorem place4_e' (L : Nat) (hL : L < 53) : (-1074 + ((1021 + L - 1 : Nat) : Int)) = -((54 - L : Nat) : Int) := by omega
/-- The canonical form of a fourth. -/
theorem nearest_read4 (neg : Bool) (mag : Nat) (r : Nat) (N : Nat) (hN : N < 2 ^ 53) (h0 : N ≠ 0) (h : mag = N * 2 ^ r) :
    Ieee.double.read (Ieee.double.nearest neg mag (-((r + 2 : Nat) : Int))) = .number neg (N * 2 ^ (52 - N.log2)) (-((54 - N.log2 : Nat) : Int)) := by
  have hlog : N.log2 < 53 := (Nat.log2_lt h0).2 hN
  have hmag : mag ≠ 0 := by rw [h]; exact Nat.mul_ne_zero h0 (by have := Nat.two_pow_pos r; omega)
  have hlogm : mag.log2 = N.log2 + r := by
    rw [h, Nat.log2_eq_iff (by rw [← h]; exact hmag)]
    have a := Nat.log2_self_le h0
    have b := Nat.lt_log2_self (n := N)
    have hq := Nat.two_pow_pos r
    refine ⟨?_, ?_⟩
    · rw [Nat.pow_add]; exact Nat.mul_le_mul_right _ a
    · rw [show N.log2 + r + 1 = (N.log2 + 1) + r by omega, Nat.pow_add]; exact (Nat.mul_lt_mul_right hq).2 b
  have hkept : Toward.even.cut neg (mag <<< (-((r + 2 : Nat) : Int) - (-((54 - N.log2 : Nat) : Int))).toNat) (-((54 - N.log2 : Nat) : Int) - (-((r + 2 : Nat) : Int))).toNat = N * 2 ^ (52 - N.log2) := by
    by_cases hc : 52 - N.log2 ≤ r
    · have e1 : (-((r + 2 : Nat) : Int) - (-((54 - N.log2 : Nat) : Int))).toNat = 0 := by omega
      have e2 : (-((54 - N.log2 : Nat) : Int) - (-((r + 2 : Nat) : Int))).toNat = r - (52 - N.log2) := by omega
      rw [e1, e2, h, Nat.shiftLeft_zero]
      have e3 : N * 2 ^ r = (N * 2 ^ (52 - N.log2)) * 2 ^ (r - (52 - N.log2)) := by
        rw [Nat.mul_assoc, ← Nat.pow_add, Nat.add_sub_cancel' hc]
      rw [e3]
      exact cut_exact _ (.inl rfl) _ _ _ (Nat.mul_ne_zero h0 (by have := Nat.two_pow_pos (52 - N.log2); omega))
    · have e1 : (-((r + 2 : Nat) : Int) - (-((54 - N.log2 : Nat) : Int))).toNat = 52 - N.log2 - r := by omega
      have e2 : (-((54 - N.log2 : Nat) : Int) - (-((r + 2 : Nat) : Int))).toNat = 0 := by omega
      rw [e1, e2, cut_zero _ (.inl rfl), Nat.shiftLeft_eq, h, Nat.mul_assoc, ← Nat.pow_add]
      congr 2
      omega
  have hlast : max (-((r + 2 : Nat) : Int) + mag.log2 - Ieee.double.fractionBits) Ieee.double.leastPlace = -((54 - N.log2 : Nat) : Int) := by
    rw [hlogm]
    have : Ieee.double.leastPlace = -1074 := rfl
    have e : (Ieee.double.fractionBits : Int) = 52 := rfl
    rw [this, e]
    omega
  have hK1 : 2 ^ 52 ≤ N * 2 ^ (52 - N.log2) := by
    have a := Nat.log2_self_le h0
    calc 2 ^ 52 = 2 ^ N.log2 * 2 ^ (52 - N.log2) := by rw [← Nat.pow_add]; congr 1; omega
      _ ≤ _ := Nat.mul_le_mul_right _ a
  have hK2 : N * 2 ^ (52 - N.log2) < 2 ^ 53 := by
    have b := Nat.lt_log2_self (n := N)
    calc N * 2 ^ (52 - N.log2) < 2 ^ (N.log2 + 1) * 2 ^ (52 - N.log2) := (Nat.mul_lt_mul_right (Nat.two_pow_pos _)).2 b
      _ = 2 ^ 53 := by rw [← Nat.pow_add]; congr 1; omega
  have hK1' : 4503599627370496 ≤ N * 2 ^ (52 - N.log2) := Nat.le_trans (by decide) hK1
  have hK2' : N * 2 ^ (52 - N.log2) < 9007199254740992 := Nat.lt_of_lt_of_le hK2 (by decide)
  obtain ⟨r1, r2, r3, r4, r5⟩ := rung_parts4 N.log2 (N * 2 ^ (52 - N.log2)) hK1' hK2' hlog
  rw [e_least] at hlast
  rw [nearest_gen _ neg mag _ _ _ 52 _ _ _ hmag e_binade e_inf e_least e_frac hlast hkept]
  have e := place4_e N.log2 hlog
  rw [e, r1, read_word neg _ r2 r3, r4, r5]
  have e' := place4_e' N.log2 hlog
  rw [e']

/-- The bits x stand for a fourth of n. -/
def IsQ (x : Nat) (n : Int) : Prop := ∃ s m q, Ieee.double.read x = .number s m (-((q : Nat) : Int)) ∧ signed s m 0 * 4 = n * ((2 ^ q : Nat) : Int)

theorem sign_of {neg : Bool} {N : Int} {q : Nat} (h : signed neg (N.natAbs * 2 ^ q) 0 = N * ((2 ^ q : Nat) : Int)) (h0 : N ≠ 0) : signed neg N.natAbs 0 = N := by
  have hq := pow_pos' q
  have e : signed neg (N.natAbs * 2 ^ q) 0 = signed neg N.natAbs 0 * ((2 ^ q : Nat) : Int) := by
    rw [← signed_shift]
    unfold signed
    rw [Nat.shiftLeft_zero, Nat.shiftLeft_eq]
  rw [e] at h
  exact Int.eq_of_mul_eq_mul_right (by omega) h

theorem write_q (neg : Bool) (mag r : Nat) (N : Int) (h : signed neg mag 0 = N * ((2 ^ r : Nat) : Int)) (h1 : N.natAbs < 2 ^ 53) : IsQ (Ieee.double.write (.number neg mag (-((r + 2 : Nat) : Int)))) N := by
  show IsQ (Ieee.double.nearest neg mag (-((r + 2 : Nat) : Int))) N
  have hm : mag = N.natAbs * 2 ^ r := by
    have := congrArg Int.natAbs h
    rw [signed_natAbs, Int.natAbs_mul, Int.natAbs_natCast] at this
    exact this
  by_cases h0 : N = 0
  · subst h0
    have : mag = 0 := by rw [hm]; simp
    subst this
    exact ⟨neg, 0, 1074, nearest_read0 neg _, by rw [signed_zero, Int.zero_mul, Int.zero_mul]⟩
  · have hl : N.natAbs.log2 < 53 := (Nat.log2_lt (by omega)).2 h1
    refine ⟨neg, _, _, nearest_read4 neg mag r N.natAbs h1 (by omega) hm, ?_⟩
    rw [hm] at h
    have hs := sign_of h h0
    have e : signed neg (N.natAbs * 2 ^ (52 - N.natAbs.log2)) 0 = signed neg N.natAbs (52 - N.natAbs.log2) := by
      unfold signed
      rw [Nat.shiftLeft_zero, Nat.shiftLeft_eq]
    rw [e, signed_shift, hs, Int.mul_assoc]
    congr 1
    have e2 : 2 ^ (54 - N.natAbs.log2) = 2 ^ (52 - N.natAbs.log2) * 4 := by
      rw [show 54 - N.natAbs.log2 = (52 - N.natAbs.log2) + 2 by omega, Nat.pow_add]
    rw [e2, Int.natCast_mul]
    rfl

theorem read_lt {x : Nat} {s : Bool} {m : Nat} {i : Int} (h : Ieee.double.read x = .number s m i) : m < 9007199254740992 := by
  rw [read_eq] at h
  split at h
  · injection h; omega
  · split at h
    · injection h; omega
    · split at h <;> cases h
theorem read_four : Ieee.double.read 4616189618054758400 = .number false 4503599627370496 (-((50 : Nat) : Int)) := by
  rw [read_eq]; rfl
theorem log_four : (4503599627370496 : Nat).log2 = 52 := by decide

theorem quo4 {x : Nat} {N : Int} (hx : Is x N) (h1 : N.natAbs < 2 ^ 53) : ∃ e, floatBits .quo .f64 x 4616189618054758400 = some e ∧ IsQ e N := by
  obtain ⟨s, m, q, e, f⟩ := hx
  have hm := read_lt e
  have hl : m.log2 ≤ 52 := by
    by_cases h0 : m = 0
    · subst h0; decide
    · have := (Nat.log2_lt h0).2 (show m < 2 ^ 53 by omega); omega
  refine ⟨_, (by
    show ((Ieee.double.read x).quotient (Ieee.double.fractionBits + 2) (Ieee.double.read 4616189618054758400)).map Ieee.double.write = some (Ieee.double.write (.number s (m * 2 ^ (55 - m.log2)) (-((q + 55 - m.log2 + 2 : Nat) : Int))))
    rw [e, read_four, e_frac]
    show Option.map _ (some (Datum.number (s ^^ false) (2 * ((m <<< (52 + 2 + (4503599627370496 : Nat).log2 - m.log2)) / 4503599627370496) + ((m <<< (52 + 2 + (4503599627370496 : Nat).log2 - m.log2)) % 4503599627370496 != 0).toNat) (-(q : Int) - (-((50 : Nat) : Int)) - ((52 + 2 + (4503599627370496 : Nat).log2 - m.log2 : Nat) : Int) - 1))) = _
    rw [log_four]
    have e2 : m <<< (52 + 2 + 52 - m.log2) = (m * 2 ^ (54 - m.log2)) * 4503599627370496 := by
      rw [Nat.shiftLeft_eq, show 52 + 2 + 52 - m.log2 = (54 - m.log2) + 52 by omega, Nat.pow_add, ← Nat.mul_assoc]
    rw [e2, Nat.mul_div_cancel _ (by omega), Nat.mul_mod_left]
    have e3 : 2 * (m * 2 ^ (54 - m.log2)) + ((0 : Nat) != 0).toNat = m * 2 ^ (55 - m.log2) := by
      rw [show 55 - m.log2 = (54 - m.log2) + 1 by omega, Nat.pow_succ]
      generalize 2 ^ (54 - m.log2) = P
      show 2 * (m * P) + 0 = m * (P * 2)
      rw [← Nat.mul_assoc m P 2, Nat.mul_comm 2, Nat.add_zero]
    rw [e3]
    have e4 : (-(q : Int) - (-((50 : Nat) : Int)) - ((52 + 2 + 52 - m.log2 : Nat) : Int) - 1) = (-((q + 55 - m.log2 + 2 : Nat) : Int)) := by omega
    rw [e4, Bool.xor_false]
    rfl), ?_⟩
  refine write_q s _ _ N ?_ h1
  have e5 : signed s (m * 2 ^ (55 - m.log2)) 0 = signed s m (55 - m.log2) := by
    unfold signed
    rw [Nat.shiftLeft_zero, Nat.shiftLeft_eq]
  rw [e5, signed_shift, f, Int.mul_assoc, ← Int.natCast_mul, ← Nat.pow_add]
  congr 3
  omega

/-- What is cut off a fourth. -/
theorem IsQ.trunc {e : Nat} {N : Int} (h : IsQ e N) (h1 : N.natAbs < 2 ^ 53) : ftruncok e = true ∧ feq (ftrunc e) e = decide (N % 4 = 0) ∧ (N % 4 = 0 → Is e (N / 4)) := by
  obtain ⟨s, m, q, r, f⟩ := h
  have hq := Nat.two_pow_pos q
  have hq' := pow_pos' q
  have hm : m * 4 = N.natAbs * 2 ^ q := by
    have := congrArg Int.natAbs f
    rw [Int.natAbs_mul, signed_natAbs, Int.natAbs_mul, Int.natAbs_natCast] at this
    exact this
  have hok : ftruncok e = true := by
    show (!(Ieee.double.read e).isNaN) = true
    rw [r]; rfl
  have ht : ftrunc e = Ieee.double.write (.number s (m / 2 ^ q) 0) := by
    show Ieee.double.write ((Ieee.double.read e).integral .zero) = _
    rw [r]
    show Ieee.double.write (.number s (Toward.zero.cut s (m <<< (-(q : Int)).toNat) (-(-(q : Int))).toNat) 0) = _
    have e1 : (-(q : Int)).toNat = 0 := by omega
    have e2 : (-(-(q : Int))).toNat = q := by omega
    rw [e1, e2, Nat.shiftLeft_zero, cut_floor]
  have hb : m / 2 ^ q < 2 ^ 53 := by
    have h2 : m ≤ N.natAbs * 2 ^ q := by omega
    have := Nat.div_le_div_right (c := 2 ^ q) h2
    rw [Nat.mul_div_cancel _ hq] at this
    omega
  have hT : Is (ftrunc e) (signed s (m / 2 ^ q) 0) := by
    rw [ht]
    exact write_is s _ 0 _ (by simp) (by rw [signed_natAbs]; omega)
  have hd : N % 4 = 0 → signed s m 0 = (N / 4) * ((2 ^ q : Nat) : Int) := fun h4 => by
    have h5 : N = N / 4 * 4 := by omega
    rw [h5] at f
    have : signed s m 0 * 4 = (N / 4 * ((2 ^ q : Nat) : Int)) * 4 := by
      rw [f, Int.mul_assoc, Int.mul_assoc, Int.mul_comm 4]
    omega
  refine ⟨hok, ?_, fun h4 => ⟨s, m, q, r, hd h4⟩⟩
  obtain ⟨s', m', q', e', f'⟩ := hT
  have h3 : Go.Proofs.YtofedlghaopciaaW.PrintWords.feq (ftrunc e) e = decide (signed s (m / 2 ^ q) 0 * ((2 ^ (max q' q) : Nat) : Int) = signed s m (-(q : Int) - (-((max q' q : Nat) : Int))).toNat) := by
    show (Ieee.double.order (ftrunc e) e == some .eq) = _
    rw [order_num e' r, compare_eq, min_neg, shift_up f' (Nat.le_max_left q' q)]
  rw [h3]
  congr 1
  refine propext ?_
  rw [signed_shift s m, show (-(q : Int) - (-((max q' q : Nat) : Int))).toNat = max q' q - q by omega]
  have h4 : 2 ^ (max q' q) = 2 ^ q * 2 ^ (max q' q - q) := by rw [← Nat.pow_add]; congr 1; omega
  rw [h4, Int.natCast_mul, ← Int.mul_assoc]
  constructor
  · intro h2
    have h5 := Int.eq_of_mul_eq_mul_right (by have := pow_pos' (max q' q - q); omega) h2
    have h6 : signed s (m / 2 ^ q) 0 * 4 * ((2 ^ q : Nat) : Int) = N * ((2 ^ q : Nat) : Int) := by
      rw [← f, ← h5, Int.mul_assoc, Int.mul_assoc, Int.mul_comm 4]
    have h7 := Int.eq_of_mul_eq_mul_right (by omega) h6
    omega
  · intro h2
    congr 1
    have h5 := hd h2
    have h6 : m = (N / 4).natAbs * 2 ^ q := by
      have := congrArg Int.natAbs h5
      rw [signed_natAbs, Int.natAbs_mul, Int.natAbs_natCast] at this
      exact this
    have h7 : m / 2 ^ q = (N / 4).natAbs := by rw [h6, Nat.mul_div_cancel _ hq]
    rw [h7, h5]
    congr 1
    by_cases h0 : N / 4 = 0
    · rw [h0]; exact signed_zero s
    · rw [h6] at h5
      exact sign_of h5 h0

theorem IsQ.notNaN {e : Nat} {N : Int} (h : IsQ e N) : Op.Complex.isNaN e = false := by
  obtain ⟨s, m, q, r, f⟩ := h
  show (Ieee.double.read e).isNaN = false
  rw [r]; rfl

/-- A complex number by 4. -/
theorem cquo4 {a b : Nat} {A B : Int} (ha : Is a A) (hb : Is b B) (h1 : A.natAbs < 2 ^ 53) (h2 : B.natAbs < 2 ^ 53) : ∃ e f, cQuoBits a b 4616189618054758400 0 = some (e, f) ∧ IsQ e A ∧ IsQ f B ∧ e < 18446744073709551616 ∧ f < 18446744073709551616 := by
  have q1 : floatBits .quo .f64 0 4616189618054758400 = some 0 := by decide +kernel
  have q2 : floatBits .mul .f64 0 0 = some 0 := by decide +kernel
  have q3 : floatBits .add .f64 4616189618054758400 0 = some 4616189618054758400 := by decide +kernel
  have hge : absGe 4616189618054758400 0 = true := by decide +kernel
  have q4 := hb.mul_some is_zero (by rw [Int.mul_zero]; decide)
  have i4 := (hb.mul is_zero (by rw [Int.mul_zero]; decide)).2
  have q7 := ha.mul_some is_zero (by rw [Int.mul_zero]; decide)
  have i7 := (ha.mul is_zero (by rw [Int.mul_zero]; decide)).2
  rw [Int.mul_zero] at i4 i7
  have q5 := ha.add_some i4 (by rw [Int.add_zero]; exact h1)
  have i5 := (ha.add i4 (by rw [Int.add_zero]; exact h1)).2
  have q8 := hb.sub_some i7 (by rw [Int.sub_zero]; exact h2)
  have i8 := (hb.sub i7 (by rw [Int.sub_zero]; exact h2)).2
  rw [Int.add_zero] at i5
  rw [Int.sub_zero] at i8
  obtain ⟨e, q6, i6⟩ := quo4 i5 h1
  obtain ⟨f, q9, i9⟩ := quo4 i8 h2
  refine ⟨e, f, ?_, i6, i9, wf_lt (floatBits_wf q6), wf_lt (floatBits_wf q9)⟩
  unfold cQuoBits
  simp only [hge, if_true, q1, q2, q3, q4, q5, q6, q7, q8, q9, Option.bind_some, i6.notNaN, Bool.false_and, Bool.not_false]
end Go.Proofs.Ytofedlghaopciaa.Flt
