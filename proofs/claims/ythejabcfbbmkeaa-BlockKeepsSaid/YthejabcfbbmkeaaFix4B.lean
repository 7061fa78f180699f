/- The reference's quotient, bit by bit; MulDiv of both texts: the product's quotient, half up. -/
import Derived.Test.YthejabcfbbmkeaaFix3B
import Derived.Test.YthejabcfbbmkeaaFixRB
import Derived.Test.YthejabcfbbmkeaaPBx6

set_option linter.unusedVariables false
set_option linter.unusedSimpArgs false
namespace Go.Proofs.Ythejabcfbbmkeaa.PureB
open Go.RowKit Go.Proofs.Ythejabcfbbmkeaa.PB Go.Proofs.Ythejabcfbbmkeaa.Num Go.Proofs.YthejabcfbbmkeaaW.PrintWords Go.Proofs.YthejabcfbbmkeaaW.PrintLast Go.Proofs.YthejabcfbbmkeaaW.PrintMore

/-- One bit: what is brought down, and whether the divisor goes into it. -/
theorem bit_step {w r0 d c r : Int} {i : Nat} (hi : i < 64) (hd : 0 < d) (h : r0 * 2 ^ (64 - (i + 1)) + w / 2 ^ (i + 1) = c * d + r) :
    r0 * 2 ^ (64 - i) + w / 2 ^ i = 2 * c * d + (2 * r + w / 2 ^ i % 2) := by
  have e1 : (2 : Int) ^ (64 - i) = 2 ^ (64 - (i + 1)) * 2 := by rw [show 64 - i = 64 - (i + 1) + 1 by omega, Int.pow_succ]
  have e2 : w / 2 ^ (i + 1) = w / 2 ^ i / 2 := by rw [Int.pow_succ, Int.ediv_ediv_of_nonneg (by exact Int.le_of_lt (Int.pow_pos (by omega)))]
  rw [e2] at h
  rw [e1, ← Int.mul_assoc, Int.mul_assoc 2 c d]
  generalize r0 * 2 ^ (64 - (i + 1)) = z at *
  generalize c * d = y at *
  omega
theorem pow_le64 {i : Nat} (h : i ≤ 64) : (2 : Int) ^ i ≤ 18446744073709551616 := by
  rw [← pow_split i h]
  have h1 : (0 : Int) < 2 ^ i := Int.pow_pos (by omega)
  have h2 : (0 : Int) < 2 ^ (64 - i) := Int.pow_pos (by omega)
  have : (2 : Int) ^ i * 1 ≤ 2 ^ i * 2 ^ (64 - i) := Int.mul_le_mul_of_nonneg_left (by omega) (by omega)
  omega
/-- The next quotient's bits: c' * 2^i, c' either 2c or 2c+1. -/
theorem or_bit {c q : Int} {i : Nat} (hi : i < 64) (hq : q = c * 2 ^ (i + 1)) (hc0 : 0 ≤ c) (hc : c < 2 ^ (64 - (i + 1))) :
    Go.bits .or .u64 q (shl .u64 1 (i : Int)) = (2 * c + 1) * 2 ^ i := by
  have hp : (0 : Int) < 2 ^ i := Int.pow_pos (by omega)
  have hl := pow_le64 (i := i + 1) (by omega)
  have e : (2 : Int) ^ (i + 1) = 2 * 2 ^ i := by rw [Int.pow_succ, Int.mul_comm]
  have es : shl .u64 1 (i : Int) = 2 ^ i := by
    rw [shl64 (by omega) (by omega)]
    simp only [Int.one_mul, Int.toNat_natCast]
    exact Int.emod_eq_of_lt (by omega) (by omega)
  have hqM : q < 18446744073709551616 := by
    have h1 : c * 2 ^ (i + 1) < 2 ^ (64 - (i + 1)) * 2 ^ (i + 1) := Int.mul_lt_mul_of_pos_right hc (by omega)
    rw [← Int.pow_add, show 64 - (i + 1) + (i + 1) = 64 by omega] at h1
    rw [hq]
    exact h1
  have hq0 : 0 ≤ q := by rw [hq]; exact Int.mul_nonneg hc0 (by omega)
  rw [es, or_join (i + 1) hq0 hqM (by rw [hq]; exact Int.mul_emod_left ..) (by omega) (by omega) (by omega), hq, e, Int.add_mul, ← Int.mul_assoc, Int.mul_comm c 2]
  omega
theorem low_loop {hi lo d qh r0 : Int} (hd : 0 < d) (hdM : d < 18446744073709551616) (l0 : 0 ≤ lo) (l1 : lo < 18446744073709551616) (hr00 : 0 ≤ r0) (hr0 : r0 < d) :
    ∀ (n : Nat) (q r c : Int), n ≤ 64 → q = c * 2 ^ n → 0 ≤ c → c < 2 ^ (64 - n) → 0 ≤ r → r < d → r0 * 2 ^ (64 - n) + lo / 2 ^ n = c * d + r →
    Ev (fun k => pylonref01_quotient.l0 k hi lo d qh q r ((n : Int) - 1)) (qh, (r0 * 18446744073709551616 + lo) / d, (r0 * 18446744073709551616 + lo) % d) := by
  intro n
  induction n with
  | zero =>
    intro q r c _ hq hc0 hc h0 h1 he
    have hq' : q = c := by simpa using hq
    subst hq'
    have he' : r0 * 18446744073709551616 + lo = q * d + r := by simpa using he
    have eq : (r0 * 18446744073709551616 + lo) / d = q := (quot_is hd (by omega) (by rw [Int.add_mul]; omega)).symm
    have er : (r0 * 18446744073709551616 + lo) % d = r := by
      have a := Int.emod_add_mul_ediv (r0 * 18446744073709551616 + lo) d
      rw [eq, Int.mul_comm d] at a
      omega
    rw [eq, er]
    refine Ev.shift ?_
    simp only [pylonref01_quotient.l0]
    exact Ev.now _
  | succ i ih =>
    intro q r c hn hq hc0 hc h0 h1 he
    have hst := bit_step (by omega) hd he
    have hor := or_bit (by omega) hq hc0 hc
    have hp : (0 : Int) < 2 ^ i := Int.pow_pos (by omega)
    have hpc : (2 : Int) ^ (64 - i) = 2 ^ (64 - (i + 1)) * 2 := by rw [show 64 - i = 64 - (i + 1) + 1 by omega, Int.pow_succ]
    have ei : (((i + 1 : Nat) : Int) - 1) = (i : Int) := by omega
    rw [ei]
    refine Ev.shift ?_
    simp only [pylonref01_quotient.l0]
    have et : Int.tmod (i : Int) 64 = i := by rw [tmodn (by omega)]; omega
    have ew : IntKind.u64.wrap (i : Int) = i := w64 (by omega) (by omega)
    have eb : Go.bits .and .u64 (shr .u64 lo (i : Int)) 1 = lo / 2 ^ i % 2 := by
      rw [shr64 (by omega) (by omega), Int.toNat_natCast]
      exact and_one (Int.ediv_nonneg l0 (by omega)) (Int.lt_of_le_of_lt (Int.ediv_le_self _ l0) l1)
    rw [et, ew, eb]
    simp only [if_pos (show (i : Int) ≥ 0 by omega), if_pos (show (0 : Int) ≤ i by omega), if_neg (show ¬ (i : Int) ≥ 64 by omega)]
    have hb0 : 0 ≤ lo / 2 ^ i % 2 := Int.emod_nonneg _ (by omega)
    have hb1 : lo / 2 ^ i % 2 < 2 := Int.emod_lt_of_pos _ (by omega)
    have hwr : wrap64 ((i : Int) - 1) = (i : Int) - 1 := i64in (by omega) (by omega)
    generalize lo / 2 ^ i % 2 = b at *
    -- the divisor goes into it
    have yes : ∀ z : Int, ∀ t : Bool, IntKind.u64.wrap (z - d) = 2 * r + b - d → d ≤ 2 * r + b → Ev (fun k => pylonref01_quotient.j2 k hi lo d qh q z (i : Int) t true) (qh, (r0 * 18446744073709551616 + lo) / d, (r0 * 18446744073709551616 + lo) % d) := by
      intro z t hz hge
      refine Ev.shift ?_
      simp only [pylonref01_quotient.j2, if_true, if_neg (show ¬ (i : Int) ≥ 64 by omega)]
      rw [ew, hz, hwr, hor]
      simp only [if_pos (show (0 : Int) ≤ i by omega)]
      refine ih _ _ (2 * c + 1) (by omega) rfl (by omega) (by omega) (by omega) (by omega) ?_
      rw [hst, Int.add_mul]
      omega
    have no : ∀ z : Int, ∀ t : Bool, z = 2 * r + b → 2 * r + b < d → Ev (fun k => pylonref01_quotient.j2 k hi lo d qh q z (i : Int) t false) (qh, (r0 * 18446744073709551616 + lo) / d, (r0 * 18446744073709551616 + lo) % d) := by
      intro z t hz hge
      refine Ev.shift ?_
      simp only [pylonref01_quotient.j2, Bool.false_eq_true, if_false]
      rw [hwr, hz]
      refine ih _ _ (2 * c) (by omega) ?_ (by omega) (by omega) (by omega) (by omega) hst
      rw [hq, Int.pow_succ, Int.mul_comm 2 c, Int.mul_assoc, Int.mul_comm (2 ^ i) 2]
    refine Ev.shift ?_
    simp only [pylonref01_quotient.j1]
    by_cases hr : r ≥ 9223372036854775808
    · simp only [if_pos hr]
      exact yes _ _ (by simp only [IntKind.wrap_u64]; omega) (by omega)
    · simp only [if_neg hr]
      have ez : IntKind.u64.wrap (IntKind.u64.wrap (r * 2) + b) = 2 * r + b := by simp only [IntKind.wrap_u64]; omega
      rw [ez]
      by_cases hg : 2 * r + b ≥ d
      · rw [decide_eq_true hg]
        exact yes _ _ (by simp only [IntKind.wrap_u64]; omega) hg
      · rw [decide_eq_false hg]
        exact no _ _ rfl (by omega)
theorem high_loop {hi lo d : Int} (hd : 0 < d) (hdM : d < 18446744073709551616) (l0 : 0 ≤ lo) (l1 : lo < 18446744073709551616) (h0 : 0 ≤ hi) (hM : hi < 18446744073709551616) :
    ∀ (n : Nat) (q r c : Int), n ≤ 64 → q = c * 2 ^ n → 0 ≤ c → c < 2 ^ (64 - n) → 0 ≤ r → r < d → 0 * 2 ^ (64 - n) + hi / 2 ^ n = c * d + r →
    Ev (fun k => pylonref01_quotient.l0 k hi lo d q 0 r ((n : Int) + 63)) (hi / d, (hi % d * 18446744073709551616 + lo) / d, (hi % d * 18446744073709551616 + lo) % d) := by
  intro n
  induction n with
  | zero =>
    intro q r c _ hq hc0 hc h0' h1 he
    have hq' : q = c := by simpa using hq
    subst hq'
    have he' : hi = q * d + r := by simpa using he
    have eq : hi / d = q := (quot_is hd (by omega) (by rw [Int.add_mul]; omega)).symm
    have er : hi % d = r := by
      have a := Int.emod_add_mul_ediv hi d
      rw [eq, Int.mul_comm d] at a
      omega
    rw [eq, er]
    have := low_loop (hi := hi) (qh := q) hd hdM l0 l1 h0' h1 64 0 r 0 (by omega) (by simp) (by omega) (by simp) h0' h1 (by
      rw [show (2 : Int) ^ 64 = 18446744073709551616 by rfl, Int.ediv_eq_zero_of_lt l0 l1]; simp)
    simpa using this
  | succ i ih =>
    intro q r c hn hq hc0 hc h0' h1 he
    have hst := bit_step (by omega) hd he
    have hor := or_bit (by omega) hq hc0 hc
    have hp : (0 : Int) < 2 ^ i := Int.pow_pos (by omega)
    have hpc : (2 : Int) ^ (64 - i) = 2 ^ (64 - (i + 1)) * 2 := by rw [show 64 - i = 64 - (i + 1) + 1 by omega, Int.pow_succ]
    have ei : (((i + 1 : Nat) : Int) + 63) = (i : Int) + 64 := by omega
    rw [ei]
    refine Ev.shift ?_
    simp only [pylonref01_quotient.l0]
    have et0 : (0 : Int) ≤ IntKind.u64.wrap (Int.tmod ((i : Int) + 64) 64) := by rw [tmodn (by omega), IntKind.wrap_u64]; omega
    have e64 : wrap64 ((i : Int) + 64 - 64) = i := by rw [i64in (by omega) (by omega)]; omega
    have ew : IntKind.u64.wrap (i : Int) = i := w64 (by omega) (by omega)
    have eb : Go.bits .and .u64 (shr .u64 hi (i : Int)) 1 = hi / 2 ^ i % 2 := by
      rw [shr64 (by omega) (by omega), Int.toNat_natCast]
      exact and_one (Int.ediv_nonneg h0 (by omega)) (Int.lt_of_le_of_lt (Int.ediv_le_self _ h0) hM)
    rw [e64, ew, eb]
    simp only [if_pos (show (i : Int) + 64 ≥ 0 by omega), if_pos et0, if_pos (show (i : Int) + 64 ≥ 64 by omega), if_pos (show (0 : Int) ≤ i by omega)]
    have hb0 : 0 ≤ hi / 2 ^ i % 2 := Int.emod_nonneg _ (by omega)
    have hb1 : hi / 2 ^ i % 2 < 2 := Int.emod_lt_of_pos _ (by omega)
    have hwr : wrap64 ((i : Int) + 64 - 1) = (i : Int) + 63 := by rw [i64in (by omega) (by omega)]; omega
    generalize hi / 2 ^ i % 2 = b at *
    have yes : ∀ z : Int, ∀ t : Bool, IntKind.u64.wrap (z - d) = 2 * r + b - d → d ≤ 2 * r + b → Ev (fun k => pylonref01_quotient.j2 k hi lo d q 0 z ((i : Int) + 64) t true) (hi / d, (hi % d * 18446744073709551616 + lo) / d, (hi % d * 18446744073709551616 + lo) % d) := by
      intro z t hz hge
      refine Ev.shift ?_
      simp only [pylonref01_quotient.j2, if_true, if_pos (show (i : Int) + 64 ≥ 64 by omega)]
      rw [e64, ew, hz, hwr, hor]
      simp only [if_pos (show (0 : Int) ≤ i by omega)]
      refine ih _ _ (2 * c + 1) (by omega) rfl (by omega) (by omega) (by omega) (by omega) ?_
      rw [hst, Int.add_mul]
      omega
    have no : ∀ z : Int, ∀ t : Bool, z = 2 * r + b → 2 * r + b < d → Ev (fun k => pylonref01_quotient.j2 k hi lo d q 0 z ((i : Int) + 64) t false) (hi / d, (hi % d * 18446744073709551616 + lo) / d, (hi % d * 18446744073709551616 + lo) % d) := by
      intro z t hz hge
      refine Ev.shift ?_
      simp only [pylonref01_quotient.j2, Bool.false_eq_true, if_false]
      rw [hwr, hz]
      refine ih _ _ (2 * c) (by omega) ?_ (by omega) (by omega) (by omega) (by omega) hst
      rw [hq, Int.pow_succ, Int.mul_comm 2 c, Int.mul_assoc, Int.mul_comm (2 ^ i) 2]
    refine Ev.shift ?_
    simp only [pylonref01_quotient.j1]
    by_cases hr : r ≥ 9223372036854775808
    · simp only [if_pos hr]
      exact yes _ _ (by simp only [IntKind.wrap_u64]; omega) (by omega)
    · simp only [if_neg hr]
      have ez : IntKind.u64.wrap (IntKind.u64.wrap (r * 2) + b) = 2 * r + b := by simp only [IntKind.wrap_u64]; omega
      rw [ez]
      by_cases hg : 2 * r + b ≥ d
      · rw [decide_eq_true hg]
        exact yes _ _ (by simp only [IntKind.wrap_u64]; omega) hg
      · rw [decide_eq_false hg]
        exact no _ _ rfl (by omega)
theorem quotient_f {hi lo d : Int} (hd : 0 < d) (hdM : d < 18446744073709551616) (l0 : 0 ≤ lo) (l1 : lo < 18446744073709551616) (h0 : 0 ≤ hi) (hM : hi < 18446744073709551616) :
    Ev (fun k => pylonref01_quotient.f k hi lo d) (hi / d, (hi % d * 18446744073709551616 + lo) / d, (hi % d * 18446744073709551616 + lo) % d) := by
  have := high_loop hd hdM l0 l1 h0 hM 64 0 0 0 (by omega) (by simp) (by omega) (by simp) (by omega) hd (by
    rw [show (2 : Int) ^ 64 = 18446744073709551616 by rfl, Int.ediv_eq_zero_of_lt h0 hM]; simp)
  simpa [pylonref01_quotient.f] using this

/-! ### MulDiv -/
/-- The product's sign. -/
theorem prod_sign (a b : Int) : a * b = if (decide (a < 0) != decide (b < 0)) = true then -((a.natAbs : Int) * (b.natAbs : Int)) else (a.natAbs : Int) * (b.natAbs : Int) := by
  by_cases ha : a < 0 <;> by_cases hb : b < 0
  · have e1 : (a.natAbs : Int) = -a := by omega
    have e2 : (b.natAbs : Int) = -b := by omega
    simp [ha, hb, e1, e2, Int.neg_mul, Int.mul_neg]
  · have e1 : (a.natAbs : Int) = -a := by omega
    have e2 : (b.natAbs : Int) = b := by omega
    simp [ha, hb, e1, e2, Int.neg_mul, Int.mul_neg]
  · have e1 : (a.natAbs : Int) = a := by omega
    have e2 : (b.natAbs : Int) = -b := by omega
    simp [ha, hb, e1, e2, Int.neg_mul, Int.mul_neg]
  · have e1 : (a.natAbs : Int) = a := by omega
    have e2 : (b.natAbs : Int) = b := by omega
    simp [ha, hb, e1, e2, Int.neg_mul, Int.mul_neg]
theorem mulDiv_sign {a b c : Int} (hc : c ≠ 0) :
    mulDiv a b c = halfUp (if (!((!((decide (a < 0)) == (decide (b < 0)))) == (decide (c < 0)))) = true then -((a.natAbs : Int) * (b.natAbs : Int)) else (a.natAbs : Int) * (b.natAbs : Int)) (c.natAbs : Int) := by
  unfold mulDiv
  have hs := prod_sign a b
  by_cases h : c < 0
  · have e : (c.natAbs : Int) = -c := by omega
    rw [if_pos h, e, hs]
    by_cases h1 : a < 0 <;> by_cases h2 : b < 0 <;> simp [h, h1, h2]
  · have e : (c.natAbs : Int) = c := by omega
    rw [if_neg h, e, hs]
    by_cases h1 : a < 0 <;> by_cases h2 : b < 0 <;> simp [h, h1, h2]

/-- What MulDiv answers. -/
def mulDivA (a b c : Int) : Int × Int := if c = 0 then (0, 6) else fits (mulDiv a b c)

theorem ref_muldiv_f {a b c : Int} (ha : (Lit.int .i64 a).wf = true) (hb : (Lit.int .i64 b).wf = true) (hc : (Lit.int .i64 c).wf = true) :
    Ev (fun k => pylonref01_MulDiv.f k a b c) (mulDivA a b c) := by
  have wa := wf64 ha
  have wb := wf64 hb
  have wc := wf64 hc
  unfold pylonref01_MulDiv.f mulDivA
  by_cases h0 : c = 0
  · simp only [if_pos h0]
    exact Ev.now _
  · simp only [if_neg h0]
    have hna : (0 : Int) ≤ (a.natAbs : Int) ∧ (a.natAbs : Int) ≤ 9223372036854775808 := by omega
    have hnb : (0 : Int) ≤ (b.natAbs : Int) ∧ (b.natAbs : Int) ≤ 9223372036854775808 := by omega
    have hnc : (0 : Int) < (c.natAbs : Int) ∧ (c.natAbs : Int) ≤ 9223372036854775808 := by omega
    have hsg := mulDiv_sign (a := a) (b := b) h0
    have hcm := mag_f wc.1 wc.2
    simp only [mag_f wa.1 wa.2, mag_f wb.1 wb.2, Option.bind_some]
    generalize hd : (c.natAbs : Int) = d at *
    have hN0 : 0 ≤ (a.natAbs : Int) * (b.natAbs : Int) := Int.mul_nonneg hna.1 hnb.1
    have hN1 : (a.natAbs : Int) * (b.natAbs : Int) ≤ 9223372036854775808 * 9223372036854775808 := Int.mul_le_mul hna.2 hnb.2 hnb.1 (by omega)
    rw [product_f hna.1 (by omega) hnb.1 (by omega)]
    simp only [Option.bind_some]
    generalize hneg : (!((!((decide (a < 0)) == (decide (b < 0)))) == (decide (c < 0)))) = neg at *
    generalize (a.natAbs : Int) * (b.natAbs : Int) = N at *
    have hh0 : 0 ≤ N / 18446744073709551616 := by omega
    have hm0 := Int.emod_nonneg (N / 18446744073709551616) (show d ≠ 0 by omega)
    have hm1 := Int.emod_lt_of_pos (N / 18446744073709551616) hnc.1
    have hme := Int.emod_add_mul_ediv (N / 18446744073709551616) d
    have htop : 0 ≤ N / 18446744073709551616 / d := Int.ediv_nonneg hh0 (by omega)
    have htop1 : N / 18446744073709551616 / d ≤ N / 18446744073709551616 := Int.ediv_le_self _ hh0
    have dv := quotient_f (hi := N / 18446744073709551616) (lo := N % 18446744073709551616) (d := d) hnc.1 (by omega) (by omega) (by omega) hh0 (by omega)
    have hq0 : 0 ≤ (N / 18446744073709551616 % d * 18446744073709551616 + N % 18446744073709551616) / d := Int.ediv_nonneg (by omega) (by omega)
    have hq1 : (N / 18446744073709551616 % d * 18446744073709551616 + N % 18446744073709551616) / d < 18446744073709551616 := Int.ediv_lt_of_lt_mul hnc.1 (by
      have : (N / 18446744073709551616 % d + 1) * 18446744073709551616 ≤ d * 18446744073709551616 := by omega
      omega)
    have hr := Int.emod_add_mul_ediv (N / 18446744073709551616 % d * 18446744073709551616 + N % 18446744073709551616) d
    have hr0 := Int.emod_nonneg (N / 18446744073709551616 % d * 18446744073709551616 + N % 18446744073709551616) (show d ≠ 0 by omega)
    have hr1 := Int.emod_lt_of_pos (N / 18446744073709551616 % d * 18446744073709551616 + N % 18446744073709551616) hnc.1
    generalize (N / 18446744073709551616 % d * 18446744073709551616 + N % 18446744073709551616) % d = r at *
    generalize (N / 18446744073709551616 % d * 18446744073709551616 + N % 18446744073709551616) / d = q at *
    have hNe : N = (N / 18446744073709551616 / d * 18446744073709551616 + q) * d + r := by
      rw [Int.add_mul, Int.mul_right_comm, Int.mul_comm (N / 18446744073709551616 / d) d, Int.mul_comm q d]
      omega
    have hU := halfUp_mag hnc.1 hNe hr0 hr1 neg
    rw [hsg, hU]
    generalize N / 18446744073709551616 / d = top at *
    have el : IntKind.u64.wrap (d - r) = d - r := w64 (by omega) (by omega)
    -- what follows, for a sign that is only asked where the number is not 0
    have sg : ∀ (n2 : Bool) (hi lo : Int), 0 ≤ hi → 0 ≤ lo → lo < 18446744073709551616 → (hi ≠ 0 ∨ lo ≠ 0 → n2 = neg) → ∀ k, (pylonref01_signed.f (k + 1) n2 hi lo) = some (fits (if neg = true then -(hi * 18446744073709551616 + lo) else hi * 18446744073709551616 + lo)) := by
      intro n2 hi lo a0 b0 b1 hn k
      rw [signed_f k n2 a0 b0 b1]
      by_cases hz : hi ≠ 0 ∨ lo ≠ 0
      · rw [hn hz]
      · have z1 : hi = 0 := by omega
        have z2 : lo = 0 := by omega
        subst z1 z2
        have e0 : -((0 : Int) * 18446744073709551616 + 0) = 0 * 18446744073709551616 + 0 := by omega
        cases n2 <;> cases neg <;> simp only [if_true, Bool.false_eq_true, if_false, e0]
    have up : ∀ n1 : Bool, n1 = neg → Ev (fun k => pylonref01_MulDiv.j1 k n1 top q true) (fits (if neg = true then -(top * 18446744073709551616 + q + 1) else top * 18446744073709551616 + q + 1)) := by
      intro n1 hn1
      subst hn1
      refine Ev.shift (Ev.shift ?_)
      simp only [pylonref01_MulDiv.j1, if_true]
      have e1 : IntKind.u64.wrap (q + 1) = (q + 1) % 18446744073709551616 := IntKind.wrap_u64 _
      have e2 : IntKind.u64.wrap (top + 1) = top + 1 := w64 (by omega) (by omega)
      rw [e1, e2]
      by_cases hz : (q + 1) % 18446744073709551616 = 0
      · have e : (top + 1) * 18446744073709551616 + (q + 1) % 18446744073709551616 = top * 18446744073709551616 + q + 1 := by omega
        have hs := sg n1 (top + 1) ((q + 1) % 18446744073709551616) (by omega) (by omega) (by omega) (fun _ => rfl)
        rw [e] at hs
        simp only [if_pos hz, if_neg (show ¬ top + 1 = 0 by omega)]
        cases n1 <;> simp only [if_true, Bool.false_eq_true, if_false] at hs ⊢ <;> simp only [hs, Option.bind_some] <;> exact Ev.pair _
      · have hs := sg n1 top ((q + 1) % 18446744073709551616) (by omega) (by omega) (by omega) (fun _ => rfl)
        have e : top * 18446744073709551616 + (q + 1) % 18446744073709551616 = top * 18446744073709551616 + q + 1 := by omega
        rw [e] at hs
        simp only [if_neg hz]
        cases n1 <;> simp only [if_true, Bool.false_eq_true, if_false, ite_self] at hs ⊢ <;> simp only [hs, Option.bind_some] <;> exact Ev.pair _
    have down : ∀ n1 : Bool, (top ≠ 0 ∨ q ≠ 0 → n1 = neg) → Ev (fun k => pylonref01_MulDiv.j1 k n1 top q false) (fits (if neg = true then -(top * 18446744073709551616 + q) else top * 18446744073709551616 + q)) := by
      intro n1 hn1
      refine Ev.shift (Ev.shift ?_)
      simp only [pylonref01_MulDiv.j1, Bool.false_eq_true, if_false]
      cases n1
      · simp only [Bool.false_eq_true, if_false, sg false top q htop hq0 hq1 hn1, Option.bind_some]
        exact Ev.pair _
      · simp only [if_true]
        by_cases hz : top = 0
        · simp only [if_pos hz]
          have hs2 : ∀ k, pylonref01_signed.f (k + 1) (q != 0) top q = some (fits (if neg = true then -(top * 18446744073709551616 + q) else top * 18446744073709551616 + q)) := fun k => sg _ top q htop hq0 hq1 (fun h => by
            have : q ≠ 0 := by omega
            rw [← hn1 h]
            simpa using this) k
          simp only [hs2, Option.bind_some]
          exact Ev.pair _
        · simp only [if_neg hz, sg true top q htop hq0 hq1 hn1, Option.bind_some]
          exact Ev.pair _
    -- behind the sign
    have j0 : ∀ n1 : Bool, (N ≠ 0 → n1 = neg) → Ev (fun k => pylonref01_MulDiv.j0 k c (N / 18446744073709551616) (N % 18446744073709551616) n1) (fits (if neg = true then -(if r > d - r then top * 18446744073709551616 + q + 1 else top * 18446744073709551616 + q) else (if r ≥ d - r then top * 18446744073709551616 + q + 1 else top * 18446744073709551616 + q))) := by
      intro n1 hn1
      refine Ev.shift ?_
      simp only [pylonref01_MulDiv.j0, hcm, Option.bind_some]
      refine Ev.bind dv ?_
      simp only [el]
      by_cases hN : N = 0
      · have hd0 : top * 18446744073709551616 + q = 0 ∧ r = 0 := by
          have h1 : 0 ≤ (top * 18446744073709551616 + q) * d := Int.mul_nonneg (by omega) (by omega)
          have h2 : (top * 18446744073709551616 + q) * d = 0 := by omega
          rcases Int.mul_eq_zero.1 h2 with h3 | h3 <;> omega
        have ht0 : top = 0 := by omega
        have hq00 : q = 0 := by omega
        have hdn := down n1 (by omega)
        have hr00 : r = 0 := hd0.2
        subst hr00
        have d1 : decide ((0 : Int) > d - 0) = false := decide_eq_false (by omega)
        have d2 : decide ((0 : Int) ≥ d - 0) = false := decide_eq_false (by omega)
        rw [d1, d2, if_neg (show ¬ (0 : Int) > d - 0 by omega), if_neg (show ¬ (0 : Int) ≥ d - 0 by omega)]
        cases neg <;> cases n1 <;> simp only [if_true, Bool.false_eq_true, if_false] at hdn ⊢ <;> exact hdn
      · have hn := hn1 hN
        subst hn
        cases n1
        · simp only [Bool.false_eq_true, if_false]
          by_cases h1 : r ≥ d - r
          · rw [decide_eq_true h1, if_pos h1]
            have hz := up false rfl
            simp only [Bool.false_eq_true, if_false] at hz
            exact hz
          · rw [decide_eq_false h1, if_neg h1]
            have hz := down false (fun _ => rfl)
            simp only [Bool.false_eq_true, if_false] at hz
            exact hz
        · simp only [if_true]
          by_cases h1 : r > d - r
          · rw [decide_eq_true h1, if_pos h1]
            have hz := up true rfl
            simp only [if_true] at hz
            exact hz
          · rw [decide_eq_false h1, if_neg h1]
            have hz := down true (fun _ => rfl)
            simp only [if_true] at hz
            exact hz
    cases hn2 : neg
    · rw [hn2] at j0
      simp only [Bool.false_eq_true, if_false] at j0 ⊢
      exact j0 false (fun _ => rfl)
    · rw [hn2] at j0
      simp only [if_true] at j0 ⊢
      by_cases hz : N / 18446744073709551616 = 0
      · simp only [if_pos hz]
        exact j0 _ (fun h => by have : N % 18446744073709551616 ≠ 0 := by omega
                                simpa using this)
      · simp only [if_neg hz]
        exact j0 true (fun _ => rfl)
end Go.Proofs.Ythejabcfbbmkeaa.PureB
