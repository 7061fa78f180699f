/- math/bits.Div64, fix.MulDiv and the reference's: the quotient of a product, half up. -/
import Derived.Test.YthejabcfbbmkeaaDoorFix2F
set_option linter.unusedVariables false
set_option linter.unusedSimpArgs false
namespace Go.Proofs.YthejabcfbbmkeaaDoor.PureF
open Go.RowKit Go.Proofs.YthejabcfbbmkeaaDoor.PF Go.Proofs.YthejabcfbbmkeaaDoor.Num Go.Proofs.YthejabcfbbmkeaaDoorW.PrintWords Go.Proofs.YthejabcfbbmkeaaDoorW.PrintLast Go.Proofs.YthejabcfbbmkeaaDoorW.PrintMore

/-- From the first digit on: both digits of the quotient by a normed divisor. -/
theorem digits_ends {y s yn1 yn0 U u1 u0 : Int} (hy : y = yn1 * 4294967296 + yn0) (h0 : 0 ≤ yn0) (h1 : yn0 < 4294967296) (hn0 : 2147483648 ≤ yn1) (hn1 : yn1 < 4294967296) (hU0 : 0 ≤ U) (hU : U < y)
    (hu10 : 0 ≤ u1) (hu11 : u1 < 4294967296) (hu0 : 0 ≤ u0) (hu1 : u0 < 4294967296) (hs0 : 0 ≤ s) (hs : s ≤ 64) :
    Ev (fun k => bits_Div64.l0 k y s yn1 yn0 U u1 u0 (U / yn1) (U - U / yn1 * yn1))
      ((U * 18446744073709551616 + (u1 * 4294967296 + u0)) / y, ((U * 18446744073709551616 + (u1 * 4294967296 + u0)) % y) / 2 ^ s.toNat) := by
  have hy0 : 0 < y := by omega
  have hyM : y < 18446744073709551616 := by omega
  obtain ⟨g1, g2, g3, g4, g5, g6⟩ := guess (u1 := u1) hy h0 h1 hn0 hU0 hU hu10 hu11
  refine l0_ends hy h0 h1 hn0 hn1 hU0 hU hu10 hu11 ?_ 2 _ _ (by omega) g2 (by omega) g1 g4 g5 g6
  have r1 := rest_bounds (n := U * 4294967296 + u1) hy0
  have q1lt := digit_lt hy0 hU hu11
  have q1ge : 0 ≤ (U * 4294967296 + u1) / y := Int.ediv_nonneg (by omega) (by omega)
  have r2 := rest_bounds (n := (U * 4294967296 + u1 - (U * 4294967296 + u1) / y * y) * 4294967296 + u0) hy0
  have q0lt := digit_lt (u1 := u0) hy0 r1.2 hu1
  have q0ge : 0 ≤ ((U * 4294967296 + u1 - (U * 4294967296 + u1) / y * y) * 4294967296 + u0) / y := Int.ediv_nonneg (by omega) (by omega)
  have two := two_digits (U := U) (u1 := u1) (u0 := u0) hy0
  generalize hQ1 : (U * 4294967296 + u1) / y = Q1 at *
  generalize hR1 : U * 4294967296 + u1 - Q1 * y = R1 at *
  generalize hQ0 : (R1 * 4294967296 + u0) / y = Q0 at *
  generalize hR0 : R1 * 4294967296 + u0 - Q0 * y = R0 at *
  have hq : (U * 18446744073709551616 + (u1 * 4294967296 + u0)) / y = Q1 * 4294967296 + Q0 := by
    refine (quot_is hy0 ?_ ?_).symm
    · omega
    · rw [Int.add_mul (Q1 * 4294967296 + Q0) 1 y]; omega
  have hr : (U * 18446744073709551616 + (u1 * 4294967296 + u0)) % y = R0 := by
    have a := Int.emod_add_mul_ediv (U * 18446744073709551616 + (u1 * 4294967296 + u0)) y
    rw [hq, Int.mul_comm y] at a
    omega
  rw [hq, hr]
  refine Ev.shift ?_
  simp only [bits_Div64.j2, if_neg (show ¬ yn1 = 0 by omega)]
  have e21 : IntKind.u64.wrap ((IntKind.u64.wrap ((IntKind.u64.wrap (U * 4294967296)) + u1)) - (IntKind.u64.wrap (Q1 * y))) = R1 := by
    simp only [IntKind.wrap_u64]
    generalize Q1 * y = z at *
    omega
  rw [e21]
  obtain ⟨g1, g2, g3, g4, g5, g6⟩ := guess (u1 := u0) hy h0 h1 hn0 r1.1 r1.2 hu0 hu1
  have et : Int.tdiv R1 yn1 = R1 / yn1 := Int.tdiv_eq_ediv_of_nonneg r1.1
  have ew : IntKind.u64.wrap (Int.tdiv R1 yn1) = R1 / yn1 := by rw [et]; exact w64 g4 (by omega)
  have er : IntKind.u64.wrap (R1 - IntKind.u64.wrap (R1 / yn1 * yn1)) = R1 - R1 / yn1 * yn1 := by
    simp only [IntKind.wrap_u64]
    generalize R1 / yn1 * yn1 = z at *
    omega
  rw [ew, er]
  have fin := l1_ends (q1 := Q1) hy h0 h1 hn0 hn1 r1.1 r1.2 hu0 hu1 hs0 2 _ _ (by omega) g2 (by omega) g1 g4 g5 g6
  rw [hQ0] at fin
  have f1 : IntKind.u64.wrap (IntKind.u64.wrap (Q1 * 4294967296) + Q0) = Q1 * 4294967296 + Q0 := by
    simp only [IntKind.wrap_u64]
    omega
  have f2 : IntKind.u64.wrap (IntKind.u64.wrap (IntKind.u64.wrap (R1 * 4294967296) + u0) - IntKind.u64.wrap (Q0 * y)) = R0 := by
    simp only [IntKind.wrap_u64]
    generalize Q0 * y = z at *
    omega
  rw [f1, f2, shr64 hs0 hs] at fin
  exact fin

theorem lead_f (k : Nat) (n : Nat) (h : n < 18446744073709551616) : bits_LeadingZeros64.f (k + 1) n = some ((64 : Int) - (bitLen n : Nat)) := by
  unfold bits_LeadingZeros64.f
  have := bitLen64 (n := n) (b := 64) (by simpa using h)
  rw [len64_f k n h]
  simp only [Option.bind_some]
  rw [i64in (by omega) (by omega)]

theorem tmodn {x m : Int} (h : 0 ≤ x) : Int.tmod x m = x % m := Int.tmod_eq_emod_of_nonneg h

theorem pow_split (s : Nat) (h : s ≤ 64) : (2 : Int) ^ s * 2 ^ (64 - s) = 18446744073709551616 := by
  rw [← Int.pow_add, show s + (64 - s) = 64 by omega]; rfl

theorem div64_f {hi lo y : Int} (h0 : 0 ≤ hi) (l0 : 0 ≤ lo) (l1 : lo < 18446744073709551616) (hy : hi < y) (hyM : y < 18446744073709551616) :
    Ev (fun k => bits_Div64.f k hi lo y) ((hi * 18446744073709551616 + lo) / y, (hi * 18446744073709551616 + lo) % y) := by
  have hy0 : 0 < y := by omega
  unfold bits_Div64.f
  simp only [if_neg (show ¬ y = 0 by omega), if_neg (show ¬ y ≤ hi by omega)]
  by_cases hz : hi = 0
  · subst hz
    simp only [if_true]
    refine Ev.ofEq ?_
    have a : 0 ≤ lo / y := Int.ediv_nonneg l0 (by omega)
    have b : lo / y ≤ lo := Int.ediv_le_self _ l0
    rw [Int.tdiv_eq_ediv_of_nonneg l0, tmodn l0, w64 a (by omega)]
    simp
  · simp only [if_neg hz]
    obtain ⟨n, rfl⟩ := Int.eq_ofNat_of_zero_le (show 0 ≤ y by omega)
    have hnM : n < 18446744073709551616 := by omega
    have hb := bitLen_spec n
    have hb64 := bitLen64 (n := n) (b := 64) (by simpa using hnM)
    have hb1 : 1 ≤ bitLen n := by unfold bitLen; rw [if_neg (by omega)]; omega
    refine Ev.shift ?_
    simp only [lead_f _ n hnM, Option.bind_some]
    have hs : ∃ s : Nat, s = 64 - bitLen n ∧ s < 64 := ⟨_, rfl, by omega⟩
    obtain ⟨s, hse, hs64⟩ := hs
    have es : (64 : Int) - (bitLen n : Nat) = (s : Nat) := by omega
    rw [es]
    have ews : IntKind.u64.wrap ((s : Nat) : Int) = (s : Int) := w64 (by omega) (by omega)
    have ews2 : IntKind.u64.wrap (64 - (s : Int)) = ((64 - s : Nat) : Int) := by rw [w64 (by omega) (by omega)]; omega
    rw [ews, ews2]
    simp only [if_pos (show (0 : Int) ≤ (s : Int) by omega), if_pos (show (0 : Int) ≤ ((64 - s : Nat) : Int) by omega)]
    -- the powers
    have hp := pow_split s (by omega)
    have hS0 : (0 : Int) < 2 ^ s := Int.pow_pos (by omega)
    have hT0 : (0 : Int) < 2 ^ (64 - s) := Int.pow_pos (by omega)
    have hlt : (n : Int) < 2 ^ (64 - s) := by
      have h1 := hb.1
      rw [show bitLen n = 64 - s by omega] at h1
      exact_mod_cast h1
    have hge : (2 : Int) ^ 63 ≤ n * 2 ^ s := by
      have h1 := hb.2 (by omega)
      rw [show bitLen n - 1 = 63 - s by omega] at h1
      have h2 : (2 : Int) ^ (63 - s) ≤ n := by exact_mod_cast h1
      have h3 : (2 : Int) ^ 63 = 2 ^ (63 - s) * 2 ^ s := by rw [← Int.pow_add, show 63 - s + s = 63 by omega]
      rw [h3]
      exact Int.mul_le_mul_of_nonneg_right h2 (by omega)
    have hyS : (n : Int) * 2 ^ s < 18446744073709551616 := by
      rw [← hp, Int.mul_comm (2 ^ s)]
      exact Int.mul_lt_mul_of_pos_right hlt hS0
    have hhS : hi * 2 ^ s < n * 2 ^ s := Int.mul_lt_mul_of_pos_right hy hS0
    have hhS0 : 0 ≤ hi * 2 ^ s := Int.mul_nonneg h0 (by omega)
    have esl : ∀ x : Int, shl .u64 x (s : Int) = (x * 2 ^ s) % 18446744073709551616 := fun x => by rw [shl64 (by omega) (by omega)]; simp
    have esr : shr .u64 lo ((64 - s : Nat) : Int) = lo / 2 ^ (64 - s) := by rw [shr64 (by omega) (by omega)]; simp
    have hq0 : 0 ≤ lo / 2 ^ (64 - s) := Int.ediv_nonneg l0 (by omega)
    have hq1 : lo / 2 ^ (64 - s) < 2 ^ s := Int.ediv_lt_of_lt_mul hT0 (by rw [hp]; exact l1)
    have hlo := Int.emod_add_mul_ediv lo (2 ^ (64 - s))
    have hm0 := Int.emod_nonneg lo (show (2 : Int) ^ (64 - s) ≠ 0 by omega)
    have hm1 := Int.emod_lt_of_pos lo hT0
    -- lo shifted: what leaves, and what stays
    have hloS : lo * 2 ^ s = lo / 2 ^ (64 - s) * 18446744073709551616 + lo % 2 ^ (64 - s) * 2 ^ s := by
      have : lo * 2 ^ s = (lo % 2 ^ (64 - s) + 2 ^ (64 - s) * (lo / 2 ^ (64 - s))) * 2 ^ s := by rw [hlo]
      rw [this, Int.add_mul, Int.mul_right_comm, Int.mul_comm (2 ^ (64 - s)) (2 ^ s), hp, Int.mul_comm (18446744073709551616 : Int)]
      omega
    have hst0 : 0 ≤ lo % 2 ^ (64 - s) * 2 ^ s := Int.mul_nonneg hm0 (by omega)
    have hst1 : lo % 2 ^ (64 - s) * 2 ^ s < 18446744073709551616 := by
      rw [← hp, Int.mul_comm (2 ^ s)]
      exact Int.mul_lt_mul_of_pos_right hm1 hS0
    have e10 : shl .u64 lo (s : Int) = lo % 2 ^ (64 - s) * 2 ^ s := by rw [esl, hloS]; omega
    have eY : shl .u64 (n : Int) (s : Int) = n * 2 ^ s := by rw [esl]; exact Int.emod_eq_of_lt (Int.mul_nonneg (by omega) (by omega)) hyS
    have eH : shl .u64 hi (s : Int) = hi * 2 ^ s := by rw [esl]; exact Int.emod_eq_of_lt hhS0 (by omega)
    have hMs : (2 : Int) ^ s ≤ 18446744073709551616 := by
      rw [← hp]
      have : (2 : Int) ^ s * 1 ≤ 2 ^ s * 2 ^ (64 - s) := Int.mul_le_mul_of_nonneg_left (by omega) (by omega)
      omega
    have eU : Go.bits .or .u64 (hi * 2 ^ s) (lo / 2 ^ (64 - s)) = hi * 2 ^ s + lo / 2 ^ (64 - s) :=
      or_join s hhS0 (by omega) (Int.mul_emod_left ..) hq0 (by omega) hq1
    rw [e10, eY, eH, esr, eU]
    have hU : hi * 2 ^ s + lo / 2 ^ (64 - s) < n * 2 ^ s := by
      have : (hi + 1) * 2 ^ s ≤ n * 2 ^ s := Int.mul_le_mul_of_nonneg_right (by omega) (by omega)
      rw [Int.add_mul] at this
      omega
    have all : (hi * 2 ^ s + lo / 2 ^ (64 - s)) * 18446744073709551616 + lo % 2 ^ (64 - s) * 2 ^ s = (hi * 18446744073709551616 + lo) * 2 ^ s := by
      rw [Int.add_mul, Int.add_mul, hloS, Int.mul_right_comm]
      omega
    have eqq : (hi * 18446744073709551616 + lo) * 2 ^ s / (n * 2 ^ s) = (hi * 18446744073709551616 + lo) / n := Int.mul_ediv_mul_of_pos_left _ _ hS0
    have eqr : (hi * 18446744073709551616 + lo) * 2 ^ s % (n * 2 ^ s) / 2 ^ s = (hi * 18446744073709551616 + lo) % n := by
      rw [Int.mul_comm _ (2 ^ s), Int.mul_comm (n : Int) (2 ^ s), Int.mul_emod_mul_of_pos _ _ hS0, Int.mul_ediv_cancel_left _ (by omega)]
    have hU0 : 0 ≤ hi * 2 ^ s + lo / 2 ^ (64 - s) := by omega
    have h63 : (2 : Int) ^ 63 = 9223372036854775808 := by rfl
    rw [h63] at hge
    generalize (n : Int) * 2 ^ s = Y at *
    generalize hi * 2 ^ s + lo / 2 ^ (64 - s) = U at *
    generalize lo % 2 ^ (64 - s) * 2 ^ s = L at *
    have key := digits_ends (s := (s : Int)) (y := Y) (yn1 := Y / 4294967296) (yn0 := Y % 4294967296) (U := U) (u1 := L / 4294967296) (u0 := L % 4294967296) (by omega) (by omega) (by omega) (by omega) (by omega) (by omega) hU (by omega) (by omega) (by omega) (by omega) (by omega) (by omega)
    have eL : L / 4294967296 * 4294967296 + L % 4294967296 = L := by omega
    rw [eL, all, eqq, show ((s : Int)).toNat = s by simp, eqr] at key
    rw [and_mask32 (x := Y) (by omega) (by omega), and_mask32 (x := L) (by omega) (by omega)]
    simp only [if_neg (show ¬ Y / 4294967296 = 0 by omega)]
    have et : Int.tdiv U (Y / 4294967296) = U / (Y / 4294967296) := Int.tdiv_eq_ediv_of_nonneg hU0
    obtain ⟨g1, g2, g3, g4, g5, g6⟩ := guess (y := Y) (yn1 := Y / 4294967296) (yn0 := Y % 4294967296) (U := U) (u1 := L / 4294967296) (by omega) (by omega) (by omega) (by omega) hU0 hU (by omega) (by omega)
    have ew : IntKind.u64.wrap (Int.tdiv U (Y / 4294967296)) = U / (Y / 4294967296) := by rw [et]; exact w64 g4 (by omega)
    have er : IntKind.u64.wrap (U - IntKind.u64.wrap (U / (Y / 4294967296) * (Y / 4294967296))) = U - U / (Y / 4294967296) * (Y / 4294967296) := by
      simp only [IntKind.wrap_u64]
      generalize U / (Y / 4294967296) * (Y / 4294967296) = z at *
      omega
    rw [ew, er]
    exact Ev.later key
end Go.Proofs.YthejabcfbbmkeaaDoor.PureF
