/- MulDiv: the product's quotient, half up. -/
import Derived.Test.YthejabcfbbmkeaaDoorFix3F
import Derived.Test.YthejabcfbbmkeaaDoorPFx2
set_option linter.unusedVariables false
set_option linter.unusedSimpArgs false
namespace Go.Proofs.YthejabcfbbmkeaaDoor.PureF
open Go.RowKit Go.Proofs.YthejabcfbbmkeaaDoor.PF Go.Proofs.YthejabcfbbmkeaaDoor.Num Go.Proofs.YthejabcfbbmkeaaDoorW.PrintWords Go.Proofs.YthejabcfbbmkeaaDoorW.PrintLast Go.Proofs.YthejabcfbbmkeaaDoorW.PrintMore

/-- The product's sign. -/
theorem prod_sign (a b : Int) : a * b = if (decide (a < 0) != decide (b < 0)) = true then -((a.natAbs : Int) * (b.natAbs : Int)) else (a.natAbs : Int) * (b.natAbs : Int) := by
  by_cases ha : a < 0 <;> by_cases hb : b < 0
  · have e1 : (a.natAbs : Int) = -a := by omega
    have e2 : (b.natAbs : Int) = -b := by omega
    simp [ha, hb, e1, e2, Int.neg_mul, Int.mul_neg]
  · have e1 : (a.natAbs : Int) = -a := by omega
    have e2 : (b.natAbs : Int) = b := by omega
    simp [ha, hb, e1, e2, Int.neg_mul, Int.mul_neg]
  · have e1 : (a.natAbs : Int) = a := by omega
    have e2 : (b.natAbs : Int) = -b := by omega
    simp [ha, hb, e1, e2, Int.neg_mul, Int.mul_neg]
  · have e1 : (a.natAbs : Int) = a := by omega
    have e2 : (b.natAbs : Int) = b := by omega
    simp [ha, hb, e1, e2, Int.neg_mul, Int.mul_neg]
theorem mulDiv_sign {a b c : Int} (hc : c ≠ 0) :
    mulDiv a b c = halfUp (if (!((!((decide (a < 0)) == (decide (b < 0)))) == (decide (c < 0)))) = true then -((a.natAbs : Int) * (b.natAbs : Int)) else (a.natAbs : Int) * (b.natAbs : Int)) (c.natAbs : Int) := by
  unfold mulDiv
  have hs := prod_sign a b
  by_cases h : c < 0
  · have e : (c.natAbs : Int) = -c := by omega
    rw [if_pos h, e, hs]
    by_cases h1 : a < 0 <;> by_cases h2 : b < 0 <;> simp [h, h1, h2]
  · have e : (c.natAbs : Int) = c := by omega
    rw [if_neg h, e, hs]
    by_cases h1 : a < 0 <;> by_cases h2 : b < 0 <;> simp [h, h1, h2]

/-- What MulDiv answers. -/
def mulDivA (a b c : Int) : Int × Int := if c = 0 then (0, 6) else fits (mulDiv a b c)

theorem muldiv_f {a b c : Int} (ha : (Lit.int .i64 a).wf = true) (hb : (Lit.int .i64 b).wf = true) (hc : (Lit.int .i64 c).wf = true) :
    Ev (fun k => fix_MulDiv.f k a b c) (mulDivA a b c) := by
  have wa := wf64 ha
  have wb := wf64 hb
  have wc := wf64 hc
  unfold fix_MulDiv.f mulDivA
  by_cases h0 : c = 0
  · simp only [if_pos h0]
    exact Ev.now _
  · simp only [if_neg h0]
    have hna : (0 : Int) ≤ (a.natAbs : Int) ∧ (a.natAbs : Int) ≤ 9223372036854775808 := by omega
    have hnb : (0 : Int) ≤ (b.natAbs : Int) ∧ (b.natAbs : Int) ≤ 9223372036854775808 := by omega
    have hnc : (0 : Int) < (c.natAbs : Int) ∧ (c.natAbs : Int) ≤ 9223372036854775808 := by omega
    have hsg := mulDiv_sign (a := a) (b := b) h0
    simp only [size_f wa.1 wa.2, size_f wb.1 wb.2, size_f wc.1 wc.2, Option.bind_some]
    generalize (c.natAbs : Int) = d at *
    have hN0 : 0 ≤ (a.natAbs : Int) * (b.natAbs : Int) := Int.mul_nonneg hna.1 hnb.1
    have hN1 : (a.natAbs : Int) * (b.natAbs : Int) ≤ 9223372036854775808 * 9223372036854775808 := Int.mul_le_mul hna.2 hnb.2 hnb.1 (by omega)
    rw [mul64_f hna.1 (by omega) hnb.1 (by omega)]
    simp only [Option.bind_some, if_neg (show ¬ d = 0 by omega)]
    generalize hneg : (!((!((decide (a < 0)) == (decide (b < 0)))) == (decide (c < 0)))) = neg at *
    generalize (a.natAbs : Int) * (b.natAbs : Int) = N at *
    have hh0 : 0 ≤ N / 18446744073709551616 := by omega
    have hm0 := Int.emod_nonneg (N / 18446744073709551616) (show d ≠ 0 by omega)
    have hm1 := Int.emod_lt_of_pos (N / 18446744073709551616) hnc.1
    have hme := Int.emod_add_mul_ediv (N / 18446744073709551616) d
    have htop : 0 ≤ N / 18446744073709551616 / d := Int.ediv_nonneg hh0 (by omega)
    have htop1 : N / 18446744073709551616 / d ≤ N / 18446744073709551616 := Int.ediv_le_self _ hh0
    have dv := div64_f (hi := N / 18446744073709551616 % d) (lo := N % 18446744073709551616) (y := d) hm0 (by omega) (by omega) hm1 (by omega)
    rw [tmodn hh0, Int.tdiv_eq_ediv_of_nonneg hh0, w64 htop (by omega)]
    refine Ev.bind dv ?_
    have hq0 : 0 ≤ (N / 18446744073709551616 % d * 18446744073709551616 + N % 18446744073709551616) / d := Int.ediv_nonneg (by omega) (by omega)
    have hq1 : (N / 18446744073709551616 % d * 18446744073709551616 + N % 18446744073709551616) / d < 18446744073709551616 := Int.ediv_lt_of_lt_mul hnc.1 (by
      have : (N / 18446744073709551616 % d + 1) * 18446744073709551616 ≤ d * 18446744073709551616 := by omega
      omega)
    have hr := Int.emod_add_mul_ediv (N / 18446744073709551616 % d * 18446744073709551616 + N % 18446744073709551616) d
    have hr0 := Int.emod_nonneg (N / 18446744073709551616 % d * 18446744073709551616 + N % 18446744073709551616) (show d ≠ 0 by omega)
    have hr1 := Int.emod_lt_of_pos (N / 18446744073709551616 % d * 18446744073709551616 + N % 18446744073709551616) hnc.1
    generalize (N / 18446744073709551616 % d * 18446744073709551616 + N % 18446744073709551616) % d = r at *
    generalize (N / 18446744073709551616 % d * 18446744073709551616 + N % 18446744073709551616) / d = q at *
    have hNe : N = (N / 18446744073709551616 / d * 18446744073709551616 + q) * d + r := by
      rw [Int.add_mul, Int.mul_right_comm, Int.mul_comm (N / 18446744073709551616 / d) d, Int.mul_comm q d]
      omega
    have hU := halfUp_mag hnc.1 hNe hr0 hr1 neg
    rw [hsg, hU]
    generalize N / 18446744073709551616 / d = top at *
    have el : IntKind.u64.wrap (d - r) = d - r := w64 (by omega) (by omega)
    simp only [el]
    have up : Ev (fun k => fix_MulDiv.j0 k neg top q true) (fits (if neg = true then -(top * 18446744073709551616 + q + 1) else top * 18446744073709551616 + q + 1)) := by
      refine Ev.shift (Ev.shift ?_)
      simp only [fix_MulDiv.j0, if_true, show c01 0 = true by rfl]
      have ec : u64car q 1 0 = (q + 1) / 18446744073709551616 := by unfold u64car; simp; omega
      have ea : u64add q 1 0 = (q + 1) % 18446744073709551616 := by unfold u64add; simp; omega
      rw [ec, ea, w64 (by omega) (by omega)]
      simp only [number_f _ neg (hi := top + (q + 1) / 18446744073709551616) (lo := (q + 1) % 18446744073709551616) (by omega) (by omega) (by omega), Option.bind_some]
      have e : (top + (q + 1) / 18446744073709551616) * 18446744073709551616 + (q + 1) % 18446744073709551616 = top * 18446744073709551616 + q + 1 := by omega
      rw [e]
      exact Ev.pair _
    have down : Ev (fun k => fix_MulDiv.j0 k neg top q false) (fits (if neg = true then -(top * 18446744073709551616 + q) else top * 18446744073709551616 + q)) := by
      refine Ev.shift (Ev.shift ?_)
      simp only [fix_MulDiv.j0, Bool.false_eq_true, if_false]
      simp only [number_f _ neg (hi := top) (lo := q) htop hq0 hq1, Option.bind_some]
      exact Ev.pair _
    by_cases h1 : r > d - r
    · simp only [if_pos h1, if_pos (show r ≥ d - r by omega)]
      exact up
    · simp only [if_neg h1]
      by_cases h2 : r = d - r
      · simp only [if_pos h2, if_pos (show r ≥ d - r by omega)]
        cases neg
        · simp only [Bool.not_false, Bool.false_eq_true, if_false] at up ⊢
          exact up
        · simp only [Bool.not_true, if_true] at down ⊢
          exact down
      · simp only [if_neg h2, if_neg (show ¬ r ≥ d - r by omega)]
        exact down
end Go.Proofs.YthejabcfbbmkeaaDoor.PureF
