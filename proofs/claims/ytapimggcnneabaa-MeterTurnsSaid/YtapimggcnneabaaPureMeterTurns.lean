/- MeterTurns holds: a turn more is a product with i; a multiplier m makes a point m times as great. -/
import Derived.Test.YtapimggcnneabaaMeterM
import Derived.Test.YtapimggcnneabaaPMx1
set_option linter.unusedVariables false
namespace Go.Proofs.Ytapimggcnneabaa.Pure
open Go.RowKit Go.Proofs.Ytapimggcnneabaa.PM Go.Proofs.Ytapimggcnneabaa.PureM Go.Proofs.Ytapimggcnneabaa.Num Go.Proofs.Ytapimggcnneabaa.Flt Go.Proofs.YtapimggcnneabaaW.PrintWords Go.Proofs.YtapimggcnneabaaW.PrintLast Go.Proofs.YtapimggcnneabaaW.PrintMore
theorem u_mod (x d : Int) (hd : 0 < d) : 0 ≤ Int.tmod (IntKind.u64.wrap x) d ∧ Int.tmod (IntKind.u64.wrap x) d < d := by
  have h0 : 0 ≤ IntKind.u64.wrap x := by rw [IntKind.wrap_u64]; omega
  rw [Int.tmod_eq_emod_of_nonneg h0]
  exact ⟨Int.emod_nonneg _ (by omega), Int.emod_lt_of_pos _ hd⟩
theorem MeterTurns : pylonlaw12_MeterTurns.Pure := by
  intro a0 a1 a2 a3 a4 _ _ _ _ _
  obtain ⟨i0, i1⟩ := u_mod a0 10000001 (by decide)
  obtain ⟨e0, e1⟩ := u_mod a1 10000001 (by decide)
  obtain ⟨m0, m1⟩ := u_mod a3 1000 (by decide)
  obtain ⟨t0, t1⟩ := u_mod a4 4 (by decide)
  have v0 : -10000000 ≤ Int.tmod a2 10000001 := by have := Int.lt_tmod_of_pos a2 (b := 10000001) (by decide); omega
  have v1 : Int.tmod a2 10000001 ≤ 10000000 := by have := Int.tmod_lt_of_pos a2 (b := 10000001) (by decide); omega
  refine ⟨0 + 1, ?_⟩
  unfold pylonlaw12_MeterTurns.f pylonlaw12_read.f
  rw [awake_ok]
  simp only [Option.bind_some, if_true]
  generalize Int.tmod (IntKind.u64.wrap a0) 10000001 = i at *
  generalize Int.tmod (IntKind.u64.wrap a1) 10000001 = e at *
  generalize Int.tmod (IntKind.u64.wrap a3) 1000 = m' at *
  generalize Int.tmod (IntKind.u64.wrap a4) 4 = t at *
  generalize Int.tmod a2 10000001 = v at *
  rw [i64in (x := i) (by omega) (by omega), i64in (x := e) (by omega) (by omega), i64in (x := m') (by omega) (by omega), i64in (x := t) (by omega) (by omega), i64in (x := 1 + m') (by omega) (by omega), i64in (x := t + 1) (by omega) (by omega)]
  have ht : Int.tmod (t + 1) 4 = (t + 1) % 4 := Int.tmod_eq_emod_of_nonneg (by omega)
  rw [ht]
  obtain ⟨z1, p1, r1, s1, _⟩ := point_ok (k := 0) (s := 0) (i := i) (e := e) (v := v) (g := 0) (m := 1) (t := t) i0 (by omega) e0 (by omega) v0 v1 (by omega) (by omega) t0 (by omega)
  obtain ⟨z2, p2, r2, s2, l2, l2'⟩ := point_ok (k := 0) (s := 0) (i := i) (e := e) (v := v) (g := 0) (m := 1 + m') (t := t) i0 (by omega) e0 (by omega) v0 v1 (by omega) (by omega) t0 (by omega)
  obtain ⟨z3, p3, r3, s3, _⟩ := point_ok (k := 0) (s := 0) (i := i) (e := e) (v := v) (g := 0) (m := 1 + m') (t := (t + 1) % 4) i0 (by omega) e0 (by omega) v0 v1 (by omega) (by omega) (by omega) (by omega)
  rw [p1, p2, p3]
  have bX : ((i - e) * (1 + m')).natAbs ≤ 10000000 * 1000 := by
    rw [Int.natAbs_mul]
    exact Nat.mul_le_mul (by omega) (by omega)
  have bY : (v * (1 + m')).natAbs ≤ 10000000 * 1000 := by
    rw [Int.natAbs_mul]
    exact Nat.mul_le_mul (by omega) (by omega)
  rw [Int.mul_one, Int.mul_one] at r1 s1
  have k1 : (1 + m') * (rot t (i - e) v).1 = (rot t ((i - e) * (1 + m')) (v * (1 + m'))).1 := by
    unfold rot; split
    · exact Int.mul_comm _ _
    · split
      · show _ * (-v) = -(v * _); rw [Int.mul_neg, Int.mul_comm]
      · split
        · show _ * (-(i - e)) = -((i - e) * _); rw [Int.mul_neg, Int.mul_comm]
        · exact Int.mul_comm _ _
  have k2 : (1 + m') * (rot t (i - e) v).2 = (rot t ((i - e) * (1 + m')) (v * (1 + m'))).2 := by
    unfold rot; split
    · exact Int.mul_comm _ _
    · split
      · exact Int.mul_comm _ _
      · split
        · show _ * (-v) = -(v * _); rw [Int.mul_neg, Int.mul_comm]
        · show _ * (-(i - e)) = -((i - e) * _); rw [Int.mul_neg, Int.mul_comm]
  generalize (i - e) * (1 + m') = X at *
  generalize v * (1 + m') = Y at *
  have bR : (rot t X Y).1.natAbs ≤ 10000000000 ∧ (rot t X Y).2.natAbs ≤ 10000000000 := by
    unfold rot
    split
    · exact ⟨bX, bY⟩
    · split
      · exact ⟨by show (-Y).natAbs ≤ _; omega, bX⟩
      · split
        · exact ⟨by show (-X).natAbs ≤ _; omega, by show (-Y).natAbs ≤ _; omega⟩
        · exact ⟨bY, by show (-X).natAbs ≤ _; omega⟩
  have n1 : (rot ((t + 1) % 4) X Y).1 = -(rot t X Y).2 := by
    have : t = 0 ∨ t = 1 ∨ t = 2 ∨ t = 3 := by omega
    rcases this with rfl | rfl | rfl | rfl
    · rfl
    · rfl
    · show Y = - -Y; omega
    · show X = - -X; omega
  have n2 : (rot ((t + 1) % 4) X Y).2 = (rot t X Y).1 := by
    have : t = 0 ∨ t = 1 ∨ t = 2 ∨ t = 3 := by omega
    rcases this with rfl | rfl | rfl | rfl <;> rfl
  rw [n1] at r3
  rw [n2] at s3
  obtain ⟨o1, q1⟩ := (of_int (n := 1 + m') (by omega)).mul r1 (by rw [k1]; omega)
  obtain ⟨o2, q2⟩ := (of_int (n := 1 + m') (by omega)).mul s1 (by rw [k2]; omega)
  rw [k1] at q1
  rw [k2] at q2
  have w1 : ceq z3.re z3.im (fneg z2.im) z2.re = true := by rw [ceq_is r3 s3 s2.neg r2]; simp
  have w2 : ceq z2.re z2.im (fmul (floatOfInt .f64 (1 + m')) z1.re) (fmul (floatOfInt .f64 (1 + m')) z1.im) = true := by rw [ceq_is r2 s2 q1 q2]; simp
  have fit : meter_Fits.f z2 = some true := fits_yes l2 l2' ⟨⟨r2, bR.1⟩, s2, bR.2⟩
  simp only [Option.bind_some, if_true, fit, w1, o1, o2, w2]
end Go.Proofs.Ytapimggcnneabaa.Pure
