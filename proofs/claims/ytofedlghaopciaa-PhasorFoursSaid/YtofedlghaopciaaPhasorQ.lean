/- Package phasor: what the printed functions compute, as plain arithmetic. -/
import Derived.Test.YtofedlghaopciaaPQx1
import Derived.Test.YtofedlghaopciaaNum
import Derived.Test.YtofedlghaopciaaFlt
set_option linter.unusedVariables false
set_option linter.unusedSimpArgs false
namespace Go.Proofs.Ytofedlghaopciaa.PureQ
open Go.RowKit Go.Proofs.Ytofedlghaopciaa.PQ Go.Proofs.Ytofedlghaopciaa.Num Go.Proofs.Ytofedlghaopciaa.Flt Go.Proofs.YtofedlghaopciaaW.PrintWords Go.Proofs.YtofedlghaopciaaW.PrintLast Go.Proofs.YtofedlghaopciaaW.PrintMore

theorem is_const {b : Nat} {n : Int} (h : n.natAbs < 2 ^ 53) (e : floatOfInt .f64 n = b) : Is b n := e ▸ of_int h
theorem fint_lt (n : Int) : floatOfInt .f64 n < 18446744073709551616 := wf_lt (floatOfInt_wf .f64 n)
theorem is_1 : Is 4607182418800017408 1 := is_const (by decide) (by decide +kernel)
theorem is_2 : Is 4611686018427387904 2 := is_const (by decide) (by decide +kernel)
theorem is_3 : Is 4613937818241073152 3 := is_const (by decide) (by decide +kernel)
theorem is_4 : Is 4616189618054758400 4 := is_const (by decide) (by decide +kernel)
theorem is_11 : Is 4622382067542392832 11 := is_const (by decide) (by decide +kernel)
theorem is_m1 : Is 13830554455654793216 (-1) := is_const (by decide) (by decide +kernel)
theorem is_part : Is 4719772409484279808 ((33554432 : Nat) : Int) := is_const (by decide) (by decide +kernel)

theorem whole_yes {x y M : Nat} {n : Int} (hx : x < 18446744073709551616) (hM : M < 2 ^ 53) (hy : Is y (M : Int)) (h : Is x n) (hn : n.natAbs ≤ M) : phasor_whole.f x y = some true := by
  obtain ⟨h1, h2⟩ := whole_iff (x := x) hM hy
  obtain ⟨a, b⟩ := h2.2 ⟨n, h, hn⟩
  unfold phasor_whole.f math_Abs.f math_Trunc.f
  rw [abs_bits x hx]
  simp only [Option.bind_some, a, if_true, h1 a, b]
theorem whole_no {x y M : Nat} (hx : x < 18446744073709551616) (hM : M < 2 ^ 53) (hy : Is y (M : Int)) (h : ¬ ∃ n, Is x n ∧ n.natAbs ≤ M) : phasor_whole.f x y = some false := by
  obtain ⟨h1, h2⟩ := whole_iff (x := x) hM hy
  unfold phasor_whole.f math_Abs.f math_Trunc.f
  rw [abs_bits x hx]
  simp only [Option.bind_some]
  by_cases a : fle (x % 9223372036854775808) y = true
  · rw [if_pos a, if_pos (h1 a), Option.bind_some]
    have : feq (ftrunc x) x = false := by
      cases c : feq (ftrunc x) x
      · rfl
      · exact (h (h2.1 ⟨a, c⟩)).elim
    rw [this]
  · rw [if_neg a]
/-- Both parts are whole and small. -/
def Small (z : Cx) (A B : Int) : Prop := (Is z.re A ∧ A.natAbs ≤ 33554432) ∧ Is z.im B ∧ B.natAbs ≤ 33554432
def Good (z : Cx) : Prop := ∃ A B, Small z A B
/-- Bits of 64. -/
def Bits (z : Cx) : Prop := z.re < 18446744073709551616 ∧ z.im < 18446744073709551616
theorem fits_yes {z : Cx} {A B : Int} (hb : Bits z) (h : Small z A B) : phasor_Fits.f z = some true := by
  unfold phasor_Fits.f
  rw [whole_yes hb.1 (by decide) is_part h.1.1 h.1.2, whole_yes hb.2 (by decide) is_part h.2.1 h.2.2]
  rfl
theorem fits_no {z : Cx} (hb : Bits z) (h : ¬ Good z) : phasor_Fits.f z = some false := by
  unfold phasor_Fits.f
  by_cases a : ∃ n, Is z.re n ∧ n.natAbs ≤ 33554432
  · obtain ⟨n, a, b⟩ := a
    rw [whole_yes hb.1 (by decide) is_part a b, whole_no hb.2 (by decide) is_part (fun ⟨m, c, d⟩ => h ⟨n, m, ⟨a, b⟩, c, d⟩)]
    rfl
  · rw [whole_no hb.1 (by decide) is_part a]
    rfl

theorem prod_le {P Q : Int} {m n : Nat} (hP : P.natAbs ≤ m) (hQ : Q.natAbs ≤ n) : (P * Q).natAbs ≤ m * n := by
  rw [Int.natAbs_mul]
  exact Nat.mul_le_mul hP hQ

theorem power_ok {u v : Cx} {A B C D : Int} (hu : Bits u) (hv : Bits v) (su : Small u A B) (sv : Small v C D) :
    ∃ z, phasor_Power.f u v = some (z, 0) ∧ Is z.re (A * C + B * D) ∧ Is z.im (B * C - A * D) ∧ Bits z := by
  obtain ⟨⟨a1, a2⟩, a3, a4⟩ := id su
  obtain ⟨⟨c1, c2⟩, c3, c4⟩ := id sv
  have p1 := prod_le a2 c2
  have p2 := prod_le a4 c4
  have p3 := prod_le a2 c4
  have p4 := prod_le a4 c2
  obtain ⟨ok, r, i⟩ := cmul_is a1 a3 c1 c3.neg (by omega) (by rw [Int.mul_neg]; omega) (by rw [Int.mul_neg]; omega) (by omega) (by rw [Int.mul_neg]; omega) (by rw [Int.mul_neg]; omega)
  rw [Int.mul_neg, Int.sub_neg] at r
  rw [Int.mul_neg, show -(A * D) + B * C = B * C - A * D by omega] at i
  refine ⟨cx _ _, ?_, r, i, (cmul_lt _ _ _ _).1, (cmul_lt _ _ _ _).2⟩
  unfold phasor_Power.f phasor_conjugate.f
  rw [fits_yes hu su, fits_yes hv sv]
  simp only [Option.bind_some, if_true, ok]
  rfl
theorem power_no {u v : Cx} (hu : Bits u) (hv : Bits v) (h : ¬ (Good u ∧ Good v)) : phasor_Power.f u v = some (cx 0 0, 5) := by
  unfold phasor_Power.f
  by_cases g : Good u
  · obtain ⟨A, B, s⟩ := id g
    rw [fits_yes hu s, fits_no hv (fun g2 => h ⟨g, g2⟩)]
    rfl
  · rw [fits_no hu g]
    rfl

theorem awake_ok : pylonlaw02_awake.f = some true := by
  unfold pylonlaw02_awake.f
  obtain ⟨z, e, r, i, _⟩ := power_ok (u := cx 4607182418800017408 4611686018427387904) (v := cx 4613937818241073152 4616189618054758400) (A := 1) (B := 2) (C := 3) (D := 4) ⟨by decide, by decide⟩ ⟨by decide, by decide⟩ ⟨⟨is_1, by decide⟩, is_2, by decide⟩ ⟨⟨is_3, by decide⟩, is_4, by decide⟩
  rw [e]
  simp only [Option.bind_some, if_true]
  rw [ceq_is r i is_11 is_2]
  rfl
end Go.Proofs.Ytofedlghaopciaa.PureQ
