/- PhasorPowers holds: the square of a power's distance from 0 is the product of the squares of its makers'. -/
import Derived.Test.YtapimggcnneabaaPhasorH
import Derived.Test.YtapimggcnneabaaPHx1
set_option linter.unusedVariables false
set_option linter.unusedSimpArgs false
namespace Go.Proofs.Ytapimggcnneabaa.Pure
open Go.RowKit Go.Proofs.Ytapimggcnneabaa.PH Go.Proofs.Ytapimggcnneabaa.PureH Go.Proofs.Ytapimggcnneabaa.Num Go.Proofs.Ytapimggcnneabaa.Flt Go.Proofs.YtapimggcnneabaaW.PrintWords Go.Proofs.YtapimggcnneabaaW.PrintLast Go.Proofs.YtapimggcnneabaaW.PrintMore
theorem square_ok {z : Cx} {A B : Int} (h1 : Is z.re A) (h2 : Is z.im B) (a : (A * A).natAbs < 2 ^ 53) (b : (B * B).natAbs < 2 ^ 53) (c : (A * A + B * B).natAbs < 2 ^ 53) : ∃ q, pylonlaw02_square.f z = some q ∧ Is q (A * A + B * B) := by
  obtain ⟨o1, r1⟩ := h1.mul h1 a
  obtain ⟨o2, r2⟩ := h2.mul h2 b
  obtain ⟨o3, r3⟩ := r1.add r2 c
  refine ⟨_, ?_, r3⟩
  unfold pylonlaw02_square.f
  simp only [o1, o2, o3, if_true]
theorem mod_small (a : Int) : (Int.tmod a 2048).natAbs ≤ 2047 := by
  have h1 := Int.lt_tmod_of_pos a (b := 2048) (by decide)
  have h2 := Int.tmod_lt_of_pos a (b := 2048) (by decide)
  omega
set_option maxHeartbeats 2000000 in
theorem PhasorPowers : pylonlaw02_PhasorPowers.Pure := by
  intro a0 a1 a2 a3 _ _ _ _
  refine ⟨0 + 1, ?_⟩
  unfold pylonlaw02_PhasorPowers.f pylonlaw02_small.f
  rw [awake_ok]
  have m0 := mod_small a0
  have m1 := mod_small a1
  have m2 := mod_small a2
  have m3 := mod_small a3
  generalize Int.tmod a0 2048 = A at *
  generalize Int.tmod a1 2048 = B at *
  generalize Int.tmod a2 2048 = C at *
  generalize Int.tmod a3 2048 = D at *
  have bu : Bits (cx (floatOfInt .f64 A) (floatOfInt .f64 B)) := ⟨fint_lt _, fint_lt _⟩
  have bv : Bits (cx (floatOfInt .f64 C) (floatOfInt .f64 D)) := ⟨fint_lt _, fint_lt _⟩
  have iA := of_int (n := A) (by omega)
  have iB := of_int (n := B) (by omega)
  have iC := of_int (n := C) (by omega)
  have iD := of_int (n := D) (by omega)
  have su : Small (cx (floatOfInt .f64 A) (floatOfInt .f64 B)) A B := ⟨⟨iA, by omega⟩, iB, by omega⟩
  have sv : Small (cx (floatOfInt .f64 C) (floatOfInt .f64 D)) C D := ⟨⟨iC, by omega⟩, iD, by omega⟩
  obtain ⟨p, e1, p1, p2, _⟩ := power_ok bu bv su sv
  obtain ⟨q, e2, q1, q2, _⟩ := power_ok bv bu sv su
  obtain ⟨w, e3, w1, w2, _⟩ := power_ok bu bu su su
  have hAA := prod_le m0 m0
  have hBB := prod_le m1 m1
  have hCC := prod_le m2 m2
  have hDD := prod_le m3 m3
  have hAC := prod_le m0 m2
  have hBD := prod_le m1 m3
  have hBC := prod_le m1 m2
  have hAD := prod_le m0 m3
  have hR : (A * C + B * D).natAbs ≤ 2 * (2047 * 2047) := by omega
  have hI : (B * C - A * D).natAbs ≤ 2 * (2047 * 2047) := by omega
  have hRR := prod_le hR hR
  have hII := prod_le hI hI
  have key : (A * C + B * D) * (A * C + B * D) + (B * C - A * D) * (B * C - A * D) = (A * A + B * B) * (C * C + D * D) := by grind
  obtain ⟨sp, f1, g1⟩ := square_ok p1 p2 (by omega) (by omega) (by omega)
  obtain ⟨sq, f2, g2⟩ := square_ok (z := cx (floatOfInt .f64 A) (floatOfInt .f64 B)) iA iB (by omega) (by omega) (by omega)
  obtain ⟨sr, f3, g3⟩ := square_ok (z := cx (floatOfInt .f64 C) (floatOfInt .f64 D)) iC iD (by omega) (by omega) (by omega)
  have hU : (A * A + B * B).natAbs ≤ 2 * (2047 * 2047) := by omega
  have hV : (C * C + D * D).natAbs ≤ 2 * (2047 * 2047) := by omega
  have hUV := prod_le hU hV
  obtain ⟨o1, g4⟩ := g2.mul g3 (by omega)
  have t1 : feq sp (fmul sq sr) = true := by rw [g1.feq g4]; exact decide_eq_true key
  have t2 : ceq p.re p.im q.re (fneg q.im) = true := by
    rw [ceq_is p1 p2 q1 q2.neg, Int.mul_comm C A, Int.mul_comm D B, Int.mul_comm D A, Int.mul_comm C B]
    have : B * C - A * D = -(A * D - B * C) := by omega
    rw [decide_eq_true rfl, decide_eq_true this]; rfl
  have t3 : ceq w.re w.im sq 0 = true := by
    rw [ceq_is w1 w2 g2 is_zero]
    have : B * A - A * B = 0 := by rw [Int.mul_comm B A]; omega
    rw [decide_eq_true rfl, decide_eq_true this]; rfl
  simp only [Option.bind_some, if_true, e1, e2, e3, bne_self_eq_false, pylonlaw02_PhasorPowers.j0, Bool.false_eq_true, if_false, f1, f2, f3, o1, t1, t2, t3]
end Go.Proofs.Ytapimggcnneabaa.Pure
