/- PhasorTurns holds: turns add up; four quarters are none; a turn keeps the distance from 0. -/
import Derived.Test.YtapimggcnneabaaPhasorH
import Derived.Test.YtapimggcnneabaaRootH
import Derived.Laws.BitsLemmas
import Derived.Test.YtapimggcnneabaaPHx1
import Derived.Test.YtapimggcnneabaaPHx4
import Derived.Test.YtapimggcnneabaaPHx6
set_option linter.unusedVariables false
set_option linter.unusedSimpArgs false
namespace Go.Proofs.Ytapimggcnneabaa.Pure
open Go.RowKit Go.Proofs.Ytapimggcnneabaa.PH Go.Proofs.Ytapimggcnneabaa.PureH Go.Proofs.Ytapimggcnneabaa.Num Go.Proofs.Ytapimggcnneabaa.Flt Go.Proofs.YtapimggcnneabaaW.PrintWords Go.Proofs.YtapimggcnneabaaW.PrintLast Go.Proofs.YtapimggcnneabaaW.PrintMore
theorem square_is {z : Cx} {A B : Int} (h1 : Is z.re A) (h2 : Is z.im B) (a : (A * A).natAbs < 2 ^ 53) (b : (B * B).natAbs < 2 ^ 53) (c : (A * A + B * B).natAbs < 2 ^ 53) : ∃ q, pylonlaw02_square.f z = some q ∧ Is q (A * A + B * B) := by
  obtain ⟨o1, r1⟩ := h1.mul h1 a
  obtain ⟨o2, r2⟩ := h2.mul h2 b
  obtain ⟨o3, r3⟩ := r1.add r2 c
  refine ⟨_, ?_, r3⟩
  unfold pylonlaw02_square.f
  simp only [o1, o2, o3, if_true]
theorem i64_and3 (n : Int) : Go.bits .and .i64 n 3 = n % 4 := by
  have h3 : (BitVec.ofInt 64 3).toNat = 2 ^ 2 - 1 := by decide
  have key : (BitVec.ofInt 64 n &&& BitVec.ofInt 64 3).toNat = (n % ((2 ^ 64 : Nat) : Int)).toNat % 2 ^ 2 := by
    rw [BitVec.toNat_and, BitVec.toNat_ofInt, h3, Nat.and_two_pow_sub_one_eq_mod]
  show IntKind.i64.wrap ((BitVec.ofInt 64 n &&& BitVec.ofInt 64 3).toNat : Nat) = n % 4
  rw [key, IntKind.wrap_i64]
  omega
/-- The parts of i to the power m, m from 0 to 3. -/
def uR (m : Int) : Int := if m = 0 then 1 else if m = 2 then -1 else 0
def uI (m : Int) : Int := if m = 1 then 1 else if m = 3 then -1 else 0
theorem uR_le (m : Int) : (uR m).natAbs ≤ 1 := by unfold uR; split <;> (try split) <;> decide
theorem uI_le (m : Int) : (uI m).natAbs ≤ 1 := by unfold uI; split <;> (try split) <;> decide
theorem unit_is (k : Int) : ∃ u, phasor_unit.f k = some u ∧ Is u.re (uR (k % 4)) ∧ Is u.im (uI (k % 4)) := by
  unfold phasor_unit.f
  rw [i64_and3]
  have h : k % 4 = 0 ∨ k % 4 = 1 ∨ k % 4 = 2 ∨ k % 4 = 3 := by omega
  rw [if_pos (by omega), if_pos (by omega)]
  rcases h with h | h | h | h <;> rw [h]
  · exact ⟨_, rfl, is_1, is_zero⟩
  · exact ⟨_, rfl, is_zero, is_1⟩
  · exact ⟨_, rfl, is_m1, is_zero⟩
  · exact ⟨_, rfl, is_zero, is_m1⟩
theorem turn_is {z : Cx} {A B : Int} (hb : Bits z) (s : Small z A B) (k : Int) :
    ∃ w, phasor_Turn.f z k = some (w, 0) ∧ Is w.re (A * uR (k % 4) - B * uI (k % 4)) ∧ Is w.im (A * uI (k % 4) + B * uR (k % 4)) ∧ Bits w := by
  obtain ⟨u, e, u1, u2⟩ := unit_is k
  obtain ⟨⟨a1, a2⟩, a3, a4⟩ := id s
  have p1 := prod_le a2 (uR_le (k % 4))
  have p2 := prod_le a4 (uI_le (k % 4))
  have p3 := prod_le a2 (uI_le (k % 4))
  have p4 := prod_le a4 (uR_le (k % 4))
  obtain ⟨ok, r, i⟩ := cmul_is a1 a3 u1 u2 (by omega) (by omega) (by omega) (by omega) (by omega) (by omega)
  refine ⟨cx (cmulre z.re z.im u.re u.im) (cmulim z.re z.im u.re u.im), ?_, r, i, (cmul_lt _ _ _ _).1, (cmul_lt _ _ _ _).2⟩
  unfold phasor_Turn.f
  simp only [fits_yes hb s, e, Option.bind_some, if_true, ok]
theorem apparent_is {z : Cx} {A B r : Int} (hb : Bits z) (s : Small z A B) (hr : IsRoot (A * A + B * B) r) : Ev (fun k => phasor_Apparent.f k z) (fits r) := by
  obtain ⟨⟨a1, a2⟩, a3, a4⟩ := id s
  obtain ⟨o1, e1⟩ := a1.toint (by omega) (by omega)
  obtain ⟨o2, e2⟩ := a3.toint (by omega) (by omega)
  have hp : phasor_Parts.f z = some (A, B, 0) := by
    unfold phasor_Parts.f
    simp only [fits_yes hb s, Option.bind_some, if_true, o1, o2, e1, e2]
  unfold phasor_Apparent.f
  simp only [hp, Option.bind_some, if_true]
  exact ev_bind (hyp_f (by omega) (by omega) (by omega) (by omega) hr) (Ev.pair _)
theorem wf16 {x : Int} (h : (Lit.int .i16 x).wf = true) : -32768 ≤ x ∧ x ≤ 32767 := by
  simpa [Lit.wf, IntKind.min, IntKind.max, IntKind.bits, IntKind.signed] using h
theorem four (k : Int) : k % 4 = 0 ∨ k % 4 = 1 ∨ k % 4 = 2 ∨ k % 4 = 3 := by omega
theorem rot_sq (A B k : Int) : (A * uR (k % 4) - B * uI (k % 4)) * (A * uR (k % 4) - B * uI (k % 4)) + (A * uI (k % 4) + B * uR (k % 4)) * (A * uI (k % 4) + B * uR (k % 4)) = A * A + B * B := by
  rcases four k with h | h | h | h <;> rw [h] <;> simp only [uR, uI, Int.reduceEq, if_true, if_false] <;> grind
theorem rot_add (A B k l : Int) :
    (A * uR (k % 4) - B * uI (k % 4)) * uR (l % 4) - (A * uI (k % 4) + B * uR (k % 4)) * uI (l % 4) = A * uR ((k + l) % 4) - B * uI ((k + l) % 4) ∧
    (A * uR (k % 4) - B * uI (k % 4)) * uI (l % 4) + (A * uI (k % 4) + B * uR (k % 4)) * uR (l % 4) = A * uI ((k + l) % 4) + B * uR ((k + l) % 4) := by
  have e : (k + l) % 4 = (k % 4 + l % 4) % 4 := by omega
  rw [e]
  rcases four k with h | h | h | h <;> rcases four l with g | g | g | g <;> rw [h, g] <;> simp only [uR, uI, Int.reduceEq, Int.reduceAdd, Int.reduceMod, if_true, if_false] <;> constructor <;> omega
theorem rot_le {A B : Int} (k : Int) (a : A.natAbs ≤ 32768) (b : B.natAbs ≤ 32768) : (A * uR (k % 4) - B * uI (k % 4)).natAbs ≤ 32768 ∧ (A * uI (k % 4) + B * uR (k % 4)).natAbs ≤ 32768 := by
  rcases four k with h | h | h | h <;> rw [h] <;> simp only [uR, uI, Int.reduceEq, if_true, if_false] <;> constructor <;> omega
set_option maxHeartbeats 2000000 in
theorem PhasorTurns : pylonlaw02_PhasorTurns.Pure := by
  intro A B k l hA hB hk hl
  obtain ⟨A0, A1⟩ := wf16 hA
  obtain ⟨B0, B1⟩ := wf16 hB
  obtain ⟨k0, k1⟩ := wf16 hk
  obtain ⟨l0, l1⟩ := wf16 hl
  refine ev_ex ?_
  unfold pylonlaw02_PhasorTurns.f pylonlaw02_small.f
  rw [i64in (x := k) (by omega) (by omega), i64in (x := l) (by omega) (by omega), i64in (x := k + l) (by omega) (by omega), i64in (x := 4 * k) (by omega) (by omega)]
  have bz : Bits (cx (floatOfInt .f64 A) (floatOfInt .f64 B)) := ⟨fint_lt _, fint_lt _⟩
  have iA := of_int (n := A) (by omega)
  have iB := of_int (n := B) (by omega)
  have sz : Small (cx (floatOfInt .f64 A) (floatOfInt .f64 B)) A B := ⟨⟨iA, by omega⟩, iB, by omega⟩
  have rl := rot_le (A := A) (B := B) k (by omega) (by omega)
  obtain ⟨x, ex, x1, x2, bx⟩ := turn_is bz sz k
  have sx : Small x _ _ := ⟨⟨x1, by omega⟩, x2, by omega⟩
  obtain ⟨y, ey, y1, y2, _⟩ := turn_is bx sx l
  obtain ⟨w, ew, w1, w2, _⟩ := turn_is bz sz (k + l)
  obtain ⟨v, ev, v1, v2, _⟩ := turn_is bz sz (4 * k)
  obtain ⟨r, hr⟩ := root_of (N := A * A + B * B) (by have := sq_nonneg A; have := sq_nonneg B; omega)
  have am := apparent_is bz sz hr
  have an := apparent_is bx sx (r := r) (by rw [rot_sq]; exact hr)
  have hAA := prod_le (show A.natAbs ≤ 32768 by omega) (show A.natAbs ≤ 32768 by omega)
  have hBB := prod_le (show B.natAbs ≤ 32768 by omega) (show B.natAbs ≤ 32768 by omega)
  have hr0 := hr.1
  have hr1 := hr.le_of (x := 9223372036854775807) (by omega) (by omega)
  have ef : fits r = (r, 0) := by unfold fits; rw [if_pos (by omega)]
  rw [ef] at am an
  have ra := rot_add A B k l
  obtain ⟨q1, f1, g1⟩ := square_is x1 x2 (by have := prod_le rl.1 rl.1; omega) (by have := prod_le rl.2 rl.2; omega) (by rw [rot_sq]; omega)
  obtain ⟨q2, f2, g2⟩ := square_is (z := cx (floatOfInt .f64 A) (floatOfInt .f64 B)) iA iB (by omega) (by omega) (by omega)
  have t1 : ceq y.re y.im w.re w.im = true := by
    rw [ceq_is y1 y2 w1 w2, decide_eq_true ra.1, decide_eq_true ra.2]; rfl
  have t2 : ceq v.re v.im (floatOfInt .f64 A) (floatOfInt .f64 B) = true := by
    have e4 : 4 * k % 4 = 0 := by omega
    rw [e4] at v1 v2
    rw [ceq_is v1 v2 iA iB]
    have a1 : A * uR 0 - B * uI 0 = A := by simp only [uR, uI, Int.reduceEq, if_true, if_false]; omega
    have a2 : A * uI 0 + B * uR 0 = B := by simp only [uR, uI, Int.reduceEq, if_true, if_false]; omega
    rw [decide_eq_true a1, decide_eq_true a2]; rfl
  have t3 : feq q1 q2 = true := by rw [g1.feq g2, rot_sq]; exact decide_eq_true rfl
  simp only [awake_ok, Option.bind_some, if_true, ex, ey, ew, ev]
  refine ev_bind am (ev_bind an ?_)
  simp only [if_true, bne_self_eq_false]
  refine Ev.shift ?_
  simp only [pylonlaw02_PhasorTurns.j0, Bool.false_eq_true, if_false, t1, t2, if_true, f1, f2, Option.bind_some, t3]
  exact Ev.now _
end Go.Proofs.Ytapimggcnneabaa.Pure
