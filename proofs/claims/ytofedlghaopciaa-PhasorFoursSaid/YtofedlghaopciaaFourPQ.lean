/- Four-point sums of floats that stand for whole numbers: what they stand for. -/
import Derived.Test.YtofedlghaopciaaPhasorQ
import Derived.Test.YtofedlghaopciaaFltQ
import Derived.Test.YtofedlghaopciaaFourBAQ
import Derived.Laws.BitsLemmas
set_option linter.unusedVariables false
set_option linter.unusedSimpArgs false
namespace Go.Proofs.Ytofedlghaopciaa.FourW
open Go Go.RowKit Go.Proofs.Ytofedlghaopciaa.PQ Go.Proofs.Ytofedlghaopciaa.Num Go.Proofs.Ytofedlghaopciaa.Flt Go.Proofs.Ytofedlghaopciaa.PureQ Go.Proofs.YtofedlghaopciaaW.PrintWords Go.Proofs.YtofedlghaopciaaW.PrintLast Go.Proofs.YtofedlghaopciaaW.PrintMore
theorem and3 (n : Int) : Go.bits .and .i64 n 3 = n % 4 := by
  have h3 : (BitVec.ofInt 64 3).toNat = 2 ^ 2 - 1 := by decide
  have key : (BitVec.ofInt 64 n &&& BitVec.ofInt 64 3).toNat = (n % ((2 ^ 64 : Nat) : Int)).toNat % 2 ^ 2 := by
    rw [BitVec.toNat_and, BitVec.toNat_ofInt, h3, Nat.and_two_pow_sub_one_eq_mod]
  show IntKind.i64.wrap ((BitVec.ofInt 64 n &&& BitVec.ofInt 64 3).toNat : Nat) = n % 4
  rw [key, IntKind.wrap_i64]
  omega
/-- The parts of i to the power m, m from 0 to 3. -/
def wR (m : Int) : Int := if m = 0 then 1 else if m = 2 then -1 else 0
def wI (m : Int) : Int := if m = 1 then 1 else if m = 3 then -1 else 0
theorem wR_le (m : Int) : (wR m).natAbs ≤ 1 := by unfold wR; split <;> (try split) <;> decide
theorem wI_le (m : Int) : (wI m).natAbs ≤ 1 := by unfold wI; split <;> (try split) <;> decide
theorem unit_ok (k : Int) : phasor_unit.f k = some (unitV k) ∧ Is (unitV k).re (wR (k % 4)) ∧ Is (unitV k).im (wI (k % 4)) := by
  have key : ∃ u, phasor_unit.f k = some u ∧ Is u.re (wR (k % 4)) ∧ Is u.im (wI (k % 4)) := by
    unfold phasor_unit.f
    rw [and3]
    have h : k % 4 = 0 ∨ k % 4 = 1 ∨ k % 4 = 2 ∨ k % 4 = 3 := by omega
    rw [if_pos (by omega), if_pos (by omega)]
    rcases h with h | h | h | h <;> rw [h]
    · exact ⟨_, rfl, is_1, is_zero⟩
    · exact ⟨_, rfl, is_zero, is_1⟩
    · exact ⟨_, rfl, is_m1, is_zero⟩
    · exact ⟨_, rfl, is_zero, is_m1⟩
  obtain ⟨u, e, h1, h2⟩ := key
  have hv : unitV k = u := by unfold unitV; rw [e]; rfl
  rw [hv]
  exact ⟨e, h1, h2⟩
/-- The whole numbers' sums. -/
def sR (A B : Nat → Int) (s : Int) (k : Nat) : Nat → Int
  | 0 => 0
  | n + 1 => sR A B s k n + (A n * wR (s * k * n % 4) - B n * wI (s * k * n % 4))
def sI (A B : Nat → Int) (s : Int) (k : Nat) : Nat → Int
  | 0 => 0
  | n + 1 => sI A B s k n + (A n * wI (s * k * n % 4) + B n * wR (s * k * n % 4))
/-- An array of whole numbers, none farther from 0 than M. -/
def Whole (x : Nat → Cx) (A B : Nat → Int) (M : Nat) : Prop := ∀ n, n < 4 → (Is (x n).re (A n) ∧ (A n).natAbs ≤ M) ∧ Is (x n).im (B n) ∧ (B n).natAbs ≤ M
theorem step_is {o z u : Cx} {O P A B U V : Int} {M N : Nat} (h1 : Is o.re O) (h2 : Is o.im P) (h3 : Is z.re A) (h4 : Is z.im B) (h5 : Is u.re U) (h6 : Is u.im V) (a : A.natAbs ≤ M) (b : B.natAbs ≤ M) (c : U.natAbs ≤ 1) (d : V.natAbs ≤ 1)
    (e : O.natAbs ≤ N) (f : P.natAbs ≤ N) (g : N + 2 * M < 9007199254740992) :
    stepOk o z u = true ∧ Is (stepV o z u).re (O + (A * U - B * V)) ∧ Is (stepV o z u).im (P + (A * V + B * U)) ∧ (O + (A * U - B * V)).natAbs ≤ N + 2 * M ∧ (P + (A * V + B * U)).natAbs ≤ N + 2 * M := by
  have p1 := prod_le a c
  have p2 := prod_le b d
  have p3 := prod_le a d
  have p4 := prod_le b c
  rw [Nat.mul_one] at p1 p2 p3 p4
  obtain ⟨ok, r, i⟩ := cmul_is h3 h4 h5 h6 (by omega) (by omega) (by omega) (by omega) (by omega) (by omega)
  obtain ⟨ok2, r2, i2⟩ := cadd_is h1 h2 r i (by omega) (by omega)
  refine ⟨?_, r2, i2, by omega, by omega⟩
  unfold stepOk
  rw [ok, ok2]
  rfl
theorem part_is {x : Nat → Cx} {A B : Nat → Int} {M : Nat} (h : Whole x A B M) (hM : M ≤ 1073741824) (s : Int) (k : Nat) : ∀ n, n ≤ 4 →
    Is (part x s k n).re (sR A B s k n) ∧ Is (part x s k n).im (sI A B s k n) ∧ (sR A B s k n).natAbs ≤ 2 * M * n ∧ (sI A B s k n).natAbs ≤ 2 * M * n := by
  intro n
  induction n with
  | zero => exact fun _ => ⟨is_zero, is_zero, Nat.zero_le _, Nat.zero_le _⟩
  | succ n ih =>
    intro hn
    obtain ⟨i1, i2, i3, i4⟩ := ih (by omega)
    obtain ⟨⟨h1, h2⟩, h3, h4⟩ := h n (by omega)
    obtain ⟨_, u1, u2⟩ := unit_ok (s * k * n)
    have hm : 2 * M * n ≤ 2 * M * 4 := Nat.mul_le_mul_left _ (by omega)
    obtain ⟨_, r1, r2, r3, r4⟩ := step_is i1 i2 h1 h3 u1 u2 h2 h4 (wR_le _) (wI_le _) i3 i4 (by omega)
    refine ⟨r1, r2, ?_, ?_⟩
    · rw [Nat.mul_succ]; exact r3
    · rw [Nat.mul_succ]; exact r4
theorem sums_ok {x : Nat → Cx} {A B : Nat → Int} {M : Nat} (h : Whole x A B M) (hM : M ≤ 1073741824) (s : Int) : sumsOk x s := by
  intro k n hk hn
  obtain ⟨i1, i2, i3, i4⟩ := part_is h hM s k n (by omega)
  obtain ⟨⟨h1, h2⟩, h3, h4⟩ := h n hn
  obtain ⟨e, u1, u2⟩ := unit_ok (s * k * n)
  have hm : 2 * M * n ≤ 2 * M * 4 := Nat.mul_le_mul_left _ (by omega)
  exact ⟨(step_is i1 i2 h1 h3 u1 u2 h2 h4 (wR_le _) (wI_le _) i3 i4 (by omega)).1, e⟩
theorem part_bits (x : Nat → Cx) (s : Int) (k n : Nat) : Bits (part x s k n) := by
  cases n with
  | zero => exact ⟨(by decide : (0 : Nat) < 18446744073709551616), (by decide : (0 : Nat) < 18446744073709551616)⟩
  | succ n => exact ⟨(cadd_lt _ _ _ _).1, (cadd_lt _ _ _ _).2⟩
/-- The way back leads back. -/
theorem back_id (A B : Nat → Int) (j : Nat) (hj : j < 4) :
    sR (fun k => sR A B (-1) k 4) (fun k => sI A B (-1) k 4) 1 j 4 = 4 * A j ∧ sI (fun k => sR A B (-1) k 4) (fun k => sI A B (-1) k 4) 1 j 4 = 4 * B j := by
  rcases four_of hj with rfl | rfl | rfl | rfl <;> simp [sR, sI, wR, wI] <;> omega
theorem sums_add (A B C D : Nat → Int) (j : Nat) (hj : j < 4) :
    sR (fun n => A n + C n) (fun n => B n + D n) (-1) j 4 = sR A B (-1) j 4 + sR C D (-1) j 4 ∧ sI (fun n => A n + C n) (fun n => B n + D n) (-1) j 4 = sI A B (-1) j 4 + sI C D (-1) j 4 := by
  rcases four_of hj with rfl | rfl | rfl | rfl <;> simp [sR, sI, wR, wI] <;> omega
/-- The sum of the squares over the first n. -/
def qS (A B : Nat → Int) : Nat → Int
  | 0 => 0
  | n + 1 => qS A B n + (A n * A n + B n * B n)
theorem squares_id (A B : Nat → Int) : qS (fun k => sR A B (-1) k 4) (fun k => sI A B (-1) k 4) 4 = 4 * qS A B 4 := by
  simp [qS, sR, sI, wR, wI]
  grind
end Go.Proofs.Ytofedlghaopciaa.FourW
