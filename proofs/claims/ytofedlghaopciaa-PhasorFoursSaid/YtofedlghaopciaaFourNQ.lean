/- PhasorFours holds: the way back leads back, four times the squares are kept, sums go through. -/
import Derived.Test.YtofedlghaopciaaFourPQ
import Derived.Test.YtofedlghaopciaaFourMQ
set_option linter.unusedVariables false
set_option linter.unusedSimpArgs false
namespace Go.Proofs.Ytofedlghaopciaa.FourW
open Go Go.RowKit Go.Proofs.Ytofedlghaopciaa.PQ Go.Proofs.Ytofedlghaopciaa.Num Go.Proofs.Ytofedlghaopciaa.Flt Go.Proofs.Ytofedlghaopciaa.PureQ Go.Proofs.YtofedlghaopciaaW.PrintWords Go.Proofs.YtofedlghaopciaaW.PrintLast Go.Proofs.YtofedlghaopciaaW.PrintMore
theorem sq_is {z : Cx} {A B : Int} (h1 : Is z.re A) (h2 : Is z.im B) (a : (A * A).natAbs < 2 ^ 53) (b : (B * B).natAbs < 2 ^ 53) (c : (A * A + B * B).natAbs < 2 ^ 53) : ∃ q, pylonlaw02_square.f z = some q ∧ Is q (A * A + B * B) := by
  obtain ⟨o1, r1⟩ := h1.mul h1 a
  obtain ⟨o2, r2⟩ := h2.mul h2 b
  obtain ⟨o3, r3⟩ := r1.add r2 c
  refine ⟨_, ?_, r3⟩
  unfold pylonlaw02_square.f
  simp only [o1, o2, o3, if_true]
def sqV (z : Cx) : Nat := (pylonlaw02_square.f z).getD 0
def acc (x : Nat → Cx) : Nat → Nat
  | 0 => 0
  | n + 1 => fadd (acc x n) (sqV (x n))
theorem sq_le {A : Int} {M : Nat} (h : A.natAbs ≤ M) : (A * A).natAbs ≤ M * M := prod_le h h
theorem nn (A : Int) : 0 ≤ A * A := by
  rcases Int.le_total 0 A with h | h
  · exact Int.mul_nonneg h h
  · exact Int.mul_nonneg_of_nonpos_of_nonpos h h
theorem acc_is {x : Nat → Cx} {A B : Nat → Int} {M : Nat} (h : Whole x A B M) (hM : M ≤ 8388608) : ∀ n, n ≤ 4 →
    Is (acc x n) (qS A B n) ∧ (qS A B n).natAbs ≤ 2 * (M * M) * n ∧ (n < 4 → ∃ q, pylonlaw02_square.f (x n) = some q ∧ faddok (acc x n) q = true ∧ acc x (n + 1) = fadd (acc x n) q) := by
  have hMM : M * M ≤ 70368744177664 := Nat.mul_le_mul hM hM
  have key : ∀ n, n ≤ 4 → Is (acc x n) (qS A B n) ∧ (qS A B n).natAbs ≤ 2 * (M * M) * n := by
    intro n
    induction n with
    | zero => exact fun _ => ⟨is_zero, Nat.zero_le _⟩
    | succ n ih =>
      intro hn
      obtain ⟨i1, i2⟩ := ih (by omega)
      obtain ⟨⟨h1, h2⟩, h3, h4⟩ := h n (by omega)
      have s1 := sq_le h2
      have s2 := sq_le h4
      have hm : 2 * (M * M) * n ≤ 2 * (M * M) * 4 := Nat.mul_le_mul_left _ (by omega)
      obtain ⟨q, e, r⟩ := sq_is h1 h3 (by omega) (by omega) (by omega)
      have hv : sqV (x n) = q := by unfold sqV; rw [e]; rfl
      refine ⟨?_, ?_⟩
      · show Is (fadd (acc x n) (sqV (x n))) _
        rw [hv]
        exact (i1.add r (by omega)).2
      · show (qS A B n + (A n * A n + B n * B n)).natAbs ≤ _
        rw [Nat.mul_succ]
        omega
  intro n hn
  obtain ⟨i1, i2⟩ := key n hn
  refine ⟨i1, i2, fun hlt => ?_⟩
  obtain ⟨⟨h1, h2⟩, h3, h4⟩ := h n hlt
  have s1 := sq_le h2
  have s2 := sq_le h4
  have hm : 2 * (M * M) * n ≤ 2 * (M * M) * 4 := Nat.mul_le_mul_left _ (by omega)
  obtain ⟨q, e, r⟩ := sq_is h1 h3 (by omega) (by omega) (by omega)
  have hv : sqV (x n) = q := by unfold sqV; rw [e]; rfl
  refine ⟨q, e, (i1.add r (by omega)).1, ?_⟩
  show fadd (acc x n) (sqV (x n)) = _
  rw [hv]
theorem is_most4 : Is most4 ((134217728 : Nat) : Int) := is_const (by decide) (by decide +kernel)
theorem whole_of {x : Nat → Cx} {A B : Nat → Int} {M : Nat} (h : Whole x A B M) (hM : M ≤ 134217728) (hb : ∀ n, n < 4 → Bits (x n)) : ∀ n, n < 4 → wholeYes (x n) := by
  intro n hn
  obtain ⟨⟨h1, h2⟩, h3, h4⟩ := h n hn
  exact ⟨whole_yes (hb n hn).1 (by decide) is_most4 h1 (by omega), whole_yes (hb n hn).2 (by decide) is_most4 h3 (by omega)⟩
theorem fits_of {x : Nat → Cx} {A B : Nat → Int} {M : Nat} (h : Whole x A B M) (hM : M ≤ 33554432) (hb : ∀ n, n < 4 → Bits (x n)) : ∀ n, n < 4 → phasor_Fits.f (x n) = some true := by
  intro n hn
  obtain ⟨⟨h1, h2⟩, h3, h4⟩ := h n hn
  exact fits_yes (hb n hn) ⟨⟨h1, by omega⟩, h3, by omega⟩
/-- What a quotient by 4 gives. -/
def quoV (p : Cx) : Cx := cx ((cQuoBits p.re p.im four 0).getD (0, 0)).1 ((cQuoBits p.re p.im four 0).getD (0, 0)).2
theorem quo_is {p : Cx} {A B : Int} (h1 : Is p.re A) (h2 : Is p.im B) (a : A.natAbs < 2 ^ 53) (b : B.natAbs < 2 ^ 53) : cQuoBits p.re p.im four 0 = some ((quoV p).re, (quoV p).im) ∧ IsQ (quoV p).re A ∧ IsQ (quoV p).im B ∧ Bits (quoV p) := by
  obtain ⟨e, f, h, i1, i2, l1, l2⟩ := cquo4 h1 h2 a b
  have hv : quoV p = cx e f := by
    unfold quoV
    have h' : cQuoBits p.re p.im four 0 = some (e, f) := h
    rw [h']
    rfl
  rw [hv]
  exact ⟨h, i1, i2, l1, l2⟩
theorem trunc_f {e : Nat} {N : Int} (h : IsQ e N) (h1 : N.natAbs < 2 ^ 53) : math_Trunc.f e = some (ftrunc e) := by
  unfold math_Trunc.f
  rw [if_pos (h.trunc h1).1]
theorem four_small {N : Int} (h : N.natAbs ≤ 2 * (32768 * 32768) * 4) : (4 * N).natAbs < 2 ^ 53 := by omega
set_option maxRecDepth 100000 in
theorem fours_ok (xs ys : Nat → Int) (hx : ∀ i, i < 8 → (xs i).natAbs ≤ 32768) (hy : ∀ i, i < 8 → (ys i).natAbs ≤ 32768) : ∃ P Q S fP fQ fS z hv mv, Fours xs ys P Q S fP fQ fS z hv mv := by
  let P : Nat → Cx := fun n => numZ (xs (2 * n)) (xs (2 * n + 1))
  let Q : Nat → Cx := fun n => numZ (ys (2 * n)) (ys (2 * n + 1))
  let S : Nat → Cx := fun n => sumZ (P n) (Q n)
  let A : Nat → Int := fun n => xs (2 * n)
  let B : Nat → Int := fun n => xs (2 * n + 1)
  let C : Nat → Int := fun n => ys (2 * n)
  let D : Nat → Int := fun n => ys (2 * n + 1)
  have hP : Whole P A B 32768 := fun n hn => ⟨⟨of_int (by have := hx (2 * n) (by omega); omega), hx (2 * n) (by omega)⟩, of_int (by have := hx (2 * n + 1) (by omega); omega), hx (2 * n + 1) (by omega)⟩
  have hQ : Whole Q C D 32768 := fun n hn => ⟨⟨of_int (by have := hy (2 * n) (by omega); omega), hy (2 * n) (by omega)⟩, of_int (by have := hy (2 * n + 1) (by omega); omega), hy (2 * n + 1) (by omega)⟩
  have hadd : ∀ n, n < 4 → caddok (P n).re (P n).im (Q n).re (Q n).im = true ∧ Is (S n).re (A n + C n) ∧ Is (S n).im (B n + D n) := fun n hn => by
    obtain ⟨⟨a1, a2⟩, a3, a4⟩ := hP n hn
    obtain ⟨⟨b1, b2⟩, b3, b4⟩ := hQ n hn
    exact cadd_is a1 a3 b1 b3 (by omega) (by omega)
  have hS : Whole S (fun n => A n + C n) (fun n => B n + D n) 65536 := fun n hn => by
    obtain ⟨⟨a1, a2⟩, a3, a4⟩ := hP n hn
    obtain ⟨⟨b1, b2⟩, b3, b4⟩ := hQ n hn
    obtain ⟨_, s1, s2⟩ := hadd n hn
    exact ⟨⟨s1, by show (A n + C n).natAbs ≤ _; omega⟩, s2, by show (B n + D n).natAbs ≤ _; omega⟩
  have bP : ∀ n, n < 4 → Bits (P n) := fun n _ => ⟨fint_lt _, fint_lt _⟩
  have bQ : ∀ n, n < 4 → Bits (Q n) := fun n _ => ⟨fint_lt _, fint_lt _⟩
  have bS : ∀ n, n < 4 → Bits (S n) := fun n _ => ⟨(cadd_lt _ _ _ _).1, (cadd_lt _ _ _ _).2⟩
  let fP : Nat → Cx := fun k => part P (-1) k 4
  let fQ : Nat → Cx := fun k => part Q (-1) k 4
  let fS : Nat → Cx := fun k => part S (-1) k 4
  have hfP : Whole fP (fun k => sR A B (-1) k 4) (fun k => sI A B (-1) k 4) 262144 := fun k _ => by
    obtain ⟨i1, i2, i3, i4⟩ := part_is hP (by decide) (-1) k 4 (Nat.le_refl _)
    exact ⟨⟨i1, i3⟩, i2, i4⟩
  have hfQ : Whole fQ (fun k => sR C D (-1) k 4) (fun k => sI C D (-1) k 4) 262144 := fun k _ => by
    obtain ⟨i1, i2, i3, i4⟩ := part_is hQ (by decide) (-1) k 4 (Nat.le_refl _)
    exact ⟨⟨i1, i3⟩, i2, i4⟩
  have hfS : Whole fS (fun k => sR (fun n => A n + C n) (fun n => B n + D n) (-1) k 4) (fun k => sI (fun n => A n + C n) (fun n => B n + D n) (-1) k 4) 524288 := fun k _ => by
    obtain ⟨i1, i2, i3, i4⟩ := part_is hS (by decide) (-1) k 4 (Nat.le_refl _)
    exact ⟨⟨i1, i3⟩, i2, i4⟩
  let z : Nat → Cx := fun j => quoV (part fP 1 j 4)
  have hz : ∀ j, j < 4 → cQuoBits (part fP 1 j 4).re (part fP 1 j 4).im four 0 = some ((z j).re, (z j).im) ∧ IsQ (z j).re (4 * A j) ∧ IsQ (z j).im (4 * B j) := fun j hj => by
    obtain ⟨i1, i2, i3, i4⟩ := part_is hfP (by decide) 1 j 4 (Nat.le_refl _)
    obtain ⟨e1, e2⟩ := back_id A B j hj
    rw [e1] at i1 i3
    rw [e2] at i2 i4
    obtain ⟨q1, q2, q3, _⟩ := quo_is i1 i2 (by omega) (by omega)
    exact ⟨q1, q2, q3⟩
  have hAB : ∀ j, j < 4 → (4 * A j).natAbs < 2 ^ 53 ∧ (4 * B j).natAbs < 2 ^ 53 := fun j hj => by
    obtain ⟨⟨a1, a2⟩, a3, a4⟩ := hP j hj
    exact ⟨by omega, by omega⟩
  have hs := squares_id A B
  have v1 := (acc_is hP (by decide) 4 (Nat.le_refl _)).1
  have v2 := (acc_is hP (by decide) 4 (Nat.le_refl _)).2.1
  have u1 := (acc_is hfP (by decide) 4 (Nat.le_refl _)).1
  have is4 : Is four 4 := is_4
  have h4 : (4 * qS A B 4).natAbs < 2 ^ 53 := four_small v2
  obtain ⟨m1, m2⟩ := is4.mul v1 h4
  refine ⟨P, Q, S, fP, fQ, fS, z, acc P, acc fP, ?_⟩
  exact {
    p := fun n _ => rfl
    q := fun n _ => rfl
    s := fun n hn => ⟨(hadd n hn).1, rfl⟩
    h0 := rfl
    h := fun n hn => (acc_is hP (by decide) n (by omega)).2.2 hn
    aP := ⟨fits_of hP (by decide) bP, sums_ok hP (by decide) _, fun _ _ => rfl⟩
    aQ := ⟨fits_of hQ (by decide) bQ, sums_ok hQ (by decide) _, fun _ _ => rfl⟩
    aS := ⟨fits_of hS (by decide) bS, sums_ok hS (by decide) _, fun _ _ => rfl⟩
    aB := ⟨whole_of hfP (by decide) (fun n _ => part_bits P (-1) n 4), sums_ok hfP (by decide) _, fun j hj => (hz j hj).1, fun j hj => by
      obtain ⟨b1, b2⟩ := hAB j hj
      obtain ⟨_, z1, z2⟩ := hz j hj
      exact ⟨_, _, trunc_f z1 b1, by rw [(z1.trunc b1).2.1]; exact decide_eq_true (by omega), trunc_f z2 b2, by rw [(z2.trunc b2).2.1]; exact decide_eq_true (by omega)⟩⟩
    e := fun n hn => by
      obtain ⟨b1, b2⟩ := hAB n hn
      obtain ⟨_, z1, z2⟩ := hz n hn
      obtain ⟨⟨a1, a2⟩, a3, a4⟩ := hP n hn
      have i1 := (z1.trunc b1).2.2 (by omega)
      have i2 := (z2.trunc b2).2.2 (by omega)
      rw [ceq_is i1 i2 a1 a3, decide_eq_true (by omega), decide_eq_true (by omega)]
      rfl
    m0 := rfl
    m := fun n hn => (acc_is hfP (by decide) n (by omega)).2.2 hn
    t := fun n hn => by
      obtain ⟨⟨a1, a2⟩, a3, a4⟩ := hfP n hn
      obtain ⟨⟨b1, b2⟩, b3, b4⟩ := hfQ n hn
      obtain ⟨⟨c1, c2⟩, c3, c4⟩ := hfS n hn
      obtain ⟨d1, d2⟩ := sums_add A B C D n hn
      obtain ⟨ok, r1, r2⟩ := cadd_is a1 a3 b1 b3 (by omega) (by omega)
      refine ⟨ok, ?_⟩
      rw [ceq_is c1 c3 r1 r2, decide_eq_true d1, decide_eq_true d2]
      rfl
    l := ⟨m1, by rw [u1.feq m2, hs]; exact decide_eq_true rfl⟩ }
theorem fours_calls (xs ys : Nat → Int) (hx : ∀ i, i < 8 → (xs i).natAbs ≤ 32768) (hy : ∀ i, i < 8 → (ys i).natAbs ≤ 32768) (w : World) :
    Calls Try.prog 3 #[.agg (arr8 xs), .agg (arr8 ys)] w fun e w' => e = .returned (.bool true) ∧ Below w.heap.size w w' := by
  obtain ⟨P, Q, S, fP, fQ, fS, z, hv, mv, h⟩ := fours_ok xs ys hx hy
  exact law_calls xs ys P Q S fP fQ fS z hv mv w awake_ok h
end Go.Proofs.Ytofedlghaopciaa.FourW
