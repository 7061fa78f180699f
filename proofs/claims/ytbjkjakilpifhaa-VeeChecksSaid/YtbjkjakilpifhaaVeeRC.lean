/- Layer 10: what the reference's Check answers: the same as vee.Check. -/
import Derived.Test.YtbjkjakilpifhaaVeeC
import Derived.Test.YtbjkjakilpifhaaPCx3
import Derived.Test.YtbjkjakilpifhaaPCx4
set_option linter.unusedVariables false
set_option linter.unusedSimpArgs false
namespace Go.Proofs.Ytbjkjakilpifhaa.PureC
open Go.RowKit Go.Proofs.Ytbjkjakilpifhaa.PC Go.Proofs.Ytbjkjakilpifhaa.Num Go.Proofs.YtbjkjakilpifhaaW.PrintWords Go.Proofs.YtbjkjakilpifhaaW.PrintLast Go.Proofs.YtbjkjakilpifhaaW.PrintMore

theorem refgood_f (r0 r1 r2 r3 r4 : Int) : pylonref10_Good.f r0 r1 r2 r3 r4 = some (r4 == 65 || r4 == 69) := by
  unfold pylonref10_Good.f
  by_cases h : r4 = 65
  · simp [h]
  · simp [h]
theorem far_swap (a b m : Int) : far a b m = far b a m := by
  unfold far
  have h : mx a b - mn a b = mx b a - mn b a := by unfold mx mn; (repeat' split) <;> omega
  rw [h]
theorem far_ge {a b m : Int} (h : b ≤ a) : far a b m = decide (a - b > m) := by
  unfold far
  have h : mx a b - mn a b = a - b := by unfold mx mn; (repeat' split) <;> omega
  rw [h]
theorem farther_ge {a b m : Int} (ha : in64 a) (hb : in64 b) (hm : in64 m) (m0 : 0 ≤ m) (h : b ≤ a) : Ev (fun k => pylonref10_farther.f k a b m) (far a b m) := by
  unfold in64 at ha hb hm
  rw [far_ge h]
  refine Ev.shift ?_
  simp only [pylonref10_farther.f, if_neg (show ¬ a < b by omega)]
  by_cases b0 : b < 0
  · simp only [if_pos b0]
    by_cases a0 : a ≥ 0
    · simp only [if_pos a0]
      by_cases am : a > m
      · simp only [if_pos am, decide_eq_true (show a - b > m by omega)]
        exact Ev.now _
      · simp only [if_neg am]
        rw [i64in (x := b + 1) (by omega) (by omega), i64in (x := -(b + 1)) (by omega) (by omega), i64in (x := m - a) (by omega) (by omega)]
        have : (-(b + 1) ≥ m - a) = (a - b > m) := propext (by omega)
        simp only [this]
        exact Ev.now _
    · simp only [if_neg a0]
      rw [i64in (x := a - b) (by omega) (by omega)]
      exact Ev.now _
  · simp only [if_neg b0]
    rw [i64in (x := a - b) (by omega) (by omega)]
    exact Ev.now _
theorem farther_f {a b m : Int} (ha : in64 a) (hb : in64 b) (hm : in64 m) (m0 : 0 ≤ m) : Ev (fun k => pylonref10_farther.f k a b m) (far a b m) := by
  by_cases h : b ≤ a
  · exact farther_ge ha hb hm m0 h
  · rw [far_swap]
    refine Ev.shift ?_
    simp only [pylonref10_farther.f, if_pos (show a < b by omega)]
    exact ev_bind (farther_ge hb ha hm m0 (by omega)) (Ev.now _)

section
variable {x1 x2 x8 x9 x14 x15 c1 c2 c3 c4 c5 r0 r1 r2 r3 r4 : Int} {l : List S32} {c0 : ByteArray} {R : Int × Int}
theorem rj4 (b : Bool) (hK : Ev (fun k => pylonref10_Check.l0 k x1 x2 x8 x14 (wrap64 (x15 + 1)) c0 c1 c2 c3 c4 c5 l) R) :
    Ev (fun k => pylonref10_Check.j4 k x1 x2 x8 x9 b x14 x15 c0 c1 c2 c3 c4 c5 l r0 r1 r2 r3 r4) (if (b || (!(r4 == 65 || r4 == 69) && r4 != 83)) = true then (x9, 3) else R) := by
  refine Ev.shift ?_
  simp only [pylonref10_Check.j4, refgood_f, Option.bind_some]
  cases b
  · simp only [Bool.false_eq_true, if_false, Bool.false_or]
    cases (r4 == 65 || r4 == 69)
    · by_cases h : r4 = 83
      · simpa [h] using hK
      · simpa [h] using Ev.now (x9, (3 : Int))
    · simpa using hK
  · simpa using Ev.now (x9, (3 : Int))
theorem rj3 (h2 : in64 x2) (g1 : in64 r1) (g2 : in64 r2) (hl : in64 (l.length : Int)) (hp : okR (rd_T32 l (x9 - 1))) (n b : Bool) (hn : n = true → 0 < x2 ∧ 0 < x9 ∧ x9 - 1 < l.length)
    (hK : Ev (fun k => pylonref10_Check.l0 k x1 x2 x8 x14 (wrap64 (x15 + 1)) c0 c1 c2 c3 c4 c5 l) R) :
    Ev (fun k => pylonref10_Check.j3 k x1 x2 x8 x9 b x14 x15 n c0 c1 c2 c3 c4 c5 l r0 r1 r2 r3 r4)
      (if ((b || (n && (far r1 (rd_T32 l (x9 - 1)).f1 x2 || far r2 (rd_T32 l (x9 - 1)).f2 x2))) || (!(r4 == 65 || r4 == 69) && r4 != 83)) = true then (x9, 3) else R) := by
  have J := fun b => rj4 (r0 := r0) (r1 := r1) (r2 := r2) (r3 := r3) (r4 := r4) (x9 := x9) b hK
  refine Ev.shift ?_
  simp only [pylonref10_Check.j3]
  cases n
  · simp only [Bool.false_eq_true, if_false, Bool.false_and, Bool.or_false]
    exact J b
  · obtain ⟨s0, i0, i1⟩ := hn rfl
    unfold in64 at hl
    simp only [if_true, Bool.true_and]
    cases b
    · simp only [Bool.false_eq_true, if_false, Bool.false_or]
      rw [i64in (x := x9 - 1) (by omega) (by omega)]
      simp only [if_pos (show 0 ≤ x9 - 1 by omega), if_pos i1]
      refine ev_bind (farther_f g1 hp.2.1 h2 (by omega)) ?_
      cases far r1 (rd_T32 l (x9 - 1)).f1 x2
      · simp only [Bool.false_eq_true, if_false, Bool.false_or]
        refine ev_bind (farther_f g2 hp.2.2.1 h2 (by omega)) ?_
        exact J _
      · simpa using J true
    · simpa using J true
/-- Is the read ahead good, in the slot ahead, and are spikes asked for, as the reference asks? -/
def nearR (l : List S32) (r0 spike i : Int) : Bool :=
  decide (i > 0) && (decide (spike > 0) && ((rd_T32 l (i - 1)).f4 == 65 || (rd_T32 l (i - 1)).f4 == 69) && (decide (r0 > (rd_T32 l (i - 1)).f0) && wrap64 (r0 - 1) == (rd_T32 l (i - 1)).f0))
theorem rj2 (h2 : in64 x2) (g1 : in64 r1) (g2 : in64 r2) (hl : in64 (l.length : Int)) (i0 : 0 ≤ x9) (i1 : x9 < l.length) (hp : okR (rd_T32 l (x9 - 1))) (b : Bool)
    (hK : Ev (fun k => pylonref10_Check.l0 k x1 x2 x8 x14 (wrap64 (x15 + 1)) c0 c1 c2 c3 c4 c5 l) R) :
    Ev (fun k => pylonref10_Check.j2 k x1 x2 x8 x9 b x14 x15 c0 c1 c2 c3 c4 c5 l r0 r1 r2 r3 r4)
      (if ((b || (nearR l r0 x2 x9 && (far r1 (rd_T32 l (x9 - 1)).f1 x2 || far r2 (rd_T32 l (x9 - 1)).f2 x2))) || (!(r4 == 65 || r4 == 69) && r4 != 83)) = true then (x9, 3) else R) := by
  have hl' := hl
  unfold in64 at hl'
  have J := fun (n b : Bool) hn => rj3 (r0 := r0) (r3 := r3) (r4 := r4) h2 g1 g2 hl hp n b hn hK
  refine Ev.shift ?_
  simp only [pylonref10_Check.j2]
  have no : nearR l r0 x2 x9 = false → Ev (fun k => pylonref10_Check.j3 k x1 x2 x8 x9 b x14 x15 false c0 c1 c2 c3 c4 c5 l r0 r1 r2 r3 r4)
      (if ((b || (nearR l r0 x2 x9 && (far r1 (rd_T32 l (x9 - 1)).f1 x2 || far r2 (rd_T32 l (x9 - 1)).f2 x2))) || (!(r4 == 65 || r4 == 69) && r4 != 83)) = true then (x9, 3) else R) := by
    intro h
    rw [h]
    exact J false b (fun h => by cases h)
  by_cases c1 : x9 > 0
  · simp only [if_pos c1]
    by_cases c2 : x2 > 0
    · rw [i64in (x := x9 - 1) (by omega) (by omega)]
      simp only [if_pos c2, if_pos (show 0 ≤ x9 - 1 by omega), if_pos (show x9 - 1 < (l.length : Int) by omega), refgood_f, Option.bind_some]
      cases hg : ((rd_T32 l (x9 - 1)).f4 == 65 || (rd_T32 l (x9 - 1)).f4 == 69)
      · simp only [Bool.false_eq_true, if_false]
        exact no (by unfold nearR; simp [hg])
      · simp only [if_true]
        by_cases c3 : r0 > (rd_T32 l (x9 - 1)).f0
        · simp only [if_pos c3]
          have e : nearR l r0 x2 x9 = (wrap64 (r0 - 1) == (rd_T32 l (x9 - 1)).f0) := by unfold nearR; simp [hg, c1, c2, c3]
          rw [e]
          exact J _ b (fun _ => ⟨c2, c1, by omega⟩)
        · simp only [if_neg c3]
          exact no (by unfold nearR; simp [c3])
    · simp only [if_neg c2]
      exact no (by unfold nearR; simp [c2])
  · simp only [if_neg c1]
    exact no (by unfold nearR; simp [c1])
end
/-- Both ask the same. -/
theorem bad_same {l : List S32} {slots most spike i : Int} (i0 : 0 ≤ i) (hr : okR (rd_T32 l i)) (hp : okR (rd_T32 l (i - 1))) :
    bad l slots most spike i = ((((decide ((rd_T32 l i).f0 < 0) || (decide ((rd_T32 l i).f0 ≥ slots) || (decide (i > 0) && decide ((rd_T32 l i).f0 ≤ (rd_T32 l (i - 1)).f0)))) ||
      (gd (rd_T32 l i) && (decide ((rd_T32 l i).f1 < 0) || (decide ((rd_T32 l i).f1 > most) || (decide ((rd_T32 l i).f2 < 0) || (decide ((rd_T32 l i).f2 > most) || (decide (most < 0) || far (rd_T32 l i).f3 0 most))))))) ||
      (gd (rd_T32 l i) && (nearR l (rd_T32 l i).f0 spike i && (far (rd_T32 l i).f1 (rd_T32 l (i - 1)).f1 spike || far (rd_T32 l i).f2 (rd_T32 l (i - 1)).f2 spike)))) || (!gd (rd_T32 l i) && (rd_T32 l i).f4 != 83)) := by
  unfold bad near nearR
  have hg2 : gd (rd_T32 l (i - 1)) = ((rd_T32 l (i - 1)).f4 == 65 || (rd_T32 l (i - 1)).f4 == 69) := rfl
  rw [← hg2]
  obtain ⟨q0, q1, q2, q3⟩ := hr
  obtain ⟨p0, p1, p2, p3⟩ := hp
  unfold in64 at q0 p0
  generalize far (rd_T32 l i).f1 (rd_T32 l (i - 1)).f1 spike = F1
  generalize far (rd_T32 l i).f2 (rd_T32 l (i - 1)).f2 spike = F2
  generalize far (rd_T32 l i).f3 0 most = F3
  generalize gd (rd_T32 l (i - 1)) = gp
  generalize gd (rd_T32 l i) = g
  generalize (rd_T32 l i).f0 = r0 at *
  generalize (rd_T32 l i).f1 = r1 at *
  generalize (rd_T32 l i).f2 = r2 at *
  generalize (rd_T32 l (i - 1)).f0 = s0 at *
  by_cases a1 : r0 < 0
  · simp [a1]
  · by_cases a2 : r0 ≥ slots
    · simp [a1, a2]
    · by_cases a3 : i > 0 ∧ r0 ≤ s0
      · simp [a1, a2, a3.1, a3.2]
      · cases g
        · by_cases a4 : i > 0
          · have a5 : ¬ r0 ≤ s0 := fun h => a3 ⟨a4, h⟩
            simp [a1, a2, a4, a5]
          · simp [a1, a2, a4]
        · have hA : (decide (mn r1 r2 < 0) || (decide (mx r1 r2 > most) || F3)) = (decide (r1 < 0) || (decide (r1 > most) || (decide (r2 < 0) || (decide (r2 > most) || (decide (most < 0) || F3))))) := by
            cases F3
            · rw [Bool.eq_iff_iff]
              simp only [Bool.or_eq_true, decide_eq_true_eq, Bool.false_eq_true, or_false]
              unfold mn mx
              split <;> split <;> omega
            · simp
          rw [hA]
          by_cases a4 : i > 0
          · have a5 : ¬ r0 ≤ s0 := fun h => a3 ⟨a4, h⟩
            have e1 : wrap64 (s0 + 1) = s0 + 1 := i64in (by omega) (by omega)
            have e2 : wrap64 (r0 - 1) = r0 - 1 := i64in (by omega) (by omega)
            have e3 : (s0 + 1 == r0) = (r0 - 1 == s0) := by
              rw [Bool.eq_iff_iff]
              simp only [beq_iff_eq]
              omega
            have a6 : r0 > s0 := by omega
            simp only [e1, e2, e3, decide_eq_false a1, decide_eq_false a2, decide_eq_true a4, decide_eq_false a5, decide_eq_true a6, Bool.false_or, Bool.and_false, Bool.true_and, Bool.not_true, Bool.false_and, Bool.or_false, Bool.and_assoc]
          · simp only [decide_eq_false a1, decide_eq_false a2, decide_eq_false a4, Bool.false_or, Bool.true_and, Bool.not_true, Bool.false_and, Bool.or_false]
section
variable {c0 : ByteArray} {c1 c2 slots c4 c5 most spike : Int} {l : List S32}
theorem rround (hl : (l.length : Int) ≤ 140737488355328) (hr : ∀ y ∈ l, okS32 y) (h1 : in64 most) (h2 : in64 spike) {R : Int × Int} {i cn : Int} (i0 : 0 ≤ i) (i1 : i < l.length)
    (hK : Ev (fun k => pylonref10_Check.l0 k most spike (if gd (rd_T32 l i) = true then wrap64 (cn + 1) else cn) (l.length : Int) (i + 1) c0 c1 c2 slots c4 c5 l) R) :
    Ev (fun k => pylonref10_Check.l0 k most spike cn (l.length : Int) i c0 c1 c2 slots c4 c5 l) (if bad l slots most spike i = true then (i, 3) else R) := by
  have ei : wrap64 (i + 1) = i + 1 := i64in (by omega) (by omega)
  have g := okR_rd hr i
  have q := okR_rd hr (i - 1)
  have hl64 : in64 (l.length : Int) := by unfold in64; omega
  have z0 : in64 0 := by unfold in64; decide
  rw [bad_same i0 g q]
  have hg : gd (rd_T32 l i) = ((rd_T32 l i).f4 == 65 || (rd_T32 l i).f4 == 69) := rfl
  rw [← ei] at hK
  have key : ∀ b : Bool, b = (decide ((rd_T32 l i).f0 < 0) || (decide ((rd_T32 l i).f0 ≥ slots) || (decide (i > 0) && decide ((rd_T32 l i).f0 ≤ (rd_T32 l (i - 1)).f0)))) →
      Ev (fun k => pylonref10_Check.j1 k most spike cn i b (l.length : Int) i c0 c1 c2 slots c4 c5 l (rd_T32 l i).f0 (rd_T32 l i).f1 (rd_T32 l i).f2 (rd_T32 l i).f3 (rd_T32 l i).f4)
        (if (((b || (gd (rd_T32 l i) && (decide ((rd_T32 l i).f1 < 0) || (decide ((rd_T32 l i).f1 > most) || (decide ((rd_T32 l i).f2 < 0) || (decide ((rd_T32 l i).f2 > most) || (decide (most < 0) || far (rd_T32 l i).f3 0 most))))))) ||
          (gd (rd_T32 l i) && (nearR l (rd_T32 l i).f0 spike i && (far (rd_T32 l i).f1 (rd_T32 l (i - 1)).f1 spike || far (rd_T32 l i).f2 (rd_T32 l (i - 1)).f2 spike)))) || (!gd (rd_T32 l i) && (rd_T32 l i).f4 != 83)) = true then (i, 3) else R) := by
    intro b _
    refine Ev.shift ?_
    simp only [pylonref10_Check.j1, refgood_f, Option.bind_some]
    rw [← hg]
    cases hgd : gd (rd_T32 l i)
    · rw [hgd] at hK
      simp only [Bool.false_eq_true, if_false] at hK
      simp only [Bool.false_eq_true, if_false, Bool.false_and, Bool.or_false]
      have J := rj4 (r0 := (rd_T32 l i).f0) (r1 := (rd_T32 l i).f1) (r2 := (rd_T32 l i).f2) (r3 := (rd_T32 l i).f3) (r4 := (rd_T32 l i).f4) (x9 := i) b hK
      rw [← hg, hgd] at J
      exact J
    · rw [hgd] at hK
      simp only [if_true] at hK
      simp only [if_true, Bool.true_and]
      have J := fun b => rj2 (r0 := (rd_T32 l i).f0) (r3 := (rd_T32 l i).f3) (r4 := (rd_T32 l i).f4) h2 g.2.1 g.2.2.1 hl64 i0 i1 q b hK
      rw [← hg, hgd] at J
      cases b
      · simp only [Bool.false_eq_true, if_false, Bool.false_or]
        by_cases a1 : (rd_T32 l i).f1 < 0
        · simpa [a1] using J true
        · by_cases a2 : (rd_T32 l i).f1 > most
          · simpa [a1, a2] using J true
          · by_cases a3 : (rd_T32 l i).f2 < 0
            · simpa [a1, a2, a3] using J true
            · by_cases a4 : (rd_T32 l i).f2 > most
              · simpa [a1, a2, a3, a4] using J true
              · by_cases a5 : most < 0
                · simpa [a1, a2, a3, a4, a5] using J true
                · simp only [if_neg a1, if_neg a2, if_neg a3, if_neg a4, if_neg a5, decide_eq_false a1, decide_eq_false a2, decide_eq_false a3, decide_eq_false a4, decide_eq_false a5, Bool.false_or]
                  refine ev_bind (farther_f g.2.2.2 z0 h1 (by omega)) ?_
                  exact J _
      · simpa using J true
  refine Ev.shift ?_
  simp only [pylonref10_Check.l0, if_pos i1, if_pos i0]
  by_cases a1 : (rd_T32 l i).f0 < 0
  · simp only [if_pos a1]
    have := key true (by simp [a1])
    simpa [a1] using this
  · by_cases a2 : (rd_T32 l i).f0 ≥ slots
    · simp only [if_neg a1, if_pos a2]
      have := key true (by simp [a2])
      simpa [a1, a2] using this
    · simp only [if_neg a1, if_neg a2]
      by_cases a3 : i > 0
      · rw [i64in (x := i - 1) (by omega) (by omega)]
        simp only [if_pos a3, if_pos (show 0 ≤ i - 1 by omega), if_pos (show i - 1 < (l.length : Int) by omega)]
        have := key (decide ((rd_T32 l i).f0 ≤ (rd_T32 l (i - 1)).f0)) (by simp [a1, a2, a3])
        simpa only [decide_eq_false a1, decide_eq_false a2, decide_eq_true a3, Bool.false_or, Bool.true_and] using this
      · simp only [if_neg a3]
        have := key false (by simp [a1, a2, a3])
        simpa only [decide_eq_false a1, decide_eq_false a2, decide_eq_false a3, Bool.false_or, Bool.false_and] using this
theorem refcheck_l0 (hl : (l.length : Int) ≤ 140737488355328) (hr : ∀ y ∈ l, okS32 y) (h1 : in64 most) (h2 : in64 spike) {R : Int × Int} (hA : CheckA l slots most spike R) :
    ∀ (d : Nat) (i cn : Int), 0 ≤ i → (l.length : Int) - i = d → (∀ j : Int, 0 ≤ j → j < i → bad l slots most spike j = false) → 0 ≤ cn → cn ≤ i → (cn ≠ 0 → ∃ j : Int, 0 ≤ j ∧ j < i ∧ gd (rd_T32 l j) = true) → (cn = 0 → ∀ j : Int, 0 ≤ j → j < i → gd (rd_T32 l j) = false) →
    Ev (fun k => pylonref10_Check.l0 k most spike cn (l.length : Int) i c0 c1 c2 slots c4 c5 l) R := by
  intro d
  induction d with
  | zero =>
    intro i cn i0 hd hb n0 n1 ht hf
    have hi : i = l.length := by clear ht; omega
    subst hi
    refine Ev.shift ?_
    simp only [pylonref10_Check.l0, if_neg (show ¬ (l.length : Int) < l.length by omega)]
    by_cases h : cn = 0
    · simp only [if_pos h]
      rw [hA.unique (.inr (.inr ⟨hb, hf h, rfl⟩))]
      exact Ev.now _
    · simp only [if_neg h]
      rw [hA.unique (.inr (.inl ⟨hb, ht h, rfl⟩))]
      exact Ev.now _
  | succ d ih =>
    intro i cn i0 hd hb n0 n1 ht hf
    have hi : i < l.length := by clear ht; omega
    have hcn : wrap64 (cn + 1) = cn + 1 := by clear ht; exact i64in (by omega) (by omega)
    -- what follows, if it is come to
    have all : ∀ (e : Nat) (q c : Int), 0 ≤ q → q ≤ l.length → (l.length : Int) - q = e → ∃ r, Ev (fun k => pylonref10_Check.l0 k most spike c (l.length : Int) q c0 c1 c2 slots c4 c5 l) r := by
      intro e
      induction e with
      | zero =>
        intro q c q0 _ he
        refine ⟨if c = 0 then ((l.length : Int), 3) else (0, 0), Ev.shift ?_⟩
        simp only [pylonref10_Check.l0, if_neg (show ¬ q < (l.length : Int) by clear ht; omega)]
        by_cases hc : c = 0
        · simp only [if_pos hc]; exact Ev.now _
        · simp only [if_neg hc]; exact Ev.now _
      | succ e ihe =>
        intro q c q0 q1 he
        obtain ⟨r, h⟩ := ihe (q + 1) (if gd (rd_T32 l q) = true then wrap64 (c + 1) else c) (by omega) (by clear ht; omega) (by clear ht; omega)
        exact ⟨_, rround hl hr h1 h2 q0 (by clear ht; omega) h⟩
    cases hbi : bad l slots most spike i
    · have nx := ih (i + 1) (if gd (rd_T32 l i) = true then wrap64 (cn + 1) else cn) (by omega) (by omega)
        (fun j j0 j1 => by
          by_cases h : j = i
          · subst h; exact hbi
          · exact hb j j0 (by omega))
        (by rw [hcn]; split <;> omega) (by rw [hcn]; split <;> omega)
        (fun h => by
          by_cases g : gd (rd_T32 l i) = true
          · exact ⟨i, i0, by omega, g⟩
          · rw [if_neg g] at h
            obtain ⟨j, j0, j1, j2⟩ := ht h
            exact ⟨j, j0, by omega, j2⟩)
        (fun h j j0 j1 => by
          by_cases g : gd (rd_T32 l i) = true
          · rw [if_pos g, hcn] at h; omega
          · rw [if_neg g] at h
            by_cases e : j = i
            · subst e; simpa using g
            · exact hf h j j0 (by omega))
      have := rround (c0 := c0) (c1 := c1) (c2 := c2) (slots := slots) (c4 := c4) (c5 := c5) hl hr h1 h2 i0 hi nx
      rw [hbi] at this
      simpa using this
    · obtain ⟨r, h⟩ := all d (i + 1) (if gd (rd_T32 l i) = true then wrap64 (cn + 1) else cn) (by omega) (by clear ht; omega) (by clear ht; omega)
      have := rround (c0 := c0) (c1 := c1) (c2 := c2) (slots := slots) (c4 := c4) (c5 := c5) hl hr h1 h2 i0 hi h
      rw [hbi] at this
      rw [hA.unique (.inl ⟨i, i0, hi, hbi, hb, rfl⟩)]
      simpa using this
theorem refcheck_f (hl : l.length * 40 ≤ 140737488351232) (hr : ∀ y ∈ l, okS32 y) (h1 : in64 most) (h2 : in64 spike) {R : Int × Int} (hA : CheckA l slots most spike R) :
    Ev (fun k => pylonref10_Check.f k c0 c1 c2 slots c4 c5 l most spike) R := by
  unfold pylonref10_Check.f
  exact refcheck_l0 (by omega) hr h1 h2 hA l.length 0 0 (by omega) (by omega) (fun j j0 j1 => by omega) (by omega) (by omega) (fun h => absurd rfl h) (fun _ j j0 j1 => by omega)
end
end Go.Proofs.Ytbjkjakilpifhaa.PureC
