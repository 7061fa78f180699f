/- Layer 10: what the printed vee.Check answers. -/
import Derived.Test.YtbjkjakilpifhaaNum
import Derived.Test.YtbjkjakilpifhaaPCx1
import Derived.Test.YtbjkjakilpifhaaPCx2
import Derived.Test.YtbjkjakilpifhaaPCx3
import Derived.Test.YtbjkjakilpifhaaPCx5
import Derived.KernelRfl
set_option linter.unusedVariables false
set_option linter.unusedSimpArgs false
namespace Go.Proofs.Ytbjkjakilpifhaa.PureC
open Go.RowKit Go.Proofs.Ytbjkjakilpifhaa.PC Go.Proofs.Ytbjkjakilpifhaa.Num Go.Proofs.YtbjkjakilpifhaaW.PrintWords Go.Proofs.YtbjkjakilpifhaaW.PrintLast Go.Proofs.YtbjkjakilpifhaaW.PrintMore

theorem awake_some : pylonlaw10_awake.f 100 = some true := by kernel_rfl
theorem awake_ev : Ev (fun k => pylonlaw10_awake.f k) true := Ev.of pylonlaw10_awake.mono awake_some

def in64 (x : Int) : Prop := -9223372036854775808 ≤ x ∧ x ≤ 9223372036854775807
/-- Do two numbers lie farther from each other than most? -/
def far (a b m : Int) : Bool := decide (mx a b - mn a b > m)
theorem apart_f {a b m : Int} (ha : in64 a) (hb : in64 b) (hm : in64 m) : vee_apart.f a b m = some (far a b m) := by
  unfold in64 at ha hb hm
  unfold vee_apart.f fix_Sub.f far
  have h1 : in64 (mx a b) ∧ in64 (mn a b) ∧ mn a b ≤ mx a b := by unfold in64 mx mn; split <;> split <;> omega
  generalize mx a b = x at *
  generalize mn a b = y at *
  obtain ⟨hx, hy, hle⟩ := h1
  unfold in64 at hx hy
  by_cases hov : x - y ≤ 9223372036854775807
  · have e : wrap64 (x - y) = x - y := i64in (by omega) (by omega)
    rw [e]
    by_cases h0 : y = 0
    · subst h0
      simp
    · by_cases hp : y > 0
      · rw [decide_eq_true (show x - y < x by omega), decide_eq_true hp]
        simp
      · rw [decide_eq_false (show ¬ x - y < x by omega), decide_eq_false hp]
        simp
  · have e : wrap64 (x - y) = x - y - 18446744073709551616 := by unfold wrap64; omega
    rw [e, decide_eq_true (show x - y - 18446744073709551616 < x by omega), decide_eq_false (show ¬ y > 0 by omega), decide_eq_true (show x - y > m by omega)]
    simp [show ¬ y = 0 by omega]

def gd (r : S32) : Bool := r.f4 == 65 || r.f4 == 69
theorem good_f (r : S32) : vee_Good.f r.f0 r.f1 r.f2 r.f3 r.f4 = some (gd r) := by
  unfold vee_Good.f gd
  by_cases h : r.f4 = 65
  · simp [h]
  · simp [h]
def okR (r : S32) : Prop := in64 r.f0 ∧ in64 r.f1 ∧ in64 r.f2 ∧ in64 r.f3
theorem okR_of {r : S32} (h : okS32 r) : okR r := ⟨wf64 h.1, wf64 h.2.1, wf64 h.2.2.1, wf64 h.2.2.2.1⟩
theorem okR_rd {l : List S32} (h : ∀ y ∈ l, okS32 y) (i : Int) : okR (rd_T32 l i) := by
  unfold rd_T32
  by_cases hi : i.toNat < l.length
  · rw [List.getD_eq_getElem?_getD, List.getElem?_eq_getElem hi]
    exact okR_of (h _ (List.getElem_mem hi))
  · rw [List.getD_eq_getElem?_getD, List.getElem?_eq_none (by omega)]
    exact ⟨by unfold in64; decide, by unfold in64; decide, by unfold in64; decide, by unfold in64; decide⟩

/-- Is the read ahead good, in the slot ahead, and are spikes asked for? -/
def near (l : List S32) (spike i : Int) : Bool :=
  decide (i > 0) && (gd (rd_T32 l i) && (decide (spike > 0) && (gd (rd_T32 l (i - 1)) && wrap64 ((rd_T32 l (i - 1)).f0 + 1) == (rd_T32 l i).f0)))
/-- Is read i wrong? -/
def bad (l : List S32) (slots most spike i : Int) : Bool :=
  decide ((rd_T32 l i).f0 < 0) || (decide ((rd_T32 l i).f0 ≥ slots) || (decide (i > 0) && decide ((rd_T32 l i).f0 ≤ (rd_T32 l (i - 1)).f0) || (!gd (rd_T32 l i) && (rd_T32 l i).f4 != 83 ||
    (gd (rd_T32 l i) && (decide (mn (rd_T32 l i).f1 (rd_T32 l i).f2 < 0) || (decide (mx (rd_T32 l i).f1 (rd_T32 l i).f2 > most) || far (rd_T32 l i).f3 0 most)) ||
      near l spike i && (far (rd_T32 l i).f1 (rd_T32 l (i - 1)).f1 spike || far (rd_T32 l i).f2 (rd_T32 l (i - 1)).f2 spike)))))

section
variable {x1 x2 x9 x16 x17 c1 c2 c3 c4 c5 r0 r1 r2 r3 r4 p0 p1 p2 p3 p4 : Int} {x8 : Bool} {x15 l : List S32} {c0 : ByteArray} {R : Int × Int}
theorem j5_f (h2 : in64 x2) (g1 : in64 r1) (g2 : in64 r2) (q1 : in64 p1) (q2 : in64 p2) (x13 x53 : Bool) (hK : Ev (fun k => vee_Check.l0 k x1 x2 x8 x15 x16 (wrap64 (x17 + 1)) c0 c1 c2 c3 c4 c5 l) R) :
    Ev (fun k => vee_Check.j5 k x1 x2 x8 x9 x13 x15 x16 x17 x53 c0 c1 c2 c3 c4 c5 l r0 r1 r2 r3 r4 p0 p1 p2 p3 p4) (if (x53 || (x13 && (far r1 p1 x2 || far r2 p2 x2))) = true then (x9, 3) else R) := by
  refine Ev.shift ?_
  simp only [vee_Check.j5, apart_f g1 q1 h2, apart_f g2 q2 h2, Option.bind_some]
  cases x53
  · simp only [Bool.false_eq_true, if_false, Bool.false_or]
    cases x13
    · simpa using hK
    · simp only [if_true, Bool.true_and]
      cases far r1 p1 x2
      · simp only [Bool.false_eq_true, if_false, Bool.false_or]
        cases far r2 p2 x2
        · simpa using hK
        · simpa using Ev.now (x9, 3)
      · simpa using Ev.now (x9, 3)
  · simpa using Ev.now (x9, 3)
theorem j4_f (h1 : in64 x1) (h2 : in64 x2) (g1 : in64 r1) (g2 : in64 r2) (g3 : in64 r3) (q1 : in64 p1) (q2 : in64 p2) (x11 x13 x53 : Bool) (hK : Ev (fun k => vee_Check.l0 k x1 x2 x8 x15 x16 (wrap64 (x17 + 1)) c0 c1 c2 c3 c4 c5 l) R) :
    Ev (fun k => vee_Check.j4 k x1 x2 x8 x9 x11 x13 x15 x16 x17 x53 c0 c1 c2 c3 c4 c5 l r0 r1 r2 r3 r4 p0 p1 p2 p3 p4)
      (if (x53 || (x11 && (decide (mn r1 r2 < 0) || (decide (mx r1 r2 > x1) || far r3 0 x1)) || x13 && (far r1 p1 x2 || far r2 p2 x2))) = true then (x9, 3) else R) := by
  refine Ev.shift ?_
  have z0 : in64 0 := by unfold in64; decide
  simp only [vee_Check.j4, apart_f g3 z0 h1, Option.bind_some]
  have J := fun b => j5_f (x1 := x1) (x9 := x9) (r0 := r0) (r3 := r3) (r4 := r4) (p0 := p0) (p3 := p3) (p4 := p4) h2 g1 g2 q1 q2 x13 b hK
  cases x53
  · simp only [Bool.false_eq_true, if_false, Bool.false_or]
    cases x11
    · simpa using J false
    · simp only [if_true, Bool.true_and]
      by_cases a : mn r1 r2 < 0
      · simpa [a] using J true
      · by_cases b : mx r1 r2 > x1
        · simpa [a, b] using J true
        · simpa [a, b] using J (far r3 0 x1)
  · simpa using Ev.now (x9, 3)
theorem j3_f (h1 : in64 x1) (h2 : in64 x2) (g1 : in64 r1) (g2 : in64 r2) (g3 : in64 r3) (q1 : in64 p1) (q2 : in64 p2) (x11 x13 x53 : Bool) (hK : Ev (fun k => vee_Check.l0 k x1 x2 x8 x15 x16 (wrap64 (x17 + 1)) c0 c1 c2 c3 c4 c5 l) R) :
    Ev (fun k => vee_Check.j3 k x1 x2 x8 x9 x11 x13 x15 x16 x17 x53 c0 c1 c2 c3 c4 c5 l r0 r1 r2 r3 r4 p0 p1 p2 p3 p4)
      (if (x53 || (!x11 && r4 != 83 || (x11 && (decide (mn r1 r2 < 0) || (decide (mx r1 r2 > x1) || far r3 0 x1)) || x13 && (far r1 p1 x2 || far r2 p2 x2)))) = true then (x9, 3) else R) := by
  refine Ev.shift ?_
  simp only [vee_Check.j3]
  have J := fun b => j4_f (x9 := x9) (r0 := r0) (r4 := r4) (p0 := p0) (p3 := p3) (p4 := p4) h1 h2 g1 g2 g3 q1 q2 x11 x13 b hK
  cases x53
  · simp only [Bool.false_eq_true, if_false, Bool.false_or]
    cases x11
    · simpa using J (r4 != 83)
    · simpa using J false
  · simpa using Ev.now (x9, 3)
theorem j2_f (h1 : in64 x1) (h2 : in64 x2) (g1 : in64 r1) (g2 : in64 r2) (g3 : in64 r3) (q1 : in64 p1) (q2 : in64 p2) (x11 x13 : Bool) (hK : Ev (fun k => vee_Check.l0 k x1 x2 x8 x15 x16 (wrap64 (x17 + 1)) c0 c1 c2 c3 c4 c5 l) R) :
    Ev (fun k => vee_Check.j2 k x1 x2 x8 x9 x11 x13 x15 x16 x17 c0 c1 c2 c3 c4 c5 l r0 r1 r2 r3 r4 p0 p1 p2 p3 p4)
      (if (decide (r0 < 0) || (decide (r0 ≥ c3) || (decide (x9 > 0) && decide (r0 ≤ p0) || (!x11 && r4 != 83 || (x11 && (decide (mn r1 r2 < 0) || (decide (mx r1 r2 > x1) || far r3 0 x1)) || x13 && (far r1 p1 x2 || far r2 p2 x2)))))) = true then (x9, 3) else R) := by
  refine Ev.shift ?_
  simp only [vee_Check.j2]
  have J := fun b => j3_f (x9 := x9) (r0 := r0) (r4 := r4) (p0 := p0) (p3 := p3) (p4 := p4) h1 h2 g1 g2 g3 q1 q2 x11 x13 b hK
  by_cases a : r0 < 0
  · simpa [a] using Ev.now (x9, (3 : Int))
  · by_cases b : r0 ≥ c3
    · simpa [a, b] using Ev.now (x9, (3 : Int))
    · simp only [if_neg a, if_neg b, decide_eq_false a, decide_eq_false b, Bool.false_or]
      by_cases c : x9 > 0
      · simp only [if_pos c, decide_eq_true c, Bool.true_and]
        exact J _
      · simp only [if_neg c, decide_eq_false c, Bool.false_and]
        exact J _
end
section
variable {c0 : ByteArray} {c1 c2 slots c4 c5 most spike : Int} {l : List S32}
/-- One round. -/
theorem round_f (hl : (l.length : Int) ≤ 140737488355328) (hr : ∀ y ∈ l, okS32 y) (h1 : in64 most) (h2 : in64 spike) {R : Int × Int} {i : Int} (i0 : 0 ≤ i) (i1 : i < l.length) (any : Bool)
    (hK : Ev (fun k => vee_Check.l0 k most spike (any || gd (rd_T32 l i)) l (l.length : Int) (i + 1) c0 c1 c2 slots c4 c5 l) R) :
    Ev (fun k => vee_Check.l0 k most spike any l (l.length : Int) i c0 c1 c2 slots c4 c5 l) (if bad l slots most spike i = true then (i, 3) else R) := by
  have ei : wrap64 (i + 1) = i + 1 := i64in (by omega) (by omega)
  have e1 : i > 0 → wrap64 (i - 1) = i - 1 := fun h => i64in (by omega) (by omega)
  have g := okR_rd hr i
  have q := okR_rd hr (i - 1)
  refine Ev.shift ?_
  simp only [vee_Check.l0, if_pos i1, if_pos i0, good_f, Option.bind_some]
  have key : Ev (fun k => vee_Check.j1 k most spike (any || gd (rd_T32 l i)) i (gd (rd_T32 l i)) l (l.length : Int) i c0 c1 c2 slots c4 c5 l (rd_T32 l i).f0 (rd_T32 l i).f1 (rd_T32 l i).f2 (rd_T32 l i).f3 (rd_T32 l i).f4) (if bad l slots most spike i = true then (i, 3) else R) := by
    rw [← ei] at hK
    have J := fun x13 => j2_f (x9 := i) (r0 := (rd_T32 l i).f0) (r4 := (rd_T32 l i).f4) (p0 := (rd_T32 l (i - 1)).f0) (p3 := (rd_T32 l (i - 1)).f3) (p4 := (rd_T32 l (i - 1)).f4) h1 h2 g.2.1 g.2.2.1 g.2.2.2 q.2.1 q.2.2.1 (gd (rd_T32 l i)) x13 hK
    refine Ev.shift ?_
    simp only [vee_Check.j1]
    by_cases hi : i > 0
    · simp only [if_pos hi, e1 hi, if_pos (show (0 : Int) ≤ i - 1 by omega), if_pos (show i - 1 < (l.length : Int) by omega), good_f, Option.bind_some]
      have J' : ∀ x13, x13 = near l spike i → _ := fun x13 h => h ▸ J (near l spike i)
      unfold bad
      cases hg : gd (rd_T32 l i)
      · simp only [Bool.false_eq_true, if_false]
        have hn : near l spike i = false := by unfold near; simp [hg]
        have := J (near l spike i)
        rw [hn, hg] at this
        rw [hn]
        exact this
      · simp only [if_true]
        by_cases hs : spike > 0
        · simp only [if_pos hs]
          cases hp : gd (rd_T32 l (i - 1))
          · simp only [Bool.false_eq_true, if_false]
            have hn : near l spike i = false := by unfold near; simp [hp]
            have := J (near l spike i)
            rw [hn, hg] at this
            rw [hn]
            exact this
          · simp only [if_true]
            have hn : near l spike i = (wrap64 ((rd_T32 l (i - 1)).f0 + 1) == (rd_T32 l i).f0) := by unfold near; simp [hg, hp, hi, hs]
            have := J (near l spike i)
            rw [hg] at this
            rw [← hn]
            exact this
        · simp only [if_neg hs]
          have hn : near l spike i = false := by unfold near; simp [hs]
          have := J (near l spike i)
          rw [hn, hg] at this
          rw [hn]
          exact this
    · simp only [if_neg hi]
      have z0 : in64 0 := by unfold in64; decide
      have J0 := j2_f (x9 := i) (r0 := (rd_T32 l i).f0) (r4 := (rd_T32 l i).f4) (p0 := 0) (p3 := 0) (p4 := 0) h1 h2 g.2.1 g.2.2.1 g.2.2.2 z0 z0 (gd (rd_T32 l i)) false hK
      have hn : near l spike i = false := by unfold near; simp [hi]
      unfold bad
      rw [hn]
      simp only [decide_eq_false hi, Bool.false_and, Bool.or_false, Bool.false_or] at J0 ⊢
      exact J0
  cases any
  · simpa using key
  · simpa using key
/-- What Check answers. -/
def CheckA (l : List S32) (slots most spike : Int) (r : Int × Int) : Prop :=
  (∃ n : Int, 0 ≤ n ∧ n < l.length ∧ bad l slots most spike n = true ∧ (∀ j : Int, 0 ≤ j → j < n → bad l slots most spike j = false) ∧ r = (n, 3)) ∨
  ((∀ j : Int, 0 ≤ j → j < l.length → bad l slots most spike j = false) ∧ (∃ j : Int, 0 ≤ j ∧ j < l.length ∧ gd (rd_T32 l j) = true) ∧ r = (0, 0)) ∨
  ((∀ j : Int, 0 ≤ j → j < l.length → bad l slots most spike j = false) ∧ (∀ j : Int, 0 ≤ j → j < l.length → gd (rd_T32 l j) = false) ∧ r = ((l.length : Int), 3))
theorem check_l0 (hl : (l.length : Int) ≤ 140737488355328) (hr : ∀ y ∈ l, okS32 y) (h1 : in64 most) (h2 : in64 spike) :
    ∀ (d : Nat) (i : Int) (any : Bool), 0 ≤ i → (l.length : Int) - i = d → (∀ j : Int, 0 ≤ j → j < i → bad l slots most spike j = false) → (any = true → ∃ j : Int, 0 ≤ j ∧ j < i ∧ gd (rd_T32 l j) = true) → (any = false → ∀ j : Int, 0 ≤ j → j < i → gd (rd_T32 l j) = false) →
    ∃ r, Ev (fun k => vee_Check.l0 k most spike any l (l.length : Int) i c0 c1 c2 slots c4 c5 l) r ∧ CheckA l slots most spike r := by
  intro d
  induction d with
  | zero =>
    intro i any i0 hd hb ht hf
    have hi : i = l.length := by omega
    subst hi
    cases any
    · refine ⟨((l.length : Int), 3), Ev.shift ?_, .inr (.inr ⟨hb, hf rfl, rfl⟩)⟩
      simp only [vee_Check.l0, if_neg (show ¬ (l.length : Int) < l.length by omega), Bool.false_eq_true, if_false]
      exact Ev.now _
    · refine ⟨(0, 0), Ev.shift ?_, .inr (.inl ⟨hb, ht rfl, rfl⟩)⟩
      simp only [vee_Check.l0, if_neg (show ¬ (l.length : Int) < l.length by omega), if_true]
      exact Ev.now _
  | succ d ih =>
    intro i any i0 hd hb ht hf
    cases hbi : bad l slots most spike i
    · obtain ⟨r, hr1, hr2⟩ := ih (i + 1) (any || gd (rd_T32 l i)) (by omega) (by omega)
        (fun j j0 j1 => by
          by_cases h : j = i
          · subst h; exact hbi
          · exact hb j j0 (by omega))
        (fun h => by
          rcases Bool.or_eq_true_iff.1 h with h | h
          · obtain ⟨j, j0, j1, j2⟩ := ht h
            exact ⟨j, j0, by omega, j2⟩
          · exact ⟨i, i0, by omega, h⟩)
        (fun h j j0 j1 => by
          obtain ⟨ha, hg⟩ := Bool.or_eq_false_iff.1 h
          by_cases h : j = i
          · subst h; exact hg
          · exact hf ha j j0 (by omega))
      have := round_f (c0 := c0) (c1 := c1) (c2 := c2) (slots := slots) (c4 := c4) (c5 := c5) hl hr h1 h2 i0 (by clear ht; omega) any hr1
      rw [hbi] at this
      exact ⟨r, by simpa using this, hr2⟩
    · obtain ⟨r, hr1, hr2⟩ : ∃ r, Ev (fun k => vee_Check.l0 k most spike (any || gd (rd_T32 l i)) l (l.length : Int) (i + 1) c0 c1 c2 slots c4 c5 l) r ∧ True := by
        by_cases hi : i + 1 < l.length ∨ True
        · -- whatever follows: it ends
          have all : ∀ (e : Nat) (q : Int) (b : Bool), 0 ≤ q → q ≤ l.length → (l.length : Int) - q = e → ∃ r, Ev (fun k => vee_Check.l0 k most spike b l (l.length : Int) q c0 c1 c2 slots c4 c5 l) r := by
            intro e
            induction e with
            | zero =>
              intro q b q0 _ he
              refine ⟨if b = true then (0, 0) else ((l.length : Int), 3), Ev.shift ?_⟩
              simp only [vee_Check.l0, if_neg (show ¬ q < (l.length : Int) by clear ht; omega)]
              cases b <;> simp <;> exact Ev.now _
            | succ e ihe =>
              intro q b q0 q1 he
              obtain ⟨r, h⟩ := ihe (q + 1) (b || gd (rd_T32 l q)) (by omega) (by clear ht; omega) (by clear ht; omega)
              exact ⟨_, round_f hl hr h1 h2 q0 (by clear ht; omega) b h⟩
          obtain ⟨r, h⟩ := all d (i + 1) (any || gd (rd_T32 l i)) (by omega) (by clear ht; omega) (by clear ht; omega)
          exact ⟨r, h, trivial⟩
        · exact absurd (Or.inr trivial) hi
      have := round_f (c0 := c0) (c1 := c1) (c2 := c2) (slots := slots) (c4 := c4) (c5 := c5) hl hr h1 h2 i0 (by clear ht; omega) any hr1
      rw [hbi] at this
      exact ⟨(i, 3), by simpa using this, .inl ⟨i, i0, by clear ht; omega, hbi, hb, rfl⟩⟩
theorem check_f (hl : l.length * 40 ≤ 140737488351232) (hr : ∀ y ∈ l, okS32 y) (h1 : in64 most) (h2 : in64 spike) :
    ∃ r, Ev (fun k => vee_Check.f k c0 c1 c2 slots c4 c5 l most spike) r ∧ CheckA l slots most spike r := by
  unfold vee_Check.f
  exact check_l0 (by omega) hr h1 h2 l.length 0 false (by omega) (by omega) (fun j j0 j1 => by omega) (fun h => by cases h) (fun _ j j0 j1 => by omega)
theorem CheckA.unique {slots most spike : Int} {r q : Int × Int} (h : CheckA l slots most spike r) (k : CheckA l slots most spike q) : r = q := by
  rcases h with ⟨n, n0, n1, nb, nj, rfl⟩ | ⟨hb, ⟨j, j0, j1, jg⟩, rfl⟩ | ⟨hb, hg, rfl⟩ <;> rcases k with ⟨m, m0, m1, mb, mj, rfl⟩ | ⟨kb, ⟨i, i0, i1, ig⟩, rfl⟩ | ⟨kb, kg, rfl⟩
  · have : n = m := by
      rcases Int.lt_trichotomy n m with h | h | h
      · have := mj n n0 h; rw [nb] at this; cases this
      · exact h
      · have := nj m m0 h; rw [mb] at this; cases this
    rw [this]
  · have := kb n n0 n1; rw [nb] at this; cases this
  · have := kb n n0 n1; rw [nb] at this; cases this
  · have := hb m m0 m1; rw [mb] at this; cases this
  · rfl
  · have := kg j j0 j1; rw [jg] at this; cases this
  · have := hb m m0 m1; rw [mb] at this; cases this
  · have := hg i i0 i1; rw [ig] at this; cases this
  · rfl
theorem copy_f (hl : l.length * 40 ≤ 140737488351232) : pylonlaw10_copyFile.f c0 c1 c2 slots c4 c5 l = some (c0, c1, c2, slots, c4, c5, l) := by
  unfold pylonlaw10_copyFile.f
  simp only [Option.bind_some, List.nil_append, List.length_nil]
  rw [if_pos (by omega)]
end
end Go.Proofs.Ytbjkjakilpifhaa.PureC
