/- VeeFirst holds: a read is asked with the ones ahead of it alone; whatever the input, the law answers true and its arguments read as before. -/
import Derived.Test.YtbjkjakilpifhaaVeeV
import Derived.Test.YtbjkjakilpifhaaPVx4
set_option linter.unusedVariables false
namespace Go.Proofs.Ytbjkjakilpifhaa.Pure
open Go.RowKit Go.Proofs.Ytbjkjakilpifhaa.PV Go.Proofs.Ytbjkjakilpifhaa.Num Go.Proofs.Ytbjkjakilpifhaa.PureV Go.Proofs.YtbjkjakilpifhaaW.PrintWords Go.Proofs.YtbjkjakilpifhaaW.PrintLast Go.Proofs.YtbjkjakilpifhaaW.PrintMore
theorem rd_take {l : List S32} {n : Nat} {i : Int} (h : i.toNat < n) : rd_T32 (l.take n) i = rd_T32 l i := by
  unfold rd_T32
  rw [List.getD_eq_getElem?_getD, List.getD_eq_getElem?_getD, List.getElem?_take_of_lt h]
theorem bad_take {l : List S32} {n : Nat} {slots m s i : Int} (i0 : 0 ≤ i) (h : i.toNat < n) : bad (l.take n) slots m s i = bad l slots m s i := by
  unfold bad near
  rw [rd_take h, rd_take (show (i - 1).toNat < n by omega)]
/-- The law's own loop: is one of the reads ahead good? -/
theorem first_l0 {l : List S32} {c0 : ByteArray} {c1 c2 c3 c4 c5 n m d' : Int} (hl : (l.length : Int) ≤ 140737488355328) (hn : n ≤ l.length)
    (hfin : ∀ g : Bool, (g = true ↔ ∃ j : Int, 0 ≤ j ∧ j < n ∧ gd (rd_T32 l j) = true) → (if g = true then (if d' = 0 then (if m = 0 then (some (decide (n < (l.length : Int)))) else (some false)) else (some false)) else (if d' = 3 then (some (m == n)) else (some false))) = some true) :
    ∀ (d : Nat) (i : Int) (g : Bool), 0 ≤ i → n - i = d → (g = true ↔ ∃ j : Int, 0 ≤ j ∧ j < i ∧ gd (rd_T32 l j) = true) →
    Ev (fun k => pylonlaw10_VeeFirst.l0 k n m d' g n i c0 c1 c2 c3 c4 c5 l) true := by
  intro d
  induction d with
  | zero =>
    intro i g i0 hd hg
    have hi : i = n := by clear hg hfin; omega
    subst hi
    refine Ev.shift ?_
    simp only [pylonlaw10_VeeFirst.l0, if_neg (show ¬ i < i by omega)]
    exact Ev.ofEq (hfin g hg)
  | succ d ih =>
    intro i g i0 hd hg
    have ei : wrap64 (i + 1) = i + 1 := by clear hg hfin; exact i64in (by omega) (by omega)
    have hin : i < n := by clear hg hfin; omega
    have hil : i < l.length := by clear hg hfin; omega
    have hd2 : n - (i + 1) = d := by clear hg hfin; omega
    refine Ev.shift ?_
    simp only [pylonlaw10_VeeFirst.l0, if_pos hin]
    cases g
    · simp only [Bool.false_eq_true, if_false, if_pos i0, if_pos hil, good_f, Option.bind_some, ei]
      refine ih (i + 1) _ (by omega) hd2 ⟨fun h => ⟨i, i0, by omega, h⟩, ?_⟩
      rintro ⟨j, j0, j1, jg⟩
      by_cases h : j = i
      · subst h; exact jg
      · exact absurd (hg.2 ⟨j, j0, by omega, jg⟩) (by simp)
    · simp only [if_true, ei]
      refine ih (i + 1) true (by omega) hd2 ⟨fun _ => ?_, fun _ => rfl⟩
      obtain ⟨j, j0, j1, jg⟩ := hg.1 rfl
      exact ⟨j, j0, by omega, jg⟩
theorem VeeFirst : pylonlaw10_VeeFirst.Pure := by
  intro c0 c1 c2 slots c4 c5 l most spike _ _ _ _ _ _ hl hm hs
  refine Ev.rounds (g := fun k => pylonlaw10_VeeFirst.f k c0 c1 c2 slots c4 c5 l most spike) ?_
  have m64 : in64 most := wf64 hm
  have s64 : in64 spike := wf64 hs
  obtain ⟨hl, hr⟩ := hl
  obtain ⟨⟨n, e⟩, hr1, hA⟩ := check_f (c0 := c0) (c1 := c1) (c2 := c2) (slots := slots) (c4 := c4) (c5 := c5) hl hr m64 s64
  unfold pylonlaw10_VeeFirst.f
  refine Ev.bind awake_ev ?_
  simp only [if_true, copy_f hl, Option.bind_some]
  refine Ev.bind hr1 ?_
  -- the error's ways
  have err : ∀ n : Int, 0 ≤ n → n ≤ l.length → (∀ j : Int, 0 ≤ j → j < n → bad l slots most spike j = false) → (n = l.length → ∀ j : Int, 0 ≤ j → j < l.length → gd (rd_T32 l j) = false) →
      Ev (fun k => pylonlaw10_VeeFirst.j0 k most spike n false c0 c1 c2 slots c4 c5 l) true := by
    intro n n0 n1 hb hg
    have hlen : (l.take n.toNat).length = n.toNat := by rw [List.length_take]; omega
    obtain ⟨r2, hr2, hA2⟩ := check_f (c0 := c0) (c1 := c1) (c2 := c2) (slots := slots) (c4 := c4) (c5 := c5) (l := l.take n.toNat) (most := most) (spike := spike) (by rw [hlen]; omega) (fun y hy => hr y (List.mem_of_mem_take hy)) m64 s64
    have hb2 : ∀ j : Int, 0 ≤ j → j < (l.take n.toNat).length → bad (l.take n.toNat) slots most spike j = false := fun j j0 j1 => by
      rw [hlen] at j1
      rw [bad_take j0 (by omega)]
      exact hb j j0 (by omega)
    refine Ev.shift ?_
    simp only [pylonlaw10_VeeFirst.j0, Bool.false_eq_true, if_false, copy_f hl, Option.bind_some, if_pos n0, if_pos n1]
    refine Ev.bind hr2 ?_
    refine first_l0 (d' := r2.2) (m := r2.1) (by omega) n1 ?_ n.toNat 0 false (by omega) (by omega) ⟨fun h => (by cases h), fun ⟨j, j0, j1, _⟩ => (by omega)⟩
    have hz : ((n.toNat : Nat) : Int) = n := by omega
    intro g hgg
    cases hc : g
    · -- none is good
      have hnone : ∀ j : Int, 0 ≤ j → j < (l.take n.toNat).length → gd (rd_T32 (l.take n.toNat) j) = false := fun j j0 j1 => by
        rw [hlen] at j1
        rw [rd_take (by omega)]
        cases h : gd (rd_T32 l j)
        · rfl
        · have := hgg.2 ⟨j, j0, by omega, h⟩
          rw [hc] at this
          cases this
      have := hA2.unique (.inr (.inr ⟨hb2, hnone, rfl⟩))
      rw [this, hlen, hz]
      simp
    · obtain ⟨j, j0, j1, jg⟩ := hgg.1 hc
      have := hA2.unique (.inr (.inl ⟨hb2, ⟨j, j0, by rw [hlen, hz]; exact j1, by rw [rd_take (by clear hgg; omega)]; exact jg⟩, rfl⟩))
      rw [this]
      clear hc
      have hne : n ≠ l.length := fun h => by
        have := hg h j j0 (by clear hgg; omega)
        rw [jg] at this
        cases this
      clear hgg
      simp
      omega
  rcases hA with ⟨n', n0, n1, nb, nj, he⟩ | ⟨hb, hg, he⟩ | ⟨hb, hg, he⟩
  · injection he with h1 h2
    subst h1 h2
    simp only [show ¬ (3 : Int) = 0 by omega, if_false, if_true, if_neg (show ¬ n < 0 by omega), decide_eq_false (show ¬ n > (l.length : Int) by omega)]
    exact err n n0 (by omega) nj (fun h => by omega)
  · injection he with h1 h2
    subst h1 h2
    simp only [if_true]
    exact Ev.now _
  · injection he with h1 h2
    subst h1 h2
    simp only [show ¬ (3 : Int) = 0 by omega, if_false, if_true, if_neg (show ¬ (l.length : Int) < 0 by omega), decide_eq_false (show ¬ (l.length : Int) > (l.length : Int) by omega)]
    exact err _ (by omega) (by omega) hb (fun _ => hg)
end Go.Proofs.Ytbjkjakilpifhaa.Pure
