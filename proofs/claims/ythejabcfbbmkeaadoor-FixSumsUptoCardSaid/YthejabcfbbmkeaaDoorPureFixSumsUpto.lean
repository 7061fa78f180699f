/- FixSums holds: the sum of two lists together is the sum of their sums, where these are int64; the order never shows; for lists of bulk at most 1048576 together. -/
import Derived.Test.YthejabcfbbmkeaaDoorFixAF
import Derived.Test.YthejabcfbbmkeaaDoorPFx4
set_option linter.unusedVariables false
namespace Go.Proofs.YthejabcfbbmkeaaDoor.Pure
open Go.RowKit Go.Proofs.YthejabcfbbmkeaaDoor.PF Go.Proofs.YthejabcfbbmkeaaDoor.Num Go.Proofs.YthejabcfbbmkeaaDoor.PureF Go.Proofs.YthejabcfbbmkeaaDoorW.PrintWords Go.Proofs.YthejabcfbbmkeaaDoorW.PrintLast Go.Proofs.YthejabcfbbmkeaaDoorW.PrintMore
theorem sums_j1 {A B : Int} : Ev (fun k => pylonlaw01_FixSums.j1 k (fits A).1 (fits A).2 (fits B).1 (fits B).2 (fits (A + B)).1 (fits (A + B)).2 false) true := by
  refine Ev.shift ?_
  simp only [pylonlaw01_FixSums.j1, Bool.false_eq_true, if_false]
  by_cases a : -9223372036854775808 ≤ A ∧ A ≤ 9223372036854775807
  · rw [show fits A = (A, 0) by unfold fits; rw [if_pos a]]
    by_cases b : -9223372036854775808 ≤ B ∧ B ≤ 9223372036854775807
    · rw [show fits B = (B, 0) by unfold fits; rw [if_pos b]]
      simp only [if_true, add_f a.1 a.2 b.1 b.2, Option.bind_some, beq_self_eq_true]
      exact Ev.now _
    · rw [show fits B = (0, 5) by unfold fits; rw [if_neg b]]
      simp only [if_true, if_neg (show ¬ (5 : Int) = 0 by omega)]
      exact Ev.now _
  · rw [show fits A = (0, 5) by unfold fits; rw [if_neg a]]
    simp only [if_true, if_neg (show ¬ (5 : Int) = 0 by omega)]
    by_cases b : -9223372036854775808 ≤ B ∧ B ≤ 9223372036854775807
    · rw [show fits B = (B, 0) by unfold fits; rw [if_pos b]]
      simp only [if_true]; exact Ev.now _
    · rw [show fits B = (0, 5) by unfold fits; rw [if_neg b]]
      simp only [if_true, if_neg (show ¬ (5 : Int) = 0 by omega)]; exact Ev.now _
theorem sums_l0 {l m : List Int} (hl : (l.length : Int) ≤ 17592186044416) (hm : (m.length : Int) ≤ 17592186044416 - 1) (hs : (l.length : Int) + m.length < 17592186044416) (wl : wfL1 l) (wm : wfL1 m) : ∀ (d : Nat) (x : List Int) (i : Int), i = (d : Int) - 1 → d ≤ l.length → x.length = m.length + (l.length - d) → wfL1 x → x.sum + (l.take d).sum = m.sum + l.sum →
    Ev (fun k => pylonlaw01_FixSums.l0 k l (fits l.sum).1 (fits l.sum).2 (fits m.sum).1 (fits m.sum).2 (l ++ m) x i) true
  | 0, x, i, hi, hd, hx, wx, he => by
    refine Ev.shift ?_
    simp only [pylonlaw01_FixSums.l0, if_neg (show ¬ i ≥ 0 by omega)]
    have w2 : wfL1 (l ++ m) := fun y hy => (List.mem_append.1 hy).elim (wl y) (wm y)
    refine Ev.bind (sum_f (l := l ++ m) (by simp; omega) w2) ?_
    refine Ev.bind (sum_f (l := x) (by omega) wx) ?_
    have e1 : (l ++ m).sum = l.sum + m.sum := by simp
    have e2 : x.sum = l.sum + m.sum := by simp at he; omega
    rw [e1, e2]
    simp only [if_true, bne_self_eq_false]
    exact sums_j1
  | d + 1, x, i, hi, hd, hx, wx, he => by
    have hlt : i < (l.length : Int) := by omega
    have hdl : d < l.length := by omega
    refine Ev.shift ?_
    simp only [pylonlaw01_FixSums.l0, if_pos (show i ≥ 0 by omega), if_pos hlt, if_pos (show x.length < 17592186044416 by omega), i64in (x := i - 1) (by omega) (by omega)]
    have hr : rd l i = l[d] := by
      unfold rd
      rw [show i.toNat = d by omega, List.getD_eq_getElem?_getD, List.getElem?_eq_getElem hdl]; rfl
    refine sums_l0 hl hm hs wl wm d (x ++ [rd l i]) (i - 1) (by omega) (by omega) (by simp; omega) ?_ ?_
    · intro y hy
      rcases List.mem_append.1 hy with hy | hy
      · exact wx y hy
      · simp only [List.mem_singleton] at hy; subst hy; rw [hr]; exact wl _ (List.getElem_mem hdl)
    · rw [List.take_succ_eq_append_getElem hdl] at he
      simp only [List.sum_append, List.sum_cons, List.sum_nil, hr] at he ⊢
      omega
theorem FixSumsUpto (l m : List Int) (hl : l.length * 8 ≤ 140737488351232 ∧ ∀ y_ ∈ l, (Lit.int .i64 y_).wf = true) (hm : m.length * 8 ≤ 140737488351232 ∧ ∀ y_ ∈ m, (Lit.int .i64 y_).wf = true) (hB : l.length + m.length ≤ 1048576) : ∃ k, pylonlaw01_FixSums.f k l m = some true := by
  have wl : wfL1 l := fun y hy => wf64 (hl.2 y hy)
  have wm : wfL1 m := fun y hy => wf64 (hm.2 y hy)
  refine Ev.rounds (g := fun k => pylonlaw01_FixSums.f k l m) ?_
  unfold pylonlaw01_FixSums.f
  refine Ev.bind awake_ev ?_
  simp only [if_true]
  refine Ev.bind (sum_f (l := l) (by omega) wl) ?_
  refine Ev.bind (sum_f (l := m) (by omega) wm) ?_
  simp only [Option.bind_some, List.nil_append, List.length_nil, if_pos (show 0 + l.length < 17592186044416 by omega), if_pos (show 0 + m.length < 17592186044416 by omega), if_pos (show l.length + m.length < 17592186044416 by omega)]
  rw [i64in (x := (l.length : Int) - 1) (by omega) (by omega)]
  exact sums_l0 (by omega) (by omega) (by omega) wl wm l.length m ((l.length : Int) - 1) rfl (Nat.le_refl _) (by omega) wm (by simp)
end Go.Proofs.YthejabcfbbmkeaaDoor.Pure
