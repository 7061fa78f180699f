/- BlockParts holds: the parts add up, and a step that isn't full has none behind it; whatever the input, the law answers true and its arguments read as before. -/
import Derived.Test.YthejabcfbbmkeaaBlockB
import Derived.Test.YthejabcfbbmkeaaPBx9
set_option linter.unusedVariables false
namespace Go.Proofs.Ythejabcfbbmkeaa.Pure
open Go.RowKit Go.Proofs.Ythejabcfbbmkeaa.PB Go.Proofs.Ythejabcfbbmkeaa.Num Go.Proofs.Ythejabcfbbmkeaa.PureB Go.Proofs.YthejabcfbbmkeaaW.PrintWords Go.Proofs.YthejabcfbbmkeaaW.PrintLast Go.Proofs.YthejabcfbbmkeaaW.PrintMore
theorem blockparts_l0 : ∀ (t p : List S35) (pp : List Int) {l : List S35} {ps : List Int} {wh b sum i : Int}, l = p ++ t → ps = pp ++ pR wh b t → i = p.length → pp.length = p.length → (l.length : Int) ≤ 64 → gB b t = true → 0 ≤ b → b ≤ 500000000000000 → 0 ≤ wh → wh ≤ 500000000000000 → sum = mn wh b →
    Ev (fun k => pylonlaw17_BlockParts.l0 k l wh ps b sum (l.length : Int) i) true
  | [], _, _, _, _, _, _, _, _, _, _, _, _, _, h, _, _, _, _, _ => by simp [gB] at h
  | s :: t, p, pp, l, ps, wh, b, sum, i, hl, hp, hi, hpp, hn, hg, hb, hbm, hw, hwm, hs => by
    have hlt : i < (l.length : Int) := by subst hl; simp; omega
    have hrd : rd_T35 l i = s := by subst hl; exact rdT_mid hi
    have hlt2 : i < (ps.length : Int) := by subst hp; simp [pR_length]; omega
    have ei : wrap64 (i + 1) = i + 1 := i64in (by omega) (by omega)
    have el : wrap64 ((l.length : Int) - 1) = (l.length : Int) - 1 := i64in (by omega) (by omega)
    have es : wrap64 (wh - sum) = wh - sum := by rw [hs]; unfold mn; split <;> exact i64in (by omega) (by omega)
    have fin : ∀ x : Bool, x = false → Ev (fun k => pylonlaw17_BlockParts.j2 k l wh ps b sum i (l.length : Int) i x) true := by
      intro x hx
      subst hx
      refine Ev.shift ?_
      simp only [pylonlaw17_BlockParts.j2, Bool.false_eq_true, if_false, if_pos (show 0 ≤ i by omega), if_pos hlt, if_pos hlt2, ei, el]
      cases t with
      | nil =>
        have hr : rd ps i = mx 0 (mn wh 500000000000000 - b) := by subst hp; exact rd_mid (by omega)
        have e : ¬ i < (l.length : Int) - 1 := by subst hl; simp; omega
        have ee : i + 1 = (l.length : Int) := by subst hl; simp; omega
        simp only [if_neg e, hr]
        have e2 : wrap64 (sum + mx 0 (mn wh 500000000000000 - b)) = wh := by
          rw [hs, i64in (by unfold mx mn; (repeat' split) <;> omega) (by unfold mx mn; (repeat' split) <;> omega)]
          unfold mx mn; (repeat' split) <;> omega
        rw [e2]
        refine Ev.shift ?_
        simp only [pylonlaw17_BlockParts.l0, if_neg (show ¬ i + 1 < (l.length : Int) by omega), beq_self_eq_true]
        exact Ev.now _
      | cons r t =>
        have hr : rd ps i = mx 0 (mn wh s.f0 - b) := by subst hp; exact rd_mid (by omega)
        have e : i < (l.length : Int) - 1 := by subst hl; simp; omega
        simp only [gB, Bool.and_eq_true, decide_eq_true_eq] at hg
        obtain ⟨_, hg1, hg2, hg3⟩ := hg
        have eu : wrap64 (s.f0 - b) = s.f0 - b := i64in (by omega) (by omega)
        have e2 : wrap64 (sum + mx 0 (mn wh s.f0 - b)) = mn wh s.f0 := by
          rw [hs, i64in (by unfold mx mn; (repeat' split) <;> omega) (by unfold mx mn; (repeat' split) <;> omega)]
          unfold mx mn; (repeat' split) <;> omega
        have IH := blockparts_l0 (r :: t) (p ++ [s]) (pp ++ [mx 0 (mn wh s.f0 - b)]) (l := l) (ps := ps) (wh := wh) (b := s.f0) (sum := mn wh s.f0) (i := i + 1) (by subst hl; simp) (by subst hp; simp [pR]) (by simp; omega) (by simp; omega) hn hg3 (by omega) hg2 hw hwm rfl
        simp only [if_pos e, hrd, hr, eu, e2]
        simp only [if_neg (show ¬ mx 0 (mn wh s.f0 - b) > s.f0 - b by unfold mx mn; (repeat' split) <;> omega)]
        by_cases h : mx 0 (mn wh s.f0 - b) < s.f0 - b
        · simp only [if_pos h]
          have : mn wh s.f0 = wh := by revert h; unfold mx mn; (repeat' split) <;> omega
          simp only [if_pos this]
          exact IH
        · simp only [if_neg h]
          exact IH
    have hr0 : 0 ≤ rd ps i ∧ rd ps i ≤ wh - sum := by
      cases t with
      | nil =>
        have hr : rd ps i = mx 0 (mn wh 500000000000000 - b) := by subst hp; exact rd_mid (by omega)
        rw [hr, hs]; unfold mx mn; (repeat' split) <;> omega
      | cons r t =>
        have hr : rd ps i = mx 0 (mn wh s.f0 - b) := by subst hp; exact rd_mid (by omega)
        rw [hr, hs]; unfold mx mn; (repeat' split) <;> omega
    refine Ev.shift ?_
    simp only [pylonlaw17_BlockParts.l0, if_pos hlt, if_pos (show 0 ≤ i by omega), if_pos hlt2, es]
    simp only [if_neg (show ¬ rd ps i < 0 by omega), decide_eq_false (show ¬ rd ps i > wh - sum by omega)]
    exact fin _ rfl
theorem BlockParts : pylonlaw17_BlockParts.Pure := by
  intro l wh hl hw
  have w := wf64 hw
  have hn : (l.length : Int) ≤ 140737488355328 := by have := hl.1; omega
  refine Ev.rounds (g := fun k => pylonlaw17_BlockParts.f k l wh) ?_
  unfold pylonlaw17_BlockParts.f
  refine Ev.bind awake_ev ?_
  obtain ⟨e, he, e0, e1⟩ := energy_f w.1 w.2
  simp only [if_true, he, Option.bind_some, List.nil_append, List.length_nil, if_pos (show 0 + l.length < 8796093022208 by have := hl.1; omega)]
  refine Ev.bind (parts_f hn (by omega) (by omega)) ?_
  refine Ev.bind (refgood_f hn) ?_
  unfold partsA
  cases hg : goodL l
  · simp only [Bool.false_eq_true, if_false, if_true]
    exact Ev.now _
  · simp only [if_true, if_pos (show 0 ≤ e ∧ e ≤ 500000000000000 by omega), pR_length]
    unfold goodL at hg; simp only [Bool.and_eq_true, decide_eq_true_eq] at hg
    refine Ev.shift ?_
    simp only [pylonlaw17_BlockParts.j0, bne_self_eq_false, Bool.false_eq_true, if_false]
    exact blockparts_l0 l [] [] (l := l) (ps := pR e 0 l) (wh := e) (b := 0) (sum := 0) (i := 0) rfl rfl rfl rfl hg.1 hg.2 (by omega) (by omega) e0 e1 (by unfold mn; split <;> omega)
end Go.Proofs.Ythejabcfbbmkeaa.Pure
