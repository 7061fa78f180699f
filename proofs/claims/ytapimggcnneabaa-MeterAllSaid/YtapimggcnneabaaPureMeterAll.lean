/- MeterAll holds: every call, in every order. -/
import Derived.Test.YtapimggcnneabaaMeterRRMA
import Derived.Test.YtapimggcnneabaaMeterWMA
import Derived.Test.YtapimggcnneabaaPMAx2
import Derived.Test.YtapimggcnneabaaPMAx4
import Derived.Test.YtapimggcnneabaaPMAx5
set_option linter.unusedVariables false
set_option linter.unusedSimpArgs false
namespace Go.Proofs.Ytapimggcnneabaa.Pure
open Go.RowKit Go.Proofs.Ytapimggcnneabaa.PMA Go.Proofs.Ytapimggcnneabaa.PureMA Go.Proofs.Ytapimggcnneabaa.Num Go.Proofs.YtapimggcnneabaaW.PrintWords Go.Proofs.YtapimggcnneabaaW.PrintLast Go.Proofs.YtapimggcnneabaaW.PrintMore
abbrev Ans := Bool × Cx × Int × Int × Int × List Cx × Int
/-- Two answers agree. -/
def Agree (x w : Ans) : Prop := x.1 = w.1 ∧ ceq x.2.1.re x.2.1.im w.2.1.re w.2.1.im = true ∧ x.2.2.1 = w.2.2.1 ∧ x.2.2.2.1 = w.2.2.2.1 ∧ x.2.2.2.2.1 = w.2.2.2.2.1 ∧ x.2.2.2.2.2.2 = w.2.2.2.2.2.2 ∧ Ev (fun k => pylonref12_SameSeries.f k x.2.2.2.2.2.1 w.2.2.2.2.2.1) true
theorem zz : ceq 0 0 0 0 = true := by decide +kernel
theorem same_nil : Ev (fun k => pylonref12_SameSeries.f k ([] : List Cx) []) true := same_f (by simp) (fun z hz => by cases hz)
theorem agree {o : S73} (ho : okS73 o) : ∃ x w, Ev (fun k => pylonlaw12_plays.f k o.f0 o.f1.f0 o.f1.f1 o.f2.f0 o.f2.f1 o.f2.f2 o.f2.f3 o.f2.f4 o.f3 o.f4 o.f5 o.f6) x ∧ Ev (fun k => pylonlaw12_wants.f k o.f0 o.f1.f0 o.f1.f1 o.f2.f0 o.f2.f1 o.f2.f2 o.f2.f3 o.f2.f4 o.f3 o.f4 o.f5 o.f6) w ∧ Agree x w := by
  obtain ⟨_, hz, _, _, _, hs, hn⟩ := ho
  have hbz : Bits (cx o.f1.f0 o.f1.f1) := bits_conv (l := [o.f1]) (fun y hy => by rw [List.mem_singleton.mp hy]; exact hz) _ (List.mem_singleton.mpr rfl)
  have hbn := bits_conv hn.2
  have hN := numbers_f (l := o.f6) (by omega) (by omega)
  unfold pylonlaw12_plays.f pylonlaw12_wants.f
  by_cases k1 : o.f0 = 1
  · simp only [if_pos k1, pylonlaw12_Z_c.f, Option.bind_some]
    by_cases g : Go.Proofs.Ytapimggcnneabaa.PureMA.Good (cx o.f1.f0 o.f1.f1)
    · have s := g.small
      rw [fits_yes hbz.1 hbz.2 s, rfits_yes s]
      exact ⟨_, _, Ev.now _, Ev.now _, rfl, zz, rfl, rfl, rfl, rfl, same_nil⟩
    · obtain ⟨a, b, e⟩ := rfits_no g
      rw [fits_no hbz.1 hbz.2 g, e]
      exact ⟨_, _, Ev.now _, Ev.now _, rfl, zz, rfl, rfl, rfl, rfl, same_nil⟩
  simp only [if_neg k1]
  by_cases k2 : o.f0 = 2
  · simp only [if_pos k2]
    have p := pt_f o.f3 o.f4 o.f2
    have r := rpoint_f o.f2.f0 o.f2.f1 o.f2.f2 o.f2.f3 o.f2.f4 o.f3 o.f4
    refine ⟨_, _, ev_bind (Ev.shift (Ev.ofEqK (fun k => p k _ _))) (Ev.now _), ev_bind r (Ev.now _), ?_⟩
    by_cases h : OkP o.f2.f1 o.f2.f2 o.f2.f3 o.f3 o.f4
    · rw [if_pos h]
      exact ⟨rfl, pt_rp h, rfl, rfl, rfl, (pt_ok h).1, same_nil⟩
    · rw [if_neg h, pt_no (r := o.f2) h]
      exact ⟨rfl, zz, rfl, rfl, rfl, rfl, same_nil⟩
  simp only [if_neg k2]
  by_cases k3 : o.f0 = 3
  · simp only [if_pos k3]
    refine ⟨_, _, ev_bind (series_f o.f3 o.f4 o.f5) (Ev.now _), ev_bind (rseries_f o.f3 o.f4 o.f5) (Ev.now _), rfl, zz, rfl, rfl, rfl, err_same _ _ _, sameA _ _ _⟩
  simp only [if_neg k3]
  by_cases k4 : o.f0 = 4
  · simp only [if_pos k4, pylonlaw12_Z_c.f, Option.bind_some]
    by_cases g : Go.Proofs.Ytapimggcnneabaa.PureMA.Good (cx o.f1.f0 o.f1.f1)
    · rw [split_yes hbz g, rsplit_yes g]
      exact ⟨_, _, Ev.now _, Ev.now _, rfl, zz, rfl, rfl, rfl, rfl, same_nil⟩
    · rw [split_no hbz g, rsplit_no g]
      exact ⟨_, _, Ev.now _, Ev.now _, rfl, zz, rfl, rfl, rfl, rfl, same_nil⟩
  simp only [if_neg k4]
  by_cases k5 : o.f0 = 5
  · simp only [if_pos k5]
    obtain ⟨z, w, e1, e2, e3⟩ := totals hbn
    exact ⟨_, _, ev_bind hN (ev_bind e1 (Ev.now _)), ev_bind hN (ev_bind e2 (Ev.now _)), rfl, e3, rfl, rfl, rfl, rfl, same_nil⟩
  simp only [if_neg k5]
  by_cases k6 : o.f0 = 6
  · simp only [if_pos k6]
    exact ⟨_, _, ev_bind hN (ev_bind (energy_f hbn) (Ev.now _)), ev_bind hN (ev_bind (renergy_f _) (Ev.now _)), rfl, zz, rfl, rfl, rfl, rfl, same_nil⟩
  simp only [if_neg k6]
  exact ⟨_, _, Ev.now _, Ev.now _, rfl, zz, rfl, rfl, rfl, rfl, same_nil⟩
theorem drop73 {l : List S73} {i : Int} (h0 : 0 ≤ i) (h1 : i < (l.length : Int)) : rd_T73 l i ∈ l := by
  unfold rd_T73
  rw [List.getD_eq_getElem?_getD, List.getElem?_eq_getElem (show i.toNat < l.length by omega)]
  exact List.getElem_mem _
theorem all_l0 {l : List S73} (hl : (l.length : Int) ≤ 140737488355328) (ho : ∀ y ∈ l, okS73 y) : ∀ (d : Nat) (i : Int), 0 ≤ i → (l.length : Int) - i = d → Ev (fun k => pylonlaw12_MeterAll.l0 k l (l.length : Int) i) true := by
  intro d
  induction d with
  | zero =>
    intro i i0 hd
    refine Ev.shift ?_
    simp only [pylonlaw12_MeterAll.l0, if_neg (show ¬ i < (l.length : Int) by omega)]
    exact Ev.now _
  | succ d ih =>
    intro i i0 hd
    have hi : i < (l.length : Int) := by omega
    have ei : wrap64 (i + 1) = i + 1 := i64in (by omega) (by omega)
    obtain ⟨x, w, hx, hw, a1, a2, a3, a4, a5, a6, a7⟩ := agree (ho _ (drop73 i0 hi))
    have nx := ih (i + 1) (by omega) (by omega)
    refine Ev.shift ?_
    simp only [pylonlaw12_MeterAll.l0, if_pos hi, if_pos i0]
    refine ev_bind hx (ev_bind hw ?_)
    simp only [a1, beq_self_eq_true, Bool.not_true, Bool.false_eq_true, if_false, if_pos a2, if_pos a3, if_pos a4, if_pos a5, if_pos a6]
    refine ev_bind a7 ?_
    refine Ev.shift ?_
    simp only [pylonlaw12_MeterAll.j1, Bool.not_true, Bool.false_eq_true, if_false, ei]
    exact nx
theorem MeterAll : pylonlaw12_MeterAll.Pure := by
  intro l hl
  refine ev_ex (r := true) ?_
  unfold pylonlaw12_MeterAll.f
  refine ev_bind awake_ev ?_
  simp only [if_true]
  exact all_l0 (by have := hl.1; omega) hl.2 l.length 0 (by omega) (by omega)
end Go.Proofs.Ytapimggcnneabaa.Pure
