/- VeeChecks holds: the first read that is wrong; whatever the input, the law answers true. -/
import Derived.Test.YtbjkjakilpifhaaVeeRC
import Derived.Test.YtbjkjakilpifhaaPCx5
set_option linter.unusedVariables false
set_option linter.unusedSimpArgs false
namespace Go.Proofs.Ytbjkjakilpifhaa.Pure
open Go.RowKit Go.Proofs.Ytbjkjakilpifhaa.PC Go.Proofs.Ytbjkjakilpifhaa.Num Go.Proofs.Ytbjkjakilpifhaa.PureC Go.Proofs.YtbjkjakilpifhaaW.PrintWords Go.Proofs.YtbjkjakilpifhaaW.PrintLast Go.Proofs.YtbjkjakilpifhaaW.PrintMore
theorem checks_l0 {l : List S32} {c0 : ByteArray} {c1 c2 c3 c4 c5 n e : Int} (hl : (l.length : Int) ≤ 140737488355328) :
    ∀ (d : Nat) (i : Int), 0 ≤ i → (l.length : Int) - i = d → Ev (fun k => pylonlaw10_VeeChecks.l0 k n e n e (l.length : Int) i c0 c1 c2 c3 c4 c5 l) true := by
  intro d
  induction d with
  | zero =>
    intro i i0 hd
    refine Ev.shift ?_
    simp only [pylonlaw10_VeeChecks.l0, if_neg (show ¬ i < (l.length : Int) by omega), if_true, beq_self_eq_true]
    exact Ev.now _
  | succ d ih =>
    intro i i0 hd
    have ei : wrap64 (i + 1) = i + 1 := i64in (by omega) (by omega)
    refine Ev.shift ?_
    simp only [pylonlaw10_VeeChecks.l0, if_pos (show i < (l.length : Int) by omega), if_pos i0, good_f, refgood_f, Option.bind_some, ei]
    have : gd (rd_T32 l i) = ((rd_T32 l i).f4 == 65 || (rd_T32 l i).f4 == 69) := rfl
    rw [← this, beq_self_eq_true]
    simp only [Bool.not_true, Bool.false_eq_true, if_false]
    exact ih (i + 1) (by omega) (by omega)
theorem VeeChecks : pylonlaw10_VeeChecks.Pure := by
  intro c0 c1 c2 slots c4 c5 l most spike _ _ _ _ _ _ hl hm hs
  refine ev_ex (r := true) ?_
  obtain ⟨hl, hr⟩ := hl
  obtain ⟨r, e1, hA⟩ := check_f (c0 := c0) (c1 := c1) (c2 := c2) (slots := slots) (c4 := c4) (c5 := c5) hl hr (wf64 hm) (wf64 hs)
  have e2 := refcheck_f (c0 := c0) (c1 := c1) (c2 := c2) (c4 := c4) (c5 := c5) hl hr (wf64 hm) (wf64 hs) hA
  unfold pylonlaw10_VeeChecks.f
  refine ev_bind awake_ev ?_
  simp only [if_true]
  refine ev_bind e2 ?_
  simp only [copy_f hl, Option.bind_some]
  refine ev_bind e1 ?_
  exact checks_l0 (by omega) l.length 0 (by omega) (by omega)
end Go.Proofs.Ytbjkjakilpifhaa.Pure
