/- RatchetKeeps holds: Billed leaves what is handed in as it is, spare room too; whatever the input, the law answers true and its arguments read as before. -/
import Derived.Test.YtbjkjakilpifhaaRatR
import Derived.Test.YtbjkjakilpifhaaPRx9
set_option linter.unusedVariables false
namespace Go.Proofs.Ytbjkjakilpifhaa.Pure
open Go.RowKit Go.Proofs.Ytbjkjakilpifhaa.PR Go.Proofs.Ytbjkjakilpifhaa.Num Go.Proofs.Ytbjkjakilpifhaa.PureR Go.Proofs.YtbjkjakilpifhaaW.PrintWords Go.Proofs.YtbjkjakilpifhaaW.PrintLast Go.Proofs.YtbjkjakilpifhaaW.PrintMore
theorem same_l0 (l : List Int) (hl : (l.length : Int) ≤ 140737488355328) : ∀ (d : Nat) (i : Int), 0 ≤ i → (l.length : Int) - i = d → Ev (fun k => pylonref01_SameNumbers.l0 k l l (l.length : Int) i) true := by
  intro d
  induction d with
  | zero =>
    intro i i0 hd
    refine Ev.shift ?_
    simp only [pylonref01_SameNumbers.l0, if_neg (show ¬ i < (l.length : Int) by omega)]
    exact Ev.now _
  | succ d ih =>
    intro i i0 hd
    refine Ev.shift ?_
    simp only [pylonref01_SameNumbers.l0, if_pos (show i < (l.length : Int) by omega), if_pos i0, if_true]
    rw [i64in (x := i + 1) (by omega) (by omega)]
    exact ih (i + 1) (by omega) (by omega)
theorem same_f (l : List Int) (hl : (l.length : Int) ≤ 140737488355328) : Ev (fun k => pylonref01_SameNumbers.f k l l) true := by
  unfold pylonref01_SameNumbers.f
  simp only [if_true]
  exact same_l0 l hl l.length 0 (by omega) (by omega)
theorem RatchetKeeps : pylonlaw18_RatchetKeeps.Pure := by
  intro l p m _ hl hw hp hm
  refine Ev.rounds (g := fun k => pylonlaw18_RatchetKeeps.f k l p m) ?_
  obtain ⟨r, hr, _⟩ := billed_f (l := l) (p := p) (m := m) (by omega)
  unfold pylonlaw18_RatchetKeeps.f
  refine Ev.bind awake_ev ?_
  simp only [if_true]
  have e1 : (l ++ [(77 : Int)]).take ((l.length : Int)).toNat = l := by simp
  have e2 : rd (l ++ [(77 : Int)]) (l.length : Int) = 77 := by unfold rd; simp
  simp only [Option.bind_some, List.nil_append, List.length_nil, if_pos (show l.length < 17592186044416 by omega), if_pos (show (0 : Int) ≤ (l.length : Int) by omega),
    List.length_append, List.length_singleton, Nat.zero_add, if_pos (show (l.length : Int) ≤ ((l.length + 1 : Nat) : Int) by omega), if_pos (show (l.length : Int) < ((l.length + 1 : Nat) : Int) by omega), e1, e2]
  refine Ev.bind hr ?_
  refine Ev.bind hr ?_
  simp only [if_true]
  refine Ev.bind (same_f l (by omega)) ?_
  simp only [if_true]
  exact Ev.ofEq (by simp)
end Go.Proofs.Ytbjkjakilpifhaa.Pure
