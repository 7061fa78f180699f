/- VeeKeeps holds: a check changes nothing, and answers alike twice. -/
import Derived.Test.YtbjkjakilpifhaaVeeCVK
import Derived.Test.YtbjkjakilpifhaaPVKx6
set_option linter.unusedVariables false
set_option linter.unusedSimpArgs false
namespace Go.Proofs.Ytbjkjakilpifhaa.Pure
open Go.RowKit Go.Proofs.Ytbjkjakilpifhaa.PVK Go.Proofs.Ytbjkjakilpifhaa.Num Go.Proofs.Ytbjkjakilpifhaa.PureVK Go.Proofs.YtbjkjakilpifhaaW.PrintWords Go.Proofs.YtbjkjakilpifhaaW.PrintLast Go.Proofs.YtbjkjakilpifhaaW.PrintMore
theorem samef_l0 {l : List S32} {c0 : ByteArray} {c1 c2 c3 c4 c5 : Int} (hl : (l.length : Int) ≤ 140737488355328) : ∀ (d : Nat) (i : Int), 0 ≤ i → (l.length : Int) - i = d → Ev (fun k => pylonref07_Same.l0 k (l.length : Int) i c0 c1 c2 c3 c4 c5 l c0 c1 c2 c3 c4 c5 l) true := by
  intro d
  induction d with
  | zero =>
    intro i i0 hd
    refine Ev.shift ?_
    simp only [pylonref07_Same.l0, if_neg (show ¬ i < (l.length : Int) by omega)]
    exact Ev.now _
  | succ d ih =>
    intro i i0 hd
    have hi : i < (l.length : Int) := by omega
    have ei : wrap64 (i + 1) = i + 1 := i64in (by omega) (by omega)
    refine Ev.shift ?_
    simp only [pylonref07_Same.l0, if_pos hi, if_pos i0, ei, beq_self_eq_true, Bool.not_true, Bool.or_false, Bool.false_eq_true, if_false]
    exact ih (i + 1) (by omega) (by omega)
theorem samef_f {l : List S32} {c0 : ByteArray} {c1 c2 c3 c4 c5 : Int} (hl : (l.length : Int) ≤ 140737488355328) : Ev (fun k => pylonref07_Same.f k c0 c1 c2 c3 c4 c5 l c0 c1 c2 c3 c4 c5 l) true := by
  unfold pylonref07_Same.f
  simp only [if_true, bne_self_eq_false]
  refine Ev.shift ?_
  simp only [pylonref07_Same.j0, Bool.false_eq_true, if_false]
  exact samef_l0 hl l.length 0 (by omega) (by omega)
theorem rd_last32 {b : List S32} (z : S32) : rd_T32 (b ++ [z]) (b.length : Int) = z := by
  unfold rd_T32
  rw [List.getD_eq_getElem?_getD, Int.toNat_natCast, List.getElem?_concat_length]
  rfl
theorem VeeKeeps : pylonlaw10_VeeKeeps.Pure := by
  intro c0 c1 c2 slots c4 c5 l most spike _ _ _ _ _ _ hl hm hs
  refine ev_ex (r := true) ?_
  have m64 : in64 most := wf64 hm
  have s64 : in64 spike := wf64 hs
  obtain ⟨hl, hr⟩ := hl
  obtain ⟨⟨n, e⟩, hr1, hA⟩ := check_f (c0 := c0) (c1 := c1) (c2 := c2) (slots := slots) (c4 := c4) (c5 := c5) hl hr m64 s64
  unfold pylonlaw10_VeeKeeps.f
  refine ev_bind awake_ev ?_
  have n1 : (l ++ [(⟨77, 0, 0, 0, 0⟩ : S32)]).length = l.length + 1 := by simp
  have tk : (l ++ [(⟨77, 0, 0, 0, 0⟩ : S32)]).take l.length = l := by simp
  clear hA
  simp only [if_true, Option.bind_some, List.nil_append, List.length_nil, if_pos (show 0 + l.length < 3518437208883 by omega), if_pos (show l.length < 3518437208883 by omega), if_pos (show (0 : Int) ≤ (l.length : Int) by omega), n1, if_pos (show (l.length : Int) ≤ ((l.length + 1 : Nat) : Int) by omega), Int.toNat_natCast, tk, if_pos (show (l.length : Int) < ((l.length + 1 : Nat) : Int) by omega), rd_last32]
  refine ev_bind hr1 (ev_bind hr1 ?_)
  simp only [if_true]
  refine ev_bind (samef_f (by omega)) ?_
  simp only [if_true]
  exact Ev.ofEq rfl
end Go.Proofs.Ytbjkjakilpifhaa.Pure
