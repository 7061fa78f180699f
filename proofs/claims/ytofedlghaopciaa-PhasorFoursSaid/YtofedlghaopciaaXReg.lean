/- A region that draws its order: two loads that may come up now, in either order, at the world that stands: both are taken. -/
import Derived.Test.YtofedlghaopciaaWLast
set_option linter.unusedVariables false
namespace Go.Proofs.YtofedlghaopciaaW.PrintLast
section
variable {P : Program} {ops : Array Oper} {Q : Exit → Act → World → Prop} {md : Region.Mode} {S : World → Prop} {ds : List Nat}
def pairB (md : Region.Mode) (ops : Array Oper) (l l' : Array Bool) (i j : Nat) : Bool :=
  Region.ready md ops l == [i, j] && Region.ready md ops (l.setIfInBounds i true) == [j] && Region.ready md ops (l.setIfInBounds j true) == [i] && (l.setIfInBounds i true).setIfInBounds j true == l' && i != j
theorem pair_ {i j : Nat} {Ni Nj : Option Tmp} {oi oj : Oper} {vi vj : Value} {fuel : Nat} {l : Array Bool} {a a' : Act} {w : World} (l' : Array Bool) (hi : ops[i]? = some oi) (hj : ops[j]? = some oj) (hNi : oi.dst = Ni) (hNj : oj.dst = Nj)
    (hc : pairB md ops l l' i j = true)
    (y1 : YieldsIf P ops (fun w' => w' = w) oi vi a) (y2 : YieldsIf P ops (fun w' => w' = w) oj vj (a.put Ni vi))
    (y3 : YieldsIf P ops (fun w' => w' = w) oj vj a) (y4 : YieldsIf P ops (fun w' => w' = w) oi vi (a.put Nj vj))
    (ha : (a.put Ni vi).put Nj vj = a') (hb : (a.put Nj vj).put Ni vi = a')
    (h : wpAnyLast P md ops Q S ds fuel l' a' w) : wpAnyLast P md ops Q S ds (fuel + 2) l a w := by
  subst hNi
  subst hNj
  simp only [pairB, Bool.and_eq_true, beq_iff_eq, bne_iff_ne] at hc
  obtain ⟨⟨⟨⟨h1, h2⟩, h3⟩, h4⟩, h5⟩ := hc
  refine wpAnyLast_all h1 (by simp) ?_
  intro k hk
  simp only [List.mem_cons, List.not_mem_nil, or_false] at hk
  rcases hk with rfl | rfl
  · refine y1.wpOp hi rfl ⟨fun _ h => h, ?_⟩
    refine wpAnyLast_all h2 (by simp) ?_
    intro m hm
    simp only [List.mem_cons, List.not_mem_nil, or_false] at hm
    subst hm
    refine y2.wpOp hj rfl ⟨fun _ h => h, ?_⟩
    rw [h4, ha]
    exact h
  · refine y3.wpOp hj rfl ⟨fun _ h => h, ?_⟩
    refine wpAnyLast_all h3 (by simp) ?_
    intro m hm
    simp only [List.mem_cons, List.not_mem_nil, or_false] at hm
    subst hm
    refine y4.wpOp hi rfl ⟨fun _ h => h, ?_⟩
    rw [Array.setIfInBounds_comm _ _ (Ne.symm h5), h4, hb]
    exact h
end
end Go.Proofs.YtofedlghaopciaaW.PrintLast
