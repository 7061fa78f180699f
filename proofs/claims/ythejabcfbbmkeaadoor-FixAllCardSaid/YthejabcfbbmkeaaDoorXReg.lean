/- A region that draws its order: two loads that may come up now, in either order, at the world that stands: both are taken. -/
import Derived.Test.YthejabcfbbmkeaaDoorWLast
set_option linter.unusedVariables false
namespace Go.Proofs.YthejabcfbbmkeaaDoorW.PrintLast
section
variable {P : Program} {ops : Array Oper} {Q : Exit → Act → World → Prop} {md : Region.Mode} {S : World → Prop} {ds : List Nat}
def pairB (md : Region.Mode) (ops : Array Oper) (l l' : Array Bool) (i j : Nat) : Bool :=
  Region.ready md ops l == [i, j] && Region.ready md ops (l.setIfInBounds i true) == [j] && Region.ready md ops (l.setIfInBounds j true) == [i] && (l.setIfInBounds i true).setIfInBounds j true == l' && i != j
end
end Go.Proofs.YthejabcfbbmkeaaDoorW.PrintLast
