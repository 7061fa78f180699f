/- Words for the printed functions: a cut of a row, told by its equation. -/
import Derived.Test.YtofedlghaopciaaWWords
set_option linter.unusedVariables false
namespace Go.Proofs.YtofedlghaopciaaW.PrintWords
open Go.RowKit
theorem Kd.C_take_eq {α : Type} {k : Kd α} {w : World} {A : Option Addr} {xs ys : List α} {m : Nat} (e : ys = xs.take m) (hm : m ≤ xs.length) (h : k.C w A xs.length xs) : k.C w A ys.length ys := by
  subst e
  exact Kd.C_take h hm
end Go.Proofs.YtofedlghaopciaaW.PrintWords
