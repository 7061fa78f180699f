/- Words for the printed functions: a cut of a row, told by its equation. -/
import Derived.Test.YthejabcfbbmkeaaDoorWWords
set_option linter.unusedVariables false
namespace Go.Proofs.YthejabcfbbmkeaaDoorW.PrintWords
open Go.RowKit
end Go.Proofs.YthejabcfbbmkeaaDoorW.PrintWords
