/-
  No cell of these rows narrows 'for every input' (looked for: loops, veiled, ifaces, maps, wideKeys, modest, calm, conditions, laid).
  DERIVED. THE GIVEN ROWS OF THIS SEAT. 17 by the template 'for every input the law returns true; each argument reads behind the call as it read before'; 0 by the template 'total and deterministic' (their statements: YtapimggcnneabaaTotals.lean).
  GIVEN WITH THE SEED: the statements are not yours to turn. If you find one false, say at which input.
  Laid BY PROGRAM, IN A SANDBOX (cutbox-rows.mjs): the forced cells as the released guide's own fill.sh prints them over the translation 7f07cb027e0699f5… (all of the seat's roots in one cut). By AI agents, Wed Nov 11 2026. No macro, syntax, notation, axiom, sorry.
-/
import Derived.Test.YtapimggcnneabaaChecked
import GoSem.Claim
import GoSem.ClaimJoined
import GoSem.ClaimMapViews
import Derived.JoinedTies
import Derived.KernelRfl
namespace Go.Proofs.Ytapimggcnneabaa
/- THE CELL 'sum', in the pinned program and in every row, IS THE sha256 OF THE DUMP (.gsa) THAT YtapimggcnneabaaProg.lean LOADS. Nothing in Lean hashes anything: it is a label: what it is worth is what the hold of that sum in a sandbox is worth. -/
noncomputable def Try.pinned : Pinned := { name := "ytapimggcnneabaa", sum := "7f07cb027e0699f59ab07dcc0521dcb0d4ec61379921673f6a5619879af726bd", checked := Try.checked }
namespace Rows
def none {H : Type} : Left H := { results := [], args := [] }

/-- 'pylonlaw12.MeterSeries': WHATEVER THE INPUT: true; the input reads as it did. -/
def meterSeriesSpec : ChangeSpec := { name := "meterSeries", fn := fun _ => fun
  | [d1, d2, d3, d4, d5] => { results := [.lit (.bool true)], args := [d1, d2, d3, d4, d5] }
  | _ => none }
def meterSeriesRow : OpenClaim := { program := "ytapimggcnneabaa", sum := "7f07cb027e0699f59ab07dcc0521dcb0d4ec61379921673f6a5619879af726bd", func := "pylon/pylonlaw12.MeterSeries", spec := "meterSeries", apart := false }
def MeterSeriesSaid : Prop := meterSeriesRow.holds Try.pinned (OpenSpec.ofChange meterSeriesSpec)

/-- ITS FALSE NEIGHBOUR: 'it returns false'. Refute it at one input. -/
def meterSeriesWrong : ChangeSpec := { name := "meterSeries", fn := fun _ => fun
  | [d1, d2, d3, d4, d5] => { results := [.lit (.bool false)], args := [d1, d2, d3, d4, d5] }
  | _ => none }
def MeterSeriesWrongFalsely : Prop := meterSeriesRow.holds Try.pinned (OpenSpec.ofChange meterSeriesWrong)

/-- 'pylonlaw02.PhasorPowers': WHATEVER THE INPUT: true; the input reads as it did. -/
def phasorPowersSpec : ChangeSpec := { name := "phasorPowers", fn := fun _ => fun
  | [d1, d2, d3, d4] => { results := [.lit (.bool true)], args := [d1, d2, d3, d4] }
  | _ => none }
def phasorPowersRow : OpenClaim := { program := "ytapimggcnneabaa", sum := "7f07cb027e0699f59ab07dcc0521dcb0d4ec61379921673f6a5619879af726bd", func := "pylon/pylonlaw02.PhasorPowers", spec := "phasorPowers", inPlace := ["math.Float64bits", "math.Float64frombits", "math.archTrunc"], apart := false }
def PhasorPowersSaid : Prop := phasorPowersRow.holds Try.pinned (OpenSpec.ofChange phasorPowersSpec)

/-- ITS FALSE NEIGHBOUR: 'it returns false'. Refute it at one input. -/
def phasorPowersWrong : ChangeSpec := { name := "phasorPowers", fn := fun _ => fun
  | [d1, d2, d3, d4] => { results := [.lit (.bool false)], args := [d1, d2, d3, d4] }
  | _ => none }
def PhasorPowersWrongFalsely : Prop := phasorPowersRow.holds Try.pinned (OpenSpec.ofChange phasorPowersWrong)

/-- 'pylonlaw12.MeterTurns': WHATEVER THE INPUT: true; the input reads as it did. -/
def meterTurnsSpec : ChangeSpec := { name := "meterTurns", fn := fun _ => fun
  | [d1, d2, d3, d4, d5] => { results := [.lit (.bool true)], args := [d1, d2, d3, d4, d5] }
  | _ => none }
def meterTurnsRow : OpenClaim := { program := "ytapimggcnneabaa", sum := "7f07cb027e0699f59ab07dcc0521dcb0d4ec61379921673f6a5619879af726bd", func := "pylon/pylonlaw12.MeterTurns", spec := "meterTurns", inPlace := ["math.Float64bits", "math.Float64frombits", "math.archTrunc"], apart := false }
def MeterTurnsSaid : Prop := meterTurnsRow.holds Try.pinned (OpenSpec.ofChange meterTurnsSpec)

/-- ITS FALSE NEIGHBOUR: 'it returns false'. Refute it at one input. -/
def meterTurnsWrong : ChangeSpec := { name := "meterTurns", fn := fun _ => fun
  | [d1, d2, d3, d4, d5] => { results := [.lit (.bool false)], args := [d1, d2, d3, d4, d5] }
  | _ => none }
def MeterTurnsWrongFalsely : Prop := meterTurnsRow.holds Try.pinned (OpenSpec.ofChange meterTurnsWrong)

/-- 'pylonlaw12.MeterSplits': WHATEVER THE INPUT: true; the input reads as it did. -/
def meterSplitsSpec : ChangeSpec := { name := "meterSplits", fn := fun _ => fun
  | [d] => { results := [.lit (.bool true)], args := [d] }
  | _ => none }
def meterSplitsRow : OpenClaim := { program := "ytapimggcnneabaa", sum := "7f07cb027e0699f59ab07dcc0521dcb0d4ec61379921673f6a5619879af726bd", func := "pylon/pylonlaw12.MeterSplits", spec := "meterSplits", inPlace := ["math.Float64bits", "math.Float64frombits", "math.archTrunc"], apart := false }
def MeterSplitsSaid : Prop := meterSplitsRow.holds Try.pinned (OpenSpec.ofChange meterSplitsSpec)

/-- ITS FALSE NEIGHBOUR: 'it returns false'. Refute it at one input. -/
def meterSplitsWrong : ChangeSpec := { name := "meterSplits", fn := fun _ => fun
  | [d] => { results := [.lit (.bool false)], args := [d] }
  | _ => none }
def MeterSplitsWrongFalsely : Prop := meterSplitsRow.holds Try.pinned (OpenSpec.ofChange meterSplitsWrong)

/-- 'pylonlaw02.PhasorPhases': WHATEVER THE INPUT: true; the input reads as it did. -/
def phasorPhasesSpec : ChangeSpec := { name := "phasorPhases", fn := fun _ => fun
  | [d1, d2, d3, d4] => { results := [.lit (.bool true)], args := [d1, d2, d3, d4] }
  | _ => none }
def phasorPhasesRow : OpenClaim := { program := "ytapimggcnneabaa", sum := "7f07cb027e0699f59ab07dcc0521dcb0d4ec61379921673f6a5619879af726bd", func := "pylon/pylonlaw02.PhasorPhases", spec := "phasorPhases", inPlace := ["math.Float64bits", "math.Float64frombits", "math.archTrunc"], apart := false }
def PhasorPhasesSaid : Prop := phasorPhasesRow.holds Try.pinned (OpenSpec.ofChange phasorPhasesSpec)

/-- ITS FALSE NEIGHBOUR: 'it returns false'. Refute it at one input. -/
def phasorPhasesWrong : ChangeSpec := { name := "phasorPhases", fn := fun _ => fun
  | [d1, d2, d3, d4] => { results := [.lit (.bool false)], args := [d1, d2, d3, d4] }
  | _ => none }
def PhasorPhasesWrongFalsely : Prop := phasorPhasesRow.holds Try.pinned (OpenSpec.ofChange phasorPhasesWrong)

/-- 'pylonlaw02.PhasorFours': WHATEVER THE INPUT: true; the input reads as it did. -/
def phasorFoursSpec : ChangeSpec := { name := "phasorFours", fn := fun _ => fun
  | [d1, d2] => { results := [.lit (.bool true)], args := [d1, d2] }
  | _ => none }
def phasorFoursRow : OpenClaim := { program := "ytapimggcnneabaa", sum := "7f07cb027e0699f59ab07dcc0521dcb0d4ec61379921673f6a5619879af726bd", func := "pylon/pylonlaw02.PhasorFours", spec := "phasorFours", inPlace := ["math.Float64bits", "math.Float64frombits", "math.archTrunc"], apart := false }
def PhasorFoursSaid : Prop := phasorFoursRow.holds Try.pinned (OpenSpec.ofChange phasorFoursSpec)

/-- ITS FALSE NEIGHBOUR: 'it returns false'. Refute it at one input. -/
def phasorFoursWrong : ChangeSpec := { name := "phasorFours", fn := fun _ => fun
  | [d1, d2] => { results := [.lit (.bool false)], args := [d1, d2] }
  | _ => none }
def PhasorFoursWrongFalsely : Prop := phasorFoursRow.holds Try.pinned (OpenSpec.ofChange phasorFoursWrong)

/-- 'pylonlaw12.MeterTotals': WHATEVER THE INPUT: true; the input reads as it did. -/
def meterTotalsSpec : ChangeSpec := { name := "meterTotals", fn := fun _ => fun
  | [d1, d2] => { results := [.lit (.bool true)], args := [d1, d2] }
  | _ => none }
def meterTotalsRow : OpenClaim := { program := "ytapimggcnneabaa", sum := "7f07cb027e0699f59ab07dcc0521dcb0d4ec61379921673f6a5619879af726bd", func := "pylon/pylonlaw12.MeterTotals", spec := "meterTotals", inPlace := ["math.Float64bits", "math.Float64frombits", "math.archTrunc"], apart := false }
def MeterTotalsSaid : Prop := meterTotalsRow.holds Try.pinned (OpenSpec.ofChange meterTotalsSpec)

/-- ITS FALSE NEIGHBOUR: 'it returns false'. Refute it at one input. -/
def meterTotalsWrong : ChangeSpec := { name := "meterTotals", fn := fun _ => fun
  | [d1, d2] => { results := [.lit (.bool false)], args := [d1, d2] }
  | _ => none }
def MeterTotalsWrongFalsely : Prop := meterTotalsRow.holds Try.pinned (OpenSpec.ofChange meterTotalsWrong)

/-- 'pylonlaw12.MeterAll': WHATEVER THE INPUT: true; the input reads as it did. -/
def meterAllSpec : ChangeSpec := { name := "meterAll", fn := fun _ => fun
  | [d] => { results := [.lit (.bool true)], args := [d] }
  | _ => none }
def meterAllRow : OpenClaim := { program := "ytapimggcnneabaa", sum := "7f07cb027e0699f59ab07dcc0521dcb0d4ec61379921673f6a5619879af726bd", func := "pylon/pylonlaw12.MeterAll", spec := "meterAll", inPlace := ["math.Float64bits", "math.Float64frombits", "math.archTrunc"], apart := false }
def MeterAllSaid : Prop := meterAllRow.holds Try.pinned (OpenSpec.ofChange meterAllSpec)

/-- ITS FALSE NEIGHBOUR: 'it returns false'. Refute it at one input. -/
def meterAllWrong : ChangeSpec := { name := "meterAll", fn := fun _ => fun
  | [d] => { results := [.lit (.bool false)], args := [d] }
  | _ => none }
def MeterAllWrongFalsely : Prop := meterAllRow.holds Try.pinned (OpenSpec.ofChange meterAllWrong)

/-- 'pylonlaw12.MeterKeeps': WHATEVER THE INPUT: true; the input reads as it did. -/
def meterKeepsSpec : ChangeSpec := { name := "meterKeeps", fn := fun _ => fun
  | [d1, d2, d3] => { results := [.lit (.bool true)], args := [d1, d2, d3] }
  | _ => none }
def meterKeepsRow : OpenClaim := { program := "ytapimggcnneabaa", sum := "7f07cb027e0699f59ab07dcc0521dcb0d4ec61379921673f6a5619879af726bd", func := "pylon/pylonlaw12.MeterKeeps", spec := "meterKeeps", inPlace := ["math.Float64bits", "math.Float64frombits", "math.archTrunc"], apart := false }
def MeterKeepsSaid : Prop := meterKeepsRow.holds Try.pinned (OpenSpec.ofChange meterKeepsSpec)

/-- ITS FALSE NEIGHBOUR: 'it returns false'. Refute it at one input. -/
def meterKeepsWrong : ChangeSpec := { name := "meterKeeps", fn := fun _ => fun
  | [d1, d2, d3] => { results := [.lit (.bool false)], args := [d1, d2, d3] }
  | _ => none }
def MeterKeepsWrongFalsely : Prop := meterKeepsRow.holds Try.pinned (OpenSpec.ofChange meterKeepsWrong)

/-- 'pylonlaw16.DemandPowers': WHATEVER THE INPUT: true; the input reads as it did. -/
def demandPowersSpec : ChangeSpec := { name := "demandPowers", fn := fun _ => fun
  | [d1, d2] => { results := [.lit (.bool true)], args := [d1, d2] }
  | _ => none }
def demandPowersRow : OpenClaim := { program := "ytapimggcnneabaa", sum := "7f07cb027e0699f59ab07dcc0521dcb0d4ec61379921673f6a5619879af726bd", func := "pylon/pylonlaw16.DemandPowers", spec := "demandPowers", inPlace := ["math.Float64bits", "math.Float64frombits", "math.archTrunc", "math/bits.Add64"], named := ["math/bits.divideError", "math/bits.overflowError"], apart := false }
def DemandPowersSaid : Prop := demandPowersRow.holds Try.pinned (OpenSpec.ofChange demandPowersSpec)

/-- ITS FALSE NEIGHBOUR: 'it returns false'. Refute it at one input. -/
def demandPowersWrong : ChangeSpec := { name := "demandPowers", fn := fun _ => fun
  | [d1, d2] => { results := [.lit (.bool false)], args := [d1, d2] }
  | _ => none }
def DemandPowersWrongFalsely : Prop := demandPowersRow.holds Try.pinned (OpenSpec.ofChange demandPowersWrong)

/-- 'pylonlaw16.DemandWholes': WHATEVER THE INPUT: true; the input reads as it did. -/
def demandWholesSpec : ChangeSpec := { name := "demandWholes", fn := fun _ => fun
  | [d] => { results := [.lit (.bool true)], args := [d] }
  | _ => none }
def demandWholesRow : OpenClaim := { program := "ytapimggcnneabaa", sum := "7f07cb027e0699f59ab07dcc0521dcb0d4ec61379921673f6a5619879af726bd", func := "pylon/pylonlaw16.DemandWholes", spec := "demandWholes", inPlace := ["math.Float64bits", "math.Float64frombits", "math.archTrunc", "math/bits.Add64"], named := ["math/bits.divideError", "math/bits.overflowError"], apart := false }
def DemandWholesSaid : Prop := demandWholesRow.holds Try.pinned (OpenSpec.ofChange demandWholesSpec)

/-- ITS FALSE NEIGHBOUR: 'it returns false'. Refute it at one input. -/
def demandWholesWrong : ChangeSpec := { name := "demandWholes", fn := fun _ => fun
  | [d] => { results := [.lit (.bool false)], args := [d] }
  | _ => none }
def DemandWholesWrongFalsely : Prop := demandWholesRow.holds Try.pinned (OpenSpec.ofChange demandWholesWrong)

/-- 'pylonlaw16.DemandSides': WHATEVER THE INPUT: true; the input reads as it did. -/
def demandSidesSpec : ChangeSpec := { name := "demandSides", fn := fun _ => fun
  | [d] => { results := [.lit (.bool true)], args := [d] }
  | _ => none }
def demandSidesRow : OpenClaim := { program := "ytapimggcnneabaa", sum := "7f07cb027e0699f59ab07dcc0521dcb0d4ec61379921673f6a5619879af726bd", func := "pylon/pylonlaw16.DemandSides", spec := "demandSides", inPlace := ["math.Float64bits", "math.Float64frombits", "math.archTrunc", "math/bits.Add64"], named := ["math/bits.divideError", "math/bits.overflowError"], apart := false }
def DemandSidesSaid : Prop := demandSidesRow.holds Try.pinned (OpenSpec.ofChange demandSidesSpec)

/-- ITS FALSE NEIGHBOUR: 'it returns false'. Refute it at one input. -/
def demandSidesWrong : ChangeSpec := { name := "demandSides", fn := fun _ => fun
  | [d] => { results := [.lit (.bool false)], args := [d] }
  | _ => none }
def DemandSidesWrongFalsely : Prop := demandSidesRow.holds Try.pinned (OpenSpec.ofChange demandSidesWrong)

/-- 'pylonlaw02.PhasorTurns': WHATEVER THE INPUT: true; the input reads as it did. -/
def phasorTurnsSpec : ChangeSpec := { name := "phasorTurns", fn := fun _ => fun
  | [d1, d2, d3, d4] => { results := [.lit (.bool true)], args := [d1, d2, d3, d4] }
  | _ => none }
def phasorTurnsRow : OpenClaim := { program := "ytapimggcnneabaa", sum := "7f07cb027e0699f59ab07dcc0521dcb0d4ec61379921673f6a5619879af726bd", func := "pylon/pylonlaw02.PhasorTurns", spec := "phasorTurns", inPlace := ["math.Float64bits", "math.Float64frombits", "math.archTrunc", "math/bits.Add64"], named := ["math/bits.divideError", "math/bits.overflowError"], apart := false }
def PhasorTurnsSaid : Prop := phasorTurnsRow.holds Try.pinned (OpenSpec.ofChange phasorTurnsSpec)

/-- ITS FALSE NEIGHBOUR: 'it returns false'. Refute it at one input. -/
def phasorTurnsWrong : ChangeSpec := { name := "phasorTurns", fn := fun _ => fun
  | [d1, d2, d3, d4] => { results := [.lit (.bool false)], args := [d1, d2, d3, d4] }
  | _ => none }
def PhasorTurnsWrongFalsely : Prop := phasorTurnsRow.holds Try.pinned (OpenSpec.ofChange phasorTurnsWrong)

/-- 'pylonlaw16.DemandPeaks': WHATEVER THE INPUT: true; the input reads as it did. -/
def demandPeaksSpec : ChangeSpec := { name := "demandPeaks", fn := fun _ => fun
  | [d1, d2] => { results := [.lit (.bool true)], args := [d1, d2] }
  | _ => none }
def demandPeaksRow : OpenClaim := { program := "ytapimggcnneabaa", sum := "7f07cb027e0699f59ab07dcc0521dcb0d4ec61379921673f6a5619879af726bd", func := "pylon/pylonlaw16.DemandPeaks", spec := "demandPeaks", inPlace := ["math.Float64bits", "math.Float64frombits", "math.archTrunc", "math/bits.Add64"], named := ["math/bits.divideError", "math/bits.overflowError"], apart := false }
def DemandPeaksSaid : Prop := demandPeaksRow.holds Try.pinned (OpenSpec.ofChange demandPeaksSpec)

/-- ITS FALSE NEIGHBOUR: 'it returns false'. Refute it at one input. -/
def demandPeaksWrong : ChangeSpec := { name := "demandPeaks", fn := fun _ => fun
  | [d1, d2] => { results := [.lit (.bool false)], args := [d1, d2] }
  | _ => none }
def DemandPeaksWrongFalsely : Prop := demandPeaksRow.holds Try.pinned (OpenSpec.ofChange demandPeaksWrong)

/-- 'pylonlaw16.DemandGrows': WHATEVER THE INPUT: true; the input reads as it did. -/
def demandGrowsSpec : ChangeSpec := { name := "demandGrows", fn := fun _ => fun
  | [d1, d2, d3, d4] => { results := [.lit (.bool true)], args := [d1, d2, d3, d4] }
  | _ => none }
def demandGrowsRow : OpenClaim := { program := "ytapimggcnneabaa", sum := "7f07cb027e0699f59ab07dcc0521dcb0d4ec61379921673f6a5619879af726bd", func := "pylon/pylonlaw16.DemandGrows", spec := "demandGrows", inPlace := ["math.Float64bits", "math.Float64frombits", "math.archTrunc", "math/bits.Add64"], named := ["math/bits.divideError", "math/bits.overflowError"], apart := false }
def DemandGrowsSaid : Prop := demandGrowsRow.holds Try.pinned (OpenSpec.ofChange demandGrowsSpec)

/-- ITS FALSE NEIGHBOUR: 'it returns false'. Refute it at one input. -/
def demandGrowsWrong : ChangeSpec := { name := "demandGrows", fn := fun _ => fun
  | [d1, d2, d3, d4] => { results := [.lit (.bool false)], args := [d1, d2, d3, d4] }
  | _ => none }
def DemandGrowsWrongFalsely : Prop := demandGrowsRow.holds Try.pinned (OpenSpec.ofChange demandGrowsWrong)

/-- 'pylonlaw16.DemandActive': WHATEVER THE INPUT: true; the input reads as it did. -/
def demandActiveSpec : ChangeSpec := { name := "demandActive", fn := fun _ => fun
  | [d1, d2] => { results := [.lit (.bool true)], args := [d1, d2] }
  | _ => none }
def demandActiveRow : OpenClaim := { program := "ytapimggcnneabaa", sum := "7f07cb027e0699f59ab07dcc0521dcb0d4ec61379921673f6a5619879af726bd", func := "pylon/pylonlaw16.DemandActive", spec := "demandActive", inPlace := ["math.Float64bits", "math.Float64frombits", "math.archTrunc", "math/bits.Add64"], named := ["math/bits.divideError", "math/bits.overflowError"], apart := false }
def DemandActiveSaid : Prop := demandActiveRow.holds Try.pinned (OpenSpec.ofChange demandActiveSpec)

/-- ITS FALSE NEIGHBOUR: 'it returns false'. Refute it at one input. -/
def demandActiveWrong : ChangeSpec := { name := "demandActive", fn := fun _ => fun
  | [d1, d2] => { results := [.lit (.bool false)], args := [d1, d2] }
  | _ => none }
def DemandActiveWrongFalsely : Prop := demandActiveRow.holds Try.pinned (OpenSpec.ofChange demandActiveWrong)

/-- 'pylonlaw16.DemandKeeps': WHATEVER THE INPUT: true; the input reads as it did. -/
def demandKeepsSpec : ChangeSpec := { name := "demandKeeps", fn := fun _ => fun
  | [d1, d2] => { results := [.lit (.bool true)], args := [d1, d2] }
  | _ => none }
def demandKeepsRow : OpenClaim := { program := "ytapimggcnneabaa", sum := "7f07cb027e0699f59ab07dcc0521dcb0d4ec61379921673f6a5619879af726bd", func := "pylon/pylonlaw16.DemandKeeps", spec := "demandKeeps", inPlace := ["math.Float64bits", "math.Float64frombits", "math.archTrunc", "math/bits.Add64"], named := ["math/bits.divideError", "math/bits.overflowError"], apart := false }
def DemandKeepsSaid : Prop := demandKeepsRow.holds Try.pinned (OpenSpec.ofChange demandKeepsSpec)

/-- ITS FALSE NEIGHBOUR: 'it returns false'. Refute it at one input. -/
def demandKeepsWrong : ChangeSpec := { name := "demandKeeps", fn := fun _ => fun
  | [d1, d2] => { results := [.lit (.bool false)], args := [d1, d2] }
  | _ => none }
def DemandKeepsWrongFalsely : Prop := demandKeepsRow.holds Try.pinned (OpenSpec.ofChange demandKeepsWrong)

/- THE SECOND FORM. 'bulk': how many values and letters a reading holds, each counted each time it is reached (what is shared counts as often as it is met; a slice's spare places count too). A statement '..UptoSaid' is the law's where the arguments, and the package variables that the reading takes, are together of bulk at most 1048576: NARROWER than '..Said'. Prove '..Said' where nothing that the law and all that it calls make is longer than what came in: it says more and counts as full. Else prove '..UptoSaid'. A law counts once. -/
mutual
def uptoBulk {H : Type} : DataW H → Nat
  | .lit (.string bytes) => bytes.length + 1
  | .lit _ => 1
  | .nil => 1
  | .ptr d => uptoBulk d + 1
  | .slice elems spare => uptoBulkAll elems + uptoBulkAll spare + 1
  | .agg parts => uptoBulkAll parts + 1
  | .iface _ d => uptoBulk d + 1
  | .map entries => uptoBulkEntries entries + 1
  | .held _ => 1
def uptoBulkAll {H : Type} : List (DataW H) → Nat
  | [] => 0
  | d :: r => uptoBulk d + uptoBulkAll r
def uptoBulkEntries {H : Type} : List (Lit × DataW H) → Nat
  | [] => 0
  | x :: r => uptoBulkEntry x + uptoBulkEntries r
def uptoBulkEntry {H : Type} : Lit × DataW H → Nat
  | (.string bytes, d) => bytes.length + uptoBulk d + 1
  | (_, d) => uptoBulk d + 1
 end
def uptoSmall : (H : Type) → List (DataW H) → Bool := fun _ ds => decide (uptoBulkAll ds ≤ 1048576)
def OpenSpec.upto (s : _root_.Go.ChangeSpec) : _root_.Go.OpenSpec := { _root_.Go.OpenSpec.ofChange s with cond := some uptoSmall }

/-- 'pylonlaw12.MeterSeries', WHERE WHAT IT READS IS OF BULK AT MOST 1048576: true; the input reads as it did. -/
def meterSeriesUptoRow : OpenClaim := { program := "ytapimggcnneabaa", sum := "7f07cb027e0699f59ab07dcc0521dcb0d4ec61379921673f6a5619879af726bd", func := "pylon/pylonlaw12.MeterSeries", spec := "meterSeries", apart := false, narrowed := true }
def MeterSeriesUptoSaid : Prop := meterSeriesUptoRow.holds Try.pinned (OpenSpec.upto meterSeriesSpec)

/-- 'pylonlaw02.PhasorPowers', WHERE WHAT IT READS IS OF BULK AT MOST 1048576: true; the input reads as it did. -/
def phasorPowersUptoRow : OpenClaim := { program := "ytapimggcnneabaa", sum := "7f07cb027e0699f59ab07dcc0521dcb0d4ec61379921673f6a5619879af726bd", func := "pylon/pylonlaw02.PhasorPowers", spec := "phasorPowers", inPlace := ["math.Float64bits", "math.Float64frombits", "math.archTrunc"], apart := false, narrowed := true }
def PhasorPowersUptoSaid : Prop := phasorPowersUptoRow.holds Try.pinned (OpenSpec.upto phasorPowersSpec)

/-- 'pylonlaw12.MeterTurns', WHERE WHAT IT READS IS OF BULK AT MOST 1048576: true; the input reads as it did. -/
def meterTurnsUptoRow : OpenClaim := { program := "ytapimggcnneabaa", sum := "7f07cb027e0699f59ab07dcc0521dcb0d4ec61379921673f6a5619879af726bd", func := "pylon/pylonlaw12.MeterTurns", spec := "meterTurns", inPlace := ["math.Float64bits", "math.Float64frombits", "math.archTrunc"], apart := false, narrowed := true }
def MeterTurnsUptoSaid : Prop := meterTurnsUptoRow.holds Try.pinned (OpenSpec.upto meterTurnsSpec)

/-- 'pylonlaw12.MeterSplits', WHERE WHAT IT READS IS OF BULK AT MOST 1048576: true; the input reads as it did. -/
def meterSplitsUptoRow : OpenClaim := { program := "ytapimggcnneabaa", sum := "7f07cb027e0699f59ab07dcc0521dcb0d4ec61379921673f6a5619879af726bd", func := "pylon/pylonlaw12.MeterSplits", spec := "meterSplits", inPlace := ["math.Float64bits", "math.Float64frombits", "math.archTrunc"], apart := false, narrowed := true }
def MeterSplitsUptoSaid : Prop := meterSplitsUptoRow.holds Try.pinned (OpenSpec.upto meterSplitsSpec)

/-- 'pylonlaw02.PhasorPhases', WHERE WHAT IT READS IS OF BULK AT MOST 1048576: true; the input reads as it did. -/
def phasorPhasesUptoRow : OpenClaim := { program := "ytapimggcnneabaa", sum := "7f07cb027e0699f59ab07dcc0521dcb0d4ec61379921673f6a5619879af726bd", func := "pylon/pylonlaw02.PhasorPhases", spec := "phasorPhases", inPlace := ["math.Float64bits", "math.Float64frombits", "math.archTrunc"], apart := false, narrowed := true }
def PhasorPhasesUptoSaid : Prop := phasorPhasesUptoRow.holds Try.pinned (OpenSpec.upto phasorPhasesSpec)

/-- 'pylonlaw02.PhasorFours', WHERE WHAT IT READS IS OF BULK AT MOST 1048576: true; the input reads as it did. -/
def phasorFoursUptoRow : OpenClaim := { program := "ytapimggcnneabaa", sum := "7f07cb027e0699f59ab07dcc0521dcb0d4ec61379921673f6a5619879af726bd", func := "pylon/pylonlaw02.PhasorFours", spec := "phasorFours", inPlace := ["math.Float64bits", "math.Float64frombits", "math.archTrunc"], apart := false, narrowed := true }
def PhasorFoursUptoSaid : Prop := phasorFoursUptoRow.holds Try.pinned (OpenSpec.upto phasorFoursSpec)

/-- 'pylonlaw12.MeterTotals', WHERE WHAT IT READS IS OF BULK AT MOST 1048576: true; the input reads as it did. -/
def meterTotalsUptoRow : OpenClaim := { program := "ytapimggcnneabaa", sum := "7f07cb027e0699f59ab07dcc0521dcb0d4ec61379921673f6a5619879af726bd", func := "pylon/pylonlaw12.MeterTotals", spec := "meterTotals", inPlace := ["math.Float64bits", "math.Float64frombits", "math.archTrunc"], apart := false, narrowed := true }
def MeterTotalsUptoSaid : Prop := meterTotalsUptoRow.holds Try.pinned (OpenSpec.upto meterTotalsSpec)

/-- 'pylonlaw12.MeterAll', WHERE WHAT IT READS IS OF BULK AT MOST 1048576: true; the input reads as it did. -/
def meterAllUptoRow : OpenClaim := { program := "ytapimggcnneabaa", sum := "7f07cb027e0699f59ab07dcc0521dcb0d4ec61379921673f6a5619879af726bd", func := "pylon/pylonlaw12.MeterAll", spec := "meterAll", inPlace := ["math.Float64bits", "math.Float64frombits", "math.archTrunc"], apart := false, narrowed := true }
def MeterAllUptoSaid : Prop := meterAllUptoRow.holds Try.pinned (OpenSpec.upto meterAllSpec)

/-- 'pylonlaw12.MeterKeeps', WHERE WHAT IT READS IS OF BULK AT MOST 1048576: true; the input reads as it did. -/
def meterKeepsUptoRow : OpenClaim := { program := "ytapimggcnneabaa", sum := "7f07cb027e0699f59ab07dcc0521dcb0d4ec61379921673f6a5619879af726bd", func := "pylon/pylonlaw12.MeterKeeps", spec := "meterKeeps", inPlace := ["math.Float64bits", "math.Float64frombits", "math.archTrunc"], apart := false, narrowed := true }
def MeterKeepsUptoSaid : Prop := meterKeepsUptoRow.holds Try.pinned (OpenSpec.upto meterKeepsSpec)

/-- 'pylonlaw16.DemandPowers', WHERE WHAT IT READS IS OF BULK AT MOST 1048576: true; the input reads as it did. -/
def demandPowersUptoRow : OpenClaim := { program := "ytapimggcnneabaa", sum := "7f07cb027e0699f59ab07dcc0521dcb0d4ec61379921673f6a5619879af726bd", func := "pylon/pylonlaw16.DemandPowers", spec := "demandPowers", inPlace := ["math.Float64bits", "math.Float64frombits", "math.archTrunc", "math/bits.Add64"], named := ["math/bits.divideError", "math/bits.overflowError"], apart := false, narrowed := true }
def DemandPowersUptoSaid : Prop := demandPowersUptoRow.holds Try.pinned (OpenSpec.upto demandPowersSpec)

/-- 'pylonlaw16.DemandWholes', WHERE WHAT IT READS IS OF BULK AT MOST 1048576: true; the input reads as it did. -/
def demandWholesUptoRow : OpenClaim := { program := "ytapimggcnneabaa", sum := "7f07cb027e0699f59ab07dcc0521dcb0d4ec61379921673f6a5619879af726bd", func := "pylon/pylonlaw16.DemandWholes", spec := "demandWholes", inPlace := ["math.Float64bits", "math.Float64frombits", "math.archTrunc", "math/bits.Add64"], named := ["math/bits.divideError", "math/bits.overflowError"], apart := false, narrowed := true }
def DemandWholesUptoSaid : Prop := demandWholesUptoRow.holds Try.pinned (OpenSpec.upto demandWholesSpec)

/-- 'pylonlaw16.DemandSides', WHERE WHAT IT READS IS OF BULK AT MOST 1048576: true; the input reads as it did. -/
def demandSidesUptoRow : OpenClaim := { program := "ytapimggcnneabaa", sum := "7f07cb027e0699f59ab07dcc0521dcb0d4ec61379921673f6a5619879af726bd", func := "pylon/pylonlaw16.DemandSides", spec := "demandSides", inPlace := ["math.Float64bits", "math.Float64frombits", "math.archTrunc", "math/bits.Add64"], named := ["math/bits.divideError", "math/bits.overflowError"], apart := false, narrowed := true }
def DemandSidesUptoSaid : Prop := demandSidesUptoRow.holds Try.pinned (OpenSpec.upto demandSidesSpec)

/-- 'pylonlaw02.PhasorTurns', WHERE WHAT IT READS IS OF BULK AT MOST 1048576: true; the input reads as it did. -/
def phasorTurnsUptoRow : OpenClaim := { program := "ytapimggcnneabaa", sum := "7f07cb027e0699f59ab07dcc0521dcb0d4ec61379921673f6a5619879af726bd", func := "pylon/pylonlaw02.PhasorTurns", spec := "phasorTurns", inPlace := ["math.Float64bits", "math.Float64frombits", "math.archTrunc", "math/bits.Add64"], named := ["math/bits.divideError", "math/bits.overflowError"], apart := false, narrowed := true }
def PhasorTurnsUptoSaid : Prop := phasorTurnsUptoRow.holds Try.pinned (OpenSpec.upto phasorTurnsSpec)

/-- 'pylonlaw16.DemandPeaks', WHERE WHAT IT READS IS OF BULK AT MOST 1048576: true; the input reads as it did. -/
def demandPeaksUptoRow : OpenClaim := { program := "ytapimggcnneabaa", sum := "7f07cb027e0699f59ab07dcc0521dcb0d4ec61379921673f6a5619879af726bd", func := "pylon/pylonlaw16.DemandPeaks", spec := "demandPeaks", inPlace := ["math.Float64bits", "math.Float64frombits", "math.archTrunc", "math/bits.Add64"], named := ["math/bits.divideError", "math/bits.overflowError"], apart := false, narrowed := true }
def DemandPeaksUptoSaid : Prop := demandPeaksUptoRow.holds Try.pinned (OpenSpec.upto demandPeaksSpec)

/-- 'pylonlaw16.DemandGrows', WHERE WHAT IT READS IS OF BULK AT MOST 1048576: true; the input reads as it did. -/
def demandGrowsUptoRow : OpenClaim := { program := "ytapimggcnneabaa", sum := "7f07cb027e0699f59ab07dcc0521dcb0d4ec61379921673f6a5619879af726bd", func := "pylon/pylonlaw16.DemandGrows", spec := "demandGrows", inPlace := ["math.Float64bits", "math.Float64frombits", "math.archTrunc", "math/bits.Add64"], named := ["math/bits.divideError", "math/bits.overflowError"], apart := false, narrowed := true }
def DemandGrowsUptoSaid : Prop := demandGrowsUptoRow.holds Try.pinned (OpenSpec.upto demandGrowsSpec)

/-- 'pylonlaw16.DemandActive', WHERE WHAT IT READS IS OF BULK AT MOST 1048576: true; the input reads as it did. -/
def demandActiveUptoRow : OpenClaim := { program := "ytapimggcnneabaa", sum := "7f07cb027e0699f59ab07dcc0521dcb0d4ec61379921673f6a5619879af726bd", func := "pylon/pylonlaw16.DemandActive", spec := "demandActive", inPlace := ["math.Float64bits", "math.Float64frombits", "math.archTrunc", "math/bits.Add64"], named := ["math/bits.divideError", "math/bits.overflowError"], apart := false, narrowed := true }
def DemandActiveUptoSaid : Prop := demandActiveUptoRow.holds Try.pinned (OpenSpec.upto demandActiveSpec)

/-- 'pylonlaw16.DemandKeeps', WHERE WHAT IT READS IS OF BULK AT MOST 1048576: true; the input reads as it did. -/
def demandKeepsUptoRow : OpenClaim := { program := "ytapimggcnneabaa", sum := "7f07cb027e0699f59ab07dcc0521dcb0d4ec61379921673f6a5619879af726bd", func := "pylon/pylonlaw16.DemandKeeps", spec := "demandKeeps", inPlace := ["math.Float64bits", "math.Float64frombits", "math.archTrunc", "math/bits.Add64"], named := ["math/bits.divideError", "math/bits.overflowError"], apart := false, narrowed := true }
def DemandKeepsUptoSaid : Prop := demandKeepsUptoRow.holds Try.pinned (OpenSpec.upto demandKeepsSpec)

end Rows
end Go.Proofs.Ytapimggcnneabaa
