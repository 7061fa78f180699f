/-
  DERIVED. GIVEN WITH THE SEED: THE CARDS: each row of YthejabcfbbmkeaaDoorRows.lean that lists a variable, with what it lists TIED to the program's text (the seventh form; the later family's looks); each row that meets fmt, with fmt's text TOLD by the authors' own Lean function (tested against real Go, not proved from fmt's source: count such statements apart). THE CARD IS WHAT COUNTS. Prove the row's statement (the work); the ties are given (YthejabcfbbmkeaaDoorTie.lean); close each card by the builder's one call (the guide's Derived/Test/ToyasCard.lean, 'card_holds'). Laid BY PROGRAM, IN A SANDBOX (cutbox-door.mjs). By AI agents, Wed Nov 11 2026. No macro, syntax, notation, axiom, sorry.
-/
import Derived.Test.YthejabcfbbmkeaaDoorRows
import GoSem.ClaimSeven
namespace Go.Proofs.YthejabcfbbmkeaaDoor
namespace Rows

/-- THE TIED CARD OF 'pylonlaw01.FixHalves'. -/
def fixHalvesCard : Claim7 := { stood := { row := fixHalvesRow, standIns := [], harness := (true, "06bd059c6035e4d7c73d44ecac8991b9f771a21d9d4086929fa55cfaf7a31b80"), looks := true }, kinds := [], alts := [], laidByText := true, laidKinds := [.data, .data, .data], laidTests := true, laidLooks := .later }
def FixHalvesCardSaid : Prop := Claim7.holds Tryd.pinned (.plain (OpenSpec.ofChange fixHalvesSpec)) fixHalvesCard

/-- THE TIED CARD OF 'pylonlaw01.FixNames'. -/
def fixNamesCard : Claim7 := { stood := { row := fixNamesRow, standIns := [], harness := (true, "06bd059c6035e4d7c73d44ecac8991b9f771a21d9d4086929fa55cfaf7a31b80"), looks := true }, kinds := [], alts := [], laidByText := true, laidKinds := [.data, .data, .data], laidTests := true, laidLooks := .later }
def FixNamesCardSaid : Prop := Claim7.holds Tryd.pinned (.plain (OpenSpec.ofChange fixNamesSpec)) fixNamesCard

/-- THE TIED CARD OF 'pylonlaw01.FixDivs'. -/
def fixDivsCard : Claim7 := { stood := { row := fixDivsRow, standIns := [], harness := (true, "06bd059c6035e4d7c73d44ecac8991b9f771a21d9d4086929fa55cfaf7a31b80"), looks := true }, kinds := [], alts := [], laidByText := true, laidKinds := [.data, .data, .data], laidTests := true, laidLooks := .later }
def FixDivsCardSaid : Prop := Claim7.holds Tryd.pinned (.plain (OpenSpec.ofChange fixDivsSpec)) fixDivsCard

/-- THE TIED CARD OF 'pylonlaw01.FixSums'. -/
def fixSumsCard : Claim7 := { stood := { row := fixSumsRow, standIns := [], harness := (true, "06bd059c6035e4d7c73d44ecac8991b9f771a21d9d4086929fa55cfaf7a31b80"), looks := true }, kinds := [], alts := [], laidByText := true, laidKinds := [.data, .data, .data], laidTests := true, laidLooks := .later }
def FixSumsCardSaid : Prop := Claim7.holds Tryd.pinned (.plain (OpenSpec.ofChange fixSumsSpec)) fixSumsCard

/-- THE TIED CARD OF 'pylonlaw01.FixRoots'. -/
def fixRootsCard : Claim7 := { stood := { row := fixRootsRow, standIns := [], harness := (true, "06bd059c6035e4d7c73d44ecac8991b9f771a21d9d4086929fa55cfaf7a31b80"), looks := true }, kinds := [], alts := [], laidByText := true, laidKinds := [.data, .data, .data], laidTests := true, laidLooks := .later }
def FixRootsCardSaid : Prop := Claim7.holds Tryd.pinned (.plain (OpenSpec.ofChange fixRootsSpec)) fixRootsCard

/-- THE TIED CARD OF 'pylonlaw01.FixBack'. -/
def fixBackCard : Claim7 := { stood := { row := fixBackRow, standIns := [], harness := (true, "06bd059c6035e4d7c73d44ecac8991b9f771a21d9d4086929fa55cfaf7a31b80"), looks := true }, kinds := [], alts := [], laidByText := true, laidKinds := [.data, .data, .data, .sentinel, .sentinel], laidTests := true, laidLooks := .later }
def FixBackCardSaid : Prop := Claim7.holds Tryd.pinned (.plain (OpenSpec.ofChange fixBackSpec)) fixBackCard

/-- THE TIED CARD OF 'pylonlaw01.FixReads'. -/
def fixReadsCard : Claim7 := { stood := { row := fixReadsRow, standIns := [], harness := (true, "06bd059c6035e4d7c73d44ecac8991b9f771a21d9d4086929fa55cfaf7a31b80"), looks := true }, kinds := [], alts := [], laidByText := true, laidKinds := [.data, .data, .data, .sentinel, .sentinel], laidTests := true, laidLooks := .later }
def FixReadsCardSaid : Prop := Claim7.holds Tryd.pinned (.plain (OpenSpec.ofChange fixReadsSpec)) fixReadsCard

/-- THE TIED CARD OF 'pylonlaw01.FixAll'. -/
def fixAllCard : Claim7 := { stood := { row := fixAllRow, standIns := [], harness := (true, "06bd059c6035e4d7c73d44ecac8991b9f771a21d9d4086929fa55cfaf7a31b80"), looks := true }, kinds := [], alts := [], laidByText := true, laidKinds := [.data, .data, .data, .sentinel, .sentinel], laidTests := true, laidLooks := .later }
def FixAllCardSaid : Prop := Claim7.holds Tryd.pinned (.plain (OpenSpec.ofChange fixAllSpec)) fixAllCard

/-- THE SECOND FORM's CARD OF 'pylonlaw01.FixHalves'. -/
def fixHalvesUptoCard : Claim7 := { stood := { row := fixHalvesUptoRow, standIns := [], harness := (true, "06bd059c6035e4d7c73d44ecac8991b9f771a21d9d4086929fa55cfaf7a31b80"), looks := true }, kinds := [], alts := [], laidByText := true, laidKinds := [.data, .data, .data], laidTests := true, laidLooks := .later }
def FixHalvesUptoCardSaid : Prop := Claim7.holds Tryd.pinned (.plain (OpenSpec.upto fixHalvesSpec)) fixHalvesUptoCard

/-- THE SECOND FORM's CARD OF 'pylonlaw01.FixNames'. -/
def fixNamesUptoCard : Claim7 := { stood := { row := fixNamesUptoRow, standIns := [], harness := (true, "06bd059c6035e4d7c73d44ecac8991b9f771a21d9d4086929fa55cfaf7a31b80"), looks := true }, kinds := [], alts := [], laidByText := true, laidKinds := [.data, .data, .data], laidTests := true, laidLooks := .later }
def FixNamesUptoCardSaid : Prop := Claim7.holds Tryd.pinned (.plain (OpenSpec.upto fixNamesSpec)) fixNamesUptoCard

/-- THE SECOND FORM's CARD OF 'pylonlaw01.FixDivs'. -/
def fixDivsUptoCard : Claim7 := { stood := { row := fixDivsUptoRow, standIns := [], harness := (true, "06bd059c6035e4d7c73d44ecac8991b9f771a21d9d4086929fa55cfaf7a31b80"), looks := true }, kinds := [], alts := [], laidByText := true, laidKinds := [.data, .data, .data], laidTests := true, laidLooks := .later }
def FixDivsUptoCardSaid : Prop := Claim7.holds Tryd.pinned (.plain (OpenSpec.upto fixDivsSpec)) fixDivsUptoCard

/-- THE SECOND FORM's CARD OF 'pylonlaw01.FixSums'. -/
def fixSumsUptoCard : Claim7 := { stood := { row := fixSumsUptoRow, standIns := [], harness := (true, "06bd059c6035e4d7c73d44ecac8991b9f771a21d9d4086929fa55cfaf7a31b80"), looks := true }, kinds := [], alts := [], laidByText := true, laidKinds := [.data, .data, .data], laidTests := true, laidLooks := .later }
def FixSumsUptoCardSaid : Prop := Claim7.holds Tryd.pinned (.plain (OpenSpec.upto fixSumsSpec)) fixSumsUptoCard

/-- THE SECOND FORM's CARD OF 'pylonlaw01.FixRoots'. -/
def fixRootsUptoCard : Claim7 := { stood := { row := fixRootsUptoRow, standIns := [], harness := (true, "06bd059c6035e4d7c73d44ecac8991b9f771a21d9d4086929fa55cfaf7a31b80"), looks := true }, kinds := [], alts := [], laidByText := true, laidKinds := [.data, .data, .data], laidTests := true, laidLooks := .later }
def FixRootsUptoCardSaid : Prop := Claim7.holds Tryd.pinned (.plain (OpenSpec.upto fixRootsSpec)) fixRootsUptoCard

/-- THE SECOND FORM's CARD OF 'pylonlaw01.FixBack'. -/
def fixBackUptoCard : Claim7 := { stood := { row := fixBackUptoRow, standIns := [], harness := (true, "06bd059c6035e4d7c73d44ecac8991b9f771a21d9d4086929fa55cfaf7a31b80"), looks := true }, kinds := [], alts := [], laidByText := true, laidKinds := [.data, .data, .data, .sentinel, .sentinel], laidTests := true, laidLooks := .later }
def FixBackUptoCardSaid : Prop := Claim7.holds Tryd.pinned (.plain (OpenSpec.upto fixBackSpec)) fixBackUptoCard

/-- THE SECOND FORM's CARD OF 'pylonlaw01.FixReads'. -/
def fixReadsUptoCard : Claim7 := { stood := { row := fixReadsUptoRow, standIns := [], harness := (true, "06bd059c6035e4d7c73d44ecac8991b9f771a21d9d4086929fa55cfaf7a31b80"), looks := true }, kinds := [], alts := [], laidByText := true, laidKinds := [.data, .data, .data, .sentinel, .sentinel], laidTests := true, laidLooks := .later }
def FixReadsUptoCardSaid : Prop := Claim7.holds Tryd.pinned (.plain (OpenSpec.upto fixReadsSpec)) fixReadsUptoCard

/-- THE SECOND FORM's CARD OF 'pylonlaw01.FixAll'. -/
def fixAllUptoCard : Claim7 := { stood := { row := fixAllUptoRow, standIns := [], harness := (true, "06bd059c6035e4d7c73d44ecac8991b9f771a21d9d4086929fa55cfaf7a31b80"), looks := true }, kinds := [], alts := [], laidByText := true, laidKinds := [.data, .data, .data, .sentinel, .sentinel], laidTests := true, laidLooks := .later }
def FixAllUptoCardSaid : Prop := Claim7.holds Tryd.pinned (.plain (OpenSpec.upto fixAllSpec)) fixAllUptoCard
end Rows
end Go.Proofs.YthejabcfbbmkeaaDoor
