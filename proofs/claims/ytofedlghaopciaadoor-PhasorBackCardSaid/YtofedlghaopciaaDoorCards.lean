/-
  DERIVED. GIVEN WITH THE SEED: THE CARDS: each row of YtofedlghaopciaaDoorRows.lean that lists a variable, with what it lists TIED to the program's text (the seventh form; the later family's looks); each row that meets fmt, with fmt's text TOLD by the authors' own Lean function (tested against real Go, not proved from fmt's source: count such statements apart). THE CARD IS WHAT COUNTS. Prove the row's statement (the work); the ties are given (YtofedlghaopciaaDoorTie.lean); close each card by the builder's one call (the guide's Derived/Test/ToyasCard.lean, 'card_holds'). Laid BY PROGRAM, IN A SANDBOX (cutbox-door.mjs). By AI agents, Wed Nov 11 2026. No macro, syntax, notation, axiom, sorry.
-/
import Derived.Test.YtofedlghaopciaaDoorRows
import GoSem.ClaimSeven
namespace Go.Proofs.YtofedlghaopciaaDoor
namespace Rows

/-- THE TIED CARD OF 'pylonlaw02.PhasorBack'. -/
def phasorBackCard : Claim7 := { stood := { row := phasorBackRow, standIns := [], harness := (true, "71b5cefab0454e7126ee76271b69376ff6b15f7dc7bf0430baff9d8d807f9944"), looks := true }, kinds := [], alts := [], laidByText := true, laidKinds := [.data, .data, .data, .data, .sentinel, .sentinel, .pinned], laidTests := true, laidLooks := .later }
def PhasorBackCardSaid : Prop := Claim7.holds Tryd.pinned (.plain (OpenSpec.ofChange phasorBackSpec)) phasorBackCard

/-- THE TIED CARD OF 'pylonlaw02.PhasorReads'. -/
def phasorReadsCard : Claim7 := { stood := { row := phasorReadsRow, standIns := [], harness := (true, "71b5cefab0454e7126ee76271b69376ff6b15f7dc7bf0430baff9d8d807f9944"), looks := true }, kinds := [], alts := [], laidByText := true, laidKinds := [.data, .data, .data, .data, .sentinel, .sentinel, .pinned], laidTests := true, laidLooks := .later }
def PhasorReadsCardSaid : Prop := Claim7.holds Tryd.pinned (.plain (OpenSpec.ofChange phasorReadsSpec)) phasorReadsCard

/-- THE SECOND FORM's CARD OF 'pylonlaw02.PhasorBack'. -/
def phasorBackUptoCard : Claim7 := { stood := { row := phasorBackUptoRow, standIns := [], harness := (true, "71b5cefab0454e7126ee76271b69376ff6b15f7dc7bf0430baff9d8d807f9944"), looks := true }, kinds := [], alts := [], laidByText := true, laidKinds := [.data, .data, .data, .data, .sentinel, .sentinel, .pinned], laidTests := true, laidLooks := .later }
def PhasorBackUptoCardSaid : Prop := Claim7.holds Tryd.pinned (.plain (OpenSpec.upto phasorBackSpec)) phasorBackUptoCard

/-- THE SECOND FORM's CARD OF 'pylonlaw02.PhasorReads'. -/
def phasorReadsUptoCard : Claim7 := { stood := { row := phasorReadsUptoRow, standIns := [], harness := (true, "71b5cefab0454e7126ee76271b69376ff6b15f7dc7bf0430baff9d8d807f9944"), looks := true }, kinds := [], alts := [], laidByText := true, laidKinds := [.data, .data, .data, .data, .sentinel, .sentinel, .pinned], laidTests := true, laidLooks := .later }
def PhasorReadsUptoCardSaid : Prop := Claim7.holds Tryd.pinned (.plain (OpenSpec.upto phasorReadsSpec)) phasorReadsUptoCard
end Rows
end Go.Proofs.YtofedlghaopciaaDoor
