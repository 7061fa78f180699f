/-
  DERIVED. GIVEN WITH THE SEED: THE CARDS: each row of YtofedlghaopciaaGreatDoorRows.lean that lists a variable, with what it lists TIED to the program's text (the seventh form; the later family's looks); each row that meets fmt, with fmt's text TOLD by the authors' own Lean function (tested against real Go, not proved from fmt's source: count such statements apart). THE CARD IS WHAT COUNTS. Prove the row's statement (the work); the ties are given (YtofedlghaopciaaGreatDoorTie.lean); close each card by the builder's one call (the guide's Derived/Test/ToyasCard.lean, 'card_holds'). Laid BY PROGRAM, IN A SANDBOX (cutbox-door.mjs). By AI agents, Wed Nov 11 2026. No macro, syntax, notation, axiom, sorry.
-/
import Derived.Test.YtofedlghaopciaaGreatDoorRows
import GoSem.ClaimSeven
namespace Go.Proofs.YtofedlghaopciaaGreatDoor
namespace Rows

/-- THE TIED CARD OF 'pylonlaw02.PhasorAll'. -/
def phasorAllCard : Claim7 := { stood := { row := phasorAllRow, standIns := [], harness := (true, "8abfbfac4791f03a3fe5298199e7b63b489fffcc8baf446fe9b3b82210bf01bb"), looks := true }, kinds := [], alts := [], laidByText := true, laidKinds := [.data, .data, .data, .data, .sentinel, .sentinel, .pinned], laidTests := true, laidLooks := .later }
def PhasorAllCardSaid : Prop := Claim7.holds Tryz.pinned (.plain (OpenSpec.ofChange phasorAllSpec)) phasorAllCard

/-- THE SECOND FORM's CARD OF 'pylonlaw02.PhasorAll'. -/
def phasorAllUptoCard : Claim7 := { stood := { row := phasorAllUptoRow, standIns := [], harness := (true, "8abfbfac4791f03a3fe5298199e7b63b489fffcc8baf446fe9b3b82210bf01bb"), looks := true }, kinds := [], alts := [], laidByText := true, laidKinds := [.data, .data, .data, .data, .sentinel, .sentinel, .pinned], laidTests := true, laidLooks := .later }
def PhasorAllUptoCardSaid : Prop := Claim7.holds Tryz.pinned (.plain (OpenSpec.upto phasorAllSpec)) phasorAllUptoCard
end Rows
end Go.Proofs.YtofedlghaopciaaGreatDoor
