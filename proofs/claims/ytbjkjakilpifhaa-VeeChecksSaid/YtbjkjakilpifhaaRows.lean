/-
  No cell of these rows narrows 'for every input' (looked for: loops, veiled, ifaces, maps, wideKeys, modest, calm, conditions, laid).
  DERIVED. THE GIVEN ROWS OF THIS SEAT. 10 by the template 'for every input the law returns true; each argument reads behind the call as it read before'; 0 by the template 'total and deterministic' (their statements: YtbjkjakilpifhaaTotals.lean).
  GIVEN WITH THE SEED: the statements are not yours to turn. If you find one false, say at which input.
  Laid BY PROGRAM, IN A SANDBOX (cutbox-rows.mjs): the forced cells as the released guide's own fill.sh prints them over the translation 81d30e40c124fbae… (all of the seat's roots in one cut). By AI agents, Wed Nov 11 2026. No macro, syntax, notation, axiom, sorry.
-/
import Derived.Test.YtbjkjakilpifhaaChecked
import GoSem.Claim
import GoSem.ClaimJoined
import GoSem.ClaimMapViews
import Derived.JoinedTies
import Derived.KernelRfl
namespace Go.Proofs.Ytbjkjakilpifhaa
/- THE CELL 'sum', in the pinned program and in every row, IS THE sha256 OF THE DUMP (.gsa) THAT YtbjkjakilpifhaaProg.lean LOADS. Nothing in Lean hashes anything: it is a label: what it is worth is what the hold of that sum in a sandbox is worth. -/
noncomputable def Try.pinned : Pinned := { name := "ytbjkjakilpifhaa", sum := "81d30e40c124fbaeb904076ad99228583d040984cd3acd3d48ca859bfa1242d9", checked := Try.checked }
namespace Rows
def none {H : Type} : Left H := { results := [], args := [] }

/-- 'pylonlaw10.VeeChecks': WHATEVER THE INPUT: true; the input reads as it did. -/
def veeChecksSpec : ChangeSpec := { name := "veeChecks", fn := fun _ => fun
  | [d1, d2, d3] => { results := [.lit (.bool true)], args := [d1, d2, d3] }
  | _ => none }
def veeChecksRow : OpenClaim := { program := "ytbjkjakilpifhaa", sum := "81d30e40c124fbaeb904076ad99228583d040984cd3acd3d48ca859bfa1242d9", func := "pylon/pylonlaw10.VeeChecks", spec := "veeChecks", recurses := true, apart := false }
def VeeChecksSaid : Prop := veeChecksRow.holds Try.pinned (OpenSpec.ofChange veeChecksSpec)

/-- ITS FALSE NEIGHBOUR: 'it returns false'. Refute it at one input. -/
def veeChecksWrong : ChangeSpec := { name := "veeChecks", fn := fun _ => fun
  | [d1, d2, d3] => { results := [.lit (.bool false)], args := [d1, d2, d3] }
  | _ => none }
def VeeChecksWrongFalsely : Prop := veeChecksRow.holds Try.pinned (OpenSpec.ofChange veeChecksWrong)

/-- 'pylonlaw10.VeeFirst': WHATEVER THE INPUT: true; the input reads as it did. -/
def veeFirstSpec : ChangeSpec := { name := "veeFirst", fn := fun _ => fun
  | [d1, d2, d3] => { results := [.lit (.bool true)], args := [d1, d2, d3] }
  | _ => none }
def veeFirstRow : OpenClaim := { program := "ytbjkjakilpifhaa", sum := "81d30e40c124fbaeb904076ad99228583d040984cd3acd3d48ca859bfa1242d9", func := "pylon/pylonlaw10.VeeFirst", spec := "veeFirst", apart := false }
def VeeFirstSaid : Prop := veeFirstRow.holds Try.pinned (OpenSpec.ofChange veeFirstSpec)

/-- ITS FALSE NEIGHBOUR: 'it returns false'. Refute it at one input. -/
def veeFirstWrong : ChangeSpec := { name := "veeFirst", fn := fun _ => fun
  | [d1, d2, d3] => { results := [.lit (.bool false)], args := [d1, d2, d3] }
  | _ => none }
def VeeFirstWrongFalsely : Prop := veeFirstRow.holds Try.pinned (OpenSpec.ofChange veeFirstWrong)

/-- 'pylonlaw10.VeeWider': WHATEVER THE INPUT: true; the input reads as it did. -/
def veeWiderSpec : ChangeSpec := { name := "veeWider", fn := fun _ => fun
  | [d1, d2, d3, d4] => { results := [.lit (.bool true)], args := [d1, d2, d3, d4] }
  | _ => none }
def veeWiderRow : OpenClaim := { program := "ytbjkjakilpifhaa", sum := "81d30e40c124fbaeb904076ad99228583d040984cd3acd3d48ca859bfa1242d9", func := "pylon/pylonlaw10.VeeWider", spec := "veeWider", apart := false }
def VeeWiderSaid : Prop := veeWiderRow.holds Try.pinned (OpenSpec.ofChange veeWiderSpec)

/-- ITS FALSE NEIGHBOUR: 'it returns false'. Refute it at one input. -/
def veeWiderWrong : ChangeSpec := { name := "veeWider", fn := fun _ => fun
  | [d1, d2, d3, d4] => { results := [.lit (.bool false)], args := [d1, d2, d3, d4] }
  | _ => none }
def VeeWiderWrongFalsely : Prop := veeWiderRow.holds Try.pinned (OpenSpec.ofChange veeWiderWrong)

/-- 'pylonlaw10.VeeSuspect': WHATEVER THE INPUT: true; the input reads as it did. -/
def veeSuspectSpec : ChangeSpec := { name := "veeSuspect", fn := fun _ => fun
  | [d1, d2, d3, d4, d5, d6] => { results := [.lit (.bool true)], args := [d1, d2, d3, d4, d5, d6] }
  | _ => none }
def veeSuspectRow : OpenClaim := { program := "ytbjkjakilpifhaa", sum := "81d30e40c124fbaeb904076ad99228583d040984cd3acd3d48ca859bfa1242d9", func := "pylon/pylonlaw10.VeeSuspect", spec := "veeSuspect", apart := false }
def VeeSuspectSaid : Prop := veeSuspectRow.holds Try.pinned (OpenSpec.ofChange veeSuspectSpec)

/-- ITS FALSE NEIGHBOUR: 'it returns false'. Refute it at one input. -/
def veeSuspectWrong : ChangeSpec := { name := "veeSuspect", fn := fun _ => fun
  | [d1, d2, d3, d4, d5, d6] => { results := [.lit (.bool false)], args := [d1, d2, d3, d4, d5, d6] }
  | _ => none }
def VeeSuspectWrongFalsely : Prop := veeSuspectRow.holds Try.pinned (OpenSpec.ofChange veeSuspectWrong)

/-- 'pylonlaw10.VeeKeeps': WHATEVER THE INPUT: true; the input reads as it did. -/
def veeKeepsSpec : ChangeSpec := { name := "veeKeeps", fn := fun _ => fun
  | [d1, d2, d3] => { results := [.lit (.bool true)], args := [d1, d2, d3] }
  | _ => none }
def veeKeepsRow : OpenClaim := { program := "ytbjkjakilpifhaa", sum := "81d30e40c124fbaeb904076ad99228583d040984cd3acd3d48ca859bfa1242d9", func := "pylon/pylonlaw10.VeeKeeps", spec := "veeKeeps", apart := false }
def VeeKeepsSaid : Prop := veeKeepsRow.holds Try.pinned (OpenSpec.ofChange veeKeepsSpec)

/-- ITS FALSE NEIGHBOUR: 'it returns false'. Refute it at one input. -/
def veeKeepsWrong : ChangeSpec := { name := "veeKeeps", fn := fun _ => fun
  | [d1, d2, d3] => { results := [.lit (.bool false)], args := [d1, d2, d3] }
  | _ => none }
def VeeKeepsWrongFalsely : Prop := veeKeepsRow.holds Try.pinned (OpenSpec.ofChange veeKeepsWrong)

/-- 'pylonlaw18.RatchetBills': WHATEVER THE INPUT: true; the input reads as it did. -/
def ratchetBillsSpec : ChangeSpec := { name := "ratchetBills", fn := fun _ => fun
  | [d1, d2, d3] => { results := [.lit (.bool true)], args := [d1, d2, d3] }
  | _ => none }
def ratchetBillsRow : OpenClaim := { program := "ytbjkjakilpifhaa", sum := "81d30e40c124fbaeb904076ad99228583d040984cd3acd3d48ca859bfa1242d9", func := "pylon/pylonlaw18.RatchetBills", spec := "ratchetBills", inPlace := ["math/bits.Add64"], named := ["math/bits.divideError", "math/bits.overflowError"], apart := false }
def RatchetBillsSaid : Prop := ratchetBillsRow.holds Try.pinned (OpenSpec.ofChange ratchetBillsSpec)

/-- ITS FALSE NEIGHBOUR: 'it returns false'. Refute it at one input. -/
def ratchetBillsWrong : ChangeSpec := { name := "ratchetBills", fn := fun _ => fun
  | [d1, d2, d3] => { results := [.lit (.bool false)], args := [d1, d2, d3] }
  | _ => none }
def RatchetBillsWrongFalsely : Prop := ratchetBillsRow.holds Try.pinned (OpenSpec.ofChange ratchetBillsWrong)

/-- 'pylonlaw18.RatchetCharges': WHATEVER THE INPUT: true; the input reads as it did. -/
def ratchetChargesSpec : ChangeSpec := { name := "ratchetCharges", fn := fun _ => fun
  | [d1, d2] => { results := [.lit (.bool true)], args := [d1, d2] }
  | _ => none }
def ratchetChargesRow : OpenClaim := { program := "ytbjkjakilpifhaa", sum := "81d30e40c124fbaeb904076ad99228583d040984cd3acd3d48ca859bfa1242d9", func := "pylon/pylonlaw18.RatchetCharges", spec := "ratchetCharges", inPlace := ["math/bits.Add64"], named := ["math/bits.divideError", "math/bits.overflowError"], apart := false }
def RatchetChargesSaid : Prop := ratchetChargesRow.holds Try.pinned (OpenSpec.ofChange ratchetChargesSpec)

/-- ITS FALSE NEIGHBOUR: 'it returns false'. Refute it at one input. -/
def ratchetChargesWrong : ChangeSpec := { name := "ratchetCharges", fn := fun _ => fun
  | [d1, d2] => { results := [.lit (.bool false)], args := [d1, d2] }
  | _ => none }
def RatchetChargesWrongFalsely : Prop := ratchetChargesRow.holds Try.pinned (OpenSpec.ofChange ratchetChargesWrong)

/-- 'pylonlaw18.RatchetHolds': WHATEVER THE INPUT: true; the input reads as it did. -/
def ratchetHoldsSpec : ChangeSpec := { name := "ratchetHolds", fn := fun _ => fun
  | [d1, d2, d3] => { results := [.lit (.bool true)], args := [d1, d2, d3] }
  | _ => none }
def ratchetHoldsRow : OpenClaim := { program := "ytbjkjakilpifhaa", sum := "81d30e40c124fbaeb904076ad99228583d040984cd3acd3d48ca859bfa1242d9", func := "pylon/pylonlaw18.RatchetHolds", spec := "ratchetHolds", inPlace := ["math/bits.Add64"], named := ["math/bits.divideError", "math/bits.overflowError"], apart := false }
def RatchetHoldsSaid : Prop := ratchetHoldsRow.holds Try.pinned (OpenSpec.ofChange ratchetHoldsSpec)

/-- ITS FALSE NEIGHBOUR: 'it returns false'. Refute it at one input. -/
def ratchetHoldsWrong : ChangeSpec := { name := "ratchetHolds", fn := fun _ => fun
  | [d1, d2, d3] => { results := [.lit (.bool false)], args := [d1, d2, d3] }
  | _ => none }
def RatchetHoldsWrongFalsely : Prop := ratchetHoldsRow.holds Try.pinned (OpenSpec.ofChange ratchetHoldsWrong)

/-- 'pylonlaw18.RatchetLooks': WHATEVER THE INPUT: true; the input reads as it did. -/
def ratchetLooksSpec : ChangeSpec := { name := "ratchetLooks", fn := fun _ => fun
  | [d1, d2, d3, d4] => { results := [.lit (.bool true)], args := [d1, d2, d3, d4] }
  | _ => none }
def ratchetLooksRow : OpenClaim := { program := "ytbjkjakilpifhaa", sum := "81d30e40c124fbaeb904076ad99228583d040984cd3acd3d48ca859bfa1242d9", func := "pylon/pylonlaw18.RatchetLooks", spec := "ratchetLooks", inPlace := ["math/bits.Add64"], named := ["math/bits.divideError", "math/bits.overflowError"], apart := false }
def RatchetLooksSaid : Prop := ratchetLooksRow.holds Try.pinned (OpenSpec.ofChange ratchetLooksSpec)

/-- ITS FALSE NEIGHBOUR: 'it returns false'. Refute it at one input. -/
def ratchetLooksWrong : ChangeSpec := { name := "ratchetLooks", fn := fun _ => fun
  | [d1, d2, d3, d4] => { results := [.lit (.bool false)], args := [d1, d2, d3, d4] }
  | _ => none }
def RatchetLooksWrongFalsely : Prop := ratchetLooksRow.holds Try.pinned (OpenSpec.ofChange ratchetLooksWrong)

/-- 'pylonlaw18.RatchetKeeps': WHATEVER THE INPUT: true; the input reads as it did. -/
def ratchetKeepsSpec : ChangeSpec := { name := "ratchetKeeps", fn := fun _ => fun
  | [d1, d2, d3] => { results := [.lit (.bool true)], args := [d1, d2, d3] }
  | _ => none }
def ratchetKeepsRow : OpenClaim := { program := "ytbjkjakilpifhaa", sum := "81d30e40c124fbaeb904076ad99228583d040984cd3acd3d48ca859bfa1242d9", func := "pylon/pylonlaw18.RatchetKeeps", spec := "ratchetKeeps", inPlace := ["math/bits.Add64"], named := ["math/bits.divideError", "math/bits.overflowError"], apart := false }
def RatchetKeepsSaid : Prop := ratchetKeepsRow.holds Try.pinned (OpenSpec.ofChange ratchetKeepsSpec)

/-- ITS FALSE NEIGHBOUR: 'it returns false'. Refute it at one input. -/
def ratchetKeepsWrong : ChangeSpec := { name := "ratchetKeeps", fn := fun _ => fun
  | [d1, d2, d3] => { results := [.lit (.bool false)], args := [d1, d2, d3] }
  | _ => none }
def RatchetKeepsWrongFalsely : Prop := ratchetKeepsRow.holds Try.pinned (OpenSpec.ofChange ratchetKeepsWrong)

/- THE SECOND FORM. 'bulk': how many values and letters a reading holds, each counted each time it is reached (what is shared counts as often as it is met; a slice's spare places count too). A statement '..UptoSaid' is the law's where the arguments, and the package variables that the reading takes, are together of bulk at most 1048576: NARROWER than '..Said'. Prove '..Said' where nothing that the law and all that it calls make is longer than what came in: it says more and counts as full. Else prove '..UptoSaid'. A law counts once. -/
mutual
def uptoBulk {H : Type} : DataW H → Nat
  | .lit (.string bytes) => bytes.length + 1
  | .lit _ => 1
  | .nil => 1
  | .ptr d => uptoBulk d + 1
  | .slice elems spare => uptoBulkAll elems + uptoBulkAll spare + 1
  | .agg parts => uptoBulkAll parts + 1
  | .iface _ d => uptoBulk d + 1
  | .map entries => uptoBulkEntries entries + 1
  | .held _ => 1
def uptoBulkAll {H : Type} : List (DataW H) → Nat
  | [] => 0
  | d :: r => uptoBulk d + uptoBulkAll r
def uptoBulkEntries {H : Type} : List (Lit × DataW H) → Nat
  | [] => 0
  | x :: r => uptoBulkEntry x + uptoBulkEntries r
def uptoBulkEntry {H : Type} : Lit × DataW H → Nat
  | (.string bytes, d) => bytes.length + uptoBulk d + 1
  | (_, d) => uptoBulk d + 1
 end
def uptoSmall : (H : Type) → List (DataW H) → Bool := fun _ ds => decide (uptoBulkAll ds ≤ 1048576)
def OpenSpec.upto (s : _root_.Go.ChangeSpec) : _root_.Go.OpenSpec := { _root_.Go.OpenSpec.ofChange s with cond := some uptoSmall }

/-- 'pylonlaw10.VeeChecks', WHERE WHAT IT READS IS OF BULK AT MOST 1048576: true; the input reads as it did. -/
def veeChecksUptoRow : OpenClaim := { program := "ytbjkjakilpifhaa", sum := "81d30e40c124fbaeb904076ad99228583d040984cd3acd3d48ca859bfa1242d9", func := "pylon/pylonlaw10.VeeChecks", spec := "veeChecks", recurses := true, apart := false, narrowed := true }
def VeeChecksUptoSaid : Prop := veeChecksUptoRow.holds Try.pinned (OpenSpec.upto veeChecksSpec)

/-- 'pylonlaw10.VeeFirst', WHERE WHAT IT READS IS OF BULK AT MOST 1048576: true; the input reads as it did. -/
def veeFirstUptoRow : OpenClaim := { program := "ytbjkjakilpifhaa", sum := "81d30e40c124fbaeb904076ad99228583d040984cd3acd3d48ca859bfa1242d9", func := "pylon/pylonlaw10.VeeFirst", spec := "veeFirst", apart := false, narrowed := true }
def VeeFirstUptoSaid : Prop := veeFirstUptoRow.holds Try.pinned (OpenSpec.upto veeFirstSpec)

/-- 'pylonlaw10.VeeWider', WHERE WHAT IT READS IS OF BULK AT MOST 1048576: true; the input reads as it did. -/
def veeWiderUptoRow : OpenClaim := { program := "ytbjkjakilpifhaa", sum := "81d30e40c124fbaeb904076ad99228583d040984cd3acd3d48ca859bfa1242d9", func := "pylon/pylonlaw10.VeeWider", spec := "veeWider", apart := false, narrowed := true }
def VeeWiderUptoSaid : Prop := veeWiderUptoRow.holds Try.pinned (OpenSpec.upto veeWiderSpec)

/-- 'pylonlaw10.VeeSuspect', WHERE WHAT IT READS IS OF BULK AT MOST 1048576: true; the input reads as it did. -/
def veeSuspectUptoRow : OpenClaim := { program := "ytbjkjakilpifhaa", sum := "81d30e40c124fbaeb904076ad99228583d040984cd3acd3d48ca859bfa1242d9", func := "pylon/pylonlaw10.VeeSuspect", spec := "veeSuspect", apart := false, narrowed := true }
def VeeSuspectUptoSaid : Prop := veeSuspectUptoRow.holds Try.pinned (OpenSpec.upto veeSuspectSpec)

/-- 'pylonlaw10.VeeKeeps', WHERE WHAT IT READS IS OF BULK AT MOST 1048576: true; the input reads as it did. -/
def veeKeepsUptoRow : OpenClaim := { program := "ytbjkjakilpifhaa", sum := "81d30e40c124fbaeb904076ad99228583d040984cd3acd3d48ca859bfa1242d9", func := "pylon/pylonlaw10.VeeKeeps", spec := "veeKeeps", apart := false, narrowed := true }
def VeeKeepsUptoSaid : Prop := veeKeepsUptoRow.holds Try.pinned (OpenSpec.upto veeKeepsSpec)

/-- 'pylonlaw18.RatchetBills', WHERE WHAT IT READS IS OF BULK AT MOST 1048576: true; the input reads as it did. -/
def ratchetBillsUptoRow : OpenClaim := { program := "ytbjkjakilpifhaa", sum := "81d30e40c124fbaeb904076ad99228583d040984cd3acd3d48ca859bfa1242d9", func := "pylon/pylonlaw18.RatchetBills", spec := "ratchetBills", inPlace := ["math/bits.Add64"], named := ["math/bits.divideError", "math/bits.overflowError"], apart := false, narrowed := true }
def RatchetBillsUptoSaid : Prop := ratchetBillsUptoRow.holds Try.pinned (OpenSpec.upto ratchetBillsSpec)

/-- 'pylonlaw18.RatchetCharges', WHERE WHAT IT READS IS OF BULK AT MOST 1048576: true; the input reads as it did. -/
def ratchetChargesUptoRow : OpenClaim := { program := "ytbjkjakilpifhaa", sum := "81d30e40c124fbaeb904076ad99228583d040984cd3acd3d48ca859bfa1242d9", func := "pylon/pylonlaw18.RatchetCharges", spec := "ratchetCharges", inPlace := ["math/bits.Add64"], named := ["math/bits.divideError", "math/bits.overflowError"], apart := false, narrowed := true }
def RatchetChargesUptoSaid : Prop := ratchetChargesUptoRow.holds Try.pinned (OpenSpec.upto ratchetChargesSpec)

/-- 'pylonlaw18.RatchetHolds', WHERE WHAT IT READS IS OF BULK AT MOST 1048576: true; the input reads as it did. -/
def ratchetHoldsUptoRow : OpenClaim := { program := "ytbjkjakilpifhaa", sum := "81d30e40c124fbaeb904076ad99228583d040984cd3acd3d48ca859bfa1242d9", func := "pylon/pylonlaw18.RatchetHolds", spec := "ratchetHolds", inPlace := ["math/bits.Add64"], named := ["math/bits.divideError", "math/bits.overflowError"], apart := false, narrowed := true }
def RatchetHoldsUptoSaid : Prop := ratchetHoldsUptoRow.holds Try.pinned (OpenSpec.upto ratchetHoldsSpec)

/-- 'pylonlaw18.RatchetLooks', WHERE WHAT IT READS IS OF BULK AT MOST 1048576: true; the input reads as it did. -/
def ratchetLooksUptoRow : OpenClaim := { program := "ytbjkjakilpifhaa", sum := "81d30e40c124fbaeb904076ad99228583d040984cd3acd3d48ca859bfa1242d9", func := "pylon/pylonlaw18.RatchetLooks", spec := "ratchetLooks", inPlace := ["math/bits.Add64"], named := ["math/bits.divideError", "math/bits.overflowError"], apart := false, narrowed := true }
def RatchetLooksUptoSaid : Prop := ratchetLooksUptoRow.holds Try.pinned (OpenSpec.upto ratchetLooksSpec)

/-- 'pylonlaw18.RatchetKeeps', WHERE WHAT IT READS IS OF BULK AT MOST 1048576: true; the input reads as it did. -/
def ratchetKeepsUptoRow : OpenClaim := { program := "ytbjkjakilpifhaa", sum := "81d30e40c124fbaeb904076ad99228583d040984cd3acd3d48ca859bfa1242d9", func := "pylon/pylonlaw18.RatchetKeeps", spec := "ratchetKeeps", inPlace := ["math/bits.Add64"], named := ["math/bits.divideError", "math/bits.overflowError"], apart := false, narrowed := true }
def RatchetKeepsUptoSaid : Prop := ratchetKeepsUptoRow.holds Try.pinned (OpenSpec.upto ratchetKeepsSpec)

end Rows
end Go.Proofs.Ytbjkjakilpifhaa
