/-
  DERIVED. GIVEN WITH THE SEED: THE CARDS: each row of YtkhifpbokgabbaaGreatDoorRows.lean that lists a variable, with what it lists TIED to the program's text (the seventh form; the later family's looks); each row that meets fmt, with fmt's text TOLD by the authors' own Lean function (tested against real Go, not proved from fmt's source: count such statements apart). THE CARD IS WHAT COUNTS. Prove the row's statement (the work); the ties are given (YtkhifpbokgabbaaGreatDoorTie.lean); close each card by the builder's one call (the guide's Derived/Test/ToyasCard.lean, 'card_holds'). Laid BY PROGRAM, IN A SANDBOX (cutbox-door.mjs). By AI agents, Wed Nov 11 2026. No macro, syntax, notation, axiom, sorry.
-/
import Derived.Test.YtkhifpbokgabbaaGreatDoorRows
import GoSem.ClaimSeven
namespace Go.Proofs.YtkhifpbokgabbaaGreatDoor
namespace Rows

/-- THE TIED CARD OF 'arenanetlaw18.MachineLocal'. -/
def machineLocalCard : Claim7 := { stood := { row := machineLocalRow, standIns := [], harness := (true, "93372142a2bab3b6737b5c14a7f018f99e344e22d0c708dee8fcf17baf73b0df"), looks := false }, kinds := [], alts := [], laidByText := true, laidKinds := [.data, .data], laidTests := true, laidLooks := .later }
def MachineLocalCardSaid : Prop := Claim7.holds Tryz.pinned (.plain (OpenSpec.ofChange machineLocalSpec)) machineLocalCard

/-- THE SECOND FORM's CARD OF 'arenanetlaw18.MachineLocal'. -/
def machineLocalUptoCard : Claim7 := { stood := { row := machineLocalUptoRow, standIns := [], harness := (true, "93372142a2bab3b6737b5c14a7f018f99e344e22d0c708dee8fcf17baf73b0df"), looks := false }, kinds := [], alts := [], laidByText := true, laidKinds := [.data, .data], laidTests := true, laidLooks := .later }
def MachineLocalUptoCardSaid : Prop := Claim7.holds Tryz.pinned (.plain (OpenSpec.upto machineLocalSpec)) machineLocalUptoCard
end Rows
end Go.Proofs.YtkhifpbokgabbaaGreatDoor
