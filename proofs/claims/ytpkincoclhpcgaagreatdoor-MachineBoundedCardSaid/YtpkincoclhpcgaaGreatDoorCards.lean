/-
  DERIVED. GIVEN WITH THE SEED: THE CARDS: each row of YtpkincoclhpcgaaGreatDoorRows.lean that lists a variable, with what it lists TIED to the program's text (the seventh form; the later family's looks); each row that meets fmt, with fmt's text TOLD by the authors' own Lean function (tested against real Go, not proved from fmt's source: count such statements apart). THE CARD IS WHAT COUNTS. Prove the row's statement (the work); the ties are given (YtpkincoclhpcgaaGreatDoorTie.lean); close each card by the builder's one call (the guide's Derived/Test/ToyasCard.lean, 'card_holds'). Laid BY PROGRAM, IN A SANDBOX (cutbox-door.mjs). By AI agents, Wed Nov 11 2026. No macro, syntax, notation, axiom, sorry.
-/
import Derived.Test.YtpkincoclhpcgaaGreatDoorRows
import GoSem.ClaimSeven
namespace Go.Proofs.YtpkincoclhpcgaaGreatDoor
namespace Rows

/-- THE TIED CARD OF 'arenanetlaw18.MachineQuiet'. -/
def machineQuietCard : Claim7 := { stood := { row := machineQuietRow, standIns := [], harness := (true, "2d73f916c06ad6b3cf94248796d3b6f784188be0a247a7120faeea50b6325b19"), looks := false }, kinds := [], alts := [], laidByText := true, laidKinds := [.data], laidTests := true, laidLooks := .later }
def MachineQuietCardSaid : Prop := Claim7.holds Tryz.pinned (.plain (OpenSpec.ofChange machineQuietSpec)) machineQuietCard

/-- THE TIED CARD OF 'arenanetlaw18.MachineBounded'. -/
def machineBoundedCard : Claim7 := { stood := { row := machineBoundedRow, standIns := [], harness := (true, "2d73f916c06ad6b3cf94248796d3b6f784188be0a247a7120faeea50b6325b19"), looks := false }, kinds := [], alts := [], laidByText := true, laidKinds := [.data], laidTests := true, laidLooks := .later }
def MachineBoundedCardSaid : Prop := Claim7.holds Tryz.pinned (.plain (OpenSpec.ofChange machineBoundedSpec)) machineBoundedCard

/-- THE TIED CARD OF 'arenanetlaw18.MachineSingle'. -/
def machineSingleCard : Claim7 := { stood := { row := machineSingleRow, standIns := [], harness := (true, "2d73f916c06ad6b3cf94248796d3b6f784188be0a247a7120faeea50b6325b19"), looks := false }, kinds := [], alts := [], laidByText := true, laidKinds := [.data], laidTests := true, laidLooks := .later }
def MachineSingleCardSaid : Prop := Claim7.holds Tryz.pinned (.plain (OpenSpec.ofChange machineSingleSpec)) machineSingleCard

/-- THE SECOND FORM's CARD OF 'arenanetlaw18.MachineQuiet'. -/
def machineQuietUptoCard : Claim7 := { stood := { row := machineQuietUptoRow, standIns := [], harness := (true, "2d73f916c06ad6b3cf94248796d3b6f784188be0a247a7120faeea50b6325b19"), looks := false }, kinds := [], alts := [], laidByText := true, laidKinds := [.data], laidTests := true, laidLooks := .later }
def MachineQuietUptoCardSaid : Prop := Claim7.holds Tryz.pinned (.plain (OpenSpec.upto machineQuietSpec)) machineQuietUptoCard

/-- THE SECOND FORM's CARD OF 'arenanetlaw18.MachineBounded'. -/
def machineBoundedUptoCard : Claim7 := { stood := { row := machineBoundedUptoRow, standIns := [], harness := (true, "2d73f916c06ad6b3cf94248796d3b6f784188be0a247a7120faeea50b6325b19"), looks := false }, kinds := [], alts := [], laidByText := true, laidKinds := [.data], laidTests := true, laidLooks := .later }
def MachineBoundedUptoCardSaid : Prop := Claim7.holds Tryz.pinned (.plain (OpenSpec.upto machineBoundedSpec)) machineBoundedUptoCard

/-- THE SECOND FORM's CARD OF 'arenanetlaw18.MachineSingle'. -/
def machineSingleUptoCard : Claim7 := { stood := { row := machineSingleUptoRow, standIns := [], harness := (true, "2d73f916c06ad6b3cf94248796d3b6f784188be0a247a7120faeea50b6325b19"), looks := false }, kinds := [], alts := [], laidByText := true, laidKinds := [.data], laidTests := true, laidLooks := .later }
def MachineSingleUptoCardSaid : Prop := Claim7.holds Tryz.pinned (.plain (OpenSpec.upto machineSingleSpec)) machineSingleUptoCard
end Rows
end Go.Proofs.YtpkincoclhpcgaaGreatDoor
