/-
  DERIVED. GIVEN WITH THE SEED: THE CARDS: each row of YtampdcgphdnnhaaGreatDoorRows.lean that lists a variable, with what it lists TIED to the program's text (the seventh form; the later family's looks); each row that meets fmt, with fmt's text TOLD by the authors' own Lean function (tested against real Go, not proved from fmt's source: count such statements apart). THE CARD IS WHAT COUNTS. Prove the row's statement (the work); the ties are given (YtampdcgphdnnhaaGreatDoorTie.lean); close each card by the builder's one call (the guide's Derived/Test/ToyasCard.lean, 'card_holds'). Laid BY PROGRAM, IN A SANDBOX (cutbox-door.mjs). By AI agents, Wed Nov 11 2026. No macro, syntax, notation, axiom, sorry.
-/
import Derived.Test.YtampdcgphdnnhaaGreatDoorRows
import GoSem.ClaimSeven
namespace Go.Proofs.YtampdcgphdnnhaaGreatDoor
namespace Rows

/-- THE TIED CARD OF 'arenanetlaw18.MachineEnds'. -/
def machineEndsCard : Claim7 := { stood := { row := machineEndsRow, standIns := [], harness := (true, "2d7514b772b772fb62c664bcb4c8d208a1417b57467884861dbfc200f824f741"), looks := false }, kinds := [], alts := [], laidByText := true, laidKinds := [.data, .data], laidTests := true, laidLooks := .later }
def MachineEndsCardSaid : Prop := Claim7.holds Tryz.pinned (.plain (OpenSpec.ofChange machineEndsSpec)) machineEndsCard

/-- THE TIED CARD OF 'arenanetlaw18.MachinePhases'. -/
def machinePhasesCard : Claim7 := { stood := { row := machinePhasesRow, standIns := [], harness := (true, "2d7514b772b772fb62c664bcb4c8d208a1417b57467884861dbfc200f824f741"), looks := false }, kinds := [], alts := [], laidByText := true, laidKinds := [.data, .data], laidTests := true, laidLooks := .later }
def MachinePhasesCardSaid : Prop := Claim7.holds Tryz.pinned (.plain (OpenSpec.ofChange machinePhasesSpec)) machinePhasesCard

/-- THE TIED CARD OF 'arenanetlaw18.MachineEffects'. -/
def machineEffectsCard : Claim7 := { stood := { row := machineEffectsRow, standIns := [], harness := (true, "2d7514b772b772fb62c664bcb4c8d208a1417b57467884861dbfc200f824f741"), looks := false }, kinds := [], alts := [], laidByText := true, laidKinds := [.data, .data], laidTests := true, laidLooks := .later }
def MachineEffectsCardSaid : Prop := Claim7.holds Tryz.pinned (.plain (OpenSpec.ofChange machineEffectsSpec)) machineEffectsCard

/-- THE TIED CARD OF 'arenanetlaw18.MachineLocal'. -/
def machineLocalCard : Claim7 := { stood := { row := machineLocalRow, standIns := [], harness := (true, "2d7514b772b772fb62c664bcb4c8d208a1417b57467884861dbfc200f824f741"), looks := false }, kinds := [], alts := [], laidByText := true, laidKinds := [.data, .data], laidTests := true, laidLooks := .later }
def MachineLocalCardSaid : Prop := Claim7.holds Tryz.pinned (.plain (OpenSpec.ofChange machineLocalSpec)) machineLocalCard

/-- THE TIED CARD OF 'arenanetlaw18.MachineTouches'. -/
def machineTouchesCard : Claim7 := { stood := { row := machineTouchesRow, standIns := [], harness := (true, "2d7514b772b772fb62c664bcb4c8d208a1417b57467884861dbfc200f824f741"), looks := false }, kinds := [], alts := [], laidByText := true, laidKinds := [.data, .data], laidTests := true, laidLooks := .later }
def MachineTouchesCardSaid : Prop := Claim7.holds Tryz.pinned (.plain (OpenSpec.ofChange machineTouchesSpec)) machineTouchesCard

/-- THE SECOND FORM's CARD OF 'arenanetlaw18.MachineEnds'. -/
def machineEndsUptoCard : Claim7 := { stood := { row := machineEndsUptoRow, standIns := [], harness := (true, "2d7514b772b772fb62c664bcb4c8d208a1417b57467884861dbfc200f824f741"), looks := false }, kinds := [], alts := [], laidByText := true, laidKinds := [.data, .data], laidTests := true, laidLooks := .later }
def MachineEndsUptoCardSaid : Prop := Claim7.holds Tryz.pinned (.plain (OpenSpec.upto machineEndsSpec)) machineEndsUptoCard

/-- THE SECOND FORM's CARD OF 'arenanetlaw18.MachinePhases'. -/
def machinePhasesUptoCard : Claim7 := { stood := { row := machinePhasesUptoRow, standIns := [], harness := (true, "2d7514b772b772fb62c664bcb4c8d208a1417b57467884861dbfc200f824f741"), looks := false }, kinds := [], alts := [], laidByText := true, laidKinds := [.data, .data], laidTests := true, laidLooks := .later }
def MachinePhasesUptoCardSaid : Prop := Claim7.holds Tryz.pinned (.plain (OpenSpec.upto machinePhasesSpec)) machinePhasesUptoCard

/-- THE SECOND FORM's CARD OF 'arenanetlaw18.MachineEffects'. -/
def machineEffectsUptoCard : Claim7 := { stood := { row := machineEffectsUptoRow, standIns := [], harness := (true, "2d7514b772b772fb62c664bcb4c8d208a1417b57467884861dbfc200f824f741"), looks := false }, kinds := [], alts := [], laidByText := true, laidKinds := [.data, .data], laidTests := true, laidLooks := .later }
def MachineEffectsUptoCardSaid : Prop := Claim7.holds Tryz.pinned (.plain (OpenSpec.upto machineEffectsSpec)) machineEffectsUptoCard

/-- THE SECOND FORM's CARD OF 'arenanetlaw18.MachineLocal'. -/
def machineLocalUptoCard : Claim7 := { stood := { row := machineLocalUptoRow, standIns := [], harness := (true, "2d7514b772b772fb62c664bcb4c8d208a1417b57467884861dbfc200f824f741"), looks := false }, kinds := [], alts := [], laidByText := true, laidKinds := [.data, .data], laidTests := true, laidLooks := .later }
def MachineLocalUptoCardSaid : Prop := Claim7.holds Tryz.pinned (.plain (OpenSpec.upto machineLocalSpec)) machineLocalUptoCard

/-- THE SECOND FORM's CARD OF 'arenanetlaw18.MachineTouches'. -/
def machineTouchesUptoCard : Claim7 := { stood := { row := machineTouchesUptoRow, standIns := [], harness := (true, "2d7514b772b772fb62c664bcb4c8d208a1417b57467884861dbfc200f824f741"), looks := false }, kinds := [], alts := [], laidByText := true, laidKinds := [.data, .data], laidTests := true, laidLooks := .later }
def MachineTouchesUptoCardSaid : Prop := Claim7.holds Tryz.pinned (.plain (OpenSpec.upto machineTouchesSpec)) machineTouchesUptoCard
end Rows
end Go.Proofs.YtampdcgphdnnhaaGreatDoor
