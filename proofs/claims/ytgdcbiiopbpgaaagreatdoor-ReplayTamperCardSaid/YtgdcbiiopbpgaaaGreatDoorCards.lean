/-
  DERIVED. GIVEN WITH THE SEED: THE CARDS: each row of YtgdcbiiopbpgaaaGreatDoorRows.lean that lists a variable, with what it lists TIED to the program's text (the seventh form; the later family's looks); each row that meets fmt, with fmt's text TOLD by the authors' own Lean function (tested against real Go, not proved from fmt's source: count such statements apart). THE CARD IS WHAT COUNTS. Prove the row's statement (the work); the ties are given (YtgdcbiiopbpgaaaGreatDoorTie.lean); close each card by the builder's one call (the guide's Derived/Test/ToyasCard.lean, 'card_holds'). Laid BY PROGRAM, IN A SANDBOX (cutbox-door.mjs). By AI agents, Wed Nov 11 2026. No macro, syntax, notation, axiom, sorry.
-/
import Derived.Test.YtgdcbiiopbpgaaaGreatDoorRows
import GoSem.ClaimSeven
namespace Go.Proofs.YtgdcbiiopbpgaaaGreatDoor
namespace Rows

/-- THE TIED CARD OF 'arenanetlaw32.ReplayRoots'. -/
def replayRootsCard : Claim7 := { stood := { row := replayRootsRow, standIns := [], harness := (true, "5e0be0a5b54f25ff7aa3cb02d6038e0153120b29846d2da6badfa9ddc7bd78ba"), looks := false }, kinds := [], alts := [], laidByText := true, laidKinds := [.data, .data], laidTests := true, laidLooks := .later }
def ReplayRootsCardSaid : Prop := Claim7.holds Tryz.pinned (.plain (OpenSpec.ofChange replayRootsSpec)) replayRootsCard

/-- THE TIED CARD OF 'arenanetlaw32.ReplayErrors'. -/
def replayErrorsCard : Claim7 := { stood := { row := replayErrorsRow, standIns := [], harness := (true, "5e0be0a5b54f25ff7aa3cb02d6038e0153120b29846d2da6badfa9ddc7bd78ba"), looks := false }, kinds := [], alts := [], laidByText := true, laidKinds := [.data, .data, .data], laidTests := true, laidLooks := .later }
def ReplayErrorsCardSaid : Prop := Claim7.holds Tryz.pinned (.plain (OpenSpec.ofChange replayErrorsSpec)) replayErrorsCard

/-- THE TIED CARD OF 'arenanetlaw32.ReplayRoundTrip'. -/
def replayRoundTripCard : Claim7 := { stood := { row := replayRoundTripRow, standIns := [], harness := (true, "5e0be0a5b54f25ff7aa3cb02d6038e0153120b29846d2da6badfa9ddc7bd78ba"), looks := false }, kinds := [], alts := [], laidByText := true, laidKinds := [.data, .data, .data], laidTests := true, laidLooks := .later }
def ReplayRoundTripCardSaid : Prop := Claim7.holds Tryz.pinned (.plain (OpenSpec.ofChange replayRoundTripSpec)) replayRoundTripCard

/-- THE TIED CARD OF 'arenanetlaw32.ReplayTamper'. -/
def replayTamperCard : Claim7 := { stood := { row := replayTamperRow, standIns := [], harness := (true, "5e0be0a5b54f25ff7aa3cb02d6038e0153120b29846d2da6badfa9ddc7bd78ba"), looks := false }, kinds := [], alts := [], laidByText := true, laidKinds := [.data, .data, .data], laidTests := true, laidLooks := .later }
def ReplayTamperCardSaid : Prop := Claim7.holds Tryz.pinned (.plain (OpenSpec.ofChange replayTamperSpec)) replayTamperCard

/-- THE SECOND FORM's CARD OF 'arenanetlaw32.ReplayRoots'. -/
def replayRootsUptoCard : Claim7 := { stood := { row := replayRootsUptoRow, standIns := [], harness := (true, "5e0be0a5b54f25ff7aa3cb02d6038e0153120b29846d2da6badfa9ddc7bd78ba"), looks := false }, kinds := [], alts := [], laidByText := true, laidKinds := [.data, .data], laidTests := true, laidLooks := .later }
def ReplayRootsUptoCardSaid : Prop := Claim7.holds Tryz.pinned (.plain (OpenSpec.upto replayRootsSpec)) replayRootsUptoCard

/-- THE SECOND FORM's CARD OF 'arenanetlaw32.ReplayErrors'. -/
def replayErrorsUptoCard : Claim7 := { stood := { row := replayErrorsUptoRow, standIns := [], harness := (true, "5e0be0a5b54f25ff7aa3cb02d6038e0153120b29846d2da6badfa9ddc7bd78ba"), looks := false }, kinds := [], alts := [], laidByText := true, laidKinds := [.data, .data, .data], laidTests := true, laidLooks := .later }
def ReplayErrorsUptoCardSaid : Prop := Claim7.holds Tryz.pinned (.plain (OpenSpec.upto replayErrorsSpec)) replayErrorsUptoCard

/-- THE SECOND FORM's CARD OF 'arenanetlaw32.ReplayRoundTrip'. -/
def replayRoundTripUptoCard : Claim7 := { stood := { row := replayRoundTripUptoRow, standIns := [], harness := (true, "5e0be0a5b54f25ff7aa3cb02d6038e0153120b29846d2da6badfa9ddc7bd78ba"), looks := false }, kinds := [], alts := [], laidByText := true, laidKinds := [.data, .data, .data], laidTests := true, laidLooks := .later }
def ReplayRoundTripUptoCardSaid : Prop := Claim7.holds Tryz.pinned (.plain (OpenSpec.upto replayRoundTripSpec)) replayRoundTripUptoCard

/-- THE SECOND FORM's CARD OF 'arenanetlaw32.ReplayTamper'. -/
def replayTamperUptoCard : Claim7 := { stood := { row := replayTamperUptoRow, standIns := [], harness := (true, "5e0be0a5b54f25ff7aa3cb02d6038e0153120b29846d2da6badfa9ddc7bd78ba"), looks := false }, kinds := [], alts := [], laidByText := true, laidKinds := [.data, .data, .data], laidTests := true, laidLooks := .later }
def ReplayTamperUptoCardSaid : Prop := Claim7.holds Tryz.pinned (.plain (OpenSpec.upto replayTamperSpec)) replayTamperUptoCard
end Rows
end Go.Proofs.YtgdcbiiopbpgaaaGreatDoor
