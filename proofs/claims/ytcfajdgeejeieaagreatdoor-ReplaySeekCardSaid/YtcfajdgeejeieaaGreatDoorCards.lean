/-
  DERIVED. GIVEN WITH THE SEED: THE CARDS: each row of YtcfajdgeejeieaaGreatDoorRows.lean that lists a variable, with what it lists TIED to the program's text (the seventh form; the later family's looks); each row that meets fmt, with fmt's text TOLD by the authors' own Lean function (tested against real Go, not proved from fmt's source: count such statements apart). THE CARD IS WHAT COUNTS. Prove the row's statement (the work); the ties are given (YtcfajdgeejeieaaGreatDoorTie.lean); close each card by the builder's one call (the guide's Derived/Test/ToyasCard.lean, 'card_holds'). Laid BY PROGRAM, IN A SANDBOX (cutbox-door.mjs). By AI agents, Wed Nov 11 2026. No macro, syntax, notation, axiom, sorry.
-/
import Derived.Test.YtcfajdgeejeieaaGreatDoorRows
import GoSem.ClaimSeven
namespace Go.Proofs.YtcfajdgeejeieaaGreatDoor
namespace Rows

/-- THE TIED CARD OF 'arenanetlaw19.GameRoots'. -/
def gameRootsCard : Claim7 := { stood := { row := gameRootsRow, standIns := [], harness := (true, "722d42f5aac430cef729ea0baeda7803f6758f58a14c596d77bad04b60915b8e"), looks := false }, kinds := [], alts := [], laidByText := true, laidKinds := [.data, .data], laidTests := true, laidLooks := .later }
def GameRootsCardSaid : Prop := Claim7.holds Tryz.pinned (.plain (OpenSpec.ofChange gameRootsSpec)) gameRootsCard

/-- THE TIED CARD OF 'arenanetlaw19.GameUndo'. -/
def gameUndoCard : Claim7 := { stood := { row := gameUndoRow, standIns := [], harness := (true, "722d42f5aac430cef729ea0baeda7803f6758f58a14c596d77bad04b60915b8e"), looks := false }, kinds := [], alts := [], laidByText := true, laidKinds := [.data, .data], laidTests := true, laidLooks := .later }
def GameUndoCardSaid : Prop := Claim7.holds Tryz.pinned (.plain (OpenSpec.ofChange gameUndoSpec)) gameUndoCard

/-- THE TIED CARD OF 'arenanetlaw32.ReplaySeek'. -/
def replaySeekCard : Claim7 := { stood := { row := replaySeekRow, standIns := [], harness := (true, "722d42f5aac430cef729ea0baeda7803f6758f58a14c596d77bad04b60915b8e"), looks := false }, kinds := [], alts := [], laidByText := true, laidKinds := [.data, .data], laidTests := true, laidLooks := .later }
def ReplaySeekCardSaid : Prop := Claim7.holds Tryz.pinned (.plain (OpenSpec.ofChange replaySeekSpec)) replaySeekCard

/-- THE SECOND FORM's CARD OF 'arenanetlaw19.GameRoots'. -/
def gameRootsUptoCard : Claim7 := { stood := { row := gameRootsUptoRow, standIns := [], harness := (true, "722d42f5aac430cef729ea0baeda7803f6758f58a14c596d77bad04b60915b8e"), looks := false }, kinds := [], alts := [], laidByText := true, laidKinds := [.data, .data], laidTests := true, laidLooks := .later }
def GameRootsUptoCardSaid : Prop := Claim7.holds Tryz.pinned (.plain (OpenSpec.upto gameRootsSpec)) gameRootsUptoCard

/-- THE SECOND FORM's CARD OF 'arenanetlaw19.GameUndo'. -/
def gameUndoUptoCard : Claim7 := { stood := { row := gameUndoUptoRow, standIns := [], harness := (true, "722d42f5aac430cef729ea0baeda7803f6758f58a14c596d77bad04b60915b8e"), looks := false }, kinds := [], alts := [], laidByText := true, laidKinds := [.data, .data], laidTests := true, laidLooks := .later }
def GameUndoUptoCardSaid : Prop := Claim7.holds Tryz.pinned (.plain (OpenSpec.upto gameUndoSpec)) gameUndoUptoCard

/-- THE SECOND FORM's CARD OF 'arenanetlaw32.ReplaySeek'. -/
def replaySeekUptoCard : Claim7 := { stood := { row := replaySeekUptoRow, standIns := [], harness := (true, "722d42f5aac430cef729ea0baeda7803f6758f58a14c596d77bad04b60915b8e"), looks := false }, kinds := [], alts := [], laidByText := true, laidKinds := [.data, .data], laidTests := true, laidLooks := .later }
def ReplaySeekUptoCardSaid : Prop := Claim7.holds Tryz.pinned (.plain (OpenSpec.upto replaySeekSpec)) replaySeekUptoCard
end Rows
end Go.Proofs.YtcfajdgeejeieaaGreatDoor
