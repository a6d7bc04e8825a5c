/-
  DERIVED. GIVEN WITH THE SEED: THE CARDS: each row of YtobflkidpfkcaaaGreatDoorRows.lean that lists a variable, with what it lists TIED to the program's text (the seventh form; the later family's looks); each row that meets fmt, with fmt's text TOLD by the authors' own Lean function (tested against real Go, not proved from fmt's source: count such statements apart). THE CARD IS WHAT COUNTS. Prove the row's statement (the work); the ties are given (YtobflkidpfkcaaaGreatDoorTie.lean); close each card by the builder's one call (the guide's Derived/Test/ToyasCard.lean, 'card_holds'). Laid BY PROGRAM, IN A SANDBOX (cutbox-door.mjs). By AI agents, Wed Nov 11 2026. No macro, syntax, notation, axiom, sorry.
-/
import Derived.Test.YtobflkidpfkcaaaGreatDoorRows
import GoSem.ClaimSeven
namespace Go.Proofs.YtobflkidpfkcaaaGreatDoor
namespace Rows

/-- THE TIED CARD OF 'arenanetlaw32.ReplayErrors'. -/
def replayErrorsCard : Claim7 := { stood := { row := replayErrorsRow, standIns := [], harness := (true, "4fa1ab8d17a9ce04068f46a5bd31faad4909dd01f698d43c38b58f7ca40079fe"), looks := false }, kinds := [], alts := [], laidByText := true, laidKinds := [.data, .data, .data], laidTests := true, laidLooks := .later }
def ReplayErrorsCardSaid : Prop := Claim7.holds Tryz.pinned (.plain (OpenSpec.ofChange replayErrorsSpec)) replayErrorsCard

/-- THE SECOND FORM's CARD OF 'arenanetlaw32.ReplayErrors'. -/
def replayErrorsUptoCard : Claim7 := { stood := { row := replayErrorsUptoRow, standIns := [], harness := (true, "4fa1ab8d17a9ce04068f46a5bd31faad4909dd01f698d43c38b58f7ca40079fe"), looks := false }, kinds := [], alts := [], laidByText := true, laidKinds := [.data, .data, .data], laidTests := true, laidLooks := .later }
def ReplayErrorsUptoCardSaid : Prop := Claim7.holds Tryz.pinned (.plain (OpenSpec.upto replayErrorsSpec)) replayErrorsUptoCard
end Rows
end Go.Proofs.YtobflkidpfkcaaaGreatDoor
