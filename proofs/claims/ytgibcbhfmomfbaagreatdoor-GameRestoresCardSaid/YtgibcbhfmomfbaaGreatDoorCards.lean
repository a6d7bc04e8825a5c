/-
  DERIVED. GIVEN WITH THE SEED: THE CARDS: each row of YtgibcbhfmomfbaaGreatDoorRows.lean that lists a variable, with what it lists TIED to the program's text (the seventh form; the later family's looks); each row that meets fmt, with fmt's text TOLD by the authors' own Lean function (tested against real Go, not proved from fmt's source: count such statements apart). THE CARD IS WHAT COUNTS. Prove the row's statement (the work); the ties are given (YtgibcbhfmomfbaaGreatDoorTie.lean); close each card by the builder's one call (the guide's Derived/Test/ToyasCard.lean, 'card_holds'). Laid BY PROGRAM, IN A SANDBOX (cutbox-door.mjs). By AI agents, Wed Nov 11 2026. No macro, syntax, notation, axiom, sorry.
-/
import Derived.Test.YtgibcbhfmomfbaaGreatDoorRows
import GoSem.ClaimSeven
namespace Go.Proofs.YtgibcbhfmomfbaaGreatDoor
namespace Rows

/-- THE TIED CARD OF 'arenanetlaw19.GameErrors'. -/
def gameErrorsCard : Claim7 := { stood := { row := gameErrorsRow, standIns := [], harness := (true, "ad7ccc1f2d439669cd8648a7fc5891bfe6a181f9f4ff11fbc0a3c166b4d12a5d"), looks := false }, kinds := [], alts := [], laidByText := true, laidKinds := [.data, .data], laidTests := true, laidLooks := .later }
def GameErrorsCardSaid : Prop := Claim7.holds Tryz.pinned (.plain (OpenSpec.ofChange gameErrorsSpec)) gameErrorsCard

/-- THE TIED CARD OF 'arenanetlaw19.GameRuns'. -/
def gameRunsCard : Claim7 := { stood := { row := gameRunsRow, standIns := [], harness := (true, "ad7ccc1f2d439669cd8648a7fc5891bfe6a181f9f4ff11fbc0a3c166b4d12a5d"), looks := false }, kinds := [], alts := [], laidByText := true, laidKinds := [.data, .data], laidTests := true, laidLooks := .later }
def GameRunsCardSaid : Prop := Claim7.holds Tryz.pinned (.plain (OpenSpec.ofChange gameRunsSpec)) gameRunsCard

/-- THE TIED CARD OF 'arenanetlaw19.GameRestores'. -/
def gameRestoresCard : Claim7 := { stood := { row := gameRestoresRow, standIns := [], harness := (true, "ad7ccc1f2d439669cd8648a7fc5891bfe6a181f9f4ff11fbc0a3c166b4d12a5d"), looks := false }, kinds := [], alts := [], laidByText := true, laidKinds := [.data, .data], laidTests := true, laidLooks := .later }
def GameRestoresCardSaid : Prop := Claim7.holds Tryz.pinned (.plain (OpenSpec.ofChange gameRestoresSpec)) gameRestoresCard

/-- THE SECOND FORM's CARD OF 'arenanetlaw19.GameErrors'. -/
def gameErrorsUptoCard : Claim7 := { stood := { row := gameErrorsUptoRow, standIns := [], harness := (true, "ad7ccc1f2d439669cd8648a7fc5891bfe6a181f9f4ff11fbc0a3c166b4d12a5d"), looks := false }, kinds := [], alts := [], laidByText := true, laidKinds := [.data, .data], laidTests := true, laidLooks := .later }
def GameErrorsUptoCardSaid : Prop := Claim7.holds Tryz.pinned (.plain (OpenSpec.upto gameErrorsSpec)) gameErrorsUptoCard

/-- THE SECOND FORM's CARD OF 'arenanetlaw19.GameRuns'. -/
def gameRunsUptoCard : Claim7 := { stood := { row := gameRunsUptoRow, standIns := [], harness := (true, "ad7ccc1f2d439669cd8648a7fc5891bfe6a181f9f4ff11fbc0a3c166b4d12a5d"), looks := false }, kinds := [], alts := [], laidByText := true, laidKinds := [.data, .data], laidTests := true, laidLooks := .later }
def GameRunsUptoCardSaid : Prop := Claim7.holds Tryz.pinned (.plain (OpenSpec.upto gameRunsSpec)) gameRunsUptoCard

/-- THE SECOND FORM's CARD OF 'arenanetlaw19.GameRestores'. -/
def gameRestoresUptoCard : Claim7 := { stood := { row := gameRestoresUptoRow, standIns := [], harness := (true, "ad7ccc1f2d439669cd8648a7fc5891bfe6a181f9f4ff11fbc0a3c166b4d12a5d"), looks := false }, kinds := [], alts := [], laidByText := true, laidKinds := [.data, .data], laidTests := true, laidLooks := .later }
def GameRestoresUptoCardSaid : Prop := Claim7.holds Tryz.pinned (.plain (OpenSpec.upto gameRestoresSpec)) gameRestoresUptoCard
end Rows
end Go.Proofs.YtgibcbhfmomfbaaGreatDoor
