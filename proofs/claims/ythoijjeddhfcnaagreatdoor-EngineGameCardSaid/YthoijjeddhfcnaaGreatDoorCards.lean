/-
  DERIVED. GIVEN WITH THE SEED: THE CARDS: each row of YthoijjeddhfcnaaGreatDoorRows.lean that lists a variable, with what it lists TIED to the program's text (the seventh form; the later family's looks); each row that meets fmt, with fmt's text TOLD by the authors' own Lean function (tested against real Go, not proved from fmt's source: count such statements apart). THE CARD IS WHAT COUNTS. Prove the row's statement (the work); the ties are given (YthoijjeddhfcnaaGreatDoorTie.lean); close each card by the builder's one call (the guide's Derived/Test/ToyasCard.lean, 'card_holds'). Laid BY PROGRAM, IN A SANDBOX (cutbox-door.mjs). By AI agents, Wed Nov 11 2026. No macro, syntax, notation, axiom, sorry.
-/
import Derived.Test.YthoijjeddhfcnaaGreatDoorRows
import GoSem.ClaimSeven
namespace Go.Proofs.YthoijjeddhfcnaaGreatDoor
namespace Rows

/-- THE TIED CARD OF 'arenanetlaw20.EngineGame'. -/
def engineGameCard : Claim7 := { stood := { row := engineGameRow, standIns := [], harness := (true, "b7da1cb96b4f59c2f99bd36ac9345b5e534922b889abf7fdea94fc9188bcc987"), looks := false }, kinds := [], alts := [], laidByText := true, laidKinds := [.data, .data], laidTests := true, laidLooks := .later }
def EngineGameCardSaid : Prop := Claim7.holds Tryz.pinned (.plain (OpenSpec.ofChange engineGameSpec)) engineGameCard

/-- THE SECOND FORM's CARD OF 'arenanetlaw20.EngineGame'. -/
def engineGameUptoCard : Claim7 := { stood := { row := engineGameUptoRow, standIns := [], harness := (true, "b7da1cb96b4f59c2f99bd36ac9345b5e534922b889abf7fdea94fc9188bcc987"), looks := false }, kinds := [], alts := [], laidByText := true, laidKinds := [.data, .data], laidTests := true, laidLooks := .later }
def EngineGameUptoCardSaid : Prop := Claim7.holds Tryz.pinned (.plain (OpenSpec.upto engineGameSpec)) engineGameUptoCard
end Rows
end Go.Proofs.YthoijjeddhfcnaaGreatDoor
