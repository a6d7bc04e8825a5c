/-
  DERIVED. GIVEN WITH THE SEED: THE CARDS: each row of YtogafelgppjklaaGreatDoorRows.lean that lists a variable, with what it lists TIED to the program's text (the seventh form; the later family's looks); each row that meets fmt, with fmt's text TOLD by the authors' own Lean function (tested against real Go, not proved from fmt's source: count such statements apart). THE CARD IS WHAT COUNTS. Prove the row's statement (the work); the ties are given (YtogafelgppjklaaGreatDoorTie.lean); close each card by the builder's one call (the guide's Derived/Test/ToyasCard.lean, 'card_holds'). Laid BY PROGRAM, IN A SANDBOX (cutbox-door.mjs). By AI agents, Wed Nov 11 2026. No macro, syntax, notation, axiom, sorry.
-/
import Derived.Test.YtogafelgppjklaaGreatDoorRows
import GoSem.ClaimSeven
namespace Go.Proofs.YtogafelgppjklaaGreatDoor
namespace Rows

/-- THE TIED CARD OF 'arenanetlaw25.PeerErrors'. -/
def peerErrorsCard : Claim7 := { stood := { row := peerErrorsRow, standIns := [], harness := (true, "2ff2330c95e4978c99fc2f338dd975c709aae4cf3a12806e0f80359841eeaca1"), looks := false }, kinds := [], alts := [], laidByText := true, laidKinds := [.data, .data], laidTests := true, laidLooks := .later }
def PeerErrorsCardSaid : Prop := Claim7.holds Tryz.pinned (.plain (OpenSpec.ofChange peerErrorsSpec)) peerErrorsCard

/-- THE SECOND FORM's CARD OF 'arenanetlaw25.PeerErrors'. -/
def peerErrorsUptoCard : Claim7 := { stood := { row := peerErrorsUptoRow, standIns := [], harness := (true, "2ff2330c95e4978c99fc2f338dd975c709aae4cf3a12806e0f80359841eeaca1"), looks := false }, kinds := [], alts := [], laidByText := true, laidKinds := [.data, .data], laidTests := true, laidLooks := .later }
def PeerErrorsUptoCardSaid : Prop := Claim7.holds Tryz.pinned (.plain (OpenSpec.upto peerErrorsSpec)) peerErrorsUptoCard
end Rows
end Go.Proofs.YtogafelgppjklaaGreatDoor
