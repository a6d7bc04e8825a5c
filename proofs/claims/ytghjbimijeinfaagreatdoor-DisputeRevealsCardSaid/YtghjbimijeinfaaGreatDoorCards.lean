/-
  DERIVED. GIVEN WITH THE SEED: THE CARDS: each row of YtghjbimijeinfaaGreatDoorRows.lean that lists a variable, with what it lists TIED to the program's text (the seventh form; the later family's looks); each row that meets fmt, with fmt's text TOLD by the authors' own Lean function (tested against real Go, not proved from fmt's source: count such statements apart). THE CARD IS WHAT COUNTS. Prove the row's statement (the work); the ties are given (YtghjbimijeinfaaGreatDoorTie.lean); close each card by the builder's one call (the guide's Derived/Test/ToyasCard.lean, 'card_holds'). Laid BY PROGRAM, IN A SANDBOX (cutbox-door.mjs). By AI agents, Wed Nov 11 2026. No macro, syntax, notation, axiom, sorry.
-/
import Derived.Test.YtghjbimijeinfaaGreatDoorRows
import GoSem.ClaimSeven
namespace Go.Proofs.YtghjbimijeinfaaGreatDoor
namespace Rows

/-- THE TIED CARD OF 'arenanetlaw19.GameMoves'. -/
def gameMovesCard : Claim7 := { stood := { row := gameMovesRow, standIns := [], harness := (true, "5d60fbd823fa0152f313f9224d0f75b245ea913b3f51bb313330bce2ec8aa7ff"), looks := false }, kinds := [], alts := [], laidByText := true, laidKinds := [.data, .data], laidTests := true, laidLooks := .later }
def GameMovesCardSaid : Prop := Claim7.holds Tryz.pinned (.plain (OpenSpec.ofChange gameMovesSpec)) gameMovesCard

/-- THE TIED CARD OF 'arenanetlaw33.DisputeReveals'. -/
def disputeRevealsCard : Claim7 := { stood := { row := disputeRevealsRow, standIns := [], harness := (true, "5d60fbd823fa0152f313f9224d0f75b245ea913b3f51bb313330bce2ec8aa7ff"), looks := false }, kinds := [], alts := [], laidByText := true, laidKinds := [.data, .data], laidTests := true, laidLooks := .later }
def DisputeRevealsCardSaid : Prop := Claim7.holds Tryz.pinned (.plain (OpenSpec.ofChange disputeRevealsSpec)) disputeRevealsCard

/-- THE TIED CARD OF 'arenanetlaw33.DisputeErrors'. -/
def disputeErrorsCard : Claim7 := { stood := { row := disputeErrorsRow, standIns := [], harness := (true, "5d60fbd823fa0152f313f9224d0f75b245ea913b3f51bb313330bce2ec8aa7ff"), looks := false }, kinds := [], alts := [], laidByText := true, laidKinds := [.data, .data], laidTests := true, laidLooks := .later }
def DisputeErrorsCardSaid : Prop := Claim7.holds Tryz.pinned (.plain (OpenSpec.ofChange disputeErrorsSpec)) disputeErrorsCard

/-- THE TIED CARD OF 'arenanetlaw33.DisputeTwins'. -/
def disputeTwinsCard : Claim7 := { stood := { row := disputeTwinsRow, standIns := [], harness := (true, "5d60fbd823fa0152f313f9224d0f75b245ea913b3f51bb313330bce2ec8aa7ff"), looks := false }, kinds := [], alts := [], laidByText := true, laidKinds := [.data, .data], laidTests := true, laidLooks := .later }
def DisputeTwinsCardSaid : Prop := Claim7.holds Tryz.pinned (.plain (OpenSpec.ofChange disputeTwinsSpec)) disputeTwinsCard

/-- THE SECOND FORM's CARD OF 'arenanetlaw19.GameMoves'. -/
def gameMovesUptoCard : Claim7 := { stood := { row := gameMovesUptoRow, standIns := [], harness := (true, "5d60fbd823fa0152f313f9224d0f75b245ea913b3f51bb313330bce2ec8aa7ff"), looks := false }, kinds := [], alts := [], laidByText := true, laidKinds := [.data, .data], laidTests := true, laidLooks := .later }
def GameMovesUptoCardSaid : Prop := Claim7.holds Tryz.pinned (.plain (OpenSpec.upto gameMovesSpec)) gameMovesUptoCard

/-- THE SECOND FORM's CARD OF 'arenanetlaw33.DisputeReveals'. -/
def disputeRevealsUptoCard : Claim7 := { stood := { row := disputeRevealsUptoRow, standIns := [], harness := (true, "5d60fbd823fa0152f313f9224d0f75b245ea913b3f51bb313330bce2ec8aa7ff"), looks := false }, kinds := [], alts := [], laidByText := true, laidKinds := [.data, .data], laidTests := true, laidLooks := .later }
def DisputeRevealsUptoCardSaid : Prop := Claim7.holds Tryz.pinned (.plain (OpenSpec.upto disputeRevealsSpec)) disputeRevealsUptoCard

/-- THE SECOND FORM's CARD OF 'arenanetlaw33.DisputeErrors'. -/
def disputeErrorsUptoCard : Claim7 := { stood := { row := disputeErrorsUptoRow, standIns := [], harness := (true, "5d60fbd823fa0152f313f9224d0f75b245ea913b3f51bb313330bce2ec8aa7ff"), looks := false }, kinds := [], alts := [], laidByText := true, laidKinds := [.data, .data], laidTests := true, laidLooks := .later }
def DisputeErrorsUptoCardSaid : Prop := Claim7.holds Tryz.pinned (.plain (OpenSpec.upto disputeErrorsSpec)) disputeErrorsUptoCard

/-- THE SECOND FORM's CARD OF 'arenanetlaw33.DisputeTwins'. -/
def disputeTwinsUptoCard : Claim7 := { stood := { row := disputeTwinsUptoRow, standIns := [], harness := (true, "5d60fbd823fa0152f313f9224d0f75b245ea913b3f51bb313330bce2ec8aa7ff"), looks := false }, kinds := [], alts := [], laidByText := true, laidKinds := [.data, .data], laidTests := true, laidLooks := .later }
def DisputeTwinsUptoCardSaid : Prop := Claim7.holds Tryz.pinned (.plain (OpenSpec.upto disputeTwinsSpec)) disputeTwinsUptoCard
end Rows
end Go.Proofs.YtghjbimijeinfaaGreatDoor
