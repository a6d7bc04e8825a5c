/-
  DERIVED. GIVEN WITH THE SEED: THE CARDS: each row of YtdppjkjbghbnjaaGreatDoorRows.lean that lists a variable, with what it lists TIED to the program's text (the seventh form; the later family's looks); each row that meets fmt, with fmt's text TOLD by the authors' own Lean function (tested against real Go, not proved from fmt's source: count such statements apart). THE CARD IS WHAT COUNTS. Prove the row's statement (the work); the ties are given (YtdppjkjbghbnjaaGreatDoorTie.lean); close each card by the builder's one call (the guide's Derived/Test/ToyasCard.lean, 'card_holds'). Laid BY PROGRAM, IN A SANDBOX (cutbox-door.mjs). By AI agents, Wed Nov 11 2026. No macro, syntax, notation, axiom, sorry.
-/
import Derived.Test.YtdppjkjbghbnjaaGreatDoorRows
import GoSem.ClaimSeven
namespace Go.Proofs.YtdppjkjbghbnjaaGreatDoor
namespace Rows

/-- THE TIED CARD OF 'arenanetlaw25.PeerPerfect'. -/
def peerPerfectCard : Claim7 := { stood := { row := peerPerfectRow, standIns := [], harness := (true, "3a31dd48f4bce3212333c4752c917c40bc74d8ea704dce2803cc65030aa36f33"), looks := false }, kinds := [], alts := [], laidByText := true, laidKinds := [.data, .data], laidTests := true, laidLooks := .later }
def PeerPerfectCardSaid : Prop := Claim7.holds Tryz.pinned (.plain (OpenSpec.ofChange peerPerfectSpec)) peerPerfectCard

/-- THE TIED CARD OF 'arenanetlaw25.PeerWork'. -/
def peerWorkCard : Claim7 := { stood := { row := peerWorkRow, standIns := [], harness := (true, "3a31dd48f4bce3212333c4752c917c40bc74d8ea704dce2803cc65030aa36f33"), looks := false }, kinds := [], alts := [], laidByText := true, laidKinds := [.data, .data], laidTests := true, laidLooks := .later }
def PeerWorkCardSaid : Prop := Claim7.holds Tryz.pinned (.plain (OpenSpec.ofChange peerWorkSpec)) peerWorkCard

/-- THE TIED CARD OF 'arenanetlaw25.PeerSchedules'. -/
def peerSchedulesCard : Claim7 := { stood := { row := peerSchedulesRow, standIns := [], harness := (true, "3a31dd48f4bce3212333c4752c917c40bc74d8ea704dce2803cc65030aa36f33"), looks := false }, kinds := [], alts := [], laidByText := true, laidKinds := [.data, .data], laidTests := true, laidLooks := .later }
def PeerSchedulesCardSaid : Prop := Claim7.holds Tryz.pinned (.plain (OpenSpec.ofChange peerSchedulesSpec)) peerSchedulesCard

/-- THE TIED CARD OF 'arenanetlaw25.PeerIgnoresLocal'. -/
def peerIgnoresLocalCard : Claim7 := { stood := { row := peerIgnoresLocalRow, standIns := [], harness := (true, "3a31dd48f4bce3212333c4752c917c40bc74d8ea704dce2803cc65030aa36f33"), looks := false }, kinds := [], alts := [], laidByText := true, laidKinds := [.data, .data], laidTests := true, laidLooks := .later }
def PeerIgnoresLocalCardSaid : Prop := Claim7.holds Tryz.pinned (.plain (OpenSpec.ofChange peerIgnoresLocalSpec)) peerIgnoresLocalCard

/-- THE TIED CARD OF 'arenanetlaw25.PeerFinal'. -/
def peerFinalCard : Claim7 := { stood := { row := peerFinalRow, standIns := [], harness := (true, "3a31dd48f4bce3212333c4752c917c40bc74d8ea704dce2803cc65030aa36f33"), looks := false }, kinds := [], alts := [], laidByText := true, laidKinds := [.data, .data], laidTests := true, laidLooks := .later }
def PeerFinalCardSaid : Prop := Claim7.holds Tryz.pinned (.plain (OpenSpec.ofChange peerFinalSpec)) peerFinalCard

/-- THE TIED CARD OF 'arenanetlaw25.PeerTransparent'. -/
def peerTransparentCard : Claim7 := { stood := { row := peerTransparentRow, standIns := [], harness := (true, "3a31dd48f4bce3212333c4752c917c40bc74d8ea704dce2803cc65030aa36f33"), looks := false }, kinds := [], alts := [], laidByText := true, laidKinds := [.data, .data], laidTests := true, laidLooks := .later }
def PeerTransparentCardSaid : Prop := Claim7.holds Tryz.pinned (.plain (OpenSpec.ofChange peerTransparentSpec)) peerTransparentCard

/-- THE TIED CARD OF 'arenanetlaw32.ReplayPeer'. -/
def replayPeerCard : Claim7 := { stood := { row := replayPeerRow, standIns := [], harness := (true, "3a31dd48f4bce3212333c4752c917c40bc74d8ea704dce2803cc65030aa36f33"), looks := false }, kinds := [], alts := [], laidByText := true, laidKinds := [.data, .data], laidTests := true, laidLooks := .later }
def ReplayPeerCardSaid : Prop := Claim7.holds Tryz.pinned (.plain (OpenSpec.ofChange replayPeerSpec)) replayPeerCard

/-- THE SECOND FORM's CARD OF 'arenanetlaw25.PeerPerfect'. -/
def peerPerfectUptoCard : Claim7 := { stood := { row := peerPerfectUptoRow, standIns := [], harness := (true, "3a31dd48f4bce3212333c4752c917c40bc74d8ea704dce2803cc65030aa36f33"), looks := false }, kinds := [], alts := [], laidByText := true, laidKinds := [.data, .data], laidTests := true, laidLooks := .later }
def PeerPerfectUptoCardSaid : Prop := Claim7.holds Tryz.pinned (.plain (OpenSpec.upto peerPerfectSpec)) peerPerfectUptoCard

/-- THE SECOND FORM's CARD OF 'arenanetlaw25.PeerWork'. -/
def peerWorkUptoCard : Claim7 := { stood := { row := peerWorkUptoRow, standIns := [], harness := (true, "3a31dd48f4bce3212333c4752c917c40bc74d8ea704dce2803cc65030aa36f33"), looks := false }, kinds := [], alts := [], laidByText := true, laidKinds := [.data, .data], laidTests := true, laidLooks := .later }
def PeerWorkUptoCardSaid : Prop := Claim7.holds Tryz.pinned (.plain (OpenSpec.upto peerWorkSpec)) peerWorkUptoCard

/-- THE SECOND FORM's CARD OF 'arenanetlaw25.PeerSchedules'. -/
def peerSchedulesUptoCard : Claim7 := { stood := { row := peerSchedulesUptoRow, standIns := [], harness := (true, "3a31dd48f4bce3212333c4752c917c40bc74d8ea704dce2803cc65030aa36f33"), looks := false }, kinds := [], alts := [], laidByText := true, laidKinds := [.data, .data], laidTests := true, laidLooks := .later }
def PeerSchedulesUptoCardSaid : Prop := Claim7.holds Tryz.pinned (.plain (OpenSpec.upto peerSchedulesSpec)) peerSchedulesUptoCard

/-- THE SECOND FORM's CARD OF 'arenanetlaw25.PeerIgnoresLocal'. -/
def peerIgnoresLocalUptoCard : Claim7 := { stood := { row := peerIgnoresLocalUptoRow, standIns := [], harness := (true, "3a31dd48f4bce3212333c4752c917c40bc74d8ea704dce2803cc65030aa36f33"), looks := false }, kinds := [], alts := [], laidByText := true, laidKinds := [.data, .data], laidTests := true, laidLooks := .later }
def PeerIgnoresLocalUptoCardSaid : Prop := Claim7.holds Tryz.pinned (.plain (OpenSpec.upto peerIgnoresLocalSpec)) peerIgnoresLocalUptoCard

/-- THE SECOND FORM's CARD OF 'arenanetlaw25.PeerFinal'. -/
def peerFinalUptoCard : Claim7 := { stood := { row := peerFinalUptoRow, standIns := [], harness := (true, "3a31dd48f4bce3212333c4752c917c40bc74d8ea704dce2803cc65030aa36f33"), looks := false }, kinds := [], alts := [], laidByText := true, laidKinds := [.data, .data], laidTests := true, laidLooks := .later }
def PeerFinalUptoCardSaid : Prop := Claim7.holds Tryz.pinned (.plain (OpenSpec.upto peerFinalSpec)) peerFinalUptoCard

/-- THE SECOND FORM's CARD OF 'arenanetlaw25.PeerTransparent'. -/
def peerTransparentUptoCard : Claim7 := { stood := { row := peerTransparentUptoRow, standIns := [], harness := (true, "3a31dd48f4bce3212333c4752c917c40bc74d8ea704dce2803cc65030aa36f33"), looks := false }, kinds := [], alts := [], laidByText := true, laidKinds := [.data, .data], laidTests := true, laidLooks := .later }
def PeerTransparentUptoCardSaid : Prop := Claim7.holds Tryz.pinned (.plain (OpenSpec.upto peerTransparentSpec)) peerTransparentUptoCard

/-- THE SECOND FORM's CARD OF 'arenanetlaw32.ReplayPeer'. -/
def replayPeerUptoCard : Claim7 := { stood := { row := replayPeerUptoRow, standIns := [], harness := (true, "3a31dd48f4bce3212333c4752c917c40bc74d8ea704dce2803cc65030aa36f33"), looks := false }, kinds := [], alts := [], laidByText := true, laidKinds := [.data, .data], laidTests := true, laidLooks := .later }
def ReplayPeerUptoCardSaid : Prop := Claim7.holds Tryz.pinned (.plain (OpenSpec.upto replayPeerSpec)) replayPeerUptoCard
end Rows
end Go.Proofs.YtdppjkjbghbnjaaGreatDoor
