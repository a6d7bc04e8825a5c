/-
  DERIVED. GIVEN WITH THE SEED: THE CARDS: each row of YtjokannbjmndfaaGreatDoorRows.lean that lists a variable, with what it lists TIED to the program's text (the seventh form; the later family's looks); each row that meets fmt, with fmt's text TOLD by the authors' own Lean function (tested against real Go, not proved from fmt's source: count such statements apart). THE CARD IS WHAT COUNTS. Prove the row's statement (the work); the ties are given (YtjokannbjmndfaaGreatDoorTie.lean); close each card by the builder's one call (the guide's Derived/Test/ToyasCard.lean, 'card_holds'). Laid BY PROGRAM, IN A SANDBOX (cutbox-door.mjs). By AI agents, Wed Nov 11 2026. No macro, syntax, notation, axiom, sorry.
-/
import Derived.Test.YtjokannbjmndfaaGreatDoorRows
import GoSem.ClaimSeven
namespace Go.Proofs.YtjokannbjmndfaaGreatDoor
namespace Rows

/-- THE TIED CARD OF 'arenanetlaw26.EffectsOfPeer'. -/
def effectsOfPeerCard : Claim7 := { stood := { row := effectsOfPeerRow, standIns := [], harness := (true, "3f0a532f2d02fd199c8e042a85fc8c56db516b31bbe50017f72129cffc6f0b45"), looks := false }, kinds := [], alts := [], laidByText := true, laidKinds := [.data, .data], laidTests := true, laidLooks := .later }
def EffectsOfPeerCardSaid : Prop := Claim7.holds Tryz.pinned (.plain (OpenSpec.ofChange effectsOfPeerSpec)) effectsOfPeerCard

/-- THE SECOND FORM's CARD OF 'arenanetlaw26.EffectsOfPeer'. -/
def effectsOfPeerUptoCard : Claim7 := { stood := { row := effectsOfPeerUptoRow, standIns := [], harness := (true, "3f0a532f2d02fd199c8e042a85fc8c56db516b31bbe50017f72129cffc6f0b45"), looks := false }, kinds := [], alts := [], laidByText := true, laidKinds := [.data, .data], laidTests := true, laidLooks := .later }
def EffectsOfPeerUptoCardSaid : Prop := Claim7.holds Tryz.pinned (.plain (OpenSpec.upto effectsOfPeerSpec)) effectsOfPeerUptoCard
end Rows
end Go.Proofs.YtjokannbjmndfaaGreatDoor
