/-
  NARROWER THAN 'FOR EVERY INPUT', by the rows' own cells (each row's printed sentence says how): PeerPerfect: laid · PeerWork: laid · PeerSchedules: laid · PeerIgnoresLocal: laid · PeerFinal: laid · PeerTransparent: laid · ReplayPeer: laid.
  DERIVED. THE GIVEN ROWS OF THIS SEAT. 7 by the template 'for every input the law returns true; each argument reads behind the call as it read before'; 0 by the template 'total and deterministic' (their statements: YtdppjkjbghbnjaaGreatDoorTotals.lean).
  GIVEN WITH THE SEED: the statements are not yours to turn. If you find one false, say at which input.
  Laid BY PROGRAM, IN A SANDBOX (cutbox-rows.mjs): the forced cells as the released guide's own fill.sh prints them over the translation 058bfa08c09ff12d… (all of the seat's roots in one cut). By AI agents, Wed Nov 11 2026. No macro, syntax, notation, axiom, sorry.
-/
import Derived.Test.YtdppjkjbghbnjaaGreatDoorChecked
import GoSem.Claim
import GoSem.ClaimJoined
import GoSem.ClaimMapViews
import Derived.JoinedTies
import Derived.KernelRfl
namespace Go.Proofs.YtdppjkjbghbnjaaGreatDoor
/- THE CELL 'sum', in the pinned program and in every row, IS THE sha256 OF THE DUMP (.gsa) THAT YtdppjkjbghbnjaaGreatDoorProg.lean LOADS. Nothing in Lean hashes anything: it is a label: what it is worth is what the hold of that sum in a sandbox is worth. -/
noncomputable def Tryz.pinned : Pinned := { name := "ytdppjkjbghbnjaagreatdoor", sum := "058bfa08c09ff12d615443c0db30cea5f9c66fa15d85320d42b3f3f46fd78687", checked := Tryz.checked }
namespace Rows
def none {H : Type} : Left H := { results := [], args := [] }

/- WHAT THE LISTED PACKAGE-LEVEL VARIABLES READ AS WHEN THE CALL BEGINS. Each datum BY PROGRAM (the guide's laid-datum.mjs) off the statement by which the dump's own 'gosem.cut.vars' lays the variable. In a bare row this is a premise. The card (YtdppjkjbghbnjaaGreatDoorCards.lean) ties it to the program's text. -/
def laid_arenanet_compile_effects {H : Type} : DataW H := .agg [.agg [.lit (.int .i64 0), .lit (.int .i64 0)], .agg [.lit (.int .i64 0), .lit (.int .i64 1)], .agg [.lit (.int .i64 0), .lit (.int .i64 1)], .agg [.lit (.int .i64 1), .lit (.int .i64 0)], .agg [.lit (.int .i64 1), .lit (.int .i64 1)], .agg [.lit (.int .i64 2), .lit (.int .i64 0)], .agg [.lit (.int .i64 0), .lit (.int .i64 1)], .agg [.lit (.int .i64 0), .lit (.int .i64 1)], .agg [.lit (.int .i64 0), .lit (.int .i64 1)], .agg [.lit (.int .i64 2), .lit (.int .i64 1)], .agg [.lit (.int .i64 2), .lit (.int .i64 1)], .agg [.lit (.int .i64 2), .lit (.int .i64 1)], .agg [.lit (.int .i64 2), .lit (.int .i64 1)], .agg [.lit (.int .i64 1), .lit (.int .i64 1)], .agg [.lit (.int .i64 2), .lit (.int .i64 1)], .agg [.lit (.int .i64 2), .lit (.int .i64 1)], .agg [.lit (.int .i64 2), .lit (.int .i64 1)], .agg [.lit (.int .i64 1), .lit (.int .i64 1)], .agg [.lit (.int .i64 0), .lit (.int .i64 0)], .agg [.lit (.int .i64 1), .lit (.int .i64 0)], .agg [.lit (.int .i64 2), .lit (.int .i64 0)], .agg [.lit (.int .i64 0), .lit (.int .i64 0)]]
def laid_arenanet_vm_effects {H : Type} : DataW H := .agg [.agg [.lit (.int .i64 0), .lit (.int .i64 0), .lit (.int .i64 0)], .agg [.lit (.int .i64 0), .lit (.int .i64 1), .lit (.int .i64 0)], .agg [.lit (.int .i64 0), .lit (.int .i64 1), .lit (.int .i64 16)], .agg [.lit (.int .i64 1), .lit (.int .i64 0), .lit (.int .i64 16)], .agg [.lit (.int .i64 1), .lit (.int .i64 1), .lit (.int .i64 8)], .agg [.lit (.int .i64 2), .lit (.int .i64 0), .lit (.int .i64 8)], .agg [.lit (.int .i64 0), .lit (.int .i64 1), .lit (.int .i64 0)], .agg [.lit (.int .i64 0), .lit (.int .i64 1), .lit (.int .i64 0)], .agg [.lit (.int .i64 0), .lit (.int .i64 1), .lit (.int .i64 0)], .agg [.lit (.int .i64 2), .lit (.int .i64 1), .lit (.int .i64 0)], .agg [.lit (.int .i64 2), .lit (.int .i64 1), .lit (.int .i64 0)], .agg [.lit (.int .i64 2), .lit (.int .i64 1), .lit (.int .i64 0)], .agg [.lit (.int .i64 2), .lit (.int .i64 1), .lit (.int .i64 0)], .agg [.lit (.int .i64 1), .lit (.int .i64 1), .lit (.int .i64 0)], .agg [.lit (.int .i64 2), .lit (.int .i64 1), .lit (.int .i64 0)], .agg [.lit (.int .i64 2), .lit (.int .i64 1), .lit (.int .i64 0)], .agg [.lit (.int .i64 2), .lit (.int .i64 1), .lit (.int .i64 0)], .agg [.lit (.int .i64 1), .lit (.int .i64 1), .lit (.int .i64 0)], .agg [.lit (.int .i64 0), .lit (.int .i64 0), .lit (.int .i64 0)], .agg [.lit (.int .i64 1), .lit (.int .i64 0), .lit (.int .i64 0)], .agg [.lit (.int .i64 2), .lit (.int .i64 0), .lit (.int .i64 0)], .agg [.lit (.int .i64 0), .lit (.int .i64 0), .lit (.int .i64 0)]]

/-- 'arenanetlaw25.PeerPerfect': WHATEVER THE INPUT: true; the input reads as it did. -/
def peerPerfectSpec : ChangeSpec := { name := "peerPerfect", fn := fun _ => fun
  | [d1, d2, d3, d4, d5] => { results := [.lit (.bool true)], args := [d1, d2, d3, d4, d5] }
  | _ => none }
def peerPerfectRow : OpenClaim := { program := "ytdppjkjbghbnjaagreatdoor", sum := "058bfa08c09ff12d615443c0db30cea5f9c66fa15d85320d42b3f3f46fd78687", func := "arenanet/arenanetlaw25.PeerPerfect", spec := "peerPerfect", inPlace := ["internal/bytealg.IndexByteString"], unfollowed := true, recurses := true, named := ["arenanet/compile.effects", "arenanet/vm.effects"], apart := false, laid := [("arenanet/compile.effects", laid_arenanet_compile_effects), ("arenanet/vm.effects", laid_arenanet_vm_effects)] }
def PeerPerfectSaid : Prop := peerPerfectRow.holds Tryz.pinned (OpenSpec.ofChange peerPerfectSpec)

/-- ITS FALSE NEIGHBOUR: 'it returns false'. Refute it at one input. -/
def peerPerfectWrong : ChangeSpec := { name := "peerPerfect", fn := fun _ => fun
  | [d1, d2, d3, d4, d5] => { results := [.lit (.bool false)], args := [d1, d2, d3, d4, d5] }
  | _ => none }
def PeerPerfectWrongFalsely : Prop := peerPerfectRow.holds Tryz.pinned (OpenSpec.ofChange peerPerfectWrong)

/-- 'arenanetlaw25.PeerWork': WHATEVER THE INPUT: true; the input reads as it did. -/
def peerWorkSpec : ChangeSpec := { name := "peerWork", fn := fun _ => fun
  | [d1, d2, d3, d4, d5] => { results := [.lit (.bool true)], args := [d1, d2, d3, d4, d5] }
  | _ => none }
def peerWorkRow : OpenClaim := { program := "ytdppjkjbghbnjaagreatdoor", sum := "058bfa08c09ff12d615443c0db30cea5f9c66fa15d85320d42b3f3f46fd78687", func := "arenanet/arenanetlaw25.PeerWork", spec := "peerWork", inPlace := ["internal/bytealg.IndexByteString"], unfollowed := true, recurses := true, named := ["arenanet/compile.effects", "arenanet/vm.effects"], apart := false, laid := [("arenanet/compile.effects", laid_arenanet_compile_effects), ("arenanet/vm.effects", laid_arenanet_vm_effects)] }
def PeerWorkSaid : Prop := peerWorkRow.holds Tryz.pinned (OpenSpec.ofChange peerWorkSpec)

/-- ITS FALSE NEIGHBOUR: 'it returns false'. Refute it at one input. -/
def peerWorkWrong : ChangeSpec := { name := "peerWork", fn := fun _ => fun
  | [d1, d2, d3, d4, d5] => { results := [.lit (.bool false)], args := [d1, d2, d3, d4, d5] }
  | _ => none }
def PeerWorkWrongFalsely : Prop := peerWorkRow.holds Tryz.pinned (OpenSpec.ofChange peerWorkWrong)

/-- 'arenanetlaw25.PeerSchedules': WHATEVER THE INPUT: true; the input reads as it did. -/
def peerSchedulesSpec : ChangeSpec := { name := "peerSchedules", fn := fun _ => fun
  | [d1, d2, d3, d4, d5, d6] => { results := [.lit (.bool true)], args := [d1, d2, d3, d4, d5, d6] }
  | _ => none }
def peerSchedulesRow : OpenClaim := { program := "ytdppjkjbghbnjaagreatdoor", sum := "058bfa08c09ff12d615443c0db30cea5f9c66fa15d85320d42b3f3f46fd78687", func := "arenanet/arenanetlaw25.PeerSchedules", spec := "peerSchedules", inPlace := ["internal/bytealg.IndexByteString"], unfollowed := true, recurses := true, named := ["arenanet/compile.effects", "arenanet/vm.effects"], apart := false, laid := [("arenanet/compile.effects", laid_arenanet_compile_effects), ("arenanet/vm.effects", laid_arenanet_vm_effects)] }
def PeerSchedulesSaid : Prop := peerSchedulesRow.holds Tryz.pinned (OpenSpec.ofChange peerSchedulesSpec)

/-- ITS FALSE NEIGHBOUR: 'it returns false'. Refute it at one input. -/
def peerSchedulesWrong : ChangeSpec := { name := "peerSchedules", fn := fun _ => fun
  | [d1, d2, d3, d4, d5, d6] => { results := [.lit (.bool false)], args := [d1, d2, d3, d4, d5, d6] }
  | _ => none }
def PeerSchedulesWrongFalsely : Prop := peerSchedulesRow.holds Tryz.pinned (OpenSpec.ofChange peerSchedulesWrong)

/-- 'arenanetlaw25.PeerIgnoresLocal': WHATEVER THE INPUT: true; the input reads as it did. -/
def peerIgnoresLocalSpec : ChangeSpec := { name := "peerIgnoresLocal", fn := fun _ => fun
  | [d1, d2, d3, d4, d5] => { results := [.lit (.bool true)], args := [d1, d2, d3, d4, d5] }
  | _ => none }
def peerIgnoresLocalRow : OpenClaim := { program := "ytdppjkjbghbnjaagreatdoor", sum := "058bfa08c09ff12d615443c0db30cea5f9c66fa15d85320d42b3f3f46fd78687", func := "arenanet/arenanetlaw25.PeerIgnoresLocal", spec := "peerIgnoresLocal", inPlace := ["internal/bytealg.IndexByteString"], unfollowed := true, recurses := true, named := ["arenanet/compile.effects", "arenanet/vm.effects"], apart := false, laid := [("arenanet/compile.effects", laid_arenanet_compile_effects), ("arenanet/vm.effects", laid_arenanet_vm_effects)] }
def PeerIgnoresLocalSaid : Prop := peerIgnoresLocalRow.holds Tryz.pinned (OpenSpec.ofChange peerIgnoresLocalSpec)

/-- ITS FALSE NEIGHBOUR: 'it returns false'. Refute it at one input. -/
def peerIgnoresLocalWrong : ChangeSpec := { name := "peerIgnoresLocal", fn := fun _ => fun
  | [d1, d2, d3, d4, d5] => { results := [.lit (.bool false)], args := [d1, d2, d3, d4, d5] }
  | _ => none }
def PeerIgnoresLocalWrongFalsely : Prop := peerIgnoresLocalRow.holds Tryz.pinned (OpenSpec.ofChange peerIgnoresLocalWrong)

/-- 'arenanetlaw25.PeerFinal': WHATEVER THE INPUT: true; the input reads as it did. -/
def peerFinalSpec : ChangeSpec := { name := "peerFinal", fn := fun _ => fun
  | [d1, d2, d3, d4, d5, d6] => { results := [.lit (.bool true)], args := [d1, d2, d3, d4, d5, d6] }
  | _ => none }
def peerFinalRow : OpenClaim := { program := "ytdppjkjbghbnjaagreatdoor", sum := "058bfa08c09ff12d615443c0db30cea5f9c66fa15d85320d42b3f3f46fd78687", func := "arenanet/arenanetlaw25.PeerFinal", spec := "peerFinal", inPlace := ["internal/bytealg.IndexByteString"], unfollowed := true, recurses := true, named := ["arenanet/compile.effects", "arenanet/vm.effects"], apart := false, laid := [("arenanet/compile.effects", laid_arenanet_compile_effects), ("arenanet/vm.effects", laid_arenanet_vm_effects)] }
def PeerFinalSaid : Prop := peerFinalRow.holds Tryz.pinned (OpenSpec.ofChange peerFinalSpec)

/-- ITS FALSE NEIGHBOUR: 'it returns false'. Refute it at one input. -/
def peerFinalWrong : ChangeSpec := { name := "peerFinal", fn := fun _ => fun
  | [d1, d2, d3, d4, d5, d6] => { results := [.lit (.bool false)], args := [d1, d2, d3, d4, d5, d6] }
  | _ => none }
def PeerFinalWrongFalsely : Prop := peerFinalRow.holds Tryz.pinned (OpenSpec.ofChange peerFinalWrong)

/-- 'arenanetlaw25.PeerTransparent': WHATEVER THE INPUT: true; the input reads as it did. -/
def peerTransparentSpec : ChangeSpec := { name := "peerTransparent", fn := fun _ => fun
  | [d1, d2, d3, d4, d5, d6, d7] => { results := [.lit (.bool true)], args := [d1, d2, d3, d4, d5, d6, d7] }
  | _ => none }
def peerTransparentRow : OpenClaim := { program := "ytdppjkjbghbnjaagreatdoor", sum := "058bfa08c09ff12d615443c0db30cea5f9c66fa15d85320d42b3f3f46fd78687", func := "arenanet/arenanetlaw25.PeerTransparent", spec := "peerTransparent", inPlace := ["internal/bytealg.IndexByteString"], unfollowed := true, recurses := true, named := ["arenanet/compile.effects", "arenanet/vm.effects"], apart := false, laid := [("arenanet/compile.effects", laid_arenanet_compile_effects), ("arenanet/vm.effects", laid_arenanet_vm_effects)] }
def PeerTransparentSaid : Prop := peerTransparentRow.holds Tryz.pinned (OpenSpec.ofChange peerTransparentSpec)

/-- ITS FALSE NEIGHBOUR: 'it returns false'. Refute it at one input. -/
def peerTransparentWrong : ChangeSpec := { name := "peerTransparent", fn := fun _ => fun
  | [d1, d2, d3, d4, d5, d6, d7] => { results := [.lit (.bool false)], args := [d1, d2, d3, d4, d5, d6, d7] }
  | _ => none }
def PeerTransparentWrongFalsely : Prop := peerTransparentRow.holds Tryz.pinned (OpenSpec.ofChange peerTransparentWrong)

/-- 'arenanetlaw32.ReplayPeer': WHATEVER THE INPUT: true; the input reads as it did. -/
def replayPeerSpec : ChangeSpec := { name := "replayPeer", fn := fun _ => fun
  | [d1, d2, d3, d4, d5] => { results := [.lit (.bool true)], args := [d1, d2, d3, d4, d5] }
  | _ => none }
def replayPeerRow : OpenClaim := { program := "ytdppjkjbghbnjaagreatdoor", sum := "058bfa08c09ff12d615443c0db30cea5f9c66fa15d85320d42b3f3f46fd78687", func := "arenanet/arenanetlaw32.ReplayPeer", spec := "replayPeer", inPlace := ["internal/bytealg.IndexByteString"], unfollowed := true, recurses := true, named := ["arenanet/compile.effects", "arenanet/vm.effects"], apart := false, laid := [("arenanet/compile.effects", laid_arenanet_compile_effects), ("arenanet/vm.effects", laid_arenanet_vm_effects)] }
def ReplayPeerSaid : Prop := replayPeerRow.holds Tryz.pinned (OpenSpec.ofChange replayPeerSpec)

/-- ITS FALSE NEIGHBOUR: 'it returns false'. Refute it at one input. -/
def replayPeerWrong : ChangeSpec := { name := "replayPeer", fn := fun _ => fun
  | [d1, d2, d3, d4, d5] => { results := [.lit (.bool false)], args := [d1, d2, d3, d4, d5] }
  | _ => none }
def ReplayPeerWrongFalsely : Prop := replayPeerRow.holds Tryz.pinned (OpenSpec.ofChange replayPeerWrong)

/- THE SECOND FORM. 'bulk': how many values and letters a reading holds, each counted each time it is reached (what is shared counts as often as it is met; a slice's spare places count too). A statement '..UptoSaid' is the law's where the arguments, and the package variables that the reading takes, are together of bulk at most 1048576: NARROWER than '..Said'. Prove '..Said' where nothing that the law and all that it calls make is longer than what came in: it says more and counts as full. Else prove '..UptoSaid'. A law counts once. -/
mutual
def uptoBulk {H : Type} : DataW H → Nat
  | .lit (.string bytes) => bytes.length + 1
  | .lit _ => 1
  | .nil => 1
  | .ptr d => uptoBulk d + 1
  | .slice elems spare => uptoBulkAll elems + uptoBulkAll spare + 1
  | .agg parts => uptoBulkAll parts + 1
  | .iface _ d => uptoBulk d + 1
  | .map entries => uptoBulkEntries entries + 1
  | .held _ => 1
def uptoBulkAll {H : Type} : List (DataW H) → Nat
  | [] => 0
  | d :: r => uptoBulk d + uptoBulkAll r
def uptoBulkEntries {H : Type} : List (Lit × DataW H) → Nat
  | [] => 0
  | x :: r => uptoBulkEntry x + uptoBulkEntries r
def uptoBulkEntry {H : Type} : Lit × DataW H → Nat
  | (.string bytes, d) => bytes.length + uptoBulk d + 1
  | (_, d) => uptoBulk d + 1
 end
def uptoSmall : (H : Type) → List (DataW H) → Bool := fun _ ds => decide (uptoBulkAll ds ≤ 1048576)
def OpenSpec.upto (s : _root_.Go.ChangeSpec) : _root_.Go.OpenSpec := { _root_.Go.OpenSpec.ofChange s with cond := some uptoSmall }

/-- 'arenanetlaw25.PeerPerfect', WHERE WHAT IT READS IS OF BULK AT MOST 1048576: true; the input reads as it did. -/
def peerPerfectUptoRow : OpenClaim := { program := "ytdppjkjbghbnjaagreatdoor", sum := "058bfa08c09ff12d615443c0db30cea5f9c66fa15d85320d42b3f3f46fd78687", func := "arenanet/arenanetlaw25.PeerPerfect", spec := "peerPerfect", inPlace := ["internal/bytealg.IndexByteString"], unfollowed := true, recurses := true, named := ["arenanet/compile.effects", "arenanet/vm.effects"], apart := false, laid := [("arenanet/compile.effects", laid_arenanet_compile_effects), ("arenanet/vm.effects", laid_arenanet_vm_effects)], narrowed := true }
def PeerPerfectUptoSaid : Prop := peerPerfectUptoRow.holds Tryz.pinned (OpenSpec.upto peerPerfectSpec)

/-- 'arenanetlaw25.PeerWork', WHERE WHAT IT READS IS OF BULK AT MOST 1048576: true; the input reads as it did. -/
def peerWorkUptoRow : OpenClaim := { program := "ytdppjkjbghbnjaagreatdoor", sum := "058bfa08c09ff12d615443c0db30cea5f9c66fa15d85320d42b3f3f46fd78687", func := "arenanet/arenanetlaw25.PeerWork", spec := "peerWork", inPlace := ["internal/bytealg.IndexByteString"], unfollowed := true, recurses := true, named := ["arenanet/compile.effects", "arenanet/vm.effects"], apart := false, laid := [("arenanet/compile.effects", laid_arenanet_compile_effects), ("arenanet/vm.effects", laid_arenanet_vm_effects)], narrowed := true }
def PeerWorkUptoSaid : Prop := peerWorkUptoRow.holds Tryz.pinned (OpenSpec.upto peerWorkSpec)

/-- 'arenanetlaw25.PeerSchedules', WHERE WHAT IT READS IS OF BULK AT MOST 1048576: true; the input reads as it did. -/
def peerSchedulesUptoRow : OpenClaim := { program := "ytdppjkjbghbnjaagreatdoor", sum := "058bfa08c09ff12d615443c0db30cea5f9c66fa15d85320d42b3f3f46fd78687", func := "arenanet/arenanetlaw25.PeerSchedules", spec := "peerSchedules", inPlace := ["internal/bytealg.IndexByteString"], unfollowed := true, recurses := true, named := ["arenanet/compile.effects", "arenanet/vm.effects"], apart := false, laid := [("arenanet/compile.effects", laid_arenanet_compile_effects), ("arenanet/vm.effects", laid_arenanet_vm_effects)], narrowed := true }
def PeerSchedulesUptoSaid : Prop := peerSchedulesUptoRow.holds Tryz.pinned (OpenSpec.upto peerSchedulesSpec)

/-- 'arenanetlaw25.PeerIgnoresLocal', WHERE WHAT IT READS IS OF BULK AT MOST 1048576: true; the input reads as it did. -/
def peerIgnoresLocalUptoRow : OpenClaim := { program := "ytdppjkjbghbnjaagreatdoor", sum := "058bfa08c09ff12d615443c0db30cea5f9c66fa15d85320d42b3f3f46fd78687", func := "arenanet/arenanetlaw25.PeerIgnoresLocal", spec := "peerIgnoresLocal", inPlace := ["internal/bytealg.IndexByteString"], unfollowed := true, recurses := true, named := ["arenanet/compile.effects", "arenanet/vm.effects"], apart := false, laid := [("arenanet/compile.effects", laid_arenanet_compile_effects), ("arenanet/vm.effects", laid_arenanet_vm_effects)], narrowed := true }
def PeerIgnoresLocalUptoSaid : Prop := peerIgnoresLocalUptoRow.holds Tryz.pinned (OpenSpec.upto peerIgnoresLocalSpec)

/-- 'arenanetlaw25.PeerFinal', WHERE WHAT IT READS IS OF BULK AT MOST 1048576: true; the input reads as it did. -/
def peerFinalUptoRow : OpenClaim := { program := "ytdppjkjbghbnjaagreatdoor", sum := "058bfa08c09ff12d615443c0db30cea5f9c66fa15d85320d42b3f3f46fd78687", func := "arenanet/arenanetlaw25.PeerFinal", spec := "peerFinal", inPlace := ["internal/bytealg.IndexByteString"], unfollowed := true, recurses := true, named := ["arenanet/compile.effects", "arenanet/vm.effects"], apart := false, laid := [("arenanet/compile.effects", laid_arenanet_compile_effects), ("arenanet/vm.effects", laid_arenanet_vm_effects)], narrowed := true }
def PeerFinalUptoSaid : Prop := peerFinalUptoRow.holds Tryz.pinned (OpenSpec.upto peerFinalSpec)

/-- 'arenanetlaw25.PeerTransparent', WHERE WHAT IT READS IS OF BULK AT MOST 1048576: true; the input reads as it did. -/
def peerTransparentUptoRow : OpenClaim := { program := "ytdppjkjbghbnjaagreatdoor", sum := "058bfa08c09ff12d615443c0db30cea5f9c66fa15d85320d42b3f3f46fd78687", func := "arenanet/arenanetlaw25.PeerTransparent", spec := "peerTransparent", inPlace := ["internal/bytealg.IndexByteString"], unfollowed := true, recurses := true, named := ["arenanet/compile.effects", "arenanet/vm.effects"], apart := false, laid := [("arenanet/compile.effects", laid_arenanet_compile_effects), ("arenanet/vm.effects", laid_arenanet_vm_effects)], narrowed := true }
def PeerTransparentUptoSaid : Prop := peerTransparentUptoRow.holds Tryz.pinned (OpenSpec.upto peerTransparentSpec)

/-- 'arenanetlaw32.ReplayPeer', WHERE WHAT IT READS IS OF BULK AT MOST 1048576: true; the input reads as it did. -/
def replayPeerUptoRow : OpenClaim := { program := "ytdppjkjbghbnjaagreatdoor", sum := "058bfa08c09ff12d615443c0db30cea5f9c66fa15d85320d42b3f3f46fd78687", func := "arenanet/arenanetlaw32.ReplayPeer", spec := "replayPeer", inPlace := ["internal/bytealg.IndexByteString"], unfollowed := true, recurses := true, named := ["arenanet/compile.effects", "arenanet/vm.effects"], apart := false, laid := [("arenanet/compile.effects", laid_arenanet_compile_effects), ("arenanet/vm.effects", laid_arenanet_vm_effects)], narrowed := true }
def ReplayPeerUptoSaid : Prop := replayPeerUptoRow.holds Tryz.pinned (OpenSpec.upto replayPeerSpec)

end Rows
end Go.Proofs.YtdppjkjbghbnjaaGreatDoor
