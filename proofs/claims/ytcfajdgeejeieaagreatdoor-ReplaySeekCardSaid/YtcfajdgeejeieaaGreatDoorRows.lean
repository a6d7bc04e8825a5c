/-
  NARROWER THAN 'FOR EVERY INPUT', by the rows' own cells (each row's printed sentence says how): GameRoots: laid · GameUndo: laid · ReplaySeek: laid.
  DERIVED. THE GIVEN ROWS OF THIS SEAT. 3 by the template 'for every input the law returns true; each argument reads behind the call as it read before'; 0 by the template 'total and deterministic' (their statements: YtcfajdgeejeieaaGreatDoorTotals.lean).
  GIVEN WITH THE SEED: the statements are not yours to turn. If you find one false, say at which input.
  Laid BY PROGRAM, IN A SANDBOX (cutbox-rows.mjs): the forced cells as the released guide's own fill.sh prints them over the translation 3059f2b94c4d92b8… (all of the seat's roots in one cut). By AI agents, Wed Nov 11 2026. No macro, syntax, notation, axiom, sorry.
-/
import Derived.Test.YtcfajdgeejeieaaGreatDoorChecked
import GoSem.Claim
import GoSem.ClaimJoined
import GoSem.ClaimMapViews
import Derived.JoinedTies
import Derived.KernelRfl
namespace Go.Proofs.YtcfajdgeejeieaaGreatDoor
/- THE CELL 'sum', in the pinned program and in every row, IS THE sha256 OF THE DUMP (.gsa) THAT YtcfajdgeejeieaaGreatDoorProg.lean LOADS. Nothing in Lean hashes anything: it is a label: what it is worth is what the hold of that sum in a sandbox is worth. -/
noncomputable def Tryz.pinned : Pinned := { name := "ytcfajdgeejeieaagreatdoor", sum := "3059f2b94c4d92b8a9a1f7eb931bdb1df6667c4d8464fd1f863d1234c2f91e58", checked := Tryz.checked }
namespace Rows
def none {H : Type} : Left H := { results := [], args := [] }

/- WHAT THE LISTED PACKAGE-LEVEL VARIABLES READ AS WHEN THE CALL BEGINS. Each datum BY PROGRAM (the guide's laid-datum.mjs) off the statement by which the dump's own 'gosem.cut.vars' lays the variable. In a bare row this is a premise. The card (YtcfajdgeejeieaaGreatDoorCards.lean) ties it to the program's text. -/
def laid_arenanet_compile_effects {H : Type} : DataW H := .agg [.agg [.lit (.int .i64 0), .lit (.int .i64 0)], .agg [.lit (.int .i64 0), .lit (.int .i64 1)], .agg [.lit (.int .i64 0), .lit (.int .i64 1)], .agg [.lit (.int .i64 1), .lit (.int .i64 0)], .agg [.lit (.int .i64 1), .lit (.int .i64 1)], .agg [.lit (.int .i64 2), .lit (.int .i64 0)], .agg [.lit (.int .i64 0), .lit (.int .i64 1)], .agg [.lit (.int .i64 0), .lit (.int .i64 1)], .agg [.lit (.int .i64 0), .lit (.int .i64 1)], .agg [.lit (.int .i64 2), .lit (.int .i64 1)], .agg [.lit (.int .i64 2), .lit (.int .i64 1)], .agg [.lit (.int .i64 2), .lit (.int .i64 1)], .agg [.lit (.int .i64 2), .lit (.int .i64 1)], .agg [.lit (.int .i64 1), .lit (.int .i64 1)], .agg [.lit (.int .i64 2), .lit (.int .i64 1)], .agg [.lit (.int .i64 2), .lit (.int .i64 1)], .agg [.lit (.int .i64 2), .lit (.int .i64 1)], .agg [.lit (.int .i64 1), .lit (.int .i64 1)], .agg [.lit (.int .i64 0), .lit (.int .i64 0)], .agg [.lit (.int .i64 1), .lit (.int .i64 0)], .agg [.lit (.int .i64 2), .lit (.int .i64 0)], .agg [.lit (.int .i64 0), .lit (.int .i64 0)]]
def laid_arenanet_vm_effects {H : Type} : DataW H := .agg [.agg [.lit (.int .i64 0), .lit (.int .i64 0), .lit (.int .i64 0)], .agg [.lit (.int .i64 0), .lit (.int .i64 1), .lit (.int .i64 0)], .agg [.lit (.int .i64 0), .lit (.int .i64 1), .lit (.int .i64 16)], .agg [.lit (.int .i64 1), .lit (.int .i64 0), .lit (.int .i64 16)], .agg [.lit (.int .i64 1), .lit (.int .i64 1), .lit (.int .i64 8)], .agg [.lit (.int .i64 2), .lit (.int .i64 0), .lit (.int .i64 8)], .agg [.lit (.int .i64 0), .lit (.int .i64 1), .lit (.int .i64 0)], .agg [.lit (.int .i64 0), .lit (.int .i64 1), .lit (.int .i64 0)], .agg [.lit (.int .i64 0), .lit (.int .i64 1), .lit (.int .i64 0)], .agg [.lit (.int .i64 2), .lit (.int .i64 1), .lit (.int .i64 0)], .agg [.lit (.int .i64 2), .lit (.int .i64 1), .lit (.int .i64 0)], .agg [.lit (.int .i64 2), .lit (.int .i64 1), .lit (.int .i64 0)], .agg [.lit (.int .i64 2), .lit (.int .i64 1), .lit (.int .i64 0)], .agg [.lit (.int .i64 1), .lit (.int .i64 1), .lit (.int .i64 0)], .agg [.lit (.int .i64 2), .lit (.int .i64 1), .lit (.int .i64 0)], .agg [.lit (.int .i64 2), .lit (.int .i64 1), .lit (.int .i64 0)], .agg [.lit (.int .i64 2), .lit (.int .i64 1), .lit (.int .i64 0)], .agg [.lit (.int .i64 1), .lit (.int .i64 1), .lit (.int .i64 0)], .agg [.lit (.int .i64 0), .lit (.int .i64 0), .lit (.int .i64 0)], .agg [.lit (.int .i64 1), .lit (.int .i64 0), .lit (.int .i64 0)], .agg [.lit (.int .i64 2), .lit (.int .i64 0), .lit (.int .i64 0)], .agg [.lit (.int .i64 0), .lit (.int .i64 0), .lit (.int .i64 0)]]

/-- 'arenanetlaw19.GameRoots': WHATEVER THE INPUT: true; the input reads as it did. -/
def gameRootsSpec : ChangeSpec := { name := "gameRoots", fn := fun _ => fun
  | [d1, d2, d3, d4] => { results := [.lit (.bool true)], args := [d1, d2, d3, d4] }
  | _ => none }
def gameRootsRow : OpenClaim := { program := "ytcfajdgeejeieaagreatdoor", sum := "3059f2b94c4d92b8a9a1f7eb931bdb1df6667c4d8464fd1f863d1234c2f91e58", func := "arenanet/arenanetlaw19.GameRoots", spec := "gameRoots", inPlace := ["internal/bytealg.IndexByteString"], unfollowed := true, recurses := true, named := ["arenanet/compile.effects", "arenanet/vm.effects"], apart := false, laid := [("arenanet/compile.effects", laid_arenanet_compile_effects), ("arenanet/vm.effects", laid_arenanet_vm_effects)] }
def GameRootsSaid : Prop := gameRootsRow.holds Tryz.pinned (OpenSpec.ofChange gameRootsSpec)

/-- ITS FALSE NEIGHBOUR: 'it returns false'. Refute it at one input. -/
def gameRootsWrong : ChangeSpec := { name := "gameRoots", fn := fun _ => fun
  | [d1, d2, d3, d4] => { results := [.lit (.bool false)], args := [d1, d2, d3, d4] }
  | _ => none }
def GameRootsWrongFalsely : Prop := gameRootsRow.holds Tryz.pinned (OpenSpec.ofChange gameRootsWrong)

/-- 'arenanetlaw19.GameUndo': WHATEVER THE INPUT: true; the input reads as it did. -/
def gameUndoSpec : ChangeSpec := { name := "gameUndo", fn := fun _ => fun
  | [d1, d2, d3, d4] => { results := [.lit (.bool true)], args := [d1, d2, d3, d4] }
  | _ => none }
def gameUndoRow : OpenClaim := { program := "ytcfajdgeejeieaagreatdoor", sum := "3059f2b94c4d92b8a9a1f7eb931bdb1df6667c4d8464fd1f863d1234c2f91e58", func := "arenanet/arenanetlaw19.GameUndo", spec := "gameUndo", inPlace := ["internal/bytealg.IndexByteString"], unfollowed := true, recurses := true, named := ["arenanet/compile.effects", "arenanet/vm.effects"], apart := false, laid := [("arenanet/compile.effects", laid_arenanet_compile_effects), ("arenanet/vm.effects", laid_arenanet_vm_effects)] }
def GameUndoSaid : Prop := gameUndoRow.holds Tryz.pinned (OpenSpec.ofChange gameUndoSpec)

/-- ITS FALSE NEIGHBOUR: 'it returns false'. Refute it at one input. -/
def gameUndoWrong : ChangeSpec := { name := "gameUndo", fn := fun _ => fun
  | [d1, d2, d3, d4] => { results := [.lit (.bool false)], args := [d1, d2, d3, d4] }
  | _ => none }
def GameUndoWrongFalsely : Prop := gameUndoRow.holds Tryz.pinned (OpenSpec.ofChange gameUndoWrong)

/-- 'arenanetlaw32.ReplaySeek': WHATEVER THE INPUT: true; the input reads as it did. -/
def replaySeekSpec : ChangeSpec := { name := "replaySeek", fn := fun _ => fun
  | [d1, d2, d3, d4, d5, d6, d7, d8] => { results := [.lit (.bool true)], args := [d1, d2, d3, d4, d5, d6, d7, d8] }
  | _ => none }
def replaySeekRow : OpenClaim := { program := "ytcfajdgeejeieaagreatdoor", sum := "3059f2b94c4d92b8a9a1f7eb931bdb1df6667c4d8464fd1f863d1234c2f91e58", func := "arenanet/arenanetlaw32.ReplaySeek", spec := "replaySeek", inPlace := ["internal/bytealg.IndexByteString"], unfollowed := true, recurses := true, named := ["arenanet/compile.effects", "arenanet/vm.effects"], apart := false, laid := [("arenanet/compile.effects", laid_arenanet_compile_effects), ("arenanet/vm.effects", laid_arenanet_vm_effects)] }
def ReplaySeekSaid : Prop := replaySeekRow.holds Tryz.pinned (OpenSpec.ofChange replaySeekSpec)

/-- ITS FALSE NEIGHBOUR: 'it returns false'. Refute it at one input. -/
def replaySeekWrong : ChangeSpec := { name := "replaySeek", fn := fun _ => fun
  | [d1, d2, d3, d4, d5, d6, d7, d8] => { results := [.lit (.bool false)], args := [d1, d2, d3, d4, d5, d6, d7, d8] }
  | _ => none }
def ReplaySeekWrongFalsely : Prop := replaySeekRow.holds Tryz.pinned (OpenSpec.ofChange replaySeekWrong)

/- THE SECOND FORM. 'bulk': how many values and letters a reading holds, each counted each time it is reached (what is shared counts as often as it is met; a slice's spare places count too). A statement '..UptoSaid' is the law's where the arguments, and the package variables that the reading takes, are together of bulk at most 1048576: NARROWER than '..Said'. Prove '..Said' where nothing that the law and all that it calls make is longer than what came in: it says more and counts as full. Else prove '..UptoSaid'. A law counts once. -/
mutual
def uptoBulk {H : Type} : DataW H → Nat
  | .lit (.string bytes) => bytes.length + 1
  | .lit _ => 1
  | .nil => 1
  | .ptr d => uptoBulk d + 1
  | .slice elems spare => uptoBulkAll elems + uptoBulkAll spare + 1
  | .agg parts => uptoBulkAll parts + 1
  | .iface _ d => uptoBulk d + 1
  | .map entries => uptoBulkEntries entries + 1
  | .held _ => 1
def uptoBulkAll {H : Type} : List (DataW H) → Nat
  | [] => 0
  | d :: r => uptoBulk d + uptoBulkAll r
def uptoBulkEntries {H : Type} : List (Lit × DataW H) → Nat
  | [] => 0
  | x :: r => uptoBulkEntry x + uptoBulkEntries r
def uptoBulkEntry {H : Type} : Lit × DataW H → Nat
  | (.string bytes, d) => bytes.length + uptoBulk d + 1
  | (_, d) => uptoBulk d + 1
 end
def uptoSmall : (H : Type) → List (DataW H) → Bool := fun _ ds => decide (uptoBulkAll ds ≤ 1048576)
def OpenSpec.upto (s : _root_.Go.ChangeSpec) : _root_.Go.OpenSpec := { _root_.Go.OpenSpec.ofChange s with cond := some uptoSmall }

/-- 'arenanetlaw19.GameRoots', WHERE WHAT IT READS IS OF BULK AT MOST 1048576: true; the input reads as it did. -/
def gameRootsUptoRow : OpenClaim := { program := "ytcfajdgeejeieaagreatdoor", sum := "3059f2b94c4d92b8a9a1f7eb931bdb1df6667c4d8464fd1f863d1234c2f91e58", func := "arenanet/arenanetlaw19.GameRoots", spec := "gameRoots", inPlace := ["internal/bytealg.IndexByteString"], unfollowed := true, recurses := true, named := ["arenanet/compile.effects", "arenanet/vm.effects"], apart := false, laid := [("arenanet/compile.effects", laid_arenanet_compile_effects), ("arenanet/vm.effects", laid_arenanet_vm_effects)], narrowed := true }
def GameRootsUptoSaid : Prop := gameRootsUptoRow.holds Tryz.pinned (OpenSpec.upto gameRootsSpec)

/-- 'arenanetlaw19.GameUndo', WHERE WHAT IT READS IS OF BULK AT MOST 1048576: true; the input reads as it did. -/
def gameUndoUptoRow : OpenClaim := { program := "ytcfajdgeejeieaagreatdoor", sum := "3059f2b94c4d92b8a9a1f7eb931bdb1df6667c4d8464fd1f863d1234c2f91e58", func := "arenanet/arenanetlaw19.GameUndo", spec := "gameUndo", inPlace := ["internal/bytealg.IndexByteString"], unfollowed := true, recurses := true, named := ["arenanet/compile.effects", "arenanet/vm.effects"], apart := false, laid := [("arenanet/compile.effects", laid_arenanet_compile_effects), ("arenanet/vm.effects", laid_arenanet_vm_effects)], narrowed := true }
def GameUndoUptoSaid : Prop := gameUndoUptoRow.holds Tryz.pinned (OpenSpec.upto gameUndoSpec)

/-- 'arenanetlaw32.ReplaySeek', WHERE WHAT IT READS IS OF BULK AT MOST 1048576: true; the input reads as it did. -/
def replaySeekUptoRow : OpenClaim := { program := "ytcfajdgeejeieaagreatdoor", sum := "3059f2b94c4d92b8a9a1f7eb931bdb1df6667c4d8464fd1f863d1234c2f91e58", func := "arenanet/arenanetlaw32.ReplaySeek", spec := "replaySeek", inPlace := ["internal/bytealg.IndexByteString"], unfollowed := true, recurses := true, named := ["arenanet/compile.effects", "arenanet/vm.effects"], apart := false, laid := [("arenanet/compile.effects", laid_arenanet_compile_effects), ("arenanet/vm.effects", laid_arenanet_vm_effects)], narrowed := true }
def ReplaySeekUptoSaid : Prop := replaySeekUptoRow.holds Tryz.pinned (OpenSpec.upto replaySeekSpec)

end Rows
end Go.Proofs.YtcfajdgeejeieaaGreatDoor
