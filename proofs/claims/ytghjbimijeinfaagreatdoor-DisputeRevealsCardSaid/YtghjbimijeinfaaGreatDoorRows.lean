/-
  NARROWER THAN 'FOR EVERY INPUT', by the rows' own cells (each row's printed sentence says how): GameMoves: laid · DisputeReveals: laid · DisputeErrors: laid · DisputeTwins: laid.
  DERIVED. THE GIVEN ROWS OF THIS SEAT. 4 by the template 'for every input the law returns true; each argument reads behind the call as it read before'; 0 by the template 'total and deterministic' (their statements: YtghjbimijeinfaaGreatDoorTotals.lean).
  GIVEN WITH THE SEED: the statements are not yours to turn. If you find one false, say at which input.
  Laid BY PROGRAM, IN A SANDBOX (cutbox-rows.mjs): the forced cells as the released guide's own fill.sh prints them over the translation cfb603bc63cad8ef… (all of the seat's roots in one cut). By AI agents, Wed Nov 11 2026. No macro, syntax, notation, axiom, sorry.
-/
import Derived.Test.YtghjbimijeinfaaGreatDoorChecked
import GoSem.Claim
import GoSem.ClaimJoined
import GoSem.ClaimMapViews
import Derived.JoinedTies
import Derived.KernelRfl
namespace Go.Proofs.YtghjbimijeinfaaGreatDoor
/- THE CELL 'sum', in the pinned program and in every row, IS THE sha256 OF THE DUMP (.gsa) THAT YtghjbimijeinfaaGreatDoorProg.lean LOADS. Nothing in Lean hashes anything: it is a label: what it is worth is what the hold of that sum in a sandbox is worth. -/
noncomputable def Tryz.pinned : Pinned := { name := "ytghjbimijeinfaagreatdoor", sum := "cfb603bc63cad8efef999d0f1c8aa562a2ad34171573d026c63c0f5273b8fcfe", checked := Tryz.checked }
namespace Rows
def none {H : Type} : Left H := { results := [], args := [] }

/- WHAT THE LISTED PACKAGE-LEVEL VARIABLES READ AS WHEN THE CALL BEGINS. Each datum BY PROGRAM (the guide's laid-datum.mjs) off the statement by which the dump's own 'gosem.cut.vars' lays the variable. In a bare row this is a premise. The card (YtghjbimijeinfaaGreatDoorCards.lean) ties it to the program's text. -/
def laid_arenanet_compile_effects {H : Type} : DataW H := .agg [.agg [.lit (.int .i64 0), .lit (.int .i64 0)], .agg [.lit (.int .i64 0), .lit (.int .i64 1)], .agg [.lit (.int .i64 0), .lit (.int .i64 1)], .agg [.lit (.int .i64 1), .lit (.int .i64 0)], .agg [.lit (.int .i64 1), .lit (.int .i64 1)], .agg [.lit (.int .i64 2), .lit (.int .i64 0)], .agg [.lit (.int .i64 0), .lit (.int .i64 1)], .agg [.lit (.int .i64 0), .lit (.int .i64 1)], .agg [.lit (.int .i64 0), .lit (.int .i64 1)], .agg [.lit (.int .i64 2), .lit (.int .i64 1)], .agg [.lit (.int .i64 2), .lit (.int .i64 1)], .agg [.lit (.int .i64 2), .lit (.int .i64 1)], .agg [.lit (.int .i64 2), .lit (.int .i64 1)], .agg [.lit (.int .i64 1), .lit (.int .i64 1)], .agg [.lit (.int .i64 2), .lit (.int .i64 1)], .agg [.lit (.int .i64 2), .lit (.int .i64 1)], .agg [.lit (.int .i64 2), .lit (.int .i64 1)], .agg [.lit (.int .i64 1), .lit (.int .i64 1)], .agg [.lit (.int .i64 0), .lit (.int .i64 0)], .agg [.lit (.int .i64 1), .lit (.int .i64 0)], .agg [.lit (.int .i64 2), .lit (.int .i64 0)], .agg [.lit (.int .i64 0), .lit (.int .i64 0)]]
def laid_arenanet_vm_effects {H : Type} : DataW H := .agg [.agg [.lit (.int .i64 0), .lit (.int .i64 0), .lit (.int .i64 0)], .agg [.lit (.int .i64 0), .lit (.int .i64 1), .lit (.int .i64 0)], .agg [.lit (.int .i64 0), .lit (.int .i64 1), .lit (.int .i64 16)], .agg [.lit (.int .i64 1), .lit (.int .i64 0), .lit (.int .i64 16)], .agg [.lit (.int .i64 1), .lit (.int .i64 1), .lit (.int .i64 8)], .agg [.lit (.int .i64 2), .lit (.int .i64 0), .lit (.int .i64 8)], .agg [.lit (.int .i64 0), .lit (.int .i64 1), .lit (.int .i64 0)], .agg [.lit (.int .i64 0), .lit (.int .i64 1), .lit (.int .i64 0)], .agg [.lit (.int .i64 0), .lit (.int .i64 1), .lit (.int .i64 0)], .agg [.lit (.int .i64 2), .lit (.int .i64 1), .lit (.int .i64 0)], .agg [.lit (.int .i64 2), .lit (.int .i64 1), .lit (.int .i64 0)], .agg [.lit (.int .i64 2), .lit (.int .i64 1), .lit (.int .i64 0)], .agg [.lit (.int .i64 2), .lit (.int .i64 1), .lit (.int .i64 0)], .agg [.lit (.int .i64 1), .lit (.int .i64 1), .lit (.int .i64 0)], .agg [.lit (.int .i64 2), .lit (.int .i64 1), .lit (.int .i64 0)], .agg [.lit (.int .i64 2), .lit (.int .i64 1), .lit (.int .i64 0)], .agg [.lit (.int .i64 2), .lit (.int .i64 1), .lit (.int .i64 0)], .agg [.lit (.int .i64 1), .lit (.int .i64 1), .lit (.int .i64 0)], .agg [.lit (.int .i64 0), .lit (.int .i64 0), .lit (.int .i64 0)], .agg [.lit (.int .i64 1), .lit (.int .i64 0), .lit (.int .i64 0)], .agg [.lit (.int .i64 2), .lit (.int .i64 0), .lit (.int .i64 0)], .agg [.lit (.int .i64 0), .lit (.int .i64 0), .lit (.int .i64 0)]]

/-- 'arenanetlaw19.GameMoves': WHATEVER THE INPUT: true; the input reads as it did. -/
def gameMovesSpec : ChangeSpec := { name := "gameMoves", fn := fun _ => fun
  | [d1, d2, d3, d4] => { results := [.lit (.bool true)], args := [d1, d2, d3, d4] }
  | _ => none }
def gameMovesRow : OpenClaim := { program := "ytghjbimijeinfaagreatdoor", sum := "cfb603bc63cad8efef999d0f1c8aa562a2ad34171573d026c63c0f5273b8fcfe", func := "arenanet/arenanetlaw19.GameMoves", spec := "gameMoves", inPlace := ["internal/bytealg.IndexByteString"], unfollowed := true, recurses := true, named := ["arenanet/compile.effects", "arenanet/vm.effects"], plainKeys := false, apart := false, laid := [("arenanet/compile.effects", laid_arenanet_compile_effects), ("arenanet/vm.effects", laid_arenanet_vm_effects)] }
def GameMovesSaid : Prop := gameMovesRow.holds Tryz.pinned (OpenSpec.ofChange gameMovesSpec)

/-- ITS FALSE NEIGHBOUR: 'it returns false'. Refute it at one input. -/
def gameMovesWrong : ChangeSpec := { name := "gameMoves", fn := fun _ => fun
  | [d1, d2, d3, d4] => { results := [.lit (.bool false)], args := [d1, d2, d3, d4] }
  | _ => none }
def GameMovesWrongFalsely : Prop := gameMovesRow.holds Tryz.pinned (OpenSpec.ofChange gameMovesWrong)

/-- 'arenanetlaw33.DisputeReveals': WHATEVER THE INPUT: true; the input reads as it did. -/
def disputeRevealsSpec : ChangeSpec := { name := "disputeReveals", fn := fun _ => fun
  | [d1, d2, d3, d4, d5] => { results := [.lit (.bool true)], args := [d1, d2, d3, d4, d5] }
  | _ => none }
def disputeRevealsRow : OpenClaim := { program := "ytghjbimijeinfaagreatdoor", sum := "cfb603bc63cad8efef999d0f1c8aa562a2ad34171573d026c63c0f5273b8fcfe", func := "arenanet/arenanetlaw33.DisputeReveals", spec := "disputeReveals", inPlace := ["internal/bytealg.IndexByteString"], unfollowed := true, recurses := true, named := ["arenanet/compile.effects", "arenanet/vm.effects"], plainKeys := false, apart := false, laid := [("arenanet/compile.effects", laid_arenanet_compile_effects), ("arenanet/vm.effects", laid_arenanet_vm_effects)] }
def DisputeRevealsSaid : Prop := disputeRevealsRow.holds Tryz.pinned (OpenSpec.ofChange disputeRevealsSpec)

/-- ITS FALSE NEIGHBOUR: 'it returns false'. Refute it at one input. -/
def disputeRevealsWrong : ChangeSpec := { name := "disputeReveals", fn := fun _ => fun
  | [d1, d2, d3, d4, d5] => { results := [.lit (.bool false)], args := [d1, d2, d3, d4, d5] }
  | _ => none }
def DisputeRevealsWrongFalsely : Prop := disputeRevealsRow.holds Tryz.pinned (OpenSpec.ofChange disputeRevealsWrong)

/-- 'arenanetlaw33.DisputeErrors': WHATEVER THE INPUT: true; the input reads as it did. -/
def disputeErrorsSpec : ChangeSpec := { name := "disputeErrors", fn := fun _ => fun
  | [d1, d2, d3, d4, d5, d6, d7] => { results := [.lit (.bool true)], args := [d1, d2, d3, d4, d5, d6, d7] }
  | _ => none }
def disputeErrorsRow : OpenClaim := { program := "ytghjbimijeinfaagreatdoor", sum := "cfb603bc63cad8efef999d0f1c8aa562a2ad34171573d026c63c0f5273b8fcfe", func := "arenanet/arenanetlaw33.DisputeErrors", spec := "disputeErrors", inPlace := ["internal/bytealg.IndexByteString"], unfollowed := true, recurses := true, named := ["arenanet/compile.effects", "arenanet/vm.effects"], plainKeys := false, apart := false, laid := [("arenanet/compile.effects", laid_arenanet_compile_effects), ("arenanet/vm.effects", laid_arenanet_vm_effects)] }
def DisputeErrorsSaid : Prop := disputeErrorsRow.holds Tryz.pinned (OpenSpec.ofChange disputeErrorsSpec)

/-- ITS FALSE NEIGHBOUR: 'it returns false'. Refute it at one input. -/
def disputeErrorsWrong : ChangeSpec := { name := "disputeErrors", fn := fun _ => fun
  | [d1, d2, d3, d4, d5, d6, d7] => { results := [.lit (.bool false)], args := [d1, d2, d3, d4, d5, d6, d7] }
  | _ => none }
def DisputeErrorsWrongFalsely : Prop := disputeErrorsRow.holds Tryz.pinned (OpenSpec.ofChange disputeErrorsWrong)

/-- 'arenanetlaw33.DisputeTwins': WHATEVER THE INPUT: true; the input reads as it did. -/
def disputeTwinsSpec : ChangeSpec := { name := "disputeTwins", fn := fun _ => fun
  | [d1, d2, d3, d4, d5] => { results := [.lit (.bool true)], args := [d1, d2, d3, d4, d5] }
  | _ => none }
def disputeTwinsRow : OpenClaim := { program := "ytghjbimijeinfaagreatdoor", sum := "cfb603bc63cad8efef999d0f1c8aa562a2ad34171573d026c63c0f5273b8fcfe", func := "arenanet/arenanetlaw33.DisputeTwins", spec := "disputeTwins", inPlace := ["internal/bytealg.IndexByteString"], unfollowed := true, recurses := true, named := ["arenanet/compile.effects", "arenanet/vm.effects"], plainKeys := false, apart := false, laid := [("arenanet/compile.effects", laid_arenanet_compile_effects), ("arenanet/vm.effects", laid_arenanet_vm_effects)] }
def DisputeTwinsSaid : Prop := disputeTwinsRow.holds Tryz.pinned (OpenSpec.ofChange disputeTwinsSpec)

/-- ITS FALSE NEIGHBOUR: 'it returns false'. Refute it at one input. -/
def disputeTwinsWrong : ChangeSpec := { name := "disputeTwins", fn := fun _ => fun
  | [d1, d2, d3, d4, d5] => { results := [.lit (.bool false)], args := [d1, d2, d3, d4, d5] }
  | _ => none }
def DisputeTwinsWrongFalsely : Prop := disputeTwinsRow.holds Tryz.pinned (OpenSpec.ofChange disputeTwinsWrong)

/- THE SECOND FORM. 'bulk': how many values and letters a reading holds, each counted each time it is reached (what is shared counts as often as it is met; a slice's spare places count too). A statement '..UptoSaid' is the law's where the arguments, and the package variables that the reading takes, are together of bulk at most 1048576: NARROWER than '..Said'. Prove '..Said' where nothing that the law and all that it calls make is longer than what came in: it says more and counts as full. Else prove '..UptoSaid'. A law counts once. -/
mutual
def uptoBulk {H : Type} : DataW H → Nat
  | .lit (.string bytes) => bytes.length + 1
  | .lit _ => 1
  | .nil => 1
  | .ptr d => uptoBulk d + 1
  | .slice elems spare => uptoBulkAll elems + uptoBulkAll spare + 1
  | .agg parts => uptoBulkAll parts + 1
  | .iface _ d => uptoBulk d + 1
  | .map entries => uptoBulkEntries entries + 1
  | .held _ => 1
def uptoBulkAll {H : Type} : List (DataW H) → Nat
  | [] => 0
  | d :: r => uptoBulk d + uptoBulkAll r
def uptoBulkEntries {H : Type} : List (Lit × DataW H) → Nat
  | [] => 0
  | x :: r => uptoBulkEntry x + uptoBulkEntries r
def uptoBulkEntry {H : Type} : Lit × DataW H → Nat
  | (.string bytes, d) => bytes.length + uptoBulk d + 1
  | (_, d) => uptoBulk d + 1
 end
def uptoSmall : (H : Type) → List (DataW H) → Bool := fun _ ds => decide (uptoBulkAll ds ≤ 1048576)
def OpenSpec.upto (s : _root_.Go.ChangeSpec) : _root_.Go.OpenSpec := { _root_.Go.OpenSpec.ofChange s with cond := some uptoSmall }

/-- 'arenanetlaw19.GameMoves', WHERE WHAT IT READS IS OF BULK AT MOST 1048576: true; the input reads as it did. -/
def gameMovesUptoRow : OpenClaim := { program := "ytghjbimijeinfaagreatdoor", sum := "cfb603bc63cad8efef999d0f1c8aa562a2ad34171573d026c63c0f5273b8fcfe", func := "arenanet/arenanetlaw19.GameMoves", spec := "gameMoves", inPlace := ["internal/bytealg.IndexByteString"], unfollowed := true, recurses := true, named := ["arenanet/compile.effects", "arenanet/vm.effects"], plainKeys := false, apart := false, laid := [("arenanet/compile.effects", laid_arenanet_compile_effects), ("arenanet/vm.effects", laid_arenanet_vm_effects)], narrowed := true }
def GameMovesUptoSaid : Prop := gameMovesUptoRow.holds Tryz.pinned (OpenSpec.upto gameMovesSpec)

/-- 'arenanetlaw33.DisputeReveals', WHERE WHAT IT READS IS OF BULK AT MOST 1048576: true; the input reads as it did. -/
def disputeRevealsUptoRow : OpenClaim := { program := "ytghjbimijeinfaagreatdoor", sum := "cfb603bc63cad8efef999d0f1c8aa562a2ad34171573d026c63c0f5273b8fcfe", func := "arenanet/arenanetlaw33.DisputeReveals", spec := "disputeReveals", inPlace := ["internal/bytealg.IndexByteString"], unfollowed := true, recurses := true, named := ["arenanet/compile.effects", "arenanet/vm.effects"], plainKeys := false, apart := false, laid := [("arenanet/compile.effects", laid_arenanet_compile_effects), ("arenanet/vm.effects", laid_arenanet_vm_effects)], narrowed := true }
def DisputeRevealsUptoSaid : Prop := disputeRevealsUptoRow.holds Tryz.pinned (OpenSpec.upto disputeRevealsSpec)

/-- 'arenanetlaw33.DisputeErrors', WHERE WHAT IT READS IS OF BULK AT MOST 1048576: true; the input reads as it did. -/
def disputeErrorsUptoRow : OpenClaim := { program := "ytghjbimijeinfaagreatdoor", sum := "cfb603bc63cad8efef999d0f1c8aa562a2ad34171573d026c63c0f5273b8fcfe", func := "arenanet/arenanetlaw33.DisputeErrors", spec := "disputeErrors", inPlace := ["internal/bytealg.IndexByteString"], unfollowed := true, recurses := true, named := ["arenanet/compile.effects", "arenanet/vm.effects"], plainKeys := false, apart := false, laid := [("arenanet/compile.effects", laid_arenanet_compile_effects), ("arenanet/vm.effects", laid_arenanet_vm_effects)], narrowed := true }
def DisputeErrorsUptoSaid : Prop := disputeErrorsUptoRow.holds Tryz.pinned (OpenSpec.upto disputeErrorsSpec)

/-- 'arenanetlaw33.DisputeTwins', WHERE WHAT IT READS IS OF BULK AT MOST 1048576: true; the input reads as it did. -/
def disputeTwinsUptoRow : OpenClaim := { program := "ytghjbimijeinfaagreatdoor", sum := "cfb603bc63cad8efef999d0f1c8aa562a2ad34171573d026c63c0f5273b8fcfe", func := "arenanet/arenanetlaw33.DisputeTwins", spec := "disputeTwins", inPlace := ["internal/bytealg.IndexByteString"], unfollowed := true, recurses := true, named := ["arenanet/compile.effects", "arenanet/vm.effects"], plainKeys := false, apart := false, laid := [("arenanet/compile.effects", laid_arenanet_compile_effects), ("arenanet/vm.effects", laid_arenanet_vm_effects)], narrowed := true }
def DisputeTwinsUptoSaid : Prop := disputeTwinsUptoRow.holds Tryz.pinned (OpenSpec.upto disputeTwinsSpec)

end Rows
end Go.Proofs.YtghjbimijeinfaaGreatDoor
