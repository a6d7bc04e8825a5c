/-
  NARROWER THAN 'FOR EVERY INPUT', by the rows' own cells (each row's printed sentence says how): MachineEnds: laid · MachinePhases: laid · MachineEffects: laid · MachineLocal: laid · MachineTouches: laid.
  DERIVED. THE GIVEN ROWS OF THIS SEAT. 5 by the template 'for every input the law returns true; each argument reads behind the call as it read before'; 0 by the template 'total and deterministic' (their statements: YtampdcgphdnnhaaGreatDoorTotals.lean).
  GIVEN WITH THE SEED: the statements are not yours to turn. If you find one false, say at which input.
  Laid BY PROGRAM, IN A SANDBOX (cutbox-rows.mjs): the forced cells as the released guide's own fill.sh prints them over the translation fccc4b363fdf6921… (all of the seat's roots in one cut). By AI agents, Wed Nov 11 2026. No macro, syntax, notation, axiom, sorry.
-/
import Derived.Test.YtampdcgphdnnhaaGreatDoorChecked
import GoSem.Claim
import GoSem.ClaimJoined
import GoSem.ClaimMapViews
import Derived.JoinedTies
import Derived.KernelRfl
namespace Go.Proofs.YtampdcgphdnnhaaGreatDoor
/- THE CELL 'sum', in the pinned program and in every row, IS THE sha256 OF THE DUMP (.gsa) THAT YtampdcgphdnnhaaGreatDoorProg.lean LOADS. Nothing in Lean hashes anything: it is a label: what it is worth is what the hold of that sum in a sandbox is worth. -/
noncomputable def Tryz.pinned : Pinned := { name := "ytampdcgphdnnhaagreatdoor", sum := "fccc4b363fdf6921d8b9e97ea36567b2956f685f9b6310929aea34e94fddf046", checked := Tryz.checked }
namespace Rows
def none {H : Type} : Left H := { results := [], args := [] }

/- WHAT THE LISTED PACKAGE-LEVEL VARIABLES READ AS WHEN THE CALL BEGINS. Each datum BY PROGRAM (the guide's laid-datum.mjs) off the statement by which the dump's own 'gosem.cut.vars' lays the variable. In a bare row this is a premise. The card (YtampdcgphdnnhaaGreatDoorCards.lean) ties it to the program's text. -/
def laid_arenanet_compile_effects {H : Type} : DataW H := .agg [.agg [.lit (.int .i64 0), .lit (.int .i64 0)], .agg [.lit (.int .i64 0), .lit (.int .i64 1)], .agg [.lit (.int .i64 0), .lit (.int .i64 1)], .agg [.lit (.int .i64 1), .lit (.int .i64 0)], .agg [.lit (.int .i64 1), .lit (.int .i64 1)], .agg [.lit (.int .i64 2), .lit (.int .i64 0)], .agg [.lit (.int .i64 0), .lit (.int .i64 1)], .agg [.lit (.int .i64 0), .lit (.int .i64 1)], .agg [.lit (.int .i64 0), .lit (.int .i64 1)], .agg [.lit (.int .i64 2), .lit (.int .i64 1)], .agg [.lit (.int .i64 2), .lit (.int .i64 1)], .agg [.lit (.int .i64 2), .lit (.int .i64 1)], .agg [.lit (.int .i64 2), .lit (.int .i64 1)], .agg [.lit (.int .i64 1), .lit (.int .i64 1)], .agg [.lit (.int .i64 2), .lit (.int .i64 1)], .agg [.lit (.int .i64 2), .lit (.int .i64 1)], .agg [.lit (.int .i64 2), .lit (.int .i64 1)], .agg [.lit (.int .i64 1), .lit (.int .i64 1)], .agg [.lit (.int .i64 0), .lit (.int .i64 0)], .agg [.lit (.int .i64 1), .lit (.int .i64 0)], .agg [.lit (.int .i64 2), .lit (.int .i64 0)], .agg [.lit (.int .i64 0), .lit (.int .i64 0)]]
def laid_arenanet_vm_effects {H : Type} : DataW H := .agg [.agg [.lit (.int .i64 0), .lit (.int .i64 0), .lit (.int .i64 0)], .agg [.lit (.int .i64 0), .lit (.int .i64 1), .lit (.int .i64 0)], .agg [.lit (.int .i64 0), .lit (.int .i64 1), .lit (.int .i64 16)], .agg [.lit (.int .i64 1), .lit (.int .i64 0), .lit (.int .i64 16)], .agg [.lit (.int .i64 1), .lit (.int .i64 1), .lit (.int .i64 8)], .agg [.lit (.int .i64 2), .lit (.int .i64 0), .lit (.int .i64 8)], .agg [.lit (.int .i64 0), .lit (.int .i64 1), .lit (.int .i64 0)], .agg [.lit (.int .i64 0), .lit (.int .i64 1), .lit (.int .i64 0)], .agg [.lit (.int .i64 0), .lit (.int .i64 1), .lit (.int .i64 0)], .agg [.lit (.int .i64 2), .lit (.int .i64 1), .lit (.int .i64 0)], .agg [.lit (.int .i64 2), .lit (.int .i64 1), .lit (.int .i64 0)], .agg [.lit (.int .i64 2), .lit (.int .i64 1), .lit (.int .i64 0)], .agg [.lit (.int .i64 2), .lit (.int .i64 1), .lit (.int .i64 0)], .agg [.lit (.int .i64 1), .lit (.int .i64 1), .lit (.int .i64 0)], .agg [.lit (.int .i64 2), .lit (.int .i64 1), .lit (.int .i64 0)], .agg [.lit (.int .i64 2), .lit (.int .i64 1), .lit (.int .i64 0)], .agg [.lit (.int .i64 2), .lit (.int .i64 1), .lit (.int .i64 0)], .agg [.lit (.int .i64 1), .lit (.int .i64 1), .lit (.int .i64 0)], .agg [.lit (.int .i64 0), .lit (.int .i64 0), .lit (.int .i64 0)], .agg [.lit (.int .i64 1), .lit (.int .i64 0), .lit (.int .i64 0)], .agg [.lit (.int .i64 2), .lit (.int .i64 0), .lit (.int .i64 0)], .agg [.lit (.int .i64 0), .lit (.int .i64 0), .lit (.int .i64 0)]]

/-- 'arenanetlaw18.MachineEnds': WHATEVER THE INPUT: true; the input reads as it did. -/
def machineEndsSpec : ChangeSpec := { name := "machineEnds", fn := fun _ => fun
  | [d1, d2, d3, d4] => { results := [.lit (.bool true)], args := [d1, d2, d3, d4] }
  | _ => none }
def machineEndsRow : OpenClaim := { program := "ytampdcgphdnnhaagreatdoor", sum := "fccc4b363fdf6921d8b9e97ea36567b2956f685f9b6310929aea34e94fddf046", func := "arenanet/arenanetlaw18.MachineEnds", spec := "machineEnds", unfollowed := true, recurses := true, named := ["arenanet/compile.effects", "arenanet/vm.effects"], apart := false, laid := [("arenanet/compile.effects", laid_arenanet_compile_effects), ("arenanet/vm.effects", laid_arenanet_vm_effects)] }
def MachineEndsSaid : Prop := machineEndsRow.holds Tryz.pinned (OpenSpec.ofChange machineEndsSpec)

/-- ITS FALSE NEIGHBOUR: 'it returns false'. Refute it at one input. -/
def machineEndsWrong : ChangeSpec := { name := "machineEnds", fn := fun _ => fun
  | [d1, d2, d3, d4] => { results := [.lit (.bool false)], args := [d1, d2, d3, d4] }
  | _ => none }
def MachineEndsWrongFalsely : Prop := machineEndsRow.holds Tryz.pinned (OpenSpec.ofChange machineEndsWrong)

/-- 'arenanetlaw18.MachinePhases': WHATEVER THE INPUT: true; the input reads as it did. -/
def machinePhasesSpec : ChangeSpec := { name := "machinePhases", fn := fun _ => fun
  | [d1, d2, d3] => { results := [.lit (.bool true)], args := [d1, d2, d3] }
  | _ => none }
def machinePhasesRow : OpenClaim := { program := "ytampdcgphdnnhaagreatdoor", sum := "fccc4b363fdf6921d8b9e97ea36567b2956f685f9b6310929aea34e94fddf046", func := "arenanet/arenanetlaw18.MachinePhases", spec := "machinePhases", unfollowed := true, recurses := true, named := ["arenanet/compile.effects", "arenanet/vm.effects"], apart := false, laid := [("arenanet/compile.effects", laid_arenanet_compile_effects), ("arenanet/vm.effects", laid_arenanet_vm_effects)] }
def MachinePhasesSaid : Prop := machinePhasesRow.holds Tryz.pinned (OpenSpec.ofChange machinePhasesSpec)

/-- ITS FALSE NEIGHBOUR: 'it returns false'. Refute it at one input. -/
def machinePhasesWrong : ChangeSpec := { name := "machinePhases", fn := fun _ => fun
  | [d1, d2, d3] => { results := [.lit (.bool false)], args := [d1, d2, d3] }
  | _ => none }
def MachinePhasesWrongFalsely : Prop := machinePhasesRow.holds Tryz.pinned (OpenSpec.ofChange machinePhasesWrong)

/-- 'arenanetlaw18.MachineEffects': WHATEVER THE INPUT: true; the input reads as it did. -/
def machineEffectsSpec : ChangeSpec := { name := "machineEffects", fn := fun _ => fun
  | [d1, d2, d3, d4] => { results := [.lit (.bool true)], args := [d1, d2, d3, d4] }
  | _ => none }
def machineEffectsRow : OpenClaim := { program := "ytampdcgphdnnhaagreatdoor", sum := "fccc4b363fdf6921d8b9e97ea36567b2956f685f9b6310929aea34e94fddf046", func := "arenanet/arenanetlaw18.MachineEffects", spec := "machineEffects", unfollowed := true, recurses := true, named := ["arenanet/compile.effects", "arenanet/vm.effects"], apart := false, laid := [("arenanet/compile.effects", laid_arenanet_compile_effects), ("arenanet/vm.effects", laid_arenanet_vm_effects)] }
def MachineEffectsSaid : Prop := machineEffectsRow.holds Tryz.pinned (OpenSpec.ofChange machineEffectsSpec)

/-- ITS FALSE NEIGHBOUR: 'it returns false'. Refute it at one input. -/
def machineEffectsWrong : ChangeSpec := { name := "machineEffects", fn := fun _ => fun
  | [d1, d2, d3, d4] => { results := [.lit (.bool false)], args := [d1, d2, d3, d4] }
  | _ => none }
def MachineEffectsWrongFalsely : Prop := machineEffectsRow.holds Tryz.pinned (OpenSpec.ofChange machineEffectsWrong)

/-- 'arenanetlaw18.MachineLocal': WHATEVER THE INPUT: true; the input reads as it did. -/
def machineLocalSpec : ChangeSpec := { name := "machineLocal", fn := fun _ => fun
  | [d1, d2, d3, d4] => { results := [.lit (.bool true)], args := [d1, d2, d3, d4] }
  | _ => none }
def machineLocalRow : OpenClaim := { program := "ytampdcgphdnnhaagreatdoor", sum := "fccc4b363fdf6921d8b9e97ea36567b2956f685f9b6310929aea34e94fddf046", func := "arenanet/arenanetlaw18.MachineLocal", spec := "machineLocal", unfollowed := true, recurses := true, named := ["arenanet/compile.effects", "arenanet/vm.effects"], apart := false, laid := [("arenanet/compile.effects", laid_arenanet_compile_effects), ("arenanet/vm.effects", laid_arenanet_vm_effects)] }
def MachineLocalSaid : Prop := machineLocalRow.holds Tryz.pinned (OpenSpec.ofChange machineLocalSpec)

/-- ITS FALSE NEIGHBOUR: 'it returns false'. Refute it at one input. -/
def machineLocalWrong : ChangeSpec := { name := "machineLocal", fn := fun _ => fun
  | [d1, d2, d3, d4] => { results := [.lit (.bool false)], args := [d1, d2, d3, d4] }
  | _ => none }
def MachineLocalWrongFalsely : Prop := machineLocalRow.holds Tryz.pinned (OpenSpec.ofChange machineLocalWrong)

/-- 'arenanetlaw18.MachineTouches': WHATEVER THE INPUT: true; the input reads as it did. -/
def machineTouchesSpec : ChangeSpec := { name := "machineTouches", fn := fun _ => fun
  | [d1, d2, d3, d4] => { results := [.lit (.bool true)], args := [d1, d2, d3, d4] }
  | _ => none }
def machineTouchesRow : OpenClaim := { program := "ytampdcgphdnnhaagreatdoor", sum := "fccc4b363fdf6921d8b9e97ea36567b2956f685f9b6310929aea34e94fddf046", func := "arenanet/arenanetlaw18.MachineTouches", spec := "machineTouches", unfollowed := true, recurses := true, named := ["arenanet/compile.effects", "arenanet/vm.effects"], apart := false, laid := [("arenanet/compile.effects", laid_arenanet_compile_effects), ("arenanet/vm.effects", laid_arenanet_vm_effects)] }
def MachineTouchesSaid : Prop := machineTouchesRow.holds Tryz.pinned (OpenSpec.ofChange machineTouchesSpec)

/-- ITS FALSE NEIGHBOUR: 'it returns false'. Refute it at one input. -/
def machineTouchesWrong : ChangeSpec := { name := "machineTouches", fn := fun _ => fun
  | [d1, d2, d3, d4] => { results := [.lit (.bool false)], args := [d1, d2, d3, d4] }
  | _ => none }
def MachineTouchesWrongFalsely : Prop := machineTouchesRow.holds Tryz.pinned (OpenSpec.ofChange machineTouchesWrong)

/- THE SECOND FORM. 'bulk': how many values and letters a reading holds, each counted each time it is reached (what is shared counts as often as it is met; a slice's spare places count too). A statement '..UptoSaid' is the law's where the arguments, and the package variables that the reading takes, are together of bulk at most 1048576: NARROWER than '..Said'. Prove '..Said' where nothing that the law and all that it calls make is longer than what came in: it says more and counts as full. Else prove '..UptoSaid'. A law counts once. -/
mutual
def uptoBulk {H : Type} : DataW H → Nat
  | .lit (.string bytes) => bytes.length + 1
  | .lit _ => 1
  | .nil => 1
  | .ptr d => uptoBulk d + 1
  | .slice elems spare => uptoBulkAll elems + uptoBulkAll spare + 1
  | .agg parts => uptoBulkAll parts + 1
  | .iface _ d => uptoBulk d + 1
  | .map entries => uptoBulkEntries entries + 1
  | .held _ => 1
def uptoBulkAll {H : Type} : List (DataW H) → Nat
  | [] => 0
  | d :: r => uptoBulk d + uptoBulkAll r
def uptoBulkEntries {H : Type} : List (Lit × DataW H) → Nat
  | [] => 0
  | x :: r => uptoBulkEntry x + uptoBulkEntries r
def uptoBulkEntry {H : Type} : Lit × DataW H → Nat
  | (.string bytes, d) => bytes.length + uptoBulk d + 1
  | (_, d) => uptoBulk d + 1
 end
def uptoSmall : (H : Type) → List (DataW H) → Bool := fun _ ds => decide (uptoBulkAll ds ≤ 1048576)
def OpenSpec.upto (s : _root_.Go.ChangeSpec) : _root_.Go.OpenSpec := { _root_.Go.OpenSpec.ofChange s with cond := some uptoSmall }

/-- 'arenanetlaw18.MachineEnds', WHERE WHAT IT READS IS OF BULK AT MOST 1048576: true; the input reads as it did. -/
def machineEndsUptoRow : OpenClaim := { program := "ytampdcgphdnnhaagreatdoor", sum := "fccc4b363fdf6921d8b9e97ea36567b2956f685f9b6310929aea34e94fddf046", func := "arenanet/arenanetlaw18.MachineEnds", spec := "machineEnds", unfollowed := true, recurses := true, named := ["arenanet/compile.effects", "arenanet/vm.effects"], apart := false, laid := [("arenanet/compile.effects", laid_arenanet_compile_effects), ("arenanet/vm.effects", laid_arenanet_vm_effects)], narrowed := true }
def MachineEndsUptoSaid : Prop := machineEndsUptoRow.holds Tryz.pinned (OpenSpec.upto machineEndsSpec)

/-- 'arenanetlaw18.MachinePhases', WHERE WHAT IT READS IS OF BULK AT MOST 1048576: true; the input reads as it did. -/
def machinePhasesUptoRow : OpenClaim := { program := "ytampdcgphdnnhaagreatdoor", sum := "fccc4b363fdf6921d8b9e97ea36567b2956f685f9b6310929aea34e94fddf046", func := "arenanet/arenanetlaw18.MachinePhases", spec := "machinePhases", unfollowed := true, recurses := true, named := ["arenanet/compile.effects", "arenanet/vm.effects"], apart := false, laid := [("arenanet/compile.effects", laid_arenanet_compile_effects), ("arenanet/vm.effects", laid_arenanet_vm_effects)], narrowed := true }
def MachinePhasesUptoSaid : Prop := machinePhasesUptoRow.holds Tryz.pinned (OpenSpec.upto machinePhasesSpec)

/-- 'arenanetlaw18.MachineEffects', WHERE WHAT IT READS IS OF BULK AT MOST 1048576: true; the input reads as it did. -/
def machineEffectsUptoRow : OpenClaim := { program := "ytampdcgphdnnhaagreatdoor", sum := "fccc4b363fdf6921d8b9e97ea36567b2956f685f9b6310929aea34e94fddf046", func := "arenanet/arenanetlaw18.MachineEffects", spec := "machineEffects", unfollowed := true, recurses := true, named := ["arenanet/compile.effects", "arenanet/vm.effects"], apart := false, laid := [("arenanet/compile.effects", laid_arenanet_compile_effects), ("arenanet/vm.effects", laid_arenanet_vm_effects)], narrowed := true }
def MachineEffectsUptoSaid : Prop := machineEffectsUptoRow.holds Tryz.pinned (OpenSpec.upto machineEffectsSpec)

/-- 'arenanetlaw18.MachineLocal', WHERE WHAT IT READS IS OF BULK AT MOST 1048576: true; the input reads as it did. -/
def machineLocalUptoRow : OpenClaim := { program := "ytampdcgphdnnhaagreatdoor", sum := "fccc4b363fdf6921d8b9e97ea36567b2956f685f9b6310929aea34e94fddf046", func := "arenanet/arenanetlaw18.MachineLocal", spec := "machineLocal", unfollowed := true, recurses := true, named := ["arenanet/compile.effects", "arenanet/vm.effects"], apart := false, laid := [("arenanet/compile.effects", laid_arenanet_compile_effects), ("arenanet/vm.effects", laid_arenanet_vm_effects)], narrowed := true }
def MachineLocalUptoSaid : Prop := machineLocalUptoRow.holds Tryz.pinned (OpenSpec.upto machineLocalSpec)

/-- 'arenanetlaw18.MachineTouches', WHERE WHAT IT READS IS OF BULK AT MOST 1048576: true; the input reads as it did. -/
def machineTouchesUptoRow : OpenClaim := { program := "ytampdcgphdnnhaagreatdoor", sum := "fccc4b363fdf6921d8b9e97ea36567b2956f685f9b6310929aea34e94fddf046", func := "arenanet/arenanetlaw18.MachineTouches", spec := "machineTouches", unfollowed := true, recurses := true, named := ["arenanet/compile.effects", "arenanet/vm.effects"], apart := false, laid := [("arenanet/compile.effects", laid_arenanet_compile_effects), ("arenanet/vm.effects", laid_arenanet_vm_effects)], narrowed := true }
def MachineTouchesUptoSaid : Prop := machineTouchesUptoRow.holds Tryz.pinned (OpenSpec.upto machineTouchesSpec)

end Rows
end Go.Proofs.YtampdcgphdnnhaaGreatDoor
