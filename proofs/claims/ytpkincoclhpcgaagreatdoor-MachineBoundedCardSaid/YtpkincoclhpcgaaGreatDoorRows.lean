/-
  NARROWER THAN 'FOR EVERY INPUT', by the rows' own cells (each row's printed sentence says how): MachineQuiet: laid · MachineBounded: laid · MachineSingle: laid.
  DERIVED. THE GIVEN ROWS OF THIS SEAT. 3 by the template 'for every input the law returns true; each argument reads behind the call as it read before'; 0 by the template 'total and deterministic' (their statements: YtpkincoclhpcgaaGreatDoorTotals.lean).
  GIVEN WITH THE SEED: the statements are not yours to turn. If you find one false, say at which input.
  Laid BY PROGRAM, IN A SANDBOX (cutbox-rows.mjs): the forced cells as the released guide's own fill.sh prints them over the translation 3584ee9287169b1b… (all of the seat's roots in one cut). By AI agents, Wed Nov 11 2026. No macro, syntax, notation, axiom, sorry.
-/
import Derived.Test.YtpkincoclhpcgaaGreatDoorChecked
import GoSem.Claim
import GoSem.ClaimJoined
import GoSem.ClaimMapViews
import Derived.JoinedTies
import Derived.KernelRfl
namespace Go.Proofs.YtpkincoclhpcgaaGreatDoor
/- THE CELL 'sum', in the pinned program and in every row, IS THE sha256 OF THE DUMP (.gsa) THAT YtpkincoclhpcgaaGreatDoorProg.lean LOADS. Nothing in Lean hashes anything: it is a label: what it is worth is what the hold of that sum in a sandbox is worth. -/
noncomputable def Tryz.pinned : Pinned := { name := "ytpkincoclhpcgaagreatdoor", sum := "3584ee9287169b1be6738fd915f7d7dc196a7e0d0fb1eabe1b91b66466f0f0e3", checked := Tryz.checked }
namespace Rows
def none {H : Type} : Left H := { results := [], args := [] }

/- WHAT THE LISTED PACKAGE-LEVEL VARIABLES READ AS WHEN THE CALL BEGINS. Each datum BY PROGRAM (the guide's laid-datum.mjs) off the statement by which the dump's own 'gosem.cut.vars' lays the variable. In a bare row this is a premise. The card (YtpkincoclhpcgaaGreatDoorCards.lean) ties it to the program's text. -/
def laid_arenanet_vm_effects {H : Type} : DataW H := .agg [.agg [.lit (.int .i64 0), .lit (.int .i64 0), .lit (.int .i64 0)], .agg [.lit (.int .i64 0), .lit (.int .i64 1), .lit (.int .i64 0)], .agg [.lit (.int .i64 0), .lit (.int .i64 1), .lit (.int .i64 16)], .agg [.lit (.int .i64 1), .lit (.int .i64 0), .lit (.int .i64 16)], .agg [.lit (.int .i64 1), .lit (.int .i64 1), .lit (.int .i64 8)], .agg [.lit (.int .i64 2), .lit (.int .i64 0), .lit (.int .i64 8)], .agg [.lit (.int .i64 0), .lit (.int .i64 1), .lit (.int .i64 0)], .agg [.lit (.int .i64 0), .lit (.int .i64 1), .lit (.int .i64 0)], .agg [.lit (.int .i64 0), .lit (.int .i64 1), .lit (.int .i64 0)], .agg [.lit (.int .i64 2), .lit (.int .i64 1), .lit (.int .i64 0)], .agg [.lit (.int .i64 2), .lit (.int .i64 1), .lit (.int .i64 0)], .agg [.lit (.int .i64 2), .lit (.int .i64 1), .lit (.int .i64 0)], .agg [.lit (.int .i64 2), .lit (.int .i64 1), .lit (.int .i64 0)], .agg [.lit (.int .i64 1), .lit (.int .i64 1), .lit (.int .i64 0)], .agg [.lit (.int .i64 2), .lit (.int .i64 1), .lit (.int .i64 0)], .agg [.lit (.int .i64 2), .lit (.int .i64 1), .lit (.int .i64 0)], .agg [.lit (.int .i64 2), .lit (.int .i64 1), .lit (.int .i64 0)], .agg [.lit (.int .i64 1), .lit (.int .i64 1), .lit (.int .i64 0)], .agg [.lit (.int .i64 0), .lit (.int .i64 0), .lit (.int .i64 0)], .agg [.lit (.int .i64 1), .lit (.int .i64 0), .lit (.int .i64 0)], .agg [.lit (.int .i64 2), .lit (.int .i64 0), .lit (.int .i64 0)], .agg [.lit (.int .i64 0), .lit (.int .i64 0), .lit (.int .i64 0)]]

/-- 'arenanetlaw18.MachineQuiet': WHATEVER THE INPUT: true; the input reads as it did. -/
def machineQuietSpec : ChangeSpec := { name := "machineQuiet", fn := fun _ => fun
  | [d1, d2, d3] => { results := [.lit (.bool true)], args := [d1, d2, d3] }
  | _ => none }
def machineQuietRow : OpenClaim := { program := "ytpkincoclhpcgaagreatdoor", sum := "3584ee9287169b1be6738fd915f7d7dc196a7e0d0fb1eabe1b91b66466f0f0e3", func := "arenanet/arenanetlaw18.MachineQuiet", spec := "machineQuiet", unfollowed := true, recurses := true, named := ["arenanet/vm.effects"], apart := false, laid := [("arenanet/vm.effects", laid_arenanet_vm_effects)] }
def MachineQuietSaid : Prop := machineQuietRow.holds Tryz.pinned (OpenSpec.ofChange machineQuietSpec)

/-- ITS FALSE NEIGHBOUR: 'it returns false'. Refute it at one input. -/
def machineQuietWrong : ChangeSpec := { name := "machineQuiet", fn := fun _ => fun
  | [d1, d2, d3] => { results := [.lit (.bool false)], args := [d1, d2, d3] }
  | _ => none }
def MachineQuietWrongFalsely : Prop := machineQuietRow.holds Tryz.pinned (OpenSpec.ofChange machineQuietWrong)

/-- 'arenanetlaw18.MachineBounded': WHATEVER THE INPUT: true; the input reads as it did. -/
def machineBoundedSpec : ChangeSpec := { name := "machineBounded", fn := fun _ => fun
  | [d1, d2, d3] => { results := [.lit (.bool true)], args := [d1, d2, d3] }
  | _ => none }
def machineBoundedRow : OpenClaim := { program := "ytpkincoclhpcgaagreatdoor", sum := "3584ee9287169b1be6738fd915f7d7dc196a7e0d0fb1eabe1b91b66466f0f0e3", func := "arenanet/arenanetlaw18.MachineBounded", spec := "machineBounded", unfollowed := true, recurses := true, named := ["arenanet/vm.effects"], apart := false, laid := [("arenanet/vm.effects", laid_arenanet_vm_effects)] }
def MachineBoundedSaid : Prop := machineBoundedRow.holds Tryz.pinned (OpenSpec.ofChange machineBoundedSpec)

/-- ITS FALSE NEIGHBOUR: 'it returns false'. Refute it at one input. -/
def machineBoundedWrong : ChangeSpec := { name := "machineBounded", fn := fun _ => fun
  | [d1, d2, d3] => { results := [.lit (.bool false)], args := [d1, d2, d3] }
  | _ => none }
def MachineBoundedWrongFalsely : Prop := machineBoundedRow.holds Tryz.pinned (OpenSpec.ofChange machineBoundedWrong)

/-- 'arenanetlaw18.MachineSingle': WHATEVER THE INPUT: true; the input reads as it did. -/
def machineSingleSpec : ChangeSpec := { name := "machineSingle", fn := fun _ => fun
  | [d1, d2] => { results := [.lit (.bool true)], args := [d1, d2] }
  | _ => none }
def machineSingleRow : OpenClaim := { program := "ytpkincoclhpcgaagreatdoor", sum := "3584ee9287169b1be6738fd915f7d7dc196a7e0d0fb1eabe1b91b66466f0f0e3", func := "arenanet/arenanetlaw18.MachineSingle", spec := "machineSingle", unfollowed := true, recurses := true, named := ["arenanet/vm.effects"], apart := false, laid := [("arenanet/vm.effects", laid_arenanet_vm_effects)] }
def MachineSingleSaid : Prop := machineSingleRow.holds Tryz.pinned (OpenSpec.ofChange machineSingleSpec)

/-- ITS FALSE NEIGHBOUR: 'it returns false'. Refute it at one input. -/
def machineSingleWrong : ChangeSpec := { name := "machineSingle", fn := fun _ => fun
  | [d1, d2] => { results := [.lit (.bool false)], args := [d1, d2] }
  | _ => none }
def MachineSingleWrongFalsely : Prop := machineSingleRow.holds Tryz.pinned (OpenSpec.ofChange machineSingleWrong)

/- THE SECOND FORM. 'bulk': how many values and letters a reading holds, each counted each time it is reached (what is shared counts as often as it is met; a slice's spare places count too). A statement '..UptoSaid' is the law's where the arguments, and the package variables that the reading takes, are together of bulk at most 1048576: NARROWER than '..Said'. Prove '..Said' where nothing that the law and all that it calls make is longer than what came in: it says more and counts as full. Else prove '..UptoSaid'. A law counts once. -/
mutual
def uptoBulk {H : Type} : DataW H → Nat
  | .lit (.string bytes) => bytes.length + 1
  | .lit _ => 1
  | .nil => 1
  | .ptr d => uptoBulk d + 1
  | .slice elems spare => uptoBulkAll elems + uptoBulkAll spare + 1
  | .agg parts => uptoBulkAll parts + 1
  | .iface _ d => uptoBulk d + 1
  | .map entries => uptoBulkEntries entries + 1
  | .held _ => 1
def uptoBulkAll {H : Type} : List (DataW H) → Nat
  | [] => 0
  | d :: r => uptoBulk d + uptoBulkAll r
def uptoBulkEntries {H : Type} : List (Lit × DataW H) → Nat
  | [] => 0
  | x :: r => uptoBulkEntry x + uptoBulkEntries r
def uptoBulkEntry {H : Type} : Lit × DataW H → Nat
  | (.string bytes, d) => bytes.length + uptoBulk d + 1
  | (_, d) => uptoBulk d + 1
 end
def uptoSmall : (H : Type) → List (DataW H) → Bool := fun _ ds => decide (uptoBulkAll ds ≤ 1048576)
def OpenSpec.upto (s : _root_.Go.ChangeSpec) : _root_.Go.OpenSpec := { _root_.Go.OpenSpec.ofChange s with cond := some uptoSmall }

/-- 'arenanetlaw18.MachineQuiet', WHERE WHAT IT READS IS OF BULK AT MOST 1048576: true; the input reads as it did. -/
def machineQuietUptoRow : OpenClaim := { program := "ytpkincoclhpcgaagreatdoor", sum := "3584ee9287169b1be6738fd915f7d7dc196a7e0d0fb1eabe1b91b66466f0f0e3", func := "arenanet/arenanetlaw18.MachineQuiet", spec := "machineQuiet", unfollowed := true, recurses := true, named := ["arenanet/vm.effects"], apart := false, laid := [("arenanet/vm.effects", laid_arenanet_vm_effects)], narrowed := true }
def MachineQuietUptoSaid : Prop := machineQuietUptoRow.holds Tryz.pinned (OpenSpec.upto machineQuietSpec)

/-- 'arenanetlaw18.MachineBounded', WHERE WHAT IT READS IS OF BULK AT MOST 1048576: true; the input reads as it did. -/
def machineBoundedUptoRow : OpenClaim := { program := "ytpkincoclhpcgaagreatdoor", sum := "3584ee9287169b1be6738fd915f7d7dc196a7e0d0fb1eabe1b91b66466f0f0e3", func := "arenanet/arenanetlaw18.MachineBounded", spec := "machineBounded", unfollowed := true, recurses := true, named := ["arenanet/vm.effects"], apart := false, laid := [("arenanet/vm.effects", laid_arenanet_vm_effects)], narrowed := true }
def MachineBoundedUptoSaid : Prop := machineBoundedUptoRow.holds Tryz.pinned (OpenSpec.upto machineBoundedSpec)

/-- 'arenanetlaw18.MachineSingle', WHERE WHAT IT READS IS OF BULK AT MOST 1048576: true; the input reads as it did. -/
def machineSingleUptoRow : OpenClaim := { program := "ytpkincoclhpcgaagreatdoor", sum := "3584ee9287169b1be6738fd915f7d7dc196a7e0d0fb1eabe1b91b66466f0f0e3", func := "arenanet/arenanetlaw18.MachineSingle", spec := "machineSingle", unfollowed := true, recurses := true, named := ["arenanet/vm.effects"], apart := false, laid := [("arenanet/vm.effects", laid_arenanet_vm_effects)], narrowed := true }
def MachineSingleUptoSaid : Prop := machineSingleUptoRow.holds Tryz.pinned (OpenSpec.upto machineSingleSpec)

end Rows
end Go.Proofs.YtpkincoclhpcgaaGreatDoor
