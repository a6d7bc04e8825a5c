import Derived.Test.YtdppjkjbghbnjaaGreatDoorRows
import Derived.JoinedOf
set_option maxHeartbeats 4000000
set_option maxRecDepth 100000
set_option linter.all false
namespace Go.Proofs.YtdppjkjbghbnjaaGreatDoor
theorem sI:laidOutB Tryz.prog=true:=by kernel_rfl
theorem pT:mapsRowed Tryz.prog=true:=by kernel_rfl
theorem pU:(Rows.peerFinalRow.plainKeys == Tryz.prog.plainKeys)=true:=by kernel_rfl
theorem zc:Tryz.prog.mayEnter=true:=by kernel_rfl
theorem zd:Tryz.prog.stopsHeard=true:=by kernel_rfl
end Go.Proofs.YtdppjkjbghbnjaaGreatDoor
