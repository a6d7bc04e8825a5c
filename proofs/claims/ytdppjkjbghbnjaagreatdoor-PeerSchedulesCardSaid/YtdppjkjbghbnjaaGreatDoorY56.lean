import Derived.JoinedOf
import Derived.Test.YtdppjkjbghbnjaaGreatDoorY21
set_option maxHeartbeats 4000000
set_option maxRecDepth 100000
set_option linter.all false
namespace Go.Proofs.YtdppjkjbghbnjaaGreatDoor
theorem vQ:laidOutB Tryz.prog=true:=by kernel_rfl
theorem sK:mapsRowed Tryz.prog=true:=by kernel_rfl
theorem sL:(Rows.peerSchedulesRow.plainKeys == Tryz.prog.plainKeys)=true:=by kernel_rfl
theorem BX:Tryz.prog.mayEnter=true:=by kernel_rfl
theorem BZ:Tryz.prog.stopsHeard=true:=by kernel_rfl
end Go.Proofs.YtdppjkjbghbnjaaGreatDoor
