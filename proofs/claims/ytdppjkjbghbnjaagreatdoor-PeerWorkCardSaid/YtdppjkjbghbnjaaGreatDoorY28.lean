import Derived.JoinedOf
import Derived.Test.YtdppjkjbghbnjaaGreatDoorY15
set_option maxHeartbeats 4000000
set_option maxRecDepth 100000
set_option linter.all false
namespace Go.Proofs.YtdppjkjbghbnjaaGreatDoor
theorem yJ:laidOutB Tryz.prog=true:=by kernel_rfl
theorem uW:mapsRowed Tryz.prog=true:=by kernel_rfl
theorem uX:(Rows.peerWorkRow.plainKeys == Tryz.prog.plainKeys)=true:=by kernel_rfl
theorem DD:Tryz.prog.mayEnter=true:=by kernel_rfl
theorem DE:Tryz.prog.stopsHeard=true:=by kernel_rfl
end Go.Proofs.YtdppjkjbghbnjaaGreatDoor
