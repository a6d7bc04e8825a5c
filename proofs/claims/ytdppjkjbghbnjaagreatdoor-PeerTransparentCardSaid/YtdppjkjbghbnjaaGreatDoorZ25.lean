import Derived.Test.YtdppjkjbghbnjaaGreatDoorRows
import Derived.JoinedOf
set_option maxHeartbeats 4000000
set_option maxRecDepth 100000
set_option linter.all false
namespace Go.Proofs.YtdppjkjbghbnjaaGreatDoor
theorem sy:laidOutB Tryz.prog=true:=by kernel_rfl
theorem pz:mapsRowed Tryz.prog=true:=by kernel_rfl
theorem pA:(Rows.peerTransparentRow.plainKeys == Tryz.prog.plainKeys)=true:=by kernel_rfl
theorem wo:Tryz.prog.mayEnter=true:=by kernel_rfl
theorem wp:Tryz.prog.stopsHeard=true:=by kernel_rfl
end Go.Proofs.YtdppjkjbghbnjaaGreatDoor
