import Derived.Test.YtdppjkjbghbnjaaGreatDoorRows
import Derived.JoinedOf
set_option maxHeartbeats 4000000
set_option maxRecDepth 100000
set_option linter.all false
namespace Go.Proofs.YtdppjkjbghbnjaaGreatDoor
theorem sW:laidOutB Tryz.prog=true:=by kernel_rfl
theorem qd:mapsRowed Tryz.prog=true:=by kernel_rfl
theorem qf:(Rows.replayPeerRow.plainKeys == Tryz.prog.plainKeys)=true:=by kernel_rfl
theorem zo:Tryz.prog.mayEnter=true:=by kernel_rfl
theorem zp:Tryz.prog.stopsHeard=true:=by kernel_rfl
end Go.Proofs.YtdppjkjbghbnjaaGreatDoor
