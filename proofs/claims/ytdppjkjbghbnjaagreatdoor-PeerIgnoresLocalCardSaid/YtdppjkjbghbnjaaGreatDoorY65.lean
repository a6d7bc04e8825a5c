import Derived.JoinedOf
import Derived.Test.YtdppjkjbghbnjaaGreatDoorY22
import Derived.Test.YtdppjkjbghbnjaaGreatDoorY23
set_option maxHeartbeats 4000000
set_option maxRecDepth 100000
set_option linter.all false
namespace Go.Proofs.YtdppjkjbghbnjaaGreatDoor
theorem ve:laidOutB Tryz.prog=true:=by kernel_rfl
theorem rR:mapsRowed Tryz.prog=true:=by kernel_rfl
theorem rS:(Rows.peerIgnoresLocalRow.plainKeys == Tryz.prog.plainKeys)=true:=by kernel_rfl
theorem yR:Tryz.prog.mayEnter=true:=by kernel_rfl
theorem yS:Tryz.prog.stopsHeard=true:=by kernel_rfl
end Go.Proofs.YtdppjkjbghbnjaaGreatDoor
