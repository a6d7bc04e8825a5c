import Derived.Test.YtdppjkjbghbnjaaGreatDoorRows
import Derived.JoinedOf
import Derived.Test.YtdppjkjbghbnjaaGreatDoorY70
set_option maxHeartbeats 4000000
set_option maxRecDepth 100000
set_option linter.all false
namespace Go.Proofs.YtdppjkjbghbnjaaGreatDoor
theorem perfect_laidOut:laidOutB Tryz.prog=true:=by kernel_rfl
theorem perfect_mapsRowed:mapsRowed Tryz.prog=true:=by kernel_rfl
theorem perfect_plainKeys:(Rows.peerPerfectRow.plainKeys == Tryz.prog.plainKeys)=true:=by kernel_rfl
theorem perfect_enter:Tryz.prog.mayEnter=true:=by kernel_rfl
theorem perfect_heard:Tryz.prog.stopsHeard=true:=by kernel_rfl
end Go.Proofs.YtdppjkjbghbnjaaGreatDoor
