import Derived.JoinedOf
import Derived.Test.YtdppjkjbghbnjaaGreatDoorY21
set_option maxHeartbeats 4000000
set_option maxRecDepth 100000
set_option linter.all false
namespace Go.Proofs.YtdppjkjbghbnjaaGreatDoor
theorem vO:(Rows.peerSchedulesRow.inPlace == Tryz.prog.inPlace 5)=true:=by kernel_rfl
theorem sJ:(Rows.peerSchedulesRow.named == Tryz.prog.varsNamed 5)=true:=by kernel_rfl
end Go.Proofs.YtdppjkjbghbnjaaGreatDoor
