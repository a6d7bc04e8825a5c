import Derived.JoinedOf
import Derived.Test.YtdppjkjbghbnjaaGreatDoorY15
set_option maxHeartbeats 4000000
set_option maxRecDepth 100000
set_option linter.all false
namespace Go.Proofs.YtdppjkjbghbnjaaGreatDoor
theorem sE:(Rows.peerWorkRow.unfollowed == Tryz.prog.unfollowed 4)=true:=by kernel_rfl
theorem vJ:(Rows.peerWorkRow.recurses == Tryz.prog.recurses 4)=true:=by kernel_rfl
end Go.Proofs.YtdppjkjbghbnjaaGreatDoor
