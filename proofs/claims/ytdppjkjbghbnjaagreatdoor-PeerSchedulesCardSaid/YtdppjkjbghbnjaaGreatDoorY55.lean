import Derived.JoinedOf
import Derived.Test.YtdppjkjbghbnjaaGreatDoorY21
set_option maxHeartbeats 4000000
set_option maxRecDepth 100000
set_option linter.all false
namespace Go.Proofs.YtdppjkjbghbnjaaGreatDoor
theorem rP:(Rows.peerSchedulesRow.unfollowed == Tryz.prog.unfollowed 5)=true:=by kernel_rfl
theorem vc:(Rows.peerSchedulesRow.recurses == Tryz.prog.recurses 5)=true:=by kernel_rfl
end Go.Proofs.YtdppjkjbghbnjaaGreatDoor
