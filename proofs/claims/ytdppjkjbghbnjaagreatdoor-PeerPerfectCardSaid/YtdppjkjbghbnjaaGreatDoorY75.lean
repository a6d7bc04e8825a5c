import Derived.Test.YtdppjkjbghbnjaaGreatDoorRows
import Derived.JoinedOf
import Derived.Test.YtdppjkjbghbnjaaGreatDoorY70
set_option maxHeartbeats 4000000
set_option maxRecDepth 100000
set_option linter.all false
namespace Go.Proofs.YtdppjkjbghbnjaaGreatDoor
theorem perfect_unfollowed:(Rows.peerPerfectRow.unfollowed == Tryz.prog.unfollowed 3)=true:=by kernel_rfl
theorem perfect_recurses:(Rows.peerPerfectRow.recurses == Tryz.prog.recurses 3)=true:=by kernel_rfl
end Go.Proofs.YtdppjkjbghbnjaaGreatDoor
