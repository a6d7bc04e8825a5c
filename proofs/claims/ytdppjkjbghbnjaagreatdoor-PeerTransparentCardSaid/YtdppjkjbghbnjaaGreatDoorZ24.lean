import Derived.Test.YtdppjkjbghbnjaaGreatDoorRows
import Derived.JoinedOf
set_option maxHeartbeats 4000000
set_option maxRecDepth 100000
set_option linter.all false
namespace Go.Proofs.YtdppjkjbghbnjaaGreatDoor
theorem oB:(Rows.peerTransparentRow.unfollowed == Tryz.prog.unfollowed 8)=true:=by kernel_rfl
theorem qf:(Rows.peerTransparentRow.recurses == Tryz.prog.recurses 8)=true:=by kernel_rfl
end Go.Proofs.YtdppjkjbghbnjaaGreatDoor
