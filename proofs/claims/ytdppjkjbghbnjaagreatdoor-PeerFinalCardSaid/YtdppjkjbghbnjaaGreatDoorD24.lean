import Derived.Test.YtdppjkjbghbnjaaGreatDoorRows
import Derived.JoinedOf
set_option maxHeartbeats 4000000
set_option maxRecDepth 100000
set_option linter.all false
namespace Go.Proofs.YtdppjkjbghbnjaaGreatDoor
theorem pm:(Rows.peerFinalRow.unfollowed == Tryz.prog.unfollowed 7)=true:=by kernel_rfl
theorem r9:(Rows.peerFinalRow.recurses == Tryz.prog.recurses 7)=true:=by kernel_rfl
end Go.Proofs.YtdppjkjbghbnjaaGreatDoor
