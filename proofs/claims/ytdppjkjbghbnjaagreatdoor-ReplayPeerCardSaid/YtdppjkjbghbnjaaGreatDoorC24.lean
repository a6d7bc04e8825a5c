import Derived.Test.YtdppjkjbghbnjaaGreatDoorRows
import Derived.JoinedOf
set_option maxHeartbeats 4000000
set_option maxRecDepth 100000
set_option linter.all false
namespace Go.Proofs.YtdppjkjbghbnjaaGreatDoor
theorem pC:(Rows.replayPeerRow.unfollowed == Tryz.prog.unfollowed 9)=true:=by kernel_rfl
theorem sx:(Rows.replayPeerRow.recurses == Tryz.prog.recurses 9)=true:=by kernel_rfl
end Go.Proofs.YtdppjkjbghbnjaaGreatDoor
