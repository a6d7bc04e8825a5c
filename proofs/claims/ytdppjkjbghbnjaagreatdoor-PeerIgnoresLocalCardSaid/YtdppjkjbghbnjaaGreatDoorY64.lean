import Derived.JoinedOf
import Derived.Test.YtdppjkjbghbnjaaGreatDoorY22
import Derived.Test.YtdppjkjbghbnjaaGreatDoorY23
set_option maxHeartbeats 4000000
set_option maxRecDepth 100000
set_option linter.all false
namespace Go.Proofs.YtdppjkjbghbnjaaGreatDoor
theorem qH:(Rows.peerIgnoresLocalRow.unfollowed == Tryz.prog.unfollowed 6)=true:=by kernel_rfl
theorem sM:(Rows.peerIgnoresLocalRow.recurses == Tryz.prog.recurses 6)=true:=by kernel_rfl
end Go.Proofs.YtdppjkjbghbnjaaGreatDoor
