import Derived.Test.YtdppjkjbghbnjaaGreatDoorY22
import Derived.Test.YtdppjkjbghbnjaaGreatDoorY23
set_option maxHeartbeats 4000000
set_option maxRecDepth 100000
set_option linter.all false
namespace Go.Proofs.YtdppjkjbghbnjaaGreatDoor
theorem B2:false=Rows.peerIgnoresLocalRow.goesBy Tryz.prog:=by kernel_rfl
end Go.Proofs.YtdppjkjbghbnjaaGreatDoor
