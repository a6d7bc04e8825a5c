import Derived.Test.YtdppjkjbghbnjaaGreatDoorY15
set_option maxHeartbeats 4000000
set_option maxRecDepth 100000
set_option linter.all false
namespace Go.Proofs.YtdppjkjbghbnjaaGreatDoor
theorem HG:false=Rows.peerWorkRow.goesBy Tryz.prog:=by kernel_rfl
end Go.Proofs.YtdppjkjbghbnjaaGreatDoor
