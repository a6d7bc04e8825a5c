import Derived.Test.YtdppjkjbghbnjaaGreatDoorY21
set_option maxHeartbeats 4000000
set_option maxRecDepth 100000
set_option linter.all false
namespace Go.Proofs.YtdppjkjbghbnjaaGreatDoor
theorem DL:false=Rows.peerSchedulesRow.goesBy Tryz.prog:=by kernel_rfl
end Go.Proofs.YtdppjkjbghbnjaaGreatDoor
