import Derived.Test.YtdppjkjbghbnjaaGreatDoorRows
import Derived.JoinedOf
set_option maxHeartbeats 4000000
set_option maxRecDepth 100000
set_option linter.all false
namespace Go.Proofs.YtdppjkjbghbnjaaGreatDoor
theorem sV:(Rows.replayPeerRow.inPlace == Tryz.prog.inPlace 9)=true:=by kernel_rfl
theorem p9:(Rows.replayPeerRow.named == Tryz.prog.varsNamed 9)=true:=by kernel_rfl
end Go.Proofs.YtdppjkjbghbnjaaGreatDoor
