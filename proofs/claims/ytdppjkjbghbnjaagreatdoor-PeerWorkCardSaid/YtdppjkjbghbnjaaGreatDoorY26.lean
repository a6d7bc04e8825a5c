import Derived.JoinedOf
import Derived.Test.YtdppjkjbghbnjaaGreatDoorY15
set_option maxHeartbeats 4000000
set_option maxRecDepth 100000
set_option linter.all false
namespace Go.Proofs.YtdppjkjbghbnjaaGreatDoor
theorem yI:(Rows.peerWorkRow.inPlace == Tryz.prog.inPlace 4)=true:=by kernel_rfl
theorem uV:(Rows.peerWorkRow.named == Tryz.prog.varsNamed 4)=true:=by kernel_rfl
end Go.Proofs.YtdppjkjbghbnjaaGreatDoor
