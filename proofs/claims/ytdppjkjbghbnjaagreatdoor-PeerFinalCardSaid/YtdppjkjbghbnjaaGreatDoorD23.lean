import Derived.Test.YtdppjkjbghbnjaaGreatDoorRows
import Derived.JoinedOf
set_option maxHeartbeats 4000000
set_option maxRecDepth 100000
set_option linter.all false
namespace Go.Proofs.YtdppjkjbghbnjaaGreatDoor
theorem sH:(Rows.peerFinalRow.inPlace == Tryz.prog.inPlace 7)=true:=by kernel_rfl
theorem pS:(Rows.peerFinalRow.named == Tryz.prog.varsNamed 7)=true:=by kernel_rfl
end Go.Proofs.YtdppjkjbghbnjaaGreatDoor
