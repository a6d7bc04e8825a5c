import Derived.Test.YtdppjkjbghbnjaaGreatDoorRows
import Derived.JoinedOf
import Derived.Test.YtdppjkjbghbnjaaGreatDoorY70
set_option maxHeartbeats 4000000
set_option maxRecDepth 100000
set_option linter.all false
namespace Go.Proofs.YtdppjkjbghbnjaaGreatDoor
theorem perfect_inPlace:(Rows.peerPerfectRow.inPlace == Tryz.prog.inPlace 3)=true:=by kernel_rfl
theorem perfect_varsNamed:(Rows.peerPerfectRow.named == Tryz.prog.varsNamed 3)=true:=by kernel_rfl
end Go.Proofs.YtdppjkjbghbnjaaGreatDoor
