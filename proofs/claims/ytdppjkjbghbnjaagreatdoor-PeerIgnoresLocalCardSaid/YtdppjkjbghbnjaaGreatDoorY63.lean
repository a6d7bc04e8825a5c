import Derived.JoinedOf
import Derived.Test.YtdppjkjbghbnjaaGreatDoorY22
import Derived.Test.YtdppjkjbghbnjaaGreatDoorY23
set_option maxHeartbeats 4000000
set_option maxRecDepth 100000
set_option linter.all false
namespace Go.Proofs.YtdppjkjbghbnjaaGreatDoor
theorem vd:(Rows.peerIgnoresLocalRow.inPlace == Tryz.prog.inPlace 6)=true:=by kernel_rfl
theorem rQ:(Rows.peerIgnoresLocalRow.named == Tryz.prog.varsNamed 6)=true:=by kernel_rfl
end Go.Proofs.YtdppjkjbghbnjaaGreatDoor
