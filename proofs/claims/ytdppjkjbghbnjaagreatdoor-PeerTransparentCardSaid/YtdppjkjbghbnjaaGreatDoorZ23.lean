import Derived.Test.YtdppjkjbghbnjaaGreatDoorRows
import Derived.JoinedOf
set_option maxHeartbeats 4000000
set_option maxRecDepth 100000
set_option linter.all false
namespace Go.Proofs.YtdppjkjbghbnjaaGreatDoor
theorem sx:(Rows.peerTransparentRow.inPlace == Tryz.prog.inPlace 8)=true:=by kernel_rfl
theorem pw:(Rows.peerTransparentRow.named == Tryz.prog.varsNamed 8)=true:=by kernel_rfl
end Go.Proofs.YtdppjkjbghbnjaaGreatDoor
