import Derived.Test.YtdppjkjbghbnjaaGreatDoorRows
import Derived.KernelRfl
import Derived.SevenTiedAt
set_option maxHeartbeats 4000000
set_option maxRecDepth 100000
set_option linter.all false
namespace Go.Proofs.YtdppjkjbghbnjaaGreatDoor
theorem Bk:false=Rows.peerFinalRow.goesBy Tryz.prog:=by kernel_rfl
end Go.Proofs.YtdppjkjbghbnjaaGreatDoor
