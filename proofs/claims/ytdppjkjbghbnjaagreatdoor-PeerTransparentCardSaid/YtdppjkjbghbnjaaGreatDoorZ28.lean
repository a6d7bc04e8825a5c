import Derived.Test.YtdppjkjbghbnjaaGreatDoorRows
import Derived.KernelRfl
import Derived.SevenTiedAt
set_option maxHeartbeats 4000000
set_option maxRecDepth 100000
set_option linter.all false
namespace Go.Proofs.YtdppjkjbghbnjaaGreatDoor
theorem wq:Tryz.prog.funcNamed "arenanet/arenanetlaw25.PeerTransparent"=some 8:=by kernel_rfl
end Go.Proofs.YtdppjkjbghbnjaaGreatDoor
