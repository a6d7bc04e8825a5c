import Derived.Test.YtdppjkjbghbnjaaGreatDoorRows
import Derived.SevenTiedAt
import Derived.Test.YtdppjkjbghbnjaaGreatDoorY70
set_option maxHeartbeats 4000000
set_option maxRecDepth 100000
set_option linter.all false
namespace Go.Proofs.YtdppjkjbghbnjaaGreatDoor
theorem perfect_fname:Tryz.prog.funcNamed "arenanet/arenanetlaw25.PeerPerfect"=some 3:=by kernel_rfl
end Go.Proofs.YtdppjkjbghbnjaaGreatDoor
