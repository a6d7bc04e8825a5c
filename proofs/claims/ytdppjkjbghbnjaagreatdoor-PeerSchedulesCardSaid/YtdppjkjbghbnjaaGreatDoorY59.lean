import Derived.Test.YtdppjkjbghbnjaaGreatDoorY21
set_option maxHeartbeats 4000000
set_option maxRecDepth 100000
set_option linter.all false
namespace Go.Proofs.YtdppjkjbghbnjaaGreatDoor
theorem B0:Tryz.prog.funcNamed "arenanet/arenanetlaw25.PeerSchedules"=some 5:=by kernel_rfl
end Go.Proofs.YtdppjkjbghbnjaaGreatDoor
