import Derived.Test.YtdppjkjbghbnjaaGreatDoorY15
set_option maxHeartbeats 4000000
set_option maxRecDepth 100000
set_option linter.all false
namespace Go.Proofs.YtdppjkjbghbnjaaGreatDoor
theorem DF:Tryz.prog.funcNamed "arenanet/arenanetlaw25.PeerWork"=some 4:=by kernel_rfl
end Go.Proofs.YtdppjkjbghbnjaaGreatDoor
