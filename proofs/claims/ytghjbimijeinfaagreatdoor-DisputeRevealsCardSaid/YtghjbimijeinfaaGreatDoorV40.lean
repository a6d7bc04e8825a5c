import Derived.Test.YtghjbimijeinfaaGreatDoorRows
import Derived.KernelRfl
import Derived.SevenTiedAt
set_option maxHeartbeats 4000000
set_option maxRecDepth 100000
set_option linter.all false
namespace Go.Proofs.YtghjbimijeinfaaGreatDoor
theorem ux:Tryz.prog.funcNamed "arenanet/arenanetlaw33.DisputeReveals"=some 4:=by kernel_rfl
end Go.Proofs.YtghjbimijeinfaaGreatDoor
