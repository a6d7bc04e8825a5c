import Derived.Test.YtghjbimijeinfaaGreatDoorRows
import Derived.JoinedOf
set_option maxHeartbeats 4000000
set_option maxRecDepth 100000
set_option linter.all false
namespace Go.Proofs.YtghjbimijeinfaaGreatDoor
theorem oz:(Rows.disputeRevealsRow.unfollowed == Tryz.prog.unfollowed 4)=true:=by kernel_rfl
theorem qH:(Rows.disputeRevealsRow.recurses == Tryz.prog.recurses 4)=true:=by kernel_rfl
end Go.Proofs.YtghjbimijeinfaaGreatDoor
