import Derived.Test.YtghjbimijeinfaaGreatDoorRows
import Derived.JoinedOf
set_option maxHeartbeats 4000000
set_option maxRecDepth 100000
set_option linter.all false
namespace Go.Proofs.YtghjbimijeinfaaGreatDoor
theorem rE:(Rows.disputeRevealsRow.inPlace == Tryz.prog.inPlace 4)=true:=by kernel_rfl
theorem pG:(Rows.disputeRevealsRow.named == Tryz.prog.varsNamed 4)=true:=by kernel_rfl
end Go.Proofs.YtghjbimijeinfaaGreatDoor
