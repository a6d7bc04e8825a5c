import Derived.Test.YtghjbimijeinfaaGreatDoorRows
import Derived.JoinedOf
set_option maxHeartbeats 4000000
set_option maxRecDepth 100000
set_option linter.all false
namespace Go.Proofs.YtghjbimijeinfaaGreatDoor
theorem rF:laidOutB Tryz.prog=true:=by kernel_rfl
theorem pH:mapsRowed Tryz.prog=true:=by kernel_rfl
theorem pI:(Rows.disputeRevealsRow.plainKeys == Tryz.prog.plainKeys)=true:=by kernel_rfl
theorem uv:Tryz.prog.mayEnter=true:=by kernel_rfl
theorem uw:Tryz.prog.stopsHeard=true:=by kernel_rfl
end Go.Proofs.YtghjbimijeinfaaGreatDoor
