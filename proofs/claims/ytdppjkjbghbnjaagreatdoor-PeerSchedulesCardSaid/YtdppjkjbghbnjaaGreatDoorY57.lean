import Derived.Test.YtdppjkjbghbnjaaGreatDoorY53
import Derived.Test.YtdppjkjbghbnjaaGreatDoorY54
import Derived.Test.YtdppjkjbghbnjaaGreatDoorY55
import Derived.Test.YtdppjkjbghbnjaaGreatDoorY56
set_option maxHeartbeats 4000000
set_option maxRecDepth 100000
set_option linter.all false
namespace Go.Proofs.YtdppjkjbghbnjaaGreatDoor
open Go.ChangeShapes Go.WideShapes Go.ChangeAt Go.RowKit
theorem yQ:joinedFacts Tryz.prog 5 Tryz.f5 Rows.peerSchedulesSpec Rows.peerSchedulesRow=true:=by
 unfold joinedFacts;simp only[vO,sJ,rP,vc,vQ,sK,sL,BX,BZ,Bool.and_true,Bool.true_and]
 kernel_rfl
theorem DJ:Rows.PeerSchedulesSaid :=
 OpenClaim.holds_of_wide 5 Tryz.f5 rfl rfl rfl rfl rfl rfl rfl ⟨rfl,rfl,rfl,rfl,rfl⟩ rfl rfl rfl rfl rfl (by kernel_rfl) Tryz.func5 yQ
  (of_decide_eq_true (by kernel_rfl)) (by unfold Func.isWrapper;first|(rw[if_pos (by decide +kernel)];kernel_rfl)|(rw[if_neg (by decide +kernel)];exact⟨rfl,rfl⟩))
  (λ os started H enc _=>yP os started H enc)
end Go.Proofs.YtdppjkjbghbnjaaGreatDoor
