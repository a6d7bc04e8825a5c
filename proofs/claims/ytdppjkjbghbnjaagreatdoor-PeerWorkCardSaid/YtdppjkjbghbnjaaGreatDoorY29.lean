import Derived.Test.YtdppjkjbghbnjaaGreatDoorY25
import Derived.Test.YtdppjkjbghbnjaaGreatDoorY26
import Derived.Test.YtdppjkjbghbnjaaGreatDoorY27
import Derived.Test.YtdppjkjbghbnjaaGreatDoorY28
set_option maxHeartbeats 4000000
set_option maxRecDepth 100000
set_option linter.all false
namespace Go.Proofs.YtdppjkjbghbnjaaGreatDoor
open Go.ChangeShapes Go.WideShapes Go.ChangeAt Go.RowKit
theorem BR:joinedFacts Tryz.prog 4 Tryz.f4 Rows.peerWorkSpec Rows.peerWorkRow=true:=by
 unfold joinedFacts;simp only[yI,uV,sE,vJ,yJ,uW,uX,DD,DE,Bool.and_true,Bool.true_and]
 kernel_rfl
theorem HF:Rows.PeerWorkSaid :=
 OpenClaim.holds_of_wide 4 Tryz.f4 rfl rfl rfl rfl rfl rfl rfl ⟨rfl,rfl,rfl,rfl,rfl⟩ rfl rfl rfl rfl rfl (by kernel_rfl) Tryz.func4 BR
  (of_decide_eq_true (by kernel_rfl)) (by unfold Func.isWrapper;first|(rw[if_pos (by decide +kernel)];kernel_rfl)|(rw[if_neg (by decide +kernel)];exact⟨rfl,rfl⟩))
  (λ os started H enc _=>BQ os started H enc)
end Go.Proofs.YtdppjkjbghbnjaaGreatDoor
