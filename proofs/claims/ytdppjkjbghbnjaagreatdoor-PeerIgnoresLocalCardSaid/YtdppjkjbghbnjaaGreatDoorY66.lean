import Derived.Test.YtdppjkjbghbnjaaGreatDoorY62
import Derived.Test.YtdppjkjbghbnjaaGreatDoorY63
import Derived.Test.YtdppjkjbghbnjaaGreatDoorY64
import Derived.Test.YtdppjkjbghbnjaaGreatDoorY65
set_option maxHeartbeats 4000000
set_option maxRecDepth 100000
set_option linter.all false
namespace Go.Proofs.YtdppjkjbghbnjaaGreatDoor
open Go.ChangeShapes Go.WideShapes Go.ChangeAt Go.RowKit
theorem vT:joinedFacts Tryz.prog 6 Tryz.f6 Rows.peerIgnoresLocalSpec Rows.peerIgnoresLocalRow=true:=by
 unfold joinedFacts;simp only[vd,rQ,qH,sM,ve,rR,rS,yR,yS,Bool.and_true,Bool.true_and]
 kernel_rfl
theorem B1:Rows.PeerIgnoresLocalSaid :=
 OpenClaim.holds_of_wide 6 Tryz.f6 rfl rfl rfl rfl rfl rfl rfl ⟨rfl,rfl,rfl,rfl,rfl⟩ rfl rfl rfl rfl rfl (by kernel_rfl) Tryz.func6 vT
  (of_decide_eq_true (by kernel_rfl)) (by unfold Func.isWrapper;first|(rw[if_pos (by decide +kernel)];kernel_rfl)|(rw[if_neg (by decide +kernel)];exact⟨rfl,rfl⟩))
  (λ os started H enc _=>vR os started H enc)
end Go.Proofs.YtdppjkjbghbnjaaGreatDoor
