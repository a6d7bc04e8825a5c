import Derived.Test.YtdppjkjbghbnjaaGreatDoorZ22
import Derived.Test.YtdppjkjbghbnjaaGreatDoorZ23
import Derived.Test.YtdppjkjbghbnjaaGreatDoorZ24
import Derived.Test.YtdppjkjbghbnjaaGreatDoorZ25
set_option maxHeartbeats 4000000
set_option maxRecDepth 100000
set_option linter.all false
namespace Go.Proofs.YtdppjkjbghbnjaaGreatDoor
open Go.ChangeShapes Go.WideShapes Go.ChangeAt Go.RowKit
theorem sX:joinedFacts Tryz.prog 8 Tryz.f8 Rows.peerTransparentSpec Rows.peerTransparentRow=true:=by
 unfold joinedFacts;simp only[sx,pw,oB,qf,sy,pz,pA,wo,wp,Bool.and_true,Bool.true_and]
 kernel_rfl
theorem zr:Rows.PeerTransparentSaid :=
 OpenClaim.holds_of_wide 8 Tryz.f8 rfl rfl rfl rfl rfl rfl rfl ⟨rfl,rfl,rfl,rfl,rfl⟩ rfl rfl rfl rfl rfl (by kernel_rfl) Tryz.func8 sX
  (aa0 (by kernel_rfl)) (by unfold Func.isWrapper;first|(rw[if_pos (by decide +kernel)];kernel_rfl)|(rw[if_neg (by decide +kernel)];exact⟨rfl,rfl⟩))
  (λ os started H enc _=>sW os started H enc)
end Go.Proofs.YtdppjkjbghbnjaaGreatDoor
