import Derived.Test.YtdppjkjbghbnjaaGreatDoorD22
import Derived.Test.YtdppjkjbghbnjaaGreatDoorD23
import Derived.Test.YtdppjkjbghbnjaaGreatDoorD24
import Derived.Test.YtdppjkjbghbnjaaGreatDoorD25
set_option maxHeartbeats 4000000
set_option maxRecDepth 100000
set_option linter.all false
namespace Go.Proofs.YtdppjkjbghbnjaaGreatDoor
open Go.ChangeShapes Go.WideShapes Go.ChangeAt Go.RowKit
theorem vW:joinedFacts Tryz.prog 7 Tryz.f7 Rows.peerFinalSpec Rows.peerFinalRow=true:=by
 unfold joinedFacts;simp only[sH,pS,pm,r9,sI,pT,pU,zc,zd,Bool.and_true,Bool.true_and]
 kernel_rfl
theorem Bj:Rows.PeerFinalSaid :=
 OpenClaim.holds_of_wide 7 Tryz.f7 rfl rfl rfl rfl rfl rfl rfl ⟨rfl,rfl,rfl,rfl,rfl⟩ rfl rfl rfl rfl rfl (by kernel_rfl) Tryz.func7 vW
  (aci (by kernel_rfl)) (by unfold Func.isWrapper;first|(rw[if_pos (by decide +kernel)];kernel_rfl)|(rw[if_neg (by decide +kernel)];exact⟨rfl,rfl⟩))
  (λ os started H enc _=>vV os started H enc)
end Go.Proofs.YtdppjkjbghbnjaaGreatDoor
