import Derived.Test.YtdppjkjbghbnjaaGreatDoorC22
import Derived.Test.YtdppjkjbghbnjaaGreatDoorC23
import Derived.Test.YtdppjkjbghbnjaaGreatDoorC24
import Derived.Test.YtdppjkjbghbnjaaGreatDoorC25
set_option maxHeartbeats 4000000
set_option maxRecDepth 100000
set_option linter.all false
namespace Go.Proofs.YtdppjkjbghbnjaaGreatDoor
open Go.ChangeShapes Go.WideShapes Go.ChangeAt Go.RowKit
theorem wi:joinedFacts Tryz.prog 9 Tryz.f9 Rows.replayPeerSpec Rows.replayPeerRow=true:=by
 unfold joinedFacts;simp only[sV,p9,pC,sx,sW,qd,qf,zo,zp,Bool.and_true,Bool.true_and]
 kernel_rfl
theorem BD:Rows.ReplayPeerSaid :=
 OpenClaim.holds_of_wide 9 Tryz.f9 rfl rfl rfl rfl rfl rfl rfl ⟨rfl,rfl,rfl,rfl,rfl⟩ rfl rfl rfl rfl rfl (by kernel_rfl) Tryz.func9 wi
  (aa5 (by kernel_rfl)) (by unfold Func.isWrapper;first|(rw[if_pos (by decide +kernel)];kernel_rfl)|(rw[if_neg (by decide +kernel)];exact⟨rfl,rfl⟩))
  (λ os started H enc _=>wh os started H enc)
end Go.Proofs.YtdppjkjbghbnjaaGreatDoor
