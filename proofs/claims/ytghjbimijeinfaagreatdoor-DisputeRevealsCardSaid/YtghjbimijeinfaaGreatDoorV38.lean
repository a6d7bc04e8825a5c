import Derived.Test.YtghjbimijeinfaaGreatDoorV34
import Derived.Test.YtghjbimijeinfaaGreatDoorV35
import Derived.Test.YtghjbimijeinfaaGreatDoorV36
import Derived.Test.YtghjbimijeinfaaGreatDoorV37
set_option maxHeartbeats 4000000
set_option maxRecDepth 100000
set_option linter.all false
namespace Go.Proofs.YtghjbimijeinfaaGreatDoor
open Go.ChangeShapes Go.WideShapes Go.ChangeAt Go.RowKit
theorem t7:joinedFacts Tryz.prog 4 Tryz.f4 Rows.disputeRevealsSpec Rows.disputeRevealsRow=true:=by
 unfold joinedFacts;simp only[rE,pG,oz,qH,rF,pH,pI,uv,uw,Bool.and_true,Bool.true_and]
 kernel_rfl
theorem xy:Rows.DisputeRevealsSaid :=
 OpenClaim.holds_of_wide 4 Tryz.f4 rfl rfl rfl rfl rfl rfl rfl ⟨rfl,rfl,rfl,rfl,rfl⟩ rfl rfl rfl rfl rfl (by kernel_rfl) Tryz.func4 t7
  (abq (by kernel_rfl)) (by unfold Func.isWrapper;first|(rw[if_pos (by decide +kernel)];kernel_rfl)|(rw[if_neg (by decide +kernel)];exact⟨rfl,rfl⟩))
  (λ os started H enc _=>t6 os started H enc)
end Go.Proofs.YtghjbimijeinfaaGreatDoor
