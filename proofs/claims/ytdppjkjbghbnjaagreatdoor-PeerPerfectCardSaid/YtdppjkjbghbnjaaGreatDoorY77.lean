import Derived.Test.YtdppjkjbghbnjaaGreatDoorY73
import Derived.Test.YtdppjkjbghbnjaaGreatDoorY74
import Derived.Test.YtdppjkjbghbnjaaGreatDoorY75
import Derived.Test.YtdppjkjbghbnjaaGreatDoorY76
set_option maxHeartbeats 4000000
set_option maxRecDepth 100000
set_option linter.all false
namespace Go.Proofs.YtdppjkjbghbnjaaGreatDoor
open Go.ChangeShapes Go.WideShapes Go.ChangeAt Go.RowKit
theorem perfect_closed:joinedFacts Tryz.prog 3 Tryz.f3 Rows.peerPerfectSpec Rows.peerPerfectRow=true:=by
 unfold joinedFacts
 simp only [perfect_inPlace,perfect_varsNamed,perfect_unfollowed,perfect_recurses,perfect_laidOut,perfect_mapsRowed,perfect_plainKeys,perfect_enter,perfect_heard,Bool.and_true,Bool.true_and]
 kernel_rfl
theorem perfect_over:Rows.PeerPerfectSaid :=
 OpenClaim.holds_of_wide 3 Tryz.f3 rfl rfl rfl rfl rfl rfl rfl ⟨rfl,rfl,rfl,rfl,rfl⟩ rfl rfl rfl rfl rfl (by kernel_rfl) Tryz.func3 perfect_closed
  (of_decide_eq_true (by kernel_rfl)) (by unfold Func.isWrapper;first | (rw [if_pos (by decide +kernel)];kernel_rfl) | (rw [if_neg (by decide +kernel)];exact ⟨rfl,rfl⟩))
  (λ os started H enc _=>perfect_lifted os started H enc)
end Go.Proofs.YtdppjkjbghbnjaaGreatDoor
