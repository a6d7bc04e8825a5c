/- EngineFar: the row. -/
import Derived.Test.YthoijjeddhfcnaaGreatW39
set_option maxHeartbeats 4000000
set_option maxRecDepth 100000
set_option linter.unusedSimpArgs false
set_option linter.unusedVariables false
namespace Go.Proofs.YthoijjeddhfcnaaGreat
open Go.ChangeShapes Go.WideShapes Go.ChangeAt Go.RowKit
theorem farr_closed:joinedFacts Tryz.prog 3 Tryz.f3 Rows.engineFarSpec Rows.engineFarRow=true:=by
  unfold joinedFacts
  simp only [farr_inPlace,farr_varsNamed,farr_unfollowed,farr_recurses,farr_laidOut,farr_mapsRowed,farr_plainKeys,farr_enter,farr_heard,Bool.and_true,Bool.true_and]
  kernel_rfl
theorem farr_over:Rows.engineFarRow.holds Tryz.pinned (OpenSpec.ofChange Rows.engineFarSpec) :=
  OpenClaim.holds_of_wide 3 Tryz.f3 rfl rfl rfl rfl rfl rfl rfl ⟨rfl,rfl,rfl,rfl,rfl⟩ rfl rfl rfl rfl rfl (by kernel_rfl) Tryz.func3 farr_closed
    (of_decide_eq_true (by kernel_rfl)) (by unfold Func.isWrapper;first | (rw [if_pos (by decide +kernel)];kernel_rfl) | (rw [if_neg (by decide +kernel)];exact ⟨rfl,rfl⟩))
    (λ os started H enc _=>farr_lifted os started H enc)
theorem farr_proved:Rows.EngineFarSaid:=farr_over
#print axioms farr_proved
end Go.Proofs.YthoijjeddhfcnaaGreat
