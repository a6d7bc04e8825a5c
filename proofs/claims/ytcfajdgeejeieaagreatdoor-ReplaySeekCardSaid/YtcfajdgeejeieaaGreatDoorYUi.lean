/- ReplaySeek: the row and the card. -/
import Derived.Test.YtcfajdgeejeieaaGreatDoorY49
set_option maxHeartbeats 4000000
set_option maxRecDepth 100000
set_option linter.unusedSimpArgs false
set_option linter.unusedVariables false
namespace Go.Proofs.YtcfajdgeejeieaaGreatDoor
open Go.ChangeShapes Go.WideShapes Go.ChangeAt Go.RowKit
theorem uc:joinedFacts Tryz.prog 5 Tryz.f5 Rows.replaySeekSpec Rows.replaySeekRow=true:=by
 unfold joinedFacts
 simp only [rx,oT,od,qU,ry,oU,oV,wW,wX,Bool.and_true,Bool.true_and]
 kernel_rfl
theorem yQ:Rows.ReplaySeekSaid :=
 OpenClaim.holds_of_wide 5 Tryz.f5 rfl rfl rfl rfl rfl rfl rfl ⟨rfl,rfl,rfl,rfl,rfl⟩ rfl rfl rfl rfl rfl (by kernel_rfl) Tryz.func5 uc
  (of_decide_eq_true (by kernel_rfl)) (by unfold Func.isWrapper;first | (rw [if_pos (by decide +kernel)];kernel_rfl) | (rw [if_neg (by decide +kernel)];exact ⟨rfl,rfl⟩))
  (λ os started H enc _=>ub os started H enc)
theorem seeks_card:Rows.ReplaySeekCardSaid :=
 Claim7.holds_tied_plain_at .later [] [.data,.data] true _ false
  yQ (λ _ h=>by cases h) (by kernel_rfl) (λ _ h=>by cases h) replaySeek_row_tie rfl ⟨rfl,rfl⟩ (by kernel_rfl) rfl
  (λ f fn hf hfn=>by
   obtain rfl:f=5:=Option.some.inj ((show Tryz.prog.funcNamed "arenanet/arenanetlaw32.ReplaySeek"=some 5 by kernel_rfl).symm.trans hf) |>.symm
   obtain rfl:fn=Tryz.f5:=(Option.some.inj (Tryz.func5.symm.trans hfn)).symm
   exact ⟨by kernel_rfl,λ j t ht=>by
    rw [Tryz.params5] at ht
    have h3:t=3 \/ t=22:=by
     rcases j with _ | _ | _ | _ | _ | _ | _ | _ | j <;> simp at ht <;> simp [ht.symm]
    rcases h3 with rfl | rfl
    ·exact (show Tryz.prog.wantsStandIn 3=false by kernel_rfl)
    ·exact (show Tryz.prog.wantsStandIn 22=false by kernel_rfl)⟩)
  (by kernel_rfl)
#print axioms seeks_card
end Go.Proofs.YtcfajdgeejeieaaGreatDoor
