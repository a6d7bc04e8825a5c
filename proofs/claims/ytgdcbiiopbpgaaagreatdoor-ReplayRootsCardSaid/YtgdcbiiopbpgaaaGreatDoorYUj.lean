/- ReplayRoots: the row and the card. -/
import Derived.Test.YtgdcbiiopbpgaaaGreatDoorY49
set_option maxHeartbeats 4000000
set_option maxRecDepth 100000
set_option linter.unusedSimpArgs false
set_option linter.unusedVariables false
namespace Go.Proofs.YtgdcbiiopbpgaaaGreatDoor
open Go.ChangeShapes Go.WideShapes Go.ChangeAt Go.RowKit
theorem rF:joinedFacts Tryz.prog 3 Tryz.f3 Rows.replayRootsSpec Rows.replayRootsRow=true:=by
 unfold joinedFacts
 simp only [pA,nP,mN,oP,pB,nQ,nR,r8,r9,Bool.and_true,Bool.true_and]
 kernel_rfl
theorem uF:Rows.ReplayRootsSaid :=
 OpenClaim.holds_of_wide 3 Tryz.f3 rfl rfl rfl rfl rfl rfl rfl ⟨rfl,rfl,rfl,rfl,rfl⟩ rfl rfl rfl rfl rfl (by kernel_rfl) Tryz.func3 rF
  (of_decide_eq_true (by kernel_rfl)) (by unfold Func.isWrapper;first | (rw [if_pos (by decide +kernel)];kernel_rfl) | (rw [if_neg (by decide +kernel)];exact ⟨rfl,rfl⟩))
  (λ os started H enc _=>rE os started H enc)
theorem roots32_card:Rows.ReplayRootsCardSaid :=
 Claim7.holds_tied_plain_at .later [] [.data,.data] true _ false
  uF (λ _ h=>by cases h) (by kernel_rfl) (λ _ h=>by cases h) replayRoots_row_tie rfl ⟨rfl,rfl⟩ (by kernel_rfl) rfl
  (λ f fn hf hfn=>by
   obtain rfl:f=3:=Option.some.inj ((show Tryz.prog.funcNamed "arenanet/arenanetlaw32.ReplayRoots"=some 3 by kernel_rfl).symm.trans hf) |>.symm
   obtain rfl:fn=Tryz.f3:=(Option.some.inj (Tryz.func3.symm.trans hfn)).symm
   exact ⟨by kernel_rfl,λ j t ht=>by
    rw [Tryz.params3] at ht
    have h3:t=3 \/ t=22:=by
     rcases j with _ | _ | _ | _ | _ | j <;> simp at ht <;> simp [ht.symm]
    rcases h3 with rfl | rfl
    ·exact (show Tryz.prog.wantsStandIn 3=false by kernel_rfl)
    ·exact (show Tryz.prog.wantsStandIn 22=false by kernel_rfl)⟩)
  (by kernel_rfl)
#print axioms roots32_card
end Go.Proofs.YtgdcbiiopbpgaaaGreatDoor
