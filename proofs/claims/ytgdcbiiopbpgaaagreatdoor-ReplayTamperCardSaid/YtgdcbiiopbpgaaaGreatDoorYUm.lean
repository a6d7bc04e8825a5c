/- ReplayTamper: the row and the card. -/
import Derived.Test.YtgdcbiiopbpgaaaGreatDoorY19
set_option maxHeartbeats 4000000
set_option maxRecDepth 100000
set_option linter.unusedSimpArgs false
set_option linter.unusedVariables false
namespace Go.Proofs.YtgdcbiiopbpgaaaGreatDoor
open Go.ChangeShapes Go.WideShapes Go.ChangeAt Go.RowKit
theorem yR:joinedFacts Tryz.prog 6 Tryz.f6 Rows.replayTamperSpec Rows.replayTamperRow=true:=by
 unfold joinedFacts
 simp only[vT,sK,qh,td,vU,sL,sM,AU,AV,Bool.and_true,Bool.true_and]
 kernel_rfl
theorem EP:Rows.ReplayTamperSaid :=
 OpenClaim.holds_of_wide 6 Tryz.f6 rfl rfl rfl rfl rfl rfl rfl ⟨rfl,rfl,rfl,rfl,rfl⟩ rfl rfl rfl rfl rfl (by kernel_rfl) Tryz.func6 yR
  (of_decide_eq_true (by kernel_rfl)) (by unfold Func.isWrapper;first|(rw[if_pos (by decide +kernel)];kernel_rfl)|(rw[if_neg (by decide +kernel)];exact⟨rfl,rfl⟩))
  (λ os started H enc _=>yQ os started H enc)
theorem tamp_card:Rows.ReplayTamperCardSaid :=
 Claim7.holds_tied_plain_at .later [] [.data,.data,.data] true _ false
  EP (λ _ h=>by cases h) (by kernel_rfl) (λ _ h=>by cases h) replayTamper_row_tie rfl ⟨rfl,rfl⟩ (by kernel_rfl) rfl
  (λ f fn hf WT=>by
   obtain rfl:f=6:=Option.some.inj ((show Tryz.prog.funcNamed "arenanet/arenanetlaw32.ReplayTamper"=some 6 by kernel_rfl).symm.trans hf) |>.symm
   obtain rfl:fn=Tryz.f6:=(Option.some.inj (Tryz.func6.symm.trans WT)).symm
   exact⟨by kernel_rfl,λ j t ht=>by
    rw[Tryz.params6] at ht
    have h3:t=3 \/ t=22 \/ t=5:=by
     rcases j with _|_|_|_|_|_|_|j <;> simp at ht <;> simp[ht.symm]
    rcases h3 with rfl|rfl|rfl
    ·exact(show Tryz.prog.wantsStandIn 3=false by kernel_rfl)
    ·exact(show Tryz.prog.wantsStandIn 22=false by kernel_rfl)
    ·exact(show Tryz.prog.wantsStandIn 5=false by kernel_rfl)⟩)
  (by kernel_rfl)
#print axioms tamp_card
end Go.Proofs.YtgdcbiiopbpgaaaGreatDoor
