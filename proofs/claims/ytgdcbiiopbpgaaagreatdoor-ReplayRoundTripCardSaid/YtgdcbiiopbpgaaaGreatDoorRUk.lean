/- ReplayRoundTrip: the row and the card. -/
import Derived.Test.YtgdcbiiopbpgaaaGreatDoorR19
set_option maxHeartbeats 4000000
set_option maxRecDepth 100000
set_option linter.unusedSimpArgs false
set_option linter.unusedVariables false
namespace Go.Proofs.YtgdcbiiopbpgaaaGreatDoor
open Go.ChangeShapes Go.WideShapes Go.ChangeAt Go.RowKit
theorem yH:joinedFacts Tryz.prog 5 Tryz.f5 Rows.replayRoundTripSpec Rows.replayRoundTripRow=true:=by
 unfold joinedFacts
 simp only[vE,so,p7,sT,vF,sr,su,AF,AG,Bool.and_true,Bool.true_and]
 kernel_rfl
theorem EC:Rows.ReplayRoundTripSaid :=
 OpenClaim.holds_of_wide 5 Tryz.f5 rfl rfl rfl rfl rfl rfl rfl ⟨rfl,rfl,rfl,rfl,rfl⟩ rfl rfl rfl rfl rfl (by kernel_rfl) Tryz.func5 yH
  (of_decide_eq_true (by kernel_rfl)) (by unfold Func.isWrapper;first|(rw[if_pos (by decide +kernel)];kernel_rfl)|(rw[if_neg (by decide +kernel)];exact⟨rfl,rfl⟩))
  (λ os started H enc _=>yG os started H enc)
theorem trip_card:Rows.ReplayRoundTripCardSaid :=
 Claim7.holds_tied_plain_at .later [] [.data,.data,.data] true _ false
  EC (λ _ h=>by cases h) (by kernel_rfl) (λ _ h=>by cases h) replayRoundTrip_row_tie rfl ⟨rfl,rfl⟩ (by kernel_rfl) rfl
  (λ f fn hf WL=>by
   obtain rfl:f=5:=Option.some.inj ((show Tryz.prog.funcNamed "arenanet/arenanetlaw32.ReplayRoundTrip"=some 5 by kernel_rfl).symm.trans hf) |>.symm
   obtain rfl:fn=Tryz.f5:=(Option.some.inj (Tryz.func5.symm.trans WL)).symm
   exact⟨by kernel_rfl,λ j t ht=>by
    rw[Tryz.params5] at ht
    have h3:t=3 \/ t=22:=by
     rcases j with _|_|_|_|_|_|j <;> simp at ht <;> simp[ht.symm]
    rcases h3 with rfl|rfl
    ·exact(show Tryz.prog.wantsStandIn 3=false by kernel_rfl)
    ·exact(show Tryz.prog.wantsStandIn 22=false by kernel_rfl)⟩)
  (by kernel_rfl)
#print axioms trip_card
end Go.Proofs.YtgdcbiiopbpgaaaGreatDoor
