/- GameUndo: the row and the card. -/
import Derived.Test.YtcfajdgeejeieaaGreatDoorV49
set_option maxHeartbeats 4000000
set_option maxRecDepth 100000
set_option linter.unusedSimpArgs false
set_option linter.unusedVariables false
namespace Go.Proofs.YtcfajdgeejeieaaGreatDoor
open Go.ChangeShapes Go.WideShapes Go.ChangeAt Go.RowKit
theorem undos_closed:joinedFacts Tryz.prog 4 Tryz.f4 Rows.gameUndoSpec Rows.gameUndoRow=true:=by
  unfold joinedFacts
  simp only [undos_inPlace,undos_varsNamed,undos_unfollowed,undos_recurses,undos_laidOut,undos_mapsRowed,undos_plainKeys,undos_enter,undos_heard,Bool.and_true,Bool.true_and]
  kernel_rfl
theorem undos_over:Rows.GameUndoSaid :=
  OpenClaim.holds_of_wide 4 Tryz.f4 rfl rfl rfl rfl rfl rfl rfl ⟨rfl,rfl,rfl,rfl,rfl⟩ rfl rfl rfl rfl rfl (by kernel_rfl) Tryz.func4 undos_closed
    (of_decide_eq_true (by kernel_rfl)) (by unfold Func.isWrapper;first | (rw [if_pos (by decide +kernel)];kernel_rfl) | (rw [if_neg (by decide +kernel)];exact ⟨rfl,rfl⟩))
    (λ os started H enc _=>undos_lifted os started H enc)
theorem undos_card:Rows.GameUndoCardSaid :=
  Claim7.holds_tied_plain_at .later [] [.data,.data] true _ false
    undos_over (λ _ h=>by cases h) (by kernel_rfl) (λ _ h=>by cases h) gameUndo_row_tie rfl ⟨rfl,rfl⟩ (by kernel_rfl) rfl
    (λ f fn hf hfn=>by
      obtain rfl:f=4:=Option.some.inj ((show Tryz.prog.funcNamed "arenanet/arenanetlaw19.GameUndo"=some 4 by kernel_rfl).symm.trans hf) |>.symm
      obtain rfl:fn=Tryz.f4:=(Option.some.inj (Tryz.func4.symm.trans hfn)).symm
      exact ⟨by kernel_rfl,λ j t ht=>by
        rw [Tryz.params4] at ht
        have h3:t=3 \/ t=22:=by
          rcases j with _ | _ | _ | _ | j <;> simp at ht <;> simp [ht.symm]
        rcases h3 with rfl | rfl
        · exact (show Tryz.prog.wantsStandIn 3=false by kernel_rfl)
        · exact (show Tryz.prog.wantsStandIn 22=false by kernel_rfl)⟩)
    (by kernel_rfl)
#print axioms undos_card
end Go.Proofs.YtcfajdgeejeieaaGreatDoor
