/- DisputeErrors: the card. -/
import Derived.Test.YtghjbimijeinfaaGreatDoorY39
import Derived.Test.YtghjbimijeinfaaGreatDoorTie
import Derived.Test.YtghjbimijeinfaaGreatDoorCards
import Derived.SevenTiedAt
set_option maxHeartbeats 4000000
set_option maxRecDepth 100000
set_option linter.unusedSimpArgs false
set_option linter.unusedVariables false
namespace Go.Proofs.YtghjbimijeinfaaGreatDoor
open Go.ChangeShapes Go.WideShapes Go.ChangeAt Go.RowKit
theorem errs33_card:Rows.DisputeErrorsCardSaid :=
 Claim7.holds_tied_plain_at .later [] [.data,.data] true _ false
  xi (λ _ h=>by cases h) (by kernel_rfl) (λ _ h=>by cases h) disputeErrors_row_tie rfl ⟨rfl,rfl⟩ (by kernel_rfl) rfl
  (λ f fn hf hfn=>by
   obtain rfl:f=5:=Option.some.inj (ux.symm.trans hf) |>.symm
   obtain rfl:fn=Tryz.f5:=(Option.some.inj (Tryz.func5.symm.trans hfn)).symm
   exact ⟨zl,λ j t ht=>by
    rw [Tryz.params5] at ht
    have h3:t=4 \/ t=3 \/ t=45 \/ t=22:=by
     rcases j with _ | _ | _ | _ | _ | _ | _ | j <;> simp at ht <;> simp [ht.symm]
    rcases h3 with rfl | rfl | rfl | rfl
    ·exact (show Tryz.prog.wantsStandIn 4=false by kernel_rfl)
    ·exact (show Tryz.prog.wantsStandIn 3=false by kernel_rfl)
    ·exact (show Tryz.prog.wantsStandIn 45=false by kernel_rfl)
    ·exact (show Tryz.prog.wantsStandIn 22=false by kernel_rfl)⟩)
  xj
#print axioms errs33_card
end Go.Proofs.YtghjbimijeinfaaGreatDoor
