/- DisputeTwins: the card. -/
import Derived.Test.YtghjbimijeinfaaGreatDoorZ39
import Derived.Test.YtghjbimijeinfaaGreatDoorTie
import Derived.Test.YtghjbimijeinfaaGreatDoorCards
import Derived.SevenTiedAt
set_option maxHeartbeats 4000000
set_option maxRecDepth 100000
set_option linter.unusedSimpArgs false
set_option linter.unusedVariables false
namespace Go.Proofs.YtghjbimijeinfaaGreatDoor
open Go.ChangeShapes Go.WideShapes Go.ChangeAt Go.RowKit
theorem twins_card:Rows.DisputeTwinsCardSaid :=
 Claim7.holds_tied_plain_at .later [] [.data,.data] true _ false
  yX (λ _ h=>by cases h) (by kernel_rfl) (λ _ h=>by cases h) disputeTwins_row_tie rfl ⟨rfl,rfl⟩ (by kernel_rfl) rfl
  (λ f fn hf hfn=>by
   obtain rfl:f=6:=Option.some.inj (wX.symm.trans hf) |>.symm
   obtain rfl:fn=Tryz.f6:=(Option.some.inj (Tryz.func6.symm.trans hfn)).symm
   exact ⟨yZ,λ j t ht=>by
    rw [Tryz.params6] at ht
    have h3:t=3 \/ t=90 \/ t=22:=by
     rcases j with _ | _ | _ | _ | _ | j <;> simp at ht <;> simp [ht.symm]
    rcases h3 with rfl | rfl | rfl
    ·exact (show Tryz.prog.wantsStandIn 3=false by kernel_rfl)
    ·exact (show Tryz.prog.wantsStandIn 90=false by kernel_rfl)
    ·exact (show Tryz.prog.wantsStandIn 22=false by kernel_rfl)⟩)
  yY
#print axioms twins_card
end Go.Proofs.YtghjbimijeinfaaGreatDoor
