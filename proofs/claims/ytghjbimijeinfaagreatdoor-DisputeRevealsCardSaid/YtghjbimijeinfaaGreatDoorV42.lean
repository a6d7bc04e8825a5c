import Derived.Test.YtghjbimijeinfaaGreatDoorV38
import Derived.Test.YtghjbimijeinfaaGreatDoorV39
import Derived.Test.YtghjbimijeinfaaGreatDoorV40
import Derived.Test.YtghjbimijeinfaaGreatDoorV41
set_option maxHeartbeats 4000000
set_option maxRecDepth 100000
set_option linter.all false
namespace Go.Proofs.YtghjbimijeinfaaGreatDoor
open Go.ChangeShapes Go.WideShapes Go.ChangeAt Go.RowKit
theorem reveals_card:Rows.DisputeRevealsCardSaid :=
 Claim7.holds_tied_plain_at .later [] [.data,.data] true _ false
  xy (λ _ h=>by cases h) (by kernel_rfl) (λ _ h=>by cases h) disputeReveals_row_tie rfl ⟨rfl,rfl⟩ (by kernel_rfl) rfl
  (λ f fn hf hfn=>by
   obtain rfl:f=4:=Option.some.inj (ux.symm.trans hf) |>.symm;obtain rfl:fn=Tryz.f4:=(Option.some.inj (Tryz.func4.symm.trans hfn)).symm;exact⟨Cy,λ j t ht=>by
    rw[Tryz.params4] at ht;have h3:t=3 \/ t=22:=by
     rcases j with _|_|_|_|_|j <;> simp at ht <;> simp[ht.symm]
    rcases h3 with rfl|rfl
    ·exact(show Tryz.prog.wantsStandIn 3=false by kernel_rfl)
    ·exact(show Tryz.prog.wantsStandIn 22=false by kernel_rfl)⟩)
  xz
end Go.Proofs.YtghjbimijeinfaaGreatDoor
