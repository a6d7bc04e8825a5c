import Derived.Test.YtdppjkjbghbnjaaGreatDoorD26
import Derived.Test.YtdppjkjbghbnjaaGreatDoorD27
import Derived.Test.YtdppjkjbghbnjaaGreatDoorD28
import Derived.Test.YtdppjkjbghbnjaaGreatDoorD29
set_option maxHeartbeats 4000000
set_option maxRecDepth 100000
set_option linter.all false
namespace Go.Proofs.YtdppjkjbghbnjaaGreatDoor
open Go.ChangeShapes Go.WideShapes Go.ChangeAt Go.RowKit
theorem final_card:Rows.PeerFinalCardSaid :=
 Claim7.holds_tied_plain_at .later [] [.data,.data] true _ false
  Bj (λ _ h=>by cases h) (by kernel_rfl) (λ _ h=>by cases h) peerFinal_row_tie rfl ⟨rfl,rfl⟩ (by kernel_rfl) rfl
  (λ f fn hf YR=>by
   obtain rfl:f=7:=Option.some.inj (ze.symm.trans hf) |>.symm;obtain rfl:fn=Tryz.f7:=(Option.some.inj (Tryz.func7.symm.trans YR)).symm;exact⟨Bl,λ j t ht=>by
    rw[Tryz.params7] at ht;have h3:t=3 \/ t=55 \/ t=22:=by
     rcases j with _|_|_|_|_|_|j <;> simp at ht <;> simp[ht.symm]
    rcases h3 with rfl|rfl|rfl
    ·exact(show Tryz.prog.wantsStandIn 3=false by kernel_rfl)
    ·exact(show Tryz.prog.wantsStandIn 55=false by kernel_rfl)
    ·exact(show Tryz.prog.wantsStandIn 22=false by kernel_rfl)⟩)
  Bk
end Go.Proofs.YtdppjkjbghbnjaaGreatDoor
