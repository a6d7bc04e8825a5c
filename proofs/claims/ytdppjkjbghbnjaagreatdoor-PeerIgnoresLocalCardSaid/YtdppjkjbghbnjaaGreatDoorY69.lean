import Derived.Test.YtdppjkjbghbnjaaGreatDoorY66
import Derived.Test.YtdppjkjbghbnjaaGreatDoorY67
import Derived.Test.YtdppjkjbghbnjaaGreatDoorY68
set_option maxHeartbeats 4000000
set_option maxRecDepth 100000
set_option linter.all false
namespace Go.Proofs.YtdppjkjbghbnjaaGreatDoor
open Go.ChangeShapes Go.WideShapes Go.ChangeAt Go.RowKit
theorem plocal_card:Rows.PeerIgnoresLocalCardSaid :=
 Claim7.holds_tied_plain_at .later [] [.data,.data] true _ false
  B1 (λ _ h=>by cases h) (by kernel_rfl) (λ _ h=>by cases h) peerIgnoresLocal_row_tie rfl ⟨rfl,rfl⟩ (by kernel_rfl) rfl
  (λ f fn hf Yc=>by
   obtain rfl:f=6:=Option.some.inj (yT.symm.trans hf) |>.symm;obtain rfl:fn=Tryz.f6:=(Option.some.inj (Tryz.func6.symm.trans Yc)).symm;exact⟨kj,λ j t ht=>by
    rw[Tryz.params6] at ht;have h3:t=3 \/ t=22:=by
     rcases j with _|_|_|_|_|j <;> simp at ht <;> simp[ht.symm]
    rcases h3 with rfl|rfl
    ·exact(show Tryz.prog.wantsStandIn 3=false by kernel_rfl)
    ·exact(show Tryz.prog.wantsStandIn 22=false by kernel_rfl)⟩)
  B2
end Go.Proofs.YtdppjkjbghbnjaaGreatDoor
