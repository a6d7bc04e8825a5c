import Derived.Test.YtdppjkjbghbnjaaGreatDoorY29
import Derived.Test.YtdppjkjbghbnjaaGreatDoorY30
import Derived.Test.YtdppjkjbghbnjaaGreatDoorY31
set_option maxHeartbeats 4000000
set_option maxRecDepth 100000
set_option linter.all false
namespace Go.Proofs.YtdppjkjbghbnjaaGreatDoor
open Go.ChangeShapes Go.WideShapes Go.ChangeAt Go.RowKit
theorem work_card:Rows.PeerWorkCardSaid :=
 Claim7.holds_tied_plain_at .later [] [.data,.data] true _ false
  HF (λ _ h=>by cases h) (by kernel_rfl) (λ _ h=>by cases h) peerWork_row_tie rfl ⟨rfl,rfl⟩ (by kernel_rfl) rfl
  (λ f fn hf Yc=>by
   obtain rfl:f=4:=Option.some.inj (DF.symm.trans hf) |>.symm;obtain rfl:fn=Tryz.f4:=(Option.some.inj (Tryz.func4.symm.trans Yc)).symm;exact⟨kj,λ j t ht=>by
    rw[Tryz.params4] at ht;have h3:t=3 \/ t=22:=by
     rcases j with _|_|_|_|_|j <;> simp at ht <;> simp[ht.symm]
    rcases h3 with rfl|rfl
    ·exact(show Tryz.prog.wantsStandIn 3=false by kernel_rfl)
    ·exact(show Tryz.prog.wantsStandIn 22=false by kernel_rfl)⟩)
  HG
end Go.Proofs.YtdppjkjbghbnjaaGreatDoor
