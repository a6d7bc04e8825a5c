import Derived.Test.YtdppjkjbghbnjaaGreatDoorC26
import Derived.Test.YtdppjkjbghbnjaaGreatDoorC27
import Derived.Test.YtdppjkjbghbnjaaGreatDoorC28
import Derived.Test.YtdppjkjbghbnjaaGreatDoorC29
set_option maxHeartbeats 4000000
set_option maxRecDepth 100000
set_option linter.all false
namespace Go.Proofs.YtdppjkjbghbnjaaGreatDoor
open Go.ChangeShapes Go.WideShapes Go.ChangeAt Go.RowKit
theorem rpeer_card:Rows.ReplayPeerCardSaid :=
 Claim7.holds_tied_plain_at .later [] [.data,.data] true _ false
  BD (λ _ h=>by cases h) (by kernel_rfl) (λ _ h=>by cases h) replayPeer_row_tie rfl ⟨rfl,rfl⟩ (by kernel_rfl) rfl
  (λ f fn hf ZM=>by
   obtain rfl:f=9:=Option.some.inj (zq.symm.trans hf) |>.symm;obtain rfl:fn=Tryz.f9:=(Option.some.inj (Tryz.func9.symm.trans ZM)).symm;exact⟨BF,λ j t ht=>by
    rw[Tryz.params9] at ht;have h3:t=3 \/ t=22:=by
     rcases j with _|_|_|_|_|j <;> simp at ht <;> simp[ht.symm]
    rcases h3 with rfl|rfl
    ·exact(show Tryz.prog.wantsStandIn 3=false by kernel_rfl)
    ·exact(show Tryz.prog.wantsStandIn 22=false by kernel_rfl)⟩)
  BE
end Go.Proofs.YtdppjkjbghbnjaaGreatDoor
