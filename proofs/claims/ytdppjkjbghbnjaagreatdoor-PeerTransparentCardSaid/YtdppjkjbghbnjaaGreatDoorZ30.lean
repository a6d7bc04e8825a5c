import Derived.Test.YtdppjkjbghbnjaaGreatDoorZ26
import Derived.Test.YtdppjkjbghbnjaaGreatDoorZ27
import Derived.Test.YtdppjkjbghbnjaaGreatDoorZ28
import Derived.Test.YtdppjkjbghbnjaaGreatDoorZ29
set_option maxHeartbeats 4000000
set_option maxRecDepth 100000
set_option linter.all false
namespace Go.Proofs.YtdppjkjbghbnjaaGreatDoor
open Go.ChangeShapes Go.WideShapes Go.ChangeAt Go.RowKit
theorem ptrans_card:Rows.PeerTransparentCardSaid :=
 Claim7.holds_tied_plain_at .later [] [.data,.data] true _ false
  zr (λ _ h=>by cases h) (by kernel_rfl) (λ _ h=>by cases h) peerTransparent_row_tie rfl ⟨rfl,rfl⟩ (by kernel_rfl) rfl
  (λ f fn hf ZG=>by
   obtain rfl:f=8:=Option.some.inj (wq.symm.trans hf) |>.symm;obtain rfl:fn=Tryz.f8:=(Option.some.inj (Tryz.func8.symm.trans ZG)).symm;exact⟨BE,λ j t ht=>by
    rw[Tryz.params8] at ht;have h3:t=3 \/ t=55 \/ t=22:=by
     rcases j with _|_|_|_|_|_|_|j <;> simp at ht <;> simp[ht.symm]
    rcases h3 with rfl|rfl|rfl
    ·exact(show Tryz.prog.wantsStandIn 3=false by kernel_rfl)
    ·exact(show Tryz.prog.wantsStandIn 55=false by kernel_rfl)
    ·exact(show Tryz.prog.wantsStandIn 22=false by kernel_rfl)⟩)
  zt
end Go.Proofs.YtdppjkjbghbnjaaGreatDoor
