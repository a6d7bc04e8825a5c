import Derived.Test.YtdppjkjbghbnjaaGreatDoorY57
import Derived.Test.YtdppjkjbghbnjaaGreatDoorY58
import Derived.Test.YtdppjkjbghbnjaaGreatDoorY59
set_option maxHeartbeats 4000000
set_option maxRecDepth 100000
set_option linter.all false
namespace Go.Proofs.YtdppjkjbghbnjaaGreatDoor
open Go.ChangeShapes Go.WideShapes Go.ChangeAt Go.RowKit
theorem sched_card:Rows.PeerSchedulesCardSaid :=
 Claim7.holds_tied_plain_at .later [] [.data,.data] true _ false
  DJ (λ _ h=>by cases h) (by kernel_rfl) (λ _ h=>by cases h) peerSchedules_row_tie rfl ⟨rfl,rfl⟩ (by kernel_rfl) rfl
  (λ f fn hf Yc=>by
   obtain rfl:f=5:=Option.some.inj (B0.symm.trans hf) |>.symm;obtain rfl:fn=Tryz.f5:=(Option.some.inj (Tryz.func5.symm.trans Yc)).symm;exact⟨kj,λ j t ht=>by
    rw[Tryz.params5] at ht;have h3:t=3 \/ t=55 \/ t=22:=by
     rcases j with _|_|_|_|_|_|j <;> simp at ht <;> simp[ht.symm]
    rcases h3 with rfl|rfl|rfl
    ·exact(show Tryz.prog.wantsStandIn 3=false by kernel_rfl)
    ·exact(show Tryz.prog.wantsStandIn 55=false by kernel_rfl)
    ·exact(show Tryz.prog.wantsStandIn 22=false by kernel_rfl)⟩)
  DL
end Go.Proofs.YtdppjkjbghbnjaaGreatDoor
