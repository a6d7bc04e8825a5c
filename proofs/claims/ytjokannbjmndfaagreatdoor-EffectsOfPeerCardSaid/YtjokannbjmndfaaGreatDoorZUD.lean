/- EffectsOfPeer: the apn. -/
import Derived.Test.YtjokannbjmndfaaGreatDoorZ47
import Derived.Test.YtjokannbjmndfaaGreatDoorTie
import Derived.Test.YtjokannbjmndfaaGreatDoorCards
import Derived.SevenTiedAt
set_option linter.all false
set_option maxHeartbeats 4000000
set_option maxRecDepth 100000
namespace Go.Proofs.YtjokannbjmndfaaGreatDoor
open Go.ChangeShapes Go.WideShapes Go.ChangeAt Go.RowKit
theorem eop_card:Rows.EffectsOfPeerCardSaid :=
 Claim7.holds_tied_plain_at .later [] [.data,.data] true _ false
  Lv (λ _ h=>by cases h) (by kernel_rfl) (λ _ h=>by cases h) effectsOfPeer_row_tie rfl ⟨rfl,rfl⟩ (by kernel_rfl) rfl
  (λ f fn hf hfn=>by
   obtain rfl:f=3:=ab8 (GN.symm.trans hf) |>.symm
   obtain rfl:fn=Tryz.f3:=(ab8 (Tryz.func3.symm.trans hfn)).symm
   exact⟨CE,λ j t ht=>by
    rw[Tryz.params3] at ht
    have h3:t=23\/t=22:=by
     rcases j with _|_|_|_|j <;> simp at ht <;> simp[ht.symm]
    rcases h3 with rfl|rfl
    ·exact(show Tryz.prog.wantsStandIn 23=false by kernel_rfl)
    ·exact(show Tryz.prog.wantsStandIn 22=false by kernel_rfl)⟩)
  Lw
#print axioms eop_card
end Go.Proofs.YtjokannbjmndfaaGreatDoor
