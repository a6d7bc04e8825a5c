/- PeerErrors: the arG. -/
import Derived.Test.YtogafelgppjklaaGreatDoorQ11
import Derived.Test.YtogafelgppjklaaGreatDoorTie
import Derived.Test.YtogafelgppjklaaGreatDoorCards
import Derived.SevenTiedAt
set_option maxHeartbeats 4000000
set_option maxRecDepth 100000
set_option linter.all false
namespace Go.Proofs.YtogafelgppjklaaGreatDoor
open Go.ChangeShapes Go.WideShapes Go.ChangeAt Go.RowKit
theorem perrs_card:Rows.PeerErrorsCardSaid :=
 Claim7.holds_tied_plain_at .later [] [.data,.data] true _ false
  CD (λ _ h=>by cases h) (by kernel_rfl) (λ _ h=>by cases h) peerErrors_row_tie rfl ⟨rfl,rfl⟩ (by kernel_rfl) rfl
  (λ f fn hf hfn=>by
   obtain rfl:f=3:=abL (Au.symm.trans hf) |>.symm
   obtain rfl:fn=Tryz.f3:=(abL (Tryz.func3.symm.trans hfn)).symm
   exact⟨CF,λ j t ht=>by
    rw[Tryz.params3] at ht
    have h3:t=3\/t=25\/t=22\/t=24:=by
     rcases j with _|_|_|_|_|_|j <;> simp at ht <;> simp[ht.symm]
    rcases h3 with rfl|rfl|rfl|rfl
    ·exact(show Tryz.prog.wantsStandIn 3=false by kernel_rfl)
    ·exact(show Tryz.prog.wantsStandIn 25=false by kernel_rfl)
    ·exact(show Tryz.prog.wantsStandIn 22=false by kernel_rfl)
    ·exact(show Tryz.prog.wantsStandIn 24=false by kernel_rfl)⟩)
  CE
#print axioms perrs_card
end Go.Proofs.YtogafelgppjklaaGreatDoor
