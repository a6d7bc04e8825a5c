/- EngineGame: the card. -/
import Derived.Test.YthoijjeddhfcnaaGreatDoorZ39
import Derived.Test.YthoijjeddhfcnaaGreatDoorTie
import Derived.Test.YthoijjeddhfcnaaGreatDoorCards
import Derived.SevenTiedAt
set_option maxHeartbeats 4000000
set_option maxRecDepth 100000
set_option linter.unusedSimpArgs false
set_option linter.unusedVariables false
namespace Go.Proofs.YthoijjeddhfcnaaGreatDoor
open Go.ChangeShapes Go.WideShapes Go.ChangeAt Go.RowKit
theorem engg_card:Rows.EngineGameCardSaid :=
 Claim7.holds_tied_plain_at .later [] [.data,.data] true _ false
  C7 (λ _ h=>by cases h) (by kernel_rfl) (λ _ h=>by cases h) engineGame_row_tie rfl ⟨rfl,rfl⟩ (by kernel_rfl) rfl
  (λ f fn hf VQ=>by
   obtain rfl:f=3:=Option.some.inj (zh.symm.trans hf) |>.symm
   obtain rfl:fn=Tryz.f3:=(Option.some.inj (Tryz.func3.symm.trans VQ)).symm
   exact⟨prog_looks,λ j t ht=>by
    rw[Tryz.params3] at ht
    have h3:t=3 \/ t=22:=by
     rcases j with _|_|_|_|j <;> simp at ht <;> simp[ht.symm]
    rcases h3 with rfl|rfl
    ·exact(show Tryz.prog.wantsStandIn 3=false by kernel_rfl)
    ·exact(show Tryz.prog.wantsStandIn 22=false by kernel_rfl)⟩)
  C8
#print axioms engg_card
end Go.Proofs.YthoijjeddhfcnaaGreatDoor
