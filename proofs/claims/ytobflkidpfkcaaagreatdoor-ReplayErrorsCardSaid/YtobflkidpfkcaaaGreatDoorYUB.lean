/- ReplayErrors: the card. -/
import Derived.Test.YtobflkidpfkcaaaGreatDoorY29
import Derived.Test.YtobflkidpfkcaaaGreatDoorTie
import Derived.Test.YtobflkidpfkcaaaGreatDoorCards
import Derived.SevenTiedAt
set_option maxHeartbeats 4000000
set_option maxRecDepth 100000
set_option linter.unusedSimpArgs false
set_option linter.unusedVariables false
namespace Go.Proofs.YtobflkidpfkcaaaGreatDoor
open Go.ChangeShapes Go.WideShapes Go.ChangeAt Go.RowKit
theorem err32_card:Rows.ReplayErrorsCardSaid :=
 Claim7.holds_tied_plain_at .later [] [.data,.data,.data] true _ false
  zt (λ _ h=>by cases h) (by kernel_rfl) (λ _ h=>by cases h) replayErrors_row_tie rfl ⟨rfl,rfl⟩ (by kernel_rfl) rfl
  (λ f fn hf hfn=>by
   obtain rfl:f=3:=Option.some.inj (xz.symm.trans hf) |>.symm
   obtain rfl:fn=Tryz.f3:=(Option.some.inj (Tryz.func3.symm.trans hfn)).symm
   exact ⟨zw,λ j t ht=>by
    rw [Tryz.params3] at ht
    have h3:t=3 \/ t=23 \/ t=22:=by
     rcases j with _ | _ | _ | j <;> simp at ht <;> simp [ht.symm]
    rcases h3 with rfl | rfl | rfl
    ·exact (show Tryz.prog.wantsStandIn 3=false by kernel_rfl)
    ·exact (show Tryz.prog.wantsStandIn 23=false by kernel_rfl)
    ·exact (show Tryz.prog.wantsStandIn 22=false by kernel_rfl)⟩)
  zu
#print axioms err32_card
end Go.Proofs.YtobflkidpfkcaaaGreatDoor
