/- MachineLocal: the card. -/
import Derived.Test.YtkhifpbokgabbaaGreatDoorW39
import Derived.Test.YtkhifpbokgabbaaGreatDoorTie
import Derived.Test.YtkhifpbokgabbaaGreatDoorCards
import Derived.SevenTiedAt
set_option maxHeartbeats 4000000
set_option maxRecDepth 100000
set_option linter.unusedSimpArgs false
set_option linter.unusedVariables false
namespace Go.Proofs.YtkhifpbokgabbaaGreatDoor
open Go.ChangeShapes Go.WideShapes Go.ChangeAt Go.RowKit
theorem local_card:Rows.MachineLocalCardSaid :=
  Claim7.holds_tied_plain_at .later [] [.data,.data] true _ false
    local_over (λ _ h=>by cases h) (by kernel_rfl) (λ _ h=>by cases h) machineLocal_row_tie rfl ⟨rfl,rfl⟩ (by kernel_rfl) rfl
    (λ f fn hf hfn=>by
      obtain rfl:f=3:=Option.some.inj (local_fname.symm.trans hf) |>.symm
      obtain rfl:fn=Tryz.f3:=(Option.some.inj (Tryz.func3.symm.trans hfn)).symm
      exact ⟨prog_looks,λ j t ht=>by
        rw [Tryz.params3] at ht
        have h3:t=3 \/ t=22:=by
          rcases j with _ | _ | _ | _ | j <;> simp at ht <;> simp [ht.symm]
        rcases h3 with rfl | rfl
        · exact (show Tryz.prog.wantsStandIn 3=false by kernel_rfl)
        · exact (show Tryz.prog.wantsStandIn 22=false by kernel_rfl)⟩)
    local_goes
#print axioms local_card
end Go.Proofs.YtkhifpbokgabbaaGreatDoor
