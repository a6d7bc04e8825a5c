import Derived.Test.YtdppjkjbghbnjaaGreatDoorY12
set_option maxHeartbeats 4000000
set_option maxRecDepth 100000
set_option linter.all false
namespace Go.Proofs.YtdppjkjbghbnjaaGreatDoor
open Go.RowKit
section
variable {rs_:List Bx} {ds_:List Dr} {bp pp pl me w:Nat} {S:Setup} {J:Nat -> Nat × Int} {P:PS (List Inp)} {kv:List (Int × Value × Nat)} {c sn:Nat} {X:Option (Rw × List Inp)} {G F:HL}
theorem cy (h:PeerR rs_ ds_ bp pp pl me w S J P kv c sn X G) (hF:∀ x ∈ G,x ∈ F):Sp Tryz.prog 19 #[vP pp 0] [] F (λ u H'=>u=vI (P.rows.length:Int) /\ H'=[]):=by
 cases h with
 | mk q1_ q2_ q3_ q4_ q5_ hse_ hg=>rw [q1_];exact eI _ _ _ _ _ _ _ _ _ _ _ _ _ _ _ _ _ _ _ F (hF _ (List.mem_append_left _ List.mem_cons_self))
end
end Go.Proofs.YtdppjkjbghbnjaaGreatDoor
