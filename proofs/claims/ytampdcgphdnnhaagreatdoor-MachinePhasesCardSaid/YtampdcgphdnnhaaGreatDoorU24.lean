/- Contracts, printed by a program. -/
import Derived.Test.YtampdcgphdnnhaaGreatDoorU22
namespace Go.Proofs.YtampdcgphdnnhaaGreatDoor
set_option linter.unusedSimpArgs false
set_option linter.unusedVariables false
open Go.RowKit
def afterV (pos vel : V2) (k : Int) : V2 := vadd pos (vmuldiv vel k 8)
def touchE (a : Shp) (pa va : V2) (b : Shp) (pb vb : V2) (k : Int) : Bool := (collideS a (afterV pa va k) b (afterV pb vb k)).2
def earlL (a : Shp) (pa va : V2) (b : Shp) (pb vb : V2) : Nat → Nat → Int
  | 0, _ => 1024
  | n + 1, k => if touchE a pa va b pb vb ((k : Int) + 1) = true then ((k : Int) * 1024) / 8 else earlL a pa va b pb vb n (k + 1)
def earlS (a : Shp) (pa va : V2) (b : Shp) (pb vb : V2) : Int := if touchE a pa va b pb vb 0 = true then 1024 else earlL a pa va b pb vb 8 0

set_option maxHeartbeats 400000 in
set_option maxRecDepth 100000 in
theorem after_any (pos : V2) (vel : V2) (k : Int)  (F : HL) : Sp Tryz.prog 139 #[.agg #[vI pos.x, vI pos.y], .agg #[vI vel.x, vI vel.y], vI k] [] F (fun u H' => u = .agg #[vI ((afterV pos vel k).x), vI ((afterV pos vel k).y)] ∧ H' = []) := by
  refine Sp.run Tryz.func139 rfl mn (A := []) (Ts := []) rfl fun w0 => ?_
  refine RN.go 8 [] fun n1 => RN.draw [5] [] <| RD.go [] [0, 1, 2] [.own 2, .own 2, .own 1, .own 1] <| RD.cp [] 3 (fun X_ => (vmuldiv_any vel k 8  _)) <| RD.cp [] 4 (fun X_ => (vadd_any pos (vmuldiv vel k 8)  _)) <| RD.one 5 (RDO.ev [] [.own 0, .own 0] fun _ => ?_)
  refine RD.fin <| RN.go 1 [] fun _ => ?_
  exact RN.ret [.own 0, .own 0] [] [] ⟨rfl, rfl⟩

set_option maxHeartbeats 400000 in
set_option maxRecDepth 100000 in
theorem earl1_any (a : Shp) (pa va : V2) (b : Shp) (pb vb : V2) (k : Int) (q1 q2 q3 q4 q5 q6 : Nat) (F : HL) (ha : ShIn F a) (hb : ShIn F b) (hq1 : (q1, .lit [vI a.r, .slice a.A a.poly.length a.cap] 71 (0, 0)) ∈ F) (hq2 : (q2, .lit [vI pa.x, vI pa.y] 29 (0, 0)) ∈ F) (hq3 : (q3, .lit [vI va.x, vI va.y] 29 (0, 0)) ∈ F) (hq4 : (q4, .lit [vI b.r, .slice b.A b.poly.length b.cap] 71 (0, 0)) ∈ F) (hq5 : (q5, .lit [vI pb.x, vI pb.y] 29 (0, 0)) ∈ F) (hq6 : (q6, .lit [vI vb.x, vI vb.y] 29 (0, 0)) ∈ F) : Sp Tryz.prog 138 #[vI k, vP q1 0, vP q2 0, vP q3 0, vP q4 0, vP q5 0, vP q6 0] [] F (fun u H' => u = .bool (touchE a pa va b pb vb k) ∧ H' = []) := by
  refine Sp.run Tryz.func138 rfl (mc hq1 (mc hq2 (mc hq3 (mc hq4 (mc hq5 (mc hq6 mn)))))) (A := []) (Ts := []) rfl fun w0 => ?_
  refine RN.go 6 [] fun _ => RN.draw [15] [] <| RD.go [] [0, 1, 2, 3, 5, 6, 7, 8] [.ro 0, .ro 0, .ro 1, .ro 1, .ro 2, .ro 2, .ro 3, .ro 3, .ro 4, .ro 4, .ro 5, .ro 5] <| RD.cp [] 4 (fun X_ => (after_any pa va k  _)) <| RD.cp [] 9 (fun X_ => (after_any pb vb k  _)) <| RD.cp [] 10 (fun X_ => (collide_any a (afterV pa va k) b (afterV pb vb k) _ (ha.up.up) (hb.up.up))) <| RD.go [] [11, 12, 13] [] <| RD.one 14 (RDO.ev [] [] fun n2 => ?_)
  refine RD.one 15 (RDO.ev [] [.own 0, .own 0, .own 0] fun _ => ?_)
  refine RD.go [] [16] [] <| RD.fin <| RN.go 7 [] fun _ => ?_
  exact RN.ret [] [] [] ⟨rfl, rfl⟩

set_option maxHeartbeats 400000 in
set_option maxRecDepth 100000 in
theorem earliest_any (a : Shp) (pa va : V2) (b : Shp) (pb vb : V2) (F : HL) (ha : ShIn F a) (hb : ShIn F b) : Sp Tryz.prog 89 #[.agg #[vI a.r, .slice a.A a.poly.length a.cap], .agg #[vI pa.x, vI pa.y], .agg #[vI va.x, vI va.y], .agg #[vI b.r, .slice b.A b.poly.length b.cap], .agg #[vI pb.x, vI pb.y], .agg #[vI vb.x, vI vb.y]] [] F (fun u H' => u = vI (earlS a pa va b pb vb) ∧ H' = []) := by
  refine Sp.run Tryz.func89 rfl mn (A := []) (Ts := []) rfl fun w0 => ?_
  refine RN.go 21 [] fun n1 => RN.cp (earl1_any a pa va b pb vb 0 (n1 + 0) (n1 + 1) (n1 + 2) (n1 + 3) (n1 + 4) (n1 + 5) _ ha.up hb.up (in_ap 5) (in_ap 4) (in_ap 3) (in_ap 2) (in_ap 1) (in_ap 0)) <| RN.go 2 [] fun _ => RN.eb (touchE a pa va b pb vb 0) 17 (fun h2 => ?_) fun h2 => ?_
  · refine RN.go 6 [] fun _ => RN.ret [] [] [] (v := vI 1024) (H' := []) ?_
    exact ⟨by rw [earlS, if_pos h2], rfl⟩
  · refine RN.go 10 [] fun _ => RN.loop (σ := Nat) (fun n => ⟨[(13, .func (.func 138) #[] #[vP (n1 + 0) 0, vP (n1 + 1) 0, vP (n1 + 2) 0, vP (n1 + 3) 0, vP (n1 + 4) 0, vP (n1 + 5) 0]), (18, vI (n : Int))], [((n1 + 5), .lit [vI vb.x, vI vb.y] 29 (0, 0)), ((n1 + 4), .lit [vI pb.x, vI pb.y] 29 (0, 0)), ((n1 + 3), .lit [vI b.r, .slice b.A b.poly.length b.cap] 71 (0, 0)), ((n1 + 2), .lit [vI va.x, vI va.y] 29 (0, 0)), ((n1 + 1), .lit [vI pa.x, vI pa.y] 29 (0, 0)), ((n1 + 0), .lit [vI a.r, .slice a.A a.poly.length a.cap] 71 (0, 0))], [], n ≤ 8 ∧ earlL a pa va b pb vb (8 - n) n = earlL a pa va b pb vb 8 0, 8 - n⟩) 0 [0, 1, 2, 3, 4, 5] [] (⟨Nat.zero_le _, rfl⟩) ?_
    rintro n ⟨hn_, hE_⟩ mt4
    refine RN.go 6 [] fun _ => RN.em ((n : Int) < 8) 19 (fun h5 => ?_) fun h5 => ?_
    · refine RN.goP 16 [.nw] [I64 ((n : Int) + 1)] fun _ => RN.cp (earl1_any a pa va b pb vb ((n : Int) + 1) (n1 + 0) (n1 + 1) (n1 + 2) (n1 + 3) (n1 + 4) (n1 + 5) _ ha.up hb.up (in_ap 5) (in_ap 4) (in_ap 3) (in_ap 2) (in_ap 1) (in_ap 0)) <| RN.go 2 [] fun _ => RN.eb (touchE a pa va b pb vb ((n : Int) + 1)) 24 (fun h6 => ?_) fun h6 => ?_
      · refine RN.goP 9 [.nw, .nw] [0 ≤ (n : Int) * 1024 ∧ (0 : Int) < 8 ∧ (n : Int) * 1024 ≤ 9223372036854775807, I64 ((n : Int) * 1024)] fun _ => RN.ret [] [] [] (v := vI (((n : Int) * 1024) / 8)) (H' := []) ?_
        refine ⟨?_, rfl⟩
        rw [earlS, if_neg h2, ← hE_]
        rw [show 8 - n = (8 - (n + 1)) + 1 by omega, earlL, if_pos h6]
      · refine RN.goP 8 [.nw] [I64 ((n : Int) + 1)] fun _ => ?_
        refine mt4 (n + 1) [0, 1, 2, 3, 4, 5] [] ?_
        try dsimp only
        refine ⟨⟨by omega, ?_⟩, by omega⟩
        rw [← hE_, show 8 - n = (8 - (n + 1)) + 1 by omega, earlL, if_neg h6]
    · refine RN.go 11 [] fun _ => RN.ret [] [] [] (v := vI 1024) (H' := []) ?_
      refine ⟨?_, rfl⟩
      rw [earlS, if_neg h2, ← hE_]
      rw [show 8 - n = 0 by omega, earlL]
end Go.Proofs.YtampdcgphdnnhaaGreatDoor
