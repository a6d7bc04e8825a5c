/- Contracts, printed by a program. -/
import Derived.Test.YtpkincoclhpcgaaGreatDoorKc
namespace Go.Proofs.YtpkincoclhpcgaaGreatDoor
set_option linter.unusedSimpArgs false
set_option linter.unusedVariables false
open Go.RowKit
def afterV (pos vel : V2) (k : Int) : V2 := vadd pos (vmuldiv vel k 8)
def touchE (a : Shp) (pa va : V2) (b : Shp) (pb vb : V2) (k : Int) : Bool := (collideS a (afterV pa va k) b (afterV pb vb k)).2
def earlL (a : Shp) (pa va : V2) (b : Shp) (pb vb : V2) : Nat → Nat → Int
  | 0, _ => 1024
  | n + 1, k => if touchE a pa va b pb vb ((k : Int) + 1) = true then ((k : Int) * 1024) / 8 else earlL a pa va b pb vb n (k + 1)
def earlS (a : Shp) (pa va : V2) (b : Shp) (pb vb : V2) : Int := if touchE a pa va b pb vb 0 = true then 1024 else earlL a pa va b pb vb 8 0

set_option maxHeartbeats 400000 in
set_option maxRecDepth 100000 in
theorem after_any (pos : V2) (vel : V2) (k : Int)  (F : HL) : Sp Tryz.prog 81 #[.agg #[vI pos.x, vI pos.y], .agg #[vI vel.x, vI vel.y], vI k] [] F (fun u H' => u = .agg #[vI ((afterV pos vel k).x), vI ((afterV pos vel k).y)] ∧ H' = []) := by
  refine Sp.of_body Tryz.func81 rfl rfl rfl [(0, .agg #[vI pos.x, vI pos.y]), (1, .agg #[vI vel.x, vI vel.y]), (2, vI k)] rfl ?_
  intro w0
  refine TR.convH (ap [] []) rfl ?_
  refine TR.seq ?_
  refine TR.reg ?_
  refine TL.seg 3 [] [] [2, 3, 4, 6] (fun n1 => [(2, vI k), (3, vP (n1 + 0) 0), (4, vP (n1 + 1) 0), (6, vP (n1 + 2) 0)]) (fun n1 => (ap [((n1 + 2), .lit [vI 0, vI 0] 30 (0, 0)), ((n1 + 1), .lit [vI vel.x, vI vel.y] 30 (0, 0)), ((n1 + 0), .lit [vI pos.x, vI pos.y] 30 (0, 0))] [])) (fun n1 => []) (fun n1 => []) (fun _ => by kernel_rfl) mn (fun n1 => an) ?_
  intro n1
  refine TL.fin (by kernel_rfl) ?_
  refine EX.next ?_
  refine TR.seq ?_
  refine TR.draw [5] [] rfl (by kernel_rfl) ?_
  let z1 : Nat × Value := (6, vP (n1 + 2) 0)
  let z2 : Nat × Value := (7, .agg #[vI pos.x, vI pos.y])
  refine TD.vals [] (by kernel_rfl) [0, 1, 2] [] [.own 2, .own 2, .own 1, .own 1] [6, 7, 8, 9] [true, true, true, false, false, false] [z1, z2, (8, .agg #[vI vel.x, vI vel.y]), (9, vI k)] [(n1 + 1), (n1 + 1), (n1 + 0), (n1 + 0)] [] (by kernel_rfl) (by kernel_rfl) mn an 3 rfl ?_
  refine TD.callv [] (by kernel_rfl) 3 [] [] (dst := (some 10)) (f := 62) (args := #[.agg #[vI vel.x, vI vel.y], vI k, vI 8]) (E := []) (Ob := []) [6, 7, 10] (.agg #[vI ((vmuldiv vel k 8).x), vI ((vmuldiv vel k 8).y)]) [z1, z2, (10, .agg #[vI ((vmuldiv vel k 8).x), vI ((vmuldiv vel k 8).y)])] (by kernel_rfl) (by kernel_rfl) (by kernel_rfl) mn an (fun X_ => (vmuldiv_any vel k 8  _)) (by kernel_rfl) 2 rfl ?_
  refine TD.callv [] (by kernel_rfl) 4 [] [] (dst := (some 11)) (f := 23) (args := #[.agg #[vI pos.x, vI pos.y], .agg #[vI ((vmuldiv vel k 8).x), vI ((vmuldiv vel k 8).y)]]) (E := []) (Ob := []) [6, 11] (.agg #[vI ((vadd pos (vmuldiv vel k 8)).x), vI ((vadd pos (vmuldiv vel k 8)).y)]) [z1, (11, .agg #[vI ((vadd pos (vmuldiv vel k 8)).x), vI ((vadd pos (vmuldiv vel k 8)).y)])] (by kernel_rfl) (by kernel_rfl) (by kernel_rfl) mn an (fun X_ => (vadd_any pos (vmuldiv vel k 8)  _)) (by kernel_rfl) 1 rfl ?_
  refine TD.one 5 (by kernel_rfl) 0 rfl fun a_ hF_ hcl_ => ?_
  let z3 : Nat × Blk := ((n1 + 2), .lit [vI ((vadd pos (vmuldiv vel k 8)).x), vI ((vadd pos (vmuldiv vel k 8)).y)] 30 (0, 0))
  let z4 : Nat × Blk := ((n1 + 1), .lit [vI vel.x, vI vel.y] 30 (0, 0))
  let z5 : Nat × Blk := ((n1 + 0), .lit [vI pos.x, vI pos.y] 30 (0, 0))
  refine OPJ.ev [] [.own 0, .own 0] [6] (fun _ => [z1]) (fun _ => (ap [z3, z4, z5] [])) (fun _ => [(n1 + 2), (n1 + 2)]) (fun _ => []) (fun _ => by kernel_rfl) mn (fun _ => an) (.inl ⟨[], fun _ => by kernel_rfl⟩) (.inl (by decide)) (fun _ => ?_) hF_ hcl_
  refine TD.fin (by kernel_rfl) (EX.np ?_)
  refine EX.next ?_
  refine TR.ret (A := [z3, z4, z5]) (Ts := []) (by exact fun _ _ h => h) rfl rfl [] [.own 0, .own 0] (.agg #[vI ((vadd pos (vmuldiv vel k 8)).x), vI ((vadd pos (vmuldiv vel k 8)).y)]) [(n1 + 2), (n1 + 2)] [] (fun _ => by kernel_rfl) mn an [] [0, 1, 2] [] [] [] (by kernel_rfl) (by kernel_rfl) (by kernel_rfl) ?_
  exact ⟨rfl, rfl⟩

set_option maxHeartbeats 400000 in
set_option maxRecDepth 100000 in
theorem earl1_any (a : Shp) (pa va : V2) (b : Shp) (pb vb : V2) (k : Int) (q1 q2 q3 q4 q5 q6 : Nat) (F : HL) (ha : ShIn F a) (hb : ShIn F b) (hq1 : (q1, .lit [vI a.r, .slice a.A a.poly.length a.cap] 35 (0, 0)) ∈ F) (hq2 : (q2, .lit [vI pa.x, vI pa.y] 30 (0, 0)) ∈ F) (hq3 : (q3, .lit [vI va.x, vI va.y] 30 (0, 0)) ∈ F) (hq4 : (q4, .lit [vI b.r, .slice b.A b.poly.length b.cap] 35 (0, 0)) ∈ F) (hq5 : (q5, .lit [vI pb.x, vI pb.y] 30 (0, 0)) ∈ F) (hq6 : (q6, .lit [vI vb.x, vI vb.y] 30 (0, 0)) ∈ F) : Sp Tryz.prog 80 #[vI k, vP q1 0, vP q2 0, vP q3 0, vP q4 0, vP q5 0, vP q6 0] [] F (fun u H' => u = .bool (touchE a pa va b pb vb k) ∧ H' = []) := by
  refine Sp.of_body Tryz.func80 rfl rfl rfl [(0, vI k), (1, vP q1 0), (2, vP q2 0), (3, vP q3 0), (4, vP q4 0), (5, vP q5 0), (6, vP q6 0)] rfl ?_
  intro w0
  refine TR.convH (ap [] []) rfl ?_
  refine TR.seq ?_
  refine TR.reg ?_
  refine TL.seg0 1 [] [] [0, 1, 2, 3, 4, 5, 6] [(0, vI k), (1, vP q1 0), (2, vP q2 0), (3, vP q3 0), (4, vP q4 0), (5, vP q5 0), (6, vP q6 0)] (ap [] []) [] [] (fun _ => by kernel_rfl) mn an ?_
  refine TL.fin (by kernel_rfl) ?_
  refine EX.next ?_
  refine TR.seq ?_
  refine TR.draw [15] [] rfl (by kernel_rfl) ?_
  let z1 : Nat × Value := (12, .agg #[vI a.r, .slice a.A a.poly.length a.cap])
  let z2 : Nat × Value := (17, .agg #[vI b.r, .slice b.A b.poly.length b.cap])
  let z3 : Nat × Value := (18, .agg #[vI pb.x, vI pb.y])
  let z4 : Nat × Value := (19, .agg #[vI vb.x, vI vb.y])
  refine TD.vals [] (by kernel_rfl) [0, 1, 2, 3, 5, 6, 7, 8] [(q1, .lit [vI a.r, .slice a.A a.poly.length a.cap] 35 (0, 0)), (q2, .lit [vI pa.x, vI pa.y] 30 (0, 0)), (q3, .lit [vI va.x, vI va.y] 30 (0, 0)), (q4, .lit [vI b.r, .slice b.A b.poly.length b.cap] 35 (0, 0)), (q5, .lit [vI pb.x, vI pb.y] 30 (0, 0)), (q6, .lit [vI vb.x, vI vb.y] 30 (0, 0))] [.ro 0, .ro 0, .ro 1, .ro 1, .ro 2, .ro 2, .ro 3, .ro 3, .ro 4, .ro 4, .ro 5, .ro 5] [12, 13, 14, 15, 17, 18, 19, 20] [true, true, true, true, false, true, true, true, true, false, false, false, false, false, false, false, false] [z1, (13, .agg #[vI pa.x, vI pa.y]), (14, .agg #[vI va.x, vI va.y]), (15, vI k), z2, z3, z4, (20, vI k)] [q6, q6, q5, q5, q4, q4, q3, q3, q2, q2, q1, q1] [] (by kernel_rfl) (by kernel_rfl) (mc hq1 (mc hq2 (mc hq3 (mc hq4 (mc hq5 (mc hq6 mn)))))) an 9 rfl ?_
  let z5 := afterV pa va k
  let z6 : Nat × Value := (16, .agg #[vI (z5.x), vI (z5.y)])
  refine TD.callv [] (by kernel_rfl) 4 [] [] (dst := (some 16)) (f := 81) (args := #[.agg #[vI pa.x, vI pa.y], .agg #[vI va.x, vI va.y], vI k]) (E := []) (Ob := []) [12, 16, 17, 18, 19, 20] (.agg #[vI (z5.x), vI (z5.y)]) [z1, z6, z2, z3, z4, (20, vI k)] (by kernel_rfl) (by kernel_rfl) (by kernel_rfl) mn an (fun X_ => (after_any pa va k  _)) (by kernel_rfl) 8 rfl ?_
  let z7 := afterV pb vb k
  refine TD.callv [] (by kernel_rfl) 9 [] [] (dst := (some 21)) (f := 81) (args := #[.agg #[vI pb.x, vI pb.y], .agg #[vI vb.x, vI vb.y], vI k]) (E := []) (Ob := []) [12, 16, 17, 21] (.agg #[vI (z7.x), vI (z7.y)]) [z1, z6, z2, (21, .agg #[vI (z7.x), vI (z7.y)])] (by kernel_rfl) (by kernel_rfl) (by kernel_rfl) mn an (fun X_ => (after_any pb vb k  _)) (by kernel_rfl) 7 rfl ?_
  let z8 := collideS a z5 b z7
  refine TD.callv [] (by kernel_rfl) 10 [] [] (dst := (some 22)) (f := 58) (args := #[.agg #[vI a.r, .slice a.A a.poly.length a.cap], .agg #[vI (z5.x), vI (z5.y)], .agg #[vI b.r, .slice b.A b.poly.length b.cap], .agg #[vI (z7.x), vI (z7.y)]]) (E := []) (Ob := []) [22] (.tuple #[.agg #[vI (z8.1.nx), vI (z8.1.ny), vI (z8.1.d)], .bool (z8.2)]) [(22, .tuple #[.agg #[vI (z8.1.nx), vI (z8.1.ny), vI (z8.1.d)], .bool (z8.2)])] (by kernel_rfl) (by kernel_rfl) (by kernel_rfl) mn an (fun X_ => (collide_any a z5 b z7 _ (ha.up.up) (hb.up.up))) (by kernel_rfl) 6 rfl ?_
  let z9 : Nat × Value := (23, .agg #[vI (z8.1.nx), vI (z8.1.ny), vI (z8.1.d)])
  let z10 : Nat × Value := (24, .bool (z8.2))
  refine TD.vals [] (by kernel_rfl) [11, 12, 13] [] [] [23, 24] [true, true, true, true, true, true, true, true, true, true, true, true, true, true, false, false, false] [z9, z10] [] [] (by kernel_rfl) (by kernel_rfl) mn an 3 rfl ?_
  refine TD.one 14 (by kernel_rfl) 2 rfl fun a_ hF_ hcl_ => ?_
  refine OPJ.ev [] [] [9, 23, 24] (fun n2 => [(9, vP (n2 + 0) 0), z9, z10]) (fun n2 => (ap [((n2 + 0), .lit [vI 0, vI 0, vI 0] 99 (0, 0))] [])) (fun n2 => []) (fun n2 => []) (fun _ => by kernel_rfl) mn (fun n2 => an) (.inr ⟨by decide, fun n2 => ⟨[((n2 + 0), .lit [vI 0, vI 0, vI 0] 99 (0, 0))], rfl⟩⟩) (.inr fun n2 => ⟨[((n2 + 0), .lit [vI 0, vI 0, vI 0] 99 (0, 0))], rfl⟩) (fun n2 => ?_) hF_ hcl_
  refine TD.one 15 (by kernel_rfl) 1 rfl fun a_ hF_ hcl_ => ?_
  let z11 : Nat × Blk := ((n2 + 0), .lit [vI (z8.1.nx), vI (z8.1.ny), vI (z8.1.d)] 99 (0, 0))
  refine OPJ.ev [] [.own 0, .own 0, .own 0] [24] (fun _ => [z10]) (fun _ => (ap [z11] [])) (fun _ => [(n2 + 0), (n2 + 0), (n2 + 0)]) (fun _ => []) (fun _ => by kernel_rfl) mn (fun _ => an) (.inl ⟨[], fun _ => by kernel_rfl⟩) (.inl (by decide)) (fun _ => ?_) hF_ hcl_
  refine TD.vals [] (by kernel_rfl) [16] [] [] [10] [true, true, true, true, true, true, true, true, true, true, true, true, true, true, true, true, true] [(10, .bool (z8.2))] [] [] (by kernel_rfl) (by kernel_rfl) mn an 0 rfl ?_
  refine TD.fin (by kernel_rfl) (EX.np ?_)
  refine EX.next ?_
  refine TR.seq ?_
  refine TR.reg ?_
  refine TL.seg0 2 [] [] [8] [(8, .bool (z8.2))] (ap [z11] []) [] [] (fun _ => by kernel_rfl) mn an ?_
  refine TL.fin (by kernel_rfl) ?_
  refine EX.next ?_
  refine TR.ret (A := [z11]) (Ts := []) (by exact fun _ _ h => h) rfl rfl [] [] (.bool (z8.2)) [] [] (fun _ => by kernel_rfl) mn an [] [0] [] [] [] (by kernel_rfl) (by kernel_rfl) (by kernel_rfl) ?_
  exact ⟨rfl, rfl⟩

set_option maxHeartbeats 400000 in
set_option maxRecDepth 100000 in
theorem earliest_any (a : Shp) (pa va : V2) (b : Shp) (pb vb : V2) (F : HL) (ha : ShIn F a) (hb : ShIn F b) : Sp Tryz.prog 61 #[.agg #[vI a.r, .slice a.A a.poly.length a.cap], .agg #[vI pa.x, vI pa.y], .agg #[vI va.x, vI va.y], .agg #[vI b.r, .slice b.A b.poly.length b.cap], .agg #[vI pb.x, vI pb.y], .agg #[vI vb.x, vI vb.y]] [] F (fun u H' => u = vI (earlS a pa va b pb vb) ∧ H' = []) := by
  refine Sp.of_body Tryz.func61 rfl rfl rfl [(0, .agg #[vI a.r, .slice a.A a.poly.length a.cap]), (1, .agg #[vI pa.x, vI pa.y]), (2, .agg #[vI va.x, vI va.y]), (3, .agg #[vI b.r, .slice b.A b.poly.length b.cap]), (4, .agg #[vI pb.x, vI pb.y]), (5, .agg #[vI vb.x, vI vb.y])] rfl ?_
  intro w0
  refine TR.convH (ap [] []) rfl ?_
  refine TR.seq ?_
  refine TR.reg ?_
  let z1 : List Value := [vI b.r, .slice b.A b.poly.length b.cap]
  let z2 : List Value := [vI a.r, .slice a.A a.poly.length a.cap]
  refine TL.seg 7 [] [] [6, 7, 8, 9, 10, 11] (fun n1 => [(6, vP (n1 + 0) 0), (7, vP (n1 + 1) 0), (8, vP (n1 + 2) 0), (9, vP (n1 + 3) 0), (10, vP (n1 + 4) 0), (11, vP (n1 + 5) 0)]) (fun n1 => (ap [((n1 + 5), .lit [vI vb.x, vI vb.y] 30 (0, 0)), ((n1 + 4), .lit [vI pb.x, vI pb.y] 30 (0, 0)), ((n1 + 3), .lit z1 35 (0, 0)), ((n1 + 2), .lit [vI va.x, vI va.y] 30 (0, 0)), ((n1 + 1), .lit [vI pa.x, vI pa.y] 30 (0, 0)), ((n1 + 0), .lit z2 35 (0, 0))] [])) (fun n1 => []) (fun n1 => []) (fun _ => by kernel_rfl) mn (fun n1 => an) ?_
  intro n1
  refine TL.fin (by kernel_rfl) ?_
  refine EX.next ?_
  refine TR.seq ?_
  refine TR.reg ?_
  let z3 : Nat × Value := (13, .func (.func 80) #[] #[vP (n1 + 0) 0, vP (n1 + 1) 0, vP (n1 + 2) 0, vP (n1 + 3) 0, vP (n1 + 4) 0, vP (n1 + 5) 0])
  let z4 : Nat × Blk := ((n1 + 5), .lit [vI vb.x, vI vb.y] 30 (0, 0))
  let z5 : Nat × Blk := ((n1 + 4), .lit [vI pb.x, vI pb.y] 30 (0, 0))
  let z6 : Nat × Blk := ((n1 + 3), .lit z1 35 (0, 0))
  let z7 : Nat × Blk := ((n1 + 2), .lit [vI va.x, vI va.y] 30 (0, 0))
  let z8 : Nat × Blk := ((n1 + 1), .lit [vI pa.x, vI pa.y] 30 (0, 0))
  let z9 : Nat × Blk := ((n1 + 0), .lit z2 35 (0, 0))
  refine TL.seg0 2 [] [] [13] [z3] (ap [z4, z5, z6, z7, z8, z9] []) [] [] (fun _ => by kernel_rfl) mn an ?_
  refine TL.fin (by kernel_rfl) ?_
  refine EX.next ?_
  refine TR.seq ?_
  refine TR.seq ?_
  refine TR.reg ?_
  refine TL.seg0 1 [] [] [13, 16] [z3, (16, .func (.func 80) #[] #[vP (n1 + 0) 0, vP (n1 + 1) 0, vP (n1 + 2) 0, vP (n1 + 3) 0, vP (n1 + 4) 0, vP (n1 + 5) 0])] (ap [z4, z5, z6, z7, z8, z9] []) [] [] (fun _ => by kernel_rfl) mn an ?_
  let z10 := touchE a pa va b pb vb 0
  refine TL.callp (dst := (some 17)) (f := 80) (args := #[vI 0, vP (n1 + 0) 0, vP (n1 + 1) 0, vP (n1 + 2) 0, vP (n1 + 3) 0, vP (n1 + 4) 0, vP (n1 + 5) 0]) (H1 := (ap [z4, z5, z6, z7, z8, z9] [])) (E := []) (Ob := []) [] [] [13, 17] (.bool z10) [z3, (17, .bool z10)] (fun _ => by kernel_rfl) mn an (earl1_any a pa va b pb vb 0 (n1 + 0) (n1 + 1) (n1 + 2) (n1 + 3) (n1 + 4) (n1 + 5) _ ha.up hb.up (in_ap 5 rfl) (in_ap 4 rfl) (in_ap 3 rfl) (in_ap 2 rfl) (in_ap 1 rfl) (in_ap 0 rfl)) (by kernel_rfl) ?_
  refine TL.fin (by kernel_rfl) ?_
  refine EX.next ?_
  rcases Decidable.em ((touchE a pa va b pb vb 0) = true) with h2 | h2
  · refine TR.yes (b := touchE a pa va b pb vb 0) (by kernel_rfl) (by kernel_rfl) h2 ?_
    refine TR.seq ?_
    refine TR.reg ?_
    refine TL.seg0 1 [] [] [12] [(12, vI 1024)] (ap [z4, z5, z6, z7, z8, z9] []) [] [] (fun _ => by kernel_rfl) mn an ?_
    refine TL.fin (by kernel_rfl) ?_
    refine EX.next ?_
    refine TR.ret (A := [z4, z5, z6, z7, z8, z9]) (Ts := []) (by exact fun _ _ h => h) rfl rfl [] [] (vI 1024) [] [] (fun _ => by kernel_rfl) mn an [] [0, 1, 2, 3, 4, 5] [] [] [] (by kernel_rfl) (by kernel_rfl) (by kernel_rfl) ?_
    exact ⟨by rw [earlS, if_pos h2], rfl⟩
  · refine TR.no (b := touchE a pa va b pb vb 0) (by kernel_rfl) (by kernel_rfl) (Bool.eq_false_iff.2 h2) ?_
    refine TR.skip ?_
    refine EX.next ?_
    refine TR.seq ?_
    refine TR.seq ?_
    refine TR.reg ?_
    refine TL.seg0 1 [] [] [13, 18] [z3, (18, vI 0)] (ap [z4, z5, z6, z7, z8, z9] []) [] [] (fun _ => by kernel_rfl) mn an ?_
    refine TL.fin (by kernel_rfl) ?_
    refine EX.next ?_
    refine TR.block ?_
    refine TR.loop (A := [z4, z5, z6, z7, z8, z9]) (Ts := []) (σ := Nat) (fun (n : Nat) => [z3, (18, vI (n : Int))]) (fun (n : Nat) => ap [z4, z5, z6, z7, z8, z9] []) (fun (n : Nat) => n ≤ 8 ∧ earlL a pa va b pb vb (8 - n) n = earlL a pa va b pb vb 8 0) (fun (n : Nat) => 8 - n) 0 (⟨Nat.zero_le _, rfl⟩) [13, 18] (by kernel_rfl) [0, 1, 2, 3, 4, 5] [] [] [] (by kernel_rfl) (by kernel_rfl) (by kernel_rfl) ?_
    rintro n ⟨hn_, hE_⟩
    refine TR.seq ?_
    refine TR.reg ?_
    let z11 : Nat × Value := (18, vI (n : Int))
    refine TL.seg0 1 [] [] [13, 18, 19] [z3, z11, (19, .bool (decide ((n : Int) < 8)))] (ap [z4, z5, z6, z7, z8, z9] []) [] [] (fun _ => by kernel_rfl) mn an ?_
    refine TL.fin (by kernel_rfl) ?_
    refine EX.next ?_
    refine TR.seq ?_
    rcases Decidable.em ((n : Int) < 8) with h4 | h4
    · refine TR.yes (b := decide ((n : Int) < 8)) (by kernel_rfl) (by kernel_rfl) (decide_eq_true h4) ?_
      refine TR.skip ?_
      refine EX.next ?_
      refine TR.seq ?_
      refine TR.block ?_
      refine TR.seq ?_
      refine TR.reg ?_
      let z12 : Nat × Value := (14, vI (n : Int))
      refine TL.seg0 2 [] [] [13, 14, 18] [z3, z12, z11] (ap [z4, z5, z6, z7, z8, z9] []) [] [] (fun _ => by kernel_rfl) mn an ?_
      refine TL.fin (by kernel_rfl) ?_
      refine EX.next ?_
      refine TR.seq ?_
      refine TR.reg ?_
      let z13 := (n : Int) + 1
      refine TL.seg0 3 [] [.nw] [13, 14, 18, 21, 23] [z3, z12, z11, (21, .func (.func 80) #[] #[vP (n1 + 0) 0, vP (n1 + 1) 0, vP (n1 + 2) 0, vP (n1 + 3) 0, vP (n1 + 4) 0, vP (n1 + 5) 0]), (23, vI z13)] (ap [z4, z5, z6, z7, z8, z9] []) [] [-9223372036854775808 ≤ (n : Int) + 1 ∧ (n : Int) + 1 ≤ 9223372036854775807] (fun _ => by kernel_rfl) mn (ac ⟨by omega, by omega⟩ an) ?_
      let z14 := touchE a pa va b pb vb z13
      refine TL.callp (dst := (some 24)) (f := 80) (args := #[vI z13, vP (n1 + 0) 0, vP (n1 + 1) 0, vP (n1 + 2) 0, vP (n1 + 3) 0, vP (n1 + 4) 0, vP (n1 + 5) 0]) (H1 := (ap [z4, z5, z6, z7, z8, z9] [])) (E := []) (Ob := []) [] [] [13, 14, 18, 24] (.bool z14) [z3, z12, z11, (24, .bool z14)] (fun _ => by kernel_rfl) mn an (earl1_any a pa va b pb vb z13 (n1 + 0) (n1 + 1) (n1 + 2) (n1 + 3) (n1 + 4) (n1 + 5) _ ha.up hb.up (in_ap 5 rfl) (in_ap 4 rfl) (in_ap 3 rfl) (in_ap 2 rfl) (in_ap 1 rfl) (in_ap 0 rfl)) (by kernel_rfl) ?_
      refine TL.fin (by kernel_rfl) ?_
      refine EX.next ?_
      rcases Decidable.em ((touchE a pa va b pb vb ((n : Int) + 1)) = true) with h5 | h5
      · refine TR.yes (b := touchE a pa va b pb vb z13) (by kernel_rfl) (by kernel_rfl) h5 ?_
        refine TR.seq ?_
        refine TR.reg ?_
        let z15 := (n : Int) * 1024
        refine TL.seg0 4 [] [.nw, .nw] [12] [(12, vI (z15 / 8))] (ap [z4, z5, z6, z7, z8, z9] []) [] [0 ≤ (n : Int) * 1024 ∧ (0 : Int) < 8 ∧ (n : Int) * 1024 ≤ 9223372036854775807, -9223372036854775808 ≤ (n : Int) * 1024 ∧ (n : Int) * 1024 ≤ 9223372036854775807] (fun _ => by kernel_rfl) mn (ac ⟨by omega, by omega, by omega⟩ (ac ⟨by omega, by omega⟩ an)) ?_
        refine TL.fin (by kernel_rfl) ?_
        refine EX.next ?_
        refine TR.ret (A := [z4, z5, z6, z7, z8, z9]) (Ts := []) (by exact fun _ _ h => h) rfl rfl [] [] (vI (z15 / 8)) [] [] (fun _ => by kernel_rfl) mn an [] [0, 1, 2, 3, 4, 5] [] [] [] (by kernel_rfl) (by kernel_rfl) (by kernel_rfl) ?_
        refine ⟨?_, rfl⟩
        rw [earlS, if_neg h2, ← hE_]
        rw [show 8 - n = (8 - (n + 1)) + 1 by omega, earlL, if_pos h5]
      · refine TR.no (b := touchE a pa va b pb vb z13) (by kernel_rfl) (by kernel_rfl) (Bool.eq_false_iff.2 h5) ?_
        refine TR.skip ?_
        refine EX.inn ?_
        refine EX.next ?_
        refine TR.reg ?_
        refine TL.seg0 2 [] [.nw] [13, 18] [z3, (18, vI z13)] (ap [z4, z5, z6, z7, z8, z9] []) [] [-9223372036854775808 ≤ (n : Int) + 1 ∧ (n : Int) + 1 ≤ 9223372036854775807] (fun _ => by kernel_rfl) mn (ac ⟨by omega, by omega⟩ an) ?_
        refine TL.fin (by kernel_rfl) ?_
        refine EX.meet (A := [z4, z5, z6, z7, z8, z9]) (Ts := []) (n + 1) ?_ [13, 18] (by kernel_rfl) [0, 1, 2, 3, 4, 5] [] [] [] (by kernel_rfl) (by kernel_rfl) (by kernel_rfl)
        try dsimp only
        refine ⟨⟨by omega, ?_⟩, by omega⟩
        rw [← hE_, show 8 - n = (8 - (n + 1)) + 1 by omega, earlL, if_neg h5]
    · refine TR.no (b := decide ((n : Int) < 8)) (by kernel_rfl) (by kernel_rfl) (decide_eq_false h4) ?_
      refine TR.exit ?_
      refine EX.thn (by simp) ?_
      refine EX.thn (by simp) ?_
      refine EX.hit ?_
      refine EX.next ?_
      refine TR.seq ?_
      refine TR.reg ?_
      refine TL.seg0 1 [] [] [12] [(12, vI 1024)] (ap [z4, z5, z6, z7, z8, z9] []) [] [] (fun _ => by kernel_rfl) mn an ?_
      refine TL.fin (by kernel_rfl) ?_
      refine EX.next ?_
      refine TR.ret (A := [z4, z5, z6, z7, z8, z9]) (Ts := []) (by exact fun _ _ h => h) rfl rfl [] [] (vI 1024) [] [] (fun _ => by kernel_rfl) mn an [] [0, 1, 2, 3, 4, 5] [] [] [] (by kernel_rfl) (by kernel_rfl) (by kernel_rfl) ?_
      refine ⟨?_, rfl⟩
      rw [earlS, if_neg h2, ← hE_]
      rw [show 8 - n = 0 by omega, earlL]
end Go.Proofs.YtpkincoclhpcgaaGreatDoor
