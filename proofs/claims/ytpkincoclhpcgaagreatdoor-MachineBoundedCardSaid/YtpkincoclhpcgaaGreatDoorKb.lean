/- Contracts, printed by a program. -/
import Derived.Test.YtpkincoclhpcgaaGreatDoorKa
namespace Go.Proofs.YtpkincoclhpcgaaGreatDoor
set_option linter.unusedSimpArgs false
set_option linter.unusedVariables false
open Go.RowKit
def edgeV (l : List V2) (k : Nat) : V2 := unitV ⟨w64 ((l.getD (((k : Int) + 1) % (l.length : Int)).toNat ⟨0, 0⟩).y - (l.getD k ⟨0, 0⟩).y), w64 ((l.getD k ⟨0, 0⟩).x - (l.getD (((k : Int) + 1) % (l.length : Int)).toNat ⟨0, 0⟩).x)⟩
def edgesL (l : List V2) : List V2 := (List.range l.length).map (edgeV l)
def lastL (a : Shp) (pa : V2) (b : Shp) (pb : V2) : List V2 := if circ a then if circ b then [unitV (vsub pb pa)] else [unitV (toVert pa b pb)] else if circ b then [unitV (toVert pb a pa)] else []
def axesL (a : Shp) (pa : V2) (b : Shp) (pb : V2) : List V2 := edgesL a.poly ++ (edgesL b.poly ++ lastL a pa b pb)
theorem edgesL_len (l : List V2) : (edgesL l).length = l.length := by simp [edgesL]
theorem edgesL_get {l : List V2} {k : Nat} (h : k < l.length) : (edgesL l)[k]? = some (edgeV l k) := by simp [edgesL, h]
theorem axes_1 {a : Shp} {pa : V2} {b : Shp} {pb : V2} {k : Nat} (h : k < a.poly.length) : (axesL a pa b pb)[k]? = some (edgeV a.poly k) := by
  unfold axesL
  rw [List.getElem?_append_left (by rw [edgesL_len]; exact h), edgesL_get h]
theorem axes_2 {a : Shp} {pa : V2} {b : Shp} {pb : V2} {k : Nat} (h : k < b.poly.length) : (axesL a pa b pb)[a.poly.length + k]? = some (edgeV b.poly k) := by
  unfold axesL
  rw [List.getElem?_append_right (by rw [edgesL_len]; omega), edgesL_len, Nat.add_sub_cancel_left, List.getElem?_append_left (by rw [edgesL_len]; exact h), edgesL_get h]
theorem axes_3 {a : Shp} {pa : V2} {b : Shp} {pb x : V2} (h : lastL a pa b pb = [x]) : (axesL a pa b pb)[a.poly.length + b.poly.length]? = some x := by
  unfold axesL
  rw [List.getElem?_append_right (by rw [edgesL_len]; omega), edgesL_len, Nat.add_sub_cancel_left, List.getElem?_append_right (by rw [edgesL_len]; omega), edgesL_len, Nat.sub_self, h]
  rfl
theorem axes_len {a : Shp} {pa : V2} {b : Shp} {pb : V2} {m : Nat} (h : (lastL a pa b pb).length = m) : (axesL a pa b pb).length = a.poly.length + b.poly.length + m := by
  unfold axesL
  rw [List.length_append, List.length_append, edgesL_len, edgesL_len, h]; omega
theorem ap_one (T : HL) : ap [] [T] = T := by simp
abbrev encV (x : V2) : Array Value := #[.agg #[vI x.x, vI x.y]]

set_option maxHeartbeats 400000 in
set_option maxRecDepth 100000 in
theorem toVert_poly (c : V2) (r : Int) (l : List V2) (b cap : Nat) (pos : V2) (F : HL) (hb : (b, .rows 2 cap (vrow l) 30 (0, 0)) ∈ F) (hl3 : 3 ≤ l.length) (h4 : l.length ≤ cap) (h5 : cap ≤ 1000000) : Sp Tryz.prog 92 #[.agg #[vI c.x, vI c.y], .agg #[vI r, vS b 0 l.length cap], .agg #[vI pos.x, vI pos.y]] [] F (fun u H' => u = .agg #[vI ((toVert c ⟨r, l, some ⟨b, 0, none⟩, cap⟩ pos).x), vI ((toVert c ⟨r, l, some ⟨b, 0, none⟩, cap⟩ pos).y)] ∧ H' = []) := by
  refine Sp.of_body Tryz.func92 rfl rfl rfl [(0, .agg #[vI c.x, vI c.y]), (1, .agg #[vI r, vS b 0 l.length cap]), (2, .agg #[vI pos.x, vI pos.y])] rfl ?_
  intro w0
  refine TR.convH (ap [] []) rfl ?_
  refine TR.seq ?_
  refine TR.reg ?_
  refine TL.seg 4 [] [] [3, 4, 5, 6] (fun n1 => [(3, vP (n1 + 0) 0), (4, vP (n1 + 1) 0), (5, vP (n1 + 2) 0), (6, vP (n1 + 3) 0)]) (fun n1 => (ap [((n1 + 3), .lit [vI 0, vI 0] 30 (0, 0)), ((n1 + 2), .lit [vI pos.x, vI pos.y] 30 (0, 0)), ((n1 + 1), .lit [vI r, vS b 0 l.length cap] 35 (0, 0)), ((n1 + 0), .lit [vI c.x, vI c.y] 30 (0, 0))] [])) (fun n1 => []) (fun n1 => []) (fun _ => by kernel_rfl) mn (fun n1 => an) ?_
  intro n1
  refine TL.fin (by kernel_rfl) ?_
  refine EX.next ?_
  refine TR.seq ?_
  refine TR.reg ?_
  let z1 : Nat × Value := (4, vP (n1 + 1) 0)
  let z2 : Nat × Value := (6, vP (n1 + 3) 0)
  let z3 : Nat × Blk := ((n1 + 3), .lit [vI 0, vI 0] 30 (0, 0))
  let z4 : Nat × Blk := ((n1 + 2), .lit [vI pos.x, vI pos.y] 30 (0, 0))
  let z5 : Nat × Blk := ((n1 + 1), .lit [vI r, vS b 0 l.length cap] 35 (0, 0))
  let z6 : Nat × Blk := ((n1 + 0), .lit [vI c.x, vI c.y] 30 (0, 0))
  refine TL.seg0 2 [] [.own 1, .own 1, .own 3, .own 3] [4, 6, 9, 10] [z1, z2, (9, .agg #[vI pos.x, vI pos.y]), (10, .agg #[vI c.x, vI c.y])] (ap [z3, z4, z5, z6] []) [(n1 + 0), (n1 + 0), (n1 + 2), (n1 + 2)] [] (fun _ => by kernel_rfl) mn an ?_
  refine TL.callp (dst := (some 11)) (f := 71) (args := #[.agg #[vI pos.x, vI pos.y], .agg #[vI c.x, vI c.y]]) (H1 := (ap [z3, z4, z5, z6] [])) (E := []) (Ob := []) [] [] [4, 6, 11] (.agg #[vI ((vsub pos c).x), vI ((vsub pos c).y)]) [z1, z2, (11, .agg #[vI ((vsub pos c).x), vI ((vsub pos c).y)])] (fun _ => by kernel_rfl) mn an (vsub_any pos c  _) (by kernel_rfl) ?_
  let z7 : List Value := [vI ((vsub pos c).x), vI ((vsub pos c).y)]
  refine TL.seg 2 [] [.own 0, .own 0] [4, 6, 7] (fun n2 => [z1, z2, (7, vP (n2 + 0) 0)]) (fun n2 => (ap [((n2 + 0), .lit z7 30 (0, 0)), z3, z4, z5, z6] [])) (fun n2 => [(n2 + 0), (n2 + 0)]) (fun n2 => []) (fun _ => by kernel_rfl) mn (fun n2 => an) ?_
  intro n2
  refine TL.fin (by kernel_rfl) ?_
  refine EX.next ?_
  refine TR.seq ?_
  refine TR.reg ?_
  let z8 : Nat × Value := (7, vP (n2 + 0) 0)
  let z9 : Nat × Blk := ((n2 + 0), .lit z7 30 (0, 0))
  refine TL.seg0 3 [] [.own 3] [6, 7, 13, 14] [z2, z8, (13, vS b 0 l.length cap), (14, .func (.func 124) #[] #[vP (n2 + 0) 0])] (ap [z9, z3, z4, z5, z6] []) [(n1 + 1)] [] (fun _ => by kernel_rfl) mn an ?_
  let z10 := leastF (vsub pos c) l (l.length - 1)
  refine TL.callp (dst := (some 15)) (f := 123) (args := #[vS b 0 l.length cap, .func (.func 124) #[] #[vP (n2 + 0) 0]]) (H1 := (ap [z9, z3, z4, z5, z6] [])) (E := []) (Ob := []) [] [] [6, 7, 15] (.agg #[vI ((z10.1).x), vI ((z10.1).y)]) [z2, z8, (15, .agg #[vI ((z10.1).x), vI ((z10.1).y)])] (fun _ => by kernel_rfl) mn an (least_any l b cap (vsub pos c) (n2 + 0) _ (List.mem_append_right _ hb) hl3 h4 h5 (in_ap 0 rfl)) (by kernel_rfl) ?_
  let z11 : List Value := [vI ((z10.1).x), vI ((z10.1).y)]
  refine TL.seg 2 [] [.own 0, .own 0] [6, 7, 8] (fun n3 => [z2, z8, (8, vP (n3 + 0) 0)]) (fun n3 => (ap [((n3 + 0), .lit z11 30 (0, 0)), z9, z3, z4, z5, z6] [])) (fun n3 => [(n3 + 0), (n3 + 0)]) (fun n3 => []) (fun _ => by kernel_rfl) mn (fun n3 => an) ?_
  intro n3
  refine TL.fin (by kernel_rfl) ?_
  refine EX.next ?_
  refine TR.seq ?_
  refine TR.reg ?_
  let z12 : Nat × Blk := ((n3 + 0), .lit z11 30 (0, 0))
  refine TL.seg0 2 [] [.own 1, .own 1, .own 0, .own 0] [6, 16, 17] [z2, (16, .agg #[vI ((vsub pos c).x), vI ((vsub pos c).y)]), (17, .agg #[vI ((z10.1).x), vI ((z10.1).y)])] (ap [z12, z9, z3, z4, z5, z6] []) [(n3 + 0), (n3 + 0), (n2 + 0), (n2 + 0)] [] (fun _ => by kernel_rfl) mn an ?_
  let z13 := vadd (vsub pos c) (z10.1)
  refine TL.callp (dst := (some 18)) (f := 23) (args := #[.agg #[vI ((vsub pos c).x), vI ((vsub pos c).y)], .agg #[vI ((z10.1).x), vI ((z10.1).y)]]) (H1 := (ap [z12, z9, z3, z4, z5, z6] [])) (E := []) (Ob := []) [] [] [6, 18] (.agg #[vI (z13.x), vI (z13.y)]) [z2, (18, .agg #[vI (z13.x), vI (z13.y)])] (fun _ => by kernel_rfl) mn an (vadd_any (vsub pos c) (z10.1)  _) (by kernel_rfl) ?_
  let z14 : Nat × Blk := ((n1 + 3), .lit [vI (z13.x), vI (z13.y)] 30 (0, 0))
  refine TL.seg0 1 [] [.own 2, .own 2] [6] [z2] (ap [z12, z9, z14, z4, z5, z6] []) [(n1 + 3), (n1 + 3)] [] (fun _ => by kernel_rfl) mn an ?_
  refine TL.fin (by kernel_rfl) ?_
  refine EX.next ?_
  refine TR.ret (A := [z12, z9, z14, z4, z5, z6]) (Ts := []) (by exact fun _ _ h => h) rfl rfl [] [.own 2, .own 2] (.agg #[vI (z13.x), vI (z13.y)]) [(n1 + 3), (n1 + 3)] [] (fun _ => by kernel_rfl) mn an [] [0, 1, 2, 3, 4, 5] [] [] [] (by kernel_rfl) (by kernel_rfl) (by kernel_rfl) ?_
  exact ⟨rfl, rfl⟩

set_option maxHeartbeats 1000000 in
set_option maxRecDepth 100000 in
theorem axes_cc (pa pb : V2) (ra rb : Int) (ca cb : Nat) (Aa : Option Addr) (Ab : Option Addr) (q1 q2 q3 q4 lp : Nat) (X F : HL) (J : Nat → HL → Prop) (Jx : HL → Prop) (T0 : HL) (hq1 : (q1, .lit [vI ra, .slice Aa 0 ca] 35 (0, 0)) ∈ F) (hq2 : (q2, .lit [vI rb, .slice Ab 0 cb] 35 (0, 0)) ∈ F) (hq3 : (q3, .lit [vI pb.x, vI pb.y] 30 (0, 0)) ∈ F) (hq4 : (q4, .lit [vI pa.x, vI pa.y] 30 (0, 0)) ∈ F) (hY : ∀ i x H Y, (axesL (⟨ra, [], Aa, ca⟩ : Shp) pa (⟨rb, [], Ab, cb⟩ : Shp) pb)[i]? = some x → J i H → YL Tryz.prog lp (encV x) H (Y ++ (X ++ F)) (fun b H' => (b = true ∧ J (i + 1) H') ∨ (b = false ∧ Jx H'))) (hJ0 : J 0 T0) : Sp Tryz.prog 89 #[.func (.yield lp) #[] #[], vP q1 0, vP q2 0, vP q3 0, vP q4 0] (ap [] [T0]) (X ++ F) (fun _ H' => J (axesL (⟨ra, [], Aa, ca⟩ : Shp) pa (⟨rb, [], Ab, cb⟩ : Shp) pb).length H' ∨ Jx H') := by
  have hca : circ (⟨ra, [], Aa, ca⟩ : Shp) := rfl
  have hcb : circ (⟨rb, [], Ab, cb⟩ : Shp) := rfl
  have hlast : lastL (⟨ra, [], Aa, ca⟩ : Shp) pa (⟨rb, [], Ab, cb⟩ : Shp) pb = [unitV (vsub pb pa)] := by simp only [lastL, if_pos hca, if_pos hcb]
  have hlen : (axesL (⟨ra, [], Aa, ca⟩ : Shp) pa (⟨rb, [], Ab, cb⟩ : Shp) pb).length = ([] : List V2).length + ([] : List V2).length + 1 := axes_len (by rw [hlast]; rfl)
  refine Sp.of_body Tryz.func89 rfl rfl rfl [(0, .func (.yield lp) #[] #[]), (1, vP q1 0), (2, vP q2 0), (3, vP q3 0), (4, vP q4 0)] rfl ?_
  intro w0
  refine TR.convH (ap [] [T0]) rfl ?_
  refine TR.seq ?_
  refine TR.seq ?_
  refine TR.reg ?_
  let z1 : Nat × Blk := (q1, .lit [vI ra, .slice Aa 0 ca] 35 (0, 0))
  let z2 : Nat × Blk := (q2, .lit [vI rb, .slice Ab 0 cb] 35 (0, 0))
  let z3 : Nat × Value := (0, .func (.yield lp) #[] #[])
  let z4 : Nat × Value := (15, .agg #[.slice Aa 0 ca, .slice Ab 0 cb])
  refine TL.seg0 6 [z1, z2] [.ro 0, .ro 1] [0, 1, 2, 3, 4, 15, 16] [z3, (1, vP q1 0), (2, vP q2 0), (3, vP q3 0), (4, vP q4 0), z4, (16, vI 0)] (ap [] [T0]) [q2, q1] [] (fun _ => by kernel_rfl) (mc (List.mem_append_right X hq1) (mc (List.mem_append_right X hq2) mn)) an ?_
  refine TL.fin (by kernel_rfl) ?_
  refine EX.next ?_
  refine TR.block ?_
  refine TR.rounds 2 ?_
  refine TR.seq ?_
  refine TR.reg ?_
  let z5 : Nat × Value := (17, .bool true)
  refine TL.seg0 1 [] [] [0, 1, 2, 3, 4, 15, 16, 17] [z3, (1, vP q1 0), (2, vP q2 0), (3, vP q3 0), (4, vP q4 0), z4, (16, vI 0), z5] (ap [] [T0]) [] [] (fun _ => by kernel_rfl) mn an ?_
  refine TL.fin (by kernel_rfl) ?_
  refine EX.next ?_
  refine TR.seq ?_
  refine TR.yes (by kernel_rfl) (by kernel_rfl) (rfl : true = true) ?_
  refine TR.skip ?_
  refine EX.next ?_
  refine TR.seq ?_
  refine TR.block ?_
  refine TR.seq ?_
  refine TR.reg ?_
  let z6 : Nat × Value := (7, .slice Aa 0 ca)
  refine TL.seg0 2 [] [] [0, 1, 2, 3, 4, 7, 15, 16] [z3, (1, vP q1 0), (2, vP q2 0), (3, vP q3 0), (4, vP q4 0), z6, z4, (16, vI 0)] (ap [] [T0]) [] [] (fun _ => by kernel_rfl) mn an ?_
  refine TL.fin (by kernel_rfl) ?_
  refine EX.next ?_
  refine TR.seq ?_
  refine TR.reg ?_
  let z7 : Nat × Value := (19, .slice Aa 0 ca)
  refine TL.seg0 3 [] [] [0, 1, 2, 3, 4, 7, 15, 16, 19, 20, 21] [z3, (1, vP q1 0), (2, vP q2 0), (3, vP q3 0), (4, vP q4 0), z6, z4, (16, vI 0), z7, (20, vI 0), (21, vI 0)] (ap [] [T0]) [] [] (fun _ => by kernel_rfl) mn an ?_
  refine TL.fin (by kernel_rfl) ?_
  refine EX.next ?_
  refine TR.block ?_
  refine TR.rounds 1 ?_
  refine TR.seq ?_
  refine TR.reg ?_
  let z8 : Nat × Value := (22, .bool false)
  refine TL.seg0 1 [] [] [0, 1, 2, 3, 4, 7, 15, 16, 19, 20, 21, 22] [z3, (1, vP q1 0), (2, vP q2 0), (3, vP q3 0), (4, vP q4 0), z6, z4, (16, vI 0), z7, (20, vI 0), (21, vI 0), z8] (ap [] [T0]) [] [] (fun _ => by kernel_rfl) mn an ?_
  refine TL.fin (by kernel_rfl) ?_
  refine EX.next ?_
  refine TR.seq ?_
  refine TR.no (by kernel_rfl) (by kernel_rfl) (rfl : false = false) ?_
  refine TR.exit ?_
  refine EX.thn (by simp) ?_
  refine EX.thn (by simp) ?_
  refine EX.hit ?_
  refine EX.inn ?_
  refine EX.next ?_
  refine TR.reg ?_
  refine TL.seg0 2 [] [] [0, 1, 2, 3, 4, 15, 16] [z3, (1, vP q1 0), (2, vP q2 0), (3, vP q3 0), (4, vP q4 0), z4, (16, vI 1)] (ap [] [T0]) [] [] (fun _ => by kernel_rfl) mn an ?_
  refine TL.fin (by kernel_rfl) ?_
  refine EX.round ?_
  refine TR.seq ?_
  refine TR.reg ?_
  refine TL.seg0 1 [] [] [0, 1, 2, 3, 4, 15, 16, 17] [z3, (1, vP q1 0), (2, vP q2 0), (3, vP q3 0), (4, vP q4 0), z4, (16, vI 1), z5] (ap [] [T0]) [] [] (fun _ => by kernel_rfl) mn an ?_
  refine TL.fin (by kernel_rfl) ?_
  refine EX.next ?_
  refine TR.seq ?_
  refine TR.yes (by kernel_rfl) (by kernel_rfl) (rfl : true = true) ?_
  refine TR.skip ?_
  refine EX.next ?_
  refine TR.seq ?_
  refine TR.block ?_
  refine TR.seq ?_
  refine TR.reg ?_
  let z9 : Nat × Value := (7, .slice Ab 0 cb)
  refine TL.seg0 2 [] [] [0, 1, 2, 3, 4, 7, 15, 16] [z3, (1, vP q1 0), (2, vP q2 0), (3, vP q3 0), (4, vP q4 0), z9, z4, (16, vI 1)] (ap [] [T0]) [] [] (fun _ => by kernel_rfl) mn an ?_
  refine TL.fin (by kernel_rfl) ?_
  refine EX.next ?_
  refine TR.seq ?_
  refine TR.reg ?_
  let z10 : Nat × Value := (19, .slice Ab 0 cb)
  refine TL.seg0 3 [] [] [0, 1, 2, 3, 4, 7, 15, 16, 19, 20, 21] [z3, (1, vP q1 0), (2, vP q2 0), (3, vP q3 0), (4, vP q4 0), z9, z4, (16, vI 1), z10, (20, vI 0), (21, vI 0)] (ap [] [T0]) [] [] (fun _ => by kernel_rfl) mn an ?_
  refine TL.fin (by kernel_rfl) ?_
  refine EX.next ?_
  refine TR.block ?_
  refine TR.rounds 1 ?_
  refine TR.seq ?_
  refine TR.reg ?_
  refine TL.seg0 1 [] [] [0, 1, 2, 3, 4, 7, 15, 16, 19, 20, 21, 22] [z3, (1, vP q1 0), (2, vP q2 0), (3, vP q3 0), (4, vP q4 0), z9, z4, (16, vI 1), z10, (20, vI 0), (21, vI 0), z8] (ap [] [T0]) [] [] (fun _ => by kernel_rfl) mn an ?_
  refine TL.fin (by kernel_rfl) ?_
  refine EX.next ?_
  refine TR.seq ?_
  refine TR.no (by kernel_rfl) (by kernel_rfl) (rfl : false = false) ?_
  refine TR.exit ?_
  refine EX.thn (by simp) ?_
  refine EX.thn (by simp) ?_
  refine EX.hit ?_
  refine EX.inn ?_
  refine EX.next ?_
  refine TR.reg ?_
  refine TL.seg0 2 [] [] [0, 1, 2, 3, 4, 15, 16] [z3, (1, vP q1 0), (2, vP q2 0), (3, vP q3 0), (4, vP q4 0), z4, (16, vI 2)] (ap [] [T0]) [] [] (fun _ => by kernel_rfl) mn an ?_
  refine TL.fin (by kernel_rfl) ?_
  refine EX.round ?_
  refine TR.seq ?_
  refine TR.reg ?_
  refine TL.seg0 1 [] [] [0, 1, 2, 3, 4, 15, 16, 17] [z3, (1, vP q1 0), (2, vP q2 0), (3, vP q3 0), (4, vP q4 0), z4, (16, vI 2), (17, .bool false)] (ap [] [T0]) [] [] (fun _ => by kernel_rfl) mn an ?_
  refine TL.fin (by kernel_rfl) ?_
  refine EX.next ?_
  refine TR.seq ?_
  refine TR.no (by kernel_rfl) (by kernel_rfl) (rfl : false = false) ?_
  refine TR.exit ?_
  refine EX.thn (by simp) ?_
  refine EX.thn (by simp) ?_
  refine EX.hit ?_
  refine EX.next ?_
  refine TR.block ?_
  refine TR.seq ?_
  refine TR.reg ?_
  refine TL.seg0 1 [z1] [.ro 0, .ro 0] [0, 1, 2, 3, 4, 52] [z3, (1, vP q1 0), (2, vP q2 0), (3, vP q3 0), (4, vP q4 0), (52, .agg #[vI ra, .slice Aa 0 ca])] (ap [] [T0]) [q1, q1] [] (fun _ => by kernel_rfl) (mc (List.mem_append_right X hq1) mn) an ?_
  refine TL.callp (dst := (some 53)) (f := 91) (args := #[.agg #[vI ra, .slice Aa 0 ca]]) (H1 := (ap [] [T0])) (E := []) (Ob := []) [] [] [0, 1, 2, 3, 4, 53] (.bool true) [z3, (1, vP q1 0), (2, vP q2 0), (3, vP q3 0), (4, vP q4 0), (53, .bool true)] (fun _ => by kernel_rfl) mn an (cc_any ra Aa 0 ca _) (by kernel_rfl) ?_
  let z11 : Nat × Value := (54, .bool true)
  refine TL.seg0 2 [z2] [.ro 0, .ro 0] [0, 1, 2, 3, 4, 54, 55] [z3, (1, vP q1 0), (2, vP q2 0), (3, vP q3 0), (4, vP q4 0), z11, (55, .agg #[vI rb, .slice Ab 0 cb])] (ap [] [T0]) [q2, q2] [] (fun _ => by kernel_rfl) (mc (List.mem_append_right X hq2) mn) an ?_
  refine TL.callp (dst := (some 56)) (f := 91) (args := #[.agg #[vI rb, .slice Ab 0 cb]]) (H1 := (ap [] [T0])) (E := []) (Ob := []) [] [] [0, 1, 2, 3, 4, 54, 56] (.bool true) [z3, (1, vP q1 0), (2, vP q2 0), (3, vP q3 0), (4, vP q4 0), z11, (56, .bool true)] (fun _ => by kernel_rfl) mn an (cc_any rb Ab 0 cb _) (by kernel_rfl) ?_
  refine TL.seg0 2 [] [] [0, 1, 2, 3, 4, 51] [z3, (1, vP q1 0), (2, vP q2 0), (3, vP q3 0), (4, vP q4 0), (51, .bool true)] (ap [] [T0]) [] [] (fun _ => by kernel_rfl) mn an ?_
  refine TL.fin (by kernel_rfl) ?_
  refine EX.next ?_
  refine TR.yes (by kernel_rfl) (by kernel_rfl) (rfl : true = true) ?_
  refine TR.reg ?_
  let z12 : Nat × Value := (58, .func (.yield lp) #[] #[])
  refine TL.seg0 3 [(q3, .lit [vI pb.x, vI pb.y] 30 (0, 0)), (q4, .lit [vI pa.x, vI pa.y] 30 (0, 0))] [.ro 0, .ro 0, .ro 1, .ro 1] [58, 59, 60] [z12, (59, .agg #[vI pb.x, vI pb.y]), (60, .agg #[vI pa.x, vI pa.y])] (ap [] [T0]) [q4, q4, q3, q3] [] (fun _ => by kernel_rfl) (mc (List.mem_append_right X hq3) (mc (List.mem_append_right X hq4) mn)) an ?_
  refine TL.callp (dst := (some 61)) (f := 71) (args := #[.agg #[vI pb.x, vI pb.y], .agg #[vI pa.x, vI pa.y]]) (H1 := (ap [] [T0])) (E := []) (Ob := []) [] [] [58, 61] (.agg #[vI ((vsub pb pa).x), vI ((vsub pb pa).y)]) [z12, (61, .agg #[vI ((vsub pb pa).x), vI ((vsub pb pa).y)])] (fun _ => by kernel_rfl) mn an (vsub_any pb pa  _) (by kernel_rfl) ?_
  let z13 := unitV (vsub pb pa)
  refine TL.callp (dst := (some 62)) (f := 90) (args := #[.agg #[vI ((vsub pb pa).x), vI ((vsub pb pa).y)]]) (H1 := (ap [] [T0])) (E := []) (Ob := []) [] [] [58, 62] (.agg #[vI (z13.x), vI (z13.y)]) [z12, (62, .agg #[vI (z13.x), vI (z13.y)])] (fun _ => by kernel_rfl) mn an (unit_any (vsub pb pa)  _) (by kernel_rfl) ?_
  refine TL.yield (dst := (some 63)) (l := lp) (args := #[.agg #[vI (z13.x), vI (z13.y)]]) (A := []) (Ts := [T0]) (Ob := []) [] [] [0] [] [] T0 [] (fun b H' => (b = true ∧ J (0 + 1) H') ∨ (b = false ∧ Jx H')) (fun b_ => []) (fun _ => by kernel_rfl) an (by kernel_rfl) (by kernel_rfl) (by kernel_rfl) (fun _ => by kernel_rfl) (hY 0 z13 _ (ap [] []) (axes_3 hlast) hJ0) ?_
  rintro b_ T1 (⟨rfl, hJ2⟩ | ⟨rfl, hJ2⟩)
  · refine TL.fin (by kernel_rfl) ?_
    refine EX.inn ?_
    refine EX.fin (A := []) (Ts := [T1]) rfl rfl [] [] (.tuple #[]) [] [] (fun _ => by kernel_rfl) mn an [] [] [0] [] (ap [] [T1]) (by kernel_rfl) (by kernel_rfl) (by kernel_rfl) ?_
    rw [ap_one]
    exact .inl (by rw [hlen]; exact hJ2)
  · refine TL.fin (by kernel_rfl) ?_
    refine EX.inn ?_
    refine EX.fin (A := []) (Ts := [T1]) rfl rfl [] [] (.tuple #[]) [] [] (fun _ => by kernel_rfl) mn an [] [] [0] [] (ap [] [T1]) (by kernel_rfl) (by kernel_rfl) (by kernel_rfl) ?_
    rw [ap_one]
    exact .inr hJ2

set_option maxHeartbeats 1000000 in
set_option maxRecDepth 100000 in
theorem axes_cp (pa pb : V2) (ra rb : Int) (ca cb : Nat) (Aa : Option Addr) (lb : List V2) (bb : Nat) (q1 q2 q3 q4 lp : Nat) (X F : HL) (J : Nat → HL → Prop) (Jx : HL → Prop) (T0 : HL) (hq1 : (q1, .lit [vI ra, .slice Aa 0 ca] 35 (0, 0)) ∈ F) (hq2 : (q2, .lit [vI rb, vS bb 0 lb.length cb] 35 (0, 0)) ∈ F) (hq3 : (q3, .lit [vI pb.x, vI pb.y] 30 (0, 0)) ∈ F) (hq4 : (q4, .lit [vI pa.x, vI pa.y] 30 (0, 0)) ∈ F) (hbb : (bb, .rows 2 cb (vrow lb) 30 (0, 0)) ∈ F) (h3b : 3 ≤ lb.length) (h4b : lb.length ≤ cb) (h5b : cb ≤ 1000000) (hY : ∀ i x H Y, (axesL (⟨ra, [], Aa, ca⟩ : Shp) pa (⟨rb, lb, some ⟨bb, 0, none⟩, cb⟩ : Shp) pb)[i]? = some x → J i H → YL Tryz.prog lp (encV x) H (Y ++ (X ++ F)) (fun b H' => (b = true ∧ J (i + 1) H') ∨ (b = false ∧ Jx H'))) (hJ0 : J 0 T0) : Sp Tryz.prog 89 #[.func (.yield lp) #[] #[], vP q1 0, vP q2 0, vP q3 0, vP q4 0] (ap [] [T0]) (X ++ F) (fun _ H' => J (axesL (⟨ra, [], Aa, ca⟩ : Shp) pa (⟨rb, lb, some ⟨bb, 0, none⟩, cb⟩ : Shp) pb).length H' ∨ Jx H') := by
  have hca : circ (⟨ra, [], Aa, ca⟩ : Shp) := rfl
  have hcb : ¬ circ (⟨rb, lb, some ⟨bb, 0, none⟩, cb⟩ : Shp) := by intro e; simp [circ] at e; subst e; simp at h3b
  have hlast : lastL (⟨ra, [], Aa, ca⟩ : Shp) pa (⟨rb, lb, some ⟨bb, 0, none⟩, cb⟩ : Shp) pb = [unitV (toVert pa (⟨rb, lb, some ⟨bb, 0, none⟩, cb⟩ : Shp) pb)] := by simp only [lastL, if_pos hca, if_neg hcb]
  have hlen : (axesL (⟨ra, [], Aa, ca⟩ : Shp) pa (⟨rb, lb, some ⟨bb, 0, none⟩, cb⟩ : Shp) pb).length = ([] : List V2).length + lb.length + 1 := axes_len (by rw [hlast]; rfl)
  refine Sp.of_body Tryz.func89 rfl rfl rfl [(0, .func (.yield lp) #[] #[]), (1, vP q1 0), (2, vP q2 0), (3, vP q3 0), (4, vP q4 0)] rfl ?_
  intro w0
  refine TR.convH (ap [] [T0]) rfl ?_
  refine TR.seq ?_
  refine TR.seq ?_
  refine TR.reg ?_
  let z1 : Nat × Blk := (q1, .lit [vI ra, .slice Aa 0 ca] 35 (0, 0))
  let z2 : Nat × Blk := (q2, .lit [vI rb, vS bb 0 lb.length cb] 35 (0, 0))
  let z3 : Nat × Value := (0, .func (.yield lp) #[] #[])
  let z4 : Nat × Value := (15, .agg #[.slice Aa 0 ca, vS bb 0 lb.length cb])
  refine TL.seg0 6 [z1, z2] [.ro 0, .ro 1] [0, 1, 2, 3, 4, 15, 16] [z3, (1, vP q1 0), (2, vP q2 0), (3, vP q3 0), (4, vP q4 0), z4, (16, vI 0)] (ap [] [T0]) [q2, q1] [] (fun _ => by kernel_rfl) (mc (List.mem_append_right X hq1) (mc (List.mem_append_right X hq2) mn)) an ?_
  refine TL.fin (by kernel_rfl) ?_
  refine EX.next ?_
  refine TR.block ?_
  refine TR.rounds 2 ?_
  refine TR.seq ?_
  refine TR.reg ?_
  let z5 : Nat × Value := (17, .bool true)
  refine TL.seg0 1 [] [] [0, 1, 2, 3, 4, 15, 16, 17] [z3, (1, vP q1 0), (2, vP q2 0), (3, vP q3 0), (4, vP q4 0), z4, (16, vI 0), z5] (ap [] [T0]) [] [] (fun _ => by kernel_rfl) mn an ?_
  refine TL.fin (by kernel_rfl) ?_
  refine EX.next ?_
  refine TR.seq ?_
  refine TR.yes (by kernel_rfl) (by kernel_rfl) (rfl : true = true) ?_
  refine TR.skip ?_
  refine EX.next ?_
  refine TR.seq ?_
  refine TR.block ?_
  refine TR.seq ?_
  refine TR.reg ?_
  let z6 : Nat × Value := (7, .slice Aa 0 ca)
  refine TL.seg0 2 [] [] [0, 1, 2, 3, 4, 7, 15, 16] [z3, (1, vP q1 0), (2, vP q2 0), (3, vP q3 0), (4, vP q4 0), z6, z4, (16, vI 0)] (ap [] [T0]) [] [] (fun _ => by kernel_rfl) mn an ?_
  refine TL.fin (by kernel_rfl) ?_
  refine EX.next ?_
  refine TR.seq ?_
  refine TR.reg ?_
  let z7 : Nat × Value := (19, .slice Aa 0 ca)
  refine TL.seg0 3 [] [] [0, 1, 2, 3, 4, 7, 15, 16, 19, 20, 21] [z3, (1, vP q1 0), (2, vP q2 0), (3, vP q3 0), (4, vP q4 0), z6, z4, (16, vI 0), z7, (20, vI 0), (21, vI 0)] (ap [] [T0]) [] [] (fun _ => by kernel_rfl) mn an ?_
  refine TL.fin (by kernel_rfl) ?_
  refine EX.next ?_
  refine TR.block ?_
  refine TR.rounds 1 ?_
  refine TR.seq ?_
  refine TR.reg ?_
  refine TL.seg0 1 [] [] [0, 1, 2, 3, 4, 7, 15, 16, 19, 20, 21, 22] [z3, (1, vP q1 0), (2, vP q2 0), (3, vP q3 0), (4, vP q4 0), z6, z4, (16, vI 0), z7, (20, vI 0), (21, vI 0), (22, .bool false)] (ap [] [T0]) [] [] (fun _ => by kernel_rfl) mn an ?_
  refine TL.fin (by kernel_rfl) ?_
  refine EX.next ?_
  refine TR.seq ?_
  refine TR.no (by kernel_rfl) (by kernel_rfl) (rfl : false = false) ?_
  refine TR.exit ?_
  refine EX.thn (by simp) ?_
  refine EX.thn (by simp) ?_
  refine EX.hit ?_
  refine EX.inn ?_
  refine EX.next ?_
  refine TR.reg ?_
  refine TL.seg0 2 [] [] [0, 1, 2, 3, 4, 15, 16] [z3, (1, vP q1 0), (2, vP q2 0), (3, vP q3 0), (4, vP q4 0), z4, (16, vI 1)] (ap [] [T0]) [] [] (fun _ => by kernel_rfl) mn an ?_
  refine TL.fin (by kernel_rfl) ?_
  refine EX.round ?_
  refine TR.seq ?_
  refine TR.reg ?_
  refine TL.seg0 1 [] [] [0, 1, 2, 3, 4, 15, 16, 17] [z3, (1, vP q1 0), (2, vP q2 0), (3, vP q3 0), (4, vP q4 0), z4, (16, vI 1), z5] (ap [] [T0]) [] [] (fun _ => by kernel_rfl) mn an ?_
  refine TL.fin (by kernel_rfl) ?_
  refine EX.next ?_
  refine TR.seq ?_
  refine TR.yes (by kernel_rfl) (by kernel_rfl) (rfl : true = true) ?_
  refine TR.skip ?_
  refine EX.next ?_
  refine TR.seq ?_
  refine TR.block ?_
  refine TR.seq ?_
  refine TR.reg ?_
  let z8 : Nat × Value := (7, vS bb 0 lb.length cb)
  refine TL.seg0 2 [] [] [0, 1, 2, 3, 4, 7, 15, 16] [z3, (1, vP q1 0), (2, vP q2 0), (3, vP q3 0), (4, vP q4 0), z8, z4, (16, vI 1)] (ap [] [T0]) [] [] (fun _ => by kernel_rfl) mn an ?_
  refine TL.fin (by kernel_rfl) ?_
  refine EX.next ?_
  refine TR.seq ?_
  refine TR.reg ?_
  let z9 : Nat × Value := (19, vS bb 0 lb.length cb)
  let z10 : Nat × Value := (20, vI (lb.length : Int))
  refine TL.seg0 3 [] [] [0, 1, 2, 3, 4, 7, 15, 16, 19, 20, 21] [z3, (1, vP q1 0), (2, vP q2 0), (3, vP q3 0), (4, vP q4 0), z8, z4, (16, vI 1), z9, z10, (21, vI 0)] (ap [] [T0]) [] [] (fun _ => by kernel_rfl) mn an ?_
  refine TL.fin (by kernel_rfl) ?_
  refine EX.next ?_
  refine TR.block ?_
  refine TR.loop (A := []) (Ts := [T0]) (σ := Nat × HL) (fun (x : Nat × HL) => match x with | ⟨k, T_⟩ => [z3, (1, vP q1 0), (2, vP q2 0), (3, vP q3 0), (4, vP q4 0), z8, z4, (16, vI 1), z9, z10, (21, vI (k : Int))]) (fun (x : Nat × HL) => match x with | ⟨k, T_⟩ => ap [] [T_]) (fun (x : Nat × HL) => match x with | ⟨k, T_⟩ => k ≤ lb.length ∧ J (([] : List V2).length + k) T_) (fun (x : Nat × HL) => match x with | ⟨k, T_⟩ => lb.length - k) (0, T0) (⟨Nat.zero_le _, hJ0⟩) [0, 1, 2, 3, 4, 7, 15, 16, 19, 20, 21] (by kernel_rfl) [] [] [0] [] (by kernel_rfl) (by kernel_rfl) (by kernel_rfl) ?_
  rintro ⟨k, T_⟩ ⟨hk_, hJ_⟩
  skip
  refine TR.seq ?_
  refine TR.reg ?_
  let z11 : Nat × Value := (21, vI (k : Int))
  refine TL.seg0 1 [] [] [0, 1, 2, 3, 4, 7, 15, 16, 19, 20, 21, 22] [z3, (1, vP q1 0), (2, vP q2 0), (3, vP q3 0), (4, vP q4 0), z8, z4, (16, vI 1), z9, z10, z11, (22, .bool (decide ((k : Int) < (lb.length : Int))))] (ap [] [T_]) [] [] (fun _ => by kernel_rfl) mn an ?_
  refine TL.fin (by kernel_rfl) ?_
  refine EX.next ?_
  refine TR.seq ?_
  rcases Decidable.em ((k : Int) < (lb.length : Int)) with h2 | h2
  · refine TR.yes (b := decide ((k : Int) < (lb.length : Int))) (by kernel_rfl) (by kernel_rfl) (decide_eq_true h2) ?_
    refine TR.skip ?_
    refine EX.next ?_
    refine TR.seq ?_
    refine TR.block ?_
    refine TR.seq ?_
    refine TR.reg ?_
    let z12 : Nat × Blk := (bb, .rows 2 cb (vrow lb) 30 (0, 0))
    let z13 : List Value := [vI ((lb.getD k ⟨0, 0⟩).x), vI ((lb.getD k ⟨0, 0⟩).y)]
    refine TL.seg 6 [z12] [.ix k, .rorow 0 k 0, .rorow 0 k 1, .own 0, .own 0] [0, 1, 2, 3, 4, 7, 8, 9, 15, 16, 19, 20, 21] (fun n3 => [z3, (1, vP q1 0), (2, vP q2 0), (3, vP q3 0), (4, vP q4 0), z8, (8, vI (k : Int)), (9, vP (n3 + 0) 0), z4, (16, vI 1), z9, z10, z11]) (fun n3 => (ap [((n3 + 0), .lit z13 30 (0, 0))] [T_])) (fun n3 => [(n3 + 0), (n3 + 0), bb, bb]) (fun n3 => [((0 + k * 2) + 1) = k * 2 + 1 ∧ k < cb, (0 + k * 2) = k * 2 + 0 ∧ k < cb, (k : Int) = ((k : Nat) : Int) ∧ k < lb.length]) (fun _ => by kernel_rfl) (mc (List.mem_append_right X hbb) mn) (fun n3 => (ac ⟨by omega, by omega⟩ (ac ⟨by omega, by omega⟩ (ac ⟨by omega, by omega⟩ an)))) ?_
    intro n3
    refine TL.fin (by kernel_rfl) ?_
    refine EX.next ?_
    refine TR.seq ?_
    refine TR.reg ?_
    let z14 : Nat × Value := (9, vP (n3 + 0) 0)
    let z15 := (k : Int) + 1
    let z16 : Nat × Blk := ((n3 + 0), .lit z13 30 (0, 0))
    refine TL.seg0 5 [] [.nw] [0, 1, 2, 3, 4, 7, 9, 15, 16, 19, 20, 21, 26, 28, 30] [z3, (1, vP q1 0), (2, vP q2 0), (3, vP q3 0), (4, vP q4 0), z8, z14, z4, (16, vI 1), z9, z10, z11, (26, vS bb 0 lb.length cb), (28, vI z15), (30, vI (lb.length : Int))] (ap [z16] [T_]) [] [-9223372036854775808 ≤ (k : Int) + 1 ∧ (k : Int) + 1 ≤ 9223372036854775807] (fun _ => by kernel_rfl) mn (ac ⟨by omega, by omega⟩ an) ?_
    have hm1 := Int.emod_nonneg ((k : Int) + 1) (show (lb.length : Int) ≠ 0 by omega)
    have hm2 := Int.emod_lt_of_pos ((k : Int) + 1) (show (0 : Int) < lb.length by omega)
    let z17 : List Value := [vI ((lb.getD ((z15 % (lb.length : Int)).toNat) ⟨0, 0⟩).x), vI ((lb.getD ((z15 % (lb.length : Int)).toNat) ⟨0, 0⟩).y)]
    refine TL.seg 5 [z12] [.nw, .ix ((z15 % (lb.length : Int)).toNat), .rorow 0 ((z15 % (lb.length : Int)).toNat) 0, .rorow 0 ((z15 % (lb.length : Int)).toNat) 1, .own 0, .own 0] [0, 1, 2, 3, 4, 7, 9, 10, 15, 16, 19, 20, 21] (fun n4 => [z3, (1, vP q1 0), (2, vP q2 0), (3, vP q3 0), (4, vP q4 0), z8, z14, (10, vP (n4 + 0) 0), z4, (16, vI 1), z9, z10, z11]) (fun n4 => (ap [((n4 + 0), .lit z17 30 (0, 0)), z16] [T_])) (fun n4 => [(n4 + 0), (n4 + 0), bb, bb]) (fun n4 => [((0 + ((((k : Int) + 1) % (lb.length : Int)).toNat) * 2) + 1) = ((((k : Int) + 1) % (lb.length : Int)).toNat) * 2 + 1 ∧ ((((k : Int) + 1) % (lb.length : Int)).toNat) < cb, (0 + ((((k : Int) + 1) % (lb.length : Int)).toNat) * 2) = ((((k : Int) + 1) % (lb.length : Int)).toNat) * 2 + 0 ∧ ((((k : Int) + 1) % (lb.length : Int)).toNat) < cb, ((k : Int) + 1) % (lb.length : Int) = (((((k : Int) + 1) % (lb.length : Int)).toNat : Nat) : Int) ∧ (((k : Int) + 1) % (lb.length : Int)).toNat < lb.length, 0 ≤ (k : Int) + 1 ∧ (0 : Int) < (lb.length : Int) ∧ (k : Int) + 1 ≤ 9223372036854775807]) (fun _ => by kernel_rfl) (mc (List.mem_append_right X hbb) mn) (fun n4 => (ac ⟨by omega, by omega⟩ (ac ⟨by omega, by omega⟩ (ac ⟨by omega, by omega⟩ (ac ⟨by omega, by omega, by omega⟩ an))))) ?_
    intro n4
    refine TL.fin (by kernel_rfl) ?_
    refine EX.next ?_
    refine TR.seq ?_
    refine TR.reg ?_
    let z18 : Nat × Value := (34, .func (.yield lp) #[] #[])
    let z19 := ((lb.getD ((z15 % (lb.length : Int)).toNat) ⟨0, 0⟩).y) - ((lb.getD k ⟨0, 0⟩).y)
    let z20 := IntKind.i64.wrap z19
    let z21 := ((lb.getD k ⟨0, 0⟩).x) - ((lb.getD ((z15 % (lb.length : Int)).toNat) ⟨0, 0⟩).x)
    let z22 := IntKind.i64.wrap z21
    let z23 : Nat × Blk := ((n4 + 0), .lit z17 30 (0, 0))
    refine TL.seg0 12 [] [.own 0, .own 1, .own 1, .own 0] [0, 1, 2, 3, 4, 7, 15, 16, 19, 20, 21, 34, 45] [z3, (1, vP q1 0), (2, vP q2 0), (3, vP q3 0), (4, vP q4 0), z8, z4, (16, vI 1), z9, z10, z11, z18, (45, .agg #[vI z20, vI z22])] (ap [z23, z16] [T_]) [(n4 + 0), (n3 + 0), (n3 + 0), (n4 + 0)] [] (fun _ => by kernel_rfl) mn an ?_
    let z24 := (⟨IntKind.i64.wrap z19, IntKind.i64.wrap z21⟩ : V2)
    let z25 := unitV z24
    refine TL.callp (dst := (some 46)) (f := 90) (args := #[.agg #[vI z20, vI z22]]) (H1 := (ap [z23, z16] [T_])) (E := []) (Ob := []) [] [] [0, 1, 2, 3, 4, 7, 15, 16, 19, 20, 21, 34, 46] (.agg #[vI (z25.x), vI (z25.y)]) [z3, (1, vP q1 0), (2, vP q2 0), (3, vP q3 0), (4, vP q4 0), z8, z4, (16, vI 1), z9, z10, z11, z18, (46, .agg #[vI (z25.x), vI (z25.y)])] (fun _ => by kernel_rfl) mn an (unit_any z24  _) (by kernel_rfl) ?_
    let z26 := ([] : List V2).length + k
    refine TL.yield (dst := (some 47)) (l := lp) (args := #[.agg #[vI (z25.x), vI (z25.y)]]) (A := [z23, z16]) (Ts := [T_]) (Ob := []) [] [] [0] [] [0, 1, 2, 3, 4, 7, 15, 16, 19, 20, 21, 47] T_ [] (fun b H' => (b = true ∧ J (z26 + 1) H') ∨ (b = false ∧ Jx H')) (fun b_ => [z3, (1, vP q1 0), (2, vP q2 0), (3, vP q3 0), (4, vP q4 0), z8, z4, (16, vI 1), z9, z10, z11, (47, .bool b_)]) (fun _ => by kernel_rfl) an (by kernel_rfl) (by kernel_rfl) (by kernel_rfl) (fun _ => by kernel_rfl) (hY z26 (edgeV lb k) _ (ap [z23, z16] []) (axes_2 (a := (⟨ra, [], Aa, ca⟩ : Shp)) (by show k < lb.length; omega)) hJ_) ?_
    rintro b_ T5 (⟨rfl, hJ6⟩ | ⟨rfl, hJ6⟩)
    · refine TL.seg0 1 [] [] [0, 1, 2, 3, 4, 7, 15, 16, 19, 20, 21, 48] [z3, (1, vP q1 0), (2, vP q2 0), (3, vP q3 0), (4, vP q4 0), z8, z4, (16, vI 1), z9, z10, z11, (48, .bool false)] (ap [z23, z16] [T5]) [] [] (fun _ => by kernel_rfl) mn an ?_
      refine TL.fin (by kernel_rfl) ?_
      refine EX.next ?_
      refine TR.no (by kernel_rfl) (by kernel_rfl) (rfl : false = false) ?_
      refine TR.skip ?_
      refine EX.inn ?_
      refine EX.next ?_
      refine TR.reg ?_
      refine TL.seg0 2 [] [.nw] [0, 1, 2, 3, 4, 7, 15, 16, 19, 20, 21] [z3, (1, vP q1 0), (2, vP q2 0), (3, vP q3 0), (4, vP q4 0), z8, z4, (16, vI 1), z9, z10, (21, vI z15)] (ap [z23, z16] [T5]) [] [-9223372036854775808 ≤ (k : Int) + 1 ∧ (k : Int) + 1 ≤ 9223372036854775807] (fun _ => by kernel_rfl) mn (ac ⟨by omega, by omega⟩ an) ?_
      refine TL.fin (by kernel_rfl) ?_
      refine EX.meet (A := [z23, z16]) (Ts := [T5]) (k + 1, T5) ?_ [0, 1, 2, 3, 4, 7, 15, 16, 19, 20, 21] (by kernel_rfl) [] [0, 1] [0] [] (by kernel_rfl) (by kernel_rfl) (by kernel_rfl)
      try dsimp only
      exact ⟨⟨by omega, hJ6⟩, by omega⟩
    · refine TL.seg0 1 [] [] [0, 1, 2, 3, 4, 7, 15, 16, 19, 20, 21, 48] [z3, (1, vP q1 0), (2, vP q2 0), (3, vP q3 0), (4, vP q4 0), z8, z4, (16, vI 1), z9, z10, z11, (48, .bool true)] (ap [z23, z16] [T5]) [] [] (fun _ => by kernel_rfl) mn an ?_
      refine TL.fin (by kernel_rfl) ?_
      refine EX.next ?_
      refine TR.yes (by kernel_rfl) (by kernel_rfl) (rfl : true = true) ?_
      refine TR.ret (A := [z23, z16]) (Ts := [T5]) (by exact fun _ _ h => h) rfl rfl [] [] (.tuple #[]) [] [] (fun _ => by kernel_rfl) mn an [] [0, 1] [0] [] (ap [] [T5]) (by kernel_rfl) (by kernel_rfl) (by kernel_rfl) ?_
      rw [ap_one]
      exact .inr hJ6
  · have ek1 : k = lb.length := by omega
    subst ek1
    refine TR.no (b := decide ((lb.length : Int) < (lb.length : Int))) (by kernel_rfl) (by kernel_rfl) (decide_eq_false h2) ?_
    refine TR.exit ?_
    refine EX.thn (by simp) ?_
    refine EX.thn (by simp) ?_
    refine EX.hit ?_
    refine EX.inn ?_
    refine EX.next ?_
    refine TR.reg ?_
    refine TL.seg0 2 [] [] [0, 1, 2, 3, 4, 15, 16] [z3, (1, vP q1 0), (2, vP q2 0), (3, vP q3 0), (4, vP q4 0), z4, (16, vI 2)] (ap [] [T_]) [] [] (fun _ => by kernel_rfl) mn an ?_
    refine TL.fin (by kernel_rfl) ?_
    refine EX.round ?_
    refine TR.seq ?_
    refine TR.reg ?_
    refine TL.seg0 1 [] [] [0, 1, 2, 3, 4, 15, 16, 17] [z3, (1, vP q1 0), (2, vP q2 0), (3, vP q3 0), (4, vP q4 0), z4, (16, vI 2), (17, .bool false)] (ap [] [T_]) [] [] (fun _ => by kernel_rfl) mn an ?_
    refine TL.fin (by kernel_rfl) ?_
    refine EX.next ?_
    refine TR.seq ?_
    refine TR.no (by kernel_rfl) (by kernel_rfl) (rfl : false = false) ?_
    refine TR.exit ?_
    refine EX.thn (by simp) ?_
    refine EX.thn (by simp) ?_
    refine EX.hit ?_
    refine EX.next ?_
    refine TR.block ?_
    refine TR.seq ?_
    refine TR.reg ?_
    refine TL.seg0 1 [z1] [.ro 0, .ro 0] [0, 1, 2, 3, 4, 52] [z3, (1, vP q1 0), (2, vP q2 0), (3, vP q3 0), (4, vP q4 0), (52, .agg #[vI ra, .slice Aa 0 ca])] (ap [] [T_]) [q1, q1] [] (fun _ => by kernel_rfl) (mc (List.mem_append_right X hq1) mn) an ?_
    refine TL.callp (dst := (some 53)) (f := 91) (args := #[.agg #[vI ra, .slice Aa 0 ca]]) (H1 := (ap [] [T_])) (E := []) (Ob := []) [] [] [0, 1, 2, 3, 4, 53] (.bool true) [z3, (1, vP q1 0), (2, vP q2 0), (3, vP q3 0), (4, vP q4 0), (53, .bool true)] (fun _ => by kernel_rfl) mn an (cc_any ra Aa 0 ca _) (by kernel_rfl) ?_
    let z27 : Nat × Value := (54, .bool true)
    refine TL.seg0 2 [z2] [.ro 0, .ro 0] [0, 1, 2, 3, 4, 54, 55] [z3, (1, vP q1 0), (2, vP q2 0), (3, vP q3 0), (4, vP q4 0), z27, (55, .agg #[vI rb, vS bb 0 lb.length cb])] (ap [] [T_]) [q2, q2] [] (fun _ => by kernel_rfl) (mc (List.mem_append_right X hq2) mn) an ?_
    refine TL.callp (dst := (some 56)) (f := 91) (args := #[.agg #[vI rb, vS bb 0 lb.length cb]]) (H1 := (ap [] [T_])) (E := []) (Ob := []) [] [] [0, 1, 2, 3, 4, 54, 56] (.bool (decide ((lb.length : Int) = 0))) [z3, (1, vP q1 0), (2, vP q2 0), (3, vP q3 0), (4, vP q4 0), z27, (56, .bool (decide ((lb.length : Int) = 0)))] (fun _ => by kernel_rfl) mn an (cc_any rb (some ⟨bb, 0, none⟩) lb.length cb _) (by kernel_rfl) ?_
    refine TL.seg0 2 [] [] [0, 1, 2, 3, 4, 51] [z3, (1, vP q1 0), (2, vP q2 0), (3, vP q3 0), (4, vP q4 0), (51, .bool (decide ((lb.length : Int) = 0)))] (ap [] [T_]) [] [] (fun _ => by kernel_rfl) mn an ?_
    refine TL.fin (by kernel_rfl) ?_
    refine EX.next ?_
    refine TR.no (b := decide ((lb.length : Int) = 0)) (by kernel_rfl) (by kernel_rfl) (decide_eq_false (show ¬ ((lb.length : Int) = 0) by omega)) ?_
    refine TR.seq ?_
    refine TR.reg ?_
    refine TL.seg0 1 [z1] [.ro 0, .ro 0] [0, 1, 2, 3, 4, 65] [z3, (1, vP q1 0), (2, vP q2 0), (3, vP q3 0), (4, vP q4 0), (65, .agg #[vI ra, .slice Aa 0 ca])] (ap [] [T_]) [q1, q1] [] (fun _ => by kernel_rfl) (mc (List.mem_append_right X hq1) mn) an ?_
    refine TL.callp (dst := (some 66)) (f := 91) (args := #[.agg #[vI ra, .slice Aa 0 ca]]) (H1 := (ap [] [T_])) (E := []) (Ob := []) [] [] [0, 1, 2, 3, 4, 66] (.bool true) [z3, (1, vP q1 0), (2, vP q2 0), (3, vP q3 0), (4, vP q4 0), (66, .bool true)] (fun _ => by kernel_rfl) mn an (cc_any ra Aa 0 ca _) (by kernel_rfl) ?_
    refine TL.seg0 1 [] [] [0, 1, 2, 3, 4, 64] [z3, (1, vP q1 0), (2, vP q2 0), (3, vP q3 0), (4, vP q4 0), (64, .bool true)] (ap [] [T_]) [] [] (fun _ => by kernel_rfl) mn an ?_
    refine TL.fin (by kernel_rfl) ?_
    refine EX.next ?_
    refine TR.yes (by kernel_rfl) (by kernel_rfl) (rfl : true = true) ?_
    refine TR.reg ?_
    let z28 : Nat × Value := (67, .func (.yield lp) #[] #[])
    refine TL.seg0 4 [(q4, .lit [vI pa.x, vI pa.y] 30 (0, 0)), z2, (q3, .lit [vI pb.x, vI pb.y] 30 (0, 0))] [.ro 0, .ro 0, .ro 1, .ro 1, .ro 2, .ro 2] [67, 68, 69, 70] [z28, (68, .agg #[vI pa.x, vI pa.y]), (69, .agg #[vI rb, vS bb 0 lb.length cb]), (70, .agg #[vI pb.x, vI pb.y])] (ap [] [T_]) [q3, q3, q2, q2, q4, q4] [] (fun _ => by kernel_rfl) (mc (List.mem_append_right X hq4) (mc (List.mem_append_right X hq2) (mc (List.mem_append_right X hq3) mn))) an ?_
    let z29 := toVert pa (⟨rb, lb, some ⟨bb, 0, none⟩, cb⟩ : Shp) pb
    refine TL.callp (dst := (some 71)) (f := 92) (args := #[.agg #[vI pa.x, vI pa.y], .agg #[vI rb, vS bb 0 lb.length cb], .agg #[vI pb.x, vI pb.y]]) (H1 := (ap [] [T_])) (E := []) (Ob := []) [] [] [67, 71] (.agg #[vI (z29.x), vI (z29.y)]) [z28, (71, .agg #[vI (z29.x), vI (z29.y)])] (fun _ => by kernel_rfl) mn an (toVert_poly pa rb lb bb cb pb _ (List.mem_append_right _ (List.mem_append_right X hbb)) h3b h4b h5b) (by kernel_rfl) ?_
    let z30 := unitV z29
    refine TL.callp (dst := (some 72)) (f := 90) (args := #[.agg #[vI (z29.x), vI (z29.y)]]) (H1 := (ap [] [T_])) (E := []) (Ob := []) [] [] [67, 72] (.agg #[vI (z30.x), vI (z30.y)]) [z28, (72, .agg #[vI (z30.x), vI (z30.y)])] (fun _ => by kernel_rfl) mn an (unit_any z29  _) (by kernel_rfl) ?_
    let z31 := ([] : List V2).length + lb.length
    refine TL.yield (dst := (some 73)) (l := lp) (args := #[.agg #[vI (z30.x), vI (z30.y)]]) (A := []) (Ts := [T_]) (Ob := []) [] [] [0] [] [] T_ [] (fun b H' => (b = true ∧ J (z31 + 1) H') ∨ (b = false ∧ Jx H')) (fun b_ => []) (fun _ => by kernel_rfl) an (by kernel_rfl) (by kernel_rfl) (by kernel_rfl) (fun _ => by kernel_rfl) (hY z31 z30 _ (ap [] []) (axes_3 hlast) hJ_) ?_
    rintro b_ T7 (⟨rfl, hJ8⟩ | ⟨rfl, hJ8⟩)
    · refine TL.fin (by kernel_rfl) ?_
      refine EX.inn ?_
      refine EX.fin (A := []) (Ts := [T7]) rfl rfl [] [] (.tuple #[]) [] [] (fun _ => by kernel_rfl) mn an [] [] [0] [] (ap [] [T7]) (by kernel_rfl) (by kernel_rfl) (by kernel_rfl) ?_
      rw [ap_one]
      exact .inl (by rw [hlen]; exact hJ8)
    · refine TL.fin (by kernel_rfl) ?_
      refine EX.inn ?_
      refine EX.fin (A := []) (Ts := [T7]) rfl rfl [] [] (.tuple #[]) [] [] (fun _ => by kernel_rfl) mn an [] [] [0] [] (ap [] [T7]) (by kernel_rfl) (by kernel_rfl) (by kernel_rfl) ?_
      rw [ap_one]
      exact .inr hJ8

set_option maxHeartbeats 1000000 in
set_option maxRecDepth 100000 in
theorem axes_pc (pa pb : V2) (ra rb : Int) (ca cb : Nat) (la : List V2) (ba : Nat) (Ab : Option Addr) (q1 q2 q3 q4 lp : Nat) (X F : HL) (J : Nat → HL → Prop) (Jx : HL → Prop) (T0 : HL) (hq1 : (q1, .lit [vI ra, vS ba 0 la.length ca] 35 (0, 0)) ∈ F) (hq2 : (q2, .lit [vI rb, .slice Ab 0 cb] 35 (0, 0)) ∈ F) (hq3 : (q3, .lit [vI pb.x, vI pb.y] 30 (0, 0)) ∈ F) (hq4 : (q4, .lit [vI pa.x, vI pa.y] 30 (0, 0)) ∈ F) (hba : (ba, .rows 2 ca (vrow la) 30 (0, 0)) ∈ F) (h3a : 3 ≤ la.length) (h4a : la.length ≤ ca) (h5a : ca ≤ 1000000) (hY : ∀ i x H Y, (axesL (⟨ra, la, some ⟨ba, 0, none⟩, ca⟩ : Shp) pa (⟨rb, [], Ab, cb⟩ : Shp) pb)[i]? = some x → J i H → YL Tryz.prog lp (encV x) H (Y ++ (X ++ F)) (fun b H' => (b = true ∧ J (i + 1) H') ∨ (b = false ∧ Jx H'))) (hJ0 : J 0 T0) : Sp Tryz.prog 89 #[.func (.yield lp) #[] #[], vP q1 0, vP q2 0, vP q3 0, vP q4 0] (ap [] [T0]) (X ++ F) (fun _ H' => J (axesL (⟨ra, la, some ⟨ba, 0, none⟩, ca⟩ : Shp) pa (⟨rb, [], Ab, cb⟩ : Shp) pb).length H' ∨ Jx H') := by
  have hca : ¬ circ (⟨ra, la, some ⟨ba, 0, none⟩, ca⟩ : Shp) := by intro e; simp [circ] at e; subst e; simp at h3a
  have hcb : circ (⟨rb, [], Ab, cb⟩ : Shp) := rfl
  have hlast : lastL (⟨ra, la, some ⟨ba, 0, none⟩, ca⟩ : Shp) pa (⟨rb, [], Ab, cb⟩ : Shp) pb = [unitV (toVert pb (⟨ra, la, some ⟨ba, 0, none⟩, ca⟩ : Shp) pa)] := by simp only [lastL, if_neg hca, if_pos hcb]
  have hlen : (axesL (⟨ra, la, some ⟨ba, 0, none⟩, ca⟩ : Shp) pa (⟨rb, [], Ab, cb⟩ : Shp) pb).length = la.length + ([] : List V2).length + 1 := axes_len (by rw [hlast]; rfl)
  refine Sp.of_body Tryz.func89 rfl rfl rfl [(0, .func (.yield lp) #[] #[]), (1, vP q1 0), (2, vP q2 0), (3, vP q3 0), (4, vP q4 0)] rfl ?_
  intro w0
  refine TR.convH (ap [] [T0]) rfl ?_
  refine TR.seq ?_
  refine TR.seq ?_
  refine TR.reg ?_
  let z1 : Nat × Blk := (q1, .lit [vI ra, vS ba 0 la.length ca] 35 (0, 0))
  let z2 : Nat × Blk := (q2, .lit [vI rb, .slice Ab 0 cb] 35 (0, 0))
  let z3 : Nat × Value := (0, .func (.yield lp) #[] #[])
  let z4 : Nat × Value := (15, .agg #[vS ba 0 la.length ca, .slice Ab 0 cb])
  refine TL.seg0 6 [z1, z2] [.ro 0, .ro 1] [0, 1, 2, 3, 4, 15, 16] [z3, (1, vP q1 0), (2, vP q2 0), (3, vP q3 0), (4, vP q4 0), z4, (16, vI 0)] (ap [] [T0]) [q2, q1] [] (fun _ => by kernel_rfl) (mc (List.mem_append_right X hq1) (mc (List.mem_append_right X hq2) mn)) an ?_
  refine TL.fin (by kernel_rfl) ?_
  refine EX.next ?_
  refine TR.block ?_
  refine TR.rounds 2 ?_
  refine TR.seq ?_
  refine TR.reg ?_
  let z5 : Nat × Value := (17, .bool true)
  refine TL.seg0 1 [] [] [0, 1, 2, 3, 4, 15, 16, 17] [z3, (1, vP q1 0), (2, vP q2 0), (3, vP q3 0), (4, vP q4 0), z4, (16, vI 0), z5] (ap [] [T0]) [] [] (fun _ => by kernel_rfl) mn an ?_
  refine TL.fin (by kernel_rfl) ?_
  refine EX.next ?_
  refine TR.seq ?_
  refine TR.yes (by kernel_rfl) (by kernel_rfl) (rfl : true = true) ?_
  refine TR.skip ?_
  refine EX.next ?_
  refine TR.seq ?_
  refine TR.block ?_
  refine TR.seq ?_
  refine TR.reg ?_
  let z6 : Nat × Value := (7, vS ba 0 la.length ca)
  refine TL.seg0 2 [] [] [0, 1, 2, 3, 4, 7, 15, 16] [z3, (1, vP q1 0), (2, vP q2 0), (3, vP q3 0), (4, vP q4 0), z6, z4, (16, vI 0)] (ap [] [T0]) [] [] (fun _ => by kernel_rfl) mn an ?_
  refine TL.fin (by kernel_rfl) ?_
  refine EX.next ?_
  refine TR.seq ?_
  refine TR.reg ?_
  let z7 : Nat × Value := (19, vS ba 0 la.length ca)
  let z8 : Nat × Value := (20, vI (la.length : Int))
  refine TL.seg0 3 [] [] [0, 1, 2, 3, 4, 7, 15, 16, 19, 20, 21] [z3, (1, vP q1 0), (2, vP q2 0), (3, vP q3 0), (4, vP q4 0), z6, z4, (16, vI 0), z7, z8, (21, vI 0)] (ap [] [T0]) [] [] (fun _ => by kernel_rfl) mn an ?_
  refine TL.fin (by kernel_rfl) ?_
  refine EX.next ?_
  refine TR.block ?_
  refine TR.loop (A := []) (Ts := [T0]) (σ := Nat × HL) (fun (x : Nat × HL) => match x with | ⟨k, T_⟩ => [z3, (1, vP q1 0), (2, vP q2 0), (3, vP q3 0), (4, vP q4 0), z6, z4, (16, vI 0), z7, z8, (21, vI (k : Int))]) (fun (x : Nat × HL) => match x with | ⟨k, T_⟩ => ap [] [T_]) (fun (x : Nat × HL) => match x with | ⟨k, T_⟩ => k ≤ la.length ∧ J (k) T_) (fun (x : Nat × HL) => match x with | ⟨k, T_⟩ => la.length - k) (0, T0) (⟨Nat.zero_le _, hJ0⟩) [0, 1, 2, 3, 4, 7, 15, 16, 19, 20, 21] (by kernel_rfl) [] [] [0] [] (by kernel_rfl) (by kernel_rfl) (by kernel_rfl) ?_
  rintro ⟨k, T_⟩ ⟨hk_, hJ_⟩
  skip
  refine TR.seq ?_
  refine TR.reg ?_
  let z9 : Nat × Value := (21, vI (k : Int))
  refine TL.seg0 1 [] [] [0, 1, 2, 3, 4, 7, 15, 16, 19, 20, 21, 22] [z3, (1, vP q1 0), (2, vP q2 0), (3, vP q3 0), (4, vP q4 0), z6, z4, (16, vI 0), z7, z8, z9, (22, .bool (decide ((k : Int) < (la.length : Int))))] (ap [] [T_]) [] [] (fun _ => by kernel_rfl) mn an ?_
  refine TL.fin (by kernel_rfl) ?_
  refine EX.next ?_
  refine TR.seq ?_
  rcases Decidable.em ((k : Int) < (la.length : Int)) with h2 | h2
  · refine TR.yes (b := decide ((k : Int) < (la.length : Int))) (by kernel_rfl) (by kernel_rfl) (decide_eq_true h2) ?_
    refine TR.skip ?_
    refine EX.next ?_
    refine TR.seq ?_
    refine TR.block ?_
    refine TR.seq ?_
    refine TR.reg ?_
    let z10 : Nat × Blk := (ba, .rows 2 ca (vrow la) 30 (0, 0))
    let z11 : List Value := [vI ((la.getD k ⟨0, 0⟩).x), vI ((la.getD k ⟨0, 0⟩).y)]
    refine TL.seg 6 [z10] [.ix k, .rorow 0 k 0, .rorow 0 k 1, .own 0, .own 0] [0, 1, 2, 3, 4, 7, 8, 9, 15, 16, 19, 20, 21] (fun n3 => [z3, (1, vP q1 0), (2, vP q2 0), (3, vP q3 0), (4, vP q4 0), z6, (8, vI (k : Int)), (9, vP (n3 + 0) 0), z4, (16, vI 0), z7, z8, z9]) (fun n3 => (ap [((n3 + 0), .lit z11 30 (0, 0))] [T_])) (fun n3 => [(n3 + 0), (n3 + 0), ba, ba]) (fun n3 => [((0 + k * 2) + 1) = k * 2 + 1 ∧ k < ca, (0 + k * 2) = k * 2 + 0 ∧ k < ca, (k : Int) = ((k : Nat) : Int) ∧ k < la.length]) (fun _ => by kernel_rfl) (mc (List.mem_append_right X hba) mn) (fun n3 => (ac ⟨by omega, by omega⟩ (ac ⟨by omega, by omega⟩ (ac ⟨by omega, by omega⟩ an)))) ?_
    intro n3
    refine TL.fin (by kernel_rfl) ?_
    refine EX.next ?_
    refine TR.seq ?_
    refine TR.reg ?_
    let z12 : Nat × Value := (9, vP (n3 + 0) 0)
    let z13 := (k : Int) + 1
    let z14 : Nat × Blk := ((n3 + 0), .lit z11 30 (0, 0))
    refine TL.seg0 5 [] [.nw] [0, 1, 2, 3, 4, 7, 9, 15, 16, 19, 20, 21, 26, 28, 30] [z3, (1, vP q1 0), (2, vP q2 0), (3, vP q3 0), (4, vP q4 0), z6, z12, z4, (16, vI 0), z7, z8, z9, (26, vS ba 0 la.length ca), (28, vI z13), (30, vI (la.length : Int))] (ap [z14] [T_]) [] [-9223372036854775808 ≤ (k : Int) + 1 ∧ (k : Int) + 1 ≤ 9223372036854775807] (fun _ => by kernel_rfl) mn (ac ⟨by omega, by omega⟩ an) ?_
    have hm1 := Int.emod_nonneg ((k : Int) + 1) (show (la.length : Int) ≠ 0 by omega)
    have hm2 := Int.emod_lt_of_pos ((k : Int) + 1) (show (0 : Int) < la.length by omega)
    let z15 : List Value := [vI ((la.getD ((z13 % (la.length : Int)).toNat) ⟨0, 0⟩).x), vI ((la.getD ((z13 % (la.length : Int)).toNat) ⟨0, 0⟩).y)]
    refine TL.seg 5 [z10] [.nw, .ix ((z13 % (la.length : Int)).toNat), .rorow 0 ((z13 % (la.length : Int)).toNat) 0, .rorow 0 ((z13 % (la.length : Int)).toNat) 1, .own 0, .own 0] [0, 1, 2, 3, 4, 7, 9, 10, 15, 16, 19, 20, 21] (fun n4 => [z3, (1, vP q1 0), (2, vP q2 0), (3, vP q3 0), (4, vP q4 0), z6, z12, (10, vP (n4 + 0) 0), z4, (16, vI 0), z7, z8, z9]) (fun n4 => (ap [((n4 + 0), .lit z15 30 (0, 0)), z14] [T_])) (fun n4 => [(n4 + 0), (n4 + 0), ba, ba]) (fun n4 => [((0 + ((((k : Int) + 1) % (la.length : Int)).toNat) * 2) + 1) = ((((k : Int) + 1) % (la.length : Int)).toNat) * 2 + 1 ∧ ((((k : Int) + 1) % (la.length : Int)).toNat) < ca, (0 + ((((k : Int) + 1) % (la.length : Int)).toNat) * 2) = ((((k : Int) + 1) % (la.length : Int)).toNat) * 2 + 0 ∧ ((((k : Int) + 1) % (la.length : Int)).toNat) < ca, ((k : Int) + 1) % (la.length : Int) = (((((k : Int) + 1) % (la.length : Int)).toNat : Nat) : Int) ∧ (((k : Int) + 1) % (la.length : Int)).toNat < la.length, 0 ≤ (k : Int) + 1 ∧ (0 : Int) < (la.length : Int) ∧ (k : Int) + 1 ≤ 9223372036854775807]) (fun _ => by kernel_rfl) (mc (List.mem_append_right X hba) mn) (fun n4 => (ac ⟨by omega, by omega⟩ (ac ⟨by omega, by omega⟩ (ac ⟨by omega, by omega⟩ (ac ⟨by omega, by omega, by omega⟩ an))))) ?_
    intro n4
    refine TL.fin (by kernel_rfl) ?_
    refine EX.next ?_
    refine TR.seq ?_
    refine TR.reg ?_
    let z16 : Nat × Value := (34, .func (.yield lp) #[] #[])
    let z17 := ((la.getD ((z13 % (la.length : Int)).toNat) ⟨0, 0⟩).y) - ((la.getD k ⟨0, 0⟩).y)
    let z18 := IntKind.i64.wrap z17
    let z19 := ((la.getD k ⟨0, 0⟩).x) - ((la.getD ((z13 % (la.length : Int)).toNat) ⟨0, 0⟩).x)
    let z20 := IntKind.i64.wrap z19
    let z21 : Nat × Blk := ((n4 + 0), .lit z15 30 (0, 0))
    refine TL.seg0 12 [] [.own 0, .own 1, .own 1, .own 0] [0, 1, 2, 3, 4, 7, 15, 16, 19, 20, 21, 34, 45] [z3, (1, vP q1 0), (2, vP q2 0), (3, vP q3 0), (4, vP q4 0), z6, z4, (16, vI 0), z7, z8, z9, z16, (45, .agg #[vI z18, vI z20])] (ap [z21, z14] [T_]) [(n4 + 0), (n3 + 0), (n3 + 0), (n4 + 0)] [] (fun _ => by kernel_rfl) mn an ?_
    let z22 := (⟨IntKind.i64.wrap z17, IntKind.i64.wrap z19⟩ : V2)
    let z23 := unitV z22
    refine TL.callp (dst := (some 46)) (f := 90) (args := #[.agg #[vI z18, vI z20]]) (H1 := (ap [z21, z14] [T_])) (E := []) (Ob := []) [] [] [0, 1, 2, 3, 4, 7, 15, 16, 19, 20, 21, 34, 46] (.agg #[vI (z23.x), vI (z23.y)]) [z3, (1, vP q1 0), (2, vP q2 0), (3, vP q3 0), (4, vP q4 0), z6, z4, (16, vI 0), z7, z8, z9, z16, (46, .agg #[vI (z23.x), vI (z23.y)])] (fun _ => by kernel_rfl) mn an (unit_any z22  _) (by kernel_rfl) ?_
    refine TL.yield (dst := (some 47)) (l := lp) (args := #[.agg #[vI (z23.x), vI (z23.y)]]) (A := [z21, z14]) (Ts := [T_]) (Ob := []) [] [] [0] [] [0, 1, 2, 3, 4, 7, 15, 16, 19, 20, 21, 47] T_ [] (fun b H' => (b = true ∧ J (k + 1) H') ∨ (b = false ∧ Jx H')) (fun b_ => [z3, (1, vP q1 0), (2, vP q2 0), (3, vP q3 0), (4, vP q4 0), z6, z4, (16, vI 0), z7, z8, z9, (47, .bool b_)]) (fun _ => by kernel_rfl) an (by kernel_rfl) (by kernel_rfl) (by kernel_rfl) (fun _ => by kernel_rfl) (hY k (edgeV la k) _ (ap [z21, z14] []) (axes_1 (by show k < la.length; omega)) hJ_) ?_
    rintro b_ T5 (⟨rfl, hJ6⟩ | ⟨rfl, hJ6⟩)
    · refine TL.seg0 1 [] [] [0, 1, 2, 3, 4, 7, 15, 16, 19, 20, 21, 48] [z3, (1, vP q1 0), (2, vP q2 0), (3, vP q3 0), (4, vP q4 0), z6, z4, (16, vI 0), z7, z8, z9, (48, .bool false)] (ap [z21, z14] [T5]) [] [] (fun _ => by kernel_rfl) mn an ?_
      refine TL.fin (by kernel_rfl) ?_
      refine EX.next ?_
      refine TR.no (by kernel_rfl) (by kernel_rfl) (rfl : false = false) ?_
      refine TR.skip ?_
      refine EX.inn ?_
      refine EX.next ?_
      refine TR.reg ?_
      refine TL.seg0 2 [] [.nw] [0, 1, 2, 3, 4, 7, 15, 16, 19, 20, 21] [z3, (1, vP q1 0), (2, vP q2 0), (3, vP q3 0), (4, vP q4 0), z6, z4, (16, vI 0), z7, z8, (21, vI z13)] (ap [z21, z14] [T5]) [] [-9223372036854775808 ≤ (k : Int) + 1 ∧ (k : Int) + 1 ≤ 9223372036854775807] (fun _ => by kernel_rfl) mn (ac ⟨by omega, by omega⟩ an) ?_
      refine TL.fin (by kernel_rfl) ?_
      refine EX.meet (A := [z21, z14]) (Ts := [T5]) (k + 1, T5) ?_ [0, 1, 2, 3, 4, 7, 15, 16, 19, 20, 21] (by kernel_rfl) [] [0, 1] [0] [] (by kernel_rfl) (by kernel_rfl) (by kernel_rfl)
      try dsimp only
      exact ⟨⟨by omega, hJ6⟩, by omega⟩
    · refine TL.seg0 1 [] [] [0, 1, 2, 3, 4, 7, 15, 16, 19, 20, 21, 48] [z3, (1, vP q1 0), (2, vP q2 0), (3, vP q3 0), (4, vP q4 0), z6, z4, (16, vI 0), z7, z8, z9, (48, .bool true)] (ap [z21, z14] [T5]) [] [] (fun _ => by kernel_rfl) mn an ?_
      refine TL.fin (by kernel_rfl) ?_
      refine EX.next ?_
      refine TR.yes (by kernel_rfl) (by kernel_rfl) (rfl : true = true) ?_
      refine TR.ret (A := [z21, z14]) (Ts := [T5]) (by exact fun _ _ h => h) rfl rfl [] [] (.tuple #[]) [] [] (fun _ => by kernel_rfl) mn an [] [0, 1] [0] [] (ap [] [T5]) (by kernel_rfl) (by kernel_rfl) (by kernel_rfl) ?_
      rw [ap_one]
      exact .inr hJ6
  · have ek0 : k = la.length := by omega
    subst ek0
    refine TR.no (b := decide ((la.length : Int) < (la.length : Int))) (by kernel_rfl) (by kernel_rfl) (decide_eq_false h2) ?_
    refine TR.exit ?_
    refine EX.thn (by simp) ?_
    refine EX.thn (by simp) ?_
    refine EX.hit ?_
    refine EX.inn ?_
    refine EX.next ?_
    refine TR.reg ?_
    refine TL.seg0 2 [] [] [0, 1, 2, 3, 4, 15, 16] [z3, (1, vP q1 0), (2, vP q2 0), (3, vP q3 0), (4, vP q4 0), z4, (16, vI 1)] (ap [] [T_]) [] [] (fun _ => by kernel_rfl) mn an ?_
    refine TL.fin (by kernel_rfl) ?_
    refine EX.round ?_
    refine TR.seq ?_
    refine TR.reg ?_
    refine TL.seg0 1 [] [] [0, 1, 2, 3, 4, 15, 16, 17] [z3, (1, vP q1 0), (2, vP q2 0), (3, vP q3 0), (4, vP q4 0), z4, (16, vI 1), z5] (ap [] [T_]) [] [] (fun _ => by kernel_rfl) mn an ?_
    refine TL.fin (by kernel_rfl) ?_
    refine EX.next ?_
    refine TR.seq ?_
    refine TR.yes (by kernel_rfl) (by kernel_rfl) (rfl : true = true) ?_
    refine TR.skip ?_
    refine EX.next ?_
    refine TR.seq ?_
    refine TR.block ?_
    refine TR.seq ?_
    refine TR.reg ?_
    let z24 : Nat × Value := (7, .slice Ab 0 cb)
    refine TL.seg0 2 [] [] [0, 1, 2, 3, 4, 7, 15, 16] [z3, (1, vP q1 0), (2, vP q2 0), (3, vP q3 0), (4, vP q4 0), z24, z4, (16, vI 1)] (ap [] [T_]) [] [] (fun _ => by kernel_rfl) mn an ?_
    refine TL.fin (by kernel_rfl) ?_
    refine EX.next ?_
    refine TR.seq ?_
    refine TR.reg ?_
    let z25 : Nat × Value := (19, .slice Ab 0 cb)
    refine TL.seg0 3 [] [] [0, 1, 2, 3, 4, 7, 15, 16, 19, 20, 21] [z3, (1, vP q1 0), (2, vP q2 0), (3, vP q3 0), (4, vP q4 0), z24, z4, (16, vI 1), z25, (20, vI 0), (21, vI 0)] (ap [] [T_]) [] [] (fun _ => by kernel_rfl) mn an ?_
    refine TL.fin (by kernel_rfl) ?_
    refine EX.next ?_
    refine TR.block ?_
    refine TR.rounds 1 ?_
    refine TR.seq ?_
    refine TR.reg ?_
    refine TL.seg0 1 [] [] [0, 1, 2, 3, 4, 7, 15, 16, 19, 20, 21, 22] [z3, (1, vP q1 0), (2, vP q2 0), (3, vP q3 0), (4, vP q4 0), z24, z4, (16, vI 1), z25, (20, vI 0), (21, vI 0), (22, .bool false)] (ap [] [T_]) [] [] (fun _ => by kernel_rfl) mn an ?_
    refine TL.fin (by kernel_rfl) ?_
    refine EX.next ?_
    refine TR.seq ?_
    refine TR.no (by kernel_rfl) (by kernel_rfl) (rfl : false = false) ?_
    refine TR.exit ?_
    refine EX.thn (by simp) ?_
    refine EX.thn (by simp) ?_
    refine EX.hit ?_
    refine EX.inn ?_
    refine EX.next ?_
    refine TR.reg ?_
    refine TL.seg0 2 [] [] [0, 1, 2, 3, 4, 15, 16] [z3, (1, vP q1 0), (2, vP q2 0), (3, vP q3 0), (4, vP q4 0), z4, (16, vI 2)] (ap [] [T_]) [] [] (fun _ => by kernel_rfl) mn an ?_
    refine TL.fin (by kernel_rfl) ?_
    refine EX.round ?_
    refine TR.seq ?_
    refine TR.reg ?_
    refine TL.seg0 1 [] [] [0, 1, 2, 3, 4, 15, 16, 17] [z3, (1, vP q1 0), (2, vP q2 0), (3, vP q3 0), (4, vP q4 0), z4, (16, vI 2), (17, .bool false)] (ap [] [T_]) [] [] (fun _ => by kernel_rfl) mn an ?_
    refine TL.fin (by kernel_rfl) ?_
    refine EX.next ?_
    refine TR.seq ?_
    refine TR.no (by kernel_rfl) (by kernel_rfl) (rfl : false = false) ?_
    refine TR.exit ?_
    refine EX.thn (by simp) ?_
    refine EX.thn (by simp) ?_
    refine EX.hit ?_
    refine EX.next ?_
    refine TR.block ?_
    refine TR.seq ?_
    refine TR.reg ?_
    refine TL.seg0 1 [z1] [.ro 0, .ro 0] [0, 1, 2, 3, 4, 52] [z3, (1, vP q1 0), (2, vP q2 0), (3, vP q3 0), (4, vP q4 0), (52, .agg #[vI ra, vS ba 0 la.length ca])] (ap [] [T_]) [q1, q1] [] (fun _ => by kernel_rfl) (mc (List.mem_append_right X hq1) mn) an ?_
    refine TL.callp (dst := (some 53)) (f := 91) (args := #[.agg #[vI ra, vS ba 0 la.length ca]]) (H1 := (ap [] [T_])) (E := []) (Ob := []) [] [] [0, 1, 2, 3, 4, 53] (.bool (decide ((la.length : Int) = 0))) [z3, (1, vP q1 0), (2, vP q2 0), (3, vP q3 0), (4, vP q4 0), (53, .bool (decide ((la.length : Int) = 0)))] (fun _ => by kernel_rfl) mn an (cc_any ra (some ⟨ba, 0, none⟩) la.length ca _) (by kernel_rfl) ?_
    refine TL.seg0 5 [] [.gd false, .gd false, .gd false] [0, 1, 2, 3, 4, 51] [z3, (1, vP q1 0), (2, vP q2 0), (3, vP q3 0), (4, vP q4 0), (51, .bool false)] (ap [] [T_]) [] [(decide ((la.length : Int) = 0)) = false, (decide ((la.length : Int) = 0)) = false, (decide ((la.length : Int) = 0)) = false] (fun _ => by kernel_rfl) mn (ac (decide_eq_false (show ¬ ((la.length : Int) = 0) by omega)) (ac (decide_eq_false (show ¬ ((la.length : Int) = 0) by omega)) (ac (decide_eq_false (show ¬ ((la.length : Int) = 0) by omega)) an))) ?_
    refine TL.fin (by kernel_rfl) ?_
    refine EX.next ?_
    refine TR.no (by kernel_rfl) (by kernel_rfl) (rfl : false = false) ?_
    refine TR.seq ?_
    refine TR.reg ?_
    refine TL.seg0 1 [z1] [.ro 0, .ro 0] [0, 1, 2, 3, 4, 65] [z3, (1, vP q1 0), (2, vP q2 0), (3, vP q3 0), (4, vP q4 0), (65, .agg #[vI ra, vS ba 0 la.length ca])] (ap [] [T_]) [q1, q1] [] (fun _ => by kernel_rfl) (mc (List.mem_append_right X hq1) mn) an ?_
    refine TL.callp (dst := (some 66)) (f := 91) (args := #[.agg #[vI ra, vS ba 0 la.length ca]]) (H1 := (ap [] [T_])) (E := []) (Ob := []) [] [] [0, 1, 2, 3, 4, 66] (.bool (decide ((la.length : Int) = 0))) [z3, (1, vP q1 0), (2, vP q2 0), (3, vP q3 0), (4, vP q4 0), (66, .bool (decide ((la.length : Int) = 0)))] (fun _ => by kernel_rfl) mn an (cc_any ra (some ⟨ba, 0, none⟩) la.length ca _) (by kernel_rfl) ?_
    refine TL.seg0 1 [] [] [0, 1, 2, 3, 4, 64] [z3, (1, vP q1 0), (2, vP q2 0), (3, vP q3 0), (4, vP q4 0), (64, .bool (decide ((la.length : Int) = 0)))] (ap [] [T_]) [] [] (fun _ => by kernel_rfl) mn an ?_
    refine TL.fin (by kernel_rfl) ?_
    refine EX.next ?_
    refine TR.no (b := decide ((la.length : Int) = 0)) (by kernel_rfl) (by kernel_rfl) (decide_eq_false (show ¬ ((la.length : Int) = 0) by omega)) ?_
    refine TR.seq ?_
    refine TR.reg ?_
    refine TL.seg0 1 [z2] [.ro 0, .ro 0] [0, 1, 3, 4, 75] [z3, (1, vP q1 0), (3, vP q3 0), (4, vP q4 0), (75, .agg #[vI rb, .slice Ab 0 cb])] (ap [] [T_]) [q2, q2] [] (fun _ => by kernel_rfl) (mc (List.mem_append_right X hq2) mn) an ?_
    refine TL.callp (dst := (some 76)) (f := 91) (args := #[.agg #[vI rb, .slice Ab 0 cb]]) (H1 := (ap [] [T_])) (E := []) (Ob := []) [] [] [0, 1, 3, 4, 76] (.bool true) [z3, (1, vP q1 0), (3, vP q3 0), (4, vP q4 0), (76, .bool true)] (fun _ => by kernel_rfl) mn an (cc_any rb Ab 0 cb _) (by kernel_rfl) ?_
    refine TL.seg0 1 [] [] [0, 1, 3, 4, 74] [z3, (1, vP q1 0), (3, vP q3 0), (4, vP q4 0), (74, .bool true)] (ap [] [T_]) [] [] (fun _ => by kernel_rfl) mn an ?_
    refine TL.fin (by kernel_rfl) ?_
    refine EX.next ?_
    refine TR.yes (by kernel_rfl) (by kernel_rfl) (rfl : true = true) ?_
    refine TR.reg ?_
    let z26 : Nat × Value := (77, .func (.yield lp) #[] #[])
    refine TL.seg0 4 [(q3, .lit [vI pb.x, vI pb.y] 30 (0, 0)), z1, (q4, .lit [vI pa.x, vI pa.y] 30 (0, 0))] [.ro 0, .ro 0, .ro 1, .ro 1, .ro 2, .ro 2] [77, 78, 79, 80] [z26, (78, .agg #[vI pb.x, vI pb.y]), (79, .agg #[vI ra, vS ba 0 la.length ca]), (80, .agg #[vI pa.x, vI pa.y])] (ap [] [T_]) [q4, q4, q1, q1, q3, q3] [] (fun _ => by kernel_rfl) (mc (List.mem_append_right X hq3) (mc (List.mem_append_right X hq1) (mc (List.mem_append_right X hq4) mn))) an ?_
    let z27 := toVert pb (⟨ra, la, some ⟨ba, 0, none⟩, ca⟩ : Shp) pa
    refine TL.callp (dst := (some 81)) (f := 92) (args := #[.agg #[vI pb.x, vI pb.y], .agg #[vI ra, vS ba 0 la.length ca], .agg #[vI pa.x, vI pa.y]]) (H1 := (ap [] [T_])) (E := []) (Ob := []) [] [] [77, 81] (.agg #[vI (z27.x), vI (z27.y)]) [z26, (81, .agg #[vI (z27.x), vI (z27.y)])] (fun _ => by kernel_rfl) mn an (toVert_poly pb ra la ba ca pa _ (List.mem_append_right _ (List.mem_append_right X hba)) h3a h4a h5a) (by kernel_rfl) ?_
    let z28 := unitV z27
    refine TL.callp (dst := (some 82)) (f := 90) (args := #[.agg #[vI (z27.x), vI (z27.y)]]) (H1 := (ap [] [T_])) (E := []) (Ob := []) [] [] [77, 82] (.agg #[vI (z28.x), vI (z28.y)]) [z26, (82, .agg #[vI (z28.x), vI (z28.y)])] (fun _ => by kernel_rfl) mn an (unit_any z27  _) (by kernel_rfl) ?_
    refine TL.yield (dst := (some 83)) (l := lp) (args := #[.agg #[vI (z28.x), vI (z28.y)]]) (A := []) (Ts := [T_]) (Ob := []) [] [] [0] [] [] T_ [] (fun b H' => (b = true ∧ J (la.length + 1) H') ∨ (b = false ∧ Jx H')) (fun b_ => []) (fun _ => by kernel_rfl) an (by kernel_rfl) (by kernel_rfl) (by kernel_rfl) (fun _ => by kernel_rfl) (hY la.length z28 _ (ap [] []) (axes_3 hlast) hJ_) ?_
    rintro b_ T7 (⟨rfl, hJ8⟩ | ⟨rfl, hJ8⟩)
    · refine TL.fin (by kernel_rfl) ?_
      refine EX.inn ?_
      refine EX.fin (A := []) (Ts := [T7]) rfl rfl [] [] (.tuple #[]) [] [] (fun _ => by kernel_rfl) mn an [] [] [0] [] (ap [] [T7]) (by kernel_rfl) (by kernel_rfl) (by kernel_rfl) ?_
      rw [ap_one]
      exact .inl (by rw [hlen]; exact hJ8)
    · refine TL.fin (by kernel_rfl) ?_
      refine EX.inn ?_
      refine EX.fin (A := []) (Ts := [T7]) rfl rfl [] [] (.tuple #[]) [] [] (fun _ => by kernel_rfl) mn an [] [] [0] [] (ap [] [T7]) (by kernel_rfl) (by kernel_rfl) (by kernel_rfl) ?_
      rw [ap_one]
      exact .inr hJ8

set_option maxHeartbeats 1000000 in
set_option maxRecDepth 100000 in
theorem axes_pp (pa pb : V2) (ra rb : Int) (ca cb : Nat) (la : List V2) (ba : Nat) (lb : List V2) (bb : Nat) (q1 q2 q3 q4 lp : Nat) (X F : HL) (J : Nat → HL → Prop) (Jx : HL → Prop) (T0 : HL) (hq1 : (q1, .lit [vI ra, vS ba 0 la.length ca] 35 (0, 0)) ∈ F) (hq2 : (q2, .lit [vI rb, vS bb 0 lb.length cb] 35 (0, 0)) ∈ F) (hq3 : (q3, .lit [vI pb.x, vI pb.y] 30 (0, 0)) ∈ F) (hq4 : (q4, .lit [vI pa.x, vI pa.y] 30 (0, 0)) ∈ F) (hba : (ba, .rows 2 ca (vrow la) 30 (0, 0)) ∈ F) (h3a : 3 ≤ la.length) (h4a : la.length ≤ ca) (h5a : ca ≤ 1000000) (hbb : (bb, .rows 2 cb (vrow lb) 30 (0, 0)) ∈ F) (h3b : 3 ≤ lb.length) (h4b : lb.length ≤ cb) (h5b : cb ≤ 1000000) (hY : ∀ i x H Y, (axesL (⟨ra, la, some ⟨ba, 0, none⟩, ca⟩ : Shp) pa (⟨rb, lb, some ⟨bb, 0, none⟩, cb⟩ : Shp) pb)[i]? = some x → J i H → YL Tryz.prog lp (encV x) H (Y ++ (X ++ F)) (fun b H' => (b = true ∧ J (i + 1) H') ∨ (b = false ∧ Jx H'))) (hJ0 : J 0 T0) : Sp Tryz.prog 89 #[.func (.yield lp) #[] #[], vP q1 0, vP q2 0, vP q3 0, vP q4 0] (ap [] [T0]) (X ++ F) (fun _ H' => J (axesL (⟨ra, la, some ⟨ba, 0, none⟩, ca⟩ : Shp) pa (⟨rb, lb, some ⟨bb, 0, none⟩, cb⟩ : Shp) pb).length H' ∨ Jx H') := by
  have hca : ¬ circ (⟨ra, la, some ⟨ba, 0, none⟩, ca⟩ : Shp) := by intro e; simp [circ] at e; subst e; simp at h3a
  have hcb : ¬ circ (⟨rb, lb, some ⟨bb, 0, none⟩, cb⟩ : Shp) := by intro e; simp [circ] at e; subst e; simp at h3b
  have hlast : lastL (⟨ra, la, some ⟨ba, 0, none⟩, ca⟩ : Shp) pa (⟨rb, lb, some ⟨bb, 0, none⟩, cb⟩ : Shp) pb = [] := by simp only [lastL, if_neg hca, if_neg hcb]
  have hlen : (axesL (⟨ra, la, some ⟨ba, 0, none⟩, ca⟩ : Shp) pa (⟨rb, lb, some ⟨bb, 0, none⟩, cb⟩ : Shp) pb).length = la.length + lb.length + 0 := axes_len (by rw [hlast]; rfl)
  refine Sp.of_body Tryz.func89 rfl rfl rfl [(0, .func (.yield lp) #[] #[]), (1, vP q1 0), (2, vP q2 0), (3, vP q3 0), (4, vP q4 0)] rfl ?_
  intro w0
  refine TR.convH (ap [] [T0]) rfl ?_
  refine TR.seq ?_
  refine TR.seq ?_
  refine TR.reg ?_
  refine TL.seg0 6 [(q1, .lit [vI ra, vS ba 0 la.length ca] 35 (0, 0)), (q2, .lit [vI rb, vS bb 0 lb.length cb] 35 (0, 0))] [.ro 0, .ro 1] [0, 1, 2, 3, 4, 15, 16] [(0, .func (.yield lp) #[] #[]), (1, vP q1 0), (2, vP q2 0), (3, vP q3 0), (4, vP q4 0), (15, .agg #[vS ba 0 la.length ca, vS bb 0 lb.length cb]), (16, vI 0)] (ap [] [T0]) [q2, q1] [] (fun _ => by kernel_rfl) (mc (List.mem_append_right X hq1) (mc (List.mem_append_right X hq2) mn)) an ?_
  refine TL.fin (by kernel_rfl) ?_
  refine EX.next ?_
  refine TR.block ?_
  refine TR.rounds 2 ?_
  refine TR.seq ?_
  refine TR.reg ?_
  refine TL.seg0 1 [] [] [0, 1, 2, 3, 4, 15, 16, 17] [(0, .func (.yield lp) #[] #[]), (1, vP q1 0), (2, vP q2 0), (3, vP q3 0), (4, vP q4 0), (15, .agg #[vS ba 0 la.length ca, vS bb 0 lb.length cb]), (16, vI 0), (17, .bool true)] (ap [] [T0]) [] [] (fun _ => by kernel_rfl) mn an ?_
  refine TL.fin (by kernel_rfl) ?_
  refine EX.next ?_
  refine TR.seq ?_
  refine TR.yes (by kernel_rfl) (by kernel_rfl) (rfl : true = true) ?_
  refine TR.skip ?_
  refine EX.next ?_
  refine TR.seq ?_
  refine TR.block ?_
  refine TR.seq ?_
  refine TR.reg ?_
  refine TL.seg0 2 [] [] [0, 1, 2, 3, 4, 7, 15, 16] [(0, .func (.yield lp) #[] #[]), (1, vP q1 0), (2, vP q2 0), (3, vP q3 0), (4, vP q4 0), (7, vS ba 0 la.length ca), (15, .agg #[vS ba 0 la.length ca, vS bb 0 lb.length cb]), (16, vI 0)] (ap [] [T0]) [] [] (fun _ => by kernel_rfl) mn an ?_
  refine TL.fin (by kernel_rfl) ?_
  refine EX.next ?_
  refine TR.seq ?_
  refine TR.reg ?_
  refine TL.seg0 3 [] [] [0, 1, 2, 3, 4, 7, 15, 16, 19, 20, 21] [(0, .func (.yield lp) #[] #[]), (1, vP q1 0), (2, vP q2 0), (3, vP q3 0), (4, vP q4 0), (7, vS ba 0 la.length ca), (15, .agg #[vS ba 0 la.length ca, vS bb 0 lb.length cb]), (16, vI 0), (19, vS ba 0 la.length ca), (20, vI (la.length : Int)), (21, vI 0)] (ap [] [T0]) [] [] (fun _ => by kernel_rfl) mn an ?_
  refine TL.fin (by kernel_rfl) ?_
  refine EX.next ?_
  refine TR.block ?_
  refine TR.loop (A := []) (Ts := [T0]) (σ := Nat × HL) (fun (x : Nat × HL) => match x with | ⟨k, T_⟩ => [(0, .func (.yield lp) #[] #[]), (1, vP q1 0), (2, vP q2 0), (3, vP q3 0), (4, vP q4 0), (7, vS ba 0 la.length ca), (15, .agg #[vS ba 0 la.length ca, vS bb 0 lb.length cb]), (16, vI 0), (19, vS ba 0 la.length ca), (20, vI (la.length : Int)), (21, vI (k : Int))]) (fun (x : Nat × HL) => match x with | ⟨k, T_⟩ => ap [] [T_]) (fun (x : Nat × HL) => match x with | ⟨k, T_⟩ => k ≤ la.length ∧ J (k) T_) (fun (x : Nat × HL) => match x with | ⟨k, T_⟩ => la.length - k) (0, T0) (⟨Nat.zero_le _, hJ0⟩) [0, 1, 2, 3, 4, 7, 15, 16, 19, 20, 21] (by kernel_rfl) [] [] [0] [] (by kernel_rfl) (by kernel_rfl) (by kernel_rfl) ?_
  rintro ⟨k, T_⟩ ⟨hk_, hJ_⟩
  skip
  refine TR.seq ?_
  refine TR.reg ?_
  refine TL.seg0 1 [] [] [0, 1, 2, 3, 4, 7, 15, 16, 19, 20, 21, 22] [(0, .func (.yield lp) #[] #[]), (1, vP q1 0), (2, vP q2 0), (3, vP q3 0), (4, vP q4 0), (7, vS ba 0 la.length ca), (15, .agg #[vS ba 0 la.length ca, vS bb 0 lb.length cb]), (16, vI 0), (19, vS ba 0 la.length ca), (20, vI (la.length : Int)), (21, vI (k : Int)), (22, .bool (decide ((k : Int) < (la.length : Int))))] (ap [] [T_]) [] [] (fun _ => by kernel_rfl) mn an ?_
  refine TL.fin (by kernel_rfl) ?_
  refine EX.next ?_
  refine TR.seq ?_
  rcases Decidable.em ((k : Int) < (la.length : Int)) with h2 | h2
  · refine TR.yes (b := decide ((k : Int) < (la.length : Int))) (by kernel_rfl) (by kernel_rfl) (decide_eq_true h2) ?_
    refine TR.skip ?_
    refine EX.next ?_
    refine TR.seq ?_
    refine TR.block ?_
    refine TR.seq ?_
    refine TR.reg ?_
    refine TL.seg 6 [(ba, .rows 2 ca (vrow la) 30 (0, 0))] [.ix k, .rorow 0 k 0, .rorow 0 k 1, .own 0, .own 0] [0, 1, 2, 3, 4, 7, 8, 9, 15, 16, 19, 20, 21] (fun n3 => [(0, .func (.yield lp) #[] #[]), (1, vP q1 0), (2, vP q2 0), (3, vP q3 0), (4, vP q4 0), (7, vS ba 0 la.length ca), (8, vI (k : Int)), (9, vP (n3 + 0) 0), (15, .agg #[vS ba 0 la.length ca, vS bb 0 lb.length cb]), (16, vI 0), (19, vS ba 0 la.length ca), (20, vI (la.length : Int)), (21, vI (k : Int))]) (fun n3 => (ap [((n3 + 0), .lit [vI ((la.getD k ⟨0, 0⟩).x), vI ((la.getD k ⟨0, 0⟩).y)] 30 (0, 0))] [T_])) (fun n3 => [(n3 + 0), (n3 + 0), ba, ba]) (fun n3 => [((0 + k * 2) + 1) = k * 2 + 1 ∧ k < ca, (0 + k * 2) = k * 2 + 0 ∧ k < ca, (k : Int) = ((k : Nat) : Int) ∧ k < la.length]) (fun _ => by kernel_rfl) (mc (List.mem_append_right X hba) mn) (fun n3 => (ac ⟨by omega, by omega⟩ (ac ⟨by omega, by omega⟩ (ac ⟨by omega, by omega⟩ an)))) ?_
    intro n3
    refine TL.fin (by kernel_rfl) ?_
    refine EX.next ?_
    refine TR.seq ?_
    refine TR.reg ?_
    refine TL.seg0 5 [] [.nw] [0, 1, 2, 3, 4, 7, 9, 15, 16, 19, 20, 21, 26, 28, 30] [(0, .func (.yield lp) #[] #[]), (1, vP q1 0), (2, vP q2 0), (3, vP q3 0), (4, vP q4 0), (7, vS ba 0 la.length ca), (9, vP (n3 + 0) 0), (15, .agg #[vS ba 0 la.length ca, vS bb 0 lb.length cb]), (16, vI 0), (19, vS ba 0 la.length ca), (20, vI (la.length : Int)), (21, vI (k : Int)), (26, vS ba 0 la.length ca), (28, vI ((k : Int) + 1)), (30, vI (la.length : Int))] (ap [((n3 + 0), .lit [vI ((la.getD k ⟨0, 0⟩).x), vI ((la.getD k ⟨0, 0⟩).y)] 30 (0, 0))] [T_]) [] [-9223372036854775808 ≤ (k : Int) + 1 ∧ (k : Int) + 1 ≤ 9223372036854775807] (fun _ => by kernel_rfl) mn (ac ⟨by omega, by omega⟩ an) ?_
    have hm1 := Int.emod_nonneg ((k : Int) + 1) (show (la.length : Int) ≠ 0 by omega)
    have hm2 := Int.emod_lt_of_pos ((k : Int) + 1) (show (0 : Int) < la.length by omega)
    refine TL.seg 5 [(ba, .rows 2 ca (vrow la) 30 (0, 0))] [.nw, .ix ((((k : Int) + 1) % (la.length : Int)).toNat), .rorow 0 ((((k : Int) + 1) % (la.length : Int)).toNat) 0, .rorow 0 ((((k : Int) + 1) % (la.length : Int)).toNat) 1, .own 0, .own 0] [0, 1, 2, 3, 4, 7, 9, 10, 15, 16, 19, 20, 21] (fun n4 => [(0, .func (.yield lp) #[] #[]), (1, vP q1 0), (2, vP q2 0), (3, vP q3 0), (4, vP q4 0), (7, vS ba 0 la.length ca), (9, vP (n3 + 0) 0), (10, vP (n4 + 0) 0), (15, .agg #[vS ba 0 la.length ca, vS bb 0 lb.length cb]), (16, vI 0), (19, vS ba 0 la.length ca), (20, vI (la.length : Int)), (21, vI (k : Int))]) (fun n4 => (ap [((n4 + 0), .lit [vI ((la.getD ((((k : Int) + 1) % (la.length : Int)).toNat) ⟨0, 0⟩).x), vI ((la.getD ((((k : Int) + 1) % (la.length : Int)).toNat) ⟨0, 0⟩).y)] 30 (0, 0)), ((n3 + 0), .lit [vI ((la.getD k ⟨0, 0⟩).x), vI ((la.getD k ⟨0, 0⟩).y)] 30 (0, 0))] [T_])) (fun n4 => [(n4 + 0), (n4 + 0), ba, ba]) (fun n4 => [((0 + ((((k : Int) + 1) % (la.length : Int)).toNat) * 2) + 1) = ((((k : Int) + 1) % (la.length : Int)).toNat) * 2 + 1 ∧ ((((k : Int) + 1) % (la.length : Int)).toNat) < ca, (0 + ((((k : Int) + 1) % (la.length : Int)).toNat) * 2) = ((((k : Int) + 1) % (la.length : Int)).toNat) * 2 + 0 ∧ ((((k : Int) + 1) % (la.length : Int)).toNat) < ca, ((k : Int) + 1) % (la.length : Int) = (((((k : Int) + 1) % (la.length : Int)).toNat : Nat) : Int) ∧ (((k : Int) + 1) % (la.length : Int)).toNat < la.length, 0 ≤ (k : Int) + 1 ∧ (0 : Int) < (la.length : Int) ∧ (k : Int) + 1 ≤ 9223372036854775807]) (fun _ => by kernel_rfl) (mc (List.mem_append_right X hba) mn) (fun n4 => (ac ⟨by omega, by omega⟩ (ac ⟨by omega, by omega⟩ (ac ⟨by omega, by omega⟩ (ac ⟨by omega, by omega, by omega⟩ an))))) ?_
    intro n4
    refine TL.fin (by kernel_rfl) ?_
    refine EX.next ?_
    refine TR.seq ?_
    refine TR.reg ?_
    refine TL.seg0 12 [] [.own 0, .own 1, .own 1, .own 0] [0, 1, 2, 3, 4, 7, 15, 16, 19, 20, 21, 34, 45] [(0, .func (.yield lp) #[] #[]), (1, vP q1 0), (2, vP q2 0), (3, vP q3 0), (4, vP q4 0), (7, vS ba 0 la.length ca), (15, .agg #[vS ba 0 la.length ca, vS bb 0 lb.length cb]), (16, vI 0), (19, vS ba 0 la.length ca), (20, vI (la.length : Int)), (21, vI (k : Int)), (34, .func (.yield lp) #[] #[]), (45, .agg #[vI (IntKind.i64.wrap (((la.getD ((((k : Int) + 1) % (la.length : Int)).toNat) ⟨0, 0⟩).y) - ((la.getD k ⟨0, 0⟩).y))), vI (IntKind.i64.wrap (((la.getD k ⟨0, 0⟩).x) - ((la.getD ((((k : Int) + 1) % (la.length : Int)).toNat) ⟨0, 0⟩).x)))])] (ap [((n4 + 0), .lit [vI ((la.getD ((((k : Int) + 1) % (la.length : Int)).toNat) ⟨0, 0⟩).x), vI ((la.getD ((((k : Int) + 1) % (la.length : Int)).toNat) ⟨0, 0⟩).y)] 30 (0, 0)), ((n3 + 0), .lit [vI ((la.getD k ⟨0, 0⟩).x), vI ((la.getD k ⟨0, 0⟩).y)] 30 (0, 0))] [T_]) [(n4 + 0), (n3 + 0), (n3 + 0), (n4 + 0)] [] (fun _ => by kernel_rfl) mn an ?_
    refine TL.callp (dst := (some 46)) (f := 90) (args := #[.agg #[vI (IntKind.i64.wrap (((la.getD ((((k : Int) + 1) % (la.length : Int)).toNat) ⟨0, 0⟩).y) - ((la.getD k ⟨0, 0⟩).y))), vI (IntKind.i64.wrap (((la.getD k ⟨0, 0⟩).x) - ((la.getD ((((k : Int) + 1) % (la.length : Int)).toNat) ⟨0, 0⟩).x)))]]) (H1 := (ap [((n4 + 0), .lit [vI ((la.getD ((((k : Int) + 1) % (la.length : Int)).toNat) ⟨0, 0⟩).x), vI ((la.getD ((((k : Int) + 1) % (la.length : Int)).toNat) ⟨0, 0⟩).y)] 30 (0, 0)), ((n3 + 0), .lit [vI ((la.getD k ⟨0, 0⟩).x), vI ((la.getD k ⟨0, 0⟩).y)] 30 (0, 0))] [T_])) (E := []) (Ob := []) [] [] [0, 1, 2, 3, 4, 7, 15, 16, 19, 20, 21, 34, 46] (.agg #[vI ((unitV (⟨IntKind.i64.wrap (((la.getD ((((k : Int) + 1) % (la.length : Int)).toNat) ⟨0, 0⟩).y) - ((la.getD k ⟨0, 0⟩).y)), IntKind.i64.wrap (((la.getD k ⟨0, 0⟩).x) - ((la.getD ((((k : Int) + 1) % (la.length : Int)).toNat) ⟨0, 0⟩).x))⟩ : V2)).x), vI ((unitV (⟨IntKind.i64.wrap (((la.getD ((((k : Int) + 1) % (la.length : Int)).toNat) ⟨0, 0⟩).y) - ((la.getD k ⟨0, 0⟩).y)), IntKind.i64.wrap (((la.getD k ⟨0, 0⟩).x) - ((la.getD ((((k : Int) + 1) % (la.length : Int)).toNat) ⟨0, 0⟩).x))⟩ : V2)).y)]) [(0, .func (.yield lp) #[] #[]), (1, vP q1 0), (2, vP q2 0), (3, vP q3 0), (4, vP q4 0), (7, vS ba 0 la.length ca), (15, .agg #[vS ba 0 la.length ca, vS bb 0 lb.length cb]), (16, vI 0), (19, vS ba 0 la.length ca), (20, vI (la.length : Int)), (21, vI (k : Int)), (34, .func (.yield lp) #[] #[]), (46, .agg #[vI ((unitV (⟨IntKind.i64.wrap (((la.getD ((((k : Int) + 1) % (la.length : Int)).toNat) ⟨0, 0⟩).y) - ((la.getD k ⟨0, 0⟩).y)), IntKind.i64.wrap (((la.getD k ⟨0, 0⟩).x) - ((la.getD ((((k : Int) + 1) % (la.length : Int)).toNat) ⟨0, 0⟩).x))⟩ : V2)).x), vI ((unitV (⟨IntKind.i64.wrap (((la.getD ((((k : Int) + 1) % (la.length : Int)).toNat) ⟨0, 0⟩).y) - ((la.getD k ⟨0, 0⟩).y)), IntKind.i64.wrap (((la.getD k ⟨0, 0⟩).x) - ((la.getD ((((k : Int) + 1) % (la.length : Int)).toNat) ⟨0, 0⟩).x))⟩ : V2)).y)])] (fun _ => by kernel_rfl) mn an (unit_any (⟨IntKind.i64.wrap (((la.getD ((((k : Int) + 1) % (la.length : Int)).toNat) ⟨0, 0⟩).y) - ((la.getD k ⟨0, 0⟩).y)), IntKind.i64.wrap (((la.getD k ⟨0, 0⟩).x) - ((la.getD ((((k : Int) + 1) % (la.length : Int)).toNat) ⟨0, 0⟩).x))⟩ : V2)  _) (by kernel_rfl) ?_
    refine TL.yield (dst := (some 47)) (l := lp) (args := #[.agg #[vI ((unitV (⟨IntKind.i64.wrap (((la.getD ((((k : Int) + 1) % (la.length : Int)).toNat) ⟨0, 0⟩).y) - ((la.getD k ⟨0, 0⟩).y)), IntKind.i64.wrap (((la.getD k ⟨0, 0⟩).x) - ((la.getD ((((k : Int) + 1) % (la.length : Int)).toNat) ⟨0, 0⟩).x))⟩ : V2)).x), vI ((unitV (⟨IntKind.i64.wrap (((la.getD ((((k : Int) + 1) % (la.length : Int)).toNat) ⟨0, 0⟩).y) - ((la.getD k ⟨0, 0⟩).y)), IntKind.i64.wrap (((la.getD k ⟨0, 0⟩).x) - ((la.getD ((((k : Int) + 1) % (la.length : Int)).toNat) ⟨0, 0⟩).x))⟩ : V2)).y)]]) (A := [((n4 + 0), .lit [vI ((la.getD ((((k : Int) + 1) % (la.length : Int)).toNat) ⟨0, 0⟩).x), vI ((la.getD ((((k : Int) + 1) % (la.length : Int)).toNat) ⟨0, 0⟩).y)] 30 (0, 0)), ((n3 + 0), .lit [vI ((la.getD k ⟨0, 0⟩).x), vI ((la.getD k ⟨0, 0⟩).y)] 30 (0, 0))]) (Ts := [T_]) (Ob := []) [] [] [0] [] [0, 1, 2, 3, 4, 7, 15, 16, 19, 20, 21, 47] T_ [] (fun b H' => (b = true ∧ J (k + 1) H') ∨ (b = false ∧ Jx H')) (fun b_ => [(0, .func (.yield lp) #[] #[]), (1, vP q1 0), (2, vP q2 0), (3, vP q3 0), (4, vP q4 0), (7, vS ba 0 la.length ca), (15, .agg #[vS ba 0 la.length ca, vS bb 0 lb.length cb]), (16, vI 0), (19, vS ba 0 la.length ca), (20, vI (la.length : Int)), (21, vI (k : Int)), (47, .bool b_)]) (fun _ => by kernel_rfl) an (by kernel_rfl) (by kernel_rfl) (by kernel_rfl) (fun _ => by kernel_rfl) (hY k (edgeV la k) _ (ap [((n4 + 0), .lit [vI ((la.getD ((((k : Int) + 1) % (la.length : Int)).toNat) ⟨0, 0⟩).x), vI ((la.getD ((((k : Int) + 1) % (la.length : Int)).toNat) ⟨0, 0⟩).y)] 30 (0, 0)), ((n3 + 0), .lit [vI ((la.getD k ⟨0, 0⟩).x), vI ((la.getD k ⟨0, 0⟩).y)] 30 (0, 0))] []) (axes_1 (by show k < la.length; omega)) hJ_) ?_
    rintro b_ T5 (⟨rfl, hJ6⟩ | ⟨rfl, hJ6⟩)
    · refine TL.seg0 1 [] [] [0, 1, 2, 3, 4, 7, 15, 16, 19, 20, 21, 48] [(0, .func (.yield lp) #[] #[]), (1, vP q1 0), (2, vP q2 0), (3, vP q3 0), (4, vP q4 0), (7, vS ba 0 la.length ca), (15, .agg #[vS ba 0 la.length ca, vS bb 0 lb.length cb]), (16, vI 0), (19, vS ba 0 la.length ca), (20, vI (la.length : Int)), (21, vI (k : Int)), (48, .bool false)] (ap [((n4 + 0), .lit [vI ((la.getD ((((k : Int) + 1) % (la.length : Int)).toNat) ⟨0, 0⟩).x), vI ((la.getD ((((k : Int) + 1) % (la.length : Int)).toNat) ⟨0, 0⟩).y)] 30 (0, 0)), ((n3 + 0), .lit [vI ((la.getD k ⟨0, 0⟩).x), vI ((la.getD k ⟨0, 0⟩).y)] 30 (0, 0))] [T5]) [] [] (fun _ => by kernel_rfl) mn an ?_
      refine TL.fin (by kernel_rfl) ?_
      refine EX.next ?_
      refine TR.no (by kernel_rfl) (by kernel_rfl) (rfl : false = false) ?_
      refine TR.skip ?_
      refine EX.inn ?_
      refine EX.next ?_
      refine TR.reg ?_
      refine TL.seg0 2 [] [.nw] [0, 1, 2, 3, 4, 7, 15, 16, 19, 20, 21] [(0, .func (.yield lp) #[] #[]), (1, vP q1 0), (2, vP q2 0), (3, vP q3 0), (4, vP q4 0), (7, vS ba 0 la.length ca), (15, .agg #[vS ba 0 la.length ca, vS bb 0 lb.length cb]), (16, vI 0), (19, vS ba 0 la.length ca), (20, vI (la.length : Int)), (21, vI ((k : Int) + 1))] (ap [((n4 + 0), .lit [vI ((la.getD ((((k : Int) + 1) % (la.length : Int)).toNat) ⟨0, 0⟩).x), vI ((la.getD ((((k : Int) + 1) % (la.length : Int)).toNat) ⟨0, 0⟩).y)] 30 (0, 0)), ((n3 + 0), .lit [vI ((la.getD k ⟨0, 0⟩).x), vI ((la.getD k ⟨0, 0⟩).y)] 30 (0, 0))] [T5]) [] [-9223372036854775808 ≤ (k : Int) + 1 ∧ (k : Int) + 1 ≤ 9223372036854775807] (fun _ => by kernel_rfl) mn (ac ⟨by omega, by omega⟩ an) ?_
      refine TL.fin (by kernel_rfl) ?_
      refine EX.meet (A := [((n4 + 0), .lit [vI ((la.getD ((((k : Int) + 1) % (la.length : Int)).toNat) ⟨0, 0⟩).x), vI ((la.getD ((((k : Int) + 1) % (la.length : Int)).toNat) ⟨0, 0⟩).y)] 30 (0, 0)), ((n3 + 0), .lit [vI ((la.getD k ⟨0, 0⟩).x), vI ((la.getD k ⟨0, 0⟩).y)] 30 (0, 0))]) (Ts := [T5]) (k + 1, T5) ?_ [0, 1, 2, 3, 4, 7, 15, 16, 19, 20, 21] (by kernel_rfl) [] [0, 1] [0] [] (by kernel_rfl) (by kernel_rfl) (by kernel_rfl)
      try dsimp only
      exact ⟨⟨by omega, hJ6⟩, by omega⟩
    · refine TL.seg0 1 [] [] [0, 1, 2, 3, 4, 7, 15, 16, 19, 20, 21, 48] [(0, .func (.yield lp) #[] #[]), (1, vP q1 0), (2, vP q2 0), (3, vP q3 0), (4, vP q4 0), (7, vS ba 0 la.length ca), (15, .agg #[vS ba 0 la.length ca, vS bb 0 lb.length cb]), (16, vI 0), (19, vS ba 0 la.length ca), (20, vI (la.length : Int)), (21, vI (k : Int)), (48, .bool true)] (ap [((n4 + 0), .lit [vI ((la.getD ((((k : Int) + 1) % (la.length : Int)).toNat) ⟨0, 0⟩).x), vI ((la.getD ((((k : Int) + 1) % (la.length : Int)).toNat) ⟨0, 0⟩).y)] 30 (0, 0)), ((n3 + 0), .lit [vI ((la.getD k ⟨0, 0⟩).x), vI ((la.getD k ⟨0, 0⟩).y)] 30 (0, 0))] [T5]) [] [] (fun _ => by kernel_rfl) mn an ?_
      refine TL.fin (by kernel_rfl) ?_
      refine EX.next ?_
      refine TR.yes (by kernel_rfl) (by kernel_rfl) (rfl : true = true) ?_
      refine TR.ret (A := [((n4 + 0), .lit [vI ((la.getD ((((k : Int) + 1) % (la.length : Int)).toNat) ⟨0, 0⟩).x), vI ((la.getD ((((k : Int) + 1) % (la.length : Int)).toNat) ⟨0, 0⟩).y)] 30 (0, 0)), ((n3 + 0), .lit [vI ((la.getD k ⟨0, 0⟩).x), vI ((la.getD k ⟨0, 0⟩).y)] 30 (0, 0))]) (Ts := [T5]) (by exact fun _ _ h => h) rfl rfl [] [] (.tuple #[]) [] [] (fun _ => by kernel_rfl) mn an [] [0, 1] [0] [] (ap [] [T5]) (by kernel_rfl) (by kernel_rfl) (by kernel_rfl) ?_
      rw [ap_one]
      exact .inr hJ6
  · have ek0 : k = la.length := by omega
    subst ek0
    refine TR.no (b := decide ((la.length : Int) < (la.length : Int))) (by kernel_rfl) (by kernel_rfl) (decide_eq_false h2) ?_
    refine TR.exit ?_
    refine EX.thn (by simp) ?_
    refine EX.thn (by simp) ?_
    refine EX.hit ?_
    refine EX.inn ?_
    refine EX.next ?_
    refine TR.reg ?_
    refine TL.seg0 2 [] [] [0, 1, 2, 3, 4, 15, 16] [(0, .func (.yield lp) #[] #[]), (1, vP q1 0), (2, vP q2 0), (3, vP q3 0), (4, vP q4 0), (15, .agg #[vS ba 0 la.length ca, vS bb 0 lb.length cb]), (16, vI 1)] (ap [] [T_]) [] [] (fun _ => by kernel_rfl) mn an ?_
    refine TL.fin (by kernel_rfl) ?_
    refine EX.round ?_
    refine TR.seq ?_
    refine TR.reg ?_
    refine TL.seg0 1 [] [] [0, 1, 2, 3, 4, 15, 16, 17] [(0, .func (.yield lp) #[] #[]), (1, vP q1 0), (2, vP q2 0), (3, vP q3 0), (4, vP q4 0), (15, .agg #[vS ba 0 la.length ca, vS bb 0 lb.length cb]), (16, vI 1), (17, .bool true)] (ap [] [T_]) [] [] (fun _ => by kernel_rfl) mn an ?_
    refine TL.fin (by kernel_rfl) ?_
    refine EX.next ?_
    refine TR.seq ?_
    refine TR.yes (by kernel_rfl) (by kernel_rfl) (rfl : true = true) ?_
    refine TR.skip ?_
    refine EX.next ?_
    refine TR.seq ?_
    refine TR.block ?_
    refine TR.seq ?_
    refine TR.reg ?_
    refine TL.seg0 2 [] [] [0, 1, 2, 3, 4, 7, 15, 16] [(0, .func (.yield lp) #[] #[]), (1, vP q1 0), (2, vP q2 0), (3, vP q3 0), (4, vP q4 0), (7, vS bb 0 lb.length cb), (15, .agg #[vS ba 0 la.length ca, vS bb 0 lb.length cb]), (16, vI 1)] (ap [] [T_]) [] [] (fun _ => by kernel_rfl) mn an ?_
    refine TL.fin (by kernel_rfl) ?_
    refine EX.next ?_
    refine TR.seq ?_
    refine TR.reg ?_
    refine TL.seg0 3 [] [] [0, 1, 2, 3, 4, 7, 15, 16, 19, 20, 21] [(0, .func (.yield lp) #[] #[]), (1, vP q1 0), (2, vP q2 0), (3, vP q3 0), (4, vP q4 0), (7, vS bb 0 lb.length cb), (15, .agg #[vS ba 0 la.length ca, vS bb 0 lb.length cb]), (16, vI 1), (19, vS bb 0 lb.length cb), (20, vI (lb.length : Int)), (21, vI 0)] (ap [] [T_]) [] [] (fun _ => by kernel_rfl) mn an ?_
    refine TL.fin (by kernel_rfl) ?_
    refine EX.next ?_
    refine TR.block ?_
    refine TR.loop (A := []) (Ts := [T_]) (σ := Nat × HL) (fun (x : Nat × HL) => match x with | ⟨k, T_⟩ => [(0, .func (.yield lp) #[] #[]), (1, vP q1 0), (2, vP q2 0), (3, vP q3 0), (4, vP q4 0), (7, vS bb 0 lb.length cb), (15, .agg #[vS ba 0 la.length ca, vS bb 0 lb.length cb]), (16, vI 1), (19, vS bb 0 lb.length cb), (20, vI (lb.length : Int)), (21, vI (k : Int))]) (fun (x : Nat × HL) => match x with | ⟨k, T_⟩ => ap [] [T_]) (fun (x : Nat × HL) => match x with | ⟨k, T_⟩ => k ≤ lb.length ∧ J (la.length + k) T_) (fun (x : Nat × HL) => match x with | ⟨k, T_⟩ => lb.length - k) (0, T_) (⟨Nat.zero_le _, hJ_⟩) [0, 1, 2, 3, 4, 7, 15, 16, 19, 20, 21] (by kernel_rfl) [] [] [0] [] (by kernel_rfl) (by kernel_rfl) (by kernel_rfl) ?_
    rintro ⟨k, T_⟩ ⟨hk_, hJ_⟩
    skip
    refine TR.seq ?_
    refine TR.reg ?_
    refine TL.seg0 1 [] [] [0, 1, 2, 3, 4, 7, 15, 16, 19, 20, 21, 22] [(0, .func (.yield lp) #[] #[]), (1, vP q1 0), (2, vP q2 0), (3, vP q3 0), (4, vP q4 0), (7, vS bb 0 lb.length cb), (15, .agg #[vS ba 0 la.length ca, vS bb 0 lb.length cb]), (16, vI 1), (19, vS bb 0 lb.length cb), (20, vI (lb.length : Int)), (21, vI (k : Int)), (22, .bool (decide ((k : Int) < (lb.length : Int))))] (ap [] [T_]) [] [] (fun _ => by kernel_rfl) mn an ?_
    refine TL.fin (by kernel_rfl) ?_
    refine EX.next ?_
    refine TR.seq ?_
    rcases Decidable.em ((k : Int) < (lb.length : Int)) with h8 | h8
    · refine TR.yes (b := decide ((k : Int) < (lb.length : Int))) (by kernel_rfl) (by kernel_rfl) (decide_eq_true h8) ?_
      refine TR.skip ?_
      refine EX.next ?_
      refine TR.seq ?_
      refine TR.block ?_
      refine TR.seq ?_
      refine TR.reg ?_
      refine TL.seg 6 [(bb, .rows 2 cb (vrow lb) 30 (0, 0))] [.ix k, .rorow 0 k 0, .rorow 0 k 1, .own 0, .own 0] [0, 1, 2, 3, 4, 7, 8, 9, 15, 16, 19, 20, 21] (fun n9 => [(0, .func (.yield lp) #[] #[]), (1, vP q1 0), (2, vP q2 0), (3, vP q3 0), (4, vP q4 0), (7, vS bb 0 lb.length cb), (8, vI (k : Int)), (9, vP (n9 + 0) 0), (15, .agg #[vS ba 0 la.length ca, vS bb 0 lb.length cb]), (16, vI 1), (19, vS bb 0 lb.length cb), (20, vI (lb.length : Int)), (21, vI (k : Int))]) (fun n9 => (ap [((n9 + 0), .lit [vI ((lb.getD k ⟨0, 0⟩).x), vI ((lb.getD k ⟨0, 0⟩).y)] 30 (0, 0))] [T_])) (fun n9 => [(n9 + 0), (n9 + 0), bb, bb]) (fun n9 => [((0 + k * 2) + 1) = k * 2 + 1 ∧ k < cb, (0 + k * 2) = k * 2 + 0 ∧ k < cb, (k : Int) = ((k : Nat) : Int) ∧ k < lb.length]) (fun _ => by kernel_rfl) (mc (List.mem_append_right X hbb) mn) (fun n9 => (ac ⟨by omega, by omega⟩ (ac ⟨by omega, by omega⟩ (ac ⟨by omega, by omega⟩ an)))) ?_
      intro n9
      refine TL.fin (by kernel_rfl) ?_
      refine EX.next ?_
      refine TR.seq ?_
      refine TR.reg ?_
      refine TL.seg0 5 [] [.nw] [0, 1, 2, 3, 4, 7, 9, 15, 16, 19, 20, 21, 26, 28, 30] [(0, .func (.yield lp) #[] #[]), (1, vP q1 0), (2, vP q2 0), (3, vP q3 0), (4, vP q4 0), (7, vS bb 0 lb.length cb), (9, vP (n9 + 0) 0), (15, .agg #[vS ba 0 la.length ca, vS bb 0 lb.length cb]), (16, vI 1), (19, vS bb 0 lb.length cb), (20, vI (lb.length : Int)), (21, vI (k : Int)), (26, vS bb 0 lb.length cb), (28, vI ((k : Int) + 1)), (30, vI (lb.length : Int))] (ap [((n9 + 0), .lit [vI ((lb.getD k ⟨0, 0⟩).x), vI ((lb.getD k ⟨0, 0⟩).y)] 30 (0, 0))] [T_]) [] [-9223372036854775808 ≤ (k : Int) + 1 ∧ (k : Int) + 1 ≤ 9223372036854775807] (fun _ => by kernel_rfl) mn (ac ⟨by omega, by omega⟩ an) ?_
      have hm1 := Int.emod_nonneg ((k : Int) + 1) (show (lb.length : Int) ≠ 0 by omega)
      have hm2 := Int.emod_lt_of_pos ((k : Int) + 1) (show (0 : Int) < lb.length by omega)
      refine TL.seg 5 [(bb, .rows 2 cb (vrow lb) 30 (0, 0))] [.nw, .ix ((((k : Int) + 1) % (lb.length : Int)).toNat), .rorow 0 ((((k : Int) + 1) % (lb.length : Int)).toNat) 0, .rorow 0 ((((k : Int) + 1) % (lb.length : Int)).toNat) 1, .own 0, .own 0] [0, 1, 2, 3, 4, 7, 9, 10, 15, 16, 19, 20, 21] (fun n10 => [(0, .func (.yield lp) #[] #[]), (1, vP q1 0), (2, vP q2 0), (3, vP q3 0), (4, vP q4 0), (7, vS bb 0 lb.length cb), (9, vP (n9 + 0) 0), (10, vP (n10 + 0) 0), (15, .agg #[vS ba 0 la.length ca, vS bb 0 lb.length cb]), (16, vI 1), (19, vS bb 0 lb.length cb), (20, vI (lb.length : Int)), (21, vI (k : Int))]) (fun n10 => (ap [((n10 + 0), .lit [vI ((lb.getD ((((k : Int) + 1) % (lb.length : Int)).toNat) ⟨0, 0⟩).x), vI ((lb.getD ((((k : Int) + 1) % (lb.length : Int)).toNat) ⟨0, 0⟩).y)] 30 (0, 0)), ((n9 + 0), .lit [vI ((lb.getD k ⟨0, 0⟩).x), vI ((lb.getD k ⟨0, 0⟩).y)] 30 (0, 0))] [T_])) (fun n10 => [(n10 + 0), (n10 + 0), bb, bb]) (fun n10 => [((0 + ((((k : Int) + 1) % (lb.length : Int)).toNat) * 2) + 1) = ((((k : Int) + 1) % (lb.length : Int)).toNat) * 2 + 1 ∧ ((((k : Int) + 1) % (lb.length : Int)).toNat) < cb, (0 + ((((k : Int) + 1) % (lb.length : Int)).toNat) * 2) = ((((k : Int) + 1) % (lb.length : Int)).toNat) * 2 + 0 ∧ ((((k : Int) + 1) % (lb.length : Int)).toNat) < cb, ((k : Int) + 1) % (lb.length : Int) = (((((k : Int) + 1) % (lb.length : Int)).toNat : Nat) : Int) ∧ (((k : Int) + 1) % (lb.length : Int)).toNat < lb.length, 0 ≤ (k : Int) + 1 ∧ (0 : Int) < (lb.length : Int) ∧ (k : Int) + 1 ≤ 9223372036854775807]) (fun _ => by kernel_rfl) (mc (List.mem_append_right X hbb) mn) (fun n10 => (ac ⟨by omega, by omega⟩ (ac ⟨by omega, by omega⟩ (ac ⟨by omega, by omega⟩ (ac ⟨by omega, by omega, by omega⟩ an))))) ?_
      intro n10
      refine TL.fin (by kernel_rfl) ?_
      refine EX.next ?_
      refine TR.seq ?_
      refine TR.reg ?_
      refine TL.seg0 12 [] [.own 0, .own 1, .own 1, .own 0] [0, 1, 2, 3, 4, 7, 15, 16, 19, 20, 21, 34, 45] [(0, .func (.yield lp) #[] #[]), (1, vP q1 0), (2, vP q2 0), (3, vP q3 0), (4, vP q4 0), (7, vS bb 0 lb.length cb), (15, .agg #[vS ba 0 la.length ca, vS bb 0 lb.length cb]), (16, vI 1), (19, vS bb 0 lb.length cb), (20, vI (lb.length : Int)), (21, vI (k : Int)), (34, .func (.yield lp) #[] #[]), (45, .agg #[vI (IntKind.i64.wrap (((lb.getD ((((k : Int) + 1) % (lb.length : Int)).toNat) ⟨0, 0⟩).y) - ((lb.getD k ⟨0, 0⟩).y))), vI (IntKind.i64.wrap (((lb.getD k ⟨0, 0⟩).x) - ((lb.getD ((((k : Int) + 1) % (lb.length : Int)).toNat) ⟨0, 0⟩).x)))])] (ap [((n10 + 0), .lit [vI ((lb.getD ((((k : Int) + 1) % (lb.length : Int)).toNat) ⟨0, 0⟩).x), vI ((lb.getD ((((k : Int) + 1) % (lb.length : Int)).toNat) ⟨0, 0⟩).y)] 30 (0, 0)), ((n9 + 0), .lit [vI ((lb.getD k ⟨0, 0⟩).x), vI ((lb.getD k ⟨0, 0⟩).y)] 30 (0, 0))] [T_]) [(n10 + 0), (n9 + 0), (n9 + 0), (n10 + 0)] [] (fun _ => by kernel_rfl) mn an ?_
      refine TL.callp (dst := (some 46)) (f := 90) (args := #[.agg #[vI (IntKind.i64.wrap (((lb.getD ((((k : Int) + 1) % (lb.length : Int)).toNat) ⟨0, 0⟩).y) - ((lb.getD k ⟨0, 0⟩).y))), vI (IntKind.i64.wrap (((lb.getD k ⟨0, 0⟩).x) - ((lb.getD ((((k : Int) + 1) % (lb.length : Int)).toNat) ⟨0, 0⟩).x)))]]) (H1 := (ap [((n10 + 0), .lit [vI ((lb.getD ((((k : Int) + 1) % (lb.length : Int)).toNat) ⟨0, 0⟩).x), vI ((lb.getD ((((k : Int) + 1) % (lb.length : Int)).toNat) ⟨0, 0⟩).y)] 30 (0, 0)), ((n9 + 0), .lit [vI ((lb.getD k ⟨0, 0⟩).x), vI ((lb.getD k ⟨0, 0⟩).y)] 30 (0, 0))] [T_])) (E := []) (Ob := []) [] [] [0, 1, 2, 3, 4, 7, 15, 16, 19, 20, 21, 34, 46] (.agg #[vI ((unitV (⟨IntKind.i64.wrap (((lb.getD ((((k : Int) + 1) % (lb.length : Int)).toNat) ⟨0, 0⟩).y) - ((lb.getD k ⟨0, 0⟩).y)), IntKind.i64.wrap (((lb.getD k ⟨0, 0⟩).x) - ((lb.getD ((((k : Int) + 1) % (lb.length : Int)).toNat) ⟨0, 0⟩).x))⟩ : V2)).x), vI ((unitV (⟨IntKind.i64.wrap (((lb.getD ((((k : Int) + 1) % (lb.length : Int)).toNat) ⟨0, 0⟩).y) - ((lb.getD k ⟨0, 0⟩).y)), IntKind.i64.wrap (((lb.getD k ⟨0, 0⟩).x) - ((lb.getD ((((k : Int) + 1) % (lb.length : Int)).toNat) ⟨0, 0⟩).x))⟩ : V2)).y)]) [(0, .func (.yield lp) #[] #[]), (1, vP q1 0), (2, vP q2 0), (3, vP q3 0), (4, vP q4 0), (7, vS bb 0 lb.length cb), (15, .agg #[vS ba 0 la.length ca, vS bb 0 lb.length cb]), (16, vI 1), (19, vS bb 0 lb.length cb), (20, vI (lb.length : Int)), (21, vI (k : Int)), (34, .func (.yield lp) #[] #[]), (46, .agg #[vI ((unitV (⟨IntKind.i64.wrap (((lb.getD ((((k : Int) + 1) % (lb.length : Int)).toNat) ⟨0, 0⟩).y) - ((lb.getD k ⟨0, 0⟩).y)), IntKind.i64.wrap (((lb.getD k ⟨0, 0⟩).x) - ((lb.getD ((((k : Int) + 1) % (lb.length : Int)).toNat) ⟨0, 0⟩).x))⟩ : V2)).x), vI ((unitV (⟨IntKind.i64.wrap (((lb.getD ((((k : Int) + 1) % (lb.length : Int)).toNat) ⟨0, 0⟩).y) - ((lb.getD k ⟨0, 0⟩).y)), IntKind.i64.wrap (((lb.getD k ⟨0, 0⟩).x) - ((lb.getD ((((k : Int) + 1) % (lb.length : Int)).toNat) ⟨0, 0⟩).x))⟩ : V2)).y)])] (fun _ => by kernel_rfl) mn an (unit_any (⟨IntKind.i64.wrap (((lb.getD ((((k : Int) + 1) % (lb.length : Int)).toNat) ⟨0, 0⟩).y) - ((lb.getD k ⟨0, 0⟩).y)), IntKind.i64.wrap (((lb.getD k ⟨0, 0⟩).x) - ((lb.getD ((((k : Int) + 1) % (lb.length : Int)).toNat) ⟨0, 0⟩).x))⟩ : V2)  _) (by kernel_rfl) ?_
      refine TL.yield (dst := (some 47)) (l := lp) (args := #[.agg #[vI ((unitV (⟨IntKind.i64.wrap (((lb.getD ((((k : Int) + 1) % (lb.length : Int)).toNat) ⟨0, 0⟩).y) - ((lb.getD k ⟨0, 0⟩).y)), IntKind.i64.wrap (((lb.getD k ⟨0, 0⟩).x) - ((lb.getD ((((k : Int) + 1) % (lb.length : Int)).toNat) ⟨0, 0⟩).x))⟩ : V2)).x), vI ((unitV (⟨IntKind.i64.wrap (((lb.getD ((((k : Int) + 1) % (lb.length : Int)).toNat) ⟨0, 0⟩).y) - ((lb.getD k ⟨0, 0⟩).y)), IntKind.i64.wrap (((lb.getD k ⟨0, 0⟩).x) - ((lb.getD ((((k : Int) + 1) % (lb.length : Int)).toNat) ⟨0, 0⟩).x))⟩ : V2)).y)]]) (A := [((n10 + 0), .lit [vI ((lb.getD ((((k : Int) + 1) % (lb.length : Int)).toNat) ⟨0, 0⟩).x), vI ((lb.getD ((((k : Int) + 1) % (lb.length : Int)).toNat) ⟨0, 0⟩).y)] 30 (0, 0)), ((n9 + 0), .lit [vI ((lb.getD k ⟨0, 0⟩).x), vI ((lb.getD k ⟨0, 0⟩).y)] 30 (0, 0))]) (Ts := [T_]) (Ob := []) [] [] [0] [] [0, 1, 2, 3, 4, 7, 15, 16, 19, 20, 21, 47] T_ [] (fun b H' => (b = true ∧ J ((la.length + k) + 1) H') ∨ (b = false ∧ Jx H')) (fun b_ => [(0, .func (.yield lp) #[] #[]), (1, vP q1 0), (2, vP q2 0), (3, vP q3 0), (4, vP q4 0), (7, vS bb 0 lb.length cb), (15, .agg #[vS ba 0 la.length ca, vS bb 0 lb.length cb]), (16, vI 1), (19, vS bb 0 lb.length cb), (20, vI (lb.length : Int)), (21, vI (k : Int)), (47, .bool b_)]) (fun _ => by kernel_rfl) an (by kernel_rfl) (by kernel_rfl) (by kernel_rfl) (fun _ => by kernel_rfl) (hY (la.length + k) (edgeV lb k) _ (ap [((n10 + 0), .lit [vI ((lb.getD ((((k : Int) + 1) % (lb.length : Int)).toNat) ⟨0, 0⟩).x), vI ((lb.getD ((((k : Int) + 1) % (lb.length : Int)).toNat) ⟨0, 0⟩).y)] 30 (0, 0)), ((n9 + 0), .lit [vI ((lb.getD k ⟨0, 0⟩).x), vI ((lb.getD k ⟨0, 0⟩).y)] 30 (0, 0))] []) (axes_2 (a := (⟨ra, la, some ⟨ba, 0, none⟩, ca⟩ : Shp)) (by show k < lb.length; omega)) hJ_) ?_
      rintro b_ T11 (⟨rfl, hJ12⟩ | ⟨rfl, hJ12⟩)
      · refine TL.seg0 1 [] [] [0, 1, 2, 3, 4, 7, 15, 16, 19, 20, 21, 48] [(0, .func (.yield lp) #[] #[]), (1, vP q1 0), (2, vP q2 0), (3, vP q3 0), (4, vP q4 0), (7, vS bb 0 lb.length cb), (15, .agg #[vS ba 0 la.length ca, vS bb 0 lb.length cb]), (16, vI 1), (19, vS bb 0 lb.length cb), (20, vI (lb.length : Int)), (21, vI (k : Int)), (48, .bool false)] (ap [((n10 + 0), .lit [vI ((lb.getD ((((k : Int) + 1) % (lb.length : Int)).toNat) ⟨0, 0⟩).x), vI ((lb.getD ((((k : Int) + 1) % (lb.length : Int)).toNat) ⟨0, 0⟩).y)] 30 (0, 0)), ((n9 + 0), .lit [vI ((lb.getD k ⟨0, 0⟩).x), vI ((lb.getD k ⟨0, 0⟩).y)] 30 (0, 0))] [T11]) [] [] (fun _ => by kernel_rfl) mn an ?_
        refine TL.fin (by kernel_rfl) ?_
        refine EX.next ?_
        refine TR.no (by kernel_rfl) (by kernel_rfl) (rfl : false = false) ?_
        refine TR.skip ?_
        refine EX.inn ?_
        refine EX.next ?_
        refine TR.reg ?_
        refine TL.seg0 2 [] [.nw] [0, 1, 2, 3, 4, 7, 15, 16, 19, 20, 21] [(0, .func (.yield lp) #[] #[]), (1, vP q1 0), (2, vP q2 0), (3, vP q3 0), (4, vP q4 0), (7, vS bb 0 lb.length cb), (15, .agg #[vS ba 0 la.length ca, vS bb 0 lb.length cb]), (16, vI 1), (19, vS bb 0 lb.length cb), (20, vI (lb.length : Int)), (21, vI ((k : Int) + 1))] (ap [((n10 + 0), .lit [vI ((lb.getD ((((k : Int) + 1) % (lb.length : Int)).toNat) ⟨0, 0⟩).x), vI ((lb.getD ((((k : Int) + 1) % (lb.length : Int)).toNat) ⟨0, 0⟩).y)] 30 (0, 0)), ((n9 + 0), .lit [vI ((lb.getD k ⟨0, 0⟩).x), vI ((lb.getD k ⟨0, 0⟩).y)] 30 (0, 0))] [T11]) [] [-9223372036854775808 ≤ (k : Int) + 1 ∧ (k : Int) + 1 ≤ 9223372036854775807] (fun _ => by kernel_rfl) mn (ac ⟨by omega, by omega⟩ an) ?_
        refine TL.fin (by kernel_rfl) ?_
        refine EX.meet (A := [((n10 + 0), .lit [vI ((lb.getD ((((k : Int) + 1) % (lb.length : Int)).toNat) ⟨0, 0⟩).x), vI ((lb.getD ((((k : Int) + 1) % (lb.length : Int)).toNat) ⟨0, 0⟩).y)] 30 (0, 0)), ((n9 + 0), .lit [vI ((lb.getD k ⟨0, 0⟩).x), vI ((lb.getD k ⟨0, 0⟩).y)] 30 (0, 0))]) (Ts := [T11]) (k + 1, T11) ?_ [0, 1, 2, 3, 4, 7, 15, 16, 19, 20, 21] (by kernel_rfl) [] [0, 1] [0] [] (by kernel_rfl) (by kernel_rfl) (by kernel_rfl)
        try dsimp only
        exact ⟨⟨by omega, hJ12⟩, by omega⟩
      · refine TL.seg0 1 [] [] [0, 1, 2, 3, 4, 7, 15, 16, 19, 20, 21, 48] [(0, .func (.yield lp) #[] #[]), (1, vP q1 0), (2, vP q2 0), (3, vP q3 0), (4, vP q4 0), (7, vS bb 0 lb.length cb), (15, .agg #[vS ba 0 la.length ca, vS bb 0 lb.length cb]), (16, vI 1), (19, vS bb 0 lb.length cb), (20, vI (lb.length : Int)), (21, vI (k : Int)), (48, .bool true)] (ap [((n10 + 0), .lit [vI ((lb.getD ((((k : Int) + 1) % (lb.length : Int)).toNat) ⟨0, 0⟩).x), vI ((lb.getD ((((k : Int) + 1) % (lb.length : Int)).toNat) ⟨0, 0⟩).y)] 30 (0, 0)), ((n9 + 0), .lit [vI ((lb.getD k ⟨0, 0⟩).x), vI ((lb.getD k ⟨0, 0⟩).y)] 30 (0, 0))] [T11]) [] [] (fun _ => by kernel_rfl) mn an ?_
        refine TL.fin (by kernel_rfl) ?_
        refine EX.next ?_
        refine TR.yes (by kernel_rfl) (by kernel_rfl) (rfl : true = true) ?_
        refine TR.ret (A := [((n10 + 0), .lit [vI ((lb.getD ((((k : Int) + 1) % (lb.length : Int)).toNat) ⟨0, 0⟩).x), vI ((lb.getD ((((k : Int) + 1) % (lb.length : Int)).toNat) ⟨0, 0⟩).y)] 30 (0, 0)), ((n9 + 0), .lit [vI ((lb.getD k ⟨0, 0⟩).x), vI ((lb.getD k ⟨0, 0⟩).y)] 30 (0, 0))]) (Ts := [T11]) (by exact fun _ _ h => h) rfl rfl [] [] (.tuple #[]) [] [] (fun _ => by kernel_rfl) mn an [] [0, 1] [0] [] (ap [] [T11]) (by kernel_rfl) (by kernel_rfl) (by kernel_rfl) ?_
        rw [ap_one]
        exact .inr hJ12
    · have ek1 : k = lb.length := by omega
      subst ek1
      refine TR.no (b := decide ((lb.length : Int) < (lb.length : Int))) (by kernel_rfl) (by kernel_rfl) (decide_eq_false h8) ?_
      refine TR.exit ?_
      refine EX.thn (by simp) ?_
      refine EX.thn (by simp) ?_
      refine EX.hit ?_
      refine EX.inn ?_
      refine EX.next ?_
      refine TR.reg ?_
      refine TL.seg0 2 [] [] [0, 1, 2, 3, 4, 15, 16] [(0, .func (.yield lp) #[] #[]), (1, vP q1 0), (2, vP q2 0), (3, vP q3 0), (4, vP q4 0), (15, .agg #[vS ba 0 la.length ca, vS bb 0 lb.length cb]), (16, vI 2)] (ap [] [T_]) [] [] (fun _ => by kernel_rfl) mn an ?_
      refine TL.fin (by kernel_rfl) ?_
      refine EX.round ?_
      refine TR.seq ?_
      refine TR.reg ?_
      refine TL.seg0 1 [] [] [0, 1, 2, 3, 4, 15, 16, 17] [(0, .func (.yield lp) #[] #[]), (1, vP q1 0), (2, vP q2 0), (3, vP q3 0), (4, vP q4 0), (15, .agg #[vS ba 0 la.length ca, vS bb 0 lb.length cb]), (16, vI 2), (17, .bool false)] (ap [] [T_]) [] [] (fun _ => by kernel_rfl) mn an ?_
      refine TL.fin (by kernel_rfl) ?_
      refine EX.next ?_
      refine TR.seq ?_
      refine TR.no (by kernel_rfl) (by kernel_rfl) (rfl : false = false) ?_
      refine TR.exit ?_
      refine EX.thn (by simp) ?_
      refine EX.thn (by simp) ?_
      refine EX.hit ?_
      refine EX.next ?_
      refine TR.block ?_
      refine TR.seq ?_
      refine TR.reg ?_
      refine TL.seg0 1 [(q1, .lit [vI ra, vS ba 0 la.length ca] 35 (0, 0))] [.ro 0, .ro 0] [0, 1, 2, 3, 4, 52] [(0, .func (.yield lp) #[] #[]), (1, vP q1 0), (2, vP q2 0), (3, vP q3 0), (4, vP q4 0), (52, .agg #[vI ra, vS ba 0 la.length ca])] (ap [] [T_]) [q1, q1] [] (fun _ => by kernel_rfl) (mc (List.mem_append_right X hq1) mn) an ?_
      refine TL.callp (dst := (some 53)) (f := 91) (args := #[.agg #[vI ra, vS ba 0 la.length ca]]) (H1 := (ap [] [T_])) (E := []) (Ob := []) [] [] [0, 1, 2, 3, 4, 53] (.bool (decide ((la.length : Int) = 0))) [(0, .func (.yield lp) #[] #[]), (1, vP q1 0), (2, vP q2 0), (3, vP q3 0), (4, vP q4 0), (53, .bool (decide ((la.length : Int) = 0)))] (fun _ => by kernel_rfl) mn an (cc_any ra (some ⟨ba, 0, none⟩) la.length ca _) (by kernel_rfl) ?_
      refine TL.seg0 5 [] [.gd false, .gd false, .gd false] [0, 1, 2, 3, 4, 51] [(0, .func (.yield lp) #[] #[]), (1, vP q1 0), (2, vP q2 0), (3, vP q3 0), (4, vP q4 0), (51, .bool false)] (ap [] [T_]) [] [(decide ((la.length : Int) = 0)) = false, (decide ((la.length : Int) = 0)) = false, (decide ((la.length : Int) = 0)) = false] (fun _ => by kernel_rfl) mn (ac (decide_eq_false (show ¬ ((la.length : Int) = 0) by omega)) (ac (decide_eq_false (show ¬ ((la.length : Int) = 0) by omega)) (ac (decide_eq_false (show ¬ ((la.length : Int) = 0) by omega)) an))) ?_
      refine TL.fin (by kernel_rfl) ?_
      refine EX.next ?_
      refine TR.no (by kernel_rfl) (by kernel_rfl) (rfl : false = false) ?_
      refine TR.seq ?_
      refine TR.reg ?_
      refine TL.seg0 1 [(q1, .lit [vI ra, vS ba 0 la.length ca] 35 (0, 0))] [.ro 0, .ro 0] [0, 1, 2, 3, 4, 65] [(0, .func (.yield lp) #[] #[]), (1, vP q1 0), (2, vP q2 0), (3, vP q3 0), (4, vP q4 0), (65, .agg #[vI ra, vS ba 0 la.length ca])] (ap [] [T_]) [q1, q1] [] (fun _ => by kernel_rfl) (mc (List.mem_append_right X hq1) mn) an ?_
      refine TL.callp (dst := (some 66)) (f := 91) (args := #[.agg #[vI ra, vS ba 0 la.length ca]]) (H1 := (ap [] [T_])) (E := []) (Ob := []) [] [] [0, 1, 2, 3, 4, 66] (.bool (decide ((la.length : Int) = 0))) [(0, .func (.yield lp) #[] #[]), (1, vP q1 0), (2, vP q2 0), (3, vP q3 0), (4, vP q4 0), (66, .bool (decide ((la.length : Int) = 0)))] (fun _ => by kernel_rfl) mn an (cc_any ra (some ⟨ba, 0, none⟩) la.length ca _) (by kernel_rfl) ?_
      refine TL.seg0 1 [] [] [0, 1, 2, 3, 4, 64] [(0, .func (.yield lp) #[] #[]), (1, vP q1 0), (2, vP q2 0), (3, vP q3 0), (4, vP q4 0), (64, .bool (decide ((la.length : Int) = 0)))] (ap [] [T_]) [] [] (fun _ => by kernel_rfl) mn an ?_
      refine TL.fin (by kernel_rfl) ?_
      refine EX.next ?_
      refine TR.no (b := decide ((la.length : Int) = 0)) (by kernel_rfl) (by kernel_rfl) (decide_eq_false (show ¬ ((la.length : Int) = 0) by omega)) ?_
      refine TR.seq ?_
      refine TR.reg ?_
      refine TL.seg0 1 [(q2, .lit [vI rb, vS bb 0 lb.length cb] 35 (0, 0))] [.ro 0, .ro 0] [0, 1, 3, 4, 75] [(0, .func (.yield lp) #[] #[]), (1, vP q1 0), (3, vP q3 0), (4, vP q4 0), (75, .agg #[vI rb, vS bb 0 lb.length cb])] (ap [] [T_]) [q2, q2] [] (fun _ => by kernel_rfl) (mc (List.mem_append_right X hq2) mn) an ?_
      refine TL.callp (dst := (some 76)) (f := 91) (args := #[.agg #[vI rb, vS bb 0 lb.length cb]]) (H1 := (ap [] [T_])) (E := []) (Ob := []) [] [] [0, 1, 3, 4, 76] (.bool (decide ((lb.length : Int) = 0))) [(0, .func (.yield lp) #[] #[]), (1, vP q1 0), (3, vP q3 0), (4, vP q4 0), (76, .bool (decide ((lb.length : Int) = 0)))] (fun _ => by kernel_rfl) mn an (cc_any rb (some ⟨bb, 0, none⟩) lb.length cb _) (by kernel_rfl) ?_
      refine TL.seg0 1 [] [] [0, 1, 3, 4, 74] [(0, .func (.yield lp) #[] #[]), (1, vP q1 0), (3, vP q3 0), (4, vP q4 0), (74, .bool (decide ((lb.length : Int) = 0)))] (ap [] [T_]) [] [] (fun _ => by kernel_rfl) mn an ?_
      refine TL.fin (by kernel_rfl) ?_
      refine EX.next ?_
      refine TR.no (b := decide ((lb.length : Int) = 0)) (by kernel_rfl) (by kernel_rfl) (decide_eq_false (show ¬ ((lb.length : Int) = 0) by omega)) ?_
      refine TR.skip ?_
      refine EX.inn ?_
      refine EX.fin (A := []) (Ts := [T_]) rfl rfl [] [] (.tuple #[]) [] [] (fun _ => by kernel_rfl) mn an [] [] [0] [] (ap [] [T_]) (by kernel_rfl) (by kernel_rfl) (by kernel_rfl) ?_
      rw [ap_one]
      exact .inl (by rw [hlen]; exact hJ_)
end Go.Proofs.YtpkincoclhpcgaaGreatDoor
