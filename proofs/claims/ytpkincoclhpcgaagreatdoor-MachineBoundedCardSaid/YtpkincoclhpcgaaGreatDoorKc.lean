/- Contracts, printed by a program. -/
import Derived.Test.YtpkincoclhpcgaaGreatDoorKb
namespace Go.Proofs.YtpkincoclhpcgaaGreatDoor
set_option linter.unusedSimpArgs false
set_option linter.unusedVariables false
open Go.RowKit
def colN (a : Shp) (pa : V2) (b : Shp) (pb : V2) (xs : List V2) : Nat → Con
  | 0 => ⟨0, 0, 9223372036854775807⟩
  | i + 1 => if depthS a pa b pb (xs.getD i ⟨0, 0⟩) < (colN a pa b pb xs i).d then ⟨(xs.getD i ⟨0, 0⟩).x, (xs.getD i ⟨0, 0⟩).y, depthS a pa b pb (xs.getD i ⟨0, 0⟩)⟩ else colN a pa b pb xs i
def colOk (a : Shp) (pa : V2) (b : Shp) (pb : V2) (xs : List V2) : Nat → Bool
  | 0 => true
  | i + 1 => colOk a pa b pb xs i && !decide (depthS a pa b pb (xs.getD i ⟨0, 0⟩) ≤ 0)
theorem colOk_no {a : Shp} {pa : V2} {b : Shp} {pb : V2} {xs : List V2} {i : Nat} (h : colOk a pa b pb xs i = false) : ∀ k, colOk a pa b pb xs (i + k) = false
  | 0 => h
  | k + 1 => by rw [← Nat.add_assoc, colOk, colOk_no h k]; rfl
def flipC (pa pb : V2) (c : Con) : Con := if vdot (vsub pb pa) ⟨c.nx, c.ny⟩ < 0 then ⟨(vneg ⟨c.nx, c.ny⟩).x, (vneg ⟨c.nx, c.ny⟩).y, c.d⟩ else c
/-- the contact of two shapes -/
def collideS (a : Shp) (pa : V2) (b : Shp) (pb : V2) : Con × Bool := if ovl (bounds a pa) (bounds b pb) then (if colOk a pa b pb (axesL a pa b pb) (axesL a pa b pb).length = true then (flipC pa pb (colN a pa b pb (axesL a pa b pb) (axesL a pa b pb).length), true) else (⟨0, 0, 0⟩, false)) else (⟨0, 0, 0⟩, false)
theorem getD_of {xs : List V2} {i : Nat} {x : V2} (h : xs[i]? = some x) : xs.getD i ⟨0, 0⟩ = x := by rw [List.getD_eq_getElem?_getD, h]; rfl
theorem axes_it (a : Shp) (pa : V2) (b : Shp) (pb : V2) (q1 q2 q3 q4 : Nat) (F : HL) (ha : ShIn F a) (hb : ShIn F b) (hq1 : (q1, .lit [vI a.r, .slice a.A a.poly.length a.cap] 35 (0, 0)) ∈ F) (hq2 : (q2, .lit [vI b.r, .slice b.A b.poly.length b.cap] 35 (0, 0)) ∈ F) (hq3 : (q3, .lit [vI pb.x, vI pb.y] 30 (0, 0)) ∈ F) (hq4 : (q4, .lit [vI pa.x, vI pa.y] 30 (0, 0)) ∈ F) :
    It Tryz.prog 89 #[vP q1 0, vP q2 0, vP q3 0, vP q4 0] F encV (axesL a pa b pb) := by
  intro X l J Jx H0 hY h0
  have key : Sp Tryz.prog 89 #[.func (.yield l) #[] #[], vP q1 0, vP q2 0, vP q3 0, vP q4 0] (ap [] [H0]) (X ++ F) (fun _ H' => J (axesL a pa b pb).length H' ∨ Jx H') := by
    cases ha with
    | circle ra Aa ca =>
      cases hb with
      | circle rb Ab cb => exact axes_cc pa pb ra rb ca cb Aa Ab q1 q2 q3 q4 l X F J Jx H0 hq1 hq2 hq3 hq4 hY h0
      | poly rb lb bb cb h h3 h4 h5 => exact axes_cp pa pb ra rb ca cb Aa lb bb q1 q2 q3 q4 l X F J Jx H0 hq1 hq2 hq3 hq4 h h3 h4 h5 hY h0
    | poly ra la ba ca g g3 g4 g5 =>
      cases hb with
      | circle rb Ab cb => exact axes_pc pa pb ra rb ca cb la ba Ab q1 q2 q3 q4 l X F J Jx H0 hq1 hq2 hq3 hq4 g g3 g4 g5 hY h0
      | poly rb lb bb cb h h3 h4 h5 => exact axes_pp pa pb ra rb ca cb la ba lb bb q1 q2 q3 q4 l X F J Jx H0 hq1 hq2 hq3 hq4 g g3 g4 g5 h h3 h4 h5 hY h0
  rw [ap_one] at key
  exact key

set_option maxHeartbeats 400000 in
set_option maxRecDepth 100000 in
theorem axesf_any (a : Shp) (pa : V2) (b : Shp) (pb : V2) (F : HL) : Sp Tryz.prog 68 #[.agg #[vI a.r, .slice a.A a.poly.length a.cap], .agg #[vI pa.x, vI pa.y], .agg #[vI b.r, .slice b.A b.poly.length b.cap], .agg #[vI pb.x, vI pb.y]] [] F (fun u H' => ∃ n : Nat, H' = ap [((n + 3), .lit [vI pb.x, vI pb.y] 30 (0, 0)), ((n + 2), .lit [vI b.r, .slice b.A b.poly.length b.cap] 35 (0, 0)), ((n + 1), .lit [vI pa.x, vI pa.y] 30 (0, 0)), ((n + 0), .lit [vI a.r, .slice a.A a.poly.length a.cap] 35 (0, 0))] [] ∧ u = .func (.func 89) #[] #[vP (n + 0) 0, vP (n + 2) 0, vP (n + 3) 0, vP (n + 1) 0]) := by
  refine Sp.of_body Tryz.func68 rfl rfl rfl [(0, .agg #[vI a.r, .slice a.A a.poly.length a.cap]), (1, .agg #[vI pa.x, vI pa.y]), (2, .agg #[vI b.r, .slice b.A b.poly.length b.cap]), (3, .agg #[vI pb.x, vI pb.y])] rfl ?_
  intro w0
  refine TR.convH (ap [] []) rfl ?_
  refine TR.seq ?_
  refine TR.reg ?_
  let z1 : List Value := [vI b.r, .slice b.A b.poly.length b.cap]
  let z2 : List Value := [vI a.r, .slice a.A a.poly.length a.cap]
  refine TL.seg 5 [] [] [4, 5, 6, 7] (fun n1 => [(4, vP (n1 + 0) 0), (5, vP (n1 + 1) 0), (6, vP (n1 + 2) 0), (7, vP (n1 + 3) 0)]) (fun n1 => (ap [((n1 + 3), .lit [vI pb.x, vI pb.y] 30 (0, 0)), ((n1 + 2), .lit z1 35 (0, 0)), ((n1 + 1), .lit [vI pa.x, vI pa.y] 30 (0, 0)), ((n1 + 0), .lit z2 35 (0, 0))] [])) (fun n1 => []) (fun n1 => []) (fun _ => by kernel_rfl) mn (fun n1 => an) ?_
  intro n1
  refine TL.fin (by kernel_rfl) ?_
  refine EX.next ?_
  refine TR.seq ?_
  refine TR.reg ?_
  let z3 : Nat × Blk := ((n1 + 3), .lit [vI pb.x, vI pb.y] 30 (0, 0))
  let z4 : Nat × Blk := ((n1 + 2), .lit z1 35 (0, 0))
  let z5 : Nat × Blk := ((n1 + 1), .lit [vI pa.x, vI pa.y] 30 (0, 0))
  let z6 : Nat × Blk := ((n1 + 0), .lit z2 35 (0, 0))
  refine TL.seg0 2 [] [] [8] [(8, .func (.func 89) #[] #[vP (n1 + 0) 0, vP (n1 + 2) 0, vP (n1 + 3) 0, vP (n1 + 1) 0])] (ap [z3, z4, z5, z6] []) [] [] (fun _ => by kernel_rfl) mn an ?_
  refine TL.fin (by kernel_rfl) ?_
  refine EX.next ?_
  refine TR.ret (A := [z3, z4, z5, z6]) (Ts := []) (by exact fun _ _ h => h) rfl rfl [] [] (.func (.func 89) #[] #[vP (n1 + 0) 0, vP (n1 + 2) 0, vP (n1 + 3) 0, vP (n1 + 1) 0]) [] [] (fun _ => by kernel_rfl) mn an [0, 1, 2, 3] [] [] [] [z3, z4, z5, z6] (by kernel_rfl) (by kernel_rfl) (by kernel_rfl) ?_
  exact ⟨_, rfl, rfl⟩

theorem axesf_ap (a : Shp) (pa : V2) (b : Shp) (pb : V2) (F : HL) : Sp Tryz.prog 68 #[shV a, .agg #[vI pa.x, vI pa.y], shV b, .agg #[vI pb.x, vI pb.y]] (ap [] []) F (fun u H' => ∃ n : Nat, H' = ap [((n + 3), .lit [vI pb.x, vI pb.y] 30 (0, 0)), ((n + 2), .lit [vI b.r, .slice b.A b.poly.length b.cap] 35 (0, 0)), ((n + 1), .lit [vI pa.x, vI pa.y] 30 (0, 0)), ((n + 0), .lit [vI a.r, .slice a.A a.poly.length a.cap] 35 (0, 0))] [] ∧ u = .func (.func 89) #[] #[vP (n + 0) 0, vP (n + 2) 0, vP (n + 3) 0, vP (n + 1) 0]) := axesf_any a pa b pb F

set_option maxHeartbeats 1000000 in
set_option maxRecDepth 100000 in
theorem collide_any (a : Shp) (pa : V2) (b : Shp) (pb : V2) (F : HL) (ha : ShIn F a) (hb : ShIn F b) : Sp Tryz.prog 58 #[.agg #[vI a.r, .slice a.A a.poly.length a.cap], .agg #[vI pa.x, vI pa.y], .agg #[vI b.r, .slice b.A b.poly.length b.cap], .agg #[vI pb.x, vI pb.y]] [] F (fun u H' => u = .tuple #[.agg #[vI (collideS a pa b pb).1.nx, vI (collideS a pa b pb).1.ny, vI (collideS a pa b pb).1.d], .bool (collideS a pa b pb).2] ∧ H' = []) := by
  refine Sp.of_bodyM Tryz.func58 rfl rfl rfl [(0, .agg #[vI a.r, .slice a.A a.poly.length a.cap]), (1, .agg #[vI pa.x, vI pa.y]), (2, .agg #[vI b.r, .slice b.A b.poly.length b.cap]), (3, .agg #[vI pb.x, vI pb.y])] rfl ?_
  intro w0
  refine TR.convH (ap [] []) rfl ?_
  refine TR.seq ?_
  refine TR.reg ?_
  let z1 : List Value := [vI b.r, .slice b.A b.poly.length b.cap]
  let z2 : List Value := [vI a.r, .slice a.A a.poly.length a.cap]
  refine TL.seg 6 [] [] [4, 5, 6, 7, 8, 9] (fun n1 => [(4, vP (n1 + 0) 0), (5, vP (n1 + 1) 0), (6, vP (n1 + 2) 0), (7, vP (n1 + 3) 0), (8, vP (n1 + 4) 0), (9, vP (n1 + 5) 0)]) (fun n1 => (ap [((n1 + 5), .lit [.bool false] 4 (0, 0)), ((n1 + 4), .lit [vI 0, vI 0, vI 0] 99 (0, 0)), ((n1 + 3), .lit [vI pb.x, vI pb.y] 30 (0, 0)), ((n1 + 2), .lit z1 35 (0, 0)), ((n1 + 1), .lit [vI pa.x, vI pa.y] 30 (0, 0)), ((n1 + 0), .lit z2 35 (0, 0))] [])) (fun n1 => []) (fun n1 => []) (fun _ => by kernel_rfl) mn (fun n1 => an) ?_
  intro n1
  refine TL.fin (by kernel_rfl) ?_
  refine EX.next ?_
  refine TR.seq ?_
  refine TR.seq ?_
  refine TR.draw [] [] rfl (by kernel_rfl) ?_
  let z3 : Nat × Value := (4, vP (n1 + 0) 0)
  let z4 : Nat × Value := (5, vP (n1 + 1) 0)
  let z5 : Nat × Value := (6, vP (n1 + 2) 0)
  let z6 : Nat × Value := (7, vP (n1 + 3) 0)
  let z7 : Nat × Value := (8, vP (n1 + 4) 0)
  let z8 : Nat × Value := (9, vP (n1 + 5) 0)
  let z9 : Nat × Value := (16, .agg #[vI b.r, .slice b.A b.poly.length b.cap])
  let z10 : Nat × Value := (17, .agg #[vI pb.x, vI pb.y])
  refine TD.vals [] (by kernel_rfl) [0, 1, 3, 4] [] [.own 5, .own 5, .own 4, .own 4, .own 3, .own 3, .own 2, .own 2] [4, 5, 6, 7, 8, 9, 13, 14, 16, 17] [true, true, false, true, true, false, false, false] [z3, z4, z5, z6, z7, z8, (13, .agg #[vI a.r, .slice a.A a.poly.length a.cap]), (14, .agg #[vI pa.x, vI pa.y]), z9, z10] [(n1 + 3), (n1 + 3), (n1 + 2), (n1 + 2), (n1 + 1), (n1 + 1), (n1 + 0), (n1 + 0)] [] (by kernel_rfl) (by kernel_rfl) mn an 4 rfl ?_
  let z11 : Nat × Value := (15, .agg #[vI ((bounds a pa).x0), vI ((bounds a pa).y0), vI ((bounds a pa).x1), vI ((bounds a pa).y1)])
  refine TD.callv [] (by kernel_rfl) 2 [] [] (dst := (some 15)) (f := 67) (args := #[.agg #[vI a.r, .slice a.A a.poly.length a.cap], .agg #[vI pa.x, vI pa.y]]) (E := []) (Ob := []) [4, 5, 6, 7, 8, 9, 15, 16, 17] (.agg #[vI ((bounds a pa).x0), vI ((bounds a pa).y0), vI ((bounds a pa).x1), vI ((bounds a pa).y1)]) [z3, z4, z5, z6, z7, z8, z11, z9, z10] (by kernel_rfl) (by kernel_rfl) (by kernel_rfl) mn an (fun X_ => (bounds_any a pa _ (ha.up.up))) (by kernel_rfl) 3 rfl ?_
  refine TD.callv [] (by kernel_rfl) 5 [] [] (dst := (some 18)) (f := 67) (args := #[.agg #[vI b.r, .slice b.A b.poly.length b.cap], .agg #[vI pb.x, vI pb.y]]) (E := []) (Ob := []) [4, 5, 6, 7, 8, 9, 15, 18] (.agg #[vI ((bounds b pb).x0), vI ((bounds b pb).y0), vI ((bounds b pb).x1), vI ((bounds b pb).y1)]) [z3, z4, z5, z6, z7, z8, z11, (18, .agg #[vI ((bounds b pb).x0), vI ((bounds b pb).y0), vI ((bounds b pb).x1), vI ((bounds b pb).y1)])] (by kernel_rfl) (by kernel_rfl) (by kernel_rfl) mn an (fun X_ => (bounds_any b pb _ (hb.up.up))) (by kernel_rfl) 2 rfl ?_
  refine TD.callv [] (by kernel_rfl) 6 [] [] (dst := (some 19)) (f := 66) (args := #[.agg #[vI ((bounds a pa).x0), vI ((bounds a pa).y0), vI ((bounds a pa).x1), vI ((bounds a pa).y1)], .agg #[vI ((bounds b pb).x0), vI ((bounds b pb).y0), vI ((bounds b pb).x1), vI ((bounds b pb).y1)]]) (E := []) (Ob := []) [4, 5, 6, 7, 8, 9, 19] (.bool (decide (ovl (bounds a pa) (bounds b pb)))) [z3, z4, z5, z6, z7, z8, (19, .bool (decide (ovl (bounds a pa) (bounds b pb))))] (by kernel_rfl) (by kernel_rfl) (by kernel_rfl) mn an (fun X_ => (ovl_any (bounds a pa) (bounds b pb)  _)) (by kernel_rfl) 1 rfl ?_
  refine TD.vals [] (by kernel_rfl) [7] [] [] [4, 5, 6, 7, 8, 9, 20] [true, true, true, true, true, true, true, true] [z3, z4, z5, z6, z7, z8, (20, .bool (!(decide (ovl (bounds a pa) (bounds b pb)))))] [] [] (by kernel_rfl) (by kernel_rfl) mn an 0 rfl ?_
  refine TD.fin (by kernel_rfl) (EX.np ?_)
  refine EX.next ?_
  rcases Decidable.em (ovl (bounds a pa) (bounds b pb)) with h2 | h2
  · refine TR.no (b := !(decide (ovl (bounds a pa) (bounds b pb)))) (by kernel_rfl) (by kernel_rfl) (by rw [decide_eq_true h2]; rfl) ?_
    refine TR.skip ?_
    refine EX.next ?_
    refine TR.seq ?_
    refine TR.reg ?_
    let z12 : Nat × Blk := ((n1 + 5), .lit [.bool false] 4 (0, 0))
    let z13 : Nat × Blk := ((n1 + 4), .lit [vI 0, vI 0, vI 0] 99 (0, 0))
    let z14 : Nat × Blk := ((n1 + 3), .lit [vI pb.x, vI pb.y] 30 (0, 0))
    let z15 : Nat × Blk := ((n1 + 2), .lit z1 35 (0, 0))
    let z16 : Nat × Blk := ((n1 + 1), .lit [vI pa.x, vI pa.y] 30 (0, 0))
    let z17 : Nat × Blk := ((n1 + 0), .lit z2 35 (0, 0))
    refine TL.seg 3 [] [.own 0, .own 0, .own 0] [4, 5, 6, 7, 8, 9, 10] (fun n3 => [z3, z4, z5, z6, z7, z8, (10, vP (n3 + 0) 0)]) (fun n3 => (ap [((n3 + 0), .lit [vI 0, vI 0, vI 9223372036854775807] 99 (0, 0)), z12, z13, z14, z15, z16, z17] [])) (fun n3 => [(n3 + 0), (n3 + 0), (n3 + 0)]) (fun n3 => []) (fun _ => by kernel_rfl) mn (fun n3 => an) ?_
    intro n3
    refine TL.fin (by kernel_rfl) ?_
    refine EX.next ?_
    refine TR.seq ?_
    refine TR.seq ?_
    refine TR.reg ?_
    let z18 : Nat × Value := (10, vP (n3 + 0) 0)
    let z19 : Nat × Blk := ((n3 + 0), .lit [vI 0, vI 0, vI 9223372036854775807] 99 (0, 0))
    refine TL.seg0 4 [] [.own 6, .own 6, .own 5, .own 5, .own 4, .own 4, .own 3, .own 3] [4, 5, 6, 7, 8, 9, 10, 23, 24, 25, 26] [z3, z4, z5, z6, z7, z8, z18, (23, .agg #[vI a.r, .slice a.A a.poly.length a.cap]), (24, .agg #[vI pa.x, vI pa.y]), (25, .agg #[vI b.r, .slice b.A b.poly.length b.cap]), (26, .agg #[vI pb.x, vI pb.y])] (ap [z19, z12, z13, z14, z15, z16, z17] []) [(n1 + 3), (n1 + 3), (n1 + 2), (n1 + 2), (n1 + 1), (n1 + 1), (n1 + 0), (n1 + 0)] [] (fun _ => by kernel_rfl) mn an ?_
    refine TL.callT (τ := Nat) [] [] (dst := (some 27)) (f := 68) (args := #[.agg #[vI a.r, .slice a.A a.poly.length a.cap], .agg #[vI pa.x, vI pa.y], .agg #[vI b.r, .slice b.A b.poly.length b.cap], .agg #[vI pb.x, vI pb.y]]) (A := [z19, z12, z13, z14, z15, z16, z17]) (Ts := []) (E := []) (Ob := []) [] [0, 1, 2, 3, 4, 5, 6] [] [] [4, 5, 6, 7, 8, 9, 10, 27] [] [z19, z12, z13, z14, z15, z16, z17] [] [] (fun n => [((n + 3), .lit [vI pb.x, vI pb.y] 30 (0, 0)), ((n + 2), .lit z1 35 (0, 0)), ((n + 1), .lit [vI pa.x, vI pa.y] 30 (0, 0)), ((n + 0), .lit z2 35 (0, 0))]) (fun _ => []) (fun v n => v = .func (.func 89) #[] #[vP (n + 0) 0, vP (n + 2) 0, vP (n + 3) 0, vP (n + 1) 0]) (fun v_ => [z3, z4, z5, z6, z7, z8, z18, (27, v_)]) (fun _ => by kernel_rfl) mn an (by kernel_rfl) (by kernel_rfl) (by kernel_rfl) (by kernel_rfl) (by kernel_rfl) (by kernel_rfl) (fun _ => by kernel_rfl) (axesf_ap a pa b pb _) ?_
    rintro _ m4 rfl
    refine TL.fin (by kernel_rfl) ?_
    refine EX.next ?_
    refine TR.block ?_
    let z20 : Nat × Blk := ((m4 + 3), .lit [vI pb.x, vI pb.y] 30 (0, 0))
    let z21 : Nat × Blk := ((m4 + 2), .lit z1 35 (0, 0))
    let z22 : Nat × Blk := ((m4 + 1), .lit [vI pa.x, vI pa.y] 30 (0, 0))
    let z23 : Nat × Blk := ((m4 + 0), .lit z2 35 (0, 0))
    let z24 : Nat × Blk := ((n3 + 0), .lit [vI ((colN a pa b pb (axesL a pa b pb) 0).nx), vI ((colN a pa b pb (axesL a pa b pb) 0).ny), vI ((colN a pa b pb (axesL a pa b pb) 0).d)] 99 (0, 0))
    refine TR.den [z20, z21, z22, z23, z24, z12, z13, z14, z15, z16, z17] (by kernel_rfl) ?_
    refine TR.rangeA (α := V2) (σ := Nat) (τ := Nat × V2 × Nat) (A := [z20, z21, z22, z23, z24, z12, z13, z14, z15, z16, z17]) (Ts := []) (encs := (fun (x_ : V2) => (#[.agg #[vI x_.x, vI x_.y]] : Array Value))) (xs := (axesL a pa b pb)) (gf := 89) (lb := #[vP (m4 + 0) 0, vP (m4 + 2) 0, vP (m4 + 3) 0, vP (m4 + 1) 0]) (by kernel_rfl) (by kernel_rfl) (enters_of Tryz.func89 (by kernel_rfl) rfl) (fun (m_ : Nat) => [((n3 + 0), .lit [vI ((colN a pa b pb (axesL a pa b pb) m_).nx), vI ((colN a pa b pb (axesL a pa b pb) m_).ny), vI ((colN a pa b pb (axesL a pa b pb) m_).d)] 99 (0, 0)), z12, z13]) (fun (m_ : Nat) => []) (fun (i_ : Nat) (m_ : Nat) => m_ = i_ ∧ colOk a pa b pb (axesL a pa b pb) m_ = true) (fun (c_ : Code) (m_ : Nat) => c_ = Code.ret ∧ colOk a pa b pb (axesL a pa b pb) (axesL a pa b pb).length = false) (fun (x : Nat × V2 × Nat) => match x with | ⟨m_, y_, nb⟩ => [z3, z4, z5, z6, z7, z8, z18, (11, vP (nb + 0) 0)]) (fun (x : Nat × V2 × Nat) => match x with | ⟨m_, y_, nb⟩ => ap [((nb + 0), .lit [vI y_.x, vI y_.y] 30 (0, 0)), ((n3 + 0), .lit [vI ((colN a pa b pb (axesL a pa b pb) m_).nx), vI ((colN a pa b pb (axesL a pa b pb) m_).ny), vI ((colN a pa b pb (axesL a pa b pb) m_).d)] 99 (0, 0)), z12, z13] []) (fun (i_ : Nat) (x_ : V2) (t : Nat × V2 × Nat) => match t with | ⟨m_, y_, nb⟩ => m_ = i_ ∧ colOk a pa b pb (axesL a pa b pb) m_ = true ∧ y_ = x_) (fun _ => rfl) (by kernel_rfl) 0 (⟨rfl, rfl⟩) [4, 5, 6] [0, 1, 2, 3, 7, 8, 9, 10] [] [] (by kernel_rfl) (by kernel_rfl) [z20, z21, z22, z23, z14, z15, z16, z17] [] (by kernel_rfl) (by kernel_rfl) (by kernel_rfl) (by kernel_rfl) (axes_it a pa b pb _ _ _ _ _ ha.up hb.up (in_ap 3 rfl) (in_ap 1 rfl) (in_ap 0 rfl) (in_ap 2 rfl)) ?_ ?_ ?_ ?_
    · rintro l_ i_ x_ m_ Y5 w6 hx7 hI_
      show TR _ _ _ _ _ _ ((28, .agg #[vI x_.x, vI x_.y]) :: [(4, vP (n1 + 0) 0), (5, vP (n1 + 1) 0), (6, vP (n1 + 2) 0), (7, vP (n1 + 3) 0), (8, vP (n1 + 4) 0), (9, vP (n1 + 5) 0), (10, vP (n3 + 0) 0), (27, .func (.func 89) #[] #[vP (m4 + 0) 0, vP (m4 + 2) 0, vP (m4 + 3) 0, vP (m4 + 1) 0])]) _ _ _
      have ha := (ha.up (X := ap [((m4 + 3), .lit [vI pb.x, vI pb.y] 30 (0, 0)), ((m4 + 2), .lit [vI b.r, .slice b.A b.poly.length b.cap] 35 (0, 0)), ((m4 + 1), .lit [vI pa.x, vI pa.y] 30 (0, 0)), ((m4 + 0), .lit [vI a.r, .slice a.A a.poly.length a.cap] 35 (0, 0)), ((n1 + 3), .lit [vI pb.x, vI pb.y] 30 (0, 0)), ((n1 + 2), .lit [vI b.r, .slice b.A b.poly.length b.cap] 35 (0, 0)), ((n1 + 1), .lit [vI pa.x, vI pa.y] 30 (0, 0)), ((n1 + 0), .lit [vI a.r, .slice a.A a.poly.length a.cap] 35 (0, 0))] [])).up (X := Y5)
      have hb := (hb.up (X := ap [((m4 + 3), .lit [vI pb.x, vI pb.y] 30 (0, 0)), ((m4 + 2), .lit [vI b.r, .slice b.A b.poly.length b.cap] 35 (0, 0)), ((m4 + 1), .lit [vI pa.x, vI pa.y] 30 (0, 0)), ((m4 + 0), .lit [vI a.r, .slice a.A a.poly.length a.cap] 35 (0, 0)), ((n1 + 3), .lit [vI pb.x, vI pb.y] 30 (0, 0)), ((n1 + 2), .lit [vI b.r, .slice b.A b.poly.length b.cap] 35 (0, 0)), ((n1 + 1), .lit [vI pa.x, vI pa.y] 30 (0, 0)), ((n1 + 0), .lit [vI a.r, .slice a.A a.poly.length a.cap] 35 (0, 0))] [])).up (X := Y5)
      obtain ⟨rfl, hok⟩ := hI_
      refine TR.reg ?_
      let z25 : Nat × Blk := ((n3 + 0), .lit [vI ((colN a pa b pb (axesL a pa b pb) m_).nx), vI ((colN a pa b pb (axesL a pa b pb) m_).ny), vI ((colN a pa b pb (axesL a pa b pb) m_).d)] 99 (0, 0))
      refine TL.seg 2 [] [.own 0, .own 0] [4, 5, 6, 7, 8, 9, 10, 11] (fun n8 => [z3, z4, z5, z6, z7, z8, z18, (11, vP (n8 + 0) 0)]) (fun n8 => (ap [((n8 + 0), .lit [vI x_.x, vI x_.y] 30 (0, 0)), z25, z12, z13] [])) (fun n8 => [(n8 + 0), (n8 + 0)]) (fun n8 => []) (fun _ => by kernel_rfl) mn (fun n8 => an) ?_
      intro n8
      refine TL.fin (by kernel_rfl) ?_
      refine EX.meet (A := [((n8 + 0), .lit [vI x_.x, vI x_.y] 30 (0, 0)), z25, z12, z13]) (Ts := []) (m_, x_, n8) ?_ [4, 5, 6, 7, 8, 9, 10, 11] (by kernel_rfl) [0, 1, 2, 3] [] [] [] (by kernel_rfl) (by kernel_rfl) (by kernel_rfl)
      try dsimp only
      exact ⟨rfl, hok, rfl⟩
    · rintro l_ i_ x_ ⟨m_, y_, nb⟩ Y9 w10 hx11 hI_
      have ha := (ha.up (X := ap [((m4 + 3), .lit [vI pb.x, vI pb.y] 30 (0, 0)), ((m4 + 2), .lit [vI b.r, .slice b.A b.poly.length b.cap] 35 (0, 0)), ((m4 + 1), .lit [vI pa.x, vI pa.y] 30 (0, 0)), ((m4 + 0), .lit [vI a.r, .slice a.A a.poly.length a.cap] 35 (0, 0)), ((n1 + 3), .lit [vI pb.x, vI pb.y] 30 (0, 0)), ((n1 + 2), .lit [vI b.r, .slice b.A b.poly.length b.cap] 35 (0, 0)), ((n1 + 1), .lit [vI pa.x, vI pa.y] 30 (0, 0)), ((n1 + 0), .lit [vI a.r, .slice a.A a.poly.length a.cap] 35 (0, 0))] [])).up (X := Y9)
      have hb := (hb.up (X := ap [((m4 + 3), .lit [vI pb.x, vI pb.y] 30 (0, 0)), ((m4 + 2), .lit [vI b.r, .slice b.A b.poly.length b.cap] 35 (0, 0)), ((m4 + 1), .lit [vI pa.x, vI pa.y] 30 (0, 0)), ((m4 + 0), .lit [vI a.r, .slice a.A a.poly.length a.cap] 35 (0, 0)), ((n1 + 3), .lit [vI pb.x, vI pb.y] 30 (0, 0)), ((n1 + 2), .lit [vI b.r, .slice b.A b.poly.length b.cap] 35 (0, 0)), ((n1 + 1), .lit [vI pa.x, vI pa.y] 30 (0, 0)), ((n1 + 0), .lit [vI a.r, .slice a.A a.poly.length a.cap] 35 (0, 0))] [])).up (X := Y9)
      obtain ⟨rfl, hok, rfl⟩ := hI_
      have ex := getD_of hx11
      skip
      refine TR.block ?_
      refine TR.seq ?_
      refine TR.reg ?_
      let z26 : Nat × Value := (11, vP (nb + 0) 0)
      let z27 : Nat × Blk := ((nb + 0), .lit [vI y_.x, vI y_.y] 30 (0, 0))
      let z28 : Nat × Blk := ((n3 + 0), .lit [vI ((colN a pa b pb (axesL a pa b pb) m_).nx), vI ((colN a pa b pb (axesL a pa b pb) m_).ny), vI ((colN a pa b pb (axesL a pa b pb) m_).d)] 99 (0, 0))
      refine TL.seg0 5 [z17, z16, z15, z14] [.ro 0, .ro 0, .ro 1, .ro 1, .ro 2, .ro 2, .ro 3, .ro 3, .own 0, .own 0] [8, 9, 10, 11, 29, 30, 31, 32, 33] [z7, z8, z18, z26, (29, .agg #[vI a.r, .slice a.A a.poly.length a.cap]), (30, .agg #[vI pa.x, vI pa.y]), (31, .agg #[vI b.r, .slice b.A b.poly.length b.cap]), (32, .agg #[vI pb.x, vI pb.y]), (33, .agg #[vI y_.x, vI y_.y])] (ap [z27, z28, z12, z13] []) [(nb + 0), (nb + 0), (n1 + 3), (n1 + 3), (n1 + 2), (n1 + 2), (n1 + 1), (n1 + 1), (n1 + 0), (n1 + 0)] [] (fun _ => by kernel_rfl) (mc (List.mem_append_right Y9 (in_ap 7 rfl)) (mc (List.mem_append_right Y9 (in_ap 6 rfl)) (mc (List.mem_append_right Y9 (in_ap 5 rfl)) (mc (List.mem_append_right Y9 (in_ap 4 rfl)) mn)))) an ?_
      refine TL.callp (dst := (some 34)) (f := 69) (args := #[.agg #[vI a.r, .slice a.A a.poly.length a.cap], .agg #[vI pa.x, vI pa.y], .agg #[vI b.r, .slice b.A b.poly.length b.cap], .agg #[vI pb.x, vI pb.y], .agg #[vI y_.x, vI y_.y]]) (H1 := (ap [z27, z28, z12, z13] [])) (E := []) (Ob := []) [] [] [8, 9, 10, 11, 34] (vI (depthS a pa b pb y_)) [z7, z8, z18, z26, (34, vI (depthS a pa b pb y_))] (fun _ => by kernel_rfl) mn an (depth_any a pa b pb y_ _ (ha.up) (hb.up)) (by kernel_rfl) ?_
      let z29 : Nat × Value := (12, vI (depthS a pa b pb y_))
      refine TL.seg0 1 [] [] [8, 9, 10, 11, 12] [z7, z8, z18, z26, z29] (ap [z27, z28, z12, z13] []) [] [] (fun _ => by kernel_rfl) mn an ?_
      refine TL.fin (by kernel_rfl) ?_
      refine EX.next ?_
      refine TR.seq ?_
      refine TR.seq ?_
      refine TR.reg ?_
      refine TL.seg0 2 [] [] [8, 9, 10, 11, 12, 36] [z7, z8, z18, z26, z29, (36, .bool (decide (depthS a pa b pb y_ ≤ 0)))] (ap [z27, z28, z12, z13] []) [] [] (fun _ => by kernel_rfl) mn an ?_
      refine TL.fin (by kernel_rfl) ?_
      refine EX.next ?_
      rcases Decidable.em (depthS a pa b pb y_ ≤ 0) with h12 | h12
      · refine TR.yes (b := decide (depthS a pa b pb y_ ≤ 0)) (by kernel_rfl) (by kernel_rfl) (decide_eq_true h12) ?_
        refine TR.seq ?_
        refine TR.reg ?_
        refine TL.seg0 3 [] [.own 3, .own 3, .own 3, .own 2] [] [] (ap [z27, z28, z12, z13] []) [(n1 + 5), (n1 + 4), (n1 + 4), (n1 + 4)] [] (fun _ => by kernel_rfl) mn an ?_
        refine TL.fin (by kernel_rfl) ?_
        refine EX.next ?_
        refine TR.rr (by exact fun _ _ h => h) m_ ?_ (A := [z27, z28, z12, z13]) (Ts := []) [1, 2, 3] [0] [] [] (by kernel_rfl) (by kernel_rfl) (by kernel_rfl)
        try dsimp only
        refine ⟨rfl, ?_⟩
        have hl_ : m_ < (axesL a pa b pb).length := (List.getElem?_eq_some_iff.1 hx11).1
        have h1_ : colOk a pa b pb (axesL a pa b pb) (m_ + 1) = false := by rw [colOk, ex, hok, decide_eq_true h12]; rfl
        have h2_ := colOk_no h1_ ((axesL a pa b pb).length - (m_ + 1))
        rwa [show m_ + 1 + ((axesL a pa b pb).length - (m_ + 1)) = (axesL a pa b pb).length by omega] at h2_
      · refine TR.no (b := decide (depthS a pa b pb y_ ≤ 0)) (by kernel_rfl) (by kernel_rfl) (decide_eq_false h12) ?_
        refine TR.skip ?_
        refine EX.next ?_
        refine TR.seq ?_
        refine TR.reg ?_
        refine TL.seg0 4 [] [.own 1] [10, 11, 12, 41] [z18, z26, z29, (41, .bool (decide (depthS a pa b pb y_ < (colN a pa b pb (axesL a pa b pb) m_).d)))] (ap [z27, z28, z12, z13] []) [(n3 + 0)] [] (fun _ => by kernel_rfl) mn an ?_
        refine TL.fin (by kernel_rfl) ?_
        refine EX.next ?_
        rcases Decidable.em (depthS a pa b pb y_ < (colN a pa b pb (axesL a pa b pb) m_).d) with h13 | h13
        · refine TR.yes (b := decide (depthS a pa b pb y_ < (colN a pa b pb (axesL a pa b pb) m_).d)) (by kernel_rfl) (by kernel_rfl) (decide_eq_true h13) ?_
          refine TR.reg ?_
          refine TL.seg0 4 [] [.own 0, .own 0, .own 1, .own 1, .own 1] [] [] (ap [z27, ((n3 + 0), .lit [vI y_.x, vI y_.y, vI (depthS a pa b pb y_)] 99 (0, 0)), z12, z13] []) [(n3 + 0), (n3 + 0), (n3 + 0), (nb + 0), (nb + 0)] [] (fun _ => by kernel_rfl) mn an ?_
          refine TL.fin (by kernel_rfl) ?_
          refine EX.inn ?_
          have hn1_ : colOk a pa b pb (axesL a pa b pb) (m_ + 1) = true := by rw [colOk, ex, hok, decide_eq_false h12]; rfl
          have e_ : (colN a pa b pb (axesL a pa b pb) (m_ + 1)) = (⟨y_.x, y_.y, depthS a pa b pb y_⟩ : Con) := by rw [colN, ex, if_pos h13]
          let z30 : Nat × Blk := ((n3 + 0), .lit [vI ((colN a pa b pb (axesL a pa b pb) (m_ + 1)).nx), vI ((colN a pa b pb (axesL a pa b pb) (m_ + 1)).ny), vI ((colN a pa b pb (axesL a pa b pb) (m_ + 1)).d)] 99 (0, 0))
          refine EX.convH (ap [z27, z30, z12, z13] []) (congrArg (fun v_ => (ap [z27, ((n3 + 0), .lit [vI v_.nx, vI v_.ny, vI v_.d] 99 (0, 0)), z12, z13] [])) e_.symm) ?_
          refine EX.rn (by exact fun _ _ h => h) (m_ + 1) ?_ (A := [z27, z30, z12, z13]) (Ts := []) [1, 2, 3] [0] [] [] (by kernel_rfl) (by kernel_rfl) (by kernel_rfl)
          try dsimp only
          exact ⟨rfl, hn1_⟩
        · refine TR.no (b := decide (depthS a pa b pb y_ < (colN a pa b pb (axesL a pa b pb) m_).d)) (by kernel_rfl) (by kernel_rfl) (decide_eq_false h13) ?_
          refine TR.skip ?_
          refine EX.inn ?_
          have hn1_ : colOk a pa b pb (axesL a pa b pb) (m_ + 1) = true := by rw [colOk, ex, hok, decide_eq_false h12]; rfl
          have e_ : (colN a pa b pb (axesL a pa b pb) (m_ + 1)) = (colN a pa b pb (axesL a pa b pb) m_) := by rw [colN, ex, if_neg h13]
          let z31 : Nat × Blk := ((n3 + 0), .lit [vI ((colN a pa b pb (axesL a pa b pb) (m_ + 1)).nx), vI ((colN a pa b pb (axesL a pa b pb) (m_ + 1)).ny), vI ((colN a pa b pb (axesL a pa b pb) (m_ + 1)).d)] 99 (0, 0))
          refine EX.convH (ap [z27, z31, z12, z13] []) (congrArg (fun v_ => (ap [z27, ((n3 + 0), .lit [vI v_.nx, vI v_.ny, vI v_.d] 99 (0, 0)), z12, z13] [])) e_.symm) ?_
          refine EX.rn (by exact fun _ _ h => h) (m_ + 1) ?_ (A := [z27, z31, z12, z13]) (Ts := []) [1, 2, 3] [0] [] [] (by kernel_rfl) (by kernel_rfl) (by kernel_rfl)
          try dsimp only
          exact ⟨rfl, hn1_⟩
    · rintro d14 m_ hI_
      obtain ⟨rfl, hok⟩ := hI_
      refine EX.inn ?_
      refine EX.next ?_
      refine TR.seq ?_
      refine TR.seq ?_
      refine TR.draw [] [] rfl (by kernel_rfl) ?_
      let z32 : Nat × Value := (49, .agg #[vI ((colN a pa b pb (axesL a pa b pb) (axesL a pa b pb).length).nx), vI ((colN a pa b pb (axesL a pa b pb) (axesL a pa b pb).length).ny)])
      refine TD.vals [] (by kernel_rfl) [0, 1, 3, 4] [] [.own 8, .own 8, .own 10, .own 10, .own 1, .own 1] [8, 9, 10, 45, 46, 49] [true, true, false, true, true, false, false] [z7, z8, z18, (45, .agg #[vI pb.x, vI pb.y]), (46, .agg #[vI pa.x, vI pa.y]), z32] [(n3 + 0), (n3 + 0), (n1 + 1), (n1 + 1), (n1 + 3), (n1 + 3)] [] (by kernel_rfl) (by kernel_rfl) mn an 3 rfl ?_
      refine TD.callv [] (by kernel_rfl) 2 [] [] (dst := (some 47)) (f := 71) (args := #[.agg #[vI pb.x, vI pb.y], .agg #[vI pa.x, vI pa.y]]) (E := []) (Ob := []) [8, 9, 10, 47, 49] (.agg #[vI ((vsub pb pa).x), vI ((vsub pb pa).y)]) [z7, z8, z18, (47, .agg #[vI ((vsub pb pa).x), vI ((vsub pb pa).y)]), z32] (by kernel_rfl) (by kernel_rfl) (by kernel_rfl) mn an (fun X_ => (vsub_any pb pa  _)) (by kernel_rfl) 2 rfl ?_
      refine TD.callv [] (by kernel_rfl) 5 [] [] (dst := (some 50)) (f := 70) (args := #[.agg #[vI ((vsub pb pa).x), vI ((vsub pb pa).y)], .agg #[vI ((colN a pa b pb (axesL a pa b pb) (axesL a pa b pb).length).nx), vI ((colN a pa b pb (axesL a pa b pb) (axesL a pa b pb).length).ny)]]) (E := []) (Ob := []) [8, 9, 10, 50] (vI (vdot (vsub pb pa) (⟨(colN a pa b pb (axesL a pa b pb) (axesL a pa b pb).length).nx, (colN a pa b pb (axesL a pa b pb) (axesL a pa b pb).length).ny⟩ : V2))) [z7, z8, z18, (50, vI (vdot (vsub pb pa) (⟨(colN a pa b pb (axesL a pa b pb) (axesL a pa b pb).length).nx, (colN a pa b pb (axesL a pa b pb) (axesL a pa b pb).length).ny⟩ : V2)))] (by kernel_rfl) (by kernel_rfl) (by kernel_rfl) mn an (fun X_ => (vdot_any (vsub pb pa) (⟨(colN a pa b pb (axesL a pa b pb) (axesL a pa b pb).length).nx, (colN a pa b pb (axesL a pa b pb) (axesL a pa b pb).length).ny⟩ : V2)  _)) (by kernel_rfl) 1 rfl ?_
      refine TD.vals [] (by kernel_rfl) [6] [] [] [8, 9, 10, 51] [true, true, true, true, true, true, true] [z7, z8, z18, (51, .bool (decide (vdot (vsub pb pa) (⟨(colN a pa b pb (axesL a pa b pb) (axesL a pa b pb).length).nx, (colN a pa b pb (axesL a pa b pb) (axesL a pa b pb).length).ny⟩ : V2) < 0)))] [] [] (by kernel_rfl) (by kernel_rfl) mn an 0 rfl ?_
      refine TD.fin (by kernel_rfl) (EX.np ?_)
      refine EX.next ?_
      rcases Decidable.em (vdot (vsub pb pa) (⟨(colN a pa b pb (axesL a pa b pb) (axesL a pa b pb).length).nx, (colN a pa b pb (axesL a pa b pb) (axesL a pa b pb).length).ny⟩ : V2) < 0) with h15 | h15
      · refine TR.yes (b := decide (vdot (vsub pb pa) (⟨(colN a pa b pb (axesL a pa b pb) (axesL a pa b pb).length).nx, (colN a pa b pb (axesL a pa b pb) (axesL a pa b pb).length).ny⟩ : V2) < 0)) (by kernel_rfl) (by kernel_rfl) (decide_eq_true h15) ?_
        refine TR.reg ?_
        let z33 : Nat × Blk := (d14, .obj (.deferred (some [])))
        let z34 : Nat × Blk := ((n3 + 0), .lit [vI ((colN a pa b pb (axesL a pa b pb) (axesL a pa b pb).length).nx), vI ((colN a pa b pb (axesL a pa b pb) (axesL a pa b pb).length).ny), vI ((colN a pa b pb (axesL a pa b pb) (axesL a pa b pb).length).d)] 99 (0, 0))
        refine TL.seg0 2 [] [.own 1, .own 1] [8, 9, 10, 53] [z7, z8, z18, (53, .agg #[vI ((colN a pa b pb (axesL a pa b pb) (axesL a pa b pb).length).nx), vI ((colN a pa b pb (axesL a pa b pb) (axesL a pa b pb).length).ny)])] (ap [z33, z34, z12, z13, z20, z21, z22, z23, z14, z15, z16, z17] []) [(n3 + 0), (n3 + 0)] [] (fun _ => by kernel_rfl) mn an ?_
        refine TL.callp (dst := (some 54)) (f := 72) (args := #[.agg #[vI ((colN a pa b pb (axesL a pa b pb) (axesL a pa b pb).length).nx), vI ((colN a pa b pb (axesL a pa b pb) (axesL a pa b pb).length).ny)]]) (H1 := (ap [z33, z34, z12, z13, z20, z21, z22, z23, z14, z15, z16, z17] [])) (E := []) (Ob := []) [] [] [8, 9, 10, 54] (.agg #[vI ((vneg (⟨(colN a pa b pb (axesL a pa b pb) (axesL a pa b pb).length).nx, (colN a pa b pb (axesL a pa b pb) (axesL a pa b pb).length).ny⟩ : V2)).x), vI ((vneg (⟨(colN a pa b pb (axesL a pa b pb) (axesL a pa b pb).length).nx, (colN a pa b pb (axesL a pa b pb) (axesL a pa b pb).length).ny⟩ : V2)).y)]) [z7, z8, z18, (54, .agg #[vI ((vneg (⟨(colN a pa b pb (axesL a pa b pb) (axesL a pa b pb).length).nx, (colN a pa b pb (axesL a pa b pb) (axesL a pa b pb).length).ny⟩ : V2)).x), vI ((vneg (⟨(colN a pa b pb (axesL a pa b pb) (axesL a pa b pb).length).nx, (colN a pa b pb (axesL a pa b pb) (axesL a pa b pb).length).ny⟩ : V2)).y)])] (fun _ => by kernel_rfl) mn an (vneg_any (⟨(colN a pa b pb (axesL a pa b pb) (axesL a pa b pb).length).nx, (colN a pa b pb (axesL a pa b pb) (axesL a pa b pb).length).ny⟩ : V2)  _) (by kernel_rfl) ?_
        let z35 : List Value := [vI ((vneg (⟨(colN a pa b pb (axesL a pa b pb) (axesL a pa b pb).length).nx, (colN a pa b pb (axesL a pa b pb) (axesL a pa b pb).length).ny⟩ : V2)).x), vI ((vneg (⟨(colN a pa b pb (axesL a pa b pb) (axesL a pa b pb).length).nx, (colN a pa b pb (axesL a pa b pb) (axesL a pa b pb).length).ny⟩ : V2)).y), vI ((colN a pa b pb (axesL a pa b pb) (axesL a pa b pb).length).d)]
        let z36 : Nat × Blk := ((n3 + 0), .lit z35 99 (0, 0))
        refine TL.seg0 2 [] [.own 1, .own 1] [8, 9, 10] [z7, z8, z18] (ap [z33, z36, z12, z13, z20, z21, z22, z23, z14, z15, z16, z17] []) [(n3 + 0), (n3 + 0)] [] (fun _ => by kernel_rfl) mn an ?_
        refine TL.fin (by kernel_rfl) ?_
        refine EX.next ?_
        refine TR.seq ?_
        refine TR.reg ?_
        let z37 : Nat × Blk := ((n1 + 5), .lit [.bool true] 4 (0, 0))
        let z38 : Nat × Blk := ((n1 + 4), .lit z35 99 (0, 0))
        refine TL.seg0 3 [] [.own 1, .own 1, .own 1, .own 3, .own 3, .own 3, .own 2] [8, 9] [z7, z8] (ap [z33, z36, z37, z38, z20, z21, z22, z23, z14, z15, z16, z17] []) [(n1 + 5), (n1 + 4), (n1 + 4), (n1 + 4), (n3 + 0), (n3 + 0), (n3 + 0)] [] (fun _ => by kernel_rfl) mn an ?_
        refine TL.fin (by kernel_rfl) ?_
        refine EX.next ?_
        refine TR.retM (A := [z33, z36, z37, z38, z20, z21, z22, z23, z14, z15, z16, z17]) (A1 := [z36, z37, z38, z20, z21, z22, z23, z14, z15, z16, z17]) (Ts := []) (by exact fun _ _ h => h) rfl [d14] rfl [0] [1, 2, 3, 4, 5, 6, 7, 8, 9, 10, 11] [] [.own 2, .own 2, .own 2, .own 1] (.tuple #[.agg #[vI ((vneg (⟨(colN a pa b pb (axesL a pa b pb) (axesL a pa b pb).length).nx, (colN a pa b pb (axesL a pa b pb) (axesL a pa b pb).length).ny⟩ : V2)).x), vI ((vneg (⟨(colN a pa b pb (axesL a pa b pb) (axesL a pa b pb).length).nx, (colN a pa b pb (axesL a pa b pb) (axesL a pa b pb).length).ny⟩ : V2)).y), vI ((colN a pa b pb (axesL a pa b pb) (axesL a pa b pb).length).d)], .bool true]) [(n1 + 5), (n1 + 4), (n1 + 4), (n1 + 4)] [] (by kernel_rfl) (by kernel_rfl) (by kernel_rfl) (fun _ => by kernel_rfl) mn an [] [0, 1, 2, 3, 4, 5, 6, 7, 8, 9, 10] [] [] [] (by kernel_rfl) (by kernel_rfl) (by kernel_rfl) ?_
        exact ⟨by simp only [collideS, if_pos h2, hok, if_true, flipC, if_pos h15], rfl⟩
      · refine TR.no (b := decide (vdot (vsub pb pa) (⟨(colN a pa b pb (axesL a pa b pb) (axesL a pa b pb).length).nx, (colN a pa b pb (axesL a pa b pb) (axesL a pa b pb).length).ny⟩ : V2) < 0)) (by kernel_rfl) (by kernel_rfl) (decide_eq_false h15) ?_
        refine TR.skip ?_
        refine EX.next ?_
        refine TR.seq ?_
        refine TR.reg ?_
        let z39 : Nat × Blk := (d14, .obj (.deferred (some [])))
        let z40 : List Value := [vI ((colN a pa b pb (axesL a pa b pb) (axesL a pa b pb).length).nx), vI ((colN a pa b pb (axesL a pa b pb) (axesL a pa b pb).length).ny), vI ((colN a pa b pb (axesL a pa b pb) (axesL a pa b pb).length).d)]
        let z41 : Nat × Blk := ((n3 + 0), .lit z40 99 (0, 0))
        let z42 : Nat × Blk := ((n1 + 5), .lit [.bool true] 4 (0, 0))
        let z43 : Nat × Blk := ((n1 + 4), .lit z40 99 (0, 0))
        refine TL.seg0 3 [] [.own 1, .own 1, .own 1, .own 3, .own 3, .own 3, .own 2] [8, 9] [z7, z8] (ap [z39, z41, z42, z43, z20, z21, z22, z23, z14, z15, z16, z17] []) [(n1 + 5), (n1 + 4), (n1 + 4), (n1 + 4), (n3 + 0), (n3 + 0), (n3 + 0)] [] (fun _ => by kernel_rfl) mn an ?_
        refine TL.fin (by kernel_rfl) ?_
        refine EX.next ?_
        refine TR.retM (A := [z39, z41, z42, z43, z20, z21, z22, z23, z14, z15, z16, z17]) (A1 := [z41, z42, z43, z20, z21, z22, z23, z14, z15, z16, z17]) (Ts := []) (by exact fun _ _ h => h) rfl [d14] rfl [0] [1, 2, 3, 4, 5, 6, 7, 8, 9, 10, 11] [] [.own 2, .own 2, .own 2, .own 1] (.tuple #[.agg #[vI ((colN a pa b pb (axesL a pa b pb) (axesL a pa b pb).length).nx), vI ((colN a pa b pb (axesL a pa b pb) (axesL a pa b pb).length).ny), vI ((colN a pa b pb (axesL a pa b pb) (axesL a pa b pb).length).d)], .bool true]) [(n1 + 5), (n1 + 4), (n1 + 4), (n1 + 4)] [] (by kernel_rfl) (by kernel_rfl) (by kernel_rfl) (fun _ => by kernel_rfl) mn an [] [0, 1, 2, 3, 4, 5, 6, 7, 8, 9, 10] [] [] [] (by kernel_rfl) (by kernel_rfl) (by kernel_rfl) ?_
        exact ⟨by simp only [collideS, if_pos h2, hok, if_true, flipC, if_neg h15], rfl⟩
    · rintro d16 c_ m_ ⟨rfl, hno⟩
      let z44 : Nat × Blk := ((n3 + 0), .lit [vI ((colN a pa b pb (axesL a pa b pb) m_).nx), vI ((colN a pa b pb (axesL a pa b pb) m_).ny), vI ((colN a pa b pb (axesL a pa b pb) m_).d)] 99 (0, 0))
      refine TR.retM (A := [(d16, .obj (.deferred (some []))), z44, z12, z13, z20, z21, z22, z23, z14, z15, z16, z17]) (A1 := [z44, z12, z13, z20, z21, z22, z23, z14, z15, z16, z17]) (Ts := []) (by exact fun _ _ h => h) rfl [d16] rfl [0] [1, 2, 3, 4, 5, 6, 7, 8, 9, 10, 11] [] [.own 2, .own 2, .own 2, .own 1] (.tuple #[.agg #[vI 0, vI 0, vI 0], .bool false]) [(n1 + 5), (n1 + 4), (n1 + 4), (n1 + 4)] [] (by kernel_rfl) (by kernel_rfl) (by kernel_rfl) (fun _ => by kernel_rfl) mn an [] [0, 1, 2, 3, 4, 5, 6, 7, 8, 9, 10] [] [] [] (by kernel_rfl) (by kernel_rfl) (by kernel_rfl) ?_
      exact ⟨by simp only [collideS, if_pos h2, hno]; rfl, rfl⟩
  · refine TR.yes (b := !(decide (ovl (bounds a pa) (bounds b pb)))) (by kernel_rfl) (by kernel_rfl) (by rw [decide_eq_false h2]; rfl) ?_
    refine TR.seq ?_
    refine TR.reg ?_
    let z45 : Nat × Blk := ((n1 + 5), .lit [.bool false] 4 (0, 0))
    let z46 : Nat × Blk := ((n1 + 4), .lit [vI 0, vI 0, vI 0] 99 (0, 0))
    let z47 : Nat × Blk := ((n1 + 3), .lit [vI pb.x, vI pb.y] 30 (0, 0))
    let z48 : Nat × Blk := ((n1 + 2), .lit z1 35 (0, 0))
    let z49 : Nat × Blk := ((n1 + 1), .lit [vI pa.x, vI pa.y] 30 (0, 0))
    let z50 : Nat × Blk := ((n1 + 0), .lit z2 35 (0, 0))
    refine TL.seg0 3 [] [.own 1, .own 1, .own 1, .own 0] [8, 9] [z7, z8] (ap [z45, z46, z47, z48, z49, z50] []) [(n1 + 5), (n1 + 4), (n1 + 4), (n1 + 4)] [] (fun _ => by kernel_rfl) mn an ?_
    refine TL.fin (by kernel_rfl) ?_
    refine EX.next ?_
    refine TR.retM (A := [z45, z46, z47, z48, z49, z50]) (A1 := [z45, z46, z47, z48, z49, z50]) (Ts := []) (by exact fun _ _ h => h) rfl [] rfl [] [0, 1, 2, 3, 4, 5] [] [.own 1, .own 1, .own 1, .own 0] (.tuple #[.agg #[vI 0, vI 0, vI 0], .bool false]) [(n1 + 5), (n1 + 4), (n1 + 4), (n1 + 4)] [] (by kernel_rfl) (by kernel_rfl) (by kernel_rfl) (fun _ => by kernel_rfl) mn an [] [0, 1, 2, 3, 4, 5] [] [] [] (by kernel_rfl) (by kernel_rfl) (by kernel_rfl) ?_
    exact ⟨by simp only [collideS, if_neg h2], rfl⟩
end Go.Proofs.YtpkincoclhpcgaaGreatDoor
