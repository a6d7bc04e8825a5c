/- Contracts, printed by a program. -/
import Derived.Test.YtpkincoclhpcgaaGreatDoorGh
import Derived.Test.YtpkincoclhpcgaaGreatDoorE8
namespace Go.Proofs.YtpkincoclhpcgaaGreatDoor
set_option linter.unusedSimpArgs false
set_option linter.unusedVariables false
open Go.RowKit
theorem ShIn.up {F X : HL} {s : Shp} (h : ShIn F s) : ShIn (X ++ F) s := h.mono fun x hx => List.mem_append_right _ hx
def isZ (a : V2) : Prop := ((decide (a.x = 0) && (decide (a.y = 0) && true))) = true
instance (a : V2) : Decidable (isZ a) := inferInstanceAs (Decidable (_ = true))
def unitV (a : V2) : V2 := if isZ (vnorm a) then ⟨1024, 0⟩ else vnorm a
def projF (pos ax : V2) (l : List V2) : Nat → Int × Int
  | 0 => (0, 0)
  | k + 1 => if (k : Int) = 0 then (if vdot (vadd pos (l.getD k ⟨0, 0⟩)) ax < vdot (vadd pos (l.getD k ⟨0, 0⟩)) ax then vdot (vadd pos (l.getD k ⟨0, 0⟩)) ax else vdot (vadd pos (l.getD k ⟨0, 0⟩)) ax, if vdot (vadd pos (l.getD k ⟨0, 0⟩)) ax > vdot (vadd pos (l.getD k ⟨0, 0⟩)) ax then vdot (vadd pos (l.getD k ⟨0, 0⟩)) ax else vdot (vadd pos (l.getD k ⟨0, 0⟩)) ax)
    else (if vdot (vadd pos (l.getD k ⟨0, 0⟩)) ax < (projF pos ax l k).1 then vdot (vadd pos (l.getD k ⟨0, 0⟩)) ax else (projF pos ax l k).1, if vdot (vadd pos (l.getD k ⟨0, 0⟩)) ax > (projF pos ax l k).2 then vdot (vadd pos (l.getD k ⟨0, 0⟩)) ax else (projF pos ax l k).2)
def projS (s : Shp) (pos ax : V2) : Int × Int := if circ s then (w64 (vdot pos ax - s.r), w64 (vdot pos ax + s.r)) else projF pos ax s.poly s.poly.length
def depthS (a : Shp) (pa : V2) (b : Shp) (pb ax : V2) : Int := w64 ((if (projS b pb ax).2 < (projS a pa ax).2 then (projS b pb ax).2 else (projS a pa ax).2) - (if (projS b pb ax).1 > (projS a pa ax).1 then (projS b pb ax).1 else (projS a pa ax).1))
def sqd (off v : V2) : Int := w64 (w64 ((vadd off v).x * (vadd off v).x) + w64 ((vadd off v).y * (vadd off v).y))
def leastF (off : V2) (l : List V2) : Nat → V2 × Int
  | 0 => (l.getD 0 ⟨0, 0⟩, sqd off (l.getD 0 ⟨0, 0⟩))
  | k + 1 => if sqd off (l.getD (1 + k) ⟨0, 0⟩) < (leastF off l k).2 then (l.getD (1 + k) ⟨0, 0⟩, sqd off (l.getD (1 + k) ⟨0, 0⟩)) else leastF off l k
def toVert (c : V2) (s : Shp) (pos : V2) : V2 := vadd (vsub pos c) (leastF (vsub pos c) s.poly (s.poly.length - 1)).1

set_option maxHeartbeats 400000 in
set_option maxRecDepth 100000 in
theorem unit_any (a : V2)  (F : HL) : Sp Tryz.prog 90 #[.agg #[vI a.x, vI a.y]] [] F (fun u H' => u = .agg #[vI ((unitV a).x), vI ((unitV a).y)] ∧ H' = []) := by
  refine Sp.of_body Tryz.func90 rfl rfl rfl [(0, .agg #[vI a.x, vI a.y])] rfl ?_
  intro w0
  refine TR.convH (ap [] []) rfl ?_
  refine TR.seq ?_
  refine TR.reg ?_
  refine TL.seg 2 [] [] [1, 2] (fun n1 => [(1, vP (n1 + 0) 0), (2, vP (n1 + 1) 0)]) (fun n1 => (ap [((n1 + 1), .lit [vI 0, vI 0] 30 (0, 0)), ((n1 + 0), .lit [vI a.x, vI a.y] 30 (0, 0))] [])) (fun n1 => []) (fun n1 => []) (fun _ => by kernel_rfl) mn (fun n1 => an) ?_
  intro n1
  refine TL.fin (by kernel_rfl) ?_
  refine EX.next ?_
  refine TR.seq ?_
  refine TR.seq ?_
  refine TR.reg ?_
  let z1 : Nat × Value := (2, vP (n1 + 1) 0)
  let z2 : Nat × Blk := ((n1 + 1), .lit [vI 0, vI 0] 30 (0, 0))
  let z3 : Nat × Blk := ((n1 + 0), .lit [vI a.x, vI a.y] 30 (0, 0))
  refine TL.seg0 1 [] [.own 1, .own 1] [2, 4] [z1, (4, .agg #[vI a.x, vI a.y])] (ap [z2, z3] []) [(n1 + 0), (n1 + 0)] [] (fun _ => by kernel_rfl) mn an ?_
  refine TL.callp (dst := (some 5)) (f := 122) (args := #[.agg #[vI a.x, vI a.y]]) (H1 := (ap [z2, z3] [])) (E := []) (Ob := []) [] [] [2, 5] (.agg #[vI ((vnorm a).x), vI ((vnorm a).y)]) [z1, (5, .agg #[vI ((vnorm a).x), vI ((vnorm a).y)])] (fun _ => by kernel_rfl) mn an (vnorm_any a  _) (by kernel_rfl) ?_
  refine TL.seg 2 [] [.own 0, .own 0] [2, 3] (fun n2 => [z1, (3, vP (n2 + 0) 0)]) (fun n2 => (ap [((n2 + 0), .lit [vI ((vnorm a).x), vI ((vnorm a).y)] 30 (0, 0)), z2, z3] [])) (fun n2 => [(n2 + 0), (n2 + 0)]) (fun n2 => []) (fun _ => by kernel_rfl) mn (fun n2 => an) ?_
  intro n2
  refine TL.fin (by kernel_rfl) ?_
  refine EX.next ?_
  refine TR.seq ?_
  refine TR.reg ?_
  let z4 : Nat × Blk := ((n2 + 0), .lit [vI ((vnorm a).x), vI ((vnorm a).y)] 30 (0, 0))
  refine TL.seg0 3 [] [.own 0, .own 0, .sq] [2, 3, 8] [z1, (3, vP (n2 + 0) 0), (8, .bool (!(decide ((vnorm a).x = 0) && (decide ((vnorm a).y = 0) && true))))] (ap [z4, z2, z3] []) [(n2 + 0), (n2 + 0)] [] (fun _ => by kernel_rfl) mn an ?_
  refine TL.fin (by kernel_rfl) ?_
  refine EX.next ?_
  rcases Decidable.em (((decide ((vnorm a).x = 0) && (decide ((vnorm a).y = 0) && true))) = true) with h3 | h3
  · refine TR.no (b := !(decide ((vnorm a).x = 0) && (decide ((vnorm a).y = 0) && true))) (by kernel_rfl) (by kernel_rfl) (by rw [h3]; rfl) ?_
    refine TR.skip ?_
    refine EX.next ?_
    refine TR.seq ?_
    refine TR.reg ?_
    let z5 : Nat × Blk := ((n1 + 1), .lit [vI 1024, vI 0] 30 (0, 0))
    refine TL.seg0 2 [] [.own 1, .own 1] [2] [z1] (ap [z4, z5, z3] []) [(n1 + 1), (n1 + 1)] [] (fun _ => by kernel_rfl) mn an ?_
    refine TL.fin (by kernel_rfl) ?_
    refine EX.next ?_
    refine TR.ret (A := [z4, z5, z3]) (Ts := []) (by exact fun _ _ h => h) rfl rfl [] [.own 1, .own 1] (.agg #[vI 1024, vI 0]) [(n1 + 1), (n1 + 1)] [] (fun _ => by kernel_rfl) mn an [] [0, 1, 2] [] [] [] (by kernel_rfl) (by kernel_rfl) (by kernel_rfl) ?_
    refine ⟨?_, rfl⟩
    first | rw [show unitV a = ⟨1024, 0⟩ from if_pos (by assumption)] | rw [show unitV a = vnorm a from if_neg (by assumption)]
  · refine TR.yes (b := !(decide ((vnorm a).x = 0) && (decide ((vnorm a).y = 0) && true))) (by kernel_rfl) (by kernel_rfl) (by rw [(Bool.eq_false_iff.2 h3)]; rfl) ?_
    refine TR.seq ?_
    refine TR.reg ?_
    let z6 : Nat × Blk := ((n1 + 1), .lit [vI ((vnorm a).x), vI ((vnorm a).y)] 30 (0, 0))
    refine TL.seg0 2 [] [.own 0, .own 0, .own 1, .own 1] [2] [z1] (ap [z4, z6, z3] []) [(n1 + 1), (n1 + 1), (n2 + 0), (n2 + 0)] [] (fun _ => by kernel_rfl) mn an ?_
    refine TL.fin (by kernel_rfl) ?_
    refine EX.next ?_
    refine TR.ret (A := [z4, z6, z3]) (Ts := []) (by exact fun _ _ h => h) rfl rfl [] [.own 1, .own 1] (.agg #[vI ((vnorm a).x), vI ((vnorm a).y)]) [(n1 + 1), (n1 + 1)] [] (fun _ => by kernel_rfl) mn an [] [0, 1, 2] [] [] [] (by kernel_rfl) (by kernel_rfl) (by kernel_rfl) ?_
    refine ⟨?_, rfl⟩
    first | rw [show unitV a = ⟨1024, 0⟩ from if_pos (by assumption)] | rw [show unitV a = vnorm a from if_neg (by assumption)]

set_option maxHeartbeats 400000 in
set_option maxRecDepth 100000 in
theorem proj_circle (r : Int) (A : Option Addr) (cap : Nat) (pos ax : V2) (F : HL) : Sp Tryz.prog 93 #[.agg #[vI r, .slice A 0 cap], .agg #[vI pos.x, vI pos.y], .agg #[vI ax.x, vI ax.y]] [] F (fun u H' => u = .tuple #[vI (projS ⟨r, [], A, cap⟩ pos ax).1, vI (projS ⟨r, [], A, cap⟩ pos ax).2] ∧ H' = []) := by
  refine Sp.of_body Tryz.func93 rfl rfl rfl [(0, .agg #[vI r, .slice A 0 cap]), (1, .agg #[vI pos.x, vI pos.y]), (2, .agg #[vI ax.x, vI ax.y])] rfl ?_
  intro w0
  refine TR.convH (ap [] []) rfl ?_
  refine TR.seq ?_
  refine TR.reg ?_
  refine TL.seg 5 [] [] [3, 4, 5, 6, 7] (fun n1 => [(3, vP (n1 + 0) 0), (4, vP (n1 + 1) 0), (5, vP (n1 + 2) 0), (6, vI 0), (7, vI 0)]) (fun n1 => (ap [((n1 + 2), .lit [vI ax.x, vI ax.y] 30 (0, 0)), ((n1 + 1), .lit [vI pos.x, vI pos.y] 30 (0, 0)), ((n1 + 0), .lit [vI r, .slice A 0 cap] 35 (0, 0))] [])) (fun n1 => []) (fun n1 => []) (fun _ => by kernel_rfl) mn (fun n1 => an) ?_
  intro n1
  refine TL.fin (by kernel_rfl) ?_
  refine EX.next ?_
  refine TR.seq ?_
  refine TR.seq ?_
  refine TR.reg ?_
  let z1 : Nat × Value := (3, vP (n1 + 0) 0)
  let z2 : Nat × Value := (4, vP (n1 + 1) 0)
  let z3 : Nat × Value := (5, vP (n1 + 2) 0)
  let z4 : Nat × Blk := ((n1 + 2), .lit [vI ax.x, vI ax.y] 30 (0, 0))
  let z5 : Nat × Blk := ((n1 + 1), .lit [vI pos.x, vI pos.y] 30 (0, 0))
  let z6 : Nat × Blk := ((n1 + 0), .lit [vI r, .slice A 0 cap] 35 (0, 0))
  refine TL.seg0 1 [] [.own 2, .own 2] [3, 4, 5, 6, 7, 12] [z1, z2, z3, (6, vI 0), (7, vI 0), (12, .agg #[vI r, .slice A 0 cap])] (ap [z4, z5, z6] []) [(n1 + 0), (n1 + 0)] [] (fun _ => by kernel_rfl) mn an ?_
  refine TL.callp (dst := (some 13)) (f := 88) (args := #[.agg #[vI r, .slice A 0 cap]]) (H1 := (ap [z4, z5, z6] [])) (E := []) (Ob := []) [] [] [3, 4, 5, 6, 7, 13] (.bool true) [z1, z2, z3, (6, vI 0), (7, vI 0), (13, .bool true)] (fun _ => by kernel_rfl) mn an (sc_any r A 0 cap _) (by kernel_rfl) ?_
  refine TL.fin (by kernel_rfl) ?_
  refine EX.next ?_
  refine TR.yes (by kernel_rfl) (by kernel_rfl) (rfl : true = true) ?_
  refine TR.seq ?_
  refine TR.reg ?_
  refine TL.seg0 2 [] [.own 1, .own 1, .own 0, .own 0] [3, 14, 15] [z1, (14, .agg #[vI pos.x, vI pos.y]), (15, .agg #[vI ax.x, vI ax.y])] (ap [z4, z5, z6] []) [(n1 + 2), (n1 + 2), (n1 + 1), (n1 + 1)] [] (fun _ => by kernel_rfl) mn an ?_
  refine TL.callp (dst := (some 16)) (f := 70) (args := #[.agg #[vI pos.x, vI pos.y], .agg #[vI ax.x, vI ax.y]]) (H1 := (ap [z4, z5, z6] [])) (E := []) (Ob := []) [] [] [3, 16] (vI (vdot pos ax)) [z1, (16, vI (vdot pos ax))] (fun _ => by kernel_rfl) mn an (vdot_any pos ax  _) (by kernel_rfl) ?_
  refine TL.seg0 1 [] [] [3, 8] [z1, (8, vI (vdot pos ax))] (ap [z4, z5, z6] []) [] [] (fun _ => by kernel_rfl) mn an ?_
  refine TL.fin (by kernel_rfl) ?_
  refine EX.next ?_
  refine TR.seq ?_
  refine TR.draw [] [] rfl (by kernel_rfl) ?_
  refine TD.vals [] (by kernel_rfl) [0, 1, 4, 5, 2, 6, 3, 7, 8, 9] [] [.own 2, .own 2] [6, 7] [true, true, true, true, true, true, true, true, true, true] [(6, vI (IntKind.i64.wrap ((vdot pos ax) - r))), (7, vI (IntKind.i64.wrap ((vdot pos ax) + r)))] [(n1 + 0), (n1 + 0)] [] (by kernel_rfl) (by kernel_rfl) mn an 0 rfl ?_
  refine TD.fin (by kernel_rfl) (EX.np ?_)
  refine EX.next ?_
  refine TR.ret (A := [z4, z5, z6]) (Ts := []) (by exact fun _ _ h => h) rfl rfl [] [] (.tuple #[vI (IntKind.i64.wrap ((vdot pos ax) - r)), vI (IntKind.i64.wrap ((vdot pos ax) + r))]) [] [] (fun _ => by kernel_rfl) mn an [] [0, 1, 2] [] [] [] (by kernel_rfl) (by kernel_rfl) (by kernel_rfl) ?_
  exact ⟨rfl, rfl⟩

set_option maxHeartbeats 400000 in
set_option maxRecDepth 100000 in
theorem proj_poly (r : Int) (l : List V2) (b cap : Nat) (pos ax : V2) (F : HL) (hb : (b, .rows 2 cap (vrow l) 30 (0, 0)) ∈ F) (hl3 : 3 ≤ l.length) (h4 : l.length ≤ cap) (h5 : cap ≤ 1000000) : Sp Tryz.prog 93 #[.agg #[vI r, vS b 0 l.length cap], .agg #[vI pos.x, vI pos.y], .agg #[vI ax.x, vI ax.y]] [] F (fun u H' => u = .tuple #[vI (projS ⟨r, l, some ⟨b, 0, none⟩, cap⟩ pos ax).1, vI (projS ⟨r, l, some ⟨b, 0, none⟩, cap⟩ pos ax).2] ∧ H' = []) := by
  refine Sp.of_body Tryz.func93 rfl rfl rfl [(0, .agg #[vI r, vS b 0 l.length cap]), (1, .agg #[vI pos.x, vI pos.y]), (2, .agg #[vI ax.x, vI ax.y])] rfl ?_
  intro w0
  refine TR.convH (ap [] []) rfl ?_
  refine TR.seq ?_
  refine TR.reg ?_
  refine TL.seg 5 [] [] [3, 4, 5, 6, 7] (fun n1 => [(3, vP (n1 + 0) 0), (4, vP (n1 + 1) 0), (5, vP (n1 + 2) 0), (6, vI 0), (7, vI 0)]) (fun n1 => (ap [((n1 + 2), .lit [vI ax.x, vI ax.y] 30 (0, 0)), ((n1 + 1), .lit [vI pos.x, vI pos.y] 30 (0, 0)), ((n1 + 0), .lit [vI r, vS b 0 l.length cap] 35 (0, 0))] [])) (fun n1 => []) (fun n1 => []) (fun _ => by kernel_rfl) mn (fun n1 => an) ?_
  intro n1
  refine TL.fin (by kernel_rfl) ?_
  refine EX.next ?_
  refine TR.seq ?_
  refine TR.seq ?_
  refine TR.reg ?_
  let z1 : Nat × Value := (3, vP (n1 + 0) 0)
  let z2 : Nat × Value := (4, vP (n1 + 1) 0)
  let z3 : Nat × Value := (5, vP (n1 + 2) 0)
  let z4 : Nat × Blk := ((n1 + 2), .lit [vI ax.x, vI ax.y] 30 (0, 0))
  let z5 : Nat × Blk := ((n1 + 1), .lit [vI pos.x, vI pos.y] 30 (0, 0))
  let z6 : Nat × Blk := ((n1 + 0), .lit [vI r, vS b 0 l.length cap] 35 (0, 0))
  refine TL.seg0 1 [] [.own 2, .own 2] [3, 4, 5, 6, 7, 12] [z1, z2, z3, (6, vI 0), (7, vI 0), (12, .agg #[vI r, vS b 0 l.length cap])] (ap [z4, z5, z6] []) [(n1 + 0), (n1 + 0)] [] (fun _ => by kernel_rfl) mn an ?_
  refine TL.callp (dst := (some 13)) (f := 88) (args := #[.agg #[vI r, vS b 0 l.length cap]]) (H1 := (ap [z4, z5, z6] [])) (E := []) (Ob := []) [] [] [3, 4, 5, 6, 7, 13] (.bool (decide ((l.length : Int) = 0))) [z1, z2, z3, (6, vI 0), (7, vI 0), (13, .bool (decide ((l.length : Int) = 0)))] (fun _ => by kernel_rfl) mn an (sc_any r (some ⟨b, 0, none⟩) l.length cap _) (by kernel_rfl) ?_
  refine TL.fin (by kernel_rfl) ?_
  refine EX.next ?_
  refine TR.no (b := decide ((l.length : Int) = 0)) (by kernel_rfl) (by kernel_rfl) (decide_eq_false (show ¬ ((l.length : Int) = 0) by omega)) ?_
  refine TR.skip ?_
  refine EX.next ?_
  refine TR.seq ?_
  refine TR.seq ?_
  refine TR.reg ?_
  let z7 : Nat × Value := (26, vS b 0 l.length cap)
  let z8 : Nat × Value := (27, vI (l.length : Int))
  refine TL.seg0 4 [] [.own 2] [4, 5, 6, 7, 26, 27, 28] [z2, z3, (6, vI 0), (7, vI 0), z7, z8, (28, vI 0)] (ap [z4, z5, z6] []) [(n1 + 0)] [] (fun _ => by kernel_rfl) mn an ?_
  refine TL.fin (by kernel_rfl) ?_
  refine EX.next ?_
  refine TR.block ?_
  refine TR.loop (A := [z4, z5, z6]) (Ts := []) (σ := Nat) (fun (k : Nat) => [z2, z3, (6, vI ((projF pos ax l k).1)), (7, vI ((projF pos ax l k).2)), z7, z8, (28, vI (k : Int))]) (fun (k : Nat) => ap [z4, z5, z6] []) (fun (k : Nat) => k ≤ l.length) (fun (k : Nat) => l.length - k) 0 (Nat.zero_le _) [4, 5, 6, 7, 26, 27, 28] (by kernel_rfl) [0, 1, 2] [] [] [] (by kernel_rfl) (by kernel_rfl) (by kernel_rfl) ?_
  rintro k hI2
  refine TR.seq ?_
  refine TR.reg ?_
  let z9 := projF pos ax l k
  let z10 : Nat × Value := (6, vI (z9.1))
  let z11 : Nat × Value := (7, vI (z9.2))
  let z12 : Nat × Value := (28, vI (k : Int))
  refine TL.seg0 1 [] [] [4, 5, 6, 7, 26, 27, 28, 29] [z2, z3, z10, z11, z7, z8, z12, (29, .bool (decide ((k : Int) < (l.length : Int))))] (ap [z4, z5, z6] []) [] [] (fun _ => by kernel_rfl) mn an ?_
  refine TL.fin (by kernel_rfl) ?_
  refine EX.next ?_
  refine TR.seq ?_
  rcases Decidable.em ((k : Int) < (l.length : Int)) with h3 | h3
  · refine TR.yes (b := decide ((k : Int) < (l.length : Int))) (by kernel_rfl) (by kernel_rfl) (decide_eq_true h3) ?_
    refine TR.skip ?_
    refine EX.next ?_
    refine TR.seq ?_
    refine TR.block ?_
    refine TR.seq ?_
    refine TR.reg ?_
    let z13 : Nat × Value := (9, vI (k : Int))
    let z14 : List Value := [vI ((l.getD k ⟨0, 0⟩).x), vI ((l.getD k ⟨0, 0⟩).y)]
    refine TL.seg 6 [(b, .rows 2 cap (vrow l) 30 (0, 0))] [.ix k, .rorow 0 k 0, .rorow 0 k 1, .own 0, .own 0] [4, 5, 6, 7, 9, 10, 26, 27, 28] (fun n4 => [z2, z3, z10, z11, z13, (10, vP (n4 + 0) 0), z7, z8, z12]) (fun n4 => (ap [((n4 + 0), .lit z14 30 (0, 0)), z4, z5, z6] [])) (fun n4 => [(n4 + 0), (n4 + 0), b, b]) (fun n4 => [((0 + k * 2) + 1) = k * 2 + 1 ∧ k < cap, (0 + k * 2) = k * 2 + 0 ∧ k < cap, (k : Int) = ((k : Nat) : Int) ∧ k < l.length]) (fun _ => by kernel_rfl) (mc hb mn) (fun n4 => (ac ⟨by omega, by omega⟩ (ac ⟨by omega, by omega⟩ (ac ⟨by omega, by omega⟩ an)))) ?_
    intro n4
    refine TL.fin (by kernel_rfl) ?_
    refine EX.next ?_
    refine TR.seq ?_
    refine TR.draw [] [] rfl (by kernel_rfl) ?_
    let z15 : Nat × Value := (36, .agg #[vI ax.x, vI ax.y])
    refine TD.vals [] (by kernel_rfl) [0, 1, 3] [] [.own 2, .own 2, .own 0, .own 0, .own 1, .own 1] [4, 5, 6, 7, 9, 26, 27, 28, 33, 34, 36] [true, true, false, true, false, false] [z2, z3, z10, z11, z13, z7, z8, z12, (33, .agg #[vI pos.x, vI pos.y]), (34, .agg #[vI ((l.getD k ⟨0, 0⟩).x), vI ((l.getD k ⟨0, 0⟩).y)]), z15] [(n1 + 2), (n1 + 2), (n4 + 0), (n4 + 0), (n1 + 1), (n1 + 1)] [] (by kernel_rfl) (by kernel_rfl) mn an 3 rfl ?_
    let z16 := vadd pos (l.getD k ⟨0, 0⟩)
    refine TD.callv [] (by kernel_rfl) 2 [] [] (dst := (some 35)) (f := 23) (args := #[.agg #[vI pos.x, vI pos.y], .agg #[vI ((l.getD k ⟨0, 0⟩).x), vI ((l.getD k ⟨0, 0⟩).y)]]) (E := []) (Ob := []) [4, 5, 6, 7, 9, 26, 27, 28, 35, 36] (.agg #[vI (z16.x), vI (z16.y)]) [z2, z3, z10, z11, z13, z7, z8, z12, (35, .agg #[vI (z16.x), vI (z16.y)]), z15] (by kernel_rfl) (by kernel_rfl) (by kernel_rfl) mn an (fun X_ => (vadd_any pos (l.getD k ⟨0, 0⟩)  _)) (by kernel_rfl) 2 rfl ?_
    let z17 := vdot z16 ax
    refine TD.callv [] (by kernel_rfl) 4 [] [] (dst := (some 37)) (f := 70) (args := #[.agg #[vI (z16.x), vI (z16.y)], .agg #[vI ax.x, vI ax.y]]) (E := []) (Ob := []) [4, 5, 6, 7, 9, 26, 27, 28, 37] (vI z17) [z2, z3, z10, z11, z13, z7, z8, z12, (37, vI z17)] (by kernel_rfl) (by kernel_rfl) (by kernel_rfl) mn an (fun X_ => (vdot_any z16 ax  _)) (by kernel_rfl) 1 rfl ?_
    let z18 : Nat × Value := (11, vI z17)
    refine TD.vals [] (by kernel_rfl) [5] [] [] [4, 5, 6, 7, 9, 11, 26, 27, 28] [true, true, true, true, true, true] [z2, z3, z10, z11, z13, z18, z7, z8, z12] [] [] (by kernel_rfl) (by kernel_rfl) mn an 0 rfl ?_
    refine TD.fin (by kernel_rfl) (EX.np ?_)
    refine EX.next ?_
    refine TR.seq ?_
    refine TR.seq ?_
    refine TR.reg ?_
    let z19 : Nat × Blk := ((n4 + 0), .lit z14 30 (0, 0))
    refine TL.seg0 2 [] [] [4, 5, 6, 7, 11, 26, 27, 28, 39] [z2, z3, z10, z11, z18, z7, z8, z12, (39, .bool (decide ((k : Int) = 0)))] (ap [z19, z4, z5, z6] []) [] [] (fun _ => by kernel_rfl) mn an ?_
    refine TL.fin (by kernel_rfl) ?_
    refine EX.next ?_
    rcases Decidable.em ((k : Int) = 0) with h5 | h5
    · refine TR.yes (b := decide ((k : Int) = 0)) (by kernel_rfl) (by kernel_rfl) (decide_eq_true h5) ?_
      refine TR.reg ?_
      refine TL.seg0 4 [] [] [4, 5, 6, 7, 11, 26, 27, 28] [z2, z3, (6, vI z17), (7, vI z17), z18, z7, z8, z12] (ap [z19, z4, z5, z6] []) [] [] (fun _ => by kernel_rfl) mn an ?_
      refine TL.fin (by kernel_rfl) ?_
      refine EX.next ?_
      refine TR.reg ?_
      let z20 : Nat × Value := (6, vI (if vdot z16 ax < vdot z16 ax then vdot z16 ax else vdot z16 ax))
      let z21 : Nat × Value := (7, vI (if vdot z16 ax > vdot z16 ax then vdot z16 ax else vdot z16 ax))
      refine TL.seg0 8 [] [] [4, 5, 6, 7, 26, 27, 28] [z2, z3, z20, z21, z7, z8, z12] (ap [z19, z4, z5, z6] []) [] [] (fun _ => by kernel_rfl) mn an ?_
      refine TL.fin (by kernel_rfl) ?_
      refine EX.inn ?_
      refine EX.next ?_
      refine TR.reg ?_
      let z22 : Nat × Value := (28, vI ((k : Int) + 1))
      refine TL.seg0 2 [] [.nw] [4, 5, 6, 7, 26, 27, 28] [z2, z3, z20, z21, z7, z8, z22] (ap [z19, z4, z5, z6] []) [] [-9223372036854775808 ≤ (k : Int) + 1 ∧ (k : Int) + 1 ≤ 9223372036854775807] (fun _ => by kernel_rfl) mn (ac ⟨by omega, by omega⟩ an) ?_
      refine TL.fin (by kernel_rfl) ?_
      have e_ : projF pos ax l (k + 1) = (if vdot (vadd pos (l.getD k ⟨0, 0⟩)) ax < vdot (vadd pos (l.getD k ⟨0, 0⟩)) ax then vdot (vadd pos (l.getD k ⟨0, 0⟩)) ax else vdot (vadd pos (l.getD k ⟨0, 0⟩)) ax, if vdot (vadd pos (l.getD k ⟨0, 0⟩)) ax > vdot (vadd pos (l.getD k ⟨0, 0⟩)) ax then vdot (vadd pos (l.getD k ⟨0, 0⟩)) ax else vdot (vadd pos (l.getD k ⟨0, 0⟩)) ax) := by
        rw [projF, if_pos h5]
      let z23 := projF pos ax l (k + 1)
      let z24 : Nat × Value := (6, vI (z23.1))
      refine EX.conv [z2, z3, z24, z21, z7, z8, z22] (congrArg (fun v_ => [z2, z3, (6, vI v_), z21, z7, z8, z22]) (congrArg Prod.fst e_).symm) ?_
      refine EX.conv [z2, z3, z24, (7, vI (z23.2)), z7, z8, z22] (congrArg (fun v_ => [z2, z3, z24, (7, vI v_), z7, z8, z22]) (congrArg Prod.snd e_).symm) ?_
      refine EX.meet (A := [z19, z4, z5, z6]) (Ts := []) (k + 1) ?_ [4, 5, 6, 7, 26, 27, 28] (by kernel_rfl) [1, 2, 3] [0] [] [] (by kernel_rfl) (by kernel_rfl) (by kernel_rfl)
      try dsimp only
      exact ⟨by omega, by omega⟩
    · refine TR.no (b := decide ((k : Int) = 0)) (by kernel_rfl) (by kernel_rfl) (decide_eq_false h5) ?_
      refine TR.skip ?_
      refine EX.next ?_
      refine TR.reg ?_
      let z25 : Nat × Value := (6, vI (if vdot z16 ax < z9.1 then vdot z16 ax else z9.1))
      let z26 : Nat × Value := (7, vI (if vdot z16 ax > z9.2 then vdot z16 ax else z9.2))
      refine TL.seg0 8 [] [] [4, 5, 6, 7, 26, 27, 28] [z2, z3, z25, z26, z7, z8, z12] (ap [z19, z4, z5, z6] []) [] [] (fun _ => by kernel_rfl) mn an ?_
      refine TL.fin (by kernel_rfl) ?_
      refine EX.inn ?_
      refine EX.next ?_
      refine TR.reg ?_
      let z27 : Nat × Value := (28, vI ((k : Int) + 1))
      refine TL.seg0 2 [] [.nw] [4, 5, 6, 7, 26, 27, 28] [z2, z3, z25, z26, z7, z8, z27] (ap [z19, z4, z5, z6] []) [] [-9223372036854775808 ≤ (k : Int) + 1 ∧ (k : Int) + 1 ≤ 9223372036854775807] (fun _ => by kernel_rfl) mn (ac ⟨by omega, by omega⟩ an) ?_
      refine TL.fin (by kernel_rfl) ?_
      have e_ : projF pos ax l (k + 1) = (if vdot (vadd pos (l.getD k ⟨0, 0⟩)) ax < (projF pos ax l k).1 then vdot (vadd pos (l.getD k ⟨0, 0⟩)) ax else (projF pos ax l k).1, if vdot (vadd pos (l.getD k ⟨0, 0⟩)) ax > (projF pos ax l k).2 then vdot (vadd pos (l.getD k ⟨0, 0⟩)) ax else (projF pos ax l k).2) := by
        rw [projF, if_neg h5]
      let z28 := projF pos ax l (k + 1)
      let z29 : Nat × Value := (6, vI (z28.1))
      refine EX.conv [z2, z3, z29, z26, z7, z8, z27] (congrArg (fun v_ => [z2, z3, (6, vI v_), z26, z7, z8, z27]) (congrArg Prod.fst e_).symm) ?_
      refine EX.conv [z2, z3, z29, (7, vI (z28.2)), z7, z8, z27] (congrArg (fun v_ => [z2, z3, z29, (7, vI v_), z7, z8, z27]) (congrArg Prod.snd e_).symm) ?_
      refine EX.meet (A := [z19, z4, z5, z6]) (Ts := []) (k + 1) ?_ [4, 5, 6, 7, 26, 27, 28] (by kernel_rfl) [1, 2, 3] [0] [] [] (by kernel_rfl) (by kernel_rfl) (by kernel_rfl)
      try dsimp only
      exact ⟨by omega, by omega⟩
  · refine TR.no (b := decide ((k : Int) < (l.length : Int))) (by kernel_rfl) (by kernel_rfl) (decide_eq_false h3) ?_
    refine TR.exit ?_
    refine EX.thn (by simp) ?_
    refine EX.thn (by simp) ?_
    refine EX.hit ?_
    refine EX.next ?_
    refine TR.seq ?_
    refine TR.reg ?_
    refine TL.seg0 4 [] [] [6, 7] [z10, z11] (ap [z4, z5, z6] []) [] [] (fun _ => by kernel_rfl) mn an ?_
    refine TL.fin (by kernel_rfl) ?_
    refine EX.next ?_
    refine TR.ret (A := [z4, z5, z6]) (Ts := []) (by exact fun _ _ h => h) rfl rfl [] [] (.tuple #[vI (z9.1), vI (z9.2)]) [] [] (fun _ => by kernel_rfl) mn an [] [0, 1, 2] [] [] [] (by kernel_rfl) (by kernel_rfl) (by kernel_rfl) ?_
    have ek : k = l.length := by omega
    subst ek
    refine ⟨?_, rfl⟩
    unfold projS
    rw [if_neg (by intro e; simp [circ] at e; rw [e] at hl3; simp at hl3)]

theorem proj_any (s : Shp) (pos ax : V2) (F : HL) (h : ShIn F s) : Sp Tryz.prog 93 #[shV s, .agg #[vI pos.x, vI pos.y], .agg #[vI ax.x, vI ax.y]] [] F (fun u H' => u = .tuple #[vI (projS s pos ax).1, vI (projS s pos ax).2] ∧ H' = []) := by
  cases h with
  | circle r A cap => exact proj_circle r A cap pos ax F
  | poly r l b cap h h3 h4 h5 => exact proj_poly r l b cap pos ax F h h3 h4 h5

set_option maxHeartbeats 400000 in
set_option maxRecDepth 100000 in
theorem depth_any (a : Shp) (pa : V2) (b : Shp) (pb ax : V2) (F : HL) (ha : ShIn F a) (hb : ShIn F b) : Sp Tryz.prog 69 #[.agg #[vI a.r, .slice a.A a.poly.length a.cap], .agg #[vI pa.x, vI pa.y], .agg #[vI b.r, .slice b.A b.poly.length b.cap], .agg #[vI pb.x, vI pb.y], .agg #[vI ax.x, vI ax.y]] [] F (fun u H' => u = vI (depthS a pa b pb ax) ∧ H' = []) := by
  refine Sp.of_body Tryz.func69 rfl rfl rfl [(0, .agg #[vI a.r, .slice a.A a.poly.length a.cap]), (1, .agg #[vI pa.x, vI pa.y]), (2, .agg #[vI b.r, .slice b.A b.poly.length b.cap]), (3, .agg #[vI pb.x, vI pb.y]), (4, .agg #[vI ax.x, vI ax.y])] rfl ?_
  intro w0
  refine TR.convH (ap [] []) rfl ?_
  refine TR.seq ?_
  refine TR.reg ?_
  let z1 : List Value := [vI b.r, .slice b.A b.poly.length b.cap]
  let z2 : List Value := [vI a.r, .slice a.A a.poly.length a.cap]
  refine TL.seg 6 [] [] [5, 6, 7, 8, 9] (fun n1 => [(5, vP (n1 + 0) 0), (6, vP (n1 + 1) 0), (7, vP (n1 + 2) 0), (8, vP (n1 + 3) 0), (9, vP (n1 + 4) 0)]) (fun n1 => (ap [((n1 + 4), .lit [vI ax.x, vI ax.y] 30 (0, 0)), ((n1 + 3), .lit [vI pb.x, vI pb.y] 30 (0, 0)), ((n1 + 2), .lit z1 35 (0, 0)), ((n1 + 1), .lit [vI pa.x, vI pa.y] 30 (0, 0)), ((n1 + 0), .lit z2 35 (0, 0))] [])) (fun n1 => []) (fun n1 => []) (fun _ => by kernel_rfl) mn (fun n1 => an) ?_
  intro n1
  refine TL.fin (by kernel_rfl) ?_
  refine EX.next ?_
  refine TR.seq ?_
  refine TR.reg ?_
  let z3 : Nat × Value := (7, vP (n1 + 2) 0)
  let z4 : Nat × Value := (8, vP (n1 + 3) 0)
  let z5 : Nat × Value := (9, vP (n1 + 4) 0)
  let z6 : Nat × Blk := ((n1 + 4), .lit [vI ax.x, vI ax.y] 30 (0, 0))
  let z7 : Nat × Blk := ((n1 + 3), .lit [vI pb.x, vI pb.y] 30 (0, 0))
  let z8 : Nat × Blk := ((n1 + 2), .lit z1 35 (0, 0))
  let z9 : Nat × Blk := ((n1 + 1), .lit [vI pa.x, vI pa.y] 30 (0, 0))
  let z10 : Nat × Blk := ((n1 + 0), .lit z2 35 (0, 0))
  refine TL.seg0 3 [] [.own 4, .own 4, .own 3, .own 3, .own 0, .own 0] [7, 8, 9, 16, 17, 18] [z3, z4, z5, (16, .agg #[vI a.r, .slice a.A a.poly.length a.cap]), (17, .agg #[vI pa.x, vI pa.y]), (18, .agg #[vI ax.x, vI ax.y])] (ap [z6, z7, z8, z9, z10] []) [(n1 + 4), (n1 + 4), (n1 + 1), (n1 + 1), (n1 + 0), (n1 + 0)] [] (fun _ => by kernel_rfl) mn an ?_
  refine TL.callp (dst := (some 19)) (f := 93) (args := #[.agg #[vI a.r, .slice a.A a.poly.length a.cap], .agg #[vI pa.x, vI pa.y], .agg #[vI ax.x, vI ax.y]]) (H1 := (ap [z6, z7, z8, z9, z10] [])) (E := []) (Ob := []) [] [] [7, 8, 9, 19] (.tuple #[vI ((projS a pa ax).1), vI ((projS a pa ax).2)]) [z3, z4, z5, (19, .tuple #[vI ((projS a pa ax).1), vI ((projS a pa ax).2)])] (fun _ => by kernel_rfl) mn an (proj_any a pa ax _ (ha.up)) (by kernel_rfl) ?_
  let z11 : Nat × Value := (11, vI ((projS a pa ax).1))
  let z12 : Nat × Value := (12, vI ((projS a pa ax).2))
  refine TL.seg0 5 [] [] [7, 8, 9, 11, 12] [z3, z4, z5, z11, z12] (ap [z6, z7, z8, z9, z10] []) [] [] (fun _ => by kernel_rfl) mn an ?_
  refine TL.fin (by kernel_rfl) ?_
  refine EX.next ?_
  refine TR.seq ?_
  refine TR.reg ?_
  refine TL.seg0 3 [] [.own 2, .own 2, .own 1, .own 1, .own 0, .own 0] [11, 12, 23, 24, 25] [z11, z12, (23, .agg #[vI b.r, .slice b.A b.poly.length b.cap]), (24, .agg #[vI pb.x, vI pb.y]), (25, .agg #[vI ax.x, vI ax.y])] (ap [z6, z7, z8, z9, z10] []) [(n1 + 4), (n1 + 4), (n1 + 3), (n1 + 3), (n1 + 2), (n1 + 2)] [] (fun _ => by kernel_rfl) mn an ?_
  refine TL.callp (dst := (some 26)) (f := 93) (args := #[.agg #[vI b.r, .slice b.A b.poly.length b.cap], .agg #[vI pb.x, vI pb.y], .agg #[vI ax.x, vI ax.y]]) (H1 := (ap [z6, z7, z8, z9, z10] [])) (E := []) (Ob := []) [] [] [11, 12, 26] (.tuple #[vI ((projS b pb ax).1), vI ((projS b pb ax).2)]) [z11, z12, (26, .tuple #[vI ((projS b pb ax).1), vI ((projS b pb ax).2)])] (fun _ => by kernel_rfl) mn an (proj_any b pb ax _ (hb.up)) (by kernel_rfl) ?_
  refine TL.seg0 5 [] [] [11, 12, 13, 14] [z11, z12, (13, vI ((projS b pb ax).1)), (14, vI ((projS b pb ax).2))] (ap [z6, z7, z8, z9, z10] []) [] [] (fun _ => by kernel_rfl) mn an ?_
  refine TL.fin (by kernel_rfl) ?_
  refine EX.next ?_
  refine TR.seq ?_
  refine TR.reg ?_
  refine TL.seg0 8 [] [] [10] [(10, vI (IntKind.i64.wrap ((if (projS b pb ax).2 < (projS a pa ax).2 then (projS b pb ax).2 else (projS a pa ax).2) - (if (projS b pb ax).1 > (projS a pa ax).1 then (projS b pb ax).1 else (projS a pa ax).1))))] (ap [z6, z7, z8, z9, z10] []) [] [] (fun _ => by kernel_rfl) mn an ?_
  refine TL.fin (by kernel_rfl) ?_
  refine EX.next ?_
  refine TR.ret (A := [z6, z7, z8, z9, z10]) (Ts := []) (by exact fun _ _ h => h) rfl rfl [] [] (vI (IntKind.i64.wrap ((if (projS b pb ax).2 < (projS a pa ax).2 then (projS b pb ax).2 else (projS a pa ax).2) - (if (projS b pb ax).1 > (projS a pa ax).1 then (projS b pb ax).1 else (projS a pa ax).1)))) [] [] (fun _ => by kernel_rfl) mn an [] [0, 1, 2, 3, 4] [] [] [] (by kernel_rfl) (by kernel_rfl) (by kernel_rfl) ?_
  exact ⟨rfl, rfl⟩

set_option maxHeartbeats 400000 in
set_option maxRecDepth 100000 in
theorem sqd_any (v off : V2) (q : Nat) (F : HL) (hq : (q, .lit [vI off.x, vI off.y] 30 (0, 0)) ∈ F) : Sp Tryz.prog 124 #[.agg #[vI v.x, vI v.y], vP q 0] [] F (fun u H' => u = vI (sqd off v) ∧ H' = []) := by
  refine Sp.of_body Tryz.func124 rfl rfl rfl [(0, .agg #[vI v.x, vI v.y]), (1, vP q 0)] rfl ?_
  intro w0
  refine TR.convH (ap [] []) rfl ?_
  refine TR.seq ?_
  refine TR.reg ?_
  refine TL.seg 2 [] [] [1, 2] (fun n1 => [(1, vP q 0), (2, vP (n1 + 0) 0)]) (fun n1 => (ap [((n1 + 0), .lit [vI v.x, vI v.y] 30 (0, 0))] [])) (fun n1 => []) (fun n1 => []) (fun _ => by kernel_rfl) mn (fun n1 => an) ?_
  intro n1
  refine TL.fin (by kernel_rfl) ?_
  refine EX.next ?_
  refine TR.seq ?_
  refine TR.reg ?_
  let z1 : Nat × Blk := ((n1 + 0), .lit [vI v.x, vI v.y] 30 (0, 0))
  refine TL.seg0 2 [(q, .lit [vI off.x, vI off.y] 30 (0, 0))] [.ro 0, .ro 0, .own 0, .own 0] [5, 6] [(5, .agg #[vI off.x, vI off.y]), (6, .agg #[vI v.x, vI v.y])] (ap [z1] []) [(n1 + 0), (n1 + 0), q, q] [] (fun _ => by kernel_rfl) (mc hq mn) an ?_
  refine TL.callp (dst := (some 7)) (f := 23) (args := #[.agg #[vI off.x, vI off.y], .agg #[vI v.x, vI v.y]]) (H1 := (ap [z1] [])) (E := []) (Ob := []) [] [] [7] (.agg #[vI ((vadd off v).x), vI ((vadd off v).y)]) [(7, .agg #[vI ((vadd off v).x), vI ((vadd off v).y)])] (fun _ => by kernel_rfl) mn an (vadd_any off v  _) (by kernel_rfl) ?_
  let z2 : List Value := [vI ((vadd off v).x), vI ((vadd off v).y)]
  refine TL.seg 2 [] [.own 0, .own 0] [4] (fun n2 => [(4, vP (n2 + 0) 0)]) (fun n2 => (ap [((n2 + 0), .lit z2 30 (0, 0)), z1] [])) (fun n2 => [(n2 + 0), (n2 + 0)]) (fun n2 => []) (fun _ => by kernel_rfl) mn (fun n2 => an) ?_
  intro n2
  refine TL.fin (by kernel_rfl) ?_
  refine EX.next ?_
  refine TR.seq ?_
  refine TR.reg ?_
  let z3 : Nat × Blk := ((n2 + 0), .lit z2 30 (0, 0))
  refine TL.seg0 12 [] [.own 0, .own 0, .own 0, .own 0] [3] [(3, vI (IntKind.i64.wrap ((IntKind.i64.wrap (((vadd off v).x) * ((vadd off v).x))) + (IntKind.i64.wrap (((vadd off v).y) * ((vadd off v).y))))))] (ap [z3, z1] []) [(n2 + 0), (n2 + 0), (n2 + 0), (n2 + 0)] [] (fun _ => by kernel_rfl) mn an ?_
  refine TL.fin (by kernel_rfl) ?_
  refine EX.next ?_
  refine TR.ret (A := [z3, z1]) (Ts := []) (by exact fun _ _ h => h) rfl rfl [] [] (vI (IntKind.i64.wrap ((IntKind.i64.wrap (((vadd off v).x) * ((vadd off v).x))) + (IntKind.i64.wrap (((vadd off v).y) * ((vadd off v).y)))))) [] [] (fun _ => by kernel_rfl) mn an [] [0, 1] [] [] [] (by kernel_rfl) (by kernel_rfl) (by kernel_rfl) ?_
  exact ⟨rfl, rfl⟩

set_option maxHeartbeats 400000 in
set_option maxRecDepth 100000 in
theorem least_any (l : List V2) (b cap : Nat) (off : V2) (q : Nat) (F : HL) (hb : (b, .rows 2 cap (vrow l) 30 (0, 0)) ∈ F) (h3 : 3 ≤ l.length) (h4 : l.length ≤ cap) (h5 : cap ≤ 1000000) (hq : (q, .lit [vI off.x, vI off.y] 30 (0, 0)) ∈ F) : Sp Tryz.prog 123 #[vS b 0 l.length cap, .func (.func 124) #[] #[vP q 0]] [] F (fun u H' => u = .agg #[vI (((leastF off l (l.length - 1)).1).x), vI (((leastF off l (l.length - 1)).1).y)] ∧ H' = []) := by
  refine Sp.of_body Tryz.func123 rfl rfl rfl [(0, vS b 0 l.length cap), (1, .func (.func 124) #[] #[vP q 0])] rfl ?_
  intro w0
  refine TR.convH (ap [] []) rfl ?_
  refine TR.seq ?_
  refine TR.reg ?_
  let z1 : Nat × Value := (0, vS b 0 l.length cap)
  let z2 : Nat × Value := (1, .func (.func 124) #[] #[vP q 0])
  refine TL.seg 1 [] [] [0, 1, 4] (fun n1 => [z1, z2, (4, vP (n1 + 0) 0)]) (fun n1 => (ap [((n1 + 0), .lit [vI 0, vI 0] 30 (0, 0))] [])) (fun n1 => []) (fun n1 => []) (fun _ => by kernel_rfl) mn (fun n1 => an) ?_
  intro n1
  refine TL.fin (by kernel_rfl) ?_
  refine EX.next ?_
  refine TR.seq ?_
  let z3 : Nat × Blk := ((n1 + 0), .lit [vI 0, vI 0] 30 (0, 0))
  refine TR.draw [9] [z3] rfl (by kernel_rfl) ?_
  let z4 : Nat × Blk := (b, .rows 2 cap (vrow l) 30 (0, 0))
  let z5 : Nat × Value := (4, vP (n1 + 0) 0)
  let z6 : Nat × Value := (12, .agg #[vI ((l.getD 0 ⟨0, 0⟩).x), vI ((l.getD 0 ⟨0, 0⟩).y)])
  refine TD.vals [0] (by kernel_rfl) [0, 3, 4, 1, 5, 2, 6] [z4] [.ix 0, .ix 0, .rorow 0 0 0, .rorow 0 0 1, .rorow 0 0 0, .rorow 0 0 1] [0, 1, 4, 12, 13, 16] [true, true, true, true, true, true, true, false, false, false, false] [z1, z2, z5, z6, (13, .func (.func 124) #[] #[vP q 0]), (16, .agg #[vI ((l.getD 0 ⟨0, 0⟩).x), vI ((l.getD 0 ⟨0, 0⟩).y)])] [b, b, b, b] [((0 + 0 * 2) + 1) = 0 * 2 + 1 ∧ 0 < cap, (0 + 0 * 2) = 0 * 2 + 0 ∧ 0 < cap, ((0 + 0 * 2) + 1) = 0 * 2 + 1 ∧ 0 < cap, (0 + 0 * 2) = 0 * 2 + 0 ∧ 0 < cap, 0 = ((0 : Nat) : Int) ∧ 0 < l.length, 0 = ((0 : Nat) : Int) ∧ 0 < l.length] (by kernel_rfl) (by kernel_rfl) (mc hb mn) (ac ⟨by omega, by omega⟩ (ac ⟨by omega, by omega⟩ (ac ⟨by omega, by omega⟩ (ac ⟨by omega, by omega⟩ (ac ⟨by omega, by omega⟩ (ac ⟨by omega, by omega⟩ an)))))) 4 rfl ?_
  let z7 := sqd off (l.getD 0 ⟨0, 0⟩)
  let z8 : Nat × Value := (17, vI z7)
  refine TD.callv [0] (by kernel_rfl) 7 [] [] (dst := (some 17)) (f := 124) (args := #[.agg #[vI ((l.getD 0 ⟨0, 0⟩).x), vI ((l.getD 0 ⟨0, 0⟩).y)], vP q 0]) (E := []) (Ob := []) [0, 1, 4, 12, 17] (vI z7) [z1, z2, z5, z6, z8] (by kernel_rfl) (by kernel_rfl) (by kernel_rfl) mn an (fun X_ => (sqd_any (l.getD 0 ⟨0, 0⟩) off q _ (List.mem_append_right _ (List.mem_append_right _ hq)))) (by kernel_rfl) 3 rfl ?_
  refine TD.one 8 (by kernel_rfl) 2 rfl fun a_ hF_ hcl_ => ?_
  refine OPJ.ev [] [] [0, 1, 4, 5, 12, 17] (fun n3 => [z1, z2, z5, (5, vP (n3 + 0) 0), z6, z8]) (fun n3 => (ap [((n3 + 0), .lit [vI 0, vI 0] 30 (0, 0)), z3] [])) (fun n3 => []) (fun n3 => []) (fun _ => by kernel_rfl) mn (fun n3 => an) (.inr ⟨by decide, fun n3 => ⟨[((n3 + 0), .lit [vI 0, vI 0] 30 (0, 0))], rfl⟩⟩) (.inr fun n3 => ⟨[((n3 + 0), .lit [vI 0, vI 0] 30 (0, 0))], rfl⟩) (fun n3 => ?_) hF_ hcl_
  refine TD.one 9 (by kernel_rfl) 1 rfl fun a_ hF_ hcl_ => ?_
  let z9 : Nat × Value := (5, vP (n3 + 0) 0)
  let z10 : Nat × Blk := ((n3 + 0), .lit [vI ((l.getD 0 ⟨0, 0⟩).x), vI ((l.getD 0 ⟨0, 0⟩).y)] 30 (0, 0))
  refine OPJ.ev [] [.own 0, .own 0] [0, 1, 4, 5, 17] (fun _ => [z1, z2, z5, z9, z8]) (fun _ => (ap [z10, z3] [])) (fun _ => [(n3 + 0), (n3 + 0)]) (fun _ => []) (fun _ => by kernel_rfl) mn (fun _ => an) (.inl ⟨[1], fun _ => by kernel_rfl⟩) (.inl (by decide)) (fun _ => ?_) hF_ hcl_
  let z11 : Nat × Value := (6, vI z7)
  refine TD.vals [1] (by kernel_rfl) [10] [] [] [0, 1, 4, 5, 6] [true, true, true, true, true, true, true, true, true, true, true] [z1, z2, z5, z9, z11] [] [] (by kernel_rfl) (by kernel_rfl) mn an 0 rfl ?_
  refine TD.fin (by kernel_rfl) (EX.np ?_)
  refine EX.next ?_
  refine TR.seq ?_
  refine TR.seq ?_
  refine TR.reg ?_
  let z12 := l.length - 1
  let z13 : Nat × Value := (19, vS b 2 z12 (cap - 1))
  let z14 : Nat × Value := (20, vI ((z12 : Nat) : Int))
  refine TL.seg0 4 [] [.sl 1 l.length false] [1, 4, 5, 6, 19, 20, 21] [z2, z5, z9, z11, z13, z14, (21, vI 0)] (ap [z10, z3] []) [] [1 = ((1 : Nat) : Int) ∧ l.length = l.length ∧ 1 ≤ l.length ∧ l.length ≤ cap ∧ cap ≠ 1] (fun _ => by kernel_rfl) mn (ac ⟨by omega, by omega, by omega, by omega, by omega⟩ an) ?_
  refine TL.fin (by kernel_rfl) ?_
  refine EX.next ?_
  refine TR.block ?_
  refine TR.loop (A := [z10, z3]) (Ts := []) (σ := Nat) (fun (k : Nat) => [z2, z5, z9, (6, vI ((leastF off l k).2)), z13, (20, vI ((z12 : Nat) : Int)), (21, vI (k : Int))]) (fun (k : Nat) => ap [((n3 + 0), .lit [vI ((leastF off l k).1.x), vI ((leastF off l k).1.y)] 30 (0, 0)), z3] []) (fun (k : Nat) => k ≤ l.length - 1) (fun (k : Nat) => l.length - k) 0 (Nat.zero_le _) [1, 4, 5, 6, 19, 20, 21] (by kernel_rfl) [0, 1] [] [] [] (by kernel_rfl) (by kernel_rfl) (by kernel_rfl) ?_
  rintro k hI4
  refine TR.seq ?_
  refine TR.reg ?_
  let z15 := leastF off l k
  let z16 : Nat × Value := (6, vI (z15.2))
  let z17 : Nat × Value := (21, vI (k : Int))
  let z18 : List Value := [vI (z15.1.x), vI (z15.1.y)]
  let z19 : Nat × Blk := ((n3 + 0), .lit z18 30 (0, 0))
  refine TL.seg0 1 [] [] [1, 4, 5, 6, 19, 20, 21, 22] [z2, z5, z9, z16, z13, z14, z17, (22, .bool (decide ((k : Int) < ((z12 : Nat) : Int))))] (ap [z19, z3] []) [] [] (fun _ => by kernel_rfl) mn an ?_
  refine TL.fin (by kernel_rfl) ?_
  refine EX.next ?_
  refine TR.seq ?_
  rcases Decidable.em ((k : Int) < (((l.length - 1) : Nat) : Int)) with h5 | h5
  · refine TR.yes (b := decide ((k : Int) < ((z12 : Nat) : Int))) (by kernel_rfl) (by kernel_rfl) (decide_eq_true h5) ?_
    refine TR.skip ?_
    refine EX.next ?_
    refine TR.seq ?_
    refine TR.block ?_
    refine TR.seq ?_
    refine TR.reg ?_
    let z20 : List Value := [vI ((l.getD (1 + k) ⟨0, 0⟩).x), vI ((l.getD (1 + k) ⟨0, 0⟩).y)]
    refine TL.seg 4 [z4] [.ix k, .rorow 0 (1 + k) 0, .rorow 0 (1 + k) 1, .own 0, .own 0] [1, 4, 5, 6, 8, 19, 20, 21] (fun n6 => [z2, z5, z9, z16, (8, vP (n6 + 0) 0), z13, z14, z17]) (fun n6 => (ap [((n6 + 0), .lit z20 30 (0, 0)), z19, z3] [])) (fun n6 => [(n6 + 0), (n6 + 0), b, b]) (fun n6 => [((2 + k * 2) + 1) = (1 + k) * 2 + 1 ∧ (1 + k) < cap, (2 + k * 2) = (1 + k) * 2 + 0 ∧ (1 + k) < cap, (k : Int) = ((k : Nat) : Int) ∧ k < (l.length - 1)]) (fun _ => by kernel_rfl) (mc hb mn) (fun n6 => (ac ⟨by omega, by omega⟩ (ac ⟨by omega, by omega⟩ (ac ⟨by omega, by omega⟩ an)))) ?_
    intro n6
    refine TL.fin (by kernel_rfl) ?_
    refine EX.next ?_
    refine TR.seq ?_
    refine TR.reg ?_
    let z21 : Nat × Value := (8, vP (n6 + 0) 0)
    let z22 : Nat × Blk := ((n6 + 0), .lit z20 30 (0, 0))
    refine TL.seg0 2 [] [.own 0, .own 0] [1, 4, 5, 6, 8, 19, 20, 21, 25, 26] [z2, z5, z9, z16, z21, z13, z14, z17, (25, .func (.func 124) #[] #[vP q 0]), (26, .agg #[vI ((l.getD (1 + k) ⟨0, 0⟩).x), vI ((l.getD (1 + k) ⟨0, 0⟩).y)])] (ap [z22, z19, z3] []) [(n6 + 0), (n6 + 0)] [] (fun _ => by kernel_rfl) mn an ?_
    let z23 := sqd off (l.getD (1 + k) ⟨0, 0⟩)
    refine TL.callp (dst := (some 27)) (f := 124) (args := #[.agg #[vI ((l.getD (1 + k) ⟨0, 0⟩).x), vI ((l.getD (1 + k) ⟨0, 0⟩).y)], vP q 0]) (H1 := (ap [z22, z19, z3] [])) (E := []) (Ob := []) [] [] [1, 4, 5, 6, 8, 19, 20, 21, 27] (vI z23) [z2, z5, z9, z16, z21, z13, z14, z17, (27, vI z23)] (fun _ => by kernel_rfl) mn an (sqd_any (l.getD (1 + k) ⟨0, 0⟩) off q _ (List.mem_append_right _ hq)) (by kernel_rfl) ?_
    let z24 : Nat × Value := (9, vI z23)
    refine TL.seg0 1 [] [] [1, 4, 5, 6, 8, 9, 19, 20, 21] [z2, z5, z9, z16, z21, z24, z13, z14, z17] (ap [z22, z19, z3] []) [] [] (fun _ => by kernel_rfl) mn an ?_
    refine TL.fin (by kernel_rfl) ?_
    refine EX.next ?_
    refine TR.seq ?_
    refine TR.reg ?_
    refine TL.seg0 3 [] [] [1, 4, 5, 6, 8, 9, 19, 20, 21, 30] [z2, z5, z9, z16, z21, z24, z13, z14, z17, (30, .bool (decide (sqd off (l.getD (1 + k) ⟨0, 0⟩) < z15.2)))] (ap [z22, z19, z3] []) [] [] (fun _ => by kernel_rfl) mn an ?_
    refine TL.fin (by kernel_rfl) ?_
    refine EX.next ?_
    rcases Decidable.em (sqd off (l.getD (1 + k) ⟨0, 0⟩) < (leastF off l k).2) with h7 | h7
    · refine TR.yes (b := decide (sqd off (l.getD (1 + k) ⟨0, 0⟩) < z15.2)) (by kernel_rfl) (by kernel_rfl) (decide_eq_true h7) ?_
      refine TR.reg ?_
      let z25 : Nat × Value := (6, vI z23)
      let z26 : Nat × Blk := ((n3 + 0), .lit z20 30 (0, 0))
      refine TL.seg0 4 [] [.own 0, .own 0, .own 1, .own 1] [1, 4, 5, 6, 19, 20, 21] [z2, z5, z9, z25, z13, z14, z17] (ap [z22, z26, z3] []) [(n3 + 0), (n3 + 0), (n6 + 0), (n6 + 0)] [] (fun _ => by kernel_rfl) mn an ?_
      refine TL.fin (by kernel_rfl) ?_
      refine EX.inn ?_
      refine EX.next ?_
      refine TR.reg ?_
      let z27 : Nat × Value := (21, vI ((k : Int) + 1))
      refine TL.seg0 2 [] [.nw] [1, 4, 5, 6, 19, 20, 21] [z2, z5, z9, z25, z13, z14, z27] (ap [z22, z26, z3] []) [] [-9223372036854775808 ≤ (k : Int) + 1 ∧ (k : Int) + 1 ≤ 9223372036854775807] (fun _ => by kernel_rfl) mn (ac ⟨by omega, by omega⟩ an) ?_
      refine TL.fin (by kernel_rfl) ?_
      have e_ : leastF off l (k + 1) = (l.getD (1 + k) ⟨0, 0⟩, sqd off (l.getD (1 + k) ⟨0, 0⟩)) := by rw [leastF, if_pos h7]
      let z28 := leastF off l (k + 1)
      refine EX.conv [z2, z5, z9, (6, vI (z28.2)), z13, z14, z27] (congrArg (fun v_ => [z2, z5, z9, (6, vI v_), z13, z14, z27]) (congrArg Prod.snd e_).symm) ?_
      let z29 : Nat × Blk := ((n3 + 0), .lit [vI (z28.1.x), vI (z28.1.y)] 30 (0, 0))
      refine EX.convH (ap [z22, z29, z3] []) (congrArg (fun v_ => ap [z22, ((n3 + 0), .lit [vI v_.1.x, vI v_.1.y] 30 (0, 0)), z3] []) e_.symm) ?_
      refine EX.meet (A := [z22, z29, z3]) (Ts := []) (k + 1) ?_ [1, 4, 5, 6, 19, 20, 21] (by kernel_rfl) [1, 2] [0] [] [] (by kernel_rfl) (by kernel_rfl) (by kernel_rfl)
      try dsimp only
      exact ⟨by omega, by omega⟩
    · refine TR.no (b := decide (sqd off (l.getD (1 + k) ⟨0, 0⟩) < z15.2)) (by kernel_rfl) (by kernel_rfl) (decide_eq_false h7) ?_
      refine TR.skip ?_
      refine EX.inn ?_
      refine EX.next ?_
      refine TR.reg ?_
      let z30 : Nat × Value := (21, vI ((k : Int) + 1))
      refine TL.seg0 2 [] [.nw] [1, 4, 5, 6, 19, 20, 21] [z2, z5, z9, z16, z13, z14, z30] (ap [z22, z19, z3] []) [] [-9223372036854775808 ≤ (k : Int) + 1 ∧ (k : Int) + 1 ≤ 9223372036854775807] (fun _ => by kernel_rfl) mn (ac ⟨by omega, by omega⟩ an) ?_
      refine TL.fin (by kernel_rfl) ?_
      have e_ : leastF off l (k + 1) = leastF off l k := by rw [leastF, if_neg h7]
      let z31 := leastF off l (k + 1)
      refine EX.conv [z2, z5, z9, (6, vI (z31.2)), z13, z14, z30] (congrArg (fun v_ => [z2, z5, z9, (6, vI v_), z13, z14, z30]) (congrArg Prod.snd e_).symm) ?_
      let z32 : Nat × Blk := ((n3 + 0), .lit [vI (z31.1.x), vI (z31.1.y)] 30 (0, 0))
      refine EX.convH (ap [z22, z32, z3] []) (congrArg (fun v_ => ap [z22, ((n3 + 0), .lit [vI v_.1.x, vI v_.1.y] 30 (0, 0)), z3] []) e_.symm) ?_
      refine EX.meet (A := [z22, z32, z3]) (Ts := []) (k + 1) ?_ [1, 4, 5, 6, 19, 20, 21] (by kernel_rfl) [1, 2] [0] [] [] (by kernel_rfl) (by kernel_rfl) (by kernel_rfl)
      try dsimp only
      exact ⟨by omega, by omega⟩
  · refine TR.no (b := decide ((k : Int) < ((z12 : Nat) : Int))) (by kernel_rfl) (by kernel_rfl) (decide_eq_false h5) ?_
    refine TR.exit ?_
    refine EX.thn (by simp) ?_
    refine EX.thn (by simp) ?_
    refine EX.hit ?_
    refine EX.next ?_
    refine TR.seq ?_
    refine TR.reg ?_
    let z33 : Nat × Blk := ((n1 + 0), .lit z18 30 (0, 0))
    refine TL.seg0 2 [] [.own 0, .own 0, .own 1, .own 1] [4] [z5] (ap [z19, z33] []) [(n1 + 0), (n1 + 0), (n3 + 0), (n3 + 0)] [] (fun _ => by kernel_rfl) mn an ?_
    refine TL.fin (by kernel_rfl) ?_
    refine EX.next ?_
    refine TR.ret (A := [z19, z33]) (Ts := []) (by exact fun _ _ h => h) rfl rfl [] [.own 1, .own 1] (.agg #[vI (z15.1.x), vI (z15.1.y)]) [(n1 + 0), (n1 + 0)] [] (fun _ => by kernel_rfl) mn an [] [0, 1] [] [] [] (by kernel_rfl) (by kernel_rfl) (by kernel_rfl) ?_
    have ek : k = l.length - 1 := by omega
    subst ek
    exact ⟨rfl, rfl⟩
end Go.Proofs.YtpkincoclhpcgaaGreatDoor
