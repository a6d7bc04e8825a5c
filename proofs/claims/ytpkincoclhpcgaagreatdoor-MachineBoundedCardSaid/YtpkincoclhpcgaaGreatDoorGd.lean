/- Contracts, printed by a program. -/
import Derived.Test.YtpkincoclhpcgaaGreatDoorGc
namespace Go.Proofs.YtpkincoclhpcgaaGreatDoor
set_option linter.unusedSimpArgs false
set_option linter.unusedVariables false
open Go.RowKit
structure Shp where (r : Int) (poly : List V2) (A : Option Addr) (cap : Nat)
abbrev shV (s : Shp) : Value := .agg #[vI s.r, .slice s.A s.poly.length s.cap]
def vrow (l : List V2) : Nat → Nat → Value := fun i k => match k with | 0 => vI (l.getD i ⟨0, 0⟩).x | _ => vI (l.getD i ⟨0, 0⟩).y
/-- a shape's vertices lie in memory -/
inductive ShIn (F : HL) : Shp → Prop
  | circle (r : Int) (A : Option Addr) (cap : Nat) : ShIn F ⟨r, [], A, cap⟩
  | poly (r : Int) (l : List V2) (b cap : Nat) (h : (b, .rows 2 cap (vrow l) 30 (0, 0)) ∈ F) (h3 : 3 ≤ l.length) (h4 : l.length ≤ cap) (h5 : cap ≤ 1000000) : ShIn F ⟨r, l, some ⟨b, 0, none⟩, cap⟩
theorem ShIn.mono {F F' : HL} {s : Shp} (h : ShIn F s) (hs : ∀ x ∈ F, x ∈ F') : ShIn F' s := by
  cases h with
  | circle r A cap => exact .circle r A cap
  | poly r l b cap h h3 h4 h5 => exact .poly r l b cap (hs _ h) h3 h4 h5
def circ (s : Shp) : Prop := s.poly = []
instance (s : Shp) : Decidable (circ s) := decidable_of_iff (s.poly.isEmpty = true) (by simp [circ])
def bstep (b : Bx) (c : V2) : Bx := ⟨if c.x < b.x0 then c.x else b.x0, if c.y < b.y0 then c.y else b.y0, if c.x > b.x1 then c.x else b.x1, if c.y > b.y1 then c.y else b.y1⟩
def bfold (pos : V2) (l : List V2) : Nat → Bx
  | 0 => ⟨(vadd pos (l.getD 0 ⟨0, 0⟩)).x, (vadd pos (l.getD 0 ⟨0, 0⟩)).y, (vadd pos (l.getD 0 ⟨0, 0⟩)).x, (vadd pos (l.getD 0 ⟨0, 0⟩)).y⟩
  | k + 1 => bstep (bfold pos l k) (vadd pos (l.getD (1 + k) ⟨0, 0⟩))
def bounds (s : Shp) (pos : V2) : Bx := if circ s then ⟨w64 (pos.x - s.r), w64 (pos.y - s.r), w64 (pos.x + s.r), w64 (pos.y + s.r)⟩ else bfold pos s.poly (s.poly.length - 1)
def meetP (a b c d : Int) : Prop := a ≤ d ∧ c ≤ b
instance (a b c d : Int) : Decidable (meetP a b c d) := inferInstanceAs (Decidable (_ ∧ _))
def ovl (a b : Bx) : Prop := meetP a.x0 a.x1 b.x0 b.x1 ∧ meetP a.y0 a.y1 b.y0 b.y1
instance (a b : Bx) : Decidable (ovl a b) := inferInstanceAs (Decidable (_ ∧ _))

set_option maxHeartbeats 400000 in
set_option maxRecDepth 100000 in
theorem sc_any (r : Int) (A : Option Addr) (n cap : Nat) (F : HL) : Sp Tryz.prog 88 #[.agg #[vI r, .slice A n cap]] [] F (fun u H' => u = .bool (decide ((n : Int) = 0)) ∧ H' = []) := by
  refine Sp.of_body Tryz.func88 rfl rfl rfl [(0, .agg #[vI r, .slice A n cap])] rfl ?_
  intro w0
  refine TR.convH (ap [] []) rfl ?_
  refine TR.seq ?_
  refine TR.reg ?_
  refine TL.seg 2 [] [] [1] (fun n1 => [(1, vP (n1 + 0) 0)]) (fun n1 => (ap [((n1 + 0), .lit [vI r, .slice A n cap] 35 (0, 0))] [])) (fun n1 => []) (fun n1 => []) (fun _ => by kernel_rfl) mn (fun n1 => an) ?_
  intro n1
  refine TL.fin (by kernel_rfl) ?_
  refine EX.next ?_
  refine TR.seq ?_
  refine TR.reg ?_
  refine TL.seg0 5 [] [.own 0] [2] [(2, .bool (decide ((n : Int) = 0)))] (ap [((n1 + 0), .lit [vI r, .slice A n cap] 35 (0, 0))] []) [(n1 + 0)] [] (fun _ => by kernel_rfl) mn an ?_
  refine TL.fin (by kernel_rfl) ?_
  refine EX.next ?_
  refine TR.ret (A := [((n1 + 0), .lit [vI r, .slice A n cap] 35 (0, 0))]) (Ts := []) (by exact fun _ _ h => h) rfl rfl [] [] (.bool (decide ((n : Int) = 0))) [] [] (fun _ => by kernel_rfl) mn an [] [0] [] [] [] (by kernel_rfl) (by kernel_rfl) (by kernel_rfl) ?_
  exact ⟨rfl, rfl⟩

set_option maxHeartbeats 400000 in
set_option maxRecDepth 100000 in
theorem cc_any (r : Int) (A : Option Addr) (n cap : Nat) (F : HL) : Sp Tryz.prog 91 #[.agg #[vI r, .slice A n cap]] [] F (fun u H' => u = .bool (decide ((n : Int) = 0)) ∧ H' = []) := by
  refine Sp.of_body Tryz.func91 rfl rfl rfl [(0, .agg #[vI r, .slice A n cap])] rfl ?_
  intro w0
  refine TR.convH (ap [] []) rfl ?_
  refine TR.seq ?_
  refine TR.reg ?_
  refine TL.seg 2 [] [] [1] (fun n1 => [(1, vP (n1 + 0) 0)]) (fun n1 => (ap [((n1 + 0), .lit [vI r, .slice A n cap] 35 (0, 0))] [])) (fun n1 => []) (fun n1 => []) (fun _ => by kernel_rfl) mn (fun n1 => an) ?_
  intro n1
  refine TL.fin (by kernel_rfl) ?_
  refine EX.next ?_
  refine TR.seq ?_
  refine TR.reg ?_
  refine TL.seg0 5 [] [.own 0] [2] [(2, .bool (decide ((n : Int) = 0)))] (ap [((n1 + 0), .lit [vI r, .slice A n cap] 35 (0, 0))] []) [(n1 + 0)] [] (fun _ => by kernel_rfl) mn an ?_
  refine TL.fin (by kernel_rfl) ?_
  refine EX.next ?_
  refine TR.ret (A := [((n1 + 0), .lit [vI r, .slice A n cap] 35 (0, 0))]) (Ts := []) (by exact fun _ _ h => h) rfl rfl [] [] (.bool (decide ((n : Int) = 0))) [] [] (fun _ => by kernel_rfl) mn an [] [0] [] [] [] (by kernel_rfl) (by kernel_rfl) (by kernel_rfl) ?_
  exact ⟨rfl, rfl⟩

set_option maxHeartbeats 400000 in
set_option maxRecDepth 100000 in
theorem meet_any (a : Int) (b : Int) (c : Int) (d : Int)  (F : HL) : Sp Tryz.prog 87 #[vI a, vI b, vI c, vI d] [] F (fun u H' => u = .bool (decide (meetP a b c d)) ∧ H' = []) := by
  refine Sp.of_body Tryz.func87 rfl rfl rfl [(0, vI a), (1, vI b), (2, vI c), (3, vI d)] rfl ?_
  intro w0
  refine TR.convH (ap [] []) rfl ?_
  refine TR.seq ?_
  refine TR.reg ?_
  refine TL.seg0 1 [] [] [0, 1, 2, 3] [(0, vI a), (1, vI b), (2, vI c), (3, vI d)] (ap [] []) [] [] (fun _ => by kernel_rfl) mn an ?_
  refine TL.fin (by kernel_rfl) ?_
  refine EX.next ?_
  refine TR.seq ?_
  refine TR.reg ?_
  rcases Decidable.em (a ≤ d) with h1 | h1
  · refine TL.seg0 9 [] [.gd true, .gd true, .gd true, .gd true] [8] [(8, .bool (decide (c ≤ b)))] (ap [] []) [] [(decide (a ≤ d)) = true, (decide (a ≤ d)) = true, (decide (a ≤ d)) = true, (decide (a ≤ d)) = true] (fun _ => by kernel_rfl) mn (ac (decide_eq_true h1) (ac (decide_eq_true h1) (ac (decide_eq_true h1) (ac (decide_eq_true h1) an)))) ?_
    refine TL.fin (by kernel_rfl) ?_
    refine EX.next ?_
    refine TR.ret (A := []) (Ts := []) (by exact fun _ _ h => h) rfl rfl [] [] (.bool (decide (c ≤ b))) [] [] (fun _ => by kernel_rfl) mn an [] [] [] [] [] (by kernel_rfl) (by kernel_rfl) (by kernel_rfl) ?_
    exact ⟨by simp [meetP, *], rfl⟩
  · refine TL.seg0 9 [] [.gd false, .gd false, .gd false, .gd false] [8] [(8, .bool false)] (ap [] []) [] [(decide (a ≤ d)) = false, (decide (a ≤ d)) = false, (decide (a ≤ d)) = false, (decide (a ≤ d)) = false] (fun _ => by kernel_rfl) mn (ac (decide_eq_false h1) (ac (decide_eq_false h1) (ac (decide_eq_false h1) (ac (decide_eq_false h1) an)))) ?_
    refine TL.fin (by kernel_rfl) ?_
    refine EX.next ?_
    refine TR.ret (A := []) (Ts := []) (by exact fun _ _ h => h) rfl rfl [] [] (.bool false) [] [] (fun _ => by kernel_rfl) mn an [] [] [] [] [] (by kernel_rfl) (by kernel_rfl) (by kernel_rfl) ?_
    exact ⟨by simp [meetP, *], rfl⟩

set_option maxHeartbeats 400000 in
set_option maxRecDepth 100000 in
theorem ovl_any (a : Bx) (b : Bx)  (F : HL) : Sp Tryz.prog 66 #[.agg #[vI a.x0, vI a.y0, vI a.x1, vI a.y1], .agg #[vI b.x0, vI b.y0, vI b.x1, vI b.y1]] [] F (fun u H' => u = .bool (decide (ovl a b)) ∧ H' = []) := by
  refine Sp.of_body Tryz.func66 rfl rfl rfl [(0, .agg #[vI a.x0, vI a.y0, vI a.x1, vI a.y1]), (1, .agg #[vI b.x0, vI b.y0, vI b.x1, vI b.y1])] rfl ?_
  intro w0
  refine TR.convH (ap [] []) rfl ?_
  refine TR.seq ?_
  refine TR.reg ?_
  refine TL.seg 3 [] [] [2, 3] (fun n1 => [(2, vP (n1 + 0) 0), (3, vP (n1 + 1) 0)]) (fun n1 => (ap [((n1 + 1), .lit [vI b.x0, vI b.y0, vI b.x1, vI b.y1] 25 (0, 0)), ((n1 + 0), .lit [vI a.x0, vI a.y0, vI a.x1, vI a.y1] 25 (0, 0))] [])) (fun n1 => []) (fun n1 => []) (fun _ => by kernel_rfl) mn (fun n1 => an) ?_
  intro n1
  refine TL.fin (by kernel_rfl) ?_
  refine EX.next ?_
  refine TR.seq ?_
  refine TR.reg ?_
  let z1 : Nat × Value := (2, vP (n1 + 0) 0)
  let z2 : Nat × Value := (3, vP (n1 + 1) 0)
  let z3 : Nat × Blk := ((n1 + 1), .lit [vI b.x0, vI b.y0, vI b.x1, vI b.y1] 25 (0, 0))
  let z4 : Nat × Blk := ((n1 + 0), .lit [vI a.x0, vI a.y0, vI a.x1, vI a.y1] 25 (0, 0))
  refine TL.seg0 8 [] [.own 1, .own 1, .own 0, .own 0] [2, 3, 6, 8, 10, 12] [z1, z2, (6, vI a.x0), (8, vI a.x1), (10, vI b.x0), (12, vI b.x1)] (ap [z3, z4] []) [(n1 + 1), (n1 + 1), (n1 + 0), (n1 + 0)] [] (fun _ => by kernel_rfl) mn an ?_
  refine TL.callp (dst := (some 13)) (f := 87) (args := #[vI a.x0, vI a.x1, vI b.x0, vI b.x1]) (H1 := (ap [z3, z4] [])) (E := []) (Ob := []) [] [] [2, 3, 13] (.bool (decide (meetP a.x0 a.x1 b.x0 b.x1))) [z1, z2, (13, .bool (decide (meetP a.x0 a.x1 b.x0 b.x1)))] (fun _ => by kernel_rfl) mn an (meet_any a.x0 a.x1 b.x0 b.x1  _) (by kernel_rfl) ?_
  rcases Decidable.em (meetP a.x0 a.x1 b.x0 b.x1) with h2 | h2
  · let z5 : Nat × Value := (14, .bool (decide (meetP a.x0 a.x1 b.x0 b.x1)))
    refine TL.seg0 9 [] [.gd true, .gd true, .own 1, .gd true, .gd true, .own 1, .gd true, .gd true, .own 0, .gd true, .gd true, .own 0] [14, 16, 18, 20, 22] [z5, (16, vI a.y0), (18, vI a.y1), (20, vI b.y0), (22, vI b.y1)] (ap [z3, z4] []) [(n1 + 1), (n1 + 1), (n1 + 0), (n1 + 0)] [(decide (meetP a.x0 a.x1 b.x0 b.x1)) = true, (decide (meetP a.x0 a.x1 b.x0 b.x1)) = true, (decide (meetP a.x0 a.x1 b.x0 b.x1)) = true, (decide (meetP a.x0 a.x1 b.x0 b.x1)) = true, (decide (meetP a.x0 a.x1 b.x0 b.x1)) = true, (decide (meetP a.x0 a.x1 b.x0 b.x1)) = true, (decide (meetP a.x0 a.x1 b.x0 b.x1)) = true, (decide (meetP a.x0 a.x1 b.x0 b.x1)) = true] (fun _ => by kernel_rfl) mn (ac (decide_eq_true h2) (ac (decide_eq_true h2) (ac (decide_eq_true h2) (ac (decide_eq_true h2) (ac (decide_eq_true h2) (ac (decide_eq_true h2) (ac (decide_eq_true h2) (ac (decide_eq_true h2) an)))))))) ?_
    refine TL.callp (dst := (some 23)) (f := 87) (args := #[vI a.y0, vI a.y1, vI b.y0, vI b.y1]) (H1 := (ap [z3, z4] [])) (E := []) (Ob := [(decide (meetP a.x0 a.x1 b.x0 b.x1)) = true]) [] [.gd true] [14, 23] (.bool (decide (meetP a.y0 a.y1 b.y0 b.y1))) [z5, (23, .bool (decide (meetP a.y0 a.y1 b.y0 b.y1)))] (fun _ => by kernel_rfl) mn (ac (decide_eq_true h2) an) (meet_any a.y0 a.y1 b.y0 b.y1  _) (by kernel_rfl) ?_
    refine TL.seg0 2 [] [.gd true] [4] [(4, .bool (decide (meetP a.y0 a.y1 b.y0 b.y1)))] (ap [z3, z4] []) [] [(decide (meetP a.x0 a.x1 b.x0 b.x1)) = true] (fun _ => by kernel_rfl) mn (ac (decide_eq_true h2) an) ?_
    refine TL.fin (by kernel_rfl) ?_
    refine EX.next ?_
    refine TR.ret (A := [z3, z4]) (Ts := []) (by exact fun _ _ h => h) rfl rfl [] [] (.bool (decide (meetP a.y0 a.y1 b.y0 b.y1))) [] [] (fun _ => by kernel_rfl) mn an [] [0, 1] [] [] [] (by kernel_rfl) (by kernel_rfl) (by kernel_rfl) ?_
    exact ⟨by simp [ovl, *], rfl⟩
  · refine TL.seg0 12 [] [.gd false, .gd false, .gd false, .gd false, .gd false, .gd false, .gd false, .gd false, .gd false, .gd false] [4] [(4, .bool false)] (ap [z3, z4] []) [] [(decide (meetP a.x0 a.x1 b.x0 b.x1)) = false, (decide (meetP a.x0 a.x1 b.x0 b.x1)) = false, (decide (meetP a.x0 a.x1 b.x0 b.x1)) = false, (decide (meetP a.x0 a.x1 b.x0 b.x1)) = false, (decide (meetP a.x0 a.x1 b.x0 b.x1)) = false, (decide (meetP a.x0 a.x1 b.x0 b.x1)) = false, (decide (meetP a.x0 a.x1 b.x0 b.x1)) = false, (decide (meetP a.x0 a.x1 b.x0 b.x1)) = false, (decide (meetP a.x0 a.x1 b.x0 b.x1)) = false, (decide (meetP a.x0 a.x1 b.x0 b.x1)) = false] (fun _ => by kernel_rfl) mn (ac (decide_eq_false h2) (ac (decide_eq_false h2) (ac (decide_eq_false h2) (ac (decide_eq_false h2) (ac (decide_eq_false h2) (ac (decide_eq_false h2) (ac (decide_eq_false h2) (ac (decide_eq_false h2) (ac (decide_eq_false h2) (ac (decide_eq_false h2) an)))))))))) ?_
    refine TL.fin (by kernel_rfl) ?_
    refine EX.next ?_
    refine TR.ret (A := [z3, z4]) (Ts := []) (by exact fun _ _ h => h) rfl rfl [] [] (.bool false) [] [] (fun _ => by kernel_rfl) mn an [] [0, 1] [] [] [] (by kernel_rfl) (by kernel_rfl) (by kernel_rfl) ?_
    exact ⟨by simp [ovl, *], rfl⟩

set_option maxHeartbeats 400000 in
set_option maxRecDepth 100000 in
theorem bounds_circle (r : Int) (A : Option Addr) (cap : Nat) (pos : V2) (F : HL) : Sp Tryz.prog 67 #[.agg #[vI r, .slice A 0 cap], .agg #[vI pos.x, vI pos.y]] [] F (fun u H' => u = .agg #[vI ((bounds ⟨r, [], A, cap⟩ pos).x0), vI ((bounds ⟨r, [], A, cap⟩ pos).y0), vI ((bounds ⟨r, [], A, cap⟩ pos).x1), vI ((bounds ⟨r, [], A, cap⟩ pos).y1)] ∧ H' = []) := by
  refine Sp.of_body Tryz.func67 rfl rfl rfl [(0, .agg #[vI r, .slice A 0 cap]), (1, .agg #[vI pos.x, vI pos.y])] rfl ?_
  intro w0
  refine TR.convH (ap [] []) rfl ?_
  refine TR.seq ?_
  refine TR.reg ?_
  refine TL.seg 3 [] [] [2, 3, 4] (fun n1 => [(2, vP (n1 + 0) 0), (3, vP (n1 + 1) 0), (4, vP (n1 + 2) 0)]) (fun n1 => (ap [((n1 + 2), .lit [vI 0, vI 0, vI 0, vI 0] 25 (0, 0)), ((n1 + 1), .lit [vI pos.x, vI pos.y] 30 (0, 0)), ((n1 + 0), .lit [vI r, .slice A 0 cap] 35 (0, 0))] [])) (fun n1 => []) (fun n1 => []) (fun _ => by kernel_rfl) mn (fun n1 => an) ?_
  intro n1
  refine TL.fin (by kernel_rfl) ?_
  refine EX.next ?_
  refine TR.seq ?_
  refine TR.seq ?_
  refine TR.reg ?_
  let z1 : Nat × Value := (2, vP (n1 + 0) 0)
  let z2 : Nat × Value := (3, vP (n1 + 1) 0)
  let z3 : Nat × Value := (4, vP (n1 + 2) 0)
  let z4 : Nat × Blk := ((n1 + 2), .lit [vI 0, vI 0, vI 0, vI 0] 25 (0, 0))
  let z5 : Nat × Blk := ((n1 + 1), .lit [vI pos.x, vI pos.y] 30 (0, 0))
  let z6 : Nat × Blk := ((n1 + 0), .lit [vI r, .slice A 0 cap] 35 (0, 0))
  refine TL.seg0 1 [] [.own 2, .own 2] [2, 3, 4, 10] [z1, z2, z3, (10, .agg #[vI r, .slice A 0 cap])] (ap [z4, z5, z6] []) [(n1 + 0), (n1 + 0)] [] (fun _ => by kernel_rfl) mn an ?_
  refine TL.callp (dst := (some 11)) (f := 88) (args := #[.agg #[vI r, .slice A 0 cap]]) (H1 := (ap [z4, z5, z6] [])) (E := []) (Ob := []) [] [] [2, 3, 4, 11] (.bool true) [z1, z2, z3, (11, .bool true)] (fun _ => by kernel_rfl) mn an (sc_any r A 0 cap _) (by kernel_rfl) ?_
  refine TL.fin (by kernel_rfl) ?_
  refine EX.next ?_
  refine TR.yes (by kernel_rfl) (by kernel_rfl) (rfl : true = true) ?_
  refine TR.seq ?_
  refine TR.reg ?_
  let z7 : Nat × Blk := ((n1 + 2), .lit [vI (IntKind.i64.wrap (pos.x - r)), vI (IntKind.i64.wrap (pos.y - r)), vI (IntKind.i64.wrap (pos.x + r)), vI (IntKind.i64.wrap (pos.y + r))] 25 (0, 0))
  refine TL.seg0 22 [] [.own 1, .own 2, .own 1, .own 2, .own 1, .own 2, .own 1, .own 2, .own 0, .own 0, .own 0, .own 0] [4] [z3] (ap [z7, z5, z6] []) [(n1 + 2), (n1 + 2), (n1 + 2), (n1 + 2), (n1 + 0), (n1 + 1), (n1 + 0), (n1 + 1), (n1 + 0), (n1 + 1), (n1 + 0), (n1 + 1)] [] (fun _ => by kernel_rfl) mn an ?_
  refine TL.fin (by kernel_rfl) ?_
  refine EX.next ?_
  refine TR.ret (A := [z7, z5, z6]) (Ts := []) (by exact fun _ _ h => h) rfl rfl [] [.own 0, .own 0, .own 0, .own 0] (.agg #[vI (IntKind.i64.wrap (pos.x - r)), vI (IntKind.i64.wrap (pos.y - r)), vI (IntKind.i64.wrap (pos.x + r)), vI (IntKind.i64.wrap (pos.y + r))]) [(n1 + 2), (n1 + 2), (n1 + 2), (n1 + 2)] [] (fun _ => by kernel_rfl) mn an [] [0, 1, 2] [] [] [] (by kernel_rfl) (by kernel_rfl) (by kernel_rfl) ?_
  exact ⟨rfl, rfl⟩

set_option maxHeartbeats 400000 in
set_option maxRecDepth 100000 in
theorem bounds_poly (r : Int) (l : List V2) (b cap : Nat) (pos : V2) (F : HL) (hb : (b, .rows 2 cap (vrow l) 30 (0, 0)) ∈ F) (h3 : 3 ≤ l.length) (h4 : l.length ≤ cap) (h5 : cap ≤ 1000000) : Sp Tryz.prog 67 #[.agg #[vI r, vS b 0 l.length cap], .agg #[vI pos.x, vI pos.y]] [] F (fun u H' => u = .agg #[vI ((bounds ⟨r, l, some ⟨b, 0, none⟩, cap⟩ pos).x0), vI ((bounds ⟨r, l, some ⟨b, 0, none⟩, cap⟩ pos).y0), vI ((bounds ⟨r, l, some ⟨b, 0, none⟩, cap⟩ pos).x1), vI ((bounds ⟨r, l, some ⟨b, 0, none⟩, cap⟩ pos).y1)] ∧ H' = []) := by
  refine Sp.of_body Tryz.func67 rfl rfl rfl [(0, .agg #[vI r, vS b 0 l.length cap]), (1, .agg #[vI pos.x, vI pos.y])] rfl ?_
  intro w0
  refine TR.convH (ap [] []) rfl ?_
  refine TR.seq ?_
  refine TR.reg ?_
  refine TL.seg 3 [] [] [2, 3, 4] (fun n1 => [(2, vP (n1 + 0) 0), (3, vP (n1 + 1) 0), (4, vP (n1 + 2) 0)]) (fun n1 => (ap [((n1 + 2), .lit [vI 0, vI 0, vI 0, vI 0] 25 (0, 0)), ((n1 + 1), .lit [vI pos.x, vI pos.y] 30 (0, 0)), ((n1 + 0), .lit [vI r, vS b 0 l.length cap] 35 (0, 0))] [])) (fun n1 => []) (fun n1 => []) (fun _ => by kernel_rfl) mn (fun n1 => an) ?_
  intro n1
  refine TL.fin (by kernel_rfl) ?_
  refine EX.next ?_
  refine TR.seq ?_
  refine TR.seq ?_
  refine TR.reg ?_
  let z1 : Nat × Value := (2, vP (n1 + 0) 0)
  let z2 : Nat × Value := (3, vP (n1 + 1) 0)
  let z3 : Nat × Value := (4, vP (n1 + 2) 0)
  let z4 : Nat × Blk := ((n1 + 2), .lit [vI 0, vI 0, vI 0, vI 0] 25 (0, 0))
  let z5 : Nat × Blk := ((n1 + 1), .lit [vI pos.x, vI pos.y] 30 (0, 0))
  let z6 : Nat × Blk := ((n1 + 0), .lit [vI r, vS b 0 l.length cap] 35 (0, 0))
  refine TL.seg0 1 [] [.own 2, .own 2] [2, 3, 4, 10] [z1, z2, z3, (10, .agg #[vI r, vS b 0 l.length cap])] (ap [z4, z5, z6] []) [(n1 + 0), (n1 + 0)] [] (fun _ => by kernel_rfl) mn an ?_
  refine TL.callp (dst := (some 11)) (f := 88) (args := #[.agg #[vI r, vS b 0 l.length cap]]) (H1 := (ap [z4, z5, z6] [])) (E := []) (Ob := []) [] [] [2, 3, 4, 11] (.bool (decide ((l.length : Int) = 0))) [z1, z2, z3, (11, .bool (decide ((l.length : Int) = 0)))] (fun _ => by kernel_rfl) mn an (sc_any r (some ⟨b, 0, none⟩) l.length cap _) (by kernel_rfl) ?_
  refine TL.fin (by kernel_rfl) ?_
  refine EX.next ?_
  refine TR.no (b := decide ((l.length : Int) = 0)) (by kernel_rfl) (by kernel_rfl) (decide_eq_false (show ¬ ((l.length : Int) = 0) by omega)) ?_
  refine TR.skip ?_
  refine EX.next ?_
  refine TR.seq ?_
  refine TR.draw [7] [] rfl (by kernel_rfl) ?_
  let z7 : Nat × Blk := (b, .rows 2 cap (vrow l) 30 (0, 0))
  refine TD.vals [] (by kernel_rfl) [0, 1, 2, 3, 4] [z7] [.own 1, .own 1, .own 2, .ix 0, .rorow 0 0 0, .rorow 0 0 1] [2, 3, 4, 33, 37] [true, true, true, true, true, false, false, false] [z1, z2, z3, (33, .agg #[vI pos.x, vI pos.y]), (37, .agg #[vI ((l.getD 0 ⟨0, 0⟩).x), vI ((l.getD 0 ⟨0, 0⟩).y)])] [b, b, (n1 + 0), (n1 + 1), (n1 + 1)] [((0 + 0 * 2) + 1) = 0 * 2 + 1 ∧ 0 < cap, (0 + 0 * 2) = 0 * 2 + 0 ∧ 0 < cap, 0 = ((0 : Nat) : Int) ∧ 0 < l.length] (by kernel_rfl) (by kernel_rfl) (mc hb mn) (ac ⟨by omega, by omega⟩ (ac ⟨by omega, by omega⟩ (ac ⟨by omega, by omega⟩ an))) 3 rfl ?_
  let z8 := vadd pos (l.getD 0 ⟨0, 0⟩)
  let z9 : Nat × Value := (38, .agg #[vI (z8.x), vI (z8.y)])
  refine TD.callv [] (by kernel_rfl) 5 [] [] (dst := (some 38)) (f := 23) (args := #[.agg #[vI pos.x, vI pos.y], .agg #[vI ((l.getD 0 ⟨0, 0⟩).x), vI ((l.getD 0 ⟨0, 0⟩).y)]]) (E := []) (Ob := []) [2, 3, 4, 38] (.agg #[vI (z8.x), vI (z8.y)]) [z1, z2, z3, z9] (by kernel_rfl) (by kernel_rfl) (by kernel_rfl) mn an (fun X_ => (vadd_any pos (l.getD 0 ⟨0, 0⟩)  _)) (by kernel_rfl) 2 rfl ?_
  refine TD.one 6 (by kernel_rfl) 1 rfl fun a_ hF_ hcl_ => ?_
  refine OPJ.ev [] [] [2, 3, 4, 5, 38] (fun n2 => [z1, z2, z3, (5, vP (n2 + 0) 0), z9]) (fun n2 => (ap [((n2 + 0), .lit [vI 0, vI 0] 30 (0, 0)), z4, z5, z6] [])) (fun n2 => []) (fun n2 => []) (fun _ => by kernel_rfl) mn (fun n2 => an) (.inr ⟨by decide, fun n2 => ⟨[((n2 + 0), .lit [vI 0, vI 0] 30 (0, 0))], rfl⟩⟩) (.inr fun n2 => ⟨[((n2 + 0), .lit [vI 0, vI 0] 30 (0, 0))], rfl⟩) (fun n2 => ?_) hF_ hcl_
  refine TD.one 7 (by kernel_rfl) 0 rfl fun a_ hF_ hcl_ => ?_
  let z10 : Nat × Blk := ((n2 + 0), .lit [vI (z8.x), vI (z8.y)] 30 (0, 0))
  refine OPJ.ev [] [.own 0, .own 0] [2, 3, 4, 5] (fun _ => [z1, z2, z3, (5, vP (n2 + 0) 0)]) (fun _ => (ap [z10, z4, z5, z6] [])) (fun _ => [(n2 + 0), (n2 + 0)]) (fun _ => []) (fun _ => by kernel_rfl) mn (fun _ => an) (.inl ⟨[], fun _ => by kernel_rfl⟩) (.inl (by decide)) (fun _ => ?_) hF_ hcl_
  refine TD.fin (by kernel_rfl) (EX.np ?_)
  refine EX.next ?_
  refine TR.seq ?_
  refine TR.reg ?_
  let z11 : List Value := [vI (z8.x), vI (z8.y), vI (z8.x), vI (z8.y)]
  refine TL.seg 11 [] [.own 0, .own 0, .own 0, .own 0, .own 0, .own 0, .own 0, .own 0] [2, 3, 4, 6] (fun n3 => [z1, z2, z3, (6, vP (n3 + 0) 0)]) (fun n3 => (ap [((n3 + 0), .lit z11 25 (0, 0)), z10, z4, z5, z6] [])) (fun n3 => [(n3 + 0), (n3 + 0), (n3 + 0), (n3 + 0), (n2 + 0), (n2 + 0), (n2 + 0), (n2 + 0)]) (fun n3 => []) (fun _ => by kernel_rfl) mn (fun n3 => an) ?_
  intro n3
  refine TL.fin (by kernel_rfl) ?_
  refine EX.next ?_
  refine TR.seq ?_
  refine TR.seq ?_
  refine TR.reg ?_
  let z12 : Nat × Value := (6, vP (n3 + 0) 0)
  let z13 := l.length - 1
  let z14 : Nat × Value := (50, vS b 2 z13 (cap - 1))
  let z15 : Nat × Value := (51, vI ((z13 : Nat) : Int))
  let z16 : Nat × Blk := ((n3 + 0), .lit z11 25 (0, 0))
  refine TL.seg0 5 [] [.own 4, .sl 1 l.length false] [3, 4, 6, 50, 51, 52] [z2, z3, z12, z14, z15, (52, vI 0)] (ap [z16, z10, z4, z5, z6] []) [(n1 + 0)] [1 = ((1 : Nat) : Int) ∧ l.length = l.length ∧ 1 ≤ l.length ∧ l.length ≤ cap ∧ cap ≠ 1] (fun _ => by kernel_rfl) mn (ac ⟨by omega, by omega, by omega, by omega, by omega⟩ an) ?_
  refine TL.fin (by kernel_rfl) ?_
  refine EX.next ?_
  refine TR.block ?_
  refine TR.loop (A := [z16, z10, z4, z5, z6]) (Ts := []) (σ := Nat) (fun (k : Nat) => [z2, z3, z12, z14, (51, vI ((z13 : Nat) : Int)), (52, vI (k : Int))]) (fun (k : Nat) => ap [((n3 + 0), .lit [vI ((bfold pos l k).x0), vI ((bfold pos l k).y0), vI ((bfold pos l k).x1), vI ((bfold pos l k).y1)] 25 (0, 0)), z10, z4, z5, z6] []) (fun (k : Nat) => k ≤ l.length - 1) (fun (k : Nat) => l.length - k) 0 (Nat.zero_le _) [3, 4, 6, 50, 51, 52] (by kernel_rfl) [0, 1, 2, 3, 4] [] [] [] (by kernel_rfl) (by kernel_rfl) (by kernel_rfl) ?_
  rintro k hI4
  refine TR.seq ?_
  refine TR.reg ?_
  let z17 : Nat × Value := (52, vI (k : Int))
  let z18 := bfold pos l k
  let z19 : List Value := [vI (z18.x0), vI (z18.y0), vI (z18.x1), vI (z18.y1)]
  let z20 : Nat × Blk := ((n3 + 0), .lit z19 25 (0, 0))
  refine TL.seg0 1 [] [] [3, 4, 6, 50, 51, 52, 53] [z2, z3, z12, z14, z15, z17, (53, .bool (decide ((k : Int) < ((z13 : Nat) : Int))))] (ap [z20, z10, z4, z5, z6] []) [] [] (fun _ => by kernel_rfl) mn an ?_
  refine TL.fin (by kernel_rfl) ?_
  refine EX.next ?_
  refine TR.seq ?_
  rcases Decidable.em ((k : Int) < (((l.length - 1) : Nat) : Int)) with h5 | h5
  · refine TR.yes (b := decide ((k : Int) < ((z13 : Nat) : Int))) (by kernel_rfl) (by kernel_rfl) (decide_eq_true h5) ?_
    refine TR.skip ?_
    refine EX.next ?_
    refine TR.seq ?_
    refine TR.block ?_
    refine TR.seq ?_
    refine TR.reg ?_
    let z21 : List Value := [vI ((l.getD (1 + k) ⟨0, 0⟩).x), vI ((l.getD (1 + k) ⟨0, 0⟩).y)]
    refine TL.seg 4 [z7] [.ix k, .rorow 0 (1 + k) 0, .rorow 0 (1 + k) 1, .own 0, .own 0] [3, 4, 6, 8, 50, 51, 52] (fun n6 => [z2, z3, z12, (8, vP (n6 + 0) 0), z14, z15, z17]) (fun n6 => (ap [((n6 + 0), .lit z21 30 (0, 0)), z20, z10, z4, z5, z6] [])) (fun n6 => [(n6 + 0), (n6 + 0), b, b]) (fun n6 => [((2 + k * 2) + 1) = (1 + k) * 2 + 1 ∧ (1 + k) < cap, (2 + k * 2) = (1 + k) * 2 + 0 ∧ (1 + k) < cap, (k : Int) = ((k : Nat) : Int) ∧ k < (l.length - 1)]) (fun _ => by kernel_rfl) (mc hb mn) (fun n6 => (ac ⟨by omega, by omega⟩ (ac ⟨by omega, by omega⟩ (ac ⟨by omega, by omega⟩ an)))) ?_
    intro n6
    refine TL.fin (by kernel_rfl) ?_
    refine EX.next ?_
    refine TR.seq ?_
    refine TR.reg ?_
    let z22 : Nat × Blk := ((n6 + 0), .lit z21 30 (0, 0))
    refine TL.seg0 2 [] [.own 4, .own 4, .own 0, .own 0] [3, 4, 6, 50, 51, 52, 56, 57] [z2, z3, z12, z14, z15, z17, (56, .agg #[vI pos.x, vI pos.y]), (57, .agg #[vI ((l.getD (1 + k) ⟨0, 0⟩).x), vI ((l.getD (1 + k) ⟨0, 0⟩).y)])] (ap [z22, z20, z10, z4, z5, z6] []) [(n6 + 0), (n6 + 0), (n1 + 1), (n1 + 1)] [] (fun _ => by kernel_rfl) mn an ?_
    let z23 := vadd pos (l.getD (1 + k) ⟨0, 0⟩)
    refine TL.callp (dst := (some 58)) (f := 23) (args := #[.agg #[vI pos.x, vI pos.y], .agg #[vI ((l.getD (1 + k) ⟨0, 0⟩).x), vI ((l.getD (1 + k) ⟨0, 0⟩).y)]]) (H1 := (ap [z22, z20, z10, z4, z5, z6] [])) (E := []) (Ob := []) [] [] [3, 4, 6, 50, 51, 52, 58] (.agg #[vI (z23.x), vI (z23.y)]) [z2, z3, z12, z14, z15, z17, (58, .agg #[vI (z23.x), vI (z23.y)])] (fun _ => by kernel_rfl) mn an (vadd_any pos (l.getD (1 + k) ⟨0, 0⟩)  _) (by kernel_rfl) ?_
    let z24 : List Value := [vI (z23.x), vI (z23.y)]
    refine TL.seg 2 [] [.own 0, .own 0] [3, 4, 6, 9, 50, 51, 52] (fun n7 => [z2, z3, z12, (9, vP (n7 + 0) 0), z14, z15, z17]) (fun n7 => (ap [((n7 + 0), .lit z24 30 (0, 0)), z22, z20, z10, z4, z5, z6] [])) (fun n7 => [(n7 + 0), (n7 + 0)]) (fun n7 => []) (fun _ => by kernel_rfl) mn (fun n7 => an) ?_
    intro n7
    refine TL.fin (by kernel_rfl) ?_
    refine EX.next ?_
    refine TR.seq ?_
    let z25 : Nat × Blk := ((n7 + 0), .lit z24 30 (0, 0))
    refine TR.draw [11, 13] [z25, z22, z10, z4, z5, z6] rfl (by kernel_rfl) ?_
    let z26 : Nat × Value := (9, vP (n7 + 0) 0)
    let z27 : Nat × Value := (68, vI (if z23.x > z18.x1 then z23.x else z18.x1))
    refine TD.vals [0, 1, 3, 4, 5, 6] (by kernel_rfl) [0, 2, 5, 7, 1, 3, 6, 8, 4, 9, 10] [] [.own 2, .own 0, .own 2, .ro 0] [3, 4, 6, 9, 50, 51, 52, 63, 68, 69] [true, true, true, true, true, true, true, true, true, true, true, false, false, false] [z2, z3, z12, z26, z14, z15, z17, (63, vI (if z23.x < z18.x0 then z23.x else z18.x0)), z27, (69, vP (n3 + 0) 0)] [(n7 + 0), (n3 + 0), (n7 + 0), (n3 + 0)] [] (by kernel_rfl) (by kernel_rfl) mn an 3 rfl ?_
    refine TD.one 11 (by kernel_rfl) 2 rfl fun a_ hF_ hcl_ => ?_
    refine OPJ.ev [] [.own 2] [3, 4, 6, 9, 50, 51, 52, 68] (fun _ => [z2, z3, z12, z26, z14, z15, z17, z27]) (fun _ => (ap [z25, z22, ((n3 + 0), .lit [vI (if z23.x < z18.x0 then z23.x else z18.x0), vI (z18.y0), vI (z18.x1), vI (z18.y1)] 25 (0, 0)), z10, z4, z5, z6] [])) (fun _ => [(n3 + 0)]) (fun _ => []) (fun _ => by kernel_rfl) mn (fun _ => an) (.inl ⟨[0, 1, 3, 4, 5, 6], fun _ => by kernel_rfl⟩) (.inl (by decide)) (fun _ => ?_) hF_ hcl_
    refine TD.vals [0, 1, 3, 4, 5, 6] (by kernel_rfl) [12] [] [] [3, 4, 6, 9, 50, 51, 52, 68, 70] [true, true, true, true, true, true, true, true, true, true, true, true, true, false] [z2, z3, z12, z26, z14, z15, z17, z27, (70, vP (n3 + 0) 2)] [] [] (by kernel_rfl) (by kernel_rfl) mn an 1 rfl ?_
    refine TD.one 13 (by kernel_rfl) 0 rfl fun a_ hF_ hcl_ => ?_
    refine OPJ.ev [] [.own 2] [3, 4, 6, 9, 50, 51, 52] (fun _ => [z2, z3, z12, z26, z14, z15, z17]) (fun _ => (ap [z25, z22, ((n3 + 0), .lit [vI (if z23.x < z18.x0 then z23.x else z18.x0), vI (z18.y0), vI (if z23.x > z18.x1 then z23.x else z18.x1), vI (z18.y1)] 25 (0, 0)), z10, z4, z5, z6] [])) (fun _ => [(n3 + 0)]) (fun _ => []) (fun _ => by kernel_rfl) mn (fun _ => an) (.inl ⟨[0, 1, 3, 4, 5, 6], fun _ => by kernel_rfl⟩) (.inl (by decide)) (fun _ => ?_) hF_ hcl_
    refine TD.fin (by kernel_rfl) (EX.np ?_)
    refine EX.next ?_
    refine TR.draw [11, 13] [z25, z22, z10, z4, z5, z6] rfl (by kernel_rfl) ?_
    let z28 : Nat × Value := (80, vI (if z23.y > z18.y1 then z23.y else z18.y1))
    refine TD.vals [0, 1, 3, 4, 5, 6] (by kernel_rfl) [0, 2, 5, 7, 1, 3, 6, 8, 4, 9, 10] [] [.own 2, .own 0, .own 2, .ro 0] [3, 4, 6, 50, 51, 52, 75, 80, 81] [true, true, true, true, true, true, true, true, true, true, true, false, false, false] [z2, z3, z12, z14, z15, z17, (75, vI (if z23.y < z18.y0 then z23.y else z18.y0)), z28, (81, vP (n3 + 0) 1)] [(n7 + 0), (n3 + 0), (n7 + 0), (n3 + 0)] [] (by kernel_rfl) (by kernel_rfl) mn an 3 rfl ?_
    refine TD.one 11 (by kernel_rfl) 2 rfl fun a_ hF_ hcl_ => ?_
    refine OPJ.ev [] [.own 2] [3, 4, 6, 50, 51, 52, 80] (fun _ => [z2, z3, z12, z14, z15, z17, z28]) (fun _ => (ap [z25, z22, ((n3 + 0), .lit [vI (if z23.x < z18.x0 then z23.x else z18.x0), vI (if z23.y < z18.y0 then z23.y else z18.y0), vI (if z23.x > z18.x1 then z23.x else z18.x1), vI (z18.y1)] 25 (0, 0)), z10, z4, z5, z6] [])) (fun _ => [(n3 + 0)]) (fun _ => []) (fun _ => by kernel_rfl) mn (fun _ => an) (.inl ⟨[0, 1, 3, 4, 5, 6], fun _ => by kernel_rfl⟩) (.inl (by decide)) (fun _ => ?_) hF_ hcl_
    refine TD.vals [0, 1, 3, 4, 5, 6] (by kernel_rfl) [12] [] [] [3, 4, 6, 50, 51, 52, 80, 82] [true, true, true, true, true, true, true, true, true, true, true, true, true, false] [z2, z3, z12, z14, z15, z17, z28, (82, vP (n3 + 0) 3)] [] [] (by kernel_rfl) (by kernel_rfl) mn an 1 rfl ?_
    refine TD.one 13 (by kernel_rfl) 0 rfl fun a_ hF_ hcl_ => ?_
    let z29 : Nat × Blk := ((n3 + 0), .lit [vI (if z23.x < z18.x0 then z23.x else z18.x0), vI (if z23.y < z18.y0 then z23.y else z18.y0), vI (if z23.x > z18.x1 then z23.x else z18.x1), vI (if z23.y > z18.y1 then z23.y else z18.y1)] 25 (0, 0))
    refine OPJ.ev [] [.own 2] [3, 4, 6, 50, 51, 52] (fun _ => [z2, z3, z12, z14, z15, z17]) (fun _ => (ap [z25, z22, z29, z10, z4, z5, z6] [])) (fun _ => [(n3 + 0)]) (fun _ => []) (fun _ => by kernel_rfl) mn (fun _ => an) (.inl ⟨[0, 1, 3, 4, 5, 6], fun _ => by kernel_rfl⟩) (.inl (by decide)) (fun _ => ?_) hF_ hcl_
    refine TD.fin (by kernel_rfl) (EX.np ?_)
    refine EX.inn ?_
    refine EX.next ?_
    refine TR.reg ?_
    refine TL.seg0 2 [] [.nw] [3, 4, 6, 50, 51, 52] [z2, z3, z12, z14, z15, (52, vI ((k : Int) + 1))] (ap [z25, z22, z29, z10, z4, z5, z6] []) [] [-9223372036854775808 ≤ (k : Int) + 1 ∧ (k : Int) + 1 ≤ 9223372036854775807] (fun _ => by kernel_rfl) mn (ac ⟨by omega, by omega⟩ an) ?_
    refine TL.fin (by kernel_rfl) ?_
    refine EX.meet (A := [z25, z22, z29, z10, z4, z5, z6]) (Ts := []) (k + 1) ?_ [3, 4, 6, 50, 51, 52] (by kernel_rfl) [2, 3, 4, 5, 6] [0, 1] [] [] (by kernel_rfl) (by kernel_rfl) (by kernel_rfl)
    try dsimp only
    refine ⟨by omega, by omega⟩
  · refine TR.no (b := decide ((k : Int) < ((z13 : Nat) : Int))) (by kernel_rfl) (by kernel_rfl) (decide_eq_false h5) ?_
    refine TR.exit ?_
    refine EX.thn (by simp) ?_
    refine EX.thn (by simp) ?_
    refine EX.hit ?_
    refine EX.next ?_
    refine TR.seq ?_
    refine TR.reg ?_
    let z30 : Nat × Blk := ((n1 + 2), .lit z19 25 (0, 0))
    refine TL.seg0 2 [] [.own 0, .own 0, .own 0, .own 0, .own 2, .own 2, .own 2, .own 2] [4] [z3] (ap [z20, z10, z30, z5, z6] []) [(n1 + 2), (n1 + 2), (n1 + 2), (n1 + 2), (n3 + 0), (n3 + 0), (n3 + 0), (n3 + 0)] [] (fun _ => by kernel_rfl) mn an ?_
    refine TL.fin (by kernel_rfl) ?_
    refine EX.next ?_
    refine TR.ret (A := [z20, z10, z30, z5, z6]) (Ts := []) (by exact fun _ _ h => h) rfl rfl [] [.own 2, .own 2, .own 2, .own 2] (.agg #[vI (z18.x0), vI (z18.y0), vI (z18.x1), vI (z18.y1)]) [(n1 + 2), (n1 + 2), (n1 + 2), (n1 + 2)] [] (fun _ => by kernel_rfl) mn an [] [0, 1, 2, 3, 4] [] [] [] (by kernel_rfl) (by kernel_rfl) (by kernel_rfl) ?_
    have ek : k = l.length - 1 := by omega
    subst ek
    refine ⟨?_, rfl⟩
    unfold bounds
    rw [if_neg (by intro e; simp [circ] at e; rw [e] at h3; simp at h3)]

theorem bounds_any (s : Shp) (pos : V2) (F : HL) (h : ShIn F s) : Sp Tryz.prog 67 #[shV s, .agg #[vI pos.x, vI pos.y]] [] F (fun u H' => u = .agg #[vI (bounds s pos).x0, vI (bounds s pos).y0, vI (bounds s pos).x1, vI (bounds s pos).y1] ∧ H' = []) := by
  cases h with
  | circle r A cap => exact bounds_circle r A cap pos F
  | poly r l b cap h h3 h4 h5 => exact bounds_poly r l b cap pos F h h3 h4 h5
end Go.Proofs.YtpkincoclhpcgaaGreatDoor
