/- Contracts, printed by a program. -/
import Derived.Test.YtlefngomddjahaaGreatDoorU09
import Derived.Test.YtlefngomddjahaaGreatDoorU08
namespace Go.Proofs.YtlefngomddjahaaGreatDoor
set_option linter.unusedSimpArgs false
set_option linter.unusedVariables false
open Go.RowKit
structure Shp where (r : Int) (poly : List V2) (A : Option Addr) (cap : Nat)
abbrev shV (s : Shp) : Value := .agg #[vI s.r, .slice s.A s.poly.length s.cap]
def vrow (l : List V2) : Nat → Nat → Value := fun i k => match k with | 0 => vI (l.getD i ⟨0, 0⟩).x | _ => vI (l.getD i ⟨0, 0⟩).y
/-- a shape's vertices lie in memory -/
inductive ShIn (F : HL) : Shp → Prop
  | circle (r : Int) (A : Option Addr) (cap : Nat) : ShIn F ⟨r, [], A, cap⟩
  | poly (r : Int) (l : List V2) (b cap : Nat) (h : (b, .rows 2 cap (vrow l) 31 (0, 0)) ∈ F) (h3 : 3 ≤ l.length) (h4 : l.length ≤ cap) (h5 : l.length ≤ 1000000) : ShIn F ⟨r, l, some ⟨b, 0, none⟩, cap⟩
theorem ShIn.mono {F F' : HL} {s : Shp} (h : ShIn F s) (hs : ∀ x ∈ F, x ∈ F') : ShIn F' s := by
  cases h with
  | circle r A cap => exact .circle r A cap
  | poly r l b cap h h3 h4 h5 => exact .poly r l b cap (hs _ h) h3 h4 h5
def circ (s : Shp) : Prop := s.poly = []
instance (s : Shp) : Decidable (circ s) := decidable_of_iff (s.poly.isEmpty = true) (by simp [circ])
def bstep (b : Bx) (c : V2) : Bx := ⟨if c.x < b.x0 then c.x else b.x0, if c.y < b.y0 then c.y else b.y0, if c.x > b.x1 then c.x else b.x1, if c.y > b.y1 then c.y else b.y1⟩
def bfold (pos : V2) (l : List V2) : Nat → Bx
  | 0 => ⟨(vadd pos (l.getD 0 ⟨0, 0⟩)).x, (vadd pos (l.getD 0 ⟨0, 0⟩)).y, (vadd pos (l.getD 0 ⟨0, 0⟩)).x, (vadd pos (l.getD 0 ⟨0, 0⟩)).y⟩
  | k + 1 => bstep (bfold pos l k) (vadd pos (l.getD (1 + k) ⟨0, 0⟩))
def bounds (s : Shp) (pos : V2) : Bx := if circ s then ⟨w64 (pos.x - s.r), w64 (pos.y - s.r), w64 (pos.x + s.r), w64 (pos.y + s.r)⟩ else bfold pos s.poly (s.poly.length - 1)
def meetP (a b c d : Int) : Prop := a ≤ d ∧ c ≤ b
instance (a b c d : Int) : Decidable (meetP a b c d) := inferInstanceAs (Decidable (_ ∧ _))
def ovl (a b : Bx) : Prop := meetP a.x0 a.x1 b.x0 b.x1 ∧ meetP a.y0 a.y1 b.y0 b.y1
instance (a b : Bx) : Decidable (ovl a b) := inferInstanceAs (Decidable (_ ∧ _))

set_option maxHeartbeats 400000 in
set_option maxRecDepth 100000 in
theorem sc_any (r : Int) (A : Option Addr) (n cap : Nat) (F : HL) : Sp Tryz.prog 82 #[.agg #[vI r, .slice A n cap]] [] F (fun u H' => u = .bool (decide ((n : Int) = 0)) ∧ H' = []) := by
  refine Sp.run Tryz.func82 rfl mn (A := []) (Ts := []) rfl fun w0 => ?_
  refine RN.go 15 [.own 0] fun n1 => ?_
  exact RN.ret [] [] [] ⟨rfl, rfl⟩

set_option maxHeartbeats 400000 in
set_option maxRecDepth 100000 in
theorem cc_any (r : Int) (A : Option Addr) (n cap : Nat) (F : HL) : Sp Tryz.prog 222 #[.agg #[vI r, .slice A n cap]] [] F (fun u H' => u = .bool (decide ((n : Int) = 0)) ∧ H' = []) := by
  refine Sp.run Tryz.func222 rfl mn (A := []) (Ts := []) rfl fun w0 => ?_
  refine RN.go 15 [.own 0] fun n1 => ?_
  exact RN.ret [] [] [] ⟨rfl, rfl⟩

set_option maxHeartbeats 400000 in
set_option maxRecDepth 100000 in
theorem meet_any (a : Int) (b : Int) (c : Int) (d : Int)  (F : HL) : Sp Tryz.prog 219 #[vI a, vI b, vI c, vI d] [] F (fun u H' => u = .bool (decide (meetP a b c d)) ∧ H' = []) := by
  refine Sp.run Tryz.func219 rfl mn (A := []) (Ts := []) rfl fun w0 => ?_
  refine RN.go 11 [] fun _ => RN.em (a ≤ d) 12 (fun h1 => ?_) fun h1 => ?_
  · refine RN.go 7 [] fun _ => RN.ret [] [] [] (v := .bool (decide (c ≤ b))) (H' := []) ?_
    exact ⟨by simp [meetP, *], rfl⟩
  · refine RN.go 7 [] fun _ => RN.ret [] [] [] (v := .bool false) (H' := []) ?_
    exact ⟨by simp [meetP, *], rfl⟩

set_option maxHeartbeats 400000 in
set_option maxRecDepth 100000 in
theorem ovl_any (a : Bx) (b : Bx)  (F : HL) : Sp Tryz.prog 187 #[.agg #[vI a.x0, vI a.y0, vI a.x1, vI a.y1], .agg #[vI b.x0, vI b.y0, vI b.x1, vI b.y1]] [] F (fun u H' => u = .bool (decide (ovl a b)) ∧ H' = []) := by
  refine Sp.run Tryz.func187 rfl mn (A := []) (Ts := []) rfl fun w0 => ?_
  refine RN.go 17 [.own 1, .own 1, .own 0, .own 0] fun n1 => RN.cp (meet_any a.x0 a.x1 b.x0 b.x1  _) <| RN.go 1 [] fun _ => RN.em (meetP a.x0 a.x1 b.x0 b.x1) 14 (fun h2 => ?_) fun h2 => ?_
  · refine RN.go 8 [.own 1, .own 1, .own 0, .own 0] fun _ => RN.cp (meet_any a.y0 a.y1 b.y0 b.y1  _) <| RN.go 4 [] fun _ => RN.ret [] [] [] (v := .bool (decide (meetP a.y0 a.y1 b.y0 b.y1))) (H' := []) ?_
    exact ⟨by simp [ovl, *], rfl⟩
  · refine RN.go 13 [] fun _ => RN.ret [] [] [] (v := .bool false) (H' := []) ?_
    exact ⟨by simp [ovl, *], rfl⟩

set_option maxHeartbeats 400000 in
set_option maxRecDepth 100000 in
theorem bounds_circle (r : Int) (A : Option Addr) (cap : Nat) (pos : V2) (F : HL) : Sp Tryz.prog 188 #[.agg #[vI r, .slice A 0 cap], .agg #[vI pos.x, vI pos.y]] [] F (fun u H' => u = .agg #[vI ((bounds ⟨r, [], A, cap⟩ pos).x0), vI ((bounds ⟨r, [], A, cap⟩ pos).y0), vI ((bounds ⟨r, [], A, cap⟩ pos).x1), vI ((bounds ⟨r, [], A, cap⟩ pos).y1)] ∧ H' = []) := by
  refine Sp.run Tryz.func188 rfl mn (A := []) (Ts := []) rfl fun w0 => ?_
  refine RN.go 11 [.own 2, .own 2] fun n1 => RN.cp (sc_any r A 0 cap _) <| RN.go 29 [.own 1, .own 2, .own 1, .own 2, .own 1, .own 2, .own 1, .own 2, .own 0, .own 0, .own 0, .own 0] fun _ => ?_
  exact RN.ret [.own 0, .own 0, .own 0, .own 0] [] [] ⟨rfl, rfl⟩

set_option maxHeartbeats 400000 in
set_option maxRecDepth 100000 in
theorem bounds_poly (r : Int) (l : List V2) (b cap : Nat) (pos : V2) (F : HL) (hb : (b, .rows 2 cap (vrow l) 31 (0, 0)) ∈ F) (h3 : 3 ≤ l.length) (h4 : l.length ≤ cap) (h5 : l.length ≤ 1000000) : Sp Tryz.prog 188 #[.agg #[vI r, vS b 0 l.length cap], .agg #[vI pos.x, vI pos.y]] [] F (fun u H' => u = .agg #[vI ((bounds ⟨r, l, some ⟨b, 0, none⟩, cap⟩ pos).x0), vI ((bounds ⟨r, l, some ⟨b, 0, none⟩, cap⟩ pos).y0), vI ((bounds ⟨r, l, some ⟨b, 0, none⟩, cap⟩ pos).x1), vI ((bounds ⟨r, l, some ⟨b, 0, none⟩, cap⟩ pos).y1)] ∧ H' = []) := by
  refine Sp.run Tryz.func188 rfl (mc hb mn) (A := []) (Ts := []) rfl fun w0 => ?_
  refine RN.go 11 [.own 2, .own 2] fun n1 => RN.cp (sc_any r (some ⟨b, 0, none⟩) l.length cap _) <| RN.go 2 [] fun _ => RN.fx 11 (decide_eq_false (show ¬ ((l.length : Int) = 0) by omega)) <| RN.go 4 [] fun _ => RN.draw [7] [] <| RD.goP [] [0, 1, 2, 3, 4] [.own 1, .own 1, .own 2, .ix 0, .rorow 0 0 0, .rorow 0 0 1] [((0 + 0 * 2) + 1) = 0 * 2 + 1 ∧ 0 < cap, (0 + 0 * 2) = 0 * 2 + 0 ∧ 0 < cap, 0 = ((0 : Nat) : Int) ∧ 0 < l.length] <| RD.cp [] 5 (fun X_ => (vadd_any pos (l.getD 0 ⟨0, 0⟩)  _)) <| RD.one 6 (RDO.ev [] [] fun n2 => ?_)
  refine RD.one 7 (RDO.ev [] [.own 0, .own 0] fun _ => ?_)
  refine RD.fin <| RN.goP 27 (ow 0 8 ++ [.own 4, .sl 1 l.length false]) [1 = ((1 : Nat) : Int) ∧ l.length = l.length ∧ 1 ≤ l.length ∧ l.length ≤ cap ∧ cap ≠ 1] fun n3 => RN.loop (σ := Nat) (fun k => ⟨[(3, vP (n1 + 1) 0), (4, vP (n1 + 2) 0), (6, vP (n3 + 0) 0), (50, vS b 2 (l.length - 1) (cap - 1)), (51, vI (((l.length - 1) : Nat) : Int)), (52, vI (k : Int))], [((n3 + 0), .lit [vI ((bfold pos l k).x0), vI ((bfold pos l k).y0), vI ((bfold pos l k).x1), vI ((bfold pos l k).y1)] 27 (0, 0)), ((n2 + 0), .lit [vI ((vadd pos (l.getD 0 ⟨0, 0⟩)).x), vI ((vadd pos (l.getD 0 ⟨0, 0⟩)).y)] 31 (0, 0)), ((n1 + 2), .lit [vI 0, vI 0, vI 0, vI 0] 27 (0, 0)), ((n1 + 1), .lit [vI pos.x, vI pos.y] 31 (0, 0)), ((n1 + 0), .lit [vI r, vS b 0 l.length cap] 77 (0, 0))], [], k ≤ l.length - 1, l.length - k⟩) 0 [0, 1, 2, 3, 4] [] (Nat.zero_le _) ?_
  rintro k hI4 mt5
  refine RN.go 6 [] fun _ => RN.em ((k : Int) < (((l.length - 1) : Nat) : Int)) 53 (fun h6 => ?_) fun h6 => ?_
  · refine RN.goP 17 [.ix k, .rorow 0 (1 + k) 0, .rorow 0 (1 + k) 1, .own 0, .own 0, .own 4, .own 4, .own 0, .own 0] [((2 + k * 2) + 1) = (1 + k) * 2 + 1 ∧ (1 + k) < cap, (2 + k * 2) = (1 + k) * 2 + 0 ∧ (1 + k) < cap, (k : Int) = ((k : Nat) : Int) ∧ k < (l.length - 1)] fun n7 => RN.cp (vadd_any pos (l.getD (1 + k) ⟨0, 0⟩)  _) <| RN.go 5 [.own 0, .own 0] fun n8 => RN.draw [11, 13] [0, 1, 3, 4, 5, 6] <| RD.go [0, 1, 3, 4, 5, 6] [0, 2, 5, 7, 1, 3, 6, 8, 4, 9, 10] [.own 2, .own 0, .own 2, .ro 0] <| RD.one 11 (RDO.ev [0, 1, 3, 4, 5, 6] [.own 2] fun _ => ?_)
    refine RD.go [0, 1, 3, 4, 5, 6] [12] [] <| RD.one 13 (RDO.ev [0, 1, 3, 4, 5, 6] [.own 2] fun _ => ?_)
    refine RD.fin <| RN.go 1 [] fun _ => RN.draw [11, 13] [0, 1, 3, 4, 5, 6] <| RD.go [0, 1, 3, 4, 5, 6] [0, 2, 5, 7, 1, 3, 6, 8, 4, 9, 10] [.own 2, .own 0, .own 2, .ro 0] <| RD.one 11 (RDO.ev [0, 1, 3, 4, 5, 6] [.own 2] fun _ => ?_)
    refine RD.go [0, 1, 3, 4, 5, 6] [12] [] <| RD.one 13 (RDO.ev [0, 1, 3, 4, 5, 6] [.own 2] fun _ => ?_)
    refine RD.fin <| RN.goP 6 [.nw] [I64 ((k : Int) + 1)] fun _ => ?_
    refine mt5 (k + 1) [2, 3, 4, 5, 6] [] ?_
    try dsimp only
    refine ⟨by omega, by omega⟩
  · refine RN.go 12 [.own 0, .own 0, .own 0, .own 0, .own 2, .own 2, .own 2, .own 2] fun _ => RN.ret [.own 2, .own 2, .own 2, .own 2] [] [] (v := .agg #[vI ((bfold pos l k).x0), vI ((bfold pos l k).y0), vI ((bfold pos l k).x1), vI ((bfold pos l k).y1)]) (H' := []) ?_
    have ek : k = l.length - 1 := by omega
    subst ek
    refine ⟨?_, rfl⟩
    unfold bounds
    rw [if_neg (by intro e; simp [circ] at e; rw [e] at h3; simp at h3)]

theorem bounds_any (s : Shp) (pos : V2) (F : HL) (h : ShIn F s) : Sp Tryz.prog 188 #[shV s, .agg #[vI pos.x, vI pos.y]] [] F (fun u H' => u = .agg #[vI (bounds s pos).x0, vI (bounds s pos).y0, vI (bounds s pos).x1, vI (bounds s pos).y1] ∧ H' = []) := by
  cases h with
  | circle r A cap => exact bounds_circle r A cap pos F
  | poly r l b cap h h3 h4 h5 => exact bounds_poly r l b cap pos F h h3 h4 h5
end Go.Proofs.YtlefngomddjahaaGreatDoor
/- Appends, blocks written otherwise, ranges over functions: lazily. -/
namespace Go.Proofs.YtlefngomddjahaaGreatDoor
set_option linter.unusedSimpArgs false
set_option linter.unusedVariables false
open Go.RowKit

/-! ### blocks and tails written otherwise -/
section
variable {r : Option Nat} {P : Program} {N : Nat} {D : List Deferred} {F : HL} {w0 : World} {R : HL} {s : Cfg} {Q : Exit → Act → World → Prop} {hards : List Nat} {Rd : HL}
/-- a block's cells written in another way -/
def dnC (i : Nat) (b : Blk) (s : Cfg) : Cfg := match s with
  | ⟨c, k, L, A, Ts⟩ => ⟨c, k, L, match A[i]? with | some x => setAt A i (x.1, b) | none => A, Ts⟩
theorem setAt_den {A : HL} {i : Nat} {x : Nat × Blk} {b : Blk} (h : A[i]? = some x) (e : x.2.den = b.den) : denL A = denL (setAt A i (x.1, b)) := by
  rw [setAt_eq]
  unfold denL
  rw [List.map_set]
  have h1 : (A.map fun x => (x.1, x.2.den))[i]? = some (x.1, b.den) := by rw [List.getElem?_map, h]; simp [e]
  have hlt : i < (A.map fun x => (x.1, x.2.den)).length := (List.getElem?_eq_some_iff.1 h1).1
  have h2 : (x.1, b.den) = (A.map fun x => (x.1, x.2.den))[i] := ((List.getElem?_eq_some_iff.1 h1).2).symm
  show _ = (A.map fun x => (x.1, x.2.den)).set i (x.1, b.den)
  rw [h2, List.set_getElem_self]
def dnB (i : Nat) (s : Cfg) : Option Obj := (s.A[i]?).map (·.2.den)
theorem RN.dn (i : Nat) (b : Blk) (hk : RN r P N D F w0 R (dnC i b s) Q) (h : dnB i s = some b.den := by kernel_rfl) : RN r P N D F w0 R s Q := by
  refine ⟨fun hR a w h1 h2 h3 => hk.h hR a w h1 ?_ h3⟩
  obtain ⟨c, k, L, A, Ts⟩ := s
  unfold dnB at h
  simp only [Option.map_eq_some_iff] at h
  obtain ⟨x, hx, e⟩ := h
  unfold dnC
  simp only [hx]
  exact h2.denA (setAt_den hx e)
theorem RD.dn (i : Nat) (b : Blk) (hk : RD r P N D F w0 R hards Rd (dnC i b s) Q) (h : dnB i s = some b.den := by kernel_rfl) : RD r P N D F w0 R hards Rd s Q := by
  refine ⟨fun hR hs => ?_⟩
  obtain ⟨c, k, L, A, Ts⟩ := s
  unfold dnB at h
  simp only [Option.map_eq_some_iff] at h
  obtain ⟨x, hx, e⟩ := h
  have h1 := hk.h hR hs
  unfold dnC at h1
  simp only [hx] at h1
  exact TD.den _ (setAt_den hx e) h1
/-- the tails in another order -/
def ptC (jp : List Nat) (s : Cfg) : Cfg := match s with
  | ⟨c, k, L, A, Ts⟩ => ⟨c, k, L, A, jp.filterMap (Ts[·]?)⟩
theorem RN.pt (jp : List Nat) (hk : RN r P N D F w0 R (ptC jp s) Q) (h : jp.isPerm (List.range s.Ts.length) = true := by kernel_rfl) : RN r P N D F w0 R s Q :=
  ⟨fun hR a w h1 h2 h3 => hk.h hR a w h1 (h2.perm ((apT_perm jp h rfl).append_right F)) h3⟩
/-- the blocks in another order -/
def pbC (ip : List Nat) (s : Cfg) : Cfg := match s with
  | ⟨c, k, L, A, Ts⟩ => ⟨c, k, L, ip.filterMap (A[·]?), Ts⟩
theorem RN.pb (ip : List Nat) (hk : RN r P N D F w0 R (pbC ip s) Q) (h : ip.isPerm (List.range s.A.length) = true := by kernel_rfl) : RN r P N D F w0 R s Q := by
  refine ⟨fun hR a w h1 h2 h3 => hk.h hR a w h1 (h2.perm ?_) h3⟩
  have h1 := (List.isPerm_iff.1 h).filterMap (s.A[·]?)
  rw [range_filterMap] at h1
  exact List.Perm.append_right _ (List.Perm.append_right _ h1)
/-- a tail of one block joins the known blocks -/
def otC (j : Nat) (x : Nat × Blk) (s : Cfg) : Cfg := match s with
  | ⟨c, k, L, A, Ts⟩ => ⟨c, k, L, x :: A, (oth [j] Ts.length).filterMap (Ts[·]?)⟩
theorem RN.ot (j : Nat) {x : Nat × Blk} (hk : RN r P N D F w0 R (otC j x s) Q) (h : (s.Ts[j]?, ([j] ++ oth [j] s.Ts.length).isPerm (List.range s.Ts.length)) = (some [x], true) := by kernel_rfl) : RN r P N D F w0 R s Q := by
  simp only [Prod.mk.injEq] at h
  exact ⟨fun hR a w h1 h2 h3 => hk.h hR a w h1 (h2.perm ((openT_perm _ j h.2 h.1 rfl).append_right F)) h3⟩
/-- a tail that a hypothesis opens -/
def otsC (j : Nat) (B : HL) (Bs : List HL) (s : Cfg) : Cfg := match s with
  | ⟨c, k, L, A, Ts⟩ => ⟨c, k, L, B ++ A, Bs ++ (oth [j] Ts.length).filterMap (Ts[·]?)⟩
theorem RN.ots (j : Nat) (B : HL) (Bs : List HL) {T : HL} (e : T = ap B Bs) (hk : RN r P N D F w0 R (otsC j B Bs s) Q) (h : (s.Ts[j]?, ([j] ++ oth [j] s.Ts.length).isPerm (List.range s.Ts.length)) = (some T, true) := by kernel_rfl) : RN r P N D F w0 R s Q := by
  simp only [Prod.mk.injEq] at h
  refine ⟨fun hR a w h1 h2 h3 => hk.h hR a w h1 (h2.perm (List.Perm.append_right F ?_)) h3⟩
  have h3 := (pick_perm s.Ts [j] _ h.2).flatten
  simp only [List.filterMap_cons, h.1, List.filterMap_nil, List.cons_append, List.nil_append, List.flatten_cons] at h3
  show ((B ++ s.A) ++ (Bs ++ (oth [j] s.Ts.length).filterMap (s.Ts[·]?)).flatten).Perm (s.A ++ s.Ts.flatten)
  refine List.Perm.trans ?_ (List.Perm.append_left _ h3)
  subst e
  rw [List.flatten_append]
  show ((B ++ s.A) ++ (Bs.flatten ++ _)).Perm (s.A ++ ((B ++ Bs.flatten) ++ _))
  rw [List.append_assoc, List.append_assoc]
  refine List.perm_append_comm_assoc _ _ _ |>.trans ?_
  exact List.Perm.refl _
/-- two tails become one -/
def jtC (s : Cfg) : Cfg := match s with
  | ⟨c, k, L, A, T1 :: T2 :: Ts⟩ => ⟨c, k, L, A, (T1 ++ T2) :: Ts⟩
  | s => s
theorem RN.jt (hk : RN r P N D F w0 R (jtC s) Q) : RN r P N D F w0 R s Q := by
  refine ⟨fun hR a w h1 h2 h3 => ?_⟩
  have h4 := hk.h hR a w
  unfold jtC at h4
  split at h4
  · exact h4 h1 (by simpa [ap] using h2) h3
  · exact h4 h1 h2 h3
/-- a tail without blocks -/
def ntC (s : Cfg) : Cfg := match s with
  | ⟨c, k, L, A, Ts⟩ => ⟨c, k, L, A, [] :: Ts⟩
theorem RN.nt (hk : RN r P N D F w0 R (ntC s) Q) : RN r P N D F w0 R s Q := ⟨fun hR a w h1 h2 h3 => hk.h hR a w h1 h2 h3⟩
theorem RD.nt (hk : RD r P N D F w0 R hards Rd (ntC s) Q) : RD r P N D F w0 R hards Rd s Q := by
  obtain ⟨c, k, L, A, Ts⟩ := s
  exact ⟨fun hR hs => hk.h hR hs⟩
/-- a slot's value by an equation -/
def svC (t : Nat) (v : Value) (s : Cfg) : Cfg := match s with
  | ⟨c, k, L, A, Ts⟩ => ⟨c, k, (t, v) :: L, A, Ts⟩
theorem RN.sv (t : Nat) {u v : Value} (e : u = v) (hk : RN r P N D F w0 R (svC t v s) Q) (h : s.L.lookup t = some u := by kernel_rfl) : RN r P N D F w0 R s Q := by
  subst e
  exact ⟨fun hR a w h1 h2 h3 => hk.h hR a w (h1.fix h) h2 h3⟩
/-- a block by an equation -/
def bvC (i : Nat) (b : Blk) (s : Cfg) : Cfg := match s with
  | ⟨c, k, L, A, Ts⟩ => ⟨c, k, L, match A[i]? with | some x => setAt A i (x.1, b) | none => A, Ts⟩
theorem RN.bv (i : Nat) {b b' : Blk} (e : b = b') (hk : RN r P N D F w0 R (bvC i b' s) Q) (h : (s.A[i]?).map (·.2) = some b := by kernel_rfl) : RN r P N D F w0 R s Q := by
  subst e
  refine ⟨fun hR a w h1 h2 h3 => hk.h hR a w h1 ?_ h3⟩
  obtain ⟨c, k, L, A, Ts⟩ := s
  simp only [Option.map_eq_some_iff] at h
  obtain ⟨x, hx, e⟩ := h
  unfold bvC
  simp only [hx]
  refine h2.denA (setAt_den hx (by rw [e]))
/-! ### appends -/
variable {α : Type} {e : Enc α} {T : TypeId} {inf : TypeInfo} {z : Value}
/-- the slice, its source (a block that is known), the tail -/
def appV (P : Program) (o : Oper) (L : FL) : Option (Option Addr × Nat × Nat × TypeId × Option Addr × Nat × Nat × TypeId) := match o.guard, o.op with
  | none, .call c => match c.callee, c.args.toList, c.argTypes.toList with
    | .builtin .append, [a1, a2], [t, tx] => match inL L a1 && inL L a2, rho L a1, rho L a2 with
      | true, .slice A n cap, .slice B m c' => match P.underlying t, P.underlying tx with
        | some (.slice T), some (.slice _) => some (A, n, cap, T, B, m, c', tx)
        | _, _ => none
      | _, _, _ => none
    | _, _, _ => none
  | _, _ => none
theorem appV_spec {o : Oper} {L : FL} {A : Option Addr} {n cap : Nat} {B : Option Addr} {m c' : Nat} {tx : TypeId} (h : appV P o L = some (A, n, cap, T, B, m, c', tx)) :
    ∃ a1 a2 t e', o.guard = none ∧ o.op = .call { callee := .builtin .append, args := #[a1, a2], argTypes := #[t, tx] } ∧ (inL L a1 && inL L a2) = true ∧ rho L a1 = .slice A n cap ∧ rho L a2 = .slice B m c' ∧ P.underlying t = some (.slice T) ∧ P.underlying tx = some (.slice e') := by
  unfold appV at h
  split at h
  case h_2 => cases h
  rename_i c hg hop
  split at h
  case h_2 => cases h
  rename_i a1 a2 t tx' h1 h2 h3
  split at h
  case h_2 => cases h
  rename_i A' n' cap' B' m' c2 h4 h5 h6
  split at h
  case h_2 => cases h
  rename_i T' e' h7 h8
  simp only [Option.some.injEq, Prod.mk.injEq] at h
  obtain ⟨e1, e2, e3, e4, e5, e6, e7, e8⟩ := h
  subst e1; subst e2; subst e3; subst e4; subst e5; subst e6; subst e7; subst e8
  refine ⟨a1, a2, t, e', hg, ?_, h4, h5, h6, h7, h8⟩
  obtain ⟨cal, args, ats⟩ := c
  simp only at h1 h2 h3
  subst h1
  have : args = #[a1, a2] := by cases args; simp_all
  subst this
  have : ats = #[t, tx'] := by cases ats; simp_all
  subst this
  exact hop
def opAt (s : Cfg) : Option Oper := match s.c with
  | .ops ops i => ops.toList[i]?
  | _ => none
def opAtD (i : Nat) (s : Cfg) : Option Oper := match s.c with
  | .drw ops _ => ops.toList[i]?
  | _ => none
/-- the p-th block holds the source -/
def srcB (p : Nat) (s : Cfg) : Option (Nat × List Value) := match s.A[p]? with
  | some (b, .lit cs _ _) => some (b, cs)
  | _ => none
def appK (P : Program) (N j p : Nat) (oo : Option Oper) (s : Cfg) : Option (Option Addr × Nat × Nat × TypeId × Nat × List Value × HL × Nat) := match oo with
  | some o => match appV P o s.L, srcB p s, s.Ts[j]?, ([j] ++ oth [j] s.Ts.length).isPerm (List.range s.Ts.length) && (putL N o.dst undef s.L).isSome with
    | some (A, n, cap, T, some ⟨b, 0, none⟩, m, _, _), some (_, cs), some Hl, true => some (A, n, cap, T, m, cs, Hl, b)
    | _, _, _, _ => none
  | none => none
def appX (p : Nat) (s : Cfg) : Nat := match srcB p s with
  | some (b, _) => b
  | none => 0
theorem appK_spec {j p : Nat} {oo : Option Oper} {A : Option Addr} {n cap m : Nat} {cs : List Value} {Hl : HL} (h : appK P N j p oo s = some (A, n, cap, T, m, cs, Hl, appX p s)) :
    ∃ o a1 a2 t tx e' c' b ty fz, oo = some o ∧ o.guard = none ∧ o.op = .call { callee := .builtin .append, args := #[a1, a2], argTypes := #[t, tx] } ∧ (inL s.L a1 && inL s.L a2) = true ∧ rho s.L a1 = .slice A n cap ∧ rho s.L a2 = .slice (some ⟨b, 0, none⟩) m c' ∧ P.underlying t = some (.slice T) ∧ P.underlying tx = some (.slice e') ∧
      s.A[p]? = some (b, .lit cs ty fz) ∧ s.Ts[j]? = some Hl ∧ ([j] ++ oth [j] s.Ts.length).isPerm (List.range s.Ts.length) = true ∧ (putL N o.dst undef s.L).isSome = true := by
  unfold appK at h
  split at h
  case h_2 => cases h
  rename_i o
  split at h
  case h_2 => cases h
  rename_i A' n' cap' T' b m' c' tx b' cs' Hl' h1 h2 h3 h4
  simp only [Option.some.injEq, Prod.mk.injEq] at h
  obtain ⟨e1, e2, e3, e4, e5, e6, e7, e8⟩ := h
  subst e1; subst e2; subst e3; subst e4; subst e5; subst e6; subst e7
  obtain ⟨a1, a2, t, e', q1, q2, q3, q4, q5, q6, q7⟩ := appV_spec h1
  rw [Bool.and_eq_true] at h4
  unfold appX at e8
  rw [h2] at e8
  simp only at e8
  subst e8
  unfold srcB at h2
  split at h2
  case h_2 => cases h2
  rename_i b2 cs2 ty fz h5
  simp only [Option.some.injEq, Prod.mk.injEq] at h2
  obtain ⟨e1, e2⟩ := h2
  subst e1; subst e2
  exact ⟨o, a1, a2, t, tx, e', c', _, ty, fz, rfl, q1, q2, q3, q4, q5, q6, q7, h5, h3, h4.1, h4.2⟩
/-- the tail replaced -/
def rpC (j : Nat) (Hl : HL) (s : Cfg) : Cfg := match s with
  | ⟨c, k, L, A, Ts⟩ => ⟨c, k, L, A, Hl :: (oth [j] Ts.length).filterMap (Ts[·]?)⟩
theorem tail_perm {A : HL} {Ts : List HL} {Hl : HL} {j : Nat} (hj : Ts[j]? = some Hl) (hp : ([j] ++ oth [j] Ts.length).isPerm (List.range Ts.length) = true) : (Hl ++ (A ++ ((oth [j] Ts.length).filterMap (Ts[·]?)).flatten)).Perm (ap A Ts) := by
  have h3 := pick_perm Ts [j] _ hp
  simp only [List.filterMap_cons, hj, List.filterMap_nil] at h3
  have h4 := h3.flatten
  simp only [List.cons_append, List.nil_append, List.flatten_cons] at h4
  refine List.Perm.trans ?_ (List.Perm.append_left A h4)
  rw [← List.append_assoc, ← List.append_assoc]
  exact List.Perm.append_right _ List.perm_append_comm
theorem RN.app (ok : EncOk e P T inf z) (l src : List α) (j p : Nat) {A : Option Addr} {n cap : Nat} {Hl : HL} (hn : n = l.length) (hsl : SlIs e T l A cap Hl) (hb : l.length + src.length ≤ 100000000)
    (hk : ∀ (A' : Option Addr) (cap' : Nat) (Hl' : HL), (SlIs e T (l ++ src) A' cap' Hl' ∧ (zeroOff A → zeroOff A')) → RN r P N D F w0 R (rpC j Hl' (putC N (.slice A' (n + src.length) cap') s)) Q)
    (h : appK P N j p (opAt s) s = some (A, n, cap, T, src.length, cellsE e src, Hl, appX p s) := by kernel_rfl) : RN r P N D F w0 R s Q := by
  obtain ⟨o, a1, a2, t, tx, e', c', b, ty, fz, q0, q1, q2, q3, q4, q5, q6, q7, q8, q9, q10, q11⟩ := appK_spec h
  refine ⟨fun hR a w hF hRel hB => ?_⟩
  obtain ⟨c, k, L, B, Ts⟩ := s
  unfold opAt at q0
  cases c with
  | code c => cases q0
  | ex c => cases q0
  | drw _ _ => cases q0
  | ops ops i =>
    simp only at q0 q3 q4 q5 q8 q9 q10 q11 hF hRel
    have hdrop : ops.toList.drop i = o :: ops.toList.drop (i + 1) := by
      have hlt : i < ops.toList.length := (List.getElem?_eq_some_iff.1 q0).1
      rw [List.drop_eq_getElem_cons hlt, (List.getElem?_eq_some_iff.1 q0).2]
    show wpListIn _ _ _ _ _ _ _ _
    rw [hdrop, wpListIn, if_pos (by simp [Region.wanted, q1])]
    refine ⟨fun _ _ => trivial, ?_⟩
    have hperm := tail_perm (A := B) q9 q10
    refine gives_upon (by rw [q2]; intro c hc; cases hc) (app_gives (x := vS b 0 src.length c') (src := src) (G := B ++ ((oth [j] Ts.length).filterMap (Ts[·]?)).flatten) ok q2 q6 q3 q4 hn q5 hperm hsl (fun w hw => src_lit ok q7 p (by rw [List.getElem?_append_left (List.getElem?_eq_some_iff.1 q8).1]; exact q8) hw) hb a hF w hRel) ?_
    rintro u w' ⟨⟨A', cap', Hl'⟩, ⟨rfl, hsl'⟩, hR', hB'⟩
    obtain ⟨L', p1⟩ := putL_some q11 (.slice A' (n + src.length) cap')
    have hh := (hk A' cap' Hl' hsl').h hR
    have hpc : putC N (.slice A' (n + src.length) cap') ⟨.ops ops i, k, L, B, Ts⟩ = ⟨.ops ops (i + 1), k, L', B, Ts⟩ := by
      unfold putC
      simp only [q0, p1]
    rw [hpc] at hh
    refine hh _ w' (hF.put p1) (hR'.perm (List.Perm.append_right F ?_)) (hB.trans hB')
    show (B ++ (Hl' :: (oth [j] Ts.length).filterMap (Ts[·]?)).flatten).Perm _
    rw [List.flatten_cons, ← List.append_assoc, ← List.append_assoc]
    exact List.Perm.append_right _ List.perm_append_comm
theorem RDO.app {i : Nat} (ix : List Nat) (ok : EncOk e P T inf z) (l src : List α) (j p : Nat) {A : Option Addr} {n cap : Nat} {Hl : HL} (hn : n = l.length) (hsl : SlIs e T l A cap Hl) (hb : l.length + src.length ≤ 100000000)
    (hk : ∀ (A' : Option Addr) (cap' : Nat) (Hl' : HL), (SlIs e T (l ++ src) A' cap' Hl' ∧ (zeroOff A → zeroOff A')) → RD r P N D F w0 R hards Rd (rpC j Hl' (dpC N i (.slice A' (n + src.length) cap') s)) Q)
    (h : appK P N j p (opAtD i s) s = some (A, n, cap, T, src.length, cellsE e src, Hl, appX p s) := by kernel_rfl) (hx : (hards.contains i, rdOf ix s) = (true, Rd) := by kernel_rfl) : RDO r P N D F w0 R hards Rd i s Q := by
  obtain ⟨o, a1, a2, t, tx, e', c', b, ty, fz, q0, q1, q2, q3, q4, q5, q6, q7, q8, q9, q10, q11⟩ := appK_spec h
  obtain ⟨c, k, L, B, Ts⟩ := s
  unfold opAtD at q0
  simp only [Prod.mk.injEq] at hx
  cases c with
  | code c => cases q0
  | ex c => cases q0
  | ops _ _ => cases q0
  | drw ops li =>
    refine ⟨fun hR => ?_⟩
    simp only at q0 q3 q4 q5 q8 q9 q10 q11
    have hperm := tail_perm (A := B) q9 q10
    have hpc : ∀ v L', putL N o.dst v L = some L' → dpC N i v ⟨.drw ops li, k, L, B, Ts⟩ = ⟨.drw ops (setAt li i true), k, L', B, Ts⟩ := by
      intro v L' hl
      unfold dpC
      simp only [q0, hl]
    refine (RDO.give (Q := Q) (by simpa using q0) (σ := Option Addr × Nat × HL) (fun u y => u = .slice y.1 (n + src.length) y.2.1 ∧ (SlIs e T (l ++ src) y.1 y.2.1 y.2.2 ∧ (zeroOff A → zeroOff y.1))) (fun y => ap B (y.2.2 :: (oth [j] Ts.length).filterMap (Ts[·]?))) q11 (fun a hF => ⟨by simp [Region.wanted, q1], fun w hRel hB => ?_⟩) (fun y => ⟨fun hi => ?_, fun hi x hm => List.mem_append_left _ (rd_in ix hx.2 x hm)⟩) ?_ : RDO r P N D F w0 R hards Rd i ⟨.drw ops li, k, L, B, Ts⟩ Q).h hR
    · refine gives_mono (app_gives (x := vS b 0 src.length c') (src := src) (G := B ++ ((oth [j] Ts.length).filterMap (Ts[·]?)).flatten) ok q2 q6 q3 q4 hn q5 hperm hsl (fun w hw => src_lit ok q7 p (by rw [List.getElem?_append_left (List.getElem?_eq_some_iff.1 q8).1]; exact q8) hw) hb a hF w hRel) ?_
      rintro u w' ⟨y, h3, hR', hB'⟩
      refine ⟨y, h3, hR'.perm (List.Perm.append_right F ?_), hB'⟩
      show (B ++ (y.2.2 :: (oth [j] Ts.length).filterMap (Ts[·]?)).flatten).Perm _
      rw [List.flatten_cons, ← List.append_assoc, ← List.append_assoc]
      exact List.Perm.append_right _ List.perm_append_comm
    · exact absurd (List.contains_iff_mem.1 hx.1) hi
    · rintro u ⟨A', cap', Hl'⟩ ⟨rfl, h3⟩ L' hl hs
      have h1 := (hk A' cap' Hl' h3).h hR
      rw [hpc _ L' hl] at h1
      exact h1 hs
end
end Go.Proofs.YtlefngomddjahaaGreatDoor
