/- Contracts, printed by a program. -/
import Derived.Test.YtampdcgphdnnhaaGreatDoorT26
namespace Go.Proofs.YtampdcgphdnnhaaGreatDoor
set_option linter.unusedSimpArgs false
set_option linter.unusedVariables false
open Go.RowKit
def cpy (cs : List Int) (i : Nat) : List Int := cs.take i ++ List.replicate (cs.length - i) 0
theorem zrow_irow (n : Nat) : zrow [vI 0] = irow (List.replicate n 0) := by
  funext i k
  rcases k with _ | k
  · have : (List.replicate n (0 : Int)).getD i 0 = 0 := by
      rw [List.getD_eq_getElem?_getD, List.getElem?_replicate]; split <;> rfl
    show vI 0 = vI _
    rw [this]
  · simp [zrow, irow]
theorem cpy_zero (cs : List Int) : zrow [vI 0] = irow (cpy cs 0) := by rw [zrow_irow cs.length]; simp [cpy]
theorem cpy_end (cs : List Int) : cpy cs cs.length = cs := by simp [cpy]
theorem cpy_next {cs : List Int} {i : Nat} (h : i < cs.length) : updG (irow (cpy cs i)) i 0 (vI (cs.getD i 0)) = irow (cpy cs (i + 1)) := by
  rw [irow_set (by simp [cpy]; omega)]
  congr 1
  unfold cpy
  rw [List.set_append_right _ _ (by simp; omega)]
  have e : cs.length - i = (cs.length - (i + 1)) + 1 := by omega
  rw [e, List.replicate_succ, List.take_succ_eq_append_getElem h, List.append_assoc]
  simp [List.length_take, Nat.min_eq_left (Nat.le_of_lt h), h]
theorem MemH.len {mb : Nat} {M : MemS} {k : Nat} {T : HL} (h : MemH mb M k T) : M.cs.length ≤ 1000000 := by
  cases h with
  | mk cb A cap Hl hs hc hl => exact hc
theorem upd_eq {g g' : Nat → Nat → Value} {b w n : Nat} {ty : TypeId} {fz : Nat × Nat} {A : HL} {Ts : List HL} (h : g = g') : ap ((b, .rows w n g ty fz) :: A) Ts = ap ((b, .rows w n g' ty fz) :: A) Ts := h ▸ rfl

set_option maxHeartbeats 400000 in
set_option maxRecDepth 100000 in
theorem len_mem (mb cb n : Nat) (A : Option Addr) (m cap : Nat) (base : Int) (F : HL) (hm : (mb, .lit [vS cb 0 n n, .slice A m cap, vI base] 90 (0, 0)) ∈ F) : Sp Tryz.prog 47 #[vP mb 0] [] F (fun u H' => u = vI (n : Int) ∧ H' = []) := by
  refine Sp.run Tryz.func47 rfl (mc hm mn) (A := []) (Ts := []) rfl fun w0 => ?_
  refine RN.go 15 [.ro 0] fun _ => ?_
  exact RN.ret [] [] [] ⟨rfl, rfl⟩

theorem len_any {mb : Nat} {M : MemS} {k : Nat} {T : HL} {F : HL} (h : MemH mb M k T) (hs : ∀ x ∈ T, x ∈ F) : Sp Tryz.prog 47 #[vP mb 0] [] F (fun u H' => u = vI (M.cs.length : Int) ∧ H' = []) := by
  cases h with
  | mk cb A cap Hl hsl hc hl => exact len_mem mb cb M.cs.length A M.lg.length cap M.base F (hs _ (by simp))

theorem get_nat {M : MemS} {i : Nat} (h : i < M.cs.length) : M.get (i : Int) = M.cs.getD i 0 := by
  unfold MemS.get
  rw [if_pos (by omega), Int.toNat_natCast]

set_option maxHeartbeats 400000 in
set_option maxRecDepth 100000 in
theorem cells_any (mb : Nat) (M : MemS) (k : Nat) (T F : HL) (hM : MemH mb M k T) (hT : ∀ x ∈ T, x ∈ F) : Sp Tryz.prog 23 #[vP mb 0] [] F (fun u H' => ∃ q, H' = ap [(q, .rows 1 M.cs.length (irow M.cs) 3 (0, 0))] [] ∧ u = vS q 0 M.cs.length M.cs.length) := by
  have hl := hM.len
  refine Sp.run Tryz.func23 rfl mn (A := []) (Ts := []) rfl fun w0 => ?_
  refine RN.go 8 [] fun _ => RN.cp (len_any hM (fun x hx => List.mem_append_right _ (hT x hx))) <| RN.goP 8 [.mk M.cs.length M.cs.length] [(M.cs.length : Int) = ((M.cs.length : Nat) : Int) ∧ (M.cs.length : Int) = ((M.cs.length : Nat) : Int) ∧ M.cs.length ≤ M.cs.length ∧ 8 * M.cs.length ≤ 140737488355328 ∧ 1 = 1 ∧ M.cs.length ≤ 9223372036854775807] fun n1 => RN.cp (len_any hM (fun x hx => List.mem_append_right _ (hT x hx))) <| RN.go 4 [] fun _ => RN.bv 0 (congrArg (fun v_ => (.rows 1 M.cs.length v_ 3 (0, 0) : Blk)) (show (zrow [vI 0]) = (irow (cpy M.cs 0)) from (by rw [cpy_zero M.cs]))) <| RN.loop (σ := Nat) (fun i => ⟨[(0, vP mb 0), (3, vS (n1 + 0) 0 M.cs.length M.cs.length), (9, vI (M.cs.length : Int)), (10, vI (i : Int))], [((n1 + 0), .rows 1 M.cs.length (irow (cpy M.cs i)) 3 (0, 0))], [], i ≤ M.cs.length, M.cs.length - i⟩) 0 [0] [] (Nat.zero_le _) ?_
  rintro i hI2 mt3
  refine RN.go 6 [] fun _ => RN.em ((i : Int) < (M.cs.length : Int)) 11 (fun h4 => ?_) fun h4 => ?_
  · refine RN.go 16 [] fun _ => RN.cp (get_any (i : Int) hM (fun x hx => List.mem_append_right _ (hT x hx))) <| RN.goP 9 [.ix i, .row 0 i 0, .nw] [I64 ((i : Int) + 1), (0 + i * 1) = i * 1 + 0 ∧ i < M.cs.length, (i : Int) = ((i : Nat) : Int) ∧ i < M.cs.length] fun _ => RN.bv 0 (congrArg (fun v_ => (.rows 1 M.cs.length v_ 3 (0, 0) : Blk)) (show (updG (irow (cpy M.cs i)) i 0 (vI (M.get (i : Int)))) = (irow (cpy M.cs (i + 1))) from (by rw [← cpy_next (cs := M.cs) (i := i) (by omega)]; rw [get_nat (by omega)]))) ?_
    refine mt3 (i + 1) [0] [] ?_
    try dsimp only
    exact ⟨by omega, by omega⟩
  · refine RN.go 12 [] fun _ => RN.ret [] [0] [] (v := vS (n1 + 0) 0 M.cs.length M.cs.length) (H' := [((n1 + 0), .rows 1 M.cs.length (irow (cpy M.cs i)) 3 (0, 0))]) ?_
    have ei : i = M.cs.length := by omega
    subst ei
    exact ⟨_, by rw [cpy_end]; rfl, rfl⟩

set_option maxHeartbeats 400000 in
set_option maxRecDepth 100000 in
theorem new_any (q : Nat) (cs : List Int) (k cap : Nat) (F : HL) (hq : (q, .rows 1 cs.length (irow cs) 3 (0, 0)) ∈ F) (hc : cs.length ≤ 1000000) (hk : k ≤ 100000000) (hcap : cs.length ≤ cap) : Sp Tryz.prog 10 #[vS q 0 cs.length cap] [] F (fun u H' => ∃ x : Nat × HL, H' = ap [] [x.2] ∧ (u = vP x.1 0 ∧ MemH x.1 ⟨cs, [], 0⟩ k x.2)) := by
  refine Sp.run Tryz.func10 rfl (mc hq mn) (A := []) (Ts := []) rfl fun w0 => ?_
  refine RN.goP 24 [.mk cs.length cs.length] [(cs.length : Int) = ((cs.length : Nat) : Int) ∧ (cs.length : Int) = ((cs.length : Nat) : Int) ∧ cs.length ≤ cs.length ∧ 8 * cs.length ≤ 140737488355328 ∧ 1 = 1 ∧ cs.length ≤ 9223372036854775807] fun n1 => RN.bv 1 (congrArg (fun v_ => (.rows 1 cs.length v_ 3 (0, 0) : Blk)) (show (zrow [vI 0]) = (irow (cpy cs 0)) from (by rw [cpy_zero cs]))) <| RN.loop (σ := Nat) (fun i => ⟨[(0, vS q 0 cs.length cap), (3, vP (n1 + 1) 0), (11, vI (cs.length : Int)), (12, vI (i : Int))], [((n1 + 1), .lit [vS (n1 + 0) 0 cs.length cs.length, .slice none 0 0, vI 0] 90 (0, 0)), ((n1 + 0), .rows 1 cs.length (irow (cpy cs i)) 3 (0, 0))], [], i ≤ cs.length, cs.length - i⟩) 0 [0, 1] [] (Nat.zero_le _) ?_
  rintro i hI2 mt3
  refine RN.go 6 [] fun _ => RN.em ((i : Int) < (cs.length : Int)) 13 (fun h4 => ?_) fun h4 => ?_
  · refine RN.go 11 [] fun _ => RN.draw [10] [] <| RD.goP [] [0, 4, 5, 6, 1, 7, 2, 8, 3, 9] [.ix i, .rorow 0 i 0, .own 0, .ix i] [(i : Int) = ((i : Nat) : Int) ∧ i < cs.length, (0 + i * 1) = i * 1 + 0 ∧ i < cs.length, (i : Int) = ((i : Nat) : Int) ∧ i < cs.length] <| RD.one 10 (RDO.evP [] [.row 1 i 0] [(0 + i * 1) = i * 1 + 0 ∧ i < cs.length] fun _ => ?_)
    refine RD.fin <| RN.goP 6 [.nw] [I64 ((i : Int) + 1)] fun _ => RN.bv 1 (congrArg (fun v_ => (.rows 1 cs.length v_ 3 (0, 0) : Blk)) (show (updG (irow (cpy cs i)) i 0 (vI (cs.getD i 0))) = (irow (cpy cs (i + 1))) from (by rw [← cpy_next (cs := cs) (i := i) (by omega)]))) ?_
    refine mt3 (i + 1) [0, 1] [] ?_
    try dsimp only
    exact ⟨by omega, by omega⟩
  · refine RN.go 12 [] fun _ => RN.ret [] [0, 1] [] (v := vP (n1 + 1) 0) (H' := [((n1 + 1), .lit [vS (n1 + 0) 0 cs.length cs.length, .slice none 0 0, vI 0] 90 (0, 0)), ((n1 + 0), .rows 1 cs.length (irow (cpy cs i)) 3 (0, 0))]) ?_
    have ei : i = cs.length := by omega
    subst ei
    rw [cpy_end]
    have hmm := MemH.mk (mb := (n1 + 1)) (M := ⟨cs, [], 0⟩) (k := k) (n1 + 0) none 0 [] (SlIs.nil _ _) hc (show ([] : List (Int × Int)).length + k ≤ 100000000 by simpa using hk)
    exact ⟨((n1 + 1), _), rfl, rfl, hmm⟩
end Go.Proofs.YtampdcgphdnnhaaGreatDoor
/- Contracts, printed by a program. -/
namespace Go.Proofs.YtampdcgphdnnhaaGreatDoor
set_option linter.unusedSimpArgs false
set_option linter.unusedVariables false
open Go.RowKit
def around (n most : Int) : Int := (if n < 0 then w64 (0 - w64 (n + 1)) else n).tmod most

set_option maxHeartbeats 400000 in
set_option maxRecDepth 100000 in
theorem around_any (n : Int) (most : Int) (h0 : most ≠ 0) (F : HL) : Sp Tryz.prog 13 #[vI n, vI most] [] F (fun u H' => u = vI (around n most) ∧ H' = []) := by
  refine Sp.run Tryz.func13 rfl mn (A := []) (Ts := []) rfl fun w0 => ?_
  refine RN.go 12 [] fun _ => RN.em (n < 0) 6 (fun h1 => ?_) fun h1 => ?_
  · refine RN.goO 16 [.gen, .dv] (fun _ => [most ≠ 0]) (fun _ => (ac h0 an)) fun _ => RN.ret [] [] [] (v := vI ((IntKind.i64.wrap (0 - (IntKind.i64.wrap (n + 1)))).tmod most)) (H' := []) ?_
    exact ⟨by unfold around; simp [*], rfl⟩
  · refine RN.goO 11 [.dv] (fun _ => [most ≠ 0]) (fun _ => (ac h0 an)) fun _ => RN.ret [] [] [] (v := vI (n.tmod most)) (H' := []) ?_
    exact ⟨by unfold around; simp [*], rfl⟩

def boundI (S : Setup) : Int := IntKind.i64.wrap ((IntKind.i64.wrap ((IntKind.i64.wrap ((IntKind.i64.wrap ((IntKind.i64.wrap (S.players + (IntKind.i64.wrap ((IntKind.i64.wrap ((IntKind.i64.wrap (S.players + 1)) + (S.nb : Int))) * (IntKind.i64.wrap (S.fuel + 3)))))) + (IntKind.i64.wrap (2 * (S.nb : Int))))) + 3)) + (IntKind.i64.wrap ((IntKind.i64.wrap ((IntKind.i64.wrap (S.rounds * (S.nb : Int))) * (IntKind.i64.wrap ((S.nb : Int) - 1)))).tdiv 2)))) + (IntKind.i64.wrap ((S.nb : Int) * (IntKind.i64.wrap ((S.nb : Int) + 1)))))

set_option maxHeartbeats 400000 in
set_option maxRecDepth 100000 in
theorem bound_any (S : Setup) (F : HL) : Sp Tryz.prog 12 #[(Setup.v S)] [] F (fun u H' => u = vI (boundI S) ∧ H' = []) := by
  refine Sp.run Tryz.func12 rfl mn (A := []) (Ts := []) rfl fun w0 => ?_
  refine RN.go 54 [.own 0, .own 0, .own 0, .own 0] fun n1 => ?_
  exact RN.ret [] [] [] ⟨rfl, rfl⟩

set_option maxHeartbeats 400000 in
set_option maxRecDepth 100000 in
theorem none_any (F : HL) : Sp Tryz.prog 27 #[] [] F (fun u H' => u = .agg #[.slice none 0 0, vI (-1), vI (-1), vI (-1)] ∧ H' = []) := by
  refine Sp.run Tryz.func27 rfl mn (A := []) (Ts := []) rfl fun w0 => ?_
  refine RN.go 12 [.own 0, .own 0, .own 0, .own 0] fun n1 => ?_
  exact RN.ret [.own 0, .own 0, .own 0, .own 0] [] [] ⟨rfl, rfl⟩

set_option maxHeartbeats 400000 in
set_option maxRecDepth 100000 in
theorem same_yes (qa qb ca cb : Nat) (xs : List Int) (F : HL) (ha : (qa, .rows 1 xs.length (irow xs) 3 (0, 0)) ∈ F) (hb : (qb, .rows 1 xs.length (irow xs) 3 (0, 0)) ∈ F) (hn : xs.length ≤ 1000000) : Sp Tryz.prog 21 #[vS qa 0 xs.length ca, vS qb 0 xs.length cb] [] F (fun u H' => u = .bool true ∧ H' = []) := by
  refine Sp.run Tryz.func21 rfl (mc ha (mc hb mn)) (A := []) (Ts := []) rfl fun w0 => ?_
  refine RN.go 15 [] fun _ => RN.en ((xs.length : Int) = (xs.length : Int)) 10 (fun h1 => ?_) fun h1 => ?_
  · refine RN.go 10 [] fun _ => RN.loop (σ := Nat) (fun i => ⟨[(0, vS qa 0 xs.length ca), (1, vS qb 0 xs.length cb), (5, vI (i : Int))], [], [], i ≤ xs.length, xs.length - i⟩) 0 [] [] (Nat.zero_le _) ?_
    rintro i hI2 mt3
    refine RN.go 9 [] fun _ => RN.em ((i : Int) < (xs.length : Int)) 14 (fun h4 => ?_) fun h4 => ?_
    · refine RN.go 6 [] fun _ => RN.draw [] [] <| RD.goP [] [0, 1, 4, 5, 2, 6, 3, 7, 8] [.ix i, .ix i, .rorow 0 i 0, .rorow 1 i 0] [(0 + i * 1) = i * 1 + 0 ∧ i < xs.length, (0 + i * 1) = i * 1 + 0 ∧ i < xs.length, (i : Int) = ((i : Nat) : Int) ∧ i < xs.length, (i : Int) = ((i : Nat) : Int) ∧ i < xs.length] <| RD.fin <| RN.go 1 [] fun _ => RN.en (xs.getD i 0 = xs.getD i 0) 25 (fun h5 => ?_) fun h5 => ?_
      · refine RN.goP 9 [.nw] [I64 ((i : Int) + 1)] fun _ => ?_
        refine mt3 (i + 1) [] [] ?_
        try dsimp only
        exact ⟨by omega, by omega⟩
      · exact absurd rfl h5
    · refine RN.go 11 [] fun _ => ?_
      exact RN.ret [] [] [] ⟨rfl, rfl⟩
  · exact absurd rfl h1
end Go.Proofs.YtampdcgphdnnhaaGreatDoor
/- Contracts, printed by a program. -/
namespace Go.Proofs.YtampdcgphdnnhaaGreatDoor
set_option linter.unusedSimpArgs false
set_option linter.unusedVariables false
open Go.RowKit
def shK (n : Int) : Int := around n 1000
def shR (n : Int) : Int := w64 (512 * w64 (1 + (w64 ((shK n).tdiv 7)).tmod 5))
def shSq (r : Int) : List V2 := [⟨w64 (0 - r), w64 (0 - r)⟩, ⟨r, w64 (0 - r)⟩, ⟨r, r⟩, ⟨w64 (0 - r), r⟩]
def shTri (r : Int) : List V2 := [⟨w64 (0 - r), w64 (0 - r)⟩, ⟨r, w64 (0 - r)⟩, ⟨0, r⟩]
def shBar (r : Int) : List V2 := [⟨w64 (-2 * r), -300⟩, ⟨w64 (2 * r), -300⟩, ⟨w64 (2 * r), 300⟩, ⟨w64 (-2 * r), 300⟩]
def shapeS (n : Int) : Int × List V2 := if (shK n).tmod 7 = 0 then (shR n, []) else if (shK n).tmod 7 = 1 then (shR n, []) else if (shK n).tmod 7 = 2 then (shR n, []) else if (shK n).tmod 7 = 3 then (0, shSq (shR n)) else if (shK n).tmod 7 = 4 then (0, shSq (shR n)) else if (shK n).tmod 7 = 5 then (0, shTri (shR n)) else (0, shBar (shR n))
/-- what a shape needs lies in T -/
def ShH (s : Shp) (T : HL) : Prop := ∀ F, (∀ x ∈ T, x ∈ F) → ShIn F s
theorem ShH.circle (r : Int) (A : Option Addr) (cap : Nat) : ShH ⟨r, [], A, cap⟩ [] := fun F _ => .circle r A cap
theorem ShH.poly (r : Int) (l : List V2) (b cap : Nat) (h3 : 3 ≤ l.length) (h4 : l.length ≤ cap) (h5 : cap ≤ 1000000) : ShH ⟨r, l, some ⟨b, 0, none⟩, cap⟩ [(b, .rows 2 cap (vrow l) 29 (0, 0))] := fun F h => .poly r l b cap (h _ (by simp)) h3 h4 h5

set_option maxHeartbeats 400000 in
set_option maxRecDepth 100000 in
theorem shapeOf_any (n : Int) (F : HL) : Sp Tryz.prog 24 #[vI n] [] F (fun u H' => ∃ x : Option Addr × Nat × HL, H' = ap [] [x.2.2] ∧ (u = shV ⟨(shapeS n).1, (shapeS n).2, x.1, x.2.1⟩ ∧ ShH ⟨(shapeS n).1, (shapeS n).2, x.1, x.2.1⟩ x.2.2)) := by
  refine Sp.run Tryz.func24 rfl mn (A := []) (Ts := []) rfl fun w0 => ?_
  refine RN.go 8 [] fun n1 => RN.cp (around_any n 1000 (by decide) _) <| RN.go 28 [] fun _ => RN.em ((shK n).tmod 7 = 0) 14 (fun h2 => ?_) fun h2 => ?_
  · refine RN.go 11 [.own 0, .own 0] fun _ => RN.ret [.own 0, .own 0] [] [] (v := .agg #[vI (IntKind.i64.wrap (512 * (IntKind.i64.wrap (1 + ((IntKind.i64.wrap ((shK n).tdiv 7)).tmod 5))))), .slice none 0 0]) (H' := []) ?_
    have e : shapeS n = (shR n, []) := by simp only [shapeS, if_pos h2]
    rw [e]
    exact ⟨(none, 0, []), rfl, rfl, ShH.circle _ _ _⟩
  · refine RN.go 7 [] fun _ => RN.em ((shK n).tmod 7 = 1) 14 (fun h3 => ?_) fun h3 => ?_
    · refine RN.go 11 [.own 0, .own 0] fun _ => RN.ret [.own 0, .own 0] [] [] (v := .agg #[vI (IntKind.i64.wrap (512 * (IntKind.i64.wrap (1 + ((IntKind.i64.wrap ((shK n).tdiv 7)).tmod 5))))), .slice none 0 0]) (H' := []) ?_
      have e : shapeS n = (shR n, []) := by simp only [shapeS, if_neg h2, if_pos h3]
      rw [e]
      exact ⟨(none, 0, []), rfl, rfl, ShH.circle _ _ _⟩
    · refine RN.go 6 [] fun _ => RN.em ((shK n).tmod 7 = 2) 14 (fun h4 => ?_) fun h4 => ?_
      · refine RN.go 8 [.own 0, .own 0] fun _ => RN.ret [.own 0, .own 0] [] [] (v := .agg #[vI (IntKind.i64.wrap (512 * (IntKind.i64.wrap (1 + ((IntKind.i64.wrap ((shK n).tdiv 7)).tmod 5))))), .slice none 0 0]) (H' := []) ?_
        have e : shapeS n = (shR n, []) := by simp only [shapeS, if_neg h2, if_neg h3, if_pos h4]
        rw [e]
        exact ⟨(none, 0, []), rfl, rfl, ShH.circle _ _ _⟩
      · refine RN.go 8 [] fun _ => RN.em ((shK n).tmod 7 = 3) 20 (fun h5 => ?_) fun h5 => ?_
        · refine RN.go 27 [.own 1, .own 1] fun n6 => RN.dn 0 (.rows 2 4 (vrow (shSq (shR n))) 29 (0, 0)) <| RN.ret [.own 1, .own 1] [0] [] (v := .agg #[vI 0, vS (n6 + 0) 0 4 4]) (H' := [((n6 + 0), .rows 2 4 (vrow (shSq (shR n))) 29 (0, 0))]) ?_
          have e : shapeS n = (0, shSq (shR n)) := by simp only [shapeS, if_neg h2, if_neg h3, if_neg h4, if_pos h5]
          rw [e]
          exact ⟨(some ⟨(n6 + 0), 0, none⟩, 4, _), rfl, rfl, ShH.poly 0 (shSq (shR n)) (n6 + 0) 4 (Nat.le_of_ble_eq_true rfl) (Nat.le_of_ble_eq_true rfl) (by decide)⟩
        · refine RN.go 6 [] fun _ => RN.em ((shK n).tmod 7 = 4) 20 (fun h7 => ?_) fun h7 => ?_
          · refine RN.go 24 [.own 1, .own 1] fun n8 => RN.dn 0 (.rows 2 4 (vrow (shSq (shR n))) 29 (0, 0)) <| RN.ret [.own 1, .own 1] [0] [] (v := .agg #[vI 0, vS (n8 + 0) 0 4 4]) (H' := [((n8 + 0), .rows 2 4 (vrow (shSq (shR n))) 29 (0, 0))]) ?_
            have e : shapeS n = (0, shSq (shR n)) := by simp only [shapeS, if_neg h2, if_neg h3, if_neg h4, if_neg h5, if_pos h7]
            rw [e]
            exact ⟨(some ⟨(n8 + 0), 0, none⟩, 4, _), rfl, rfl, ShH.poly 0 (shSq (shR n)) (n8 + 0) 4 (Nat.le_of_ble_eq_true rfl) (Nat.le_of_ble_eq_true rfl) (by decide)⟩
          · refine RN.go 7 [] fun _ => RN.em ((shK n).tmod 7 = 5) 41 (fun h9 => ?_) fun h9 => ?_
            · refine RN.go 19 [.own 1, .own 1] fun n10 => RN.dn 0 (.rows 2 3 (vrow (shTri (shR n))) 29 (0, 0)) <| RN.ret [.own 1, .own 1] [0] [] (v := .agg #[vI 0, vS (n10 + 0) 0 3 3]) (H' := [((n10 + 0), .rows 2 3 (vrow (shTri (shR n))) 29 (0, 0))]) ?_
              have e : shapeS n = (0, shTri (shR n)) := by simp only [shapeS, if_neg h2, if_neg h3, if_neg h4, if_neg h5, if_neg h7, if_pos h9]
              rw [e]
              exact ⟨(some ⟨(n10 + 0), 0, none⟩, 3, _), rfl, rfl, ShH.poly 0 (shTri (shR n)) (n10 + 0) 3 (Nat.le_of_ble_eq_true rfl) (Nat.le_of_ble_eq_true rfl) (by decide)⟩
            · refine RN.go 23 [.own 1, .own 1] fun n11 => RN.dn 0 (.rows 2 4 (vrow (shBar (shR n))) 29 (0, 0)) <| RN.ret [.own 1, .own 1] [0] [] (v := .agg #[vI 0, vS (n11 + 0) 0 4 4]) (H' := [((n11 + 0), .rows 2 4 (vrow (shBar (shR n))) 29 (0, 0))]) ?_
              have e : shapeS n = (0, shBar (shR n)) := by simp only [shapeS, if_neg h2, if_neg h3, if_neg h4, if_neg h5, if_neg h7, if_neg h9]
              rw [e]
              exact ⟨(some ⟨(n11 + 0), 0, none⟩, 4, _), rfl, rfl, ShH.poly 0 (shBar (shR n)) (n11 + 0) 4 (Nat.le_of_ble_eq_true rfl) (Nat.le_of_ble_eq_true rfl) (by decide)⟩
end Go.Proofs.YtampdcgphdnnhaaGreatDoor
/- Contracts, printed by a program. -/
namespace Go.Proofs.YtampdcgphdnnhaaGreatDoor
set_option linter.unusedSimpArgs false
set_option linter.unusedVariables false
open Go.RowKit
theorem bodyAt_in {S : Setup} (h : SetN S) {i : Nat} (hi : i < S.nb) : 0 ≤ bodyAt S i ∧ bodyAt S i + 8 ≤ sizeOf S ∧ sizeOf S ≤ 20000000 := by
  have := h.pl
  have := h.nb
  unfold bodyAt sizeOf
  rw [if_neg (by omega), if_neg (by omega)]
  omega
theorem sizeOf_bd {S : Setup} (h : SetN S) : 48 ≤ sizeOf S ∧ sizeOf S ≤ 20000000 := by
  have := h.pl
  have := h.nb
  unfold sizeOf
  omega
def iniL (S : Setup) : Nat → List Int
  | 0 => List.replicate (sizeOf S).toNat 0
  | i + 1 => ((((((iniL S i).set (bodyAt S i).toNat (S.body i).mot.px).set (bodyAt S i + 1).toNat (S.body i).mot.py).set (bodyAt S i + 2).toNat (S.body i).mot.vx).set (bodyAt S i + 3).toNat (S.body i).mot.vy).set (bodyAt S i + 4).toNat (S.body i).a).set (bodyAt S i + 5).toNat (S.body i).b
theorem iniL_len (S : Setup) : ∀ i, (iniL S i).length = (sizeOf S).toNat
  | 0 => by simp [iniL]
  | i + 1 => by simp [iniL, iniL_len S i]
theorem iniL_next {S : Setup} (h : SetN S) {i : Nat} (hi : i < S.nb) : updG (updG (updG (updG (updG (updG (irow (iniL S i)) (bodyAt S i).toNat 0 (vI (S.body i).mot.px)) (bodyAt S i + 1).toNat 0 (vI (S.body i).mot.py)) (bodyAt S i + 2).toNat 0 (vI (S.body i).mot.vx)) (bodyAt S i + 3).toNat 0 (vI (S.body i).mot.vy)) (bodyAt S i + 4).toNat 0 (vI (S.body i).a)) (bodyAt S i + 5).toNat 0 (vI (S.body i).b) = irow (iniL S (i + 1)) := by
  have := bodyAt_in h hi
  rw [irow_set, irow_set, irow_set, irow_set, irow_set, irow_set, iniL] <;> (simp only [List.length_set, iniL_len]; omega)

set_option maxHeartbeats 1000000 in
set_option maxRecDepth 100000 in
theorem rinit_any (S : Setup) (F : HL) (hS : SetIn F S) : Sp Tryz.prog 11 #[(Setup.v S)] [] F (fun u H' => ∃ q, H' = ap [(q, .rows 1 (sizeOf S).toNat (irow (iniL S S.nb)) 3 (0, 0))] [] ∧ u = vS q 0 (sizeOf S).toNat (sizeOf S).toNat) := by
  have hp := hS.pl
  have hn := hS.nb
  have hr := hS.room
  have hz := sizeOf_bd hS.toSetN
  refine Sp.run Tryz.func11 rfl (mc hS.blk mn) (A := []) (Ts := []) rfl fun w0 => ?_
  refine RN.go 9 (ow 0 16) fun n1 => RN.cp (rsize_any S _ hS.toSetN) <| RN.goP 11 [.mk ((sizeOf S).toNat) ((sizeOf S).toNat)] [sizeOf S = (((sizeOf S).toNat : Nat) : Int) ∧ sizeOf S = (((sizeOf S).toNat : Nat) : Int) ∧ (sizeOf S).toNat ≤ (sizeOf S).toNat ∧ 8 * ((sizeOf S).toNat) ≤ 140737488355328 ∧ 1 = 1 ∧ (sizeOf S).toNat ≤ 9223372036854775807] fun n2 => RN.bv 0 (congrArg (fun v_ => (.rows 1 ((sizeOf S).toNat) v_ 3 (0, 0) : Blk)) (show (zrow [vI 0]) = (irow (iniL S 0)) from (by rw [zrow_irow (sizeOf S).toNat] <;> rfl))) <| RN.loop (σ := Nat) (fun i => ⟨[(1, vP (n1 + 0) 0), (3, vS (n2 + 0) 0 ((sizeOf S).toNat) ((sizeOf S).toNat)), (4, vI (i : Int))], [((n2 + 0), .rows 1 ((sizeOf S).toNat) (irow (iniL S i)) 3 (0, 0)), ((n1 + 0), .lit (Setup.l S) 31 (0, 0))], [], i ≤ S.nb, S.nb - i⟩) 0 [0, 1] [] (Nat.zero_le _) ?_
  rintro i hI3 mt4
  refine RN.go 10 [.own 1] fun _ => RN.em ((i : Int) < (S.nb : Int)) 14 (fun h5 => ?_) fun h5 => ?_
  · have hbi := bodyAt_in hS.toSetN (i := i) (by omega)
    refine RN.go 9 (ow 1 16) fun _ => RN.cp (rbody_any S (i : Int) _ hS.toSetN) ?_
    have hb6 := bodyAt_bd hS.toSetN (i : Int)
    refine RN.goP 92 ([.own 1, .ix i, .rorow 0 (S.bo + i) 0, .rorow 0 (S.bo + i) 1, .rorow 0 (S.bo + i) 2, .rorow 0 (S.bo + i) 3, .rorow 0 (S.bo + i) 4, .rorow 0 (S.bo + i) 5, .rorow 0 (S.bo + i) 6, .rorow 0 (S.bo + i) 7, .rorow 0 (S.bo + i) 8] ++ ow 0 10 ++ [.ix ((bodyAt S (i : Int)).toNat), .row 1 ((bodyAt S (i : Int)).toNat) 0, .nw, .own 0, .ix (((bodyAt S (i : Int)) + 1).toNat), .row 1 (((bodyAt S (i : Int)) + 1).toNat) 0, .nw, .own 0, .ix (((bodyAt S (i : Int)) + 2).toNat), .row 1 (((bodyAt S (i : Int)) + 2).toNat) 0, .nw, .own 0, .ix (((bodyAt S (i : Int)) + 3).toNat), .row 1 (((bodyAt S (i : Int)) + 3).toNat) 0, .nw, .own 0, .ix (((bodyAt S (i : Int)) + 4).toNat), .row 1 (((bodyAt S (i : Int)) + 4).toNat) 0, .nw, .own 0, .ix (((bodyAt S (i : Int)) + 5).toNat), .row 1 (((bodyAt S (i : Int)) + 5).toNat) 0, .nw]) [I64 ((i : Int) + 1), (0 + (((bodyAt S (i : Int)) + 5).toNat) * 1) = (((bodyAt S (i : Int)) + 5).toNat) * 1 + 0 ∧ (((bodyAt S (i : Int)) + 5).toNat) < ((sizeOf S).toNat), (bodyAt S (i : Int)) + 5 = ((((bodyAt S (i : Int)) + 5).toNat : Nat) : Int) ∧ ((bodyAt S (i : Int)) + 5).toNat < ((sizeOf S).toNat), I64 ((bodyAt S (i : Int)) + 5), (0 + (((bodyAt S (i : Int)) + 4).toNat) * 1) = (((bodyAt S (i : Int)) + 4).toNat) * 1 + 0 ∧ (((bodyAt S (i : Int)) + 4).toNat) < ((sizeOf S).toNat), (bodyAt S (i : Int)) + 4 = ((((bodyAt S (i : Int)) + 4).toNat : Nat) : Int) ∧ ((bodyAt S (i : Int)) + 4).toNat < ((sizeOf S).toNat), I64 ((bodyAt S (i : Int)) + 4), (0 + (((bodyAt S (i : Int)) + 3).toNat) * 1) = (((bodyAt S (i : Int)) + 3).toNat) * 1 + 0 ∧ (((bodyAt S (i : Int)) + 3).toNat) < ((sizeOf S).toNat), (bodyAt S (i : Int)) + 3 = ((((bodyAt S (i : Int)) + 3).toNat : Nat) : Int) ∧ ((bodyAt S (i : Int)) + 3).toNat < ((sizeOf S).toNat), I64 ((bodyAt S (i : Int)) + 3), (0 + (((bodyAt S (i : Int)) + 2).toNat) * 1) = (((bodyAt S (i : Int)) + 2).toNat) * 1 + 0 ∧ (((bodyAt S (i : Int)) + 2).toNat) < ((sizeOf S).toNat), (bodyAt S (i : Int)) + 2 = ((((bodyAt S (i : Int)) + 2).toNat : Nat) : Int) ∧ ((bodyAt S (i : Int)) + 2).toNat < ((sizeOf S).toNat), I64 ((bodyAt S (i : Int)) + 2), (0 + (((bodyAt S (i : Int)) + 1).toNat) * 1) = (((bodyAt S (i : Int)) + 1).toNat) * 1 + 0 ∧ (((bodyAt S (i : Int)) + 1).toNat) < ((sizeOf S).toNat), (bodyAt S (i : Int)) + 1 = ((((bodyAt S (i : Int)) + 1).toNat : Nat) : Int) ∧ ((bodyAt S (i : Int)) + 1).toNat < ((sizeOf S).toNat), I64 ((bodyAt S (i : Int)) + 1), (0 + ((bodyAt S (i : Int)).toNat) * 1) = ((bodyAt S (i : Int)).toNat) * 1 + 0 ∧ ((bodyAt S (i : Int)).toNat) < ((sizeOf S).toNat), bodyAt S (i : Int) = (((bodyAt S (i : Int)).toNat : Nat) : Int) ∧ (bodyAt S (i : Int)).toNat < ((sizeOf S).toNat), ((S.bo * 9 + i * 9) + 8) = (S.bo + i) * 9 + 8 ∧ (S.bo + i) < S.bR, ((S.bo * 9 + i * 9) + 7) = (S.bo + i) * 9 + 7 ∧ (S.bo + i) < S.bR, ((S.bo * 9 + i * 9) + 6) = (S.bo + i) * 9 + 6 ∧ (S.bo + i) < S.bR, ((S.bo * 9 + i * 9) + 5) = (S.bo + i) * 9 + 5 ∧ (S.bo + i) < S.bR, ((S.bo * 9 + i * 9) + 4) = (S.bo + i) * 9 + 4 ∧ (S.bo + i) < S.bR, ((S.bo * 9 + i * 9) + 3) = (S.bo + i) * 9 + 3 ∧ (S.bo + i) < S.bR, ((S.bo * 9 + i * 9) + 2) = (S.bo + i) * 9 + 2 ∧ (S.bo + i) < S.bR, ((S.bo * 9 + i * 9) + 1) = (S.bo + i) * 9 + 1 ∧ (S.bo + i) < S.bR, (S.bo * 9 + i * 9) = (S.bo + i) * 9 + 0 ∧ (S.bo + i) < S.bR, (i : Int) = ((i : Nat) : Int) ∧ i < S.nb] fun n7 => RN.bv 1 (congrArg (fun v_ => (.rows 1 ((sizeOf S).toNat) v_ 3 (0, 0) : Blk)) (show (updG (updG (updG (updG (updG (updG (irow (iniL S i)) ((bodyAt S (i : Int)).toNat) 0 (vI ((S.bods.getD (S.bo + i) dB).mot.px))) (((bodyAt S (i : Int)) + 1).toNat) 0 (vI ((S.bods.getD (S.bo + i) dB).mot.py))) (((bodyAt S (i : Int)) + 2).toNat) 0 (vI ((S.bods.getD (S.bo + i) dB).mot.vx))) (((bodyAt S (i : Int)) + 3).toNat) 0 (vI ((S.bods.getD (S.bo + i) dB).mot.vy))) (((bodyAt S (i : Int)) + 4).toNat) 0 (vI ((S.bods.getD (S.bo + i) dB).a))) (((bodyAt S (i : Int)) + 5).toNat) 0 (vI ((S.bods.getD (S.bo + i) dB).b))) = (irow (iniL S (i + 1))) from (by rw [← iniL_next hS.toSetN (i := i) (by omega)] <;> kernel_rfl))) ?_
    refine mt4 (i + 1) [1, 2] [] ?_
    try dsimp only
    exact ⟨by omega, by omega⟩
  · refine RN.go 12 [] fun _ => RN.ret [] [0] [] (v := vS (n2 + 0) 0 ((sizeOf S).toNat) ((sizeOf S).toNat)) (H' := [((n2 + 0), .rows 1 ((sizeOf S).toNat) (irow (iniL S i)) 3 (0, 0))]) ?_
    have ei : i = S.nb := by omega
    subst ei
    exact ⟨_, rfl, rfl⟩
end Go.Proofs.YtampdcgphdnnhaaGreatDoor
/- Contracts, printed by a program. -/
namespace Go.Proofs.YtampdcgphdnnhaaGreatDoor
set_option linter.unusedSimpArgs false
set_option linter.unusedVariables false
open Go.RowKit
def intE : Enc Int := ⟨1, fun p k => match k with | 0 => vI p | _ => vI p, 0⟩
noncomputable def intEI : TypeInfo := match Tryz.prog.info? 3 with | some i => i | none => ⟨.bool, "", 0, 0, false, 0, 0, none, false, #[]⟩
noncomputable def intEZ : Value := match intEI.zero with | some z => z | none => .bool false
theorem intEOk : EncOk intE Tryz.prog 3 intEI intEZ where
  info := by kernel_rfl
  zero := by kernel_rfl
  size := by kernel_rfl
  zsize := by kernel_rfl
  zcell := fun k hk => by
    have h : ∀ k < 1, intEZ.cells[k]? = some (intE.cell intE.dflt k) := by intro k hk; (iterate 1 (rcases k with _ | k; · kernel_rfl)); omega
    exact h k hk
  one := fun x k => by unfold intE; dsimp only; split <;> rfl
  bytes := Nat.le_of_ble_eq_true (by kernel_rfl)

abbrev i64r (n : Int) : Prop := -9223372036854775808 ≤ n ∧ n ≤ 9223372036854775807
theorem around_bd {n : Int} (hn : i64r n) (most : Int) (h : 0 < most) : 0 ≤ around n most ∧ around n most < most := by
  unfold around
  have hx : 0 ≤ (if n < 0 then w64 (0 - w64 (n + 1)) else n) := by
    split
    · rw [w64_id (x := n + 1) (by omega), w64_id (by omega)]; omega
    · omega
  exact ⟨Int.tmod_nonneg _ hx, Int.tmod_lt_of_pos _ h⟩
/-- a caller's list of numbers -/
inductive ArgL (F : HL) : Option Addr → Nat → List Int → Prop
  | zero (A : Option Addr) : ArgL F A 0 []
  | cells (q o N : Nat) (g : Nat → Nat → Value) (ty : TypeId) (fz : Nat × Nat) (xs : List Int) (hq : (q, .rows 1 N g ty fz) ∈ F) (ho : o + xs.length ≤ N) (hx : ∀ k, k < xs.length → g (o + k) 0 = vI (xs.getD k 0)) (hb : ∀ k, k < xs.length → i64r (xs.getD k 0)) : ArgL F (some ⟨q, o, none⟩) xs.length xs
theorem ArgL.up {F X : HL} {A : Option Addr} {n : Nat} {xs : List Int} (h : ArgL F A n xs) : ArgL (X ++ F) A n xs := by
  cases h with
  | zero => exact .zero _
  | cells q o N g ty fz xs hq ho hx hb => exact .cells q o N g ty fz xs (List.mem_append_right _ hq) ho hx hb
theorem ArgL.len {F : HL} {A : Option Addr} {n : Nat} {xs : List Int} (h : ArgL F A n xs) : xs.length = n := by
  cases h <;> rfl
theorem ArgL.at {F : HL} {A : Option Addr} {n : Nat} {xs : List Int} (h : ArgL F A n xs) {k : Nat} (hk : k < n) : ∃ q o N g ty fz, A = some ⟨q, o, none⟩ ∧ (q, .rows 1 N g ty fz) ∈ F ∧ o + k < N ∧ g (o + k) 0 = vI (xs.getD k 0) ∧ i64r (xs.getD k 0) := by
  cases h with
  | zero => omega
  | cells q o N g ty fz xs hq ho hx hb => exact ⟨q, o, N, g, ty, fz, rfl, hq, by omega, hx k hk, hb k hk⟩
def kv (xs : List Int) (i : Nat) : Int := if i < xs.length then around (xs.getD i 0) 1000000 else 0
theorem kv_bd {F : HL} {A : Option Addr} {n : Nat} {xs : List Int} (h : ArgL F A n xs) (i : Nat) : 0 ≤ kv xs i ∧ kv xs i < 1000000 := by
  unfold kv
  split
  · next hi =>
    rw [h.len] at hi
    obtain ⟨_, _, _, _, _, _, _, _, _, _, hr⟩ := h.at hi
    exact around_bd hr 1000000 (by decide)
  · omega
def ks (xs : List Int) (n : Nat) : List Int := (List.range n).map (kv xs)
theorem ks_len (xs : List Int) (n : Nat) : (ks xs n).length = n := by simp [ks]
theorem ks_succ (xs : List Int) (n : Nat) : ks xs (n + 1) = ks xs n ++ [kv xs n] := by simp [ks, List.range_succ]
theorem ks_get {xs : List Int} {n i : Nat} (h : i < n) : (ks xs n).getD i 0 = kv xs i := by simp [ks, h]
end Go.Proofs.YtampdcgphdnnhaaGreatDoor
