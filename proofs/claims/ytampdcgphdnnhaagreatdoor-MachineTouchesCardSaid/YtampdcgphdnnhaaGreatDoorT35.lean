/- Contracts, printed by a program. -/
import Derived.Test.YtampdcgphdnnhaaGreatDoorT34
import Derived.Test.YtampdcgphdnnhaaGreatDoorT09
import Derived.Lib.RowBridge
namespace Go.Proofs.YtampdcgphdnnhaaGreatDoor
set_option linter.unusedSimpArgs false
set_option linter.unusedVariables false
open Go.RowKit
def rg (lo : Int) (n : Nat) : List Int := (List.range n).map fun k : Nat => lo + (k : Int)
theorem rg_succ (lo : Int) (n : Nat) : rg lo (n + 1) = rg lo n ++ [lo + (n : Int)] := by simp [rg, List.range_succ]
theorem rg_len (lo : Int) (n : Nat) : (rg lo n).length = n := by simp [rg]
theorem rg_mem {lo y : Int} {n : Nat} : y ∈ rg lo n ↔ lo ≤ y ∧ y < lo + (n : Int) := by
  unfold rg
  rw [List.mem_map]
  constructor
  · rintro ⟨k, hk, rfl⟩; have := List.mem_range.1 hk; omega
  · intro h; exact ⟨(y - lo).toNat, List.mem_range.2 (by omega), by omega⟩
theorem rg_inc (lo : Int) (n : Nat) : (rg lo n).Pairwise (· < ·) := by
  unfold rg
  rw [List.pairwise_map]
  exact List.pairwise_lt_range.imp fun h => by omega

set_option maxHeartbeats 400000 in
set_option maxRecDepth 100000 in
theorem span_any (l : List Int) (A : Option Addr) (c : Nat) (T : HL) (lo : Int) (n : Nat) (F : HL) (hs : SlIs intE 3 l A c T) (hz : zeroOff A) (hl : l.length ≤ 100000) (hlo : -1000000000 ≤ lo ∧ lo ≤ 2000000000) (hn : n ≤ 1000) : Sp Tryz.prog 39 #[.slice A l.length c, vI lo, vI (lo + (n : Int))] (ap [] [T]) F (fun u H' => ∃ x : List Int × Option Addr × Nat × HL, H' = ap [] [x.2.2.2] ∧ (u = .slice x.2.1 x.1.length x.2.2.1 ∧ SlIs intE 3 x.1 x.2.1 x.2.2.1 x.2.2.2 ∧ zeroOff x.2.1 ∧ x.1 = l ++ rg lo n)) := by
  refine Sp.run Tryz.func39 rfl mn (A := []) (Ts := [T]) rfl fun w0 => ?_
  refine RN.go 13 [] fun _ => RN.loop (σ := Nat × Int × Option Addr × Nat × HL) (fun ⟨k, q, A_, c_, T_⟩ => ⟨[(0, .slice A_ (l.length + k) c_), (2, vI (lo + (n : Int))), (7, vI q)], [], [T_], k ≤ n ∧ q = lo + (k : Int) ∧ SlIs intE 3 (l ++ rg lo k) A_ c_ T_ ∧ zeroOff A_, n - k⟩) (0, lo, A, c, T) [] [0] (⟨Nat.zero_le _, by omega, by simpa [rg] using hs, hz⟩) ?_
  rintro ⟨k, q, A_, c_, T_⟩ ⟨hk_, hq_, hs_, hz_⟩ mt2
  refine RN.go 8 [] fun _ => RN.em (q < lo + (n : Int)) 11 (fun h3 => ?_) fun h3 => ?_
  · refine RN.go 9 [] fun n4 => RN.app intEOk (l ++ rg lo k) [q] 0 0 (by rw [List.length_append, rg_len]) hs_ (by rw [List.length_append, rg_len]; show l.length + k + 1 ≤ 100000000; omega) ?_
    rintro A5 c6 T7 ⟨hs8, hz9⟩
    refine RN.goP 9 [.nw] [I64 (q + 1)] fun _ => ?_
    have hz2 := hz9 hz_
    refine mt2 (k + 1, q + 1, A5, c6, T7) [] [0] ?_
    try dsimp only
    refine ⟨⟨by omega, by omega, ?_, hz2⟩, by omega⟩
    rw [rg_succ, ← List.append_assoc, show lo + (k : Int) = q by omega]
    exact hs8
  · refine RN.go 12 [] fun _ => RN.ret [] [] [0] (v := .slice A_ (l.length + k) c_) (H' := (ap [] [T_])) ?_
    obtain rfl : k = n := by omega
    exact ⟨(l ++ rg lo k, A_, c_, T_), rfl, by rw [List.length_append, rg_len], hs_, hz_, rfl⟩

def opl (M : MemS) (k : Int) : List Int := if 0 ≤ IntKind.i64.wrap (M.get 7 - k) ∧ IntKind.i64.wrap (M.get 7 - k) < 16 then [M.get (16 + IntKind.i64.wrap (M.get 7 - k))] else []
def operL (M : MemS) : List Int := opl M 1 ++ opl M 2
theorem opl_len (M : MemS) (k : Int) : (opl M k).length ≤ 1 := by unfold opl; split <;> simp
theorem operL_len (M : MemS) : (operL M).length ≤ 2 := by have h1 := opl_len M 1; have h2 := opl_len M 2; unfold operL; rw [List.length_append]; omega

set_option maxHeartbeats 400000 in
set_option maxRecDepth 100000 in
theorem opers_any (mb k : Nat) (M : MemS) (T F : HL) (h : MemH mb M k T) (hT : ∀ x ∈ T, x ∈ F) : Sp Tryz.prog 40 #[.iface 38 (vP mb 0)] [] F (fun u H' => ∃ x : List Int × Option Addr × Nat × HL, H' = ap [] [x.2.2.2] ∧ (u = .slice x.2.1 x.1.length x.2.2.1 ∧ SlIs intE 3 x.1 x.2.1 x.2.2.1 x.2.2.2 ∧ zeroOff x.2.1 ∧ x.1 = operL M)) := by
  refine Sp.run Tryz.func40 rfl mn (A := []) (Ts := []) rfl fun w0 => ?_
  refine RN.go 13 [] fun _ => RN.cp (get_any 7 h (fun x hx => ro_ap (hT x hx))) <| RN.go 10 [] fun _ => RN.rounds 2 <| RN.go 25 [] fun _ => RN.em (IntKind.i64.wrap ((M.get 7) - 1) ≥ 0) 18 (fun h1 => ?_) fun h1 => ?_
  · refine RN.go 5 [] fun _ => RN.em (IntKind.i64.wrap ((M.get 7) - 1) < 16) 21 (fun h2 => ?_) fun h2 => ?_
    · refine RN.goP 6 [.nw] [I64 (16 + (IntKind.i64.wrap ((M.get 7) - 1)))] fun _ => RN.cp (get_any (16 + (IntKind.i64.wrap ((M.get 7) - 1))) h (fun x hx => ro_ap (hT x hx))) <| RN.go 1 [] fun n3 => RN.nt <| RN.app intEOk ([]) [M.get (16 + (IntKind.i64.wrap ((M.get 7) - 1)))] 0 0 rfl (SlIs.nil _ _) (Nat.le_of_ble_eq_true rfl) ?_
      rintro A4 c5 T6 ⟨hs7, hz8⟩
      refine RN.go 35 [] fun _ => RN.em (IntKind.i64.wrap ((M.get 7) - 2) ≥ 0) 18 (fun h9 => ?_) fun h9 => ?_
      · refine RN.go 5 [] fun _ => RN.em (IntKind.i64.wrap ((M.get 7) - 2) < 16) 21 (fun h10 => ?_) fun h10 => ?_
        · refine RN.goP 6 [.nw] [I64 (16 + (IntKind.i64.wrap ((M.get 7) - 2)))] fun _ => RN.cp (get_any (16 + (IntKind.i64.wrap ((M.get 7) - 2))) h (fun x hx => ro_ap (hT x hx))) <| RN.go 1 [] fun n11 => RN.app intEOk ([] ++ [M.get (16 + (IntKind.i64.wrap ((M.get 7) - 1)))]) [M.get (16 + (IntKind.i64.wrap ((M.get 7) - 2)))] 0 0 rfl hs7 (Nat.le_of_ble_eq_true rfl) ?_
          rintro A12 c13 T14 ⟨hs15, hz16⟩
          refine RN.go 29 [] fun _ => RN.ret [] [] [0] (v := .slice A12 2 c13) (H' := (ap [] [T14])) ?_
          refine ⟨([] ++ [M.get (16 + (IntKind.i64.wrap ((M.get 7) - 1)))] ++ [M.get (16 + (IntKind.i64.wrap ((M.get 7) - 2)))], A12, c13, T14), rfl, rfl, hs15, (hz16 (hz8 trivial)), ?_⟩
          unfold operL opl
          first | (rw [if_pos (by omega), if_pos (by omega)] <;> rfl) | (rw [if_pos (by omega), if_neg (by omega)] <;> rfl) | (rw [if_neg (by omega), if_pos (by omega)] <;> rfl)
        · refine RN.go 29 [] fun _ => RN.ret [] [] [0] (v := .slice A4 1 c5) (H' := (ap [] [T6])) ?_
          refine ⟨([] ++ [M.get (16 + (IntKind.i64.wrap ((M.get 7) - 1)))], A4, c5, T6), rfl, rfl, hs7, (hz8 trivial), ?_⟩
          unfold operL opl
          first | (rw [if_pos (by omega), if_pos (by omega)] <;> rfl) | (rw [if_pos (by omega), if_neg (by omega)] <;> rfl) | (rw [if_neg (by omega), if_pos (by omega)] <;> rfl)
      · refine RN.go 34 [] fun _ => RN.ret [] [] [0] (v := .slice A4 1 c5) (H' := (ap [] [T6])) ?_
        refine ⟨([] ++ [M.get (16 + (IntKind.i64.wrap ((M.get 7) - 1)))], A4, c5, T6), rfl, rfl, hs7, (hz8 trivial), ?_⟩
        unfold operL opl
        first | (rw [if_pos (by omega), if_pos (by omega)] <;> rfl) | (rw [if_pos (by omega), if_neg (by omega)] <;> rfl) | (rw [if_neg (by omega), if_pos (by omega)] <;> rfl)
    · refine RN.go 35 [] fun _ => RN.em (IntKind.i64.wrap ((M.get 7) - 2) ≥ 0) 18 (fun h17 => ?_) fun h17 => ?_
      · refine RN.go 5 [] fun _ => RN.em (IntKind.i64.wrap ((M.get 7) - 2) < 16) 21 (fun h18 => ?_) fun h18 => ?_
        · refine RN.goP 6 [.nw] [I64 (16 + (IntKind.i64.wrap ((M.get 7) - 2)))] fun _ => RN.cp (get_any (16 + (IntKind.i64.wrap ((M.get 7) - 2))) h (fun x hx => ro_ap (hT x hx))) <| RN.go 1 [] fun n19 => RN.nt <| RN.app intEOk ([]) [M.get (16 + (IntKind.i64.wrap ((M.get 7) - 2)))] 0 0 rfl (SlIs.nil _ _) (Nat.le_of_ble_eq_true rfl) ?_
          rintro A20 c21 T22 ⟨hs23, hz24⟩
          refine RN.go 29 [] fun _ => RN.ret [] [] [0] (v := .slice A20 1 c21) (H' := (ap [] [T22])) ?_
          refine ⟨([] ++ [M.get (16 + (IntKind.i64.wrap ((M.get 7) - 2)))], A20, c21, T22), rfl, rfl, hs23, (hz24 trivial), ?_⟩
          unfold operL opl
          first | (rw [if_pos (by omega), if_pos (by omega)] <;> rfl) | (rw [if_pos (by omega), if_neg (by omega)] <;> rfl) | (rw [if_neg (by omega), if_pos (by omega)] <;> rfl)
        · refine RN.go 29 [] fun _ => RN.nt <| RN.ret [] [] [0] (v := .slice none 0 0) (H' := (ap [] [([] : HL)])) ?_
          exact ⟨([], none, 0, []), rfl, rfl, SlIs.nil _ _, trivial, by unfold operL opl; rw [if_neg (by omega), if_neg (by omega)]; rfl⟩
      · refine RN.go 34 [] fun _ => RN.nt <| RN.ret [] [] [0] (v := .slice none 0 0) (H' := (ap [] [([] : HL)])) ?_
        exact ⟨([], none, 0, []), rfl, rfl, SlIs.nil _ _, trivial, by unfold operL opl; rw [if_neg (by omega), if_neg (by omega)]; rfl⟩
  · refine RN.go 40 [] fun _ => RN.em (IntKind.i64.wrap ((M.get 7) - 2) ≥ 0) 18 (fun h25 => ?_) fun h25 => ?_
    · refine RN.go 5 [] fun _ => RN.em (IntKind.i64.wrap ((M.get 7) - 2) < 16) 21 (fun h26 => ?_) fun h26 => ?_
      · refine RN.goP 6 [.nw] [I64 (16 + (IntKind.i64.wrap ((M.get 7) - 2)))] fun _ => RN.cp (get_any (16 + (IntKind.i64.wrap ((M.get 7) - 2))) h (fun x hx => ro_ap (hT x hx))) <| RN.go 1 [] fun n27 => RN.nt <| RN.app intEOk ([]) [M.get (16 + (IntKind.i64.wrap ((M.get 7) - 2)))] 0 0 rfl (SlIs.nil _ _) (Nat.le_of_ble_eq_true rfl) ?_
        rintro A28 c29 T30 ⟨hs31, hz32⟩
        refine RN.go 29 [] fun _ => RN.ret [] [] [0] (v := .slice A28 1 c29) (H' := (ap [] [T30])) ?_
        refine ⟨([] ++ [M.get (16 + (IntKind.i64.wrap ((M.get 7) - 2)))], A28, c29, T30), rfl, rfl, hs31, (hz32 trivial), ?_⟩
        unfold operL opl
        first | (rw [if_pos (by omega), if_pos (by omega)] <;> rfl) | (rw [if_pos (by omega), if_neg (by omega)] <;> rfl) | (rw [if_neg (by omega), if_pos (by omega)] <;> rfl)
      · refine RN.go 29 [] fun _ => RN.nt <| RN.ret [] [] [0] (v := .slice none 0 0) (H' := (ap [] [([] : HL)])) ?_
        exact ⟨([], none, 0, []), rfl, rfl, SlIs.nil _ _, trivial, by unfold operL opl; rw [if_neg (by omega), if_neg (by omega)]; rfl⟩
    · refine RN.go 34 [] fun _ => RN.nt <| RN.ret [] [] [0] (v := .slice none 0 0) (H' := (ap [] [([] : HL)])) ?_
      exact ⟨([], none, 0, []), rfl, rfl, SlIs.nil _ _, trivial, by unfold operL opl; rw [if_neg (by omega), if_neg (by omega)]; rfl⟩

instance decEx (n : Nat) (xs : List Int) (y : Int) : Decidable (∃ j, j < n ∧ xs.getD j 0 = y) := decidable_of_iff (∃ x : Fin n, xs.getD x.1 0 = y) ⟨fun ⟨x, h⟩ => ⟨x.1, x.2, h⟩, fun ⟨j, h1, h2⟩ => ⟨⟨j, h1⟩, h2⟩⟩

set_option maxHeartbeats 400000 in
set_option maxRecDepth 100000 in
theorem has_blk (b m n cap : Nat) (xs : List Int) (y : Int) (F : HL) (hb : (b, .rows 1 m (rowE intE xs) 3 (0, 0)) ∈ F) (hn : n ≤ m) (hm : n ≤ 100000000) : Sp Tryz.prog 46 #[vS b 0 n cap, vI y] [] F (fun u H' => u = .bool (decide (∃ j, j < n ∧ xs.getD j 0 = y)) ∧ H' = []) := by
  refine Sp.run Tryz.func46 rfl (mc hb mn) (A := []) (Ts := []) rfl fun w0 => ?_
  refine RN.go 12 [] fun _ => RN.loop (σ := Nat) (fun i => ⟨[(0, vS b 0 n cap), (1, vI y), (5, vI (i : Int))], [], [], i ≤ n ∧ ∀ j, j < i → xs.getD j 0 ≠ y, n - i⟩) 0 [] [] (⟨Nat.zero_le _, fun j h => absurd h (Nat.not_lt_zero _)⟩) ?_
  rintro i ⟨hi_, hx_⟩ mt2
  refine RN.go 9 [] fun _ => RN.em ((i : Int) < (n : Int)) 9 (fun h3 => ?_) fun h3 => ?_
  · refine RN.goP 15 [.ix i, .rorow 0 i 0] [(0 + i * 1) = i * 1 + 0 ∧ i < m, (i : Int) = ((i : Nat) : Int) ∧ i < n] fun _ => RN.em (xs.getD i 0 = y) 17 (fun h4 => ?_) fun h4 => ?_
    · refine RN.go 6 [] fun _ => RN.ret [] [] [] (v := .bool true) (H' := []) ?_
      refine ⟨?_, rfl⟩
      rw [decide_eq_true (p := ∃ j, j < n ∧ xs.getD j 0 = y) ⟨i, by omega, by assumption⟩]
    · refine RN.goP 9 [.nw] [I64 ((i : Int) + 1)] fun _ => ?_
      refine mt2 (i + 1) [] [] ?_
      try dsimp only
      refine ⟨⟨by omega, fun j h => ?_⟩, by omega⟩
      rcases Nat.lt_or_ge j i with h1 | h1
      · exact hx_ j h1
      · obtain rfl : j = i := by omega
        assumption
  · refine RN.go 11 [] fun _ => RN.ret [] [] [] (v := .bool false) (H' := []) ?_
    refine ⟨?_, rfl⟩
    rw [decide_eq_false (p := ∃ j, j < n ∧ xs.getD j 0 = y) (fun h => by obtain ⟨j, h1, h2⟩ := h; exact hx_ j (by omega) h2)]

set_option maxHeartbeats 400000 in
set_option maxRecDepth 100000 in
theorem has_nil (A : Option Addr) (cap : Nat) (y : Int) (F : HL) : Sp Tryz.prog 46 #[.slice A 0 cap, vI y] [] F (fun u H' => u = .bool false ∧ H' = []) := by
  refine Sp.run Tryz.func46 rfl mn (A := []) (Ts := []) rfl fun w0 => ?_
  refine RN.go 12 [] fun _ => RN.rounds 1 <| RN.go 20 [] fun _ => ?_
  exact RN.ret [] [] [] ⟨rfl, rfl⟩

theorem hasI_any {l : List Int} {A : Option Addr} {c : Nat} {T : HL} (y : Int) (F : HL) (hs : SlIs intE 3 l A c T) (hz : zeroOff A) (hl : l.length ≤ 100000) (hT : ∀ x ∈ T, x ∈ F) : Sp Tryz.prog 46 #[.slice A l.length c, vI y] [] F (fun u H' => u = .bool (decide (y ∈ l)) ∧ H' = []) := by
  by_cases h : l = []
  · subst h
    exact (has_nil A c y F).mono fun u H' h => ⟨by rw [h.1]; simp, h.2⟩
  · obtain ⟨b, rest, rfl, rfl, hc1⟩ := hs.openL hz (by decide) (List.length_pos_iff.2 h)
    rw [List.length_append] at hc1
    refine (has_blk b c l.length c (l ++ rest) y F (hT _ (List.mem_singleton.2 rfl)) (by omega) (by omega)).mono fun u H' h => ⟨?_, h.2⟩
    rw [h.1]
    congr 1
    apply decide_eq_decide.2
    constructor
    · rintro ⟨j, h1, h2⟩
      rw [List.getD_eq_getElem?_getD, List.getElem?_append_left h1, List.getElem?_eq_getElem h1] at h2
      simp only [Option.getD_some] at h2
      rw [← h2]; exact List.getElem_mem _
    · intro hy
      obtain ⟨j, h1, h2⟩ := List.getElem_of_mem hy
      exact ⟨j, h1, by rw [List.getD_eq_getElem?_getD, List.getElem?_append_left h1, List.getElem?_eq_getElem h1]; simpa using h2⟩
end Go.Proofs.YtampdcgphdnnhaaGreatDoor
/- slices.Sort and slices.Compact at numbers that a function owns. -/
namespace Go.Proofs.YtampdcgphdnnhaaGreatDoor
set_option linter.unusedSimpArgs false
set_option linter.unusedVariables false
open Go.RowKit

theorem cells_int (l : List Int) : cellsE intE l = l.map vI := by
  induction l with
  | nil => rfl
  | cons x l ih =>
    show ((List.range 1).map (intE.cell x)) ++ cellsE intE l = _
    rw [ih]; rfl
theorem den_int (l : List Int) (c : Nat) (h : l.length = c) (T : TypeId) : (Blk.rows 1 c (rowE intE l) T (0, 0)).den = .cells ⟨l.map vI⟩ T (0, 0) := by
  subst h
  show Obj.cells ⟨rowsOf 1 (rowE intE l) l.length⟩ T (0, 0) = _
  have := rows_all (e := intE) l
  rw [cells_int] at this
  rw [show rowsOf 1 (rowE intE l) l.length = rowsOf intE.w (rowE intE l) l.length from rfl, this]
theorem rel_grow {H : HL} {w : World} (h : Rel H w) (os : Array Obj) : Rel H (Go.Sort.grow w os) := ⟨fun x hx => by
  have h1 := h.holds x hx
  show (w.heap ++ os)[x.1]? = _
  rw [Array.getElem?_append_left (lt_of_heap' h1)]
  exact h1, h.nodup⟩
theorem arr_get (l : List Value) (k : Nat) : (⟨l⟩ : Array Value)[k]? = l[k]? := by simp
theorem put_cells (l l2 rest : List Int) (hl : l2.length = l.length) : Go.Sort.putCells (Value.int .i64) 0 l2.toArray ⟨(l ++ rest).map vI⟩ = ⟨(l2 ++ rest).map vI⟩ := by
  apply Array.ext_getElem?
  intro k
  unfold Go.Sort.putCells
  rw [Array.getElem?_mapIdx]
  rw [arr_get, arr_get, List.getElem?_map, List.getElem?_map]
  by_cases hk : k < l.length
  · rw [List.getElem?_append_left hk, List.getElem?_append_left (by omega), List.getElem?_eq_getElem hk, List.getElem?_eq_getElem (by omega)]
    have h2 : 0 ≤ k ∧ k < 0 + l2.toArray.size := ⟨Nat.zero_le _, by simp; omega⟩
    simp only [Option.map_some, if_pos h2, Nat.sub_zero]
    rw [getElem!_pos l2.toArray k (by simp; omega)]
    simp
  · rw [List.getElem?_append_right (by omega), List.getElem?_append_right (by omega), hl]
    cases rest[k - l.length]? with
    | none => rfl
    | some y =>
      have h2 : ¬ (0 ≤ k ∧ k < 0 + l2.toArray.size) := by simp; omega
      simp only [Option.map_some, if_neg h2]
theorem rel_put {b c : Nat} {l l2 rest : List Int} {T : TypeId} {F : HL} {w w' : World} (hl : l2.length = l.length) (hc : l.length + rest.length = c) (hR : Rel ([(b, .rows 1 c (rowE intE (l ++ rest)) T (0, 0))] ++ F) w)
    (hw : w'.heap = (Go.Sort.putRow (Value.int .i64) w b 0 l2.toArray).heap) : Rel ([(b, .rows 1 c (rowE intE (l2 ++ rest)) T (0, 0))] ++ F) w' := by
  have h0 := hR.holds _ (List.mem_append_left _ (List.mem_singleton.2 rfl))
  simp only at h0
  rw [den_int _ _ (by rw [List.length_append]; exact hc)] at h0
  refine hR.upd (p := 0) (b := b) (bl' := .rows 1 c (rowE intE (l2 ++ rest)) T (0, 0)) rfl ?_ ?_
  · rw [hw, den_int _ _ (by rw [List.length_append, hl]; exact hc)]
    show (w.heap.modify b _)[b]? = _
    rw [Array.getElem?_modify, if_pos rfl, h0]
    show some (Obj.cells (Go.Sort.putCells (Value.int .i64) 0 l2.toArray ⟨(l ++ rest).map vI⟩) T (0, 0)) = _
    rw [put_cells l l2 rest hl]
  · intro k hk
    rw [hw]
    show (w.heap.modify b _)[k]? = _
    rw [Array.getElem?_modify, if_neg (fun e => hk e.symm)]
theorem holds_int {b c : Nat} {l rest : List Int} {T : TypeId} {F : HL} {w : World} (hc : l.length + rest.length = c) (hR : Rel ([(b, .rows 1 c (rowE intE (l ++ rest)) T (0, 0))] ++ F) w) : Go.Sort.Holds (Value.int .i64) w b 0 l.toArray := by
  have h0 := hR.holds _ (List.mem_append_left _ (List.mem_singleton.2 rfl))
  simp only at h0
  rw [den_int _ _ (by rw [List.length_append]; exact hc)] at h0
  intro j hj
  have hj' : j < l.length := by simpa using hj
  refine ⟨?_, ?_⟩
  · unfold World.cell?
    simp only [h0, Nat.zero_add]
    rw [if_neg (by simp), arr_get, List.getElem?_map, List.getElem?_append_left hj', List.getElem?_eq_getElem hj', getElem!_pos l.toArray j hj]
    simp
  · unfold World.frozen?
    simp only [h0]
    simp
theorem sl_mk {b c : Nat} {l rest : List Int} {T : TypeId} (hc : l.length + rest.length = c) : SlIs intE T l (some ⟨b, 0, none⟩) c [(b, .rows 1 c (rowE intE (l ++ rest)) T (0, 0))] :=
  .inr ⟨b, 0, l ++ rest, by simp, by rw [Nat.zero_add]; rfl, by rw [Nat.zero_add, List.length_append]; exact hc, by omega, by simp⟩

abbrev srt (l : List Int) : List Int := l.mergeSort fun x y => decide (x ≤ y)
theorem srt_len (l : List Int) : (srt l).length = l.length := List.length_mergeSort _
theorem srt_mem {l : List Int} {x : Int} : x ∈ srt l ↔ x ∈ l := List.mem_mergeSort
theorem srt_sorted (l : List Int) : (srt l).Pairwise (· ≤ ·) := by
  have := List.pairwise_mergeSort (le := fun x y : Int => decide (x ≤ y)) (fun a b c h1 h2 => by simp at *; omega) (fun a b => by simp; omega) l
  exact this.imp fun h => by simpa using h
set_option maxHeartbeats 1000000 in
theorem sort_any (l : List Int) (A : Option Addr) (c : Nat) (T F : HL) (hs : SlIs intE 3 l A c T) (hz : zeroOff A) (hb : l.length ≤ 100000000) : Sp Tryz.prog 42 #[.slice A l.length c] (ap [] [T]) F (fun u H' => ∃ x : HL, H' = ap [] [x] ∧ (u = .tuple #[] ∧ SlIs intE 3 (srt l) A c x)) := by
  intro w hR
  by_cases hl : l = []
  · subst hl
    refine (Tryz.slices_Sort_int_none A c w).mono ?_
    rintro e w' ⟨rfl, rfl⟩
    exact ⟨_, _, rfl, ⟨T, rfl, rfl, by simpa [srt] using hs⟩, hR, Below.refl _ _⟩
  · obtain ⟨b, rest, rfl, rfl, hc⟩ := hs.openL hz (by decide) (List.length_pos_iff.2 hl)
    rw [List.length_append] at hc
    have hR1 : Rel ([(b, .rows 1 c (rowE intE (l ++ rest)) 3 (0, 0))] ++ F) w := by rwa [ap, List.flatten_singleton, List.nil_append] at hR
    have hlt := hR1.lt (List.mem_append_left _ (List.mem_singleton.2 rfl))
    refine (Tryz.slices_Sort_int b 0 c l w (holds_int hc hR1) hlt (by omega)).mono ?_
    rintro e w' ⟨rfl, n, os, rfl⟩
    refine ⟨_, _, rfl, ⟨_, rfl, rfl, sl_mk (l := srt l) (rest := rest) (by rw [srt_len]; exact hc)⟩, ?_, ?_⟩
    · have h2 := rel_grow (rel_put (w' := Go.Sort.putRow (Value.int .i64) (Go.Sort.ahead w n) b 0 (srt l).toArray) (srt_len l) hc hR1 rfl) os
      show Rel (([] ++ [_].flatten) ++ F) _
      rw [List.flatten_singleton, List.nil_append]
      exact h2
    · exact ⟨rfl, rfl, rfl, by show w.heap.size ≤ ((w.heap.modify _ _) ++ os).size; simp, fun k hk => absurd hk (Nat.not_lt_zero _)⟩
set_option maxHeartbeats 1000000 in
theorem cmp_any (l : List Int) (A : Option Addr) (c : Nat) (T F : HL) (hs : SlIs intE 3 l A c T) (hz : zeroOff A) (hb : l.length ≤ 100000000) : Sp Tryz.prog 43 #[.slice A l.length c] (ap [] [T]) F (fun u H' => ∃ x : HL, H' = ap [] [x] ∧ (u = .slice A (Lib.compact l).length c ∧ SlIs intE 3 (Lib.compact l) A c x)) := by
  intro w hR
  by_cases hl : l = []
  · subst hl
    refine (Tryz.slices_Compact_int_empty A c w).mono ?_
    rintro e w' ⟨rfl, rfl⟩
    exact ⟨_, _, rfl, ⟨T, rfl, rfl, hs⟩, hR, Below.refl _ _⟩
  · obtain ⟨b, rest, rfl, rfl, hc⟩ := hs.openL hz (by decide) (List.length_pos_iff.2 hl)
    rw [List.length_append] at hc
    have hR1 : Rel ([(b, .rows 1 c (rowE intE (l ++ rest)) 3 (0, 0))] ++ F) w := by rwa [ap, List.flatten_singleton, List.nil_append] at hR
    have hle := Lib.compact_length_le l
    refine (Tryz.slices_Compact_int b 0 c l w (holds_int hc hR1) (by omega) (by omega)).mono ?_
    rintro e w' ⟨rfl, q, rfl⟩
    have hl2 : (Lib.compact l ++ List.replicate (l.length - (Lib.compact l).length) 0).length = l.length := by rw [List.length_append, List.length_replicate]; omega
    refine ⟨_, _, rfl, ⟨_, rfl, rfl, sl_mk (l := Lib.compact l) (rest := List.replicate (l.length - (Lib.compact l).length) 0 ++ rest) (by rw [List.length_append, List.length_replicate]; omega)⟩, ?_, ?_⟩
    · have h2 := rel_put (w' := Go.Sort.putRow (Value.int .i64) (Go.Sort.ahead w q) b 0 (Lib.compact l ++ List.replicate (l.length - (Lib.compact l).length) 0).toArray) hl2 hc hR1 rfl
      rw [List.append_assoc] at h2
      show Rel (([] ++ [_].flatten) ++ F) _
      rw [List.flatten_singleton, List.nil_append]
      exact h2
    · exact ⟨rfl, rfl, rfl, by show w.heap.size ≤ (w.heap.modify _ _).size; simp, fun k hk => absurd hk (Nat.not_lt_zero _)⟩
theorem cmp_mem {l : List Int} {x : Int} : x ∈ Lib.compact l ↔ x ∈ l := by
  unfold Lib.compact Lib.compactUpTo
  rw [List.mem_map]
  constructor
  · rintro ⟨j, hj, rfl⟩
    have h1 := List.mem_range.1 (List.mem_filter.1 hj).1
    rw [getElem!_pos l.toArray j (by simpa using h1)]
    simp
  · intro h
    obtain ⟨j, hj, rfl⟩ := List.getElem_of_mem h
    have key : ∀ n j : Nat, j < n → (hj : j < l.length) → ∃ a ∈ (List.range l.length).filter (Lib.keeps l.toArray), l.toArray[a]! = l[j] := by
      intro n
      induction n with
      | zero => intro j h; omega
      | succ n ih =>
        intro j hn hj
        by_cases h0 : l.toArray[j]! ≠ l.toArray[j - 1]! ∨ j = 0
        · refine ⟨j, List.mem_filter.2 ⟨List.mem_range.2 hj, ?_⟩, ?_⟩
          · unfold Lib.keeps
            simp only [decide_eq_true_eq]
            exact h0.elim .inr .inl
          · rw [getElem!_pos l.toArray j (by simpa using hj)]; simp
        · have h1 : l.toArray[j]! = l.toArray[j - 1]! := by
            by_cases e : l.toArray[j]! = l.toArray[j - 1]!
            · exact e
            · exact absurd (.inl e) h0
          have h2 : j ≠ 0 := fun e => h0 (.inr e)
          obtain ⟨a, ha, hb⟩ := ih (j - 1) (by omega) (by omega)
          refine ⟨a, ha, ?_⟩
          rw [getElem!_pos l.toArray j (by simpa using hj), getElem!_pos l.toArray (j - 1) (by simp; omega)] at h1
          rw [hb]
          simpa using h1.symm
    exact key (j + 1) j (Nat.lt_succ_self _) hj
theorem cmp_inc {l : List Int} (h : l.Pairwise (· ≤ ·)) : (Lib.compact l).Pairwise (· < ·) := by
  unfold Lib.compact Lib.compactUpTo
  rw [List.pairwise_map]
  have hle : ∀ i j : Nat, i ≤ j → j < l.length → l.toArray[i]! ≤ l.toArray[j]! := by
    intro i j hij hj
    rw [getElem!_pos l.toArray i (by simp; omega), getElem!_pos l.toArray j (by simpa using hj)]
    rcases Nat.lt_or_eq_of_le hij with h1 | h1
    · have := List.pairwise_iff_getElem.1 h i j (by omega) hj h1
      simpa using this
    · subst h1; exact Int.le_refl _
  have hr : (List.range l.length).Pairwise fun i j => i < j ∧ j < l.length := by
    refine List.Pairwise.imp_of_mem (fun {a b} ha hb hab => ⟨hab, List.mem_range.1 hb⟩) List.pairwise_lt_range
  refine (hr.filter (Lib.keeps l.toArray)).imp_of_mem (fun {a b} ha hb hab => ?_)
  have hk := (List.mem_filter.1 hb).2
  unfold Lib.keeps at hk
  simp only [decide_eq_true_eq] at hk
  have h1 := hle a (b - 1) (by omega) (by omega)
  have h2 := hle (b - 1) b (by omega) hab.2
  rcases hk with hk | hk
  · omega
  · have : l.toArray[b]! ≠ l.toArray[b - 1]! := hk
    omega
end Go.Proofs.YtampdcgphdnnhaaGreatDoor
