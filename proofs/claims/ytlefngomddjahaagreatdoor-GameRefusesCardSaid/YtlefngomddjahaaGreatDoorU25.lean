/- Contracts, printed by a program. -/
import Derived.Test.YtlefngomddjahaaGreatDoorU24
import Derived.Test.YtlefngomddjahaaGreatDoorU10
namespace Go.Proofs.YtlefngomddjahaaGreatDoor
set_option linter.unusedSimpArgs false
set_option linter.unusedVariables false
open Go.RowKit
def around (n most : Int) : Int := (if n < 0 then w64 (0 - w64 (n + 1)) else n).tmod most

set_option maxHeartbeats 400000 in
set_option maxRecDepth 100000 in
theorem around_any (n : Int) (most : Int) (h0 : most ≠ 0) (F : HL) : Sp Tryz.prog 13 #[vI n, vI most] [] F (fun u H' => u = vI (around n most) ∧ H' = []) := by
  refine Sp.run Tryz.func13 rfl mn (A := []) (Ts := []) rfl fun w0 => ?_
  refine RN.go 12 [] fun _ => RN.em (n < 0) 6 (fun h1 => ?_) fun h1 => ?_
  · refine RN.goO 16 [.gen, .dv] (fun _ => [most ≠ 0]) (fun _ => (ac h0 an)) fun _ => RN.ret [] [] [] (v := vI ((IntKind.i64.wrap (0 - (IntKind.i64.wrap (n + 1)))).tmod most)) (H' := []) ?_
    exact ⟨by unfold around; simp [*], rfl⟩
  · refine RN.goO 11 [.dv] (fun _ => [most ≠ 0]) (fun _ => (ac h0 an)) fun _ => RN.ret [] [] [] (v := vI (n.tmod most)) (H' := []) ?_
    exact ⟨by unfold around; simp [*], rfl⟩

set_option maxHeartbeats 400000 in
set_option maxRecDepth 100000 in
theorem same_yes (qa qb ca cb : Nat) (xs : List Int) (F : HL) (ha : (qa, .rows 1 xs.length (irow xs) 3 (0, 0)) ∈ F) (hb : (qb, .rows 1 xs.length (irow xs) 3 (0, 0)) ∈ F) (hn : xs.length ≤ 1000000) : Sp Tryz.prog 19 #[vS qa 0 xs.length ca, vS qb 0 xs.length cb] [] F (fun u H' => u = .bool true ∧ H' = []) := by
  refine Sp.run Tryz.func19 rfl (mc ha (mc hb mn)) (A := []) (Ts := []) rfl fun w0 => ?_
  refine RN.go 15 [] fun _ => RN.en ((xs.length : Int) = (xs.length : Int)) 10 (fun h1 => ?_) fun h1 => ?_
  · refine RN.go 10 [] fun _ => RN.loop (σ := Nat) (fun i => ⟨[(0, vS qa 0 xs.length ca), (1, vS qb 0 xs.length cb), (5, vI (i : Int))], [], [], i ≤ xs.length, xs.length - i⟩) 0 [] [] (Nat.zero_le _) ?_
    rintro i hI2 mt3
    refine RN.go 9 [] fun _ => RN.em ((i : Int) < (xs.length : Int)) 14 (fun h4 => ?_) fun h4 => ?_
    · refine RN.go 6 [] fun _ => RN.draw [] [] <| RD.goP [] [0, 1, 4, 5, 2, 6, 3, 7, 8] [.ix i, .ix i, .rorow 0 i 0, .rorow 1 i 0] [(0 + i * 1) = i * 1 + 0 ∧ i < xs.length, (0 + i * 1) = i * 1 + 0 ∧ i < xs.length, (i : Int) = ((i : Nat) : Int) ∧ i < xs.length, (i : Int) = ((i : Nat) : Int) ∧ i < xs.length] <| RD.fin <| RN.go 1 [] fun _ => RN.en (xs.getD i 0 = xs.getD i 0) 25 (fun h5 => ?_) fun h5 => ?_
      · refine RN.goP 9 [.nw] [I64 ((i : Int) + 1)] fun _ => ?_
        refine mt3 (i + 1) [] [] ?_
        try dsimp only
        exact ⟨by omega, by omega⟩
      · exact absurd rfl h5
    · refine RN.go 11 [] fun _ => ?_
      exact RN.ret [] [] [] ⟨rfl, rfl⟩
  · exact absurd rfl h1
end Go.Proofs.YtlefngomddjahaaGreatDoor
/- Contracts, printed by a program. -/
namespace Go.Proofs.YtlefngomddjahaaGreatDoor
set_option linter.unusedSimpArgs false
set_option linter.unusedVariables false
open Go.RowKit
def shK (n : Int) : Int := around n 1000
def shR (n : Int) : Int := w64 (512 * w64 (1 + (w64 ((shK n).tdiv 7)).tmod 5))
def shSq (r : Int) : List V2 := [⟨w64 (0 - r), w64 (0 - r)⟩, ⟨r, w64 (0 - r)⟩, ⟨r, r⟩, ⟨w64 (0 - r), r⟩]
def shTri (r : Int) : List V2 := [⟨w64 (0 - r), w64 (0 - r)⟩, ⟨r, w64 (0 - r)⟩, ⟨0, r⟩]
def shBar (r : Int) : List V2 := [⟨w64 (-2 * r), -300⟩, ⟨w64 (2 * r), -300⟩, ⟨w64 (2 * r), 300⟩, ⟨w64 (-2 * r), 300⟩]
def shapeS (n : Int) : Int × List V2 := if (shK n).tmod 7 = 0 then (shR n, []) else if (shK n).tmod 7 = 1 then (shR n, []) else if (shK n).tmod 7 = 2 then (shR n, []) else if (shK n).tmod 7 = 3 then (0, shSq (shR n)) else if (shK n).tmod 7 = 4 then (0, shSq (shR n)) else if (shK n).tmod 7 = 5 then (0, shTri (shR n)) else (0, shBar (shR n))
/-- what a shape needs lies in T -/
def ShH (s : Shp) (T : HL) : Prop := ∀ F, (∀ x ∈ T, x ∈ F) → ShIn F s
theorem ShH.circle (r : Int) (A : Option Addr) (cap : Nat) : ShH ⟨r, [], A, cap⟩ [] := fun F _ => .circle r A cap
theorem ShH.poly (r : Int) (l : List V2) (b cap : Nat) (h3 : 3 ≤ l.length) (h4 : l.length ≤ cap) (h5 : l.length ≤ 1000000) : ShH ⟨r, l, some ⟨b, 0, none⟩, cap⟩ [(b, .rows 2 cap (vrow l) 31 (0, 0))] := fun F h => .poly r l b cap (h _ (by simp)) h3 h4 h5

set_option maxHeartbeats 400000 in
set_option maxRecDepth 100000 in
theorem shapeOf_any (n : Int) (F : HL) : Sp Tryz.prog 29 #[vI n] [] F (fun u H' => ∃ x : Option Addr × Nat × HL, H' = ap [] [x.2.2] ∧ (u = shV ⟨(shapeS n).1, (shapeS n).2, x.1, x.2.1⟩ ∧ ShH ⟨(shapeS n).1, (shapeS n).2, x.1, x.2.1⟩ x.2.2)) := by
  refine Sp.run Tryz.func29 rfl mn (A := []) (Ts := []) rfl fun w0 => ?_
  refine RN.go 8 [] fun n1 => RN.cp (around_any n 1000 (by decide) _) <| RN.go 28 [] fun _ => RN.em ((shK n).tmod 7 = 0) 14 (fun h2 => ?_) fun h2 => ?_
  · refine RN.go 11 [.own 0, .own 0] fun _ => RN.ret [.own 0, .own 0] [] [] (v := .agg #[vI (IntKind.i64.wrap (512 * (IntKind.i64.wrap (1 + ((IntKind.i64.wrap ((shK n).tdiv 7)).tmod 5))))), .slice none 0 0]) (H' := []) ?_
    have e : shapeS n = (shR n, []) := by simp only [shapeS, if_pos h2]
    rw [e]
    exact ⟨(none, 0, []), rfl, rfl, ShH.circle _ _ _⟩
  · refine RN.go 7 [] fun _ => RN.em ((shK n).tmod 7 = 1) 14 (fun h3 => ?_) fun h3 => ?_
    · refine RN.go 11 [.own 0, .own 0] fun _ => RN.ret [.own 0, .own 0] [] [] (v := .agg #[vI (IntKind.i64.wrap (512 * (IntKind.i64.wrap (1 + ((IntKind.i64.wrap ((shK n).tdiv 7)).tmod 5))))), .slice none 0 0]) (H' := []) ?_
      have e : shapeS n = (shR n, []) := by simp only [shapeS, if_neg h2, if_pos h3]
      rw [e]
      exact ⟨(none, 0, []), rfl, rfl, ShH.circle _ _ _⟩
    · refine RN.go 6 [] fun _ => RN.em ((shK n).tmod 7 = 2) 14 (fun h4 => ?_) fun h4 => ?_
      · refine RN.go 8 [.own 0, .own 0] fun _ => RN.ret [.own 0, .own 0] [] [] (v := .agg #[vI (IntKind.i64.wrap (512 * (IntKind.i64.wrap (1 + ((IntKind.i64.wrap ((shK n).tdiv 7)).tmod 5))))), .slice none 0 0]) (H' := []) ?_
        have e : shapeS n = (shR n, []) := by simp only [shapeS, if_neg h2, if_neg h3, if_pos h4]
        rw [e]
        exact ⟨(none, 0, []), rfl, rfl, ShH.circle _ _ _⟩
      · refine RN.go 8 [] fun _ => RN.em ((shK n).tmod 7 = 3) 20 (fun h5 => ?_) fun h5 => ?_
        · refine RN.go 27 [.own 1, .own 1] fun n6 => RN.dn 0 (.rows 2 4 (vrow (shSq (shR n))) 31 (0, 0)) <| RN.ret [.own 1, .own 1] [0] [] (v := .agg #[vI 0, vS (n6 + 0) 0 4 4]) (H' := [((n6 + 0), .rows 2 4 (vrow (shSq (shR n))) 31 (0, 0))]) ?_
          have e : shapeS n = (0, shSq (shR n)) := by simp only [shapeS, if_neg h2, if_neg h3, if_neg h4, if_pos h5]
          rw [e]
          exact ⟨(some ⟨(n6 + 0), 0, none⟩, 4, _), rfl, rfl, ShH.poly 0 (shSq (shR n)) (n6 + 0) 4 (Nat.le_of_ble_eq_true rfl) (Nat.le_of_ble_eq_true rfl) (Nat.le_of_ble_eq_true rfl)⟩
        · refine RN.go 6 [] fun _ => RN.em ((shK n).tmod 7 = 4) 20 (fun h7 => ?_) fun h7 => ?_
          · refine RN.go 24 [.own 1, .own 1] fun n8 => RN.dn 0 (.rows 2 4 (vrow (shSq (shR n))) 31 (0, 0)) <| RN.ret [.own 1, .own 1] [0] [] (v := .agg #[vI 0, vS (n8 + 0) 0 4 4]) (H' := [((n8 + 0), .rows 2 4 (vrow (shSq (shR n))) 31 (0, 0))]) ?_
            have e : shapeS n = (0, shSq (shR n)) := by simp only [shapeS, if_neg h2, if_neg h3, if_neg h4, if_neg h5, if_pos h7]
            rw [e]
            exact ⟨(some ⟨(n8 + 0), 0, none⟩, 4, _), rfl, rfl, ShH.poly 0 (shSq (shR n)) (n8 + 0) 4 (Nat.le_of_ble_eq_true rfl) (Nat.le_of_ble_eq_true rfl) (Nat.le_of_ble_eq_true rfl)⟩
          · refine RN.go 7 [] fun _ => RN.em ((shK n).tmod 7 = 5) 41 (fun h9 => ?_) fun h9 => ?_
            · refine RN.go 19 [.own 1, .own 1] fun n10 => RN.dn 0 (.rows 2 3 (vrow (shTri (shR n))) 31 (0, 0)) <| RN.ret [.own 1, .own 1] [0] [] (v := .agg #[vI 0, vS (n10 + 0) 0 3 3]) (H' := [((n10 + 0), .rows 2 3 (vrow (shTri (shR n))) 31 (0, 0))]) ?_
              have e : shapeS n = (0, shTri (shR n)) := by simp only [shapeS, if_neg h2, if_neg h3, if_neg h4, if_neg h5, if_neg h7, if_pos h9]
              rw [e]
              exact ⟨(some ⟨(n10 + 0), 0, none⟩, 3, _), rfl, rfl, ShH.poly 0 (shTri (shR n)) (n10 + 0) 3 (Nat.le_of_ble_eq_true rfl) (Nat.le_of_ble_eq_true rfl) (Nat.le_of_ble_eq_true rfl)⟩
            · refine RN.go 23 [.own 1, .own 1] fun n11 => RN.dn 0 (.rows 2 4 (vrow (shBar (shR n))) 31 (0, 0)) <| RN.ret [.own 1, .own 1] [0] [] (v := .agg #[vI 0, vS (n11 + 0) 0 4 4]) (H' := [((n11 + 0), .rows 2 4 (vrow (shBar (shR n))) 31 (0, 0))]) ?_
              have e : shapeS n = (0, shBar (shR n)) := by simp only [shapeS, if_neg h2, if_neg h3, if_neg h4, if_neg h5, if_neg h7, if_neg h9]
              rw [e]
              exact ⟨(some ⟨(n11 + 0), 0, none⟩, 4, _), rfl, rfl, ShH.poly 0 (shBar (shR n)) (n11 + 0) 4 (Nat.le_of_ble_eq_true rfl) (Nat.le_of_ble_eq_true rfl) (Nat.le_of_ble_eq_true rfl)⟩
end Go.Proofs.YtlefngomddjahaaGreatDoor
/- Contracts, printed by a program. -/
namespace Go.Proofs.YtlefngomddjahaaGreatDoor
set_option linter.unusedSimpArgs false
set_option linter.unusedVariables false
open Go.RowKit
theorem bodyAt_in {S : Setup} (h : SetN S) {i : Nat} (hi : i < S.nb) : 0 ≤ bodyAt S i ∧ bodyAt S i + 8 ≤ sizeOf S ∧ sizeOf S ≤ 20000000 := by
  have := h.pl
  have := h.nb
  unfold bodyAt sizeOf
  rw [if_neg (by omega), if_neg (by omega)]
  omega
theorem sizeOf_bd {S : Setup} (h : SetN S) : 48 ≤ sizeOf S ∧ sizeOf S ≤ 20000000 := by
  have := h.pl
  have := h.nb
  unfold sizeOf
  omega
def iniL (S : Setup) : Nat → List Int
  | 0 => List.replicate (sizeOf S).toNat 0
  | i + 1 => ((((((iniL S i).set (bodyAt S i).toNat (S.body i).mot.px).set (bodyAt S i + 1).toNat (S.body i).mot.py).set (bodyAt S i + 2).toNat (S.body i).mot.vx).set (bodyAt S i + 3).toNat (S.body i).mot.vy).set (bodyAt S i + 4).toNat (S.body i).a).set (bodyAt S i + 5).toNat (S.body i).b
theorem iniL_len (S : Setup) : ∀ i, (iniL S i).length = (sizeOf S).toNat
  | 0 => by simp [iniL]
  | i + 1 => by simp [iniL, iniL_len S i]
theorem iniL_next {S : Setup} (h : SetN S) {i : Nat} (hi : i < S.nb) : updG (updG (updG (updG (updG (updG (irow (iniL S i)) (bodyAt S i).toNat 0 (vI (S.body i).mot.px)) (bodyAt S i + 1).toNat 0 (vI (S.body i).mot.py)) (bodyAt S i + 2).toNat 0 (vI (S.body i).mot.vx)) (bodyAt S i + 3).toNat 0 (vI (S.body i).mot.vy)) (bodyAt S i + 4).toNat 0 (vI (S.body i).a)) (bodyAt S i + 5).toNat 0 (vI (S.body i).b) = irow (iniL S (i + 1)) := by
  have := bodyAt_in h hi
  rw [irow_set, irow_set, irow_set, irow_set, irow_set, irow_set, iniL] <;> (simp only [List.length_set, iniL_len]; omega)

set_option maxHeartbeats 1000000 in
set_option maxRecDepth 100000 in
theorem rinit_any (S : Setup) (F : HL) (hS : SetIn F S) : Sp Tryz.prog 21 #[(Setup.v S)] [] F (fun u H' => ∃ q, H' = ap [(q, .rows 1 (sizeOf S).toNat (irow (iniL S S.nb)) 3 (0, 0))] [] ∧ u = vS q 0 (sizeOf S).toNat (sizeOf S).toNat) := by
  have hp := hS.pl
  have hn := hS.nb
  have hr := hS.room
  have hz := sizeOf_bd hS.toSetN
  refine Sp.run Tryz.func21 rfl (mc hS.blk mn) (A := []) (Ts := []) rfl fun w0 => ?_
  refine RN.go 9 (ow 0 16) fun n1 => RN.cp (rsize_any S _ hS.toSetN) <| RN.goP 11 [.mk ((sizeOf S).toNat) ((sizeOf S).toNat)] [sizeOf S = (((sizeOf S).toNat : Nat) : Int) ∧ sizeOf S = (((sizeOf S).toNat : Nat) : Int) ∧ (sizeOf S).toNat ≤ (sizeOf S).toNat ∧ 8 * ((sizeOf S).toNat) ≤ 140737488355328 ∧ 1 = 1 ∧ (sizeOf S).toNat ≤ 9223372036854775807] fun n2 => RN.bv 0 (congrArg (fun v_ => (.rows 1 ((sizeOf S).toNat) v_ 3 (0, 0) : Blk)) (show (zrow [vI 0]) = (irow (iniL S 0)) from (by rw [zrow_irow (sizeOf S).toNat] <;> rfl))) <| RN.loop (σ := Nat) (fun i => ⟨[(1, vP (n1 + 0) 0), (3, vS (n2 + 0) 0 ((sizeOf S).toNat) ((sizeOf S).toNat)), (4, vI (i : Int))], [((n2 + 0), .rows 1 ((sizeOf S).toNat) (irow (iniL S i)) 3 (0, 0)), ((n1 + 0), .lit (Setup.l S) 33 (0, 0))], [], i ≤ S.nb, S.nb - i⟩) 0 [0, 1] [] (Nat.zero_le _) ?_
  rintro i hI3 mt4
  refine RN.go 10 [.own 1] fun _ => RN.em ((i : Int) < (S.nb : Int)) 14 (fun h5 => ?_) fun h5 => ?_
  · have hbi := bodyAt_in hS.toSetN (i := i) (by omega)
    refine RN.go 9 (ow 1 16) fun _ => RN.cp (rbody_any S (i : Int) _ hS.toSetN) ?_
    have hb6 := bodyAt_bd hS.toSetN (i : Int)
    refine RN.goP 92 ([.own 1, .ix i, .rorow 0 (S.bo + i) 0, .rorow 0 (S.bo + i) 1, .rorow 0 (S.bo + i) 2, .rorow 0 (S.bo + i) 3, .rorow 0 (S.bo + i) 4, .rorow 0 (S.bo + i) 5, .rorow 0 (S.bo + i) 6, .rorow 0 (S.bo + i) 7, .rorow 0 (S.bo + i) 8] ++ ow 0 10 ++ [.ix ((bodyAt S (i : Int)).toNat), .row 1 ((bodyAt S (i : Int)).toNat) 0, .nw, .own 0, .ix (((bodyAt S (i : Int)) + 1).toNat), .row 1 (((bodyAt S (i : Int)) + 1).toNat) 0, .nw, .own 0, .ix (((bodyAt S (i : Int)) + 2).toNat), .row 1 (((bodyAt S (i : Int)) + 2).toNat) 0, .nw, .own 0, .ix (((bodyAt S (i : Int)) + 3).toNat), .row 1 (((bodyAt S (i : Int)) + 3).toNat) 0, .nw, .own 0, .ix (((bodyAt S (i : Int)) + 4).toNat), .row 1 (((bodyAt S (i : Int)) + 4).toNat) 0, .nw, .own 0, .ix (((bodyAt S (i : Int)) + 5).toNat), .row 1 (((bodyAt S (i : Int)) + 5).toNat) 0, .nw]) [I64 ((i : Int) + 1), (0 + (((bodyAt S (i : Int)) + 5).toNat) * 1) = (((bodyAt S (i : Int)) + 5).toNat) * 1 + 0 ∧ (((bodyAt S (i : Int)) + 5).toNat) < ((sizeOf S).toNat), (bodyAt S (i : Int)) + 5 = ((((bodyAt S (i : Int)) + 5).toNat : Nat) : Int) ∧ ((bodyAt S (i : Int)) + 5).toNat < ((sizeOf S).toNat), I64 ((bodyAt S (i : Int)) + 5), (0 + (((bodyAt S (i : Int)) + 4).toNat) * 1) = (((bodyAt S (i : Int)) + 4).toNat) * 1 + 0 ∧ (((bodyAt S (i : Int)) + 4).toNat) < ((sizeOf S).toNat), (bodyAt S (i : Int)) + 4 = ((((bodyAt S (i : Int)) + 4).toNat : Nat) : Int) ∧ ((bodyAt S (i : Int)) + 4).toNat < ((sizeOf S).toNat), I64 ((bodyAt S (i : Int)) + 4), (0 + (((bodyAt S (i : Int)) + 3).toNat) * 1) = (((bodyAt S (i : Int)) + 3).toNat) * 1 + 0 ∧ (((bodyAt S (i : Int)) + 3).toNat) < ((sizeOf S).toNat), (bodyAt S (i : Int)) + 3 = ((((bodyAt S (i : Int)) + 3).toNat : Nat) : Int) ∧ ((bodyAt S (i : Int)) + 3).toNat < ((sizeOf S).toNat), I64 ((bodyAt S (i : Int)) + 3), (0 + (((bodyAt S (i : Int)) + 2).toNat) * 1) = (((bodyAt S (i : Int)) + 2).toNat) * 1 + 0 ∧ (((bodyAt S (i : Int)) + 2).toNat) < ((sizeOf S).toNat), (bodyAt S (i : Int)) + 2 = ((((bodyAt S (i : Int)) + 2).toNat : Nat) : Int) ∧ ((bodyAt S (i : Int)) + 2).toNat < ((sizeOf S).toNat), I64 ((bodyAt S (i : Int)) + 2), (0 + (((bodyAt S (i : Int)) + 1).toNat) * 1) = (((bodyAt S (i : Int)) + 1).toNat) * 1 + 0 ∧ (((bodyAt S (i : Int)) + 1).toNat) < ((sizeOf S).toNat), (bodyAt S (i : Int)) + 1 = ((((bodyAt S (i : Int)) + 1).toNat : Nat) : Int) ∧ ((bodyAt S (i : Int)) + 1).toNat < ((sizeOf S).toNat), I64 ((bodyAt S (i : Int)) + 1), (0 + ((bodyAt S (i : Int)).toNat) * 1) = ((bodyAt S (i : Int)).toNat) * 1 + 0 ∧ ((bodyAt S (i : Int)).toNat) < ((sizeOf S).toNat), bodyAt S (i : Int) = (((bodyAt S (i : Int)).toNat : Nat) : Int) ∧ (bodyAt S (i : Int)).toNat < ((sizeOf S).toNat), ((S.bo * 9 + i * 9) + 8) = (S.bo + i) * 9 + 8 ∧ (S.bo + i) < S.bR, ((S.bo * 9 + i * 9) + 7) = (S.bo + i) * 9 + 7 ∧ (S.bo + i) < S.bR, ((S.bo * 9 + i * 9) + 6) = (S.bo + i) * 9 + 6 ∧ (S.bo + i) < S.bR, ((S.bo * 9 + i * 9) + 5) = (S.bo + i) * 9 + 5 ∧ (S.bo + i) < S.bR, ((S.bo * 9 + i * 9) + 4) = (S.bo + i) * 9 + 4 ∧ (S.bo + i) < S.bR, ((S.bo * 9 + i * 9) + 3) = (S.bo + i) * 9 + 3 ∧ (S.bo + i) < S.bR, ((S.bo * 9 + i * 9) + 2) = (S.bo + i) * 9 + 2 ∧ (S.bo + i) < S.bR, ((S.bo * 9 + i * 9) + 1) = (S.bo + i) * 9 + 1 ∧ (S.bo + i) < S.bR, (S.bo * 9 + i * 9) = (S.bo + i) * 9 + 0 ∧ (S.bo + i) < S.bR, (i : Int) = ((i : Nat) : Int) ∧ i < S.nb] fun n7 => RN.bv 1 (congrArg (fun v_ => (.rows 1 ((sizeOf S).toNat) v_ 3 (0, 0) : Blk)) (show (updG (updG (updG (updG (updG (updG (irow (iniL S i)) ((bodyAt S (i : Int)).toNat) 0 (vI ((S.bods.getD (S.bo + i) dB).mot.px))) (((bodyAt S (i : Int)) + 1).toNat) 0 (vI ((S.bods.getD (S.bo + i) dB).mot.py))) (((bodyAt S (i : Int)) + 2).toNat) 0 (vI ((S.bods.getD (S.bo + i) dB).mot.vx))) (((bodyAt S (i : Int)) + 3).toNat) 0 (vI ((S.bods.getD (S.bo + i) dB).mot.vy))) (((bodyAt S (i : Int)) + 4).toNat) 0 (vI ((S.bods.getD (S.bo + i) dB).a))) (((bodyAt S (i : Int)) + 5).toNat) 0 (vI ((S.bods.getD (S.bo + i) dB).b))) = (irow (iniL S (i + 1))) from (by rw [← iniL_next hS.toSetN (i := i) (by omega)] <;> kernel_rfl))) ?_
    refine mt4 (i + 1) [1, 2] [] ?_
    try dsimp only
    exact ⟨by omega, by omega⟩
  · refine RN.go 12 [] fun _ => RN.ret [] [0] [] (v := vS (n2 + 0) 0 ((sizeOf S).toNat) ((sizeOf S).toNat)) (H' := [((n2 + 0), .rows 1 ((sizeOf S).toNat) (irow (iniL S i)) 3 (0, 0))]) ?_
    have ei : i = S.nb := by omega
    subst ei
    exact ⟨_, rfl, rfl⟩
end Go.Proofs.YtlefngomddjahaaGreatDoor
/- Appends whose source lies in a block that is only read. -/
namespace Go.Proofs.YtlefngomddjahaaGreatDoor
set_option linter.unusedSimpArgs false
set_option linter.unusedVariables false
open Go.RowKit Go.Shelf
section
variable {r : Option Nat} {P : Program} {N : Nat} {D : List Deferred} {F : HL} {w0 : World} {R : HL} {s : Cfg} {Q : Exit → Act → World → Prop}
variable {α : Type} {e : Enc α} {T : TypeId} {inf : TypeInfo} {z : Value}
def appKS (P : Program) (N j : Nat) (oo : Option Oper) (s : Cfg) : Option (Option Addr × Nat × Nat × TypeId × Option Addr × Nat × Nat × TypeId × HL) := match oo with
  | some o => match appV P o s.L, s.Ts[j]?, ([j] ++ oth [j] s.Ts.length).isPerm (List.range s.Ts.length) && (putL N o.dst undef s.L).isSome with
    | some (A, n, cap, T, B, m, c', tx), some Hl, true => some (A, n, cap, T, B, m, c', tx, Hl)
    | _, _, _ => none
  | none => none
theorem appKS_spec {j : Nat} {oo : Option Oper} {A : Option Addr} {n cap m c' : Nat} {B : Option Addr} {tx : TypeId} {Hl : HL} (h : appKS P N j oo s = some (A, n, cap, T, B, m, c', tx, Hl)) :
    ∃ o a1 a2 t e', oo = some o ∧ o.guard = none ∧ o.op = .call { callee := .builtin .append, args := #[a1, a2], argTypes := #[t, tx] } ∧ (inL s.L a1 && inL s.L a2) = true ∧ rho s.L a1 = .slice A n cap ∧ rho s.L a2 = .slice B m c' ∧ P.underlying t = some (.slice T) ∧ P.underlying tx = some (.slice e') ∧
      s.Ts[j]? = some Hl ∧ ([j] ++ oth [j] s.Ts.length).isPerm (List.range s.Ts.length) = true ∧ (putL N o.dst undef s.L).isSome = true := by
  unfold appKS at h
  split at h
  case h_2 => cases h
  rename_i o
  split at h
  case h_2 => cases h
  rename_i A' n' cap' T' B' m' c2 tx' Hl' h1 h3 h4
  simp only [Option.some.injEq, Prod.mk.injEq] at h
  obtain ⟨e1, e2, e3, e4, e5, e6, e7, e8, e9⟩ := h
  subst e1; subst e2; subst e3; subst e4; subst e5; subst e6; subst e7; subst e8; subst e9
  obtain ⟨a1, a2, t, e', q1, q2, q3, q4, q5, q6, q7⟩ := appV_spec h1
  rw [Bool.and_eq_true] at h4
  exact ⟨o, a1, a2, t, e', rfl, q1, q2, q3, q4, q5, q6, q7, h3, h4.1, h4.2⟩
theorem RN.appS (ok : EncOk e P T inf z) (l src : List α) (j : Nat) {A : Option Addr} {n cap : Nat} {Hl : HL} {B : Option Addr} {m c' : Nat} {tx : TypeId} (hm : m = src.length) (hn : n = l.length) (hsl : SlIs e T l A cap Hl) (hb : l.length + src.length ≤ 100000000)
    (hs : ∀ e', P.underlying tx = some (.slice e') → ∀ X w, Rel (X ++ F) w → Src P inf.size tx (.slice B m c') src.length (cellsE e src) w)
    (hk : ∀ (A' : Option Addr) (cap' : Nat) (Hl' : HL), (SlIs e T (l ++ src) A' cap' Hl' ∧ (zeroOff A → zeroOff A')) → RN r P N D F w0 R (rpC j Hl' (putC N (.slice A' (n + src.length) cap') s)) Q)
    (h : appKS P N j (opAt s) s = some (A, n, cap, T, B, m, c', tx, Hl) := by kernel_rfl) : RN r P N D F w0 R s Q := by
  obtain ⟨o, a1, a2, t, e', q0, q1, q2, q3, q4, q5, q6, q7, q9, q10, q11⟩ := appKS_spec h
  refine ⟨fun hR a w hF hRel hB => ?_⟩
  obtain ⟨c, k, L, Bs, Ts⟩ := s
  unfold opAt at q0
  cases c with
  | code c => cases q0
  | ex c => cases q0
  | drw _ _ => cases q0
  | ops ops i =>
    simp only at q0 q3 q4 q5 q9 q10 q11 hF hRel
    have hdrop : ops.toList.drop i = o :: ops.toList.drop (i + 1) := by
      have hlt : i < ops.toList.length := (List.getElem?_eq_some_iff.1 q0).1
      rw [List.drop_eq_getElem_cons hlt, (List.getElem?_eq_some_iff.1 q0).2]
    show wpListIn _ _ _ _ _ _ _ _
    rw [hdrop, wpListIn, if_pos (by simp [Region.wanted, q1])]
    refine ⟨fun _ _ => trivial, ?_⟩
    have hperm := tail_perm (A := Bs) q9 q10
    refine gives_upon (by rw [q2]; intro c hc; cases hc) (app_gives (x := .slice B m c') (src := src) (G := Bs ++ ((oth [j] Ts.length).filterMap (Ts[·]?)).flatten) ok q2 q6 q3 q4 hn q5 hperm hsl (fun w hw => hs e' q7 _ w hw) hb a hF w hRel) ?_
    rintro u w' ⟨⟨A', cap', Hl'⟩, ⟨rfl, hsl'⟩, hR', hB'⟩
    obtain ⟨L', p1⟩ := putL_some q11 (.slice A' (n + src.length) cap')
    have hh := (hk A' cap' Hl' hsl').h hR
    have hpc : putC N (.slice A' (n + src.length) cap') ⟨.ops ops i, k, L, Bs, Ts⟩ = ⟨.ops ops (i + 1), k, L', Bs, Ts⟩ := by
      unfold putC
      simp only [q0, p1]
    rw [hpc] at hh
    refine hh _ w' (hF.put p1) (hR'.perm (List.Perm.append_right F ?_)) (hB.trans hB')
    show (Bs ++ (Hl' :: (oth [j] Ts.length).filterMap (Ts[·]?)).flatten).Perm _
    rw [List.flatten_cons, ← List.append_assoc, ← List.append_assoc]
    exact List.Perm.append_right _ List.perm_append_comm
end
end Go.Proofs.YtlefngomddjahaaGreatDoor
