/- Contracts, printed by a program. -/
import Derived.Test.YtpkincoclhpcgaaGreatDoorGe
namespace Go.Proofs.YtpkincoclhpcgaaGreatDoor
set_option linter.unusedSimpArgs false
set_option linter.unusedVariables false
open Go.RowKit
structure Bod where (sh : Shp) (mot : Mot) (a b : Int)
abbrev dB : Bod := ⟨⟨0, [], none, 0⟩, ⟨0, 0, 0, 0, 0⟩, 0, 0⟩

def bodE : Enc Bod := ⟨9, fun p k => match k with | 0 => vI p.sh.r | 1 => .slice p.sh.A p.sh.poly.length p.sh.cap | 2 => vI p.mot.px | 3 => vI p.mot.py | 4 => vI p.mot.vx | 5 => vI p.mot.vy | 6 => vI p.mot.inv | 7 => vI p.a | _ => vI p.b, dB⟩
noncomputable def bodEI : TypeInfo := match Tryz.prog.info? 40 with | some i => i | none => ⟨.bool, "", 0, 0, false, 0, 0, none, false, #[]⟩
noncomputable def bodEZ : Value := match bodEI.zero with | some z => z | none => .bool false
theorem bodEOk : EncOk bodE Tryz.prog 40 bodEI bodEZ where
  info := by kernel_rfl
  zero := by kernel_rfl
  size := by kernel_rfl
  zsize := by kernel_rfl
  zcell := fun k hk => by
    have h : ∀ k < 9, bodEZ.cells[k]? = some (bodE.cell bodE.dflt k) := by intro k hk; (iterate 9 (rcases k with _ | k; · kernel_rfl)); omega
    exact h k hk
  one := fun x k => by unfold bodE; dsimp only; split <;> rfl
  bytes := Nat.le_of_ble_eq_true (by kernel_rfl)

abbrev brow (l : List Bod) : Nat → Nat → Value := rowE bodE l
structure Setup where
  players : Int
  bb : Nat
  bo : Nat
  nb : Nat
  bc : Nat
  bR : Nat
  bods : List Bod
  box : Bx
  rA : Option Addr
  rn : Nat
  rc : Nat
  dA : Option Addr
  dn : Nat
  dc : Nat
  fog : Int
  g : V2
  push : Int
  drag : Int
  rest : Int
  rounds : Int
  fuel : Int
def Setup.body (S : Setup) (k : Nat) : Bod := S.bods.getD (S.bo + k) dB
structure SetN (S : Setup) : Prop where
  pl : 0 ≤ S.players ∧ S.players ≤ 1000000
  nb : S.nb ≤ 1000000
structure SetIn (F : HL) (S : Setup) : Prop extends SetN S where
  blk : (S.bb, .rows 9 S.bR (brow S.bods) 40 (0, 0)) ∈ F
  room : S.bo + S.nb ≤ S.bR
  shp : ∀ k, k < S.nb → ShIn F (S.body k).sh
theorem SetIn.up {F X : HL} {S : Setup} (h : SetIn F S) : SetIn (X ++ F) S :=
  ⟨h.toSetN, List.mem_append_right _ h.blk, h.room, fun k hk => (h.shp k hk).mono fun x hx => List.mem_append_right _ hx⟩
def playerAt (S : Setup) (k : Int) : Int := if k < 0 then -1 else if k ≥ S.players then -1 else 48 + 4 * k
def bodyAt (S : Setup) (k : Int) : Int := if k < 0 then -1 else if k ≥ S.nb then -1 else 48 + 4 * S.players + 8 * k
def sizeOf (S : Setup) : Int := 48 + 4 * S.players + 8 * S.nb
theorem playerAt_bd {S : Setup} (h : SetN S) (k : Int) : (-1 ≤ playerAt S k ∧ playerAt S k ≤ 1000000000) ∧ (playerAt S k < 0 ∨ (0 ≤ k ∧ k < S.players)) := by
  have := h.pl
  unfold playerAt; split
  · omega
  · split <;> omega
theorem bodyAt_bd {S : Setup} (h : SetN S) (k : Int) : (-1 ≤ bodyAt S k ∧ bodyAt S k ≤ 1000000000) ∧ (bodyAt S k < 0 ∨ (0 ≤ k ∧ k < S.nb)) := by
  have := h.pl
  have := h.nb
  unfold bodyAt; split
  · omega
  · split <;> omega
theorem in_ap {A : HL} {Ts : List HL} {F : HL} {x : Nat × Blk} (i : Nat) (h : A[i]? = some x) : x ∈ ap A Ts ++ F := List.mem_append_left _ (List.mem_append_left _ (List.mem_of_getElem? h))
theorem in_apX {X A : HL} {Ts : List HL} {F : HL} {x : Nat × Blk} (i : Nat) (h : A[i]? = some x) : x ∈ X ++ (ap A Ts ++ F) := List.mem_append_right _ (in_ap i h)

abbrev Setup.v (S : Setup) : Value := .agg #[vI S.players, vS S.bb (S.bo * 9) S.nb S.bc, vI S.box.x0, vI S.box.y0, vI S.box.x1, vI S.box.y1, .slice S.rA S.rn S.rc, .slice S.dA S.dn S.dc, vI S.fog, vI S.g.x, vI S.g.y, vI S.push, vI S.drag, vI S.rest, vI S.rounds, vI S.fuel]
abbrev Setup.l (S : Setup) : List Value := [vI S.players, vS S.bb (S.bo * 9) S.nb S.bc, vI S.box.x0, vI S.box.y0, vI S.box.x1, vI S.box.y1, .slice S.rA S.rn S.rc, .slice S.dA S.dn S.dc, vI S.fog, vI S.g.x, vI S.g.y, vI S.push, vI S.drag, vI S.rest, vI S.rounds, vI S.fuel]

set_option maxHeartbeats 400000 in
set_option maxRecDepth 100000 in
theorem lplayer_any (S : Setup) (k : Int) (F : HL) (hn : SetN S) : Sp Tryz.prog 44 #[(Setup.v S), vI k] [] F (fun u H' => u = vI (playerAt S k) ∧ H' = []) := by
  have h1 := hn.pl
  have h2 := hn.nb
  refine Sp.of_body Tryz.func44 rfl rfl rfl [(0, (Setup.v S)), (1, vI k)] rfl ?_
  intro w0
  refine TR.convH (ap [] []) rfl ?_
  refine TR.seq ?_
  refine TR.reg ?_
  refine TL.seg 2 [] [] [1, 2] (fun n1 => [(1, vI k), (2, vP (n1 + 0) 0)]) (fun n1 => (ap [((n1 + 0), .lit (Setup.l S) 32 (0, 0))] [])) (fun n1 => []) (fun n1 => []) (fun _ => by kernel_rfl) mn (fun n1 => an) ?_
  intro n1
  refine TL.fin (by kernel_rfl) ?_
  refine EX.next ?_
  refine TR.seq ?_
  refine TR.seq ?_
  refine TR.reg ?_
  rcases Decidable.em (k < 0) with h2 | h2
  · let z1 : Nat × Blk := ((n1 + 0), .lit (Setup.l S) 32 (0, 0))
    refine TL.seg0 8 [] [.gd true, .gd true, .gd true, .gd true, .gd true] [1, 12] [(1, vI k), (12, .bool true)] (ap [z1] []) [] [(decide (k < 0)) = true, (decide (k < 0)) = true, (decide (k < 0)) = true, (decide (k < 0)) = true, (decide (k < 0)) = true] (fun _ => by kernel_rfl) mn (ac (decide_eq_true h2) (ac (decide_eq_true h2) (ac (decide_eq_true h2) (ac (decide_eq_true h2) (ac (decide_eq_true h2) an))))) ?_
    refine TL.fin (by kernel_rfl) ?_
    refine EX.next ?_
    refine TR.yes (by kernel_rfl) (by kernel_rfl) (rfl : true = true) ?_
    refine TR.seq ?_
    refine TR.reg ?_
    refine TL.seg0 1 [] [] [4] [(4, vI (-1))] (ap [z1] []) [] [] (fun _ => by kernel_rfl) mn an ?_
    refine TL.fin (by kernel_rfl) ?_
    refine EX.next ?_
    refine TR.ret (A := [z1]) (Ts := []) (by exact fun _ _ h => h) rfl rfl [] [] (vI (-1)) [] [] (fun _ => by kernel_rfl) mn an [] [0] [] [] [] (by kernel_rfl) (by kernel_rfl) (by kernel_rfl) ?_
    refine ⟨?_, rfl⟩
    simp only [playerAt, if_pos h2]
  · let z2 : Nat × Blk := ((n1 + 0), .lit (Setup.l S) 32 (0, 0))
    refine TL.seg0 8 [] [.gd false, .gd false, .gd false, .own 0, .gd false, .gd false] [1, 12] [(1, vI k), (12, .bool (decide (k ≥ S.players)))] (ap [z2] []) [(n1 + 0)] [(decide (k < 0)) = false, (decide (k < 0)) = false, (decide (k < 0)) = false, (decide (k < 0)) = false, (decide (k < 0)) = false] (fun _ => by kernel_rfl) mn (ac (decide_eq_false h2) (ac (decide_eq_false h2) (ac (decide_eq_false h2) (ac (decide_eq_false h2) (ac (decide_eq_false h2) an))))) ?_
    refine TL.fin (by kernel_rfl) ?_
    refine EX.next ?_
    rcases Decidable.em (k ≥ S.players) with h3 | h3
    · refine TR.yes (b := decide (k ≥ S.players)) (by kernel_rfl) (by kernel_rfl) (decide_eq_true h3) ?_
      refine TR.seq ?_
      refine TR.reg ?_
      refine TL.seg0 1 [] [] [4] [(4, vI (-1))] (ap [z2] []) [] [] (fun _ => by kernel_rfl) mn an ?_
      refine TL.fin (by kernel_rfl) ?_
      refine EX.next ?_
      refine TR.ret (A := [z2]) (Ts := []) (by exact fun _ _ h => h) rfl rfl [] [] (vI (-1)) [] [] (fun _ => by kernel_rfl) mn an [] [0] [] [] [] (by kernel_rfl) (by kernel_rfl) (by kernel_rfl) ?_
      refine ⟨?_, rfl⟩
      simp only [playerAt, if_neg h2, if_pos h3]
    · refine TR.no (b := decide (k ≥ S.players)) (by kernel_rfl) (by kernel_rfl) (decide_eq_false h3) ?_
      refine TR.skip ?_
      refine EX.next ?_
      refine TR.seq ?_
      refine TR.reg ?_
      refine TL.seg0 4 [] [.nw, .nw] [4] [(4, vI (48 + (4 * k)))] (ap [z2] []) [] [-9223372036854775808 ≤ 48 + (4 * k) ∧ 48 + (4 * k) ≤ 9223372036854775807, -9223372036854775808 ≤ 4 * k ∧ 4 * k ≤ 9223372036854775807] (fun _ => by kernel_rfl) mn (ac ⟨by omega, by omega⟩ (ac ⟨by omega, by omega⟩ an)) ?_
      refine TL.fin (by kernel_rfl) ?_
      refine EX.next ?_
      refine TR.ret (A := [z2]) (Ts := []) (by exact fun _ _ h => h) rfl rfl [] [] (vI (48 + (4 * k))) [] [] (fun _ => by kernel_rfl) mn an [] [0] [] [] [] (by kernel_rfl) (by kernel_rfl) (by kernel_rfl) ?_
      refine ⟨?_, rfl⟩
      simp only [playerAt, if_neg h2, if_neg h3]

set_option maxHeartbeats 400000 in
set_option maxRecDepth 100000 in
theorem lbody_any (S : Setup) (k : Int) (F : HL) (hn : SetN S) : Sp Tryz.prog 37 #[(Setup.v S), vI k] [] F (fun u H' => u = vI (bodyAt S k) ∧ H' = []) := by
  have h1 := hn.pl
  have h2 := hn.nb
  refine Sp.of_body Tryz.func37 rfl rfl rfl [(0, (Setup.v S)), (1, vI k)] rfl ?_
  intro w0
  refine TR.convH (ap [] []) rfl ?_
  refine TR.seq ?_
  refine TR.reg ?_
  refine TL.seg 2 [] [] [1, 2] (fun n1 => [(1, vI k), (2, vP (n1 + 0) 0)]) (fun n1 => (ap [((n1 + 0), .lit (Setup.l S) 32 (0, 0))] [])) (fun n1 => []) (fun n1 => []) (fun _ => by kernel_rfl) mn (fun n1 => an) ?_
  intro n1
  refine TL.fin (by kernel_rfl) ?_
  refine EX.next ?_
  refine TR.seq ?_
  refine TR.seq ?_
  refine TR.reg ?_
  rcases Decidable.em (k < 0) with h2 | h2
  · let z1 : Nat × Blk := ((n1 + 0), .lit (Setup.l S) 32 (0, 0))
    refine TL.seg0 9 [] [.gd true, .gd true, .gd true, .gd true, .gd true, .gd true] [1, 2, 13] [(1, vI k), (2, vP (n1 + 0) 0), (13, .bool true)] (ap [z1] []) [] [(decide (k < 0)) = true, (decide (k < 0)) = true, (decide (k < 0)) = true, (decide (k < 0)) = true, (decide (k < 0)) = true, (decide (k < 0)) = true] (fun _ => by kernel_rfl) mn (ac (decide_eq_true h2) (ac (decide_eq_true h2) (ac (decide_eq_true h2) (ac (decide_eq_true h2) (ac (decide_eq_true h2) (ac (decide_eq_true h2) an)))))) ?_
    refine TL.fin (by kernel_rfl) ?_
    refine EX.next ?_
    refine TR.yes (by kernel_rfl) (by kernel_rfl) (rfl : true = true) ?_
    refine TR.seq ?_
    refine TR.reg ?_
    refine TL.seg0 1 [] [] [4] [(4, vI (-1))] (ap [z1] []) [] [] (fun _ => by kernel_rfl) mn an ?_
    refine TL.fin (by kernel_rfl) ?_
    refine EX.next ?_
    refine TR.ret (A := [z1]) (Ts := []) (by exact fun _ _ h => h) rfl rfl [] [] (vI (-1)) [] [] (fun _ => by kernel_rfl) mn an [] [0] [] [] [] (by kernel_rfl) (by kernel_rfl) (by kernel_rfl) ?_
    refine ⟨?_, rfl⟩
    simp only [bodyAt, if_pos h2]
  · let z2 : Nat × Blk := ((n1 + 0), .lit (Setup.l S) 32 (0, 0))
    refine TL.seg0 9 [] [.gd false, .gd false, .gd false, .own 0, .gd false, .gd false, .gd false] [1, 2, 13] [(1, vI k), (2, vP (n1 + 0) 0), (13, .bool (decide (k ≥ (S.nb : Int))))] (ap [z2] []) [(n1 + 0)] [(decide (k < 0)) = false, (decide (k < 0)) = false, (decide (k < 0)) = false, (decide (k < 0)) = false, (decide (k < 0)) = false, (decide (k < 0)) = false] (fun _ => by kernel_rfl) mn (ac (decide_eq_false h2) (ac (decide_eq_false h2) (ac (decide_eq_false h2) (ac (decide_eq_false h2) (ac (decide_eq_false h2) (ac (decide_eq_false h2) an)))))) ?_
    refine TL.fin (by kernel_rfl) ?_
    refine EX.next ?_
    rcases Decidable.em (k ≥ (S.nb : Int)) with h3 | h3
    · refine TR.yes (b := decide (k ≥ (S.nb : Int))) (by kernel_rfl) (by kernel_rfl) (decide_eq_true h3) ?_
      refine TR.seq ?_
      refine TR.reg ?_
      refine TL.seg0 1 [] [] [4] [(4, vI (-1))] (ap [z2] []) [] [] (fun _ => by kernel_rfl) mn an ?_
      refine TL.fin (by kernel_rfl) ?_
      refine EX.next ?_
      refine TR.ret (A := [z2]) (Ts := []) (by exact fun _ _ h => h) rfl rfl [] [] (vI (-1)) [] [] (fun _ => by kernel_rfl) mn an [] [0] [] [] [] (by kernel_rfl) (by kernel_rfl) (by kernel_rfl) ?_
      refine ⟨?_, rfl⟩
      simp only [bodyAt, if_neg h2, if_pos h3]
    · refine TR.no (b := decide (k ≥ (S.nb : Int))) (by kernel_rfl) (by kernel_rfl) (decide_eq_false h3) ?_
      refine TR.skip ?_
      refine EX.next ?_
      refine TR.seq ?_
      refine TR.reg ?_
      refine TL.seg0 8 [] [.own 0, .nw, .nw, .nw, .nw] [4] [(4, vI ((48 + (4 * S.players)) + (8 * k)))] (ap [z2] []) [(n1 + 0)] [-9223372036854775808 ≤ (48 + (4 * S.players)) + (8 * k) ∧ (48 + (4 * S.players)) + (8 * k) ≤ 9223372036854775807, -9223372036854775808 ≤ 8 * k ∧ 8 * k ≤ 9223372036854775807, -9223372036854775808 ≤ 48 + (4 * S.players) ∧ 48 + (4 * S.players) ≤ 9223372036854775807, -9223372036854775808 ≤ 4 * S.players ∧ 4 * S.players ≤ 9223372036854775807] (fun _ => by kernel_rfl) mn (ac ⟨by omega, by omega⟩ (ac ⟨by omega, by omega⟩ (ac ⟨by omega, by omega⟩ (ac ⟨by omega, by omega⟩ an)))) ?_
      refine TL.fin (by kernel_rfl) ?_
      refine EX.next ?_
      refine TR.ret (A := [z2]) (Ts := []) (by exact fun _ _ h => h) rfl rfl [] [] (vI ((48 + (4 * S.players)) + (8 * k))) [] [] (fun _ => by kernel_rfl) mn an [] [0] [] [] [] (by kernel_rfl) (by kernel_rfl) (by kernel_rfl) ?_
      refine ⟨?_, rfl⟩
      simp only [bodyAt, if_neg h2, if_neg h3]

set_option maxHeartbeats 400000 in
set_option maxRecDepth 100000 in
theorem lsize_any (S : Setup) (F : HL) (hn : SetN S) : Sp Tryz.prog 38 #[(Setup.v S)] [] F (fun u H' => u = vI (sizeOf S) ∧ H' = []) := by
  have h1 := hn.pl
  have h2 := hn.nb
  refine Sp.of_body Tryz.func38 rfl rfl rfl [(0, (Setup.v S))] rfl ?_
  intro w0
  refine TR.convH (ap [] []) rfl ?_
  refine TR.seq ?_
  refine TR.reg ?_
  refine TL.seg 2 [] [] [1] (fun n1 => [(1, vP (n1 + 0) 0)]) (fun n1 => (ap [((n1 + 0), .lit (Setup.l S) 32 (0, 0))] [])) (fun n1 => []) (fun n1 => []) (fun _ => by kernel_rfl) mn (fun n1 => an) ?_
  intro n1
  refine TL.fin (by kernel_rfl) ?_
  refine EX.next ?_
  refine TR.seq ?_
  refine TR.reg ?_
  refine TL.seg0 10 [] [.own 0, .nw, .nw, .own 0, .nw, .nw] [2] [(2, vI ((48 + (4 * S.players)) + (8 * (S.nb : Int))))] (ap [((n1 + 0), .lit (Setup.l S) 32 (0, 0))] []) [(n1 + 0), (n1 + 0)] [-9223372036854775808 ≤ (48 + (4 * S.players)) + (8 * (S.nb : Int)) ∧ (48 + (4 * S.players)) + (8 * (S.nb : Int)) ≤ 9223372036854775807, -9223372036854775808 ≤ 8 * (S.nb : Int) ∧ 8 * (S.nb : Int) ≤ 9223372036854775807, -9223372036854775808 ≤ 48 + (4 * S.players) ∧ 48 + (4 * S.players) ≤ 9223372036854775807, -9223372036854775808 ≤ 4 * S.players ∧ 4 * S.players ≤ 9223372036854775807] (fun _ => by kernel_rfl) mn (ac ⟨by omega, by omega⟩ (ac ⟨by omega, by omega⟩ (ac ⟨by omega, by omega⟩ (ac ⟨by omega, by omega⟩ an)))) ?_
  refine TL.fin (by kernel_rfl) ?_
  refine EX.next ?_
  refine TR.ret (A := [((n1 + 0), .lit (Setup.l S) 32 (0, 0))]) (Ts := []) (by exact fun _ _ h => h) rfl rfl [] [] (vI ((48 + (4 * S.players)) + (8 * (S.nb : Int)))) [] [] (fun _ => by kernel_rfl) mn an [] [0] [] [] [] (by kernel_rfl) (by kernel_rfl) (by kernel_rfl) ?_
  exact ⟨rfl, rfl⟩

set_option maxHeartbeats 400000 in
set_option maxRecDepth 100000 in
theorem rbody_any (S : Setup) (k : Int) (F : HL) (hn : SetN S) : Sp Tryz.prog 14 #[(Setup.v S), vI k] [] F (fun u H' => u = vI (bodyAt S k) ∧ H' = []) := by
  have h1 := hn.pl
  have h2 := hn.nb
  refine Sp.of_body Tryz.func14 rfl rfl rfl [(0, (Setup.v S)), (1, vI k)] rfl ?_
  intro w0
  refine TR.convH (ap [] []) rfl ?_
  refine TR.seq ?_
  refine TR.reg ?_
  refine TL.seg 2 [] [] [1, 2] (fun n1 => [(1, vI k), (2, vP (n1 + 0) 0)]) (fun n1 => (ap [((n1 + 0), .lit (Setup.l S) 32 (0, 0))] [])) (fun n1 => []) (fun n1 => []) (fun _ => by kernel_rfl) mn (fun n1 => an) ?_
  intro n1
  refine TL.fin (by kernel_rfl) ?_
  refine EX.next ?_
  refine TR.seq ?_
  refine TR.seq ?_
  refine TR.reg ?_
  rcases Decidable.em (k < 0) with h2 | h2
  · let z1 : Nat × Blk := ((n1 + 0), .lit (Setup.l S) 32 (0, 0))
    refine TL.seg0 9 [] [.gd true, .gd true, .gd true, .gd true, .gd true, .gd true] [1, 2, 13] [(1, vI k), (2, vP (n1 + 0) 0), (13, .bool true)] (ap [z1] []) [] [(decide (k < 0)) = true, (decide (k < 0)) = true, (decide (k < 0)) = true, (decide (k < 0)) = true, (decide (k < 0)) = true, (decide (k < 0)) = true] (fun _ => by kernel_rfl) mn (ac (decide_eq_true h2) (ac (decide_eq_true h2) (ac (decide_eq_true h2) (ac (decide_eq_true h2) (ac (decide_eq_true h2) (ac (decide_eq_true h2) an)))))) ?_
    refine TL.fin (by kernel_rfl) ?_
    refine EX.next ?_
    refine TR.yes (by kernel_rfl) (by kernel_rfl) (rfl : true = true) ?_
    refine TR.seq ?_
    refine TR.reg ?_
    refine TL.seg0 1 [] [] [4] [(4, vI (-1))] (ap [z1] []) [] [] (fun _ => by kernel_rfl) mn an ?_
    refine TL.fin (by kernel_rfl) ?_
    refine EX.next ?_
    refine TR.ret (A := [z1]) (Ts := []) (by exact fun _ _ h => h) rfl rfl [] [] (vI (-1)) [] [] (fun _ => by kernel_rfl) mn an [] [0] [] [] [] (by kernel_rfl) (by kernel_rfl) (by kernel_rfl) ?_
    refine ⟨?_, rfl⟩
    simp only [bodyAt, if_pos h2]
  · let z2 : Nat × Blk := ((n1 + 0), .lit (Setup.l S) 32 (0, 0))
    refine TL.seg0 9 [] [.gd false, .gd false, .gd false, .own 0, .gd false, .gd false, .gd false] [1, 2, 13] [(1, vI k), (2, vP (n1 + 0) 0), (13, .bool (decide (k ≥ (S.nb : Int))))] (ap [z2] []) [(n1 + 0)] [(decide (k < 0)) = false, (decide (k < 0)) = false, (decide (k < 0)) = false, (decide (k < 0)) = false, (decide (k < 0)) = false, (decide (k < 0)) = false] (fun _ => by kernel_rfl) mn (ac (decide_eq_false h2) (ac (decide_eq_false h2) (ac (decide_eq_false h2) (ac (decide_eq_false h2) (ac (decide_eq_false h2) (ac (decide_eq_false h2) an)))))) ?_
    refine TL.fin (by kernel_rfl) ?_
    refine EX.next ?_
    rcases Decidable.em (k ≥ (S.nb : Int)) with h3 | h3
    · refine TR.yes (b := decide (k ≥ (S.nb : Int))) (by kernel_rfl) (by kernel_rfl) (decide_eq_true h3) ?_
      refine TR.seq ?_
      refine TR.reg ?_
      refine TL.seg0 1 [] [] [4] [(4, vI (-1))] (ap [z2] []) [] [] (fun _ => by kernel_rfl) mn an ?_
      refine TL.fin (by kernel_rfl) ?_
      refine EX.next ?_
      refine TR.ret (A := [z2]) (Ts := []) (by exact fun _ _ h => h) rfl rfl [] [] (vI (-1)) [] [] (fun _ => by kernel_rfl) mn an [] [0] [] [] [] (by kernel_rfl) (by kernel_rfl) (by kernel_rfl) ?_
      refine ⟨?_, rfl⟩
      simp only [bodyAt, if_neg h2, if_pos h3]
    · refine TR.no (b := decide (k ≥ (S.nb : Int))) (by kernel_rfl) (by kernel_rfl) (decide_eq_false h3) ?_
      refine TR.skip ?_
      refine EX.next ?_
      refine TR.seq ?_
      refine TR.reg ?_
      refine TL.seg0 8 [] [.own 0, .nw, .nw, .nw, .nw] [4] [(4, vI ((48 + (4 * S.players)) + (8 * k)))] (ap [z2] []) [(n1 + 0)] [-9223372036854775808 ≤ (48 + (4 * S.players)) + (8 * k) ∧ (48 + (4 * S.players)) + (8 * k) ≤ 9223372036854775807, -9223372036854775808 ≤ 8 * k ∧ 8 * k ≤ 9223372036854775807, -9223372036854775808 ≤ 48 + (4 * S.players) ∧ 48 + (4 * S.players) ≤ 9223372036854775807, -9223372036854775808 ≤ 4 * S.players ∧ 4 * S.players ≤ 9223372036854775807] (fun _ => by kernel_rfl) mn (ac ⟨by omega, by omega⟩ (ac ⟨by omega, by omega⟩ (ac ⟨by omega, by omega⟩ (ac ⟨by omega, by omega⟩ an)))) ?_
      refine TL.fin (by kernel_rfl) ?_
      refine EX.next ?_
      refine TR.ret (A := [z2]) (Ts := []) (by exact fun _ _ h => h) rfl rfl [] [] (vI ((48 + (4 * S.players)) + (8 * k))) [] [] (fun _ => by kernel_rfl) mn an [] [0] [] [] [] (by kernel_rfl) (by kernel_rfl) (by kernel_rfl) ?_
      refine ⟨?_, rfl⟩
      simp only [bodyAt, if_neg h2, if_neg h3]

set_option maxHeartbeats 400000 in
set_option maxRecDepth 100000 in
theorem rsize_any (S : Setup) (F : HL) (hn : SetN S) : Sp Tryz.prog 26 #[(Setup.v S)] [] F (fun u H' => u = vI (sizeOf S) ∧ H' = []) := by
  have h1 := hn.pl
  have h2 := hn.nb
  refine Sp.of_body Tryz.func26 rfl rfl rfl [(0, (Setup.v S))] rfl ?_
  intro w0
  refine TR.convH (ap [] []) rfl ?_
  refine TR.seq ?_
  refine TR.reg ?_
  refine TL.seg 2 [] [] [1] (fun n1 => [(1, vP (n1 + 0) 0)]) (fun n1 => (ap [((n1 + 0), .lit (Setup.l S) 32 (0, 0))] [])) (fun n1 => []) (fun n1 => []) (fun _ => by kernel_rfl) mn (fun n1 => an) ?_
  intro n1
  refine TL.fin (by kernel_rfl) ?_
  refine EX.next ?_
  refine TR.seq ?_
  refine TR.reg ?_
  refine TL.seg0 10 [] [.own 0, .nw, .nw, .own 0, .nw, .nw] [2] [(2, vI ((48 + (4 * S.players)) + (8 * (S.nb : Int))))] (ap [((n1 + 0), .lit (Setup.l S) 32 (0, 0))] []) [(n1 + 0), (n1 + 0)] [-9223372036854775808 ≤ (48 + (4 * S.players)) + (8 * (S.nb : Int)) ∧ (48 + (4 * S.players)) + (8 * (S.nb : Int)) ≤ 9223372036854775807, -9223372036854775808 ≤ 8 * (S.nb : Int) ∧ 8 * (S.nb : Int) ≤ 9223372036854775807, -9223372036854775808 ≤ 48 + (4 * S.players) ∧ 48 + (4 * S.players) ≤ 9223372036854775807, -9223372036854775808 ≤ 4 * S.players ∧ 4 * S.players ≤ 9223372036854775807] (fun _ => by kernel_rfl) mn (ac ⟨by omega, by omega⟩ (ac ⟨by omega, by omega⟩ (ac ⟨by omega, by omega⟩ (ac ⟨by omega, by omega⟩ an)))) ?_
  refine TL.fin (by kernel_rfl) ?_
  refine EX.next ?_
  refine TR.ret (A := [((n1 + 0), .lit (Setup.l S) 32 (0, 0))]) (Ts := []) (by exact fun _ _ h => h) rfl rfl [] [] (vI ((48 + (4 * S.players)) + (8 * (S.nb : Int)))) [] [] (fun _ => by kernel_rfl) mn an [] [0] [] [] [] (by kernel_rfl) (by kernel_rfl) (by kernel_rfl) ?_
  exact ⟨rfl, rfl⟩
end Go.Proofs.YtpkincoclhpcgaaGreatDoor
