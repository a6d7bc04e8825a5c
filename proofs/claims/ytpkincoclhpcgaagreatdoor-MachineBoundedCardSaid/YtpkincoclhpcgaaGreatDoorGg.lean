/- Contracts, printed by a program. -/
import Derived.Test.YtpkincoclhpcgaaGreatDoorGf
namespace Go.Proofs.YtpkincoclhpcgaaGreatDoor
set_option linter.unusedSimpArgs false
set_option linter.unusedVariables false
open Go.RowKit
structure Inp where (dx dy act : Int)
abbrev dI : Inp := ⟨0, 0, 0⟩

def inpE : Enc Inp := ⟨3, fun p k => match k with | 0 => vI p.dx | 1 => vI p.dy | _ => vI p.act, dI⟩
noncomputable def inpEI : TypeInfo := match Tryz.prog.info? 70 with | some i => i | none => ⟨.bool, "", 0, 0, false, 0, 0, none, false, #[]⟩
noncomputable def inpEZ : Value := match inpEI.zero with | some z => z | none => .bool false
theorem inpEOk : EncOk inpE Tryz.prog 70 inpEI inpEZ where
  info := by kernel_rfl
  zero := by kernel_rfl
  size := by kernel_rfl
  zsize := by kernel_rfl
  zcell := fun k hk => by
    have h : ∀ k < 3, inpEZ.cells[k]? = some (inpE.cell inpE.dflt k) := by intro k hk; (iterate 3 (rcases k with _ | k; · kernel_rfl)); omega
    exact h k hk
  one := fun x k => by unfold inpE; dsimp only; split <;> rfl
  bytes := Nat.le_of_ble_eq_true (by kernel_rfl)

abbrev inrow (l : List Inp) : Nat → Nat → Value := rowE inpE l
structure Stp where
  S : Setup
  cA : Option Addr
  cn : Nat
  cc : Nat
  e0 : Int
  e1 : Int
  e2 : Int
  version : Int
  ib : Nat
  io : Nat
  ni : Nat
  ic : Nat
  iR : Nat
  ins : List Inp
  i : Int
  j : Int
  ended : Bool
  f0 : Int
  f1 : Int
  f2 : Int
  f3 : Int
  emitted : Bool
def Stp.inp (t : Stp) (k : Nat) : Inp := t.ins.getD (t.io + k) dI
def movP (S : Setup) (k : Int) : Prop := (0 ≤ k ∧ k < S.nb) ∧ (S.body k.toNat).mot.inv > 0
instance (S : Setup) (k : Int) : Decidable (movP S k) := inferInstanceAs (Decidable (_ ∧ _))
theorem movP.has {S : Setup} {k : Int} (h : movP S k) : 0 ≤ k ∧ k < S.nb := h.1
def motM (S : Setup) (M : MemS) (k : Int) : Mot := ⟨M.get (bodyAt S k + 0), M.get (bodyAt S k + 1), M.get (bodyAt S k + 2), M.get (bodyAt S k + 3), (S.body k.toNat).mot.inv⟩
def beginM (t : Stp) (ph j : Int) (M : MemS) : MemS := ((M.set 1 ph).set 2 0).set 3 j
def setMotM (t : Stp) (k : Int) (m : Mot) (M : MemS) : MemS := (((M.set (bodyAt t.S k + 0) m.px).set (bodyAt t.S k + 1) m.py).set (bodyAt t.S k + 2) m.vx).set (bodyAt t.S k + 3) m.vy
def placeM (t : Stp) (c sp pos lo hi : Int) (M : MemS) : MemS := if clampI pos lo hi = pos then M.set c (clampI pos lo hi) else (M.set c (clampI pos lo hi)).set sp (w64 (0 - mulI ((M.set c (clampI pos lo hi)).get sp) t.S.rest))
def inputA (t : Stp) (M : MemS) : MemS := if t.i = 0 then (M.set 13 t.version).set 11 0 else M
def inputB (t : Stp) (M : MemS) : MemS := if playerAt t.S t.i ≥ 0 then if t.i < t.ni then ((M.set (playerAt t.S t.i + 0) (t.inp t.i.toNat).dx).set (playerAt t.S t.i + 1) (t.inp t.i.toNat).dy).set (playerAt t.S t.i + 2) (t.inp t.i.toNat).act else M else M
def inputC (t : Stp) (M : MemS) : MemS := if w64 (t.i + 1) < t.S.players then M.set 2 (w64 (t.i + 1)) else beginM t 1 0 M
def inputM (t : Stp) (M : MemS) : MemS := inputC t (inputB t (inputA t M))

abbrev Stp.l (t : Stp) (mb : Nat) : List Value := [.iface 41 (vP mb 0), vI t.S.players, vS t.S.bb (t.S.bo * 9) t.S.nb t.S.bc, vI t.S.box.x0, vI t.S.box.y0, vI t.S.box.x1, vI t.S.box.y1, .slice t.S.rA t.S.rn t.S.rc, .slice t.S.dA t.S.dn t.S.dc, vI t.S.fog, vI t.S.g.x, vI t.S.g.y, vI t.S.push, vI t.S.drag, vI t.S.rest, vI t.S.rounds, vI t.S.fuel, .slice t.cA t.cn t.cc, vI t.e0, vI t.e1, vI t.e2, vI t.version, vS t.ib (t.io * 3) t.ni t.ic, vI t.i, vI t.j, .bool t.ended, vI t.f0, vI t.f1, vI t.f2, vI t.f3, .bool t.emitted]

set_option maxHeartbeats 400000 in
set_option maxRecDepth 100000 in
theorem has_any (t : Stp) (k : Int) (tb mb : Nat) (F : HL) (hb : (tb, .lit (Stp.l t mb) 83 (0, 0)) ∈ F) : Sp Tryz.prog 52 #[vP tb 0, vI k] [] F (fun u H' => u = .bool (decide (0 ≤ k ∧ k < t.S.nb)) ∧ H' = []) := by
  refine Sp.of_body Tryz.func52 rfl rfl rfl [(0, vP tb 0), (1, vI k)] rfl ?_
  intro w0
  refine TR.convH (ap [] []) rfl ?_
  refine TR.seq ?_
  refine TR.reg ?_
  refine TL.seg0 1 [] [] [0, 1] [(0, vP tb 0), (1, vI k)] (ap [] []) [] [] (fun _ => by kernel_rfl) mn an ?_
  refine TL.fin (by kernel_rfl) ?_
  refine EX.next ?_
  refine TR.seq ?_
  refine TR.reg ?_
  rcases Decidable.em (k ≥ 0) with h1 | h1
  · refine TL.seg0 13 [(tb, .lit (Stp.l t mb) 83 (0, 0))] [.gd true, .gd true, .gd true, .gd true, .gd true, .gd true, .ro 0, .gd true, .gd true, .gd true] [4] [(4, .bool (decide (k < (t.S.nb : Int))))] (ap [] []) [tb] [(decide (k ≥ 0)) = true, (decide (k ≥ 0)) = true, (decide (k ≥ 0)) = true, (decide (k ≥ 0)) = true, (decide (k ≥ 0)) = true, (decide (k ≥ 0)) = true, (decide (k ≥ 0)) = true, (decide (k ≥ 0)) = true, (decide (k ≥ 0)) = true] (fun _ => by kernel_rfl) (mc hb mn) (ac (decide_eq_true h1) (ac (decide_eq_true h1) (ac (decide_eq_true h1) (ac (decide_eq_true h1) (ac (decide_eq_true h1) (ac (decide_eq_true h1) (ac (decide_eq_true h1) (ac (decide_eq_true h1) (ac (decide_eq_true h1) an))))))))) ?_
    refine TL.fin (by kernel_rfl) ?_
    refine EX.next ?_
    refine TR.ret (A := []) (Ts := []) (by exact fun _ _ h => h) rfl rfl [] [] (.bool (decide (k < (t.S.nb : Int)))) [] [] (fun _ => by kernel_rfl) mn an [] [] [] [] [] (by kernel_rfl) (by kernel_rfl) (by kernel_rfl) ?_
    exact ⟨by simp [*], rfl⟩
  · refine TL.seg0 13 [] [.gd false, .gd false, .gd false, .gd false, .gd false, .gd false, .gd false, .gd false, .gd false] [4] [(4, .bool false)] (ap [] []) [] [(decide (k ≥ 0)) = false, (decide (k ≥ 0)) = false, (decide (k ≥ 0)) = false, (decide (k ≥ 0)) = false, (decide (k ≥ 0)) = false, (decide (k ≥ 0)) = false, (decide (k ≥ 0)) = false, (decide (k ≥ 0)) = false, (decide (k ≥ 0)) = false] (fun _ => by kernel_rfl) mn (ac (decide_eq_false h1) (ac (decide_eq_false h1) (ac (decide_eq_false h1) (ac (decide_eq_false h1) (ac (decide_eq_false h1) (ac (decide_eq_false h1) (ac (decide_eq_false h1) (ac (decide_eq_false h1) (ac (decide_eq_false h1) an))))))))) ?_
    refine TL.fin (by kernel_rfl) ?_
    refine EX.next ?_
    refine TR.ret (A := []) (Ts := []) (by exact fun _ _ h => h) rfl rfl [] [] (.bool false) [] [] (fun _ => by kernel_rfl) mn an [] [] [] [] [] (by kernel_rfl) (by kernel_rfl) (by kernel_rfl) ?_
    exact ⟨by simp [*], rfl⟩

set_option maxHeartbeats 400000 in
set_option maxRecDepth 100000 in
theorem movable_any (t : Stp) (k : Int) (tb mb : Nat) (F : HL) (hb : (tb, .lit (Stp.l t mb) 83 (0, 0)) ∈ F) (hS : SetIn F t.S) : Sp Tryz.prog 48 #[vP tb 0, vI k] [] F (fun u H' => u = .bool (decide (movP t.S k)) ∧ H' = []) := by
  have hn := hS.nb
  have hr := hS.room
  refine Sp.of_body Tryz.func48 rfl rfl rfl [(0, vP tb 0), (1, vI k)] rfl ?_
  intro w0
  refine TR.convH (ap [] []) rfl ?_
  refine TR.seq ?_
  refine TR.reg ?_
  refine TL.seg0 1 [] [] [0, 1] [(0, vP tb 0), (1, vI k)] (ap [] []) [] [] (fun _ => by kernel_rfl) mn an ?_
  refine TL.fin (by kernel_rfl) ?_
  refine EX.next ?_
  refine TR.seq ?_
  refine TR.reg ?_
  refine TL.seg0 2 [] [] [0, 1, 5, 6] [(0, vP tb 0), (1, vI k), (5, vP tb 0), (6, vI k)] (ap [] []) [] [] (fun _ => by kernel_rfl) mn an ?_
  refine TL.callp (dst := (some 7)) (f := 52) (args := #[vP tb 0, vI k]) (H1 := (ap [] [])) (E := []) (Ob := []) [] [] [0, 1, 7] (.bool (decide (0 ≤ k ∧ k < t.S.nb))) [(0, vP tb 0), (1, vI k), (7, .bool (decide (0 ≤ k ∧ k < t.S.nb)))] (fun _ => by kernel_rfl) mn an (has_any t k tb mb _ (List.mem_append_right _ hb)) (by kernel_rfl) ?_
  rcases Decidable.em (0 ≤ k ∧ k < t.S.nb) with h1 | h1
  · refine TL.seg0 14 [(tb, .lit (Stp.l t mb) 83 (0, 0)), (t.S.bb, .rows 9 t.S.bR (brow t.S.bods) 40 (0, 0))] [.gd true, .gd true, .gd true, .gd true, .gd true, .ro 0, .gd true, .gd true, .ix ((k).toNat), .gd true, .gd true, .gd true, .rorow 1 (t.S.bo + ((k).toNat)) 6, .gd true, .gd true] [4] [(4, .bool (decide ((t.S.bods.getD (t.S.bo + ((k).toNat)) dB).mot.inv > 0)))] (ap [] []) [t.S.bb, tb] [(decide (0 ≤ k ∧ k < t.S.nb)) = true, (decide (0 ≤ k ∧ k < t.S.nb)) = true, ((t.S.bo * 9 + ((k).toNat) * 9) + 6) = (t.S.bo + ((k).toNat)) * 9 + 6 ∧ (t.S.bo + ((k).toNat)) < t.S.bR, (decide (0 ≤ k ∧ k < t.S.nb)) = true, (decide (0 ≤ k ∧ k < t.S.nb)) = true, (decide (0 ≤ k ∧ k < t.S.nb)) = true, k = (((k).toNat : Nat) : Int) ∧ (k).toNat < t.S.nb, (decide (0 ≤ k ∧ k < t.S.nb)) = true, (decide (0 ≤ k ∧ k < t.S.nb)) = true, (decide (0 ≤ k ∧ k < t.S.nb)) = true, (decide (0 ≤ k ∧ k < t.S.nb)) = true, (decide (0 ≤ k ∧ k < t.S.nb)) = true, (decide (0 ≤ k ∧ k < t.S.nb)) = true, (decide (0 ≤ k ∧ k < t.S.nb)) = true] (fun _ => by kernel_rfl) (mc hb (mc hS.blk mn)) (ac (decide_eq_true h1) (ac (decide_eq_true h1) (ac ⟨by omega, by omega⟩ (ac (decide_eq_true h1) (ac (decide_eq_true h1) (ac (decide_eq_true h1) (ac ⟨by omega, by omega⟩ (ac (decide_eq_true h1) (ac (decide_eq_true h1) (ac (decide_eq_true h1) (ac (decide_eq_true h1) (ac (decide_eq_true h1) (ac (decide_eq_true h1) (ac (decide_eq_true h1) an)))))))))))))) ?_
    refine TL.fin (by kernel_rfl) ?_
    refine EX.next ?_
    refine TR.ret (A := []) (Ts := []) (by exact fun _ _ h => h) rfl rfl [] [] (.bool (decide ((t.S.bods.getD (t.S.bo + ((k).toNat)) dB).mot.inv > 0))) [] [] (fun _ => by kernel_rfl) mn an [] [] [] [] [] (by kernel_rfl) (by kernel_rfl) (by kernel_rfl) ?_
    refine ⟨?_, rfl⟩
    simp [movP, Setup.body, *]
  · refine TL.seg0 14 [] [.gd false, .gd false, .gd false, .gd false, .gd false, .gd false, .gd false, .gd false, .gd false, .gd false, .gd false, .gd false] [4] [(4, .bool false)] (ap [] []) [] [(decide (0 ≤ k ∧ k < t.S.nb)) = false, (decide (0 ≤ k ∧ k < t.S.nb)) = false, (decide (0 ≤ k ∧ k < t.S.nb)) = false, (decide (0 ≤ k ∧ k < t.S.nb)) = false, (decide (0 ≤ k ∧ k < t.S.nb)) = false, (decide (0 ≤ k ∧ k < t.S.nb)) = false, (decide (0 ≤ k ∧ k < t.S.nb)) = false, (decide (0 ≤ k ∧ k < t.S.nb)) = false, (decide (0 ≤ k ∧ k < t.S.nb)) = false, (decide (0 ≤ k ∧ k < t.S.nb)) = false, (decide (0 ≤ k ∧ k < t.S.nb)) = false, (decide (0 ≤ k ∧ k < t.S.nb)) = false] (fun _ => by kernel_rfl) mn (ac (decide_eq_false h1) (ac (decide_eq_false h1) (ac (decide_eq_false h1) (ac (decide_eq_false h1) (ac (decide_eq_false h1) (ac (decide_eq_false h1) (ac (decide_eq_false h1) (ac (decide_eq_false h1) (ac (decide_eq_false h1) (ac (decide_eq_false h1) (ac (decide_eq_false h1) (ac (decide_eq_false h1) an)))))))))))) ?_
    refine TL.fin (by kernel_rfl) ?_
    refine EX.next ?_
    refine TR.ret (A := []) (Ts := []) (by exact fun _ _ h => h) rfl rfl [] [] (.bool false) [] [] (fun _ => by kernel_rfl) mn an [] [] [] [] [] (by kernel_rfl) (by kernel_rfl) (by kernel_rfl) ?_
    refine ⟨?_, rfl⟩
    simp [movP, Setup.body, *]

set_option maxHeartbeats 400000 in
set_option maxRecDepth 100000 in
theorem motion_any (t : Stp) (i : Int) (tb mb : Nat) (M : MemS) (k : Nat) (T F : HL) (hb : (tb, .lit (Stp.l t mb) 83 (0, 0)) ∈ F) (hS : SetIn F t.S) (hM : MemH mb M k T) (hT : ∀ x ∈ T, x ∈ F) (hi : 0 ≤ i ∧ i < t.S.nb) : Sp Tryz.prog 49 #[vP tb 0, vI i] [] F (fun u H' => u = .agg #[vI ((motM t.S M i).px), vI ((motM t.S M i).py), vI ((motM t.S M i).vx), vI ((motM t.S M i).vy), vI ((motM t.S M i).inv)] ∧ H' = []) := by
  have hp := hS.pl
  have hn := hS.nb
  have hr := hS.room
  refine Sp.of_body Tryz.func49 rfl rfl rfl [(0, vP tb 0), (1, vI i)] rfl ?_
  intro w0
  refine TR.convH (ap [] []) rfl ?_
  refine TR.seq ?_
  refine TR.reg ?_
  refine TL.seg 1 [] [] [0, 1, 4] (fun n1 => [(0, vP tb 0), (1, vI i), (4, vP (n1 + 0) 0)]) (fun n1 => (ap [((n1 + 0), .lit [vI 0, vI 0, vI 0, vI 0, vI 0] 38 (0, 0))] [])) (fun n1 => []) (fun n1 => []) (fun _ => by kernel_rfl) mn (fun n1 => an) ?_
  intro n1
  refine TL.fin (by kernel_rfl) ?_
  refine EX.next ?_
  refine TR.seq ?_
  refine TR.reg ?_
  let z1 : Nat × Blk := (tb, .lit (Stp.l t mb) 83 (0, 0))
  let z2 : Nat × Value := (4, vP (n1 + 0) 0)
  let z3 : Nat × Blk := ((n1 + 0), .lit [vI 0, vI 0, vI 0, vI 0, vI 0] 38 (0, 0))
  refine TL.seg0 5 [z1] [.ro 0, .ro 0, .ro 0, .ro 0, .ro 0, .ro 0, .ro 0, .ro 0, .ro 0, .ro 0, .ro 0, .ro 0, .ro 0, .ro 0, .ro 0, .ro 0] [0, 1, 4, 9, 10] [(0, vP tb 0), (1, vI i), z2, (9, (Setup.v t.S)), (10, vI i)] (ap [z3] []) [tb, tb, tb, tb, tb, tb, tb, tb, tb, tb, tb, tb, tb, tb, tb, tb] [] (fun _ => by kernel_rfl) (mc hb mn) an ?_
  let z4 := bodyAt t.S i
  refine TL.callp (dst := (some 11)) (f := 37) (args := #[(Setup.v t.S), vI i]) (H1 := (ap [z3] [])) (E := []) (Ob := []) [] [] [0, 1, 4, 11] (vI z4) [(0, vP tb 0), (1, vI i), z2, (11, vI z4)] (fun _ => by kernel_rfl) mn an (lbody_any t.S i _ hS.toSetN) (by kernel_rfl) ?_
  have hb2 := bodyAt_bd hS.toSetN i
  refine TL.seg0 1 [] [] [0, 1, 4, 5] [(0, vP tb 0), (1, vI i), z2, (5, vI z4)] (ap [z3] []) [] [] (fun _ => by kernel_rfl) mn an ?_
  refine TL.fin (by kernel_rfl) ?_
  refine EX.next ?_
  refine TR.seq ?_
  refine TR.draw [41] [] rfl (by kernel_rfl) ?_
  let z5 := t.S.bo + ((i).toNat)
  let z6 := z4 + 0
  let z7 : Nat × Value := (22, .iface 41 (vP mb 0))
  let z8 := z4 + 1
  let z9 : Nat × Value := (24, vI z8)
  let z10 : Nat × Value := (30, .iface 41 (vP mb 0))
  let z11 := z4 + 2
  let z12 : Nat × Value := (32, vI z11)
  let z13 : Nat × Value := (37, .iface 41 (vP mb 0))
  let z14 := z4 + 3
  let z15 : Nat × Value := (39, vI z14)
  let z16 : Nat × Value := (51, vI ((t.S.bods.getD z5 dB).mot.inv))
  refine TD.vals [] (by kernel_rfl) [0, 4, 7, 11, 15, 19, 22, 26, 30, 35, 1, 5, 8, 12, 16, 20, 23, 27, 31, 2, 9, 17, 24, 32, 3, 10, 18, 25, 33, 34, 36, 37, 38, 39] [z1, (t.S.bb, .rows 9 t.S.bR (brow t.S.bods) 40 (0, 0))] [.nw, .nw, .nw, .nw, .ro 0, .ro 0, .ro 0, .ro 0, .ro 0, .ix ((i).toNat), .rorow 1 z5 6] [4, 15, 17, 22, 24, 30, 32, 37, 39, 51] [true, true, true, true, true, true, false, true, true, true, true, true, true, false, false, true, true, true, true, true, true, false, true, true, true, true, true, true, false, false, true, true, true, true, true, true, true, true, true, true, false, false] [z2, (15, .iface 41 (vP mb 0)), (17, vI z6), z7, z9, z10, z12, z13, z15, z16] [t.S.bb, tb, tb, tb, tb, tb] [((t.S.bo * 9 + ((i).toNat) * 9) + 6) = (t.S.bo + ((i).toNat)) * 9 + 6 ∧ (t.S.bo + ((i).toNat)) < t.S.bR, i = (((i).toNat : Nat) : Int) ∧ (i).toNat < t.S.nb, -9223372036854775808 ≤ (bodyAt t.S i) + 3 ∧ (bodyAt t.S i) + 3 ≤ 9223372036854775807, -9223372036854775808 ≤ (bodyAt t.S i) + 2 ∧ (bodyAt t.S i) + 2 ≤ 9223372036854775807, -9223372036854775808 ≤ (bodyAt t.S i) + 1 ∧ (bodyAt t.S i) + 1 ≤ 9223372036854775807, -9223372036854775808 ≤ (bodyAt t.S i) + 0 ∧ (bodyAt t.S i) + 0 ≤ 9223372036854775807] (by kernel_rfl) (by kernel_rfl) (mc hb (mc hS.blk mn)) (ac ⟨by omega, by omega⟩ (ac ⟨by omega, by omega⟩ (ac ⟨by omega, by omega⟩ (ac ⟨by omega, by omega⟩ (ac ⟨by omega, by omega⟩ (ac ⟨by omega, by omega⟩ an)))))) 8 rfl ?_
  let z17 := M.get z6
  let z18 : Nat × Value := (18, vI z17)
  refine TD.callv [] (by kernel_rfl) 6 [] [] (dst := (some 18)) (f := 28) (args := #[vP mb 0, vI z6]) (E := []) (Ob := []) [4, 18, 22, 24, 30, 32, 37, 39, 51] (vI z17) [z2, z18, z7, z9, z10, z12, z13, z15, z16] (by kernel_rfl) (by kernel_rfl) (by kernel_rfl) mn an (fun X_ => (get_any z6 hM (fun x hx => List.mem_append_right _ (List.mem_append_right _ (hT x hx))))) (by kernel_rfl) 7 rfl ?_
  let z19 := M.get z8
  refine TD.callv [] (by kernel_rfl) 13 [] [] (dst := (some 25)) (f := 28) (args := #[vP mb 0, vI z8]) (E := []) (Ob := []) [4, 18, 25, 30, 32, 37, 39, 51] (vI z19) [z2, z18, (25, vI z19), z10, z12, z13, z15, z16] (by kernel_rfl) (by kernel_rfl) (by kernel_rfl) mn an (fun X_ => (get_any z8 hM (fun x hx => List.mem_append_right _ (List.mem_append_right _ (hT x hx))))) (by kernel_rfl) 6 rfl ?_
  let z20 : Nat × Value := (26, .agg #[vI z17, vI z19])
  refine TD.vals [] (by kernel_rfl) [14] [] [] [4, 26, 30, 32, 37, 39, 51] [true, true, true, true, true, true, true, true, true, true, true, true, true, true, true, true, true, true, true, true, true, false, true, true, true, true, true, true, false, false, true, true, true, true, true, true, true, true, true, true, false, false] [z2, z20, z10, z12, z13, z15, z16] [] [] (by kernel_rfl) (by kernel_rfl) mn an 5 rfl ?_
  let z21 := M.get z11
  let z22 : Nat × Value := (33, vI z21)
  refine TD.callv [] (by kernel_rfl) 21 [] [] (dst := (some 33)) (f := 28) (args := #[vP mb 0, vI z11]) (E := []) (Ob := []) [4, 26, 33, 37, 39, 51] (vI z21) [z2, z20, z22, z13, z15, z16] (by kernel_rfl) (by kernel_rfl) (by kernel_rfl) mn an (fun X_ => (get_any z11 hM (fun x hx => List.mem_append_right _ (List.mem_append_right _ (hT x hx))))) (by kernel_rfl) 4 rfl ?_
  let z23 := M.get z14
  refine TD.callv [] (by kernel_rfl) 28 [] [] (dst := (some 40)) (f := 28) (args := #[vP mb 0, vI z14]) (E := []) (Ob := []) [4, 26, 33, 40, 51] (vI z23) [z2, z20, z22, (40, vI z23), z16] (by kernel_rfl) (by kernel_rfl) (by kernel_rfl) mn an (fun X_ => (get_any z14 hM (fun x hx => List.mem_append_right _ (List.mem_append_right _ (hT x hx))))) (by kernel_rfl) 3 rfl ?_
  refine TD.vals [] (by kernel_rfl) [29, 40] [] [] [4, 52] [true, true, true, true, true, true, true, true, true, true, true, true, true, true, true, true, true, true, true, true, true, true, true, true, true, true, true, true, true, true, true, true, true, true, true, true, true, true, true, true, true, false] [z2, (52, .agg #[vI z17, vI z19, vI z21, vI z23, vI ((t.S.bods.getD z5 dB).mot.inv)])] [] [] (by kernel_rfl) (by kernel_rfl) mn an 1 rfl ?_
  refine TD.one 41 (by kernel_rfl) 0 rfl fun a_ hF_ hcl_ => ?_
  let z24 : Nat × Blk := ((n1 + 0), .lit [vI z17, vI z19, vI z21, vI z23, vI ((t.S.bods.getD z5 dB).mot.inv)] 38 (0, 0))
  refine OPJ.ev [] [.own 0, .own 0, .own 0, .own 0, .own 0] [4] (fun _ => [z2]) (fun _ => (ap [z24] [])) (fun _ => [(n1 + 0), (n1 + 0), (n1 + 0), (n1 + 0), (n1 + 0)]) (fun _ => []) (fun _ => by kernel_rfl) mn (fun _ => an) (.inl ⟨[], fun _ => by kernel_rfl⟩) (.inl (by decide)) (fun _ => ?_) hF_ hcl_
  refine TD.fin (by kernel_rfl) (EX.np ?_)
  refine EX.next ?_
  refine TR.ret (A := [z24]) (Ts := []) (by exact fun _ _ h => h) rfl rfl [] [.own 0, .own 0, .own 0, .own 0, .own 0] (.agg #[vI z17, vI z19, vI z21, vI z23, vI ((t.S.bods.getD z5 dB).mot.inv)]) [(n1 + 0), (n1 + 0), (n1 + 0), (n1 + 0), (n1 + 0)] [] (fun _ => by kernel_rfl) mn an [] [0] [] [] [] (by kernel_rfl) (by kernel_rfl) (by kernel_rfl) ?_
  exact ⟨rfl, rfl⟩

set_option maxHeartbeats 4000000 in
set_option maxRecDepth 100000 in
theorem begin_any (t : Stp) (ph : Int) (j : Int) (tb mb : Nat) (M : MemS) (k : Nat) (T F : HL) (hM : MemH mb M (k + 3) T) (hS : SetIn F t.S)  : Sp Tryz.prog 45 #[vP tb 0, vI ph, vI j] (ap [(tb, .lit (Stp.l t mb) 83 (0, 0))] [T]) F (fun u H' => ∃ x, H' = ap [(tb, .lit (Stp.l t mb) 83 (0, 0))] [x] ∧ (MemH mb (beginM t ph j M) k x)) := by
  have hp := hS.pl
  have hn := hS.nb
  have hr := hS.room
  refine Sp.of_body Tryz.func45 rfl rfl rfl [(0, vP tb 0), (1, vI ph), (2, vI j)] rfl ?_
  intro w0
  let z1 : Nat × Blk := (tb, .lit (Stp.l t mb) 83 (0, 0))
  refine TR.convH (ap [z1] [T]) rfl ?_
  refine TR.seq ?_
  refine TR.reg ?_
  refine TL.seg0 5 [] [.own 0] [0, 2, 9, 10] [(0, vP tb 0), (2, vI j), (9, .iface 41 (vP mb 0)), (10, vI ph)] (ap [z1] [T]) [tb] [] (fun _ => by kernel_rfl) mn an ?_
  refine TL.callT (τ := HL) [] [] (dst := (some 11)) (f := 150) (args := #[vP mb 0, vI 1, vI ph]) (A := [z1]) (Ts := [T]) (E := []) (Ob := []) [] [0] [0] [] [0, 2] [] [z1] [T] [] (fun _ => []) (fun x => [x]) (fun _ x => MemH mb (M.set 1 ph) (k + 2) x) (fun v_ => [(0, vP tb 0), (2, vI j)]) (fun _ => by kernel_rfl) mn an (by kernel_rfl) (by kernel_rfl) (by kernel_rfl) (by kernel_rfl) (by kernel_rfl) (by kernel_rfl) (fun _ => by kernel_rfl) (set_any 1 ph hM) ?_
  rintro _ T1 hM2
  refine TL.fin (by kernel_rfl) ?_
  refine EX.next ?_
  refine TR.seq ?_
  refine TR.reg ?_
  refine TL.seg0 4 [] [.own 0] [0, 2, 15] [(0, vP tb 0), (2, vI j), (15, .iface 41 (vP mb 0))] (ap [z1] [T1]) [tb] [] (fun _ => by kernel_rfl) mn an ?_
  refine TL.callT (τ := HL) [] [] (dst := (some 16)) (f := 150) (args := #[vP mb 0, vI 2, vI 0]) (A := [z1]) (Ts := [T1]) (E := []) (Ob := []) [] [0] [0] [] [0, 2] [] [z1] [T1] [] (fun _ => []) (fun x => [x]) (fun _ x => MemH mb ((M.set 1 ph).set 2 0) (k + 1) x) (fun v_ => [(0, vP tb 0), (2, vI j)]) (fun _ => by kernel_rfl) mn an (by kernel_rfl) (by kernel_rfl) (by kernel_rfl) (by kernel_rfl) (by kernel_rfl) (by kernel_rfl) (fun _ => by kernel_rfl) (set_any 2 0 hM2) ?_
  rintro _ T3 hM4
  refine TL.fin (by kernel_rfl) ?_
  refine EX.next ?_
  refine TR.reg ?_
  refine TL.seg0 5 [] [.own 0] [20, 21] [(20, .iface 41 (vP mb 0)), (21, vI j)] (ap [z1] [T3]) [tb] [] (fun _ => by kernel_rfl) mn an ?_
  refine TL.callT (τ := HL) [] [] (dst := (some 22)) (f := 150) (args := #[vP mb 0, vI 3, vI j]) (A := [z1]) (Ts := [T3]) (E := []) (Ob := []) [] [0] [0] [] [] [] [z1] [T3] [] (fun _ => []) (fun x => [x]) (fun _ x => MemH mb (((M.set 1 ph).set 2 0).set 3 j) k x) (fun v_ => []) (fun _ => by kernel_rfl) mn an (by kernel_rfl) (by kernel_rfl) (by kernel_rfl) (by kernel_rfl) (by kernel_rfl) (by kernel_rfl) (fun _ => by kernel_rfl) (set_any 3 j hM4) ?_
  rintro _ T5 hM6
  refine TL.fin (by kernel_rfl) ?_
  refine EX.fin (A := [z1]) (Ts := [T5]) rfl rfl [] [] (.tuple #[]) [] [] (fun _ => by kernel_rfl) mn an [0] [] [0] [] (ap [z1] [T5]) (by kernel_rfl) (by kernel_rfl) (by kernel_rfl) ?_
  refine ⟨T5, rfl, ?_⟩
  have e : (beginM t ph j M) = (((M.set 1 ph).set 2 0).set 3 j) := by
    first | (simp only [beginM]; done) | (simp only [beginM]; rfl) | rfl
  rw [e]
  exact hM6.weak (by omega)

set_option maxHeartbeats 4000000 in
set_option maxRecDepth 100000 in
theorem setMotion_any (t : Stp) (i : Int) (m : Mot) (tb mb : Nat) (M : MemS) (k : Nat) (T F : HL) (hM : MemH mb M (k + 4) T) (hS : SetIn F t.S)  : Sp Tryz.prog 60 #[vP tb 0, vI i, .agg #[vI m.px, vI m.py, vI m.vx, vI m.vy, vI m.inv]] (ap [(tb, .lit (Stp.l t mb) 83 (0, 0))] [T]) F (fun u H' => ∃ x, H' = ap [(tb, .lit (Stp.l t mb) 83 (0, 0))] [x] ∧ (MemH mb (setMotM t i m M) k x)) := by
  have hp := hS.pl
  have hn := hS.nb
  have hr := hS.room
  refine Sp.of_body Tryz.func60 rfl rfl rfl [(0, vP tb 0), (1, vI i), (2, .agg #[vI m.px, vI m.py, vI m.vx, vI m.vy, vI m.inv])] rfl ?_
  intro w0
  let z1 : Nat × Blk := (tb, .lit (Stp.l t mb) 83 (0, 0))
  refine TR.convH (ap [z1] [T]) rfl ?_
  refine TR.seq ?_
  refine TR.reg ?_
  let z2 : List Value := [vI m.px, vI m.py, vI m.vx, vI m.vy, vI m.inv]
  refine TL.seg 1 [] [] [0, 1, 5] (fun n1 => [(0, vP tb 0), (1, vI i), (5, vP (n1 + 0) 0)]) (fun n1 => (ap [((n1 + 0), .lit z2 38 (0, 0)), z1] [T])) (fun n1 => []) (fun n1 => []) (fun _ => by kernel_rfl) mn (fun n1 => an) ?_
  intro n1
  refine TL.fin (by kernel_rfl) ?_
  refine EX.next ?_
  refine TR.seq ?_
  refine TR.reg ?_
  let z3 : Nat × Value := (5, vP (n1 + 0) 0)
  let z4 : Nat × Blk := ((n1 + 0), .lit z2 38 (0, 0))
  refine TL.seg0 5 [] [.own 1, .own 1, .own 1, .own 1, .own 1, .own 1, .own 1, .own 1, .own 1, .own 1, .own 1, .own 1, .own 1, .own 1, .own 1, .own 1] [0, 5, 10, 11] [(0, vP tb 0), z3, (10, (Setup.v t.S)), (11, vI i)] (ap [z4, z1] [T]) [tb, tb, tb, tb, tb, tb, tb, tb, tb, tb, tb, tb, tb, tb, tb, tb] [] (fun _ => by kernel_rfl) mn an ?_
  let z5 := bodyAt t.S i
  refine TL.callp (dst := (some 12)) (f := 37) (args := #[(Setup.v t.S), vI i]) (H1 := (ap [z4, z1] [T])) (E := []) (Ob := []) [] [] [0, 5, 12] (vI z5) [(0, vP tb 0), z3, (12, vI z5)] (fun _ => by kernel_rfl) mn an (lbody_any t.S i _ hS.toSetN) (by kernel_rfl) ?_
  have hb2 := bodyAt_bd hS.toSetN i
  let z6 : Nat × Value := (6, vI z5)
  refine TL.seg0 1 [] [] [0, 5, 6] [(0, vP tb 0), z3, z6] (ap [z4, z1] [T]) [] [] (fun _ => by kernel_rfl) mn an ?_
  refine TL.fin (by kernel_rfl) ?_
  refine EX.next ?_
  refine TR.seq ?_
  refine TR.draw [9] [] rfl (by kernel_rfl) ?_
  let z7 := z5 + 0
  refine TD.vals [] (by kernel_rfl) [0, 4, 6, 1, 5, 7, 2, 8, 3] [] [.nw, .own 0, .own 1] [0, 5, 6, 16, 18, 21] [true, true, true, true, true, true, true, true, true, false] [(0, vP tb 0), z3, z6, (16, .iface 41 (vP mb 0)), (18, vI z7), (21, vI m.px)] [tb, (n1 + 0)] [-9223372036854775808 ≤ (bodyAt t.S i) + 0 ∧ (bodyAt t.S i) + 0 ≤ 9223372036854775807] (by kernel_rfl) (by kernel_rfl) mn (ac ⟨by omega, by omega⟩ an) 1 rfl ?_
  refine TD.one 9 (by kernel_rfl) 0 rfl fun a_ hF_ hcl_ => ?_
  let z8 := M.set z7 m.px
  refine OPJ.callT (τ := HL) [] [] (dst := (some 22)) (f := 150) (args := #[vP mb 0, vI z7, vI m.px]) (A := [z4, z1]) (Ts := [T]) (E := []) (Ob := []) [] [0, 1] [0] [] [0, 5, 6] [] [z4, z1] [T] [] (fun _ => []) (fun x => [x]) (fun _ x => MemH mb z8 (k + 3) x) (fun v_ => [(0, vP tb 0), z3, z6]) (fun _ => by kernel_rfl) mn an (by kernel_rfl) (by kernel_rfl) (by kernel_rfl) (by kernel_rfl) (by kernel_rfl) (by kernel_rfl) (fun _ => by kernel_rfl) [] (.inl (by kernel_rfl)) (.inl (by decide)) (set_any z7 m.px hM) ?_ hF_ hcl_
  rintro _ T3 hM4
  refine TD.fin (by kernel_rfl) (EX.np ?_)
  refine EX.next ?_
  refine TR.seq ?_
  refine TR.draw [9] [] rfl (by kernel_rfl) ?_
  let z9 := z5 + 1
  refine TD.vals [] (by kernel_rfl) [0, 4, 6, 1, 5, 7, 2, 8, 3] [] [.nw, .own 0, .own 1] [0, 5, 6, 26, 28, 31] [true, true, true, true, true, true, true, true, true, false] [(0, vP tb 0), z3, z6, (26, .iface 41 (vP mb 0)), (28, vI z9), (31, vI m.py)] [tb, (n1 + 0)] [-9223372036854775808 ≤ (bodyAt t.S i) + 1 ∧ (bodyAt t.S i) + 1 ≤ 9223372036854775807] (by kernel_rfl) (by kernel_rfl) mn (ac ⟨by omega, by omega⟩ an) 1 rfl ?_
  refine TD.one 9 (by kernel_rfl) 0 rfl fun a_ hF_ hcl_ => ?_
  refine OPJ.callT (τ := HL) [] [] (dst := (some 32)) (f := 150) (args := #[vP mb 0, vI z9, vI m.py]) (A := [z4, z1]) (Ts := [T3]) (E := []) (Ob := []) [] [0, 1] [0] [] [0, 5, 6] [] [z4, z1] [T3] [] (fun _ => []) (fun x => [x]) (fun _ x => MemH mb (z8.set z9 m.py) (k + 2) x) (fun v_ => [(0, vP tb 0), z3, z6]) (fun _ => by kernel_rfl) mn an (by kernel_rfl) (by kernel_rfl) (by kernel_rfl) (by kernel_rfl) (by kernel_rfl) (by kernel_rfl) (fun _ => by kernel_rfl) [] (.inl (by kernel_rfl)) (.inl (by decide)) (set_any z9 m.py hM4) ?_ hF_ hcl_
  rintro _ T5 hM6
  refine TD.fin (by kernel_rfl) (EX.np ?_)
  refine EX.next ?_
  refine TR.seq ?_
  refine TR.draw [9] [] rfl (by kernel_rfl) ?_
  let z10 := z5 + 2
  refine TD.vals [] (by kernel_rfl) [0, 4, 6, 1, 5, 7, 2, 8, 3] [] [.nw, .own 0, .own 1] [0, 5, 6, 36, 38, 41] [true, true, true, true, true, true, true, true, true, false] [(0, vP tb 0), z3, z6, (36, .iface 41 (vP mb 0)), (38, vI z10), (41, vI m.vx)] [tb, (n1 + 0)] [-9223372036854775808 ≤ (bodyAt t.S i) + 2 ∧ (bodyAt t.S i) + 2 ≤ 9223372036854775807] (by kernel_rfl) (by kernel_rfl) mn (ac ⟨by omega, by omega⟩ an) 1 rfl ?_
  refine TD.one 9 (by kernel_rfl) 0 rfl fun a_ hF_ hcl_ => ?_
  refine OPJ.callT (τ := HL) [] [] (dst := (some 42)) (f := 150) (args := #[vP mb 0, vI z10, vI m.vx]) (A := [z4, z1]) (Ts := [T5]) (E := []) (Ob := []) [] [0, 1] [0] [] [0, 5, 6] [] [z4, z1] [T5] [] (fun _ => []) (fun x => [x]) (fun _ x => MemH mb ((z8.set z9 m.py).set z10 m.vx) (k + 1) x) (fun v_ => [(0, vP tb 0), z3, z6]) (fun _ => by kernel_rfl) mn an (by kernel_rfl) (by kernel_rfl) (by kernel_rfl) (by kernel_rfl) (by kernel_rfl) (by kernel_rfl) (fun _ => by kernel_rfl) [] (.inl (by kernel_rfl)) (.inl (by decide)) (set_any z10 m.vx hM6) ?_ hF_ hcl_
  rintro _ T7 hM8
  refine TD.fin (by kernel_rfl) (EX.np ?_)
  refine EX.next ?_
  refine TR.draw [9] [] rfl (by kernel_rfl) ?_
  let z11 := z5 + 3
  refine TD.vals [] (by kernel_rfl) [0, 4, 6, 1, 5, 7, 2, 8, 3] [] [.nw, .own 0, .own 1] [46, 48, 51] [true, true, true, true, true, true, true, true, true, false] [(46, .iface 41 (vP mb 0)), (48, vI z11), (51, vI m.vy)] [tb, (n1 + 0)] [-9223372036854775808 ≤ (bodyAt t.S i) + 3 ∧ (bodyAt t.S i) + 3 ≤ 9223372036854775807] (by kernel_rfl) (by kernel_rfl) mn (ac ⟨by omega, by omega⟩ an) 1 rfl ?_
  refine TD.one 9 (by kernel_rfl) 0 rfl fun a_ hF_ hcl_ => ?_
  refine OPJ.callT (τ := HL) [] [] (dst := (some 52)) (f := 150) (args := #[vP mb 0, vI z11, vI m.vy]) (A := [z4, z1]) (Ts := [T7]) (E := []) (Ob := []) [] [0, 1] [0] [] [] [] [z4, z1] [T7] [] (fun _ => []) (fun x => [x]) (fun _ x => MemH mb (((z8.set z9 m.py).set z10 m.vx).set z11 m.vy) k x) (fun v_ => []) (fun _ => by kernel_rfl) mn an (by kernel_rfl) (by kernel_rfl) (by kernel_rfl) (by kernel_rfl) (by kernel_rfl) (by kernel_rfl) (fun _ => by kernel_rfl) [] (.inl (by kernel_rfl)) (.inl (by decide)) (set_any z11 m.vy hM8) ?_ hF_ hcl_
  rintro _ T9 hM10
  refine TD.fin (by kernel_rfl) (EX.np ?_)
  refine EX.fin (A := [z4, z1]) (Ts := [T9]) rfl rfl [] [] (.tuple #[]) [] [] (fun _ => by kernel_rfl) mn an [1] [0] [0] [] (ap [z1] [T9]) (by kernel_rfl) (by kernel_rfl) (by kernel_rfl) ?_
  refine ⟨T9, rfl, ?_⟩
  have e : (setMotM t i m M) = ((((M.set ((bodyAt t.S i) + 0) m.px).set ((bodyAt t.S i) + 1) m.py).set ((bodyAt t.S i) + 2) m.vx).set ((bodyAt t.S i) + 3) m.vy) := by
    first | (simp only [setMotM]; done) | (simp only [setMotM]; rfl) | rfl
  rw [e]
  exact hM10.weak (by omega)

set_option maxHeartbeats 4000000 in
set_option maxRecDepth 100000 in
theorem place_any (t : Stp) (c : Int) (s : Int) (pos : Int) (lo : Int) (hi : Int) (tb mb : Nat) (M : MemS) (k : Nat) (T F : HL) (hM : MemH mb M (k + 2) T) (hS : SetIn F t.S)  : Sp Tryz.prog 63 #[vP tb 0, vI c, vI s, vI pos, vI lo, vI hi] (ap [(tb, .lit (Stp.l t mb) 83 (0, 0))] [T]) F (fun u H' => ∃ x, H' = ap [(tb, .lit (Stp.l t mb) 83 (0, 0))] [x] ∧ (MemH mb (placeM t c s pos lo hi M) k x)) := by
  have hp := hS.pl
  have hn := hS.nb
  have hr := hS.room
  refine Sp.of_body Tryz.func63 rfl rfl rfl [(0, vP tb 0), (1, vI c), (2, vI s), (3, vI pos), (4, vI lo), (5, vI hi)] rfl ?_
  intro w0
  let z1 : Nat × Blk := (tb, .lit (Stp.l t mb) 83 (0, 0))
  refine TR.convH (ap [z1] [T]) rfl ?_
  refine TR.seq ?_
  refine TR.reg ?_
  refine TL.seg0 3 [] [] [0, 1, 2, 3, 13, 14, 15] [(0, vP tb 0), (1, vI c), (2, vI s), (3, vI pos), (13, vI pos), (14, vI lo), (15, vI hi)] (ap [z1] [T]) [] [] (fun _ => by kernel_rfl) mn an ?_
  refine TL.callp (dst := (some 16)) (f := 25) (args := #[vI pos, vI lo, vI hi]) (H1 := (ap [z1] [T])) (E := []) (Ob := []) [] [] [0, 1, 2, 3, 16] (vI (clampI pos lo hi)) [(0, vP tb 0), (1, vI c), (2, vI s), (3, vI pos), (16, vI (clampI pos lo hi))] (fun _ => by kernel_rfl) mn an (clamp_any pos lo hi  _) (by kernel_rfl) ?_
  let z2 : Nat × Value := (12, vI (clampI pos lo hi))
  refine TL.seg0 1 [] [] [0, 1, 2, 3, 12] [(0, vP tb 0), (1, vI c), (2, vI s), (3, vI pos), z2] (ap [z1] [T]) [] [] (fun _ => by kernel_rfl) mn an ?_
  refine TL.fin (by kernel_rfl) ?_
  refine EX.next ?_
  refine TR.seq ?_
  refine TR.reg ?_
  refine TL.seg0 6 [] [.own 0] [0, 2, 3, 12, 20, 21, 22] [(0, vP tb 0), (2, vI s), (3, vI pos), z2, (20, .iface 41 (vP mb 0)), (21, vI c), (22, vI (clampI pos lo hi))] (ap [z1] [T]) [tb] [] (fun _ => by kernel_rfl) mn an ?_
  refine TL.callT (τ := HL) [] [] (dst := (some 23)) (f := 150) (args := #[vP mb 0, vI c, vI (clampI pos lo hi)]) (A := [z1]) (Ts := [T]) (E := []) (Ob := []) [] [0] [0] [] [0, 2, 3, 12] [] [z1] [T] [] (fun _ => []) (fun x => [x]) (fun _ x => MemH mb (M.set c (clampI pos lo hi)) (k + 1) x) (fun v_ => [(0, vP tb 0), (2, vI s), (3, vI pos), z2]) (fun _ => by kernel_rfl) mn an (by kernel_rfl) (by kernel_rfl) (by kernel_rfl) (by kernel_rfl) (by kernel_rfl) (by kernel_rfl) (fun _ => by kernel_rfl) (set_any c (clampI pos lo hi) hM) ?_
  rintro _ T1 hM2
  refine TL.fin (by kernel_rfl) ?_
  refine EX.next ?_
  refine TR.seq ?_
  refine TR.reg ?_
  refine TL.seg0 3 [] [] [0, 2, 26] [(0, vP tb 0), (2, vI s), (26, .bool (!(decide (clampI pos lo hi = pos))))] (ap [z1] [T1]) [] [] (fun _ => by kernel_rfl) mn an ?_
  refine TL.fin (by kernel_rfl) ?_
  refine EX.next ?_
  rcases Decidable.em (clampI pos lo hi = pos) with h3 | h3
  · refine TR.no (b := !(decide (clampI pos lo hi = pos))) (by kernel_rfl) (by kernel_rfl) (by rw [decide_eq_true h3]; rfl) ?_
    refine TR.skip ?_
    refine EX.fin (A := [z1]) (Ts := [T1]) rfl rfl [] [] (.tuple #[]) [] [] (fun _ => by kernel_rfl) mn an [0] [] [0] [] (ap [z1] [T1]) (by kernel_rfl) (by kernel_rfl) (by kernel_rfl) ?_
    refine ⟨T1, rfl, ?_⟩
    have e : (placeM t c s pos lo hi M) = (M.set c (clampI pos lo hi)) := by
      first | (simp only [placeM, if_pos h3]; done) | (simp only [placeM, if_pos h3]; rfl) | rfl
    rw [e]
    exact hM2.weak (by omega)
  · refine TR.yes (b := !(decide (clampI pos lo hi = pos))) (by kernel_rfl) (by kernel_rfl) (by rw [decide_eq_false h3]; rfl) ?_
    refine TR.draw [20] [] rfl (by kernel_rfl) ?_
    let z3 : Nat × Value := (42, vI t.S.rest)
    let z4 : Nat × Value := (46, .iface 41 (vP mb 0))
    refine TD.vals [] (by kernel_rfl) [0, 4, 5, 9, 11, 1, 6, 12, 2, 7, 13, 3, 8, 14, 15, 18, 19] [] [.own 0, .own 0, .own 0] [31, 35, 36, 42, 46] [true, true, true, true, true, true, true, true, true, true, false, true, true, true, true, true, false, false, true, true, false] [(31, vI s), (35, .iface 41 (vP mb 0)), (36, vI s), z3, z4] [tb, tb, tb] [] (by kernel_rfl) (by kernel_rfl) mn an 4 rfl ?_
    refine TD.callv [] (by kernel_rfl) 10 [] [] (dst := (some 37)) (f := 28) (args := #[vP mb 0, vI s]) (E := []) (Ob := []) [31, 37, 42, 46] (vI ((M.set c (clampI pos lo hi)).get s)) [(31, vI s), (37, vI ((M.set c (clampI pos lo hi)).get s)), z3, z4] (by kernel_rfl) (by kernel_rfl) (by kernel_rfl) mn an (fun X_ => (get_any s hM2 (sub_apX 0 rfl))) (by kernel_rfl) 3 rfl ?_
    refine TD.callv [] (by kernel_rfl) 16 [] [] (dst := (some 43)) (f := 42) (args := #[vI ((M.set c (clampI pos lo hi)).get s), vI t.S.rest]) (E := []) (Ob := []) [31, 43, 46] (vI (mulI ((M.set c (clampI pos lo hi)).get s) t.S.rest)) [(31, vI s), (43, vI (mulI ((M.set c (clampI pos lo hi)).get s) t.S.rest)), z4] (by kernel_rfl) (by kernel_rfl) (by kernel_rfl) mn an (fun X_ => (mul_any ((M.set c (clampI pos lo hi)).get s) t.S.rest  _)) (by kernel_rfl) 2 rfl ?_
    refine TD.vals [] (by kernel_rfl) [17] [] [] [31, 44, 46] [true, true, true, true, true, true, true, true, true, true, true, true, true, true, true, true, true, true, true, true, false] [(31, vI s), (44, vI (IntKind.i64.wrap (0 - (mulI ((M.set c (clampI pos lo hi)).get s) t.S.rest)))), z4] [] [] (by kernel_rfl) (by kernel_rfl) mn an 1 rfl ?_
    refine TD.one 20 (by kernel_rfl) 0 rfl fun a_ hF_ hcl_ => ?_
    refine OPJ.callT (τ := HL) [] [] (dst := (some 47)) (f := 150) (args := #[vP mb 0, vI s, vI (IntKind.i64.wrap (0 - (mulI ((M.set c (clampI pos lo hi)).get s) t.S.rest)))]) (A := [z1]) (Ts := [T1]) (E := []) (Ob := []) [] [0] [0] [] [] [] [z1] [T1] [] (fun _ => []) (fun x => [x]) (fun _ x => MemH mb ((M.set c (clampI pos lo hi)).set s (IntKind.i64.wrap (0 - (mulI ((M.set c (clampI pos lo hi)).get s) t.S.rest)))) k x) (fun v_ => []) (fun _ => by kernel_rfl) mn an (by kernel_rfl) (by kernel_rfl) (by kernel_rfl) (by kernel_rfl) (by kernel_rfl) (by kernel_rfl) (fun _ => by kernel_rfl) [] (.inl (by kernel_rfl)) (.inl (by decide)) (set_any s (IntKind.i64.wrap (0 - (mulI ((M.set c (clampI pos lo hi)).get s) t.S.rest))) hM2) ?_ hF_ hcl_
    rintro _ T4 hM5
    refine TD.fin (by kernel_rfl) (EX.np ?_)
    refine EX.fin (A := [z1]) (Ts := [T4]) rfl rfl [] [] (.tuple #[]) [] [] (fun _ => by kernel_rfl) mn an [0] [] [0] [] (ap [z1] [T4]) (by kernel_rfl) (by kernel_rfl) (by kernel_rfl) ?_
    refine ⟨T4, rfl, ?_⟩
    have e : (placeM t c s pos lo hi M) = ((M.set c (clampI pos lo hi)).set s (IntKind.i64.wrap (0 - (mulI ((M.set c (clampI pos lo hi)).get s) t.S.rest)))) := by
      first | (simp only [placeM, if_neg h3]; done) | (simp only [placeM, if_neg h3]; rfl) | rfl
    rw [e]
    exact hM5.weak (by omega)

set_option maxHeartbeats 4000000 in
set_option maxRecDepth 100000 in
theorem input_any (t : Stp)  (tb mb : Nat) (M : MemS) (k : Nat) (T F : HL) (hM : MemH mb M (k + 8) T) (hS : SetIn F t.S) (hI : (t.ib, .rows 3 t.iR (inrow t.ins) 70 (0, 0)) ∈ F) (hir : t.io + t.ni ≤ t.iR ∧ t.ni ≤ 1000000) : Sp Tryz.prog 29 #[vP tb 0] (ap [(tb, .lit (Stp.l t mb) 83 (0, 0))] [T]) F (fun u H' => ∃ x, H' = ap [(tb, .lit (Stp.l t mb) 83 (0, 0))] [x] ∧ (MemH mb (inputM t M) k x)) := by
  have hp := hS.pl
  have hn := hS.nb
  have hr := hS.room
  refine Sp.of_body Tryz.func29 rfl rfl rfl [(0, vP tb 0)] rfl ?_
  intro w0
  let z1 : Nat × Blk := (tb, .lit (Stp.l t mb) 83 (0, 0))
  refine TR.convH (ap [z1] [T]) rfl ?_
  refine TR.seq ?_
  refine TR.seq ?_
  refine TR.reg ?_
  refine TL.seg0 5 [] [.own 0] [0, 8] [(0, vP tb 0), (8, .bool (decide (t.i = 0)))] (ap [z1] [T]) [tb] [] (fun _ => by kernel_rfl) mn an ?_
  refine TL.fin (by kernel_rfl) ?_
  refine EX.next ?_
  rcases Decidable.em (t.i = 0) with h1 | h1
  · refine TR.yes (b := decide (t.i = 0)) (by kernel_rfl) (by kernel_rfl) (decide_eq_true h1) ?_
    refine TR.seq ?_
    refine TR.draw [10] [] rfl (by kernel_rfl) ?_
    refine TD.vals [] (by kernel_rfl) [0, 4, 1, 5, 2, 6, 3, 7, 8, 9] [] [.own 0, .own 0] [0, 16, 18] [true, true, true, true, true, true, true, true, true, true, false] [(0, vP tb 0), (16, vI t.version), (18, .iface 41 (vP mb 0))] [tb, tb] [] (by kernel_rfl) (by kernel_rfl) mn an 1 rfl ?_
    refine TD.one 10 (by kernel_rfl) 0 rfl fun a_ hF_ hcl_ => ?_
    let z2 := M.set 13 t.version
    refine OPJ.callT (τ := HL) [] [] (dst := (some 19)) (f := 150) (args := #[vP mb 0, vI 13, vI t.version]) (A := [z1]) (Ts := [T]) (E := []) (Ob := []) [] [0] [0] [] [0] [] [z1] [T] [] (fun _ => []) (fun x => [x]) (fun _ x => MemH mb z2 (k + 7) x) (fun v_ => [(0, vP tb 0)]) (fun _ => by kernel_rfl) mn an (by kernel_rfl) (by kernel_rfl) (by kernel_rfl) (by kernel_rfl) (by kernel_rfl) (by kernel_rfl) (fun _ => by kernel_rfl) [] (.inl (by kernel_rfl)) (.inl (by decide)) (set_any 13 t.version hM) ?_ hF_ hcl_
    rintro _ T2 hM3
    refine TD.fin (by kernel_rfl) (EX.np ?_)
    refine EX.next ?_
    refine TR.reg ?_
    refine TL.seg0 4 [] [.own 0] [0, 23] [(0, vP tb 0), (23, .iface 41 (vP mb 0))] (ap [z1] [T2]) [tb] [] (fun _ => by kernel_rfl) mn an ?_
    refine TL.callT (τ := HL) [] [] (dst := (some 24)) (f := 150) (args := #[vP mb 0, vI 11, vI 0]) (A := [z1]) (Ts := [T2]) (E := []) (Ob := []) [] [0] [0] [] [0] [] [z1] [T2] [] (fun _ => []) (fun x => [x]) (fun _ x => MemH mb (z2.set 11 0) (k + 6) x) (fun v_ => [(0, vP tb 0)]) (fun _ => by kernel_rfl) mn an (by kernel_rfl) (by kernel_rfl) (by kernel_rfl) (by kernel_rfl) (by kernel_rfl) (by kernel_rfl) (fun _ => by kernel_rfl) (set_any 11 0 hM3) ?_
    rintro _ T4 hM5
    refine TL.fin (by kernel_rfl) ?_
    refine EX.next ?_
    refine TR.seq ?_
    refine TR.seq ?_
    refine TR.draw [] [] rfl (by kernel_rfl) ?_
    refine TD.vals [] (by kernel_rfl) [0, 4, 1, 5, 2, 6, 3, 7] [] [.own 0, .own 0, .own 0, .own 0, .own 0, .own 0, .own 0, .own 0, .own 0, .own 0, .own 0, .own 0, .own 0, .own 0, .own 0, .own 0, .own 0] [0, 28, 32] [true, true, true, true, true, true, true, true, false, false] [(0, vP tb 0), (28, (Setup.v t.S)), (32, vI t.i)] [tb, tb, tb, tb, tb, tb, tb, tb, tb, tb, tb, tb, tb, tb, tb, tb, tb] [] (by kernel_rfl) (by kernel_rfl) mn an 2 rfl ?_
    let z3 := playerAt t.S t.i
    refine TD.callv [] (by kernel_rfl) 8 [] [] (dst := (some 33)) (f := 44) (args := #[(Setup.v t.S), vI t.i]) (E := []) (Ob := []) [0, 33] (vI z3) [(0, vP tb 0), (33, vI z3)] (by kernel_rfl) (by kernel_rfl) (by kernel_rfl) mn an (fun X_ => (lplayer_any t.S t.i _ hS.toSetN)) (by kernel_rfl) 1 rfl ?_
    have hb6 := playerAt_bd hS.toSetN t.i
    let z4 : Nat × Value := (2, vI z3)
    refine TD.vals [] (by kernel_rfl) [9] [] [] [0, 2] [true, true, true, true, true, true, true, true, true, true] [(0, vP tb 0), z4] [] [] (by kernel_rfl) (by kernel_rfl) mn an 0 rfl ?_
    refine TD.fin (by kernel_rfl) (EX.np ?_)
    refine EX.next ?_
    refine TR.seq ?_
    refine TR.draw [] [] rfl (by kernel_rfl) ?_
    rcases Decidable.em (playerAt t.S t.i ≥ 0) with h7 | h7
    · refine TD.vals [] (by kernel_rfl) [0, 1, 2, 3, 7, 4, 8, 5, 9, 6, 10, 11, 12, 13] [] [.gd true, .gd true, .gd true, .gd true, .gd true, .gd true, .gd true, .own 0, .gd true, .own 0, .gd true, .gd true, .gd true] [0, 2, 47] [true, true, true, true, true, true, true, true, true, true, true, true, true, true] [(0, vP tb 0), z4, (47, .bool (decide (t.i < (t.ni : Int))))] [tb, tb] [(decide (playerAt t.S t.i ≥ 0)) = true, (decide (playerAt t.S t.i ≥ 0)) = true, (decide (playerAt t.S t.i ≥ 0)) = true, (decide (playerAt t.S t.i ≥ 0)) = true, (decide (playerAt t.S t.i ≥ 0)) = true, (decide (playerAt t.S t.i ≥ 0)) = true, (decide (playerAt t.S t.i ≥ 0)) = true, (decide (playerAt t.S t.i ≥ 0)) = true, (decide (playerAt t.S t.i ≥ 0)) = true, (decide (playerAt t.S t.i ≥ 0)) = true, (decide (playerAt t.S t.i ≥ 0)) = true] (by kernel_rfl) (by kernel_rfl) mn (ac (decide_eq_true h7) (ac (decide_eq_true h7) (ac (decide_eq_true h7) (ac (decide_eq_true h7) (ac (decide_eq_true h7) (ac (decide_eq_true h7) (ac (decide_eq_true h7) (ac (decide_eq_true h7) (ac (decide_eq_true h7) (ac (decide_eq_true h7) (ac (decide_eq_true h7) an))))))))))) 0 rfl ?_
      refine TD.fin (by kernel_rfl) (EX.np ?_)
      refine EX.next ?_
      rcases Decidable.em (t.i < (t.ni : Int)) with h8 | h8
      · refine TR.yes (b := decide (t.i < (t.ni : Int))) (by kernel_rfl) (by kernel_rfl) (decide_eq_true h8) ?_
        refine TR.seq ?_
        refine TR.draw [11] [] rfl (by kernel_rfl) ?_
        let z5 := t.io + ((t.i).toNat)
        let z6 : Nat × Value := (57, .agg #[vI ((t.ins.getD z5 dI).dx), vI ((t.ins.getD z5 dI).dy), vI ((t.ins.getD z5 dI).act)])
        refine TD.vals [] (by kernel_rfl) [0, 4, 1, 5, 2, 6, 3, 7, 8, 9] [(t.ib, .rows 3 t.iR (inrow t.ins) 70 (0, 0))] [.own 0, .own 0, .ix ((t.i).toNat), .rorow 0 z5 0, .rorow 0 z5 1, .rorow 0 z5 2] [0, 2, 57] [true, true, true, true, true, true, true, true, true, true, false, false] [(0, vP tb 0), z4, z6] [t.ib, t.ib, t.ib, tb, tb] [((t.io * 3 + ((t.i).toNat) * 3) + 2) = (t.io + ((t.i).toNat)) * 3 + 2 ∧ (t.io + ((t.i).toNat)) < t.iR, ((t.io * 3 + ((t.i).toNat) * 3) + 1) = (t.io + ((t.i).toNat)) * 3 + 1 ∧ (t.io + ((t.i).toNat)) < t.iR, (t.io * 3 + ((t.i).toNat) * 3) = (t.io + ((t.i).toNat)) * 3 + 0 ∧ (t.io + ((t.i).toNat)) < t.iR, t.i = (((t.i).toNat : Nat) : Int) ∧ (t.i).toNat < t.ni] (by kernel_rfl) (by kernel_rfl) (mc hI mn) (ac ⟨by omega, by omega⟩ (ac ⟨by omega, by omega⟩ (ac ⟨by omega, by omega⟩ (ac ⟨by omega, by omega⟩ an)))) 2 rfl ?_
        refine TD.one 10 (by kernel_rfl) 1 rfl fun a_ hF_ hcl_ => ?_
        refine OPJ.ev [] [] [0, 2, 3, 57] (fun n9 => [(0, vP tb 0), z4, (3, vP (n9 + 0) 0), z6]) (fun n9 => (ap [((n9 + 0), .lit [vI 0, vI 0, vI 0] 70 (0, 0)), z1] [T4])) (fun n9 => []) (fun n9 => []) (fun _ => by kernel_rfl) mn (fun n9 => an) (.inr ⟨by decide, fun n9 => ⟨[((n9 + 0), .lit [vI 0, vI 0, vI 0] 70 (0, 0))], rfl⟩⟩) (.inr fun n9 => ⟨[((n9 + 0), .lit [vI 0, vI 0, vI 0] 70 (0, 0))], rfl⟩) (fun n9 => ?_) hF_ hcl_
        refine TD.one 11 (by kernel_rfl) 0 rfl fun a_ hF_ hcl_ => ?_
        let z7 : Nat × Value := (3, vP (n9 + 0) 0)
        let z8 : Nat × Blk := ((n9 + 0), .lit [vI ((t.ins.getD z5 dI).dx), vI ((t.ins.getD z5 dI).dy), vI ((t.ins.getD z5 dI).act)] 70 (0, 0))
        refine OPJ.ev [] [.own 0, .own 0, .own 0] [0, 2, 3] (fun _ => [(0, vP tb 0), z4, z7]) (fun _ => (ap [z8, z1] [T4])) (fun _ => [(n9 + 0), (n9 + 0), (n9 + 0)]) (fun _ => []) (fun _ => by kernel_rfl) mn (fun _ => an) (.inl ⟨[], fun _ => by kernel_rfl⟩) (.inl (by decide)) (fun _ => ?_) hF_ hcl_
        refine TD.fin (by kernel_rfl) (EX.np ?_)
        refine EX.next ?_
        refine TR.seq ?_
        refine TR.draw [8] [] rfl (by kernel_rfl) ?_
        let z9 := z3 + 0
        refine TD.vals [] (by kernel_rfl) [0, 4, 6, 1, 5, 7, 2, 3] [] [.nw, .own 0, .own 1] [0, 2, 3, 61, 63, 65] [true, true, true, true, true, true, true, true, false] [(0, vP tb 0), z4, z7, (61, .iface 41 (vP mb 0)), (63, vI z9), (65, vI ((t.ins.getD z5 dI).dx))] [tb, (n9 + 0)] [-9223372036854775808 ≤ (playerAt t.S t.i) + 0 ∧ (playerAt t.S t.i) + 0 ≤ 9223372036854775807] (by kernel_rfl) (by kernel_rfl) mn (ac ⟨by omega, by omega⟩ an) 1 rfl ?_
        refine TD.one 8 (by kernel_rfl) 0 rfl fun a_ hF_ hcl_ => ?_
        refine OPJ.callT (τ := HL) [] [] (dst := (some 66)) (f := 150) (args := #[vP mb 0, vI z9, vI ((t.ins.getD z5 dI).dx)]) (A := [z8, z1]) (Ts := [T4]) (E := []) (Ob := []) [] [0, 1] [0] [] [0, 2, 3] [] [z8, z1] [T4] [] (fun _ => []) (fun x => [x]) (fun _ x => MemH mb ((z2.set 11 0).set z9 ((t.ins.getD z5 dI).dx)) (k + 5) x) (fun v_ => [(0, vP tb 0), z4, z7]) (fun _ => by kernel_rfl) mn an (by kernel_rfl) (by kernel_rfl) (by kernel_rfl) (by kernel_rfl) (by kernel_rfl) (by kernel_rfl) (fun _ => by kernel_rfl) [] (.inl (by kernel_rfl)) (.inl (by decide)) (set_any z9 ((t.ins.getD z5 dI).dx) hM5) ?_ hF_ hcl_
        rintro _ T10 hM11
        refine TD.fin (by kernel_rfl) (EX.np ?_)
        refine EX.next ?_
        refine TR.seq ?_
        refine TR.draw [8] [] rfl (by kernel_rfl) ?_
        let z10 := z3 + 1
        refine TD.vals [] (by kernel_rfl) [0, 4, 6, 1, 5, 7, 2, 3] [] [.nw, .own 0, .own 1] [0, 2, 3, 70, 72, 74] [true, true, true, true, true, true, true, true, false] [(0, vP tb 0), z4, z7, (70, .iface 41 (vP mb 0)), (72, vI z10), (74, vI ((t.ins.getD z5 dI).dy))] [tb, (n9 + 0)] [-9223372036854775808 ≤ (playerAt t.S t.i) + 1 ∧ (playerAt t.S t.i) + 1 ≤ 9223372036854775807] (by kernel_rfl) (by kernel_rfl) mn (ac ⟨by omega, by omega⟩ an) 1 rfl ?_
        refine TD.one 8 (by kernel_rfl) 0 rfl fun a_ hF_ hcl_ => ?_
        refine OPJ.callT (τ := HL) [] [] (dst := (some 75)) (f := 150) (args := #[vP mb 0, vI z10, vI ((t.ins.getD z5 dI).dy)]) (A := [z8, z1]) (Ts := [T10]) (E := []) (Ob := []) [] [0, 1] [0] [] [0, 2, 3] [] [z8, z1] [T10] [] (fun _ => []) (fun x => [x]) (fun _ x => MemH mb (((z2.set 11 0).set z9 ((t.ins.getD z5 dI).dx)).set z10 ((t.ins.getD z5 dI).dy)) (k + 4) x) (fun v_ => [(0, vP tb 0), z4, z7]) (fun _ => by kernel_rfl) mn an (by kernel_rfl) (by kernel_rfl) (by kernel_rfl) (by kernel_rfl) (by kernel_rfl) (by kernel_rfl) (fun _ => by kernel_rfl) [] (.inl (by kernel_rfl)) (.inl (by decide)) (set_any z10 ((t.ins.getD z5 dI).dy) hM11) ?_ hF_ hcl_
        rintro _ T12 hM13
        refine TD.fin (by kernel_rfl) (EX.np ?_)
        refine EX.next ?_
        refine TR.draw [8] [] rfl (by kernel_rfl) ?_
        let z11 := z3 + 2
        refine TD.vals [] (by kernel_rfl) [0, 4, 6, 1, 5, 7, 2, 3] [] [.nw, .own 0, .own 1] [0, 79, 81, 83] [true, true, true, true, true, true, true, true, false] [(0, vP tb 0), (79, .iface 41 (vP mb 0)), (81, vI z11), (83, vI ((t.ins.getD z5 dI).act))] [tb, (n9 + 0)] [-9223372036854775808 ≤ (playerAt t.S t.i) + 2 ∧ (playerAt t.S t.i) + 2 ≤ 9223372036854775807] (by kernel_rfl) (by kernel_rfl) mn (ac ⟨by omega, by omega⟩ an) 1 rfl ?_
        refine TD.one 8 (by kernel_rfl) 0 rfl fun a_ hF_ hcl_ => ?_
        refine OPJ.callT (τ := HL) [] [] (dst := (some 84)) (f := 150) (args := #[vP mb 0, vI z11, vI ((t.ins.getD z5 dI).act)]) (A := [z8, z1]) (Ts := [T12]) (E := []) (Ob := []) [] [0, 1] [0] [] [0] [] [z8, z1] [T12] [] (fun _ => []) (fun x => [x]) (fun _ x => MemH mb ((((z2.set 11 0).set z9 ((t.ins.getD z5 dI).dx)).set z10 ((t.ins.getD z5 dI).dy)).set z11 ((t.ins.getD z5 dI).act)) (k + 3) x) (fun v_ => [(0, vP tb 0)]) (fun _ => by kernel_rfl) mn an (by kernel_rfl) (by kernel_rfl) (by kernel_rfl) (by kernel_rfl) (by kernel_rfl) (by kernel_rfl) (fun _ => by kernel_rfl) [] (.inl (by kernel_rfl)) (.inl (by decide)) (set_any z11 ((t.ins.getD z5 dI).act) hM13) ?_ hF_ hcl_
        rintro _ T14 hM15
        refine TD.fin (by kernel_rfl) (EX.np ?_)
        refine EX.next ?_
        refine TR.seq ?_
        refine TR.draw [] [] rfl (by kernel_rfl) ?_
        refine TD.vals [] (by kernel_rfl) [0, 5, 1, 6, 2, 7, 3, 8, 4, 9, 10] [] [.own 1, .own 1] [0, 95] [true, true, true, true, true, true, true, true, true, true, true] [(0, vP tb 0), (95, .bool (decide (IntKind.i64.wrap (t.i + 1) < t.S.players)))] [tb, tb] [] (by kernel_rfl) (by kernel_rfl) mn an 0 rfl ?_
        refine TD.fin (by kernel_rfl) (EX.np ?_)
        refine EX.next ?_
        rcases Decidable.em (IntKind.i64.wrap (t.i + 1) < t.S.players) with h16 | h16
        · refine TR.yes (b := decide (IntKind.i64.wrap (t.i + 1) < t.S.players)) (by kernel_rfl) (by kernel_rfl) (decide_eq_true h16) ?_
          refine TR.draw [11] [] rfl (by kernel_rfl) ?_
          let z12 := IntKind.i64.wrap (t.i + 1)
          refine TD.vals [] (by kernel_rfl) [0, 4, 1, 5, 2, 6, 3, 7, 8, 9, 10] [] [.own 1, .own 1] [104, 106] [true, true, true, true, true, true, true, true, true, true, true, false] [(104, vI z12), (106, .iface 41 (vP mb 0))] [tb, tb] [] (by kernel_rfl) (by kernel_rfl) mn an 1 rfl ?_
          refine TD.one 11 (by kernel_rfl) 0 rfl fun a_ hF_ hcl_ => ?_
          refine OPJ.callT (τ := HL) [] [] (dst := (some 107)) (f := 150) (args := #[vP mb 0, vI 2, vI z12]) (A := [z8, z1]) (Ts := [T14]) (E := []) (Ob := []) [] [0, 1] [0] [] [] [] [z8, z1] [T14] [] (fun _ => []) (fun x => [x]) (fun _ x => MemH mb (((((z2.set 11 0).set z9 ((t.ins.getD z5 dI).dx)).set z10 ((t.ins.getD z5 dI).dy)).set z11 ((t.ins.getD z5 dI).act)).set 2 z12) (k + 2) x) (fun v_ => []) (fun _ => by kernel_rfl) mn an (by kernel_rfl) (by kernel_rfl) (by kernel_rfl) (by kernel_rfl) (by kernel_rfl) (by kernel_rfl) (fun _ => by kernel_rfl) [] (.inl (by kernel_rfl)) (.inl (by decide)) (set_any 2 z12 hM15) ?_ hF_ hcl_
          rintro _ T17 hM18
          refine TD.fin (by kernel_rfl) (EX.np ?_)
          refine EX.fin (A := [z8, z1]) (Ts := [T17]) rfl rfl [] [] (.tuple #[]) [] [] (fun _ => by kernel_rfl) mn an [1] [0] [0] [] (ap [z1] [T17]) (by kernel_rfl) (by kernel_rfl) (by kernel_rfl) ?_
          refine ⟨T17, rfl, ?_⟩
          have e : (inputM t M) = ((((((M.set 13 t.version).set 11 0).set ((playerAt t.S t.i) + 0) ((t.ins.getD (t.io + ((t.i).toNat)) dI).dx)).set ((playerAt t.S t.i) + 1) ((t.ins.getD (t.io + ((t.i).toNat)) dI).dy)).set ((playerAt t.S t.i) + 2) ((t.ins.getD (t.io + ((t.i).toNat)) dI).act)).set 2 (IntKind.i64.wrap (t.i + 1))) := by
            first | (simp only [inputM, inputA, inputB, inputC, Stp.inp, if_pos h1, if_pos h7, if_pos h8, if_pos h16]; done) | (simp only [inputM, inputA, inputB, inputC, Stp.inp, if_pos h1, if_pos h7, if_pos h8, if_pos h16]; rfl) | rfl
          rw [e]
          exact hM18.weak (by omega)
        · refine TR.no (b := decide (IntKind.i64.wrap (t.i + 1) < t.S.players)) (by kernel_rfl) (by kernel_rfl) (decide_eq_false h16) ?_
          refine TR.reg ?_
          refine TL.seg0 1 [] [] [108] [(108, vP tb 0)] (ap [z8, z1] [T14]) [] [] (fun _ => by kernel_rfl) mn an ?_
          refine TL.callT (τ := HL) [] [] (dst := (some 109)) (f := 45) (args := #[vP tb 0, vI 1, vI 0]) (A := [z8, z1]) (Ts := [T14]) (E := []) (Ob := []) [1] [0] [0] [] [] [z1] [z8] [T14] [] (fun _ => [z1]) (fun x => [x]) (fun v x => MemH mb (beginM t 1 0 ((((z2.set 11 0).set z9 ((t.ins.getD z5 dI).dx)).set z10 ((t.ins.getD z5 dI).dy)).set z11 ((t.ins.getD z5 dI).act))) k x) (fun v_ => []) (fun _ => by kernel_rfl) mn an (by kernel_rfl) (by kernel_rfl) (by kernel_rfl) (by kernel_rfl) (by kernel_rfl) (by kernel_rfl) (fun _ => by kernel_rfl) (begin_any t 1 0 tb mb ((((z2.set 11 0).set z9 ((t.ins.getD z5 dI).dx)).set z10 ((t.ins.getD z5 dI).dy)).set z11 ((t.ins.getD z5 dI).act)) k T14 _ hM15 hS.up ) ?_
          rintro _ T19 hM20
          refine TL.fin (by kernel_rfl) ?_
          refine EX.fin (A := [z1, z8]) (Ts := [T19]) rfl rfl [] [] (.tuple #[]) [] [] (fun _ => by kernel_rfl) mn an [0] [1] [0] [] (ap [z1] [T19]) (by kernel_rfl) (by kernel_rfl) (by kernel_rfl) ?_
          refine ⟨T19, rfl, ?_⟩
          have e : (inputM t M) = (beginM t 1 0 (((((M.set 13 t.version).set 11 0).set ((playerAt t.S t.i) + 0) ((t.ins.getD (t.io + ((t.i).toNat)) dI).dx)).set ((playerAt t.S t.i) + 1) ((t.ins.getD (t.io + ((t.i).toNat)) dI).dy)).set ((playerAt t.S t.i) + 2) ((t.ins.getD (t.io + ((t.i).toNat)) dI).act))) := by
            first | (simp only [inputM, inputA, inputB, inputC, Stp.inp, if_pos h1, if_pos h7, if_pos h8, if_neg h16]; done) | (simp only [inputM, inputA, inputB, inputC, Stp.inp, if_pos h1, if_pos h7, if_pos h8, if_neg h16]; rfl) | rfl
          rw [e]
          exact hM20.weak (by omega)
      · refine TR.no (b := decide (t.i < (t.ni : Int))) (by kernel_rfl) (by kernel_rfl) (decide_eq_false h8) ?_
        refine TR.skip ?_
        refine EX.next ?_
        refine TR.seq ?_
        refine TR.draw [] [] rfl (by kernel_rfl) ?_
        refine TD.vals [] (by kernel_rfl) [0, 5, 1, 6, 2, 7, 3, 8, 4, 9, 10] [] [.own 0, .own 0] [0, 95] [true, true, true, true, true, true, true, true, true, true, true] [(0, vP tb 0), (95, .bool (decide (IntKind.i64.wrap (t.i + 1) < t.S.players)))] [tb, tb] [] (by kernel_rfl) (by kernel_rfl) mn an 0 rfl ?_
        refine TD.fin (by kernel_rfl) (EX.np ?_)
        refine EX.next ?_
        rcases Decidable.em (IntKind.i64.wrap (t.i + 1) < t.S.players) with h21 | h21
        · refine TR.yes (b := decide (IntKind.i64.wrap (t.i + 1) < t.S.players)) (by kernel_rfl) (by kernel_rfl) (decide_eq_true h21) ?_
          refine TR.draw [11] [] rfl (by kernel_rfl) ?_
          let z13 := IntKind.i64.wrap (t.i + 1)
          refine TD.vals [] (by kernel_rfl) [0, 4, 1, 5, 2, 6, 3, 7, 8, 9, 10] [] [.own 0, .own 0] [104, 106] [true, true, true, true, true, true, true, true, true, true, true, false] [(104, vI z13), (106, .iface 41 (vP mb 0))] [tb, tb] [] (by kernel_rfl) (by kernel_rfl) mn an 1 rfl ?_
          refine TD.one 11 (by kernel_rfl) 0 rfl fun a_ hF_ hcl_ => ?_
          refine OPJ.callT (τ := HL) [] [] (dst := (some 107)) (f := 150) (args := #[vP mb 0, vI 2, vI z13]) (A := [z1]) (Ts := [T4]) (E := []) (Ob := []) [] [0] [0] [] [] [] [z1] [T4] [] (fun _ => []) (fun x => [x]) (fun _ x => MemH mb ((z2.set 11 0).set 2 z13) (k + 5) x) (fun v_ => []) (fun _ => by kernel_rfl) mn an (by kernel_rfl) (by kernel_rfl) (by kernel_rfl) (by kernel_rfl) (by kernel_rfl) (by kernel_rfl) (fun _ => by kernel_rfl) [] (.inl (by kernel_rfl)) (.inl (by decide)) (set_any 2 z13 hM5) ?_ hF_ hcl_
          rintro _ T22 hM23
          refine TD.fin (by kernel_rfl) (EX.np ?_)
          refine EX.fin (A := [z1]) (Ts := [T22]) rfl rfl [] [] (.tuple #[]) [] [] (fun _ => by kernel_rfl) mn an [0] [] [0] [] (ap [z1] [T22]) (by kernel_rfl) (by kernel_rfl) (by kernel_rfl) ?_
          refine ⟨T22, rfl, ?_⟩
          have e : (inputM t M) = (((M.set 13 t.version).set 11 0).set 2 (IntKind.i64.wrap (t.i + 1))) := by
            first | (simp only [inputM, inputA, inputB, inputC, Stp.inp, if_pos h1, if_pos h7, if_neg h8, if_pos h21]; done) | (simp only [inputM, inputA, inputB, inputC, Stp.inp, if_pos h1, if_pos h7, if_neg h8, if_pos h21]; rfl) | rfl
          rw [e]
          exact hM23.weak (by omega)
        · refine TR.no (b := decide (IntKind.i64.wrap (t.i + 1) < t.S.players)) (by kernel_rfl) (by kernel_rfl) (decide_eq_false h21) ?_
          refine TR.reg ?_
          refine TL.seg0 1 [] [] [108] [(108, vP tb 0)] (ap [z1] [T4]) [] [] (fun _ => by kernel_rfl) mn an ?_
          refine TL.callT (τ := HL) [] [] (dst := (some 109)) (f := 45) (args := #[vP tb 0, vI 1, vI 0]) (A := [z1]) (Ts := [T4]) (E := []) (Ob := []) [0] [] [0] [] [] [z1] [] [T4] [] (fun _ => [z1]) (fun x => [x]) (fun v x => MemH mb (beginM t 1 0 (z2.set 11 0)) (k + 3) x) (fun v_ => []) (fun _ => by kernel_rfl) mn an (by kernel_rfl) (by kernel_rfl) (by kernel_rfl) (by kernel_rfl) (by kernel_rfl) (by kernel_rfl) (fun _ => by kernel_rfl) (begin_any t 1 0 tb mb (z2.set 11 0) (k + 3) T4 _ hM5 hS.up ) ?_
          rintro _ T24 hM25
          refine TL.fin (by kernel_rfl) ?_
          refine EX.fin (A := [z1]) (Ts := [T24]) rfl rfl [] [] (.tuple #[]) [] [] (fun _ => by kernel_rfl) mn an [0] [] [0] [] (ap [z1] [T24]) (by kernel_rfl) (by kernel_rfl) (by kernel_rfl) ?_
          refine ⟨T24, rfl, ?_⟩
          have e : (inputM t M) = (beginM t 1 0 ((M.set 13 t.version).set 11 0)) := by
            first | (simp only [inputM, inputA, inputB, inputC, Stp.inp, if_pos h1, if_pos h7, if_neg h8, if_neg h21]; done) | (simp only [inputM, inputA, inputB, inputC, Stp.inp, if_pos h1, if_pos h7, if_neg h8, if_neg h21]; rfl) | rfl
          rw [e]
          exact hM25.weak (by omega)
    · refine TD.vals [] (by kernel_rfl) [0, 1, 2, 3, 7, 4, 8, 5, 9, 6, 10, 11, 12, 13] [] [.gd false, .gd false, .gd false, .gd false, .gd false, .gd false, .gd false, .gd false, .gd false, .gd false, .gd false] [0, 2, 47] [true, true, true, true, true, true, true, true, true, true, true, true, true, true] [(0, vP tb 0), z4, (47, .bool false)] [] [(decide (playerAt t.S t.i ≥ 0)) = false, (decide (playerAt t.S t.i ≥ 0)) = false, (decide (playerAt t.S t.i ≥ 0)) = false, (decide (playerAt t.S t.i ≥ 0)) = false, (decide (playerAt t.S t.i ≥ 0)) = false, (decide (playerAt t.S t.i ≥ 0)) = false, (decide (playerAt t.S t.i ≥ 0)) = false, (decide (playerAt t.S t.i ≥ 0)) = false, (decide (playerAt t.S t.i ≥ 0)) = false, (decide (playerAt t.S t.i ≥ 0)) = false, (decide (playerAt t.S t.i ≥ 0)) = false] (by kernel_rfl) (by kernel_rfl) mn (ac (decide_eq_false h7) (ac (decide_eq_false h7) (ac (decide_eq_false h7) (ac (decide_eq_false h7) (ac (decide_eq_false h7) (ac (decide_eq_false h7) (ac (decide_eq_false h7) (ac (decide_eq_false h7) (ac (decide_eq_false h7) (ac (decide_eq_false h7) (ac (decide_eq_false h7) an))))))))))) 0 rfl ?_
      refine TD.fin (by kernel_rfl) (EX.np ?_)
      refine EX.next ?_
      refine TR.no (by kernel_rfl) (by kernel_rfl) (rfl : false = false) ?_
      refine TR.skip ?_
      refine EX.next ?_
      refine TR.seq ?_
      refine TR.draw [] [] rfl (by kernel_rfl) ?_
      refine TD.vals [] (by kernel_rfl) [0, 5, 1, 6, 2, 7, 3, 8, 4, 9, 10] [] [.own 0, .own 0] [0, 95] [true, true, true, true, true, true, true, true, true, true, true] [(0, vP tb 0), (95, .bool (decide (IntKind.i64.wrap (t.i + 1) < t.S.players)))] [tb, tb] [] (by kernel_rfl) (by kernel_rfl) mn an 0 rfl ?_
      refine TD.fin (by kernel_rfl) (EX.np ?_)
      refine EX.next ?_
      rcases Decidable.em (IntKind.i64.wrap (t.i + 1) < t.S.players) with h26 | h26
      · refine TR.yes (b := decide (IntKind.i64.wrap (t.i + 1) < t.S.players)) (by kernel_rfl) (by kernel_rfl) (decide_eq_true h26) ?_
        refine TR.draw [11] [] rfl (by kernel_rfl) ?_
        let z14 := IntKind.i64.wrap (t.i + 1)
        refine TD.vals [] (by kernel_rfl) [0, 4, 1, 5, 2, 6, 3, 7, 8, 9, 10] [] [.own 0, .own 0] [104, 106] [true, true, true, true, true, true, true, true, true, true, true, false] [(104, vI z14), (106, .iface 41 (vP mb 0))] [tb, tb] [] (by kernel_rfl) (by kernel_rfl) mn an 1 rfl ?_
        refine TD.one 11 (by kernel_rfl) 0 rfl fun a_ hF_ hcl_ => ?_
        refine OPJ.callT (τ := HL) [] [] (dst := (some 107)) (f := 150) (args := #[vP mb 0, vI 2, vI z14]) (A := [z1]) (Ts := [T4]) (E := []) (Ob := []) [] [0] [0] [] [] [] [z1] [T4] [] (fun _ => []) (fun x => [x]) (fun _ x => MemH mb ((z2.set 11 0).set 2 z14) (k + 5) x) (fun v_ => []) (fun _ => by kernel_rfl) mn an (by kernel_rfl) (by kernel_rfl) (by kernel_rfl) (by kernel_rfl) (by kernel_rfl) (by kernel_rfl) (fun _ => by kernel_rfl) [] (.inl (by kernel_rfl)) (.inl (by decide)) (set_any 2 z14 hM5) ?_ hF_ hcl_
        rintro _ T27 hM28
        refine TD.fin (by kernel_rfl) (EX.np ?_)
        refine EX.fin (A := [z1]) (Ts := [T27]) rfl rfl [] [] (.tuple #[]) [] [] (fun _ => by kernel_rfl) mn an [0] [] [0] [] (ap [z1] [T27]) (by kernel_rfl) (by kernel_rfl) (by kernel_rfl) ?_
        refine ⟨T27, rfl, ?_⟩
        have e : (inputM t M) = (((M.set 13 t.version).set 11 0).set 2 (IntKind.i64.wrap (t.i + 1))) := by
          first | (simp only [inputM, inputA, inputB, inputC, Stp.inp, if_pos h1, if_neg h7, if_pos h26]; done) | (simp only [inputM, inputA, inputB, inputC, Stp.inp, if_pos h1, if_neg h7, if_pos h26]; rfl) | rfl
        rw [e]
        exact hM28.weak (by omega)
      · refine TR.no (b := decide (IntKind.i64.wrap (t.i + 1) < t.S.players)) (by kernel_rfl) (by kernel_rfl) (decide_eq_false h26) ?_
        refine TR.reg ?_
        refine TL.seg0 1 [] [] [108] [(108, vP tb 0)] (ap [z1] [T4]) [] [] (fun _ => by kernel_rfl) mn an ?_
        refine TL.callT (τ := HL) [] [] (dst := (some 109)) (f := 45) (args := #[vP tb 0, vI 1, vI 0]) (A := [z1]) (Ts := [T4]) (E := []) (Ob := []) [0] [] [0] [] [] [z1] [] [T4] [] (fun _ => [z1]) (fun x => [x]) (fun v x => MemH mb (beginM t 1 0 (z2.set 11 0)) (k + 3) x) (fun v_ => []) (fun _ => by kernel_rfl) mn an (by kernel_rfl) (by kernel_rfl) (by kernel_rfl) (by kernel_rfl) (by kernel_rfl) (by kernel_rfl) (fun _ => by kernel_rfl) (begin_any t 1 0 tb mb (z2.set 11 0) (k + 3) T4 _ hM5 hS.up ) ?_
        rintro _ T29 hM30
        refine TL.fin (by kernel_rfl) ?_
        refine EX.fin (A := [z1]) (Ts := [T29]) rfl rfl [] [] (.tuple #[]) [] [] (fun _ => by kernel_rfl) mn an [0] [] [0] [] (ap [z1] [T29]) (by kernel_rfl) (by kernel_rfl) (by kernel_rfl) ?_
        refine ⟨T29, rfl, ?_⟩
        have e : (inputM t M) = (beginM t 1 0 ((M.set 13 t.version).set 11 0)) := by
          first | (simp only [inputM, inputA, inputB, inputC, Stp.inp, if_pos h1, if_neg h7, if_neg h26]; done) | (simp only [inputM, inputA, inputB, inputC, Stp.inp, if_pos h1, if_neg h7, if_neg h26]; rfl) | rfl
        rw [e]
        exact hM30.weak (by omega)
  · refine TR.no (b := decide (t.i = 0)) (by kernel_rfl) (by kernel_rfl) (decide_eq_false h1) ?_
    refine TR.skip ?_
    refine EX.next ?_
    refine TR.seq ?_
    refine TR.seq ?_
    refine TR.draw [] [] rfl (by kernel_rfl) ?_
    refine TD.vals [] (by kernel_rfl) [0, 4, 1, 5, 2, 6, 3, 7] [] [.own 0, .own 0, .own 0, .own 0, .own 0, .own 0, .own 0, .own 0, .own 0, .own 0, .own 0, .own 0, .own 0, .own 0, .own 0, .own 0, .own 0] [0, 28, 32] [true, true, true, true, true, true, true, true, false, false] [(0, vP tb 0), (28, (Setup.v t.S)), (32, vI t.i)] [tb, tb, tb, tb, tb, tb, tb, tb, tb, tb, tb, tb, tb, tb, tb, tb, tb] [] (by kernel_rfl) (by kernel_rfl) mn an 2 rfl ?_
    let z15 := playerAt t.S t.i
    refine TD.callv [] (by kernel_rfl) 8 [] [] (dst := (some 33)) (f := 44) (args := #[(Setup.v t.S), vI t.i]) (E := []) (Ob := []) [0, 33] (vI z15) [(0, vP tb 0), (33, vI z15)] (by kernel_rfl) (by kernel_rfl) (by kernel_rfl) mn an (fun X_ => (lplayer_any t.S t.i _ hS.toSetN)) (by kernel_rfl) 1 rfl ?_
    have hb31 := playerAt_bd hS.toSetN t.i
    let z16 : Nat × Value := (2, vI z15)
    refine TD.vals [] (by kernel_rfl) [9] [] [] [0, 2] [true, true, true, true, true, true, true, true, true, true] [(0, vP tb 0), z16] [] [] (by kernel_rfl) (by kernel_rfl) mn an 0 rfl ?_
    refine TD.fin (by kernel_rfl) (EX.np ?_)
    refine EX.next ?_
    refine TR.seq ?_
    refine TR.draw [] [] rfl (by kernel_rfl) ?_
    rcases Decidable.em (playerAt t.S t.i ≥ 0) with h32 | h32
    · refine TD.vals [] (by kernel_rfl) [0, 1, 2, 3, 7, 4, 8, 5, 9, 6, 10, 11, 12, 13] [] [.gd true, .gd true, .gd true, .gd true, .gd true, .gd true, .gd true, .own 0, .gd true, .own 0, .gd true, .gd true, .gd true] [0, 2, 47] [true, true, true, true, true, true, true, true, true, true, true, true, true, true] [(0, vP tb 0), z16, (47, .bool (decide (t.i < (t.ni : Int))))] [tb, tb] [(decide (playerAt t.S t.i ≥ 0)) = true, (decide (playerAt t.S t.i ≥ 0)) = true, (decide (playerAt t.S t.i ≥ 0)) = true, (decide (playerAt t.S t.i ≥ 0)) = true, (decide (playerAt t.S t.i ≥ 0)) = true, (decide (playerAt t.S t.i ≥ 0)) = true, (decide (playerAt t.S t.i ≥ 0)) = true, (decide (playerAt t.S t.i ≥ 0)) = true, (decide (playerAt t.S t.i ≥ 0)) = true, (decide (playerAt t.S t.i ≥ 0)) = true, (decide (playerAt t.S t.i ≥ 0)) = true] (by kernel_rfl) (by kernel_rfl) mn (ac (decide_eq_true h32) (ac (decide_eq_true h32) (ac (decide_eq_true h32) (ac (decide_eq_true h32) (ac (decide_eq_true h32) (ac (decide_eq_true h32) (ac (decide_eq_true h32) (ac (decide_eq_true h32) (ac (decide_eq_true h32) (ac (decide_eq_true h32) (ac (decide_eq_true h32) an))))))))))) 0 rfl ?_
      refine TD.fin (by kernel_rfl) (EX.np ?_)
      refine EX.next ?_
      rcases Decidable.em (t.i < (t.ni : Int)) with h33 | h33
      · refine TR.yes (b := decide (t.i < (t.ni : Int))) (by kernel_rfl) (by kernel_rfl) (decide_eq_true h33) ?_
        refine TR.seq ?_
        refine TR.draw [11] [] rfl (by kernel_rfl) ?_
        let z17 := t.io + ((t.i).toNat)
        let z18 : Nat × Value := (57, .agg #[vI ((t.ins.getD z17 dI).dx), vI ((t.ins.getD z17 dI).dy), vI ((t.ins.getD z17 dI).act)])
        refine TD.vals [] (by kernel_rfl) [0, 4, 1, 5, 2, 6, 3, 7, 8, 9] [(t.ib, .rows 3 t.iR (inrow t.ins) 70 (0, 0))] [.own 0, .own 0, .ix ((t.i).toNat), .rorow 0 z17 0, .rorow 0 z17 1, .rorow 0 z17 2] [0, 2, 57] [true, true, true, true, true, true, true, true, true, true, false, false] [(0, vP tb 0), z16, z18] [t.ib, t.ib, t.ib, tb, tb] [((t.io * 3 + ((t.i).toNat) * 3) + 2) = (t.io + ((t.i).toNat)) * 3 + 2 ∧ (t.io + ((t.i).toNat)) < t.iR, ((t.io * 3 + ((t.i).toNat) * 3) + 1) = (t.io + ((t.i).toNat)) * 3 + 1 ∧ (t.io + ((t.i).toNat)) < t.iR, (t.io * 3 + ((t.i).toNat) * 3) = (t.io + ((t.i).toNat)) * 3 + 0 ∧ (t.io + ((t.i).toNat)) < t.iR, t.i = (((t.i).toNat : Nat) : Int) ∧ (t.i).toNat < t.ni] (by kernel_rfl) (by kernel_rfl) (mc hI mn) (ac ⟨by omega, by omega⟩ (ac ⟨by omega, by omega⟩ (ac ⟨by omega, by omega⟩ (ac ⟨by omega, by omega⟩ an)))) 2 rfl ?_
        refine TD.one 10 (by kernel_rfl) 1 rfl fun a_ hF_ hcl_ => ?_
        refine OPJ.ev [] [] [0, 2, 3, 57] (fun n34 => [(0, vP tb 0), z16, (3, vP (n34 + 0) 0), z18]) (fun n34 => (ap [((n34 + 0), .lit [vI 0, vI 0, vI 0] 70 (0, 0)), z1] [T])) (fun n34 => []) (fun n34 => []) (fun _ => by kernel_rfl) mn (fun n34 => an) (.inr ⟨by decide, fun n34 => ⟨[((n34 + 0), .lit [vI 0, vI 0, vI 0] 70 (0, 0))], rfl⟩⟩) (.inr fun n34 => ⟨[((n34 + 0), .lit [vI 0, vI 0, vI 0] 70 (0, 0))], rfl⟩) (fun n34 => ?_) hF_ hcl_
        refine TD.one 11 (by kernel_rfl) 0 rfl fun a_ hF_ hcl_ => ?_
        let z19 : Nat × Value := (3, vP (n34 + 0) 0)
        let z20 : Nat × Blk := ((n34 + 0), .lit [vI ((t.ins.getD z17 dI).dx), vI ((t.ins.getD z17 dI).dy), vI ((t.ins.getD z17 dI).act)] 70 (0, 0))
        refine OPJ.ev [] [.own 0, .own 0, .own 0] [0, 2, 3] (fun _ => [(0, vP tb 0), z16, z19]) (fun _ => (ap [z20, z1] [T])) (fun _ => [(n34 + 0), (n34 + 0), (n34 + 0)]) (fun _ => []) (fun _ => by kernel_rfl) mn (fun _ => an) (.inl ⟨[], fun _ => by kernel_rfl⟩) (.inl (by decide)) (fun _ => ?_) hF_ hcl_
        refine TD.fin (by kernel_rfl) (EX.np ?_)
        refine EX.next ?_
        refine TR.seq ?_
        refine TR.draw [8] [] rfl (by kernel_rfl) ?_
        let z21 := z15 + 0
        refine TD.vals [] (by kernel_rfl) [0, 4, 6, 1, 5, 7, 2, 3] [] [.nw, .own 0, .own 1] [0, 2, 3, 61, 63, 65] [true, true, true, true, true, true, true, true, false] [(0, vP tb 0), z16, z19, (61, .iface 41 (vP mb 0)), (63, vI z21), (65, vI ((t.ins.getD z17 dI).dx))] [tb, (n34 + 0)] [-9223372036854775808 ≤ (playerAt t.S t.i) + 0 ∧ (playerAt t.S t.i) + 0 ≤ 9223372036854775807] (by kernel_rfl) (by kernel_rfl) mn (ac ⟨by omega, by omega⟩ an) 1 rfl ?_
        refine TD.one 8 (by kernel_rfl) 0 rfl fun a_ hF_ hcl_ => ?_
        let z22 := M.set z21 ((t.ins.getD z17 dI).dx)
        refine OPJ.callT (τ := HL) [] [] (dst := (some 66)) (f := 150) (args := #[vP mb 0, vI z21, vI ((t.ins.getD z17 dI).dx)]) (A := [z20, z1]) (Ts := [T]) (E := []) (Ob := []) [] [0, 1] [0] [] [0, 2, 3] [] [z20, z1] [T] [] (fun _ => []) (fun x => [x]) (fun _ x => MemH mb z22 (k + 7) x) (fun v_ => [(0, vP tb 0), z16, z19]) (fun _ => by kernel_rfl) mn an (by kernel_rfl) (by kernel_rfl) (by kernel_rfl) (by kernel_rfl) (by kernel_rfl) (by kernel_rfl) (fun _ => by kernel_rfl) [] (.inl (by kernel_rfl)) (.inl (by decide)) (set_any z21 ((t.ins.getD z17 dI).dx) hM) ?_ hF_ hcl_
        rintro _ T35 hM36
        refine TD.fin (by kernel_rfl) (EX.np ?_)
        refine EX.next ?_
        refine TR.seq ?_
        refine TR.draw [8] [] rfl (by kernel_rfl) ?_
        let z23 := z15 + 1
        refine TD.vals [] (by kernel_rfl) [0, 4, 6, 1, 5, 7, 2, 3] [] [.nw, .own 0, .own 1] [0, 2, 3, 70, 72, 74] [true, true, true, true, true, true, true, true, false] [(0, vP tb 0), z16, z19, (70, .iface 41 (vP mb 0)), (72, vI z23), (74, vI ((t.ins.getD z17 dI).dy))] [tb, (n34 + 0)] [-9223372036854775808 ≤ (playerAt t.S t.i) + 1 ∧ (playerAt t.S t.i) + 1 ≤ 9223372036854775807] (by kernel_rfl) (by kernel_rfl) mn (ac ⟨by omega, by omega⟩ an) 1 rfl ?_
        refine TD.one 8 (by kernel_rfl) 0 rfl fun a_ hF_ hcl_ => ?_
        refine OPJ.callT (τ := HL) [] [] (dst := (some 75)) (f := 150) (args := #[vP mb 0, vI z23, vI ((t.ins.getD z17 dI).dy)]) (A := [z20, z1]) (Ts := [T35]) (E := []) (Ob := []) [] [0, 1] [0] [] [0, 2, 3] [] [z20, z1] [T35] [] (fun _ => []) (fun x => [x]) (fun _ x => MemH mb (z22.set z23 ((t.ins.getD z17 dI).dy)) (k + 6) x) (fun v_ => [(0, vP tb 0), z16, z19]) (fun _ => by kernel_rfl) mn an (by kernel_rfl) (by kernel_rfl) (by kernel_rfl) (by kernel_rfl) (by kernel_rfl) (by kernel_rfl) (fun _ => by kernel_rfl) [] (.inl (by kernel_rfl)) (.inl (by decide)) (set_any z23 ((t.ins.getD z17 dI).dy) hM36) ?_ hF_ hcl_
        rintro _ T37 hM38
        refine TD.fin (by kernel_rfl) (EX.np ?_)
        refine EX.next ?_
        refine TR.draw [8] [] rfl (by kernel_rfl) ?_
        let z24 := z15 + 2
        refine TD.vals [] (by kernel_rfl) [0, 4, 6, 1, 5, 7, 2, 3] [] [.nw, .own 0, .own 1] [0, 79, 81, 83] [true, true, true, true, true, true, true, true, false] [(0, vP tb 0), (79, .iface 41 (vP mb 0)), (81, vI z24), (83, vI ((t.ins.getD z17 dI).act))] [tb, (n34 + 0)] [-9223372036854775808 ≤ (playerAt t.S t.i) + 2 ∧ (playerAt t.S t.i) + 2 ≤ 9223372036854775807] (by kernel_rfl) (by kernel_rfl) mn (ac ⟨by omega, by omega⟩ an) 1 rfl ?_
        refine TD.one 8 (by kernel_rfl) 0 rfl fun a_ hF_ hcl_ => ?_
        refine OPJ.callT (τ := HL) [] [] (dst := (some 84)) (f := 150) (args := #[vP mb 0, vI z24, vI ((t.ins.getD z17 dI).act)]) (A := [z20, z1]) (Ts := [T37]) (E := []) (Ob := []) [] [0, 1] [0] [] [0] [] [z20, z1] [T37] [] (fun _ => []) (fun x => [x]) (fun _ x => MemH mb ((z22.set z23 ((t.ins.getD z17 dI).dy)).set z24 ((t.ins.getD z17 dI).act)) (k + 5) x) (fun v_ => [(0, vP tb 0)]) (fun _ => by kernel_rfl) mn an (by kernel_rfl) (by kernel_rfl) (by kernel_rfl) (by kernel_rfl) (by kernel_rfl) (by kernel_rfl) (fun _ => by kernel_rfl) [] (.inl (by kernel_rfl)) (.inl (by decide)) (set_any z24 ((t.ins.getD z17 dI).act) hM38) ?_ hF_ hcl_
        rintro _ T39 hM40
        refine TD.fin (by kernel_rfl) (EX.np ?_)
        refine EX.next ?_
        refine TR.seq ?_
        refine TR.draw [] [] rfl (by kernel_rfl) ?_
        refine TD.vals [] (by kernel_rfl) [0, 5, 1, 6, 2, 7, 3, 8, 4, 9, 10] [] [.own 1, .own 1] [0, 95] [true, true, true, true, true, true, true, true, true, true, true] [(0, vP tb 0), (95, .bool (decide (IntKind.i64.wrap (t.i + 1) < t.S.players)))] [tb, tb] [] (by kernel_rfl) (by kernel_rfl) mn an 0 rfl ?_
        refine TD.fin (by kernel_rfl) (EX.np ?_)
        refine EX.next ?_
        rcases Decidable.em (IntKind.i64.wrap (t.i + 1) < t.S.players) with h41 | h41
        · refine TR.yes (b := decide (IntKind.i64.wrap (t.i + 1) < t.S.players)) (by kernel_rfl) (by kernel_rfl) (decide_eq_true h41) ?_
          refine TR.draw [11] [] rfl (by kernel_rfl) ?_
          let z25 := IntKind.i64.wrap (t.i + 1)
          refine TD.vals [] (by kernel_rfl) [0, 4, 1, 5, 2, 6, 3, 7, 8, 9, 10] [] [.own 1, .own 1] [104, 106] [true, true, true, true, true, true, true, true, true, true, true, false] [(104, vI z25), (106, .iface 41 (vP mb 0))] [tb, tb] [] (by kernel_rfl) (by kernel_rfl) mn an 1 rfl ?_
          refine TD.one 11 (by kernel_rfl) 0 rfl fun a_ hF_ hcl_ => ?_
          refine OPJ.callT (τ := HL) [] [] (dst := (some 107)) (f := 150) (args := #[vP mb 0, vI 2, vI z25]) (A := [z20, z1]) (Ts := [T39]) (E := []) (Ob := []) [] [0, 1] [0] [] [] [] [z20, z1] [T39] [] (fun _ => []) (fun x => [x]) (fun _ x => MemH mb (((z22.set z23 ((t.ins.getD z17 dI).dy)).set z24 ((t.ins.getD z17 dI).act)).set 2 z25) (k + 4) x) (fun v_ => []) (fun _ => by kernel_rfl) mn an (by kernel_rfl) (by kernel_rfl) (by kernel_rfl) (by kernel_rfl) (by kernel_rfl) (by kernel_rfl) (fun _ => by kernel_rfl) [] (.inl (by kernel_rfl)) (.inl (by decide)) (set_any 2 z25 hM40) ?_ hF_ hcl_
          rintro _ T42 hM43
          refine TD.fin (by kernel_rfl) (EX.np ?_)
          refine EX.fin (A := [z20, z1]) (Ts := [T42]) rfl rfl [] [] (.tuple #[]) [] [] (fun _ => by kernel_rfl) mn an [1] [0] [0] [] (ap [z1] [T42]) (by kernel_rfl) (by kernel_rfl) (by kernel_rfl) ?_
          refine ⟨T42, rfl, ?_⟩
          have e : (inputM t M) = ((((M.set ((playerAt t.S t.i) + 0) ((t.ins.getD (t.io + ((t.i).toNat)) dI).dx)).set ((playerAt t.S t.i) + 1) ((t.ins.getD (t.io + ((t.i).toNat)) dI).dy)).set ((playerAt t.S t.i) + 2) ((t.ins.getD (t.io + ((t.i).toNat)) dI).act)).set 2 (IntKind.i64.wrap (t.i + 1))) := by
            first | (simp only [inputM, inputA, inputB, inputC, Stp.inp, if_neg h1, if_pos h32, if_pos h33, if_pos h41]; done) | (simp only [inputM, inputA, inputB, inputC, Stp.inp, if_neg h1, if_pos h32, if_pos h33, if_pos h41]; rfl) | rfl
          rw [e]
          exact hM43.weak (by omega)
        · refine TR.no (b := decide (IntKind.i64.wrap (t.i + 1) < t.S.players)) (by kernel_rfl) (by kernel_rfl) (decide_eq_false h41) ?_
          refine TR.reg ?_
          refine TL.seg0 1 [] [] [108] [(108, vP tb 0)] (ap [z20, z1] [T39]) [] [] (fun _ => by kernel_rfl) mn an ?_
          refine TL.callT (τ := HL) [] [] (dst := (some 109)) (f := 45) (args := #[vP tb 0, vI 1, vI 0]) (A := [z20, z1]) (Ts := [T39]) (E := []) (Ob := []) [1] [0] [0] [] [] [z1] [z20] [T39] [] (fun _ => [z1]) (fun x => [x]) (fun v x => MemH mb (beginM t 1 0 ((z22.set z23 ((t.ins.getD z17 dI).dy)).set z24 ((t.ins.getD z17 dI).act))) (k + 2) x) (fun v_ => []) (fun _ => by kernel_rfl) mn an (by kernel_rfl) (by kernel_rfl) (by kernel_rfl) (by kernel_rfl) (by kernel_rfl) (by kernel_rfl) (fun _ => by kernel_rfl) (begin_any t 1 0 tb mb ((z22.set z23 ((t.ins.getD z17 dI).dy)).set z24 ((t.ins.getD z17 dI).act)) (k + 2) T39 _ hM40 hS.up ) ?_
          rintro _ T44 hM45
          refine TL.fin (by kernel_rfl) ?_
          refine EX.fin (A := [z1, z20]) (Ts := [T44]) rfl rfl [] [] (.tuple #[]) [] [] (fun _ => by kernel_rfl) mn an [0] [1] [0] [] (ap [z1] [T44]) (by kernel_rfl) (by kernel_rfl) (by kernel_rfl) ?_
          refine ⟨T44, rfl, ?_⟩
          have e : (inputM t M) = (beginM t 1 0 (((M.set ((playerAt t.S t.i) + 0) ((t.ins.getD (t.io + ((t.i).toNat)) dI).dx)).set ((playerAt t.S t.i) + 1) ((t.ins.getD (t.io + ((t.i).toNat)) dI).dy)).set ((playerAt t.S t.i) + 2) ((t.ins.getD (t.io + ((t.i).toNat)) dI).act))) := by
            first | (simp only [inputM, inputA, inputB, inputC, Stp.inp, if_neg h1, if_pos h32, if_pos h33, if_neg h41]; done) | (simp only [inputM, inputA, inputB, inputC, Stp.inp, if_neg h1, if_pos h32, if_pos h33, if_neg h41]; rfl) | rfl
          rw [e]
          exact hM45.weak (by omega)
      · refine TR.no (b := decide (t.i < (t.ni : Int))) (by kernel_rfl) (by kernel_rfl) (decide_eq_false h33) ?_
        refine TR.skip ?_
        refine EX.next ?_
        refine TR.seq ?_
        refine TR.draw [] [] rfl (by kernel_rfl) ?_
        refine TD.vals [] (by kernel_rfl) [0, 5, 1, 6, 2, 7, 3, 8, 4, 9, 10] [] [.own 0, .own 0] [0, 95] [true, true, true, true, true, true, true, true, true, true, true] [(0, vP tb 0), (95, .bool (decide (IntKind.i64.wrap (t.i + 1) < t.S.players)))] [tb, tb] [] (by kernel_rfl) (by kernel_rfl) mn an 0 rfl ?_
        refine TD.fin (by kernel_rfl) (EX.np ?_)
        refine EX.next ?_
        rcases Decidable.em (IntKind.i64.wrap (t.i + 1) < t.S.players) with h46 | h46
        · refine TR.yes (b := decide (IntKind.i64.wrap (t.i + 1) < t.S.players)) (by kernel_rfl) (by kernel_rfl) (decide_eq_true h46) ?_
          refine TR.draw [11] [] rfl (by kernel_rfl) ?_
          let z26 := IntKind.i64.wrap (t.i + 1)
          refine TD.vals [] (by kernel_rfl) [0, 4, 1, 5, 2, 6, 3, 7, 8, 9, 10] [] [.own 0, .own 0] [104, 106] [true, true, true, true, true, true, true, true, true, true, true, false] [(104, vI z26), (106, .iface 41 (vP mb 0))] [tb, tb] [] (by kernel_rfl) (by kernel_rfl) mn an 1 rfl ?_
          refine TD.one 11 (by kernel_rfl) 0 rfl fun a_ hF_ hcl_ => ?_
          refine OPJ.callT (τ := HL) [] [] (dst := (some 107)) (f := 150) (args := #[vP mb 0, vI 2, vI z26]) (A := [z1]) (Ts := [T]) (E := []) (Ob := []) [] [0] [0] [] [] [] [z1] [T] [] (fun _ => []) (fun x => [x]) (fun _ x => MemH mb (M.set 2 z26) (k + 7) x) (fun v_ => []) (fun _ => by kernel_rfl) mn an (by kernel_rfl) (by kernel_rfl) (by kernel_rfl) (by kernel_rfl) (by kernel_rfl) (by kernel_rfl) (fun _ => by kernel_rfl) [] (.inl (by kernel_rfl)) (.inl (by decide)) (set_any 2 z26 hM) ?_ hF_ hcl_
          rintro _ T47 hM48
          refine TD.fin (by kernel_rfl) (EX.np ?_)
          refine EX.fin (A := [z1]) (Ts := [T47]) rfl rfl [] [] (.tuple #[]) [] [] (fun _ => by kernel_rfl) mn an [0] [] [0] [] (ap [z1] [T47]) (by kernel_rfl) (by kernel_rfl) (by kernel_rfl) ?_
          refine ⟨T47, rfl, ?_⟩
          have e : (inputM t M) = (M.set 2 (IntKind.i64.wrap (t.i + 1))) := by
            first | (simp only [inputM, inputA, inputB, inputC, Stp.inp, if_neg h1, if_pos h32, if_neg h33, if_pos h46]; done) | (simp only [inputM, inputA, inputB, inputC, Stp.inp, if_neg h1, if_pos h32, if_neg h33, if_pos h46]; rfl) | rfl
          rw [e]
          exact hM48.weak (by omega)
        · refine TR.no (b := decide (IntKind.i64.wrap (t.i + 1) < t.S.players)) (by kernel_rfl) (by kernel_rfl) (decide_eq_false h46) ?_
          refine TR.reg ?_
          refine TL.seg0 1 [] [] [108] [(108, vP tb 0)] (ap [z1] [T]) [] [] (fun _ => by kernel_rfl) mn an ?_
          refine TL.callT (τ := HL) [] [] (dst := (some 109)) (f := 45) (args := #[vP tb 0, vI 1, vI 0]) (A := [z1]) (Ts := [T]) (E := []) (Ob := []) [0] [] [0] [] [] [z1] [] [T] [] (fun _ => [z1]) (fun x => [x]) (fun v x => MemH mb (beginM t 1 0 M) (k + 5) x) (fun v_ => []) (fun _ => by kernel_rfl) mn an (by kernel_rfl) (by kernel_rfl) (by kernel_rfl) (by kernel_rfl) (by kernel_rfl) (by kernel_rfl) (fun _ => by kernel_rfl) (begin_any t 1 0 tb mb M (k + 5) T _ hM hS.up ) ?_
          rintro _ T49 hM50
          refine TL.fin (by kernel_rfl) ?_
          refine EX.fin (A := [z1]) (Ts := [T49]) rfl rfl [] [] (.tuple #[]) [] [] (fun _ => by kernel_rfl) mn an [0] [] [0] [] (ap [z1] [T49]) (by kernel_rfl) (by kernel_rfl) (by kernel_rfl) ?_
          refine ⟨T49, rfl, ?_⟩
          have e : (inputM t M) = (beginM t 1 0 M) := by
            first | (simp only [inputM, inputA, inputB, inputC, Stp.inp, if_neg h1, if_pos h32, if_neg h33, if_neg h46]; done) | (simp only [inputM, inputA, inputB, inputC, Stp.inp, if_neg h1, if_pos h32, if_neg h33, if_neg h46]; rfl) | rfl
          rw [e]
          exact hM50.weak (by omega)
    · refine TD.vals [] (by kernel_rfl) [0, 1, 2, 3, 7, 4, 8, 5, 9, 6, 10, 11, 12, 13] [] [.gd false, .gd false, .gd false, .gd false, .gd false, .gd false, .gd false, .gd false, .gd false, .gd false, .gd false] [0, 2, 47] [true, true, true, true, true, true, true, true, true, true, true, true, true, true] [(0, vP tb 0), z16, (47, .bool false)] [] [(decide (playerAt t.S t.i ≥ 0)) = false, (decide (playerAt t.S t.i ≥ 0)) = false, (decide (playerAt t.S t.i ≥ 0)) = false, (decide (playerAt t.S t.i ≥ 0)) = false, (decide (playerAt t.S t.i ≥ 0)) = false, (decide (playerAt t.S t.i ≥ 0)) = false, (decide (playerAt t.S t.i ≥ 0)) = false, (decide (playerAt t.S t.i ≥ 0)) = false, (decide (playerAt t.S t.i ≥ 0)) = false, (decide (playerAt t.S t.i ≥ 0)) = false, (decide (playerAt t.S t.i ≥ 0)) = false] (by kernel_rfl) (by kernel_rfl) mn (ac (decide_eq_false h32) (ac (decide_eq_false h32) (ac (decide_eq_false h32) (ac (decide_eq_false h32) (ac (decide_eq_false h32) (ac (decide_eq_false h32) (ac (decide_eq_false h32) (ac (decide_eq_false h32) (ac (decide_eq_false h32) (ac (decide_eq_false h32) (ac (decide_eq_false h32) an))))))))))) 0 rfl ?_
      refine TD.fin (by kernel_rfl) (EX.np ?_)
      refine EX.next ?_
      refine TR.no (by kernel_rfl) (by kernel_rfl) (rfl : false = false) ?_
      refine TR.skip ?_
      refine EX.next ?_
      refine TR.seq ?_
      refine TR.draw [] [] rfl (by kernel_rfl) ?_
      refine TD.vals [] (by kernel_rfl) [0, 5, 1, 6, 2, 7, 3, 8, 4, 9, 10] [] [.own 0, .own 0] [0, 95] [true, true, true, true, true, true, true, true, true, true, true] [(0, vP tb 0), (95, .bool (decide (IntKind.i64.wrap (t.i + 1) < t.S.players)))] [tb, tb] [] (by kernel_rfl) (by kernel_rfl) mn an 0 rfl ?_
      refine TD.fin (by kernel_rfl) (EX.np ?_)
      refine EX.next ?_
      rcases Decidable.em (IntKind.i64.wrap (t.i + 1) < t.S.players) with h51 | h51
      · refine TR.yes (b := decide (IntKind.i64.wrap (t.i + 1) < t.S.players)) (by kernel_rfl) (by kernel_rfl) (decide_eq_true h51) ?_
        refine TR.draw [11] [] rfl (by kernel_rfl) ?_
        let z27 := IntKind.i64.wrap (t.i + 1)
        refine TD.vals [] (by kernel_rfl) [0, 4, 1, 5, 2, 6, 3, 7, 8, 9, 10] [] [.own 0, .own 0] [104, 106] [true, true, true, true, true, true, true, true, true, true, true, false] [(104, vI z27), (106, .iface 41 (vP mb 0))] [tb, tb] [] (by kernel_rfl) (by kernel_rfl) mn an 1 rfl ?_
        refine TD.one 11 (by kernel_rfl) 0 rfl fun a_ hF_ hcl_ => ?_
        refine OPJ.callT (τ := HL) [] [] (dst := (some 107)) (f := 150) (args := #[vP mb 0, vI 2, vI z27]) (A := [z1]) (Ts := [T]) (E := []) (Ob := []) [] [0] [0] [] [] [] [z1] [T] [] (fun _ => []) (fun x => [x]) (fun _ x => MemH mb (M.set 2 z27) (k + 7) x) (fun v_ => []) (fun _ => by kernel_rfl) mn an (by kernel_rfl) (by kernel_rfl) (by kernel_rfl) (by kernel_rfl) (by kernel_rfl) (by kernel_rfl) (fun _ => by kernel_rfl) [] (.inl (by kernel_rfl)) (.inl (by decide)) (set_any 2 z27 hM) ?_ hF_ hcl_
        rintro _ T52 hM53
        refine TD.fin (by kernel_rfl) (EX.np ?_)
        refine EX.fin (A := [z1]) (Ts := [T52]) rfl rfl [] [] (.tuple #[]) [] [] (fun _ => by kernel_rfl) mn an [0] [] [0] [] (ap [z1] [T52]) (by kernel_rfl) (by kernel_rfl) (by kernel_rfl) ?_
        refine ⟨T52, rfl, ?_⟩
        have e : (inputM t M) = (M.set 2 (IntKind.i64.wrap (t.i + 1))) := by
          first | (simp only [inputM, inputA, inputB, inputC, Stp.inp, if_neg h1, if_neg h32, if_pos h51]; done) | (simp only [inputM, inputA, inputB, inputC, Stp.inp, if_neg h1, if_neg h32, if_pos h51]; rfl) | rfl
        rw [e]
        exact hM53.weak (by omega)
      · refine TR.no (b := decide (IntKind.i64.wrap (t.i + 1) < t.S.players)) (by kernel_rfl) (by kernel_rfl) (decide_eq_false h51) ?_
        refine TR.reg ?_
        refine TL.seg0 1 [] [] [108] [(108, vP tb 0)] (ap [z1] [T]) [] [] (fun _ => by kernel_rfl) mn an ?_
        refine TL.callT (τ := HL) [] [] (dst := (some 109)) (f := 45) (args := #[vP tb 0, vI 1, vI 0]) (A := [z1]) (Ts := [T]) (E := []) (Ob := []) [0] [] [0] [] [] [z1] [] [T] [] (fun _ => [z1]) (fun x => [x]) (fun v x => MemH mb (beginM t 1 0 M) (k + 5) x) (fun v_ => []) (fun _ => by kernel_rfl) mn an (by kernel_rfl) (by kernel_rfl) (by kernel_rfl) (by kernel_rfl) (by kernel_rfl) (by kernel_rfl) (fun _ => by kernel_rfl) (begin_any t 1 0 tb mb M (k + 5) T _ hM hS.up ) ?_
        rintro _ T54 hM55
        refine TL.fin (by kernel_rfl) ?_
        refine EX.fin (A := [z1]) (Ts := [T54]) rfl rfl [] [] (.tuple #[]) [] [] (fun _ => by kernel_rfl) mn an [0] [] [0] [] (ap [z1] [T54]) (by kernel_rfl) (by kernel_rfl) (by kernel_rfl) ?_
        refine ⟨T54, rfl, ?_⟩
        have e : (inputM t M) = (beginM t 1 0 M) := by
          first | (simp only [inputM, inputA, inputB, inputC, Stp.inp, if_neg h1, if_neg h32, if_neg h51]; done) | (simp only [inputM, inputA, inputB, inputC, Stp.inp, if_neg h1, if_neg h32, if_neg h51]; rfl) | rfl
        rw [e]
        exact hM55.weak (by omega)
end Go.Proofs.YtpkincoclhpcgaaGreatDoor
