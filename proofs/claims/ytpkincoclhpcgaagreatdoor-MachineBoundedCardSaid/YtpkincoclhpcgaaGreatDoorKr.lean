/- Contracts, printed by a program. -/
import Derived.Test.YtpkincoclhpcgaaGreatDoorKq
namespace Go.Proofs.YtpkincoclhpcgaaGreatDoor
set_option linter.unusedSimpArgs false
set_option linter.unusedVariables false
open Go.RowKit
def motC (S : Setup) (cs : List Int) (i : Nat) : Mot := ⟨cs.getD (bodyAt S i).toNat 0, cs.getD ((bodyAt S i).toNat + 1) 0, cs.getD ((bodyAt S i).toNat + 2) 0, cs.getD ((bodyAt S i).toNat + 3) 0, (S.body i).mot.inv⟩

set_option maxHeartbeats 1000000 in
set_option maxRecDepth 100000 in
theorem lmot_any (S : Setup) (q n cap : Nat) (cs : List Int) (i : Nat) (F : HL) (hS : SetIn F S) (hq : (q, .rows 1 n (irow cs) 3 (0, 0)) ∈ F) (hi : i < S.nb) (hn : (sizeOf S).toNat ≤ n) (hc : n ≤ cap) (hn2 : n ≤ 100000000) : Sp Tryz.prog 20 #[(Setup.v S), vS q 0 n cap, vI (i : Int)] [] F (fun u H' => u = .agg #[vI ((motC S cs i).px), vI ((motC S cs i).py), vI ((motC S cs i).vx), vI ((motC S cs i).vy), vI ((motC S cs i).inv)] ∧ H' = []) := by
  have hp := hS.pl
  have hnb := hS.nb
  have hr := hS.room
  have hz := sizeOf_bd hS.toSetN
  have hbi := bodyAt_in hS.toSetN (i := i) (by omega)
  refine Sp.of_body Tryz.func20 rfl rfl rfl [(0, (Setup.v S)), (1, vS q 0 n cap), (2, vI (i : Int))] rfl ?_
  intro w0
  refine TR.convH (ap [] []) rfl ?_
  refine TR.seq ?_
  refine TR.reg ?_
  let z1 : Nat × Value := (1, vS q 0 n cap)
  let z2 : Nat × Value := (2, vI (i : Int))
  refine TL.seg 2 [] [] [1, 2, 3, 6] (fun n1 => [z1, z2, (3, vP (n1 + 0) 0), (6, vP (n1 + 1) 0)]) (fun n1 => (ap [((n1 + 1), .lit [vI 0, vI 0, vI 0, vI 0, vI 0] 38 (0, 0)), ((n1 + 0), .lit (Setup.l S) 32 (0, 0))] [])) (fun n1 => []) (fun n1 => []) (fun _ => by kernel_rfl) mn (fun n1 => an) ?_
  intro n1
  refine TL.fin (by kernel_rfl) ?_
  refine EX.next ?_
  refine TR.seq ?_
  refine TR.reg ?_
  let z3 : Nat × Value := (3, vP (n1 + 0) 0)
  let z4 : Nat × Value := (6, vP (n1 + 1) 0)
  let z5 : Nat × Blk := ((n1 + 1), .lit [vI 0, vI 0, vI 0, vI 0, vI 0] 38 (0, 0))
  let z6 : Nat × Blk := ((n1 + 0), .lit (Setup.l S) 32 (0, 0))
  refine TL.seg0 2 [] [.own 1, .own 1, .own 1, .own 1, .own 1, .own 1, .own 1, .own 1, .own 1, .own 1, .own 1, .own 1, .own 1, .own 1, .own 1, .own 1] [1, 2, 3, 6, 9, 10] [z1, z2, z3, z4, (9, (Setup.v S)), (10, vI (i : Int))] (ap [z5, z6] []) [(n1 + 0), (n1 + 0), (n1 + 0), (n1 + 0), (n1 + 0), (n1 + 0), (n1 + 0), (n1 + 0), (n1 + 0), (n1 + 0), (n1 + 0), (n1 + 0), (n1 + 0), (n1 + 0), (n1 + 0), (n1 + 0)] [] (fun _ => by kernel_rfl) mn an ?_
  let z7 := bodyAt S (i : Int)
  refine TL.callp (dst := (some 11)) (f := 37) (args := #[(Setup.v S), vI (i : Int)]) (H1 := (ap [z5, z6] [])) (E := []) (Ob := []) [] [] [1, 2, 3, 6, 11] (vI z7) [z1, z2, z3, z4, (11, vI z7)] (fun _ => by kernel_rfl) mn an (lbody_any S (i : Int) _ hS.toSetN) (by kernel_rfl) ?_
  have hb2 := bodyAt_bd hS.toSetN (i : Int)
  let z8 : Nat × Value := (7, vI z7)
  refine TL.seg0 1 [] [] [1, 2, 3, 6, 7] [z1, z2, z3, z4, z8] (ap [z5, z6] []) [] [] (fun _ => by kernel_rfl) mn an ?_
  refine TL.fin (by kernel_rfl) ?_
  refine EX.next ?_
  refine TR.seq ?_
  refine TR.seq ?_
  refine TR.reg ?_
  rcases Decidable.em (bodyAt S (i : Int) < 0) with h3 | h3
  · (exfalso; omega)
  · refine TL.seg0 9 [] [.gd false, .gd false, .gd false, .gd false, .nw, .gd false, .gd false] [1, 2, 3, 6, 7, 20] [z1, z2, z3, z4, z8, (20, .bool (decide ((n : Int) - z7 < 8)))] (ap [z5, z6] []) [] [(decide (bodyAt S (i : Int) < 0)) = false, (decide (bodyAt S (i : Int) < 0)) = false, -9223372036854775808 ≤ (n : Int) - (bodyAt S (i : Int)) ∧ (n : Int) - (bodyAt S (i : Int)) ≤ 9223372036854775807, (decide (bodyAt S (i : Int) < 0)) = false, (decide (bodyAt S (i : Int) < 0)) = false, (decide (bodyAt S (i : Int) < 0)) = false, (decide (bodyAt S (i : Int) < 0)) = false] (fun _ => by kernel_rfl) mn (ac (decide_eq_false h3) (ac (decide_eq_false h3) (ac ⟨by omega, by omega⟩ (ac (decide_eq_false h3) (ac (decide_eq_false h3) (ac (decide_eq_false h3) (ac (decide_eq_false h3) an))))))) ?_
    refine TL.fin (by kernel_rfl) ?_
    refine EX.next ?_
    rcases Decidable.em ((n : Int) - (bodyAt S (i : Int)) < 8) with h4 | h4
    · (exfalso; omega)
    · refine TR.no (b := decide ((n : Int) - z7 < 8)) (by kernel_rfl) (by kernel_rfl) (decide_eq_false h4) ?_
      refine TR.skip ?_
      refine EX.next ?_
      refine TR.seq ?_
      refine TR.reg ?_
      refine TL.seg0 4 [] [.sl (z7.toNat) n false] [2, 3, 6, 8] [z2, z3, z4, (8, vS q (0 + (z7.toNat) * 1) (n - z7.toNat) (cap - z7.toNat))] (ap [z5, z6] []) [] [bodyAt S (i : Int) = (((bodyAt S (i : Int)).toNat : Nat) : Int) ∧ n = n ∧ (bodyAt S (i : Int)).toNat ≤ n ∧ n ≤ cap ∧ cap ≠ (bodyAt S (i : Int)).toNat] (fun _ => by kernel_rfl) mn (ac ⟨by omega, by omega, by omega, by omega, by omega⟩ an) ?_
      refine TL.fin (by kernel_rfl) ?_
      refine EX.next ?_
      refine TR.seq ?_
      refine TR.draw [22] [] rfl (by kernel_rfl) ?_
      let z9 := (z7.toNat) + 0
      let z10 := (z7.toNat) + 1
      let z11 := (z7.toNat) + 2
      let z12 := (z7.toNat) + 3
      refine TD.vals [] (by kernel_rfl) [0, 3, 7, 10, 14, 16, 1, 4, 8, 11, 15, 2, 5, 9, 12, 17, 6, 13, 18, 19, 20, 21] [(q, .rows 1 n (irow cs) 3 (0, 0)), (S.bb, .rows 9 S.bR (brow S.bods) 40 (0, 0))] [.ix 0, .ix 1, .ix 2, .ix 3, .own 1, .rorow 0 z9 0, .rorow 0 z10 0, .rorow 0 z11 0, .rorow 0 z12 0, .ix i, .rorow 1 (S.bo + i) 6] [6, 46] [true, true, true, true, true, true, true, true, true, true, true, true, true, true, true, true, true, true, true, true, true, true, false] [z4, (46, .agg #[vI (cs.getD z9 0), vI (cs.getD z10 0), vI (cs.getD z11 0), vI (cs.getD z12 0), vI ((S.bods.getD (S.bo + i) dB).mot.inv)])] [S.bb, q, q, q, q, (n1 + 0)] [((S.bo * 9 + i * 9) + 6) = (S.bo + i) * 9 + 6 ∧ (S.bo + i) < S.bR, (i : Int) = ((i : Nat) : Int) ∧ i < S.nb, ((0 + ((bodyAt S (i : Int)).toNat) * 1) + 3 * 1) = (((bodyAt S (i : Int)).toNat) + 3) * 1 + 0 ∧ (((bodyAt S (i : Int)).toNat) + 3) < n, ((0 + ((bodyAt S (i : Int)).toNat) * 1) + 2 * 1) = (((bodyAt S (i : Int)).toNat) + 2) * 1 + 0 ∧ (((bodyAt S (i : Int)).toNat) + 2) < n, ((0 + ((bodyAt S (i : Int)).toNat) * 1) + 1 * 1) = (((bodyAt S (i : Int)).toNat) + 1) * 1 + 0 ∧ (((bodyAt S (i : Int)).toNat) + 1) < n, ((0 + ((bodyAt S (i : Int)).toNat) * 1) + 0 * 1) = (((bodyAt S (i : Int)).toNat) + 0) * 1 + 0 ∧ (((bodyAt S (i : Int)).toNat) + 0) < n, 3 = ((3 : Nat) : Int) ∧ 3 < (n - (bodyAt S (i : Int)).toNat), 2 = ((2 : Nat) : Int) ∧ 2 < (n - (bodyAt S (i : Int)).toNat), 1 = ((1 : Nat) : Int) ∧ 1 < (n - (bodyAt S (i : Int)).toNat), 0 = ((0 : Nat) : Int) ∧ 0 < (n - (bodyAt S (i : Int)).toNat)] (by kernel_rfl) (by kernel_rfl) (mc hq (mc hS.blk mn)) (ac ⟨by omega, by omega⟩ (ac ⟨by omega, by omega⟩ (ac ⟨by omega, by omega⟩ (ac ⟨by omega, by omega⟩ (ac ⟨by omega, by omega⟩ (ac ⟨by omega, by omega⟩ (ac ⟨by omega, by omega⟩ (ac ⟨by omega, by omega⟩ (ac ⟨by omega, by omega⟩ (ac ⟨by omega, by omega⟩ an)))))))))) 1 rfl ?_
      refine TD.one 22 (by kernel_rfl) 0 rfl fun a_ hF_ hcl_ => ?_
      let z13 : Nat × Blk := ((n1 + 1), .lit [vI (cs.getD z9 0), vI (cs.getD z10 0), vI (cs.getD z11 0), vI (cs.getD z12 0), vI ((S.bods.getD (S.bo + i) dB).mot.inv)] 38 (0, 0))
      refine OPJ.ev [] [.own 0, .own 0, .own 0, .own 0, .own 0] [6] (fun _ => [z4]) (fun _ => (ap [z13, z6] [])) (fun _ => [(n1 + 1), (n1 + 1), (n1 + 1), (n1 + 1), (n1 + 1)]) (fun _ => []) (fun _ => by kernel_rfl) mn (fun _ => an) (.inl ⟨[], fun _ => by kernel_rfl⟩) (.inl (by decide)) (fun _ => ?_) hF_ hcl_
      refine TD.fin (by kernel_rfl) (EX.np ?_)
      refine EX.next ?_
      refine TR.ret (A := [z13, z6]) (Ts := []) (by exact fun _ _ h => h) rfl rfl [] [.own 0, .own 0, .own 0, .own 0, .own 0] (.agg #[vI (cs.getD z9 0), vI (cs.getD z10 0), vI (cs.getD z11 0), vI (cs.getD z12 0), vI ((S.bods.getD (S.bo + i) dB).mot.inv)]) [(n1 + 1), (n1 + 1), (n1 + 1), (n1 + 1), (n1 + 1)] [] (fun _ => by kernel_rfl) mn an [] [0, 1] [] [] [] (by kernel_rfl) (by kernel_rfl) (by kernel_rfl) ?_
      exact ⟨rfl, rfl⟩
end Go.Proofs.YtpkincoclhpcgaaGreatDoor
