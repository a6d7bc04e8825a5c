/- Contracts, printed by a program. -/
import Derived.Test.YtpkincoclhpcgaaGreatDoorKk
namespace Go.Proofs.YtpkincoclhpcgaaGreatDoor
set_option linter.unusedSimpArgs false
set_option linter.unusedVariables false
open Go.RowKit
theorem bodyAt_in {S : Setup} (h : SetN S) {i : Nat} (hi : i < S.nb) : 0 ≤ bodyAt S i ∧ bodyAt S i + 8 ≤ sizeOf S ∧ sizeOf S ≤ 20000000 := by
  have := h.pl
  have := h.nb
  unfold bodyAt sizeOf
  rw [if_neg (by omega), if_neg (by omega)]
  omega
theorem sizeOf_bd {S : Setup} (h : SetN S) : 48 ≤ sizeOf S ∧ sizeOf S ≤ 20000000 := by
  have := h.pl
  have := h.nb
  unfold sizeOf
  omega
def iniL (S : Setup) : Nat → List Int
  | 0 => List.replicate (sizeOf S).toNat 0
  | i + 1 => ((((((iniL S i).set (bodyAt S i).toNat (S.body i).mot.px).set (bodyAt S i + 1).toNat (S.body i).mot.py).set (bodyAt S i + 2).toNat (S.body i).mot.vx).set (bodyAt S i + 3).toNat (S.body i).mot.vy).set (bodyAt S i + 4).toNat (S.body i).a).set (bodyAt S i + 5).toNat (S.body i).b
theorem iniL_len (S : Setup) : ∀ i, (iniL S i).length = (sizeOf S).toNat
  | 0 => by simp [iniL]
  | i + 1 => by simp [iniL, iniL_len S i]
theorem iniL_next {S : Setup} (h : SetN S) {i : Nat} (hi : i < S.nb) : updG (updG (updG (updG (updG (updG (irow (iniL S i)) (bodyAt S i).toNat 0 (vI (S.body i).mot.px)) (bodyAt S i + 1).toNat 0 (vI (S.body i).mot.py)) (bodyAt S i + 2).toNat 0 (vI (S.body i).mot.vx)) (bodyAt S i + 3).toNat 0 (vI (S.body i).mot.vy)) (bodyAt S i + 4).toNat 0 (vI (S.body i).a)) (bodyAt S i + 5).toNat 0 (vI (S.body i).b) = irow (iniL S (i + 1)) := by
  have := bodyAt_in h hi
  rw [irow_set, irow_set, irow_set, irow_set, irow_set, irow_set, iniL] <;> (simp only [List.length_set, iniL_len]; omega)

set_option maxHeartbeats 1000000 in
set_option maxRecDepth 100000 in
theorem rinit_any (S : Setup) (F : HL) (hS : SetIn F S) : Sp Tryz.prog 9 #[(Setup.v S)] [] F (fun u H' => ∃ q, H' = ap [(q, .rows 1 (sizeOf S).toNat (irow (iniL S S.nb)) 3 (0, 0))] [] ∧ u = vS q 0 (sizeOf S).toNat (sizeOf S).toNat) := by
  have hp := hS.pl
  have hn := hS.nb
  have hr := hS.room
  have hz := sizeOf_bd hS.toSetN
  refine Sp.of_body Tryz.func9 rfl rfl rfl [(0, (Setup.v S))] rfl ?_
  intro w0
  refine TR.convH (ap [] []) rfl ?_
  refine TR.seq ?_
  refine TR.reg ?_
  refine TL.seg 2 [] [] [1] (fun n1 => [(1, vP (n1 + 0) 0)]) (fun n1 => (ap [((n1 + 0), .lit (Setup.l S) 32 (0, 0))] [])) (fun n1 => []) (fun n1 => []) (fun _ => by kernel_rfl) mn (fun n1 => an) ?_
  intro n1
  refine TL.fin (by kernel_rfl) ?_
  refine EX.next ?_
  refine TR.seq ?_
  refine TR.reg ?_
  refine TL.seg0 1 [] [.own 0, .own 0, .own 0, .own 0, .own 0, .own 0, .own 0, .own 0, .own 0, .own 0, .own 0, .own 0, .own 0, .own 0, .own 0, .own 0] [1, 7] [(1, vP (n1 + 0) 0), (7, (Setup.v S))] (ap [((n1 + 0), .lit (Setup.l S) 32 (0, 0))] []) [(n1 + 0), (n1 + 0), (n1 + 0), (n1 + 0), (n1 + 0), (n1 + 0), (n1 + 0), (n1 + 0), (n1 + 0), (n1 + 0), (n1 + 0), (n1 + 0), (n1 + 0), (n1 + 0), (n1 + 0), (n1 + 0)] [] (fun _ => by kernel_rfl) mn an ?_
  refine TL.callp (dst := (some 8)) (f := 26) (args := #[(Setup.v S)]) (H1 := (ap [((n1 + 0), .lit (Setup.l S) 32 (0, 0))] [])) (E := []) (Ob := []) [] [] [1, 8] (vI (sizeOf S)) [(1, vP (n1 + 0) 0), (8, vI (sizeOf S))] (fun _ => by kernel_rfl) mn an (rsize_any S _ hS.toSetN) (by kernel_rfl) ?_
  refine TL.seg 2 [] [.mk ((sizeOf S).toNat) ((sizeOf S).toNat)] [1, 3] (fun n2 => [(1, vP (n1 + 0) 0), (3, vS (n2 + 0) 0 ((sizeOf S).toNat) ((sizeOf S).toNat))]) (fun n2 => (ap [((n2 + 0), .rows 1 ((sizeOf S).toNat) (zrow [vI 0]) 3 (0, 0)), ((n1 + 0), .lit (Setup.l S) 32 (0, 0))] [])) (fun n2 => []) (fun n2 => [sizeOf S = (((sizeOf S).toNat : Nat) : Int) ∧ sizeOf S = (((sizeOf S).toNat : Nat) : Int) ∧ (sizeOf S).toNat ≤ (sizeOf S).toNat ∧ 8 * ((sizeOf S).toNat) ≤ 140737488355328 ∧ 1 = 1 ∧ (sizeOf S).toNat ≤ 9223372036854775807]) (fun _ => by kernel_rfl) mn (fun n2 => (ac ⟨by omega, by omega, by omega, by omega, rfl, by omega⟩ an)) ?_
  intro n2
  refine TL.fin (by kernel_rfl) ?_
  refine EX.next ?_
  refine TR.seq ?_
  refine TR.seq ?_
  refine TR.reg ?_
  refine TL.seg0 1 [] [] [1, 3, 4] [(1, vP (n1 + 0) 0), (3, vS (n2 + 0) 0 ((sizeOf S).toNat) ((sizeOf S).toNat)), (4, vI 0)] (ap [((n2 + 0), .rows 1 ((sizeOf S).toNat) (zrow [vI 0]) 3 (0, 0)), ((n1 + 0), .lit (Setup.l S) 32 (0, 0))] []) [] [] (fun _ => by kernel_rfl) mn an ?_
  refine TL.fin (by kernel_rfl) ?_
  refine EX.next ?_
  refine TR.block ?_
  refine TR.convH (ap [((n2 + 0), .rows 1 ((sizeOf S).toNat) (irow (iniL S 0)) 3 (0, 0)), ((n1 + 0), .lit (Setup.l S) 32 (0, 0))] []) (by rw [zrow_irow (sizeOf S).toNat]; rfl) ?_
  refine TR.loop (A := [((n2 + 0), .rows 1 ((sizeOf S).toNat) (irow (iniL S 0)) 3 (0, 0)), ((n1 + 0), .lit (Setup.l S) 32 (0, 0))]) (Ts := []) (σ := Nat) (fun (i : Nat) => [(1, vP (n1 + 0) 0), (3, vS (n2 + 0) 0 ((sizeOf S).toNat) ((sizeOf S).toNat)), (4, vI (i : Int))]) (fun (i : Nat) => ap [((n2 + 0), .rows 1 ((sizeOf S).toNat) (irow (iniL S i)) 3 (0, 0)), ((n1 + 0), .lit (Setup.l S) 32 (0, 0))] []) (fun (i : Nat) => i ≤ S.nb) (fun (i : Nat) => S.nb - i) 0 (Nat.zero_le _) [1, 3, 4] (by kernel_rfl) [0, 1] [] [] [] (by kernel_rfl) (by kernel_rfl) (by kernel_rfl) ?_
  rintro i hI3
  refine TR.seq ?_
  refine TR.seq ?_
  refine TR.reg ?_
  refine TL.seg0 5 [] [.own 1] [1, 3, 4, 14] [(1, vP (n1 + 0) 0), (3, vS (n2 + 0) 0 ((sizeOf S).toNat) ((sizeOf S).toNat)), (4, vI (i : Int)), (14, .bool (decide ((i : Int) < (S.nb : Int))))] (ap [((n2 + 0), .rows 1 ((sizeOf S).toNat) (irow (iniL S i)) 3 (0, 0)), ((n1 + 0), .lit (Setup.l S) 32 (0, 0))] []) [(n1 + 0)] [] (fun _ => by kernel_rfl) mn an ?_
  refine TL.fin (by kernel_rfl) ?_
  refine EX.next ?_
  rcases Decidable.em ((i : Int) < (S.nb : Int)) with h4 | h4
  · have hbi := bodyAt_in hS.toSetN (i := i) (by omega)
    refine TR.yes (b := decide ((i : Int) < (S.nb : Int))) (by kernel_rfl) (by kernel_rfl) (decide_eq_true h4) ?_
    refine TR.skip ?_
    refine EX.next ?_
    refine TR.seq ?_
    refine TR.block ?_
    refine TR.seq ?_
    refine TR.reg ?_
    refine TL.seg0 2 [] [.own 1, .own 1, .own 1, .own 1, .own 1, .own 1, .own 1, .own 1, .own 1, .own 1, .own 1, .own 1, .own 1, .own 1, .own 1, .own 1] [1, 3, 4, 17, 18] [(1, vP (n1 + 0) 0), (3, vS (n2 + 0) 0 ((sizeOf S).toNat) ((sizeOf S).toNat)), (4, vI (i : Int)), (17, (Setup.v S)), (18, vI (i : Int))] (ap [((n2 + 0), .rows 1 ((sizeOf S).toNat) (irow (iniL S i)) 3 (0, 0)), ((n1 + 0), .lit (Setup.l S) 32 (0, 0))] []) [(n1 + 0), (n1 + 0), (n1 + 0), (n1 + 0), (n1 + 0), (n1 + 0), (n1 + 0), (n1 + 0), (n1 + 0), (n1 + 0), (n1 + 0), (n1 + 0), (n1 + 0), (n1 + 0), (n1 + 0), (n1 + 0)] [] (fun _ => by kernel_rfl) mn an ?_
    refine TL.callp (dst := (some 19)) (f := 14) (args := #[(Setup.v S), vI (i : Int)]) (H1 := (ap [((n2 + 0), .rows 1 ((sizeOf S).toNat) (irow (iniL S i)) 3 (0, 0)), ((n1 + 0), .lit (Setup.l S) 32 (0, 0))] [])) (E := []) (Ob := []) [] [] [1, 3, 4, 19] (vI (bodyAt S (i : Int))) [(1, vP (n1 + 0) 0), (3, vS (n2 + 0) 0 ((sizeOf S).toNat) ((sizeOf S).toNat)), (4, vI (i : Int)), (19, vI (bodyAt S (i : Int)))] (fun _ => by kernel_rfl) mn an (rbody_any S (i : Int) _ hS.toSetN) (by kernel_rfl) ?_
    have hb5 := bodyAt_bd hS.toSetN (i : Int)
    refine TL.seg0 1 [] [] [1, 3, 4, 5] [(1, vP (n1 + 0) 0), (3, vS (n2 + 0) 0 ((sizeOf S).toNat) ((sizeOf S).toNat)), (4, vI (i : Int)), (5, vI (bodyAt S (i : Int)))] (ap [((n2 + 0), .rows 1 ((sizeOf S).toNat) (irow (iniL S i)) 3 (0, 0)), ((n1 + 0), .lit (Setup.l S) 32 (0, 0))] []) [] [] (fun _ => by kernel_rfl) mn an ?_
    refine TL.fin (by kernel_rfl) ?_
    refine EX.next ?_
    refine TR.seq ?_
    refine TR.reg ?_
    refine TL.seg 7 [(S.bb, .rows 9 S.bR (brow S.bods) 40 (0, 0))] [.own 1, .ix i, .rorow 0 (S.bo + i) 0, .rorow 0 (S.bo + i) 1, .rorow 0 (S.bo + i) 2, .rorow 0 (S.bo + i) 3, .rorow 0 (S.bo + i) 4, .rorow 0 (S.bo + i) 5, .rorow 0 (S.bo + i) 6, .rorow 0 (S.bo + i) 7, .rorow 0 (S.bo + i) 8, .own 0, .own 0, .own 0, .own 0, .own 0, .own 0, .own 0, .own 0, .own 0] [1, 3, 4, 5, 6] (fun n6 => [(1, vP (n1 + 0) 0), (3, vS (n2 + 0) 0 ((sizeOf S).toNat) ((sizeOf S).toNat)), (4, vI (i : Int)), (5, vI (bodyAt S (i : Int))), (6, vP (n6 + 0) 0)]) (fun n6 => (ap [((n6 + 0), .lit [vI ((S.bods.getD (S.bo + i) dB).sh.r), .slice ((S.bods.getD (S.bo + i) dB).sh.A) ((S.bods.getD (S.bo + i) dB).sh.poly.length) ((S.bods.getD (S.bo + i) dB).sh.cap), vI ((S.bods.getD (S.bo + i) dB).mot.px), vI ((S.bods.getD (S.bo + i) dB).mot.py), vI ((S.bods.getD (S.bo + i) dB).mot.vx), vI ((S.bods.getD (S.bo + i) dB).mot.vy), vI ((S.bods.getD (S.bo + i) dB).mot.inv), vI ((S.bods.getD (S.bo + i) dB).a), vI ((S.bods.getD (S.bo + i) dB).b)] 40 (0, 0)), ((n2 + 0), .rows 1 ((sizeOf S).toNat) (irow (iniL S i)) 3 (0, 0)), ((n1 + 0), .lit (Setup.l S) 32 (0, 0))] [])) (fun n6 => [(n6 + 0), (n6 + 0), (n6 + 0), (n6 + 0), (n6 + 0), (n6 + 0), (n6 + 0), (n6 + 0), (n6 + 0), S.bb, S.bb, S.bb, S.bb, S.bb, S.bb, S.bb, S.bb, S.bb, (n1 + 0)]) (fun n6 => [((S.bo * 9 + i * 9) + 8) = (S.bo + i) * 9 + 8 ∧ (S.bo + i) < S.bR, ((S.bo * 9 + i * 9) + 7) = (S.bo + i) * 9 + 7 ∧ (S.bo + i) < S.bR, ((S.bo * 9 + i * 9) + 6) = (S.bo + i) * 9 + 6 ∧ (S.bo + i) < S.bR, ((S.bo * 9 + i * 9) + 5) = (S.bo + i) * 9 + 5 ∧ (S.bo + i) < S.bR, ((S.bo * 9 + i * 9) + 4) = (S.bo + i) * 9 + 4 ∧ (S.bo + i) < S.bR, ((S.bo * 9 + i * 9) + 3) = (S.bo + i) * 9 + 3 ∧ (S.bo + i) < S.bR, ((S.bo * 9 + i * 9) + 2) = (S.bo + i) * 9 + 2 ∧ (S.bo + i) < S.bR, ((S.bo * 9 + i * 9) + 1) = (S.bo + i) * 9 + 1 ∧ (S.bo + i) < S.bR, (S.bo * 9 + i * 9) = (S.bo + i) * 9 + 0 ∧ (S.bo + i) < S.bR, (i : Int) = ((i : Nat) : Int) ∧ i < S.nb]) (fun _ => by kernel_rfl) (mc hS.blk mn) (fun n6 => (ac ⟨by omega, by omega⟩ (ac ⟨by omega, by omega⟩ (ac ⟨by omega, by omega⟩ (ac ⟨by omega, by omega⟩ (ac ⟨by omega, by omega⟩ (ac ⟨by omega, by omega⟩ (ac ⟨by omega, by omega⟩ (ac ⟨by omega, by omega⟩ (ac ⟨by omega, by omega⟩ (ac ⟨by omega, by omega⟩ an))))))))))) ?_
    intro n6
    refine TL.fin (by kernel_rfl) ?_
    refine EX.next ?_
    refine TR.seq ?_
    refine TR.reg ?_
    refine TL.seg0 8 [] [.own 0, .ix ((bodyAt S (i : Int)).toNat), .row 1 ((bodyAt S (i : Int)).toNat) 0] [1, 3, 4, 5, 6] [(1, vP (n1 + 0) 0), (3, vS (n2 + 0) 0 ((sizeOf S).toNat) ((sizeOf S).toNat)), (4, vI (i : Int)), (5, vI (bodyAt S (i : Int))), (6, vP (n6 + 0) 0)] (ap [((n6 + 0), .lit [vI ((S.bods.getD (S.bo + i) dB).sh.r), .slice ((S.bods.getD (S.bo + i) dB).sh.A) ((S.bods.getD (S.bo + i) dB).sh.poly.length) ((S.bods.getD (S.bo + i) dB).sh.cap), vI ((S.bods.getD (S.bo + i) dB).mot.px), vI ((S.bods.getD (S.bo + i) dB).mot.py), vI ((S.bods.getD (S.bo + i) dB).mot.vx), vI ((S.bods.getD (S.bo + i) dB).mot.vy), vI ((S.bods.getD (S.bo + i) dB).mot.inv), vI ((S.bods.getD (S.bo + i) dB).a), vI ((S.bods.getD (S.bo + i) dB).b)] 40 (0, 0)), ((n2 + 0), .rows 1 ((sizeOf S).toNat) (updG (irow (iniL S i)) ((bodyAt S (i : Int)).toNat) 0 (vI ((S.bods.getD (S.bo + i) dB).mot.px))) 3 (0, 0)), ((n1 + 0), .lit (Setup.l S) 32 (0, 0))] []) [(n2 + 0), (n6 + 0)] [(0 + ((bodyAt S (i : Int)).toNat) * 1) = ((bodyAt S (i : Int)).toNat) * 1 + 0 ∧ ((bodyAt S (i : Int)).toNat) < ((sizeOf S).toNat), bodyAt S (i : Int) = (((bodyAt S (i : Int)).toNat : Nat) : Int) ∧ (bodyAt S (i : Int)).toNat < ((sizeOf S).toNat)] (fun _ => by kernel_rfl) mn (ac ⟨by omega, by omega⟩ (ac ⟨by omega, by omega⟩ an)) ?_
    refine TL.fin (by kernel_rfl) ?_
    refine EX.next ?_
    refine TR.seq ?_
    refine TR.reg ?_
    refine TL.seg0 9 [] [.nw, .own 0, .ix (((bodyAt S (i : Int)) + 1).toNat), .row 1 (((bodyAt S (i : Int)) + 1).toNat) 0] [1, 3, 4, 5, 6] [(1, vP (n1 + 0) 0), (3, vS (n2 + 0) 0 ((sizeOf S).toNat) ((sizeOf S).toNat)), (4, vI (i : Int)), (5, vI (bodyAt S (i : Int))), (6, vP (n6 + 0) 0)] (ap [((n6 + 0), .lit [vI ((S.bods.getD (S.bo + i) dB).sh.r), .slice ((S.bods.getD (S.bo + i) dB).sh.A) ((S.bods.getD (S.bo + i) dB).sh.poly.length) ((S.bods.getD (S.bo + i) dB).sh.cap), vI ((S.bods.getD (S.bo + i) dB).mot.px), vI ((S.bods.getD (S.bo + i) dB).mot.py), vI ((S.bods.getD (S.bo + i) dB).mot.vx), vI ((S.bods.getD (S.bo + i) dB).mot.vy), vI ((S.bods.getD (S.bo + i) dB).mot.inv), vI ((S.bods.getD (S.bo + i) dB).a), vI ((S.bods.getD (S.bo + i) dB).b)] 40 (0, 0)), ((n2 + 0), .rows 1 ((sizeOf S).toNat) (updG (updG (irow (iniL S i)) ((bodyAt S (i : Int)).toNat) 0 (vI ((S.bods.getD (S.bo + i) dB).mot.px))) (((bodyAt S (i : Int)) + 1).toNat) 0 (vI ((S.bods.getD (S.bo + i) dB).mot.py))) 3 (0, 0)), ((n1 + 0), .lit (Setup.l S) 32 (0, 0))] []) [(n2 + 0), (n6 + 0)] [(0 + (((bodyAt S (i : Int)) + 1).toNat) * 1) = (((bodyAt S (i : Int)) + 1).toNat) * 1 + 0 ∧ (((bodyAt S (i : Int)) + 1).toNat) < ((sizeOf S).toNat), (bodyAt S (i : Int)) + 1 = ((((bodyAt S (i : Int)) + 1).toNat : Nat) : Int) ∧ ((bodyAt S (i : Int)) + 1).toNat < ((sizeOf S).toNat), -9223372036854775808 ≤ (bodyAt S (i : Int)) + 1 ∧ (bodyAt S (i : Int)) + 1 ≤ 9223372036854775807] (fun _ => by kernel_rfl) mn (ac ⟨by omega, by omega⟩ (ac ⟨by omega, by omega⟩ (ac ⟨by omega, by omega⟩ an))) ?_
    refine TL.fin (by kernel_rfl) ?_
    refine EX.next ?_
    refine TR.seq ?_
    refine TR.reg ?_
    refine TL.seg0 9 [] [.nw, .own 0, .ix (((bodyAt S (i : Int)) + 2).toNat), .row 1 (((bodyAt S (i : Int)) + 2).toNat) 0] [1, 3, 4, 5, 6] [(1, vP (n1 + 0) 0), (3, vS (n2 + 0) 0 ((sizeOf S).toNat) ((sizeOf S).toNat)), (4, vI (i : Int)), (5, vI (bodyAt S (i : Int))), (6, vP (n6 + 0) 0)] (ap [((n6 + 0), .lit [vI ((S.bods.getD (S.bo + i) dB).sh.r), .slice ((S.bods.getD (S.bo + i) dB).sh.A) ((S.bods.getD (S.bo + i) dB).sh.poly.length) ((S.bods.getD (S.bo + i) dB).sh.cap), vI ((S.bods.getD (S.bo + i) dB).mot.px), vI ((S.bods.getD (S.bo + i) dB).mot.py), vI ((S.bods.getD (S.bo + i) dB).mot.vx), vI ((S.bods.getD (S.bo + i) dB).mot.vy), vI ((S.bods.getD (S.bo + i) dB).mot.inv), vI ((S.bods.getD (S.bo + i) dB).a), vI ((S.bods.getD (S.bo + i) dB).b)] 40 (0, 0)), ((n2 + 0), .rows 1 ((sizeOf S).toNat) (updG (updG (updG (irow (iniL S i)) ((bodyAt S (i : Int)).toNat) 0 (vI ((S.bods.getD (S.bo + i) dB).mot.px))) (((bodyAt S (i : Int)) + 1).toNat) 0 (vI ((S.bods.getD (S.bo + i) dB).mot.py))) (((bodyAt S (i : Int)) + 2).toNat) 0 (vI ((S.bods.getD (S.bo + i) dB).mot.vx))) 3 (0, 0)), ((n1 + 0), .lit (Setup.l S) 32 (0, 0))] []) [(n2 + 0), (n6 + 0)] [(0 + (((bodyAt S (i : Int)) + 2).toNat) * 1) = (((bodyAt S (i : Int)) + 2).toNat) * 1 + 0 ∧ (((bodyAt S (i : Int)) + 2).toNat) < ((sizeOf S).toNat), (bodyAt S (i : Int)) + 2 = ((((bodyAt S (i : Int)) + 2).toNat : Nat) : Int) ∧ ((bodyAt S (i : Int)) + 2).toNat < ((sizeOf S).toNat), -9223372036854775808 ≤ (bodyAt S (i : Int)) + 2 ∧ (bodyAt S (i : Int)) + 2 ≤ 9223372036854775807] (fun _ => by kernel_rfl) mn (ac ⟨by omega, by omega⟩ (ac ⟨by omega, by omega⟩ (ac ⟨by omega, by omega⟩ an))) ?_
    refine TL.fin (by kernel_rfl) ?_
    refine EX.next ?_
    refine TR.seq ?_
    refine TR.reg ?_
    refine TL.seg0 9 [] [.nw, .own 0, .ix (((bodyAt S (i : Int)) + 3).toNat), .row 1 (((bodyAt S (i : Int)) + 3).toNat) 0] [1, 3, 4, 5, 6] [(1, vP (n1 + 0) 0), (3, vS (n2 + 0) 0 ((sizeOf S).toNat) ((sizeOf S).toNat)), (4, vI (i : Int)), (5, vI (bodyAt S (i : Int))), (6, vP (n6 + 0) 0)] (ap [((n6 + 0), .lit [vI ((S.bods.getD (S.bo + i) dB).sh.r), .slice ((S.bods.getD (S.bo + i) dB).sh.A) ((S.bods.getD (S.bo + i) dB).sh.poly.length) ((S.bods.getD (S.bo + i) dB).sh.cap), vI ((S.bods.getD (S.bo + i) dB).mot.px), vI ((S.bods.getD (S.bo + i) dB).mot.py), vI ((S.bods.getD (S.bo + i) dB).mot.vx), vI ((S.bods.getD (S.bo + i) dB).mot.vy), vI ((S.bods.getD (S.bo + i) dB).mot.inv), vI ((S.bods.getD (S.bo + i) dB).a), vI ((S.bods.getD (S.bo + i) dB).b)] 40 (0, 0)), ((n2 + 0), .rows 1 ((sizeOf S).toNat) (updG (updG (updG (updG (irow (iniL S i)) ((bodyAt S (i : Int)).toNat) 0 (vI ((S.bods.getD (S.bo + i) dB).mot.px))) (((bodyAt S (i : Int)) + 1).toNat) 0 (vI ((S.bods.getD (S.bo + i) dB).mot.py))) (((bodyAt S (i : Int)) + 2).toNat) 0 (vI ((S.bods.getD (S.bo + i) dB).mot.vx))) (((bodyAt S (i : Int)) + 3).toNat) 0 (vI ((S.bods.getD (S.bo + i) dB).mot.vy))) 3 (0, 0)), ((n1 + 0), .lit (Setup.l S) 32 (0, 0))] []) [(n2 + 0), (n6 + 0)] [(0 + (((bodyAt S (i : Int)) + 3).toNat) * 1) = (((bodyAt S (i : Int)) + 3).toNat) * 1 + 0 ∧ (((bodyAt S (i : Int)) + 3).toNat) < ((sizeOf S).toNat), (bodyAt S (i : Int)) + 3 = ((((bodyAt S (i : Int)) + 3).toNat : Nat) : Int) ∧ ((bodyAt S (i : Int)) + 3).toNat < ((sizeOf S).toNat), -9223372036854775808 ≤ (bodyAt S (i : Int)) + 3 ∧ (bodyAt S (i : Int)) + 3 ≤ 9223372036854775807] (fun _ => by kernel_rfl) mn (ac ⟨by omega, by omega⟩ (ac ⟨by omega, by omega⟩ (ac ⟨by omega, by omega⟩ an))) ?_
    refine TL.fin (by kernel_rfl) ?_
    refine EX.next ?_
    refine TR.seq ?_
    refine TR.reg ?_
    refine TL.seg0 7 [] [.nw, .own 0, .ix (((bodyAt S (i : Int)) + 4).toNat), .row 1 (((bodyAt S (i : Int)) + 4).toNat) 0] [1, 3, 4, 5, 6] [(1, vP (n1 + 0) 0), (3, vS (n2 + 0) 0 ((sizeOf S).toNat) ((sizeOf S).toNat)), (4, vI (i : Int)), (5, vI (bodyAt S (i : Int))), (6, vP (n6 + 0) 0)] (ap [((n6 + 0), .lit [vI ((S.bods.getD (S.bo + i) dB).sh.r), .slice ((S.bods.getD (S.bo + i) dB).sh.A) ((S.bods.getD (S.bo + i) dB).sh.poly.length) ((S.bods.getD (S.bo + i) dB).sh.cap), vI ((S.bods.getD (S.bo + i) dB).mot.px), vI ((S.bods.getD (S.bo + i) dB).mot.py), vI ((S.bods.getD (S.bo + i) dB).mot.vx), vI ((S.bods.getD (S.bo + i) dB).mot.vy), vI ((S.bods.getD (S.bo + i) dB).mot.inv), vI ((S.bods.getD (S.bo + i) dB).a), vI ((S.bods.getD (S.bo + i) dB).b)] 40 (0, 0)), ((n2 + 0), .rows 1 ((sizeOf S).toNat) (updG (updG (updG (updG (updG (irow (iniL S i)) ((bodyAt S (i : Int)).toNat) 0 (vI ((S.bods.getD (S.bo + i) dB).mot.px))) (((bodyAt S (i : Int)) + 1).toNat) 0 (vI ((S.bods.getD (S.bo + i) dB).mot.py))) (((bodyAt S (i : Int)) + 2).toNat) 0 (vI ((S.bods.getD (S.bo + i) dB).mot.vx))) (((bodyAt S (i : Int)) + 3).toNat) 0 (vI ((S.bods.getD (S.bo + i) dB).mot.vy))) (((bodyAt S (i : Int)) + 4).toNat) 0 (vI ((S.bods.getD (S.bo + i) dB).a))) 3 (0, 0)), ((n1 + 0), .lit (Setup.l S) 32 (0, 0))] []) [(n2 + 0), (n6 + 0)] [(0 + (((bodyAt S (i : Int)) + 4).toNat) * 1) = (((bodyAt S (i : Int)) + 4).toNat) * 1 + 0 ∧ (((bodyAt S (i : Int)) + 4).toNat) < ((sizeOf S).toNat), (bodyAt S (i : Int)) + 4 = ((((bodyAt S (i : Int)) + 4).toNat : Nat) : Int) ∧ ((bodyAt S (i : Int)) + 4).toNat < ((sizeOf S).toNat), -9223372036854775808 ≤ (bodyAt S (i : Int)) + 4 ∧ (bodyAt S (i : Int)) + 4 ≤ 9223372036854775807] (fun _ => by kernel_rfl) mn (ac ⟨by omega, by omega⟩ (ac ⟨by omega, by omega⟩ (ac ⟨by omega, by omega⟩ an))) ?_
    refine TL.fin (by kernel_rfl) ?_
    refine EX.next ?_
    refine TR.reg ?_
    refine TL.seg0 7 [] [.nw, .own 0, .ix (((bodyAt S (i : Int)) + 5).toNat), .row 1 (((bodyAt S (i : Int)) + 5).toNat) 0] [1, 3, 4] [(1, vP (n1 + 0) 0), (3, vS (n2 + 0) 0 ((sizeOf S).toNat) ((sizeOf S).toNat)), (4, vI (i : Int))] (ap [((n6 + 0), .lit [vI ((S.bods.getD (S.bo + i) dB).sh.r), .slice ((S.bods.getD (S.bo + i) dB).sh.A) ((S.bods.getD (S.bo + i) dB).sh.poly.length) ((S.bods.getD (S.bo + i) dB).sh.cap), vI ((S.bods.getD (S.bo + i) dB).mot.px), vI ((S.bods.getD (S.bo + i) dB).mot.py), vI ((S.bods.getD (S.bo + i) dB).mot.vx), vI ((S.bods.getD (S.bo + i) dB).mot.vy), vI ((S.bods.getD (S.bo + i) dB).mot.inv), vI ((S.bods.getD (S.bo + i) dB).a), vI ((S.bods.getD (S.bo + i) dB).b)] 40 (0, 0)), ((n2 + 0), .rows 1 ((sizeOf S).toNat) (updG (updG (updG (updG (updG (updG (irow (iniL S i)) ((bodyAt S (i : Int)).toNat) 0 (vI ((S.bods.getD (S.bo + i) dB).mot.px))) (((bodyAt S (i : Int)) + 1).toNat) 0 (vI ((S.bods.getD (S.bo + i) dB).mot.py))) (((bodyAt S (i : Int)) + 2).toNat) 0 (vI ((S.bods.getD (S.bo + i) dB).mot.vx))) (((bodyAt S (i : Int)) + 3).toNat) 0 (vI ((S.bods.getD (S.bo + i) dB).mot.vy))) (((bodyAt S (i : Int)) + 4).toNat) 0 (vI ((S.bods.getD (S.bo + i) dB).a))) (((bodyAt S (i : Int)) + 5).toNat) 0 (vI ((S.bods.getD (S.bo + i) dB).b))) 3 (0, 0)), ((n1 + 0), .lit (Setup.l S) 32 (0, 0))] []) [(n2 + 0), (n6 + 0)] [(0 + (((bodyAt S (i : Int)) + 5).toNat) * 1) = (((bodyAt S (i : Int)) + 5).toNat) * 1 + 0 ∧ (((bodyAt S (i : Int)) + 5).toNat) < ((sizeOf S).toNat), (bodyAt S (i : Int)) + 5 = ((((bodyAt S (i : Int)) + 5).toNat : Nat) : Int) ∧ ((bodyAt S (i : Int)) + 5).toNat < ((sizeOf S).toNat), -9223372036854775808 ≤ (bodyAt S (i : Int)) + 5 ∧ (bodyAt S (i : Int)) + 5 ≤ 9223372036854775807] (fun _ => by kernel_rfl) mn (ac ⟨by omega, by omega⟩ (ac ⟨by omega, by omega⟩ (ac ⟨by omega, by omega⟩ an))) ?_
    refine TL.fin (by kernel_rfl) ?_
    refine EX.inn ?_
    refine EX.next ?_
    refine TR.reg ?_
    refine TL.seg0 3 [] [.nw] [1, 3, 4] [(1, vP (n1 + 0) 0), (3, vS (n2 + 0) 0 ((sizeOf S).toNat) ((sizeOf S).toNat)), (4, vI ((i : Int) + 1))] (ap [((n6 + 0), .lit [vI ((S.bods.getD (S.bo + i) dB).sh.r), .slice ((S.bods.getD (S.bo + i) dB).sh.A) ((S.bods.getD (S.bo + i) dB).sh.poly.length) ((S.bods.getD (S.bo + i) dB).sh.cap), vI ((S.bods.getD (S.bo + i) dB).mot.px), vI ((S.bods.getD (S.bo + i) dB).mot.py), vI ((S.bods.getD (S.bo + i) dB).mot.vx), vI ((S.bods.getD (S.bo + i) dB).mot.vy), vI ((S.bods.getD (S.bo + i) dB).mot.inv), vI ((S.bods.getD (S.bo + i) dB).a), vI ((S.bods.getD (S.bo + i) dB).b)] 40 (0, 0)), ((n2 + 0), .rows 1 ((sizeOf S).toNat) (updG (updG (updG (updG (updG (updG (irow (iniL S i)) ((bodyAt S (i : Int)).toNat) 0 (vI ((S.bods.getD (S.bo + i) dB).mot.px))) (((bodyAt S (i : Int)) + 1).toNat) 0 (vI ((S.bods.getD (S.bo + i) dB).mot.py))) (((bodyAt S (i : Int)) + 2).toNat) 0 (vI ((S.bods.getD (S.bo + i) dB).mot.vx))) (((bodyAt S (i : Int)) + 3).toNat) 0 (vI ((S.bods.getD (S.bo + i) dB).mot.vy))) (((bodyAt S (i : Int)) + 4).toNat) 0 (vI ((S.bods.getD (S.bo + i) dB).a))) (((bodyAt S (i : Int)) + 5).toNat) 0 (vI ((S.bods.getD (S.bo + i) dB).b))) 3 (0, 0)), ((n1 + 0), .lit (Setup.l S) 32 (0, 0))] []) [] [-9223372036854775808 ≤ (i : Int) + 1 ∧ (i : Int) + 1 ≤ 9223372036854775807] (fun _ => by kernel_rfl) mn (ac ⟨by omega, by omega⟩ an) ?_
    refine TL.fin (by kernel_rfl) ?_
    refine EX.convH (ap [((n6 + 0), .lit [vI ((S.bods.getD (S.bo + i) dB).sh.r), .slice ((S.bods.getD (S.bo + i) dB).sh.A) ((S.bods.getD (S.bo + i) dB).sh.poly.length) ((S.bods.getD (S.bo + i) dB).sh.cap), vI ((S.bods.getD (S.bo + i) dB).mot.px), vI ((S.bods.getD (S.bo + i) dB).mot.py), vI ((S.bods.getD (S.bo + i) dB).mot.vx), vI ((S.bods.getD (S.bo + i) dB).mot.vy), vI ((S.bods.getD (S.bo + i) dB).mot.inv), vI ((S.bods.getD (S.bo + i) dB).a), vI ((S.bods.getD (S.bo + i) dB).b)] 40 (0, 0)), ((n2 + 0), .rows 1 ((sizeOf S).toNat) (irow (iniL S (i + 1))) 3 (0, 0)), ((n1 + 0), .lit (Setup.l S) 32 (0, 0))] []) (by rw [← iniL_next hS.toSetN (i := i) (by omega)]; kernel_rfl) ?_
    refine EX.meet (A := [((n6 + 0), .lit [vI ((S.bods.getD (S.bo + i) dB).sh.r), .slice ((S.bods.getD (S.bo + i) dB).sh.A) ((S.bods.getD (S.bo + i) dB).sh.poly.length) ((S.bods.getD (S.bo + i) dB).sh.cap), vI ((S.bods.getD (S.bo + i) dB).mot.px), vI ((S.bods.getD (S.bo + i) dB).mot.py), vI ((S.bods.getD (S.bo + i) dB).mot.vx), vI ((S.bods.getD (S.bo + i) dB).mot.vy), vI ((S.bods.getD (S.bo + i) dB).mot.inv), vI ((S.bods.getD (S.bo + i) dB).a), vI ((S.bods.getD (S.bo + i) dB).b)] 40 (0, 0)), ((n2 + 0), .rows 1 ((sizeOf S).toNat) (irow (iniL S (i + 1))) 3 (0, 0)), ((n1 + 0), .lit (Setup.l S) 32 (0, 0))]) (Ts := []) (i + 1) ?_ [1, 3, 4] (by kernel_rfl) [1, 2] [0] [] [] (by kernel_rfl) (by kernel_rfl) (by kernel_rfl)
    try dsimp only
    exact ⟨by omega, by omega⟩
  · refine TR.no (b := decide ((i : Int) < (S.nb : Int))) (by kernel_rfl) (by kernel_rfl) (decide_eq_false h4) ?_
    refine TR.exit ?_
    refine EX.thn (by simp) ?_
    refine EX.thn (by simp) ?_
    refine EX.hit ?_
    refine EX.next ?_
    refine TR.seq ?_
    refine TR.reg ?_
    refine TL.seg0 2 [] [] [2] [(2, vS (n2 + 0) 0 ((sizeOf S).toNat) ((sizeOf S).toNat))] (ap [((n2 + 0), .rows 1 ((sizeOf S).toNat) (irow (iniL S i)) 3 (0, 0)), ((n1 + 0), .lit (Setup.l S) 32 (0, 0))] []) [] [] (fun _ => by kernel_rfl) mn an ?_
    refine TL.fin (by kernel_rfl) ?_
    refine EX.next ?_
    refine TR.ret (A := [((n2 + 0), .rows 1 ((sizeOf S).toNat) (irow (iniL S i)) 3 (0, 0)), ((n1 + 0), .lit (Setup.l S) 32 (0, 0))]) (Ts := []) (by exact fun _ _ h => h) rfl rfl [] [] (vS (n2 + 0) 0 ((sizeOf S).toNat) ((sizeOf S).toNat)) [] [] (fun _ => by kernel_rfl) mn an [0] [1] [] [] [((n2 + 0), .rows 1 ((sizeOf S).toNat) (irow (iniL S i)) 3 (0, 0))] (by kernel_rfl) (by kernel_rfl) (by kernel_rfl) ?_
    have ei : i = S.nb := by omega
    subst ei
    exact ⟨_, rfl, rfl⟩
end Go.Proofs.YtpkincoclhpcgaaGreatDoor
