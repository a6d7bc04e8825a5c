/- Contracts, printed by a program. -/
import Derived.Test.YtpkincoclhpcgaaGreatDoorKd
import Derived.Test.YtpkincoclhpcgaaGreatDoorKe
namespace Go.Proofs.YtpkincoclhpcgaaGreatDoor
set_option linter.unusedSimpArgs false
set_option linter.unusedVariables false
open Go.RowKit
/-- without handlers -/
def NoH (t : Stp) : Prop := t.j = 0 ∧ t.e0 < 0 ∧ t.e1 < 0 ∧ t.e2 < 0
def colT (t : Stp) (M : MemS) : Con × Bool := collideS (t.S.body t.i.toNat).sh ⟨(motM t.S M t.i).px, (motM t.S M t.i).py⟩ (t.S.body t.j.toNat).sh ⟨(motM t.S M t.j).px, (motM t.S M t.j).py⟩
def resT (t : Stp) (M : MemS) : Mot × Mot := resolveS (motM t.S M t.i) (motM t.S M t.j) (colT t M).1 t.S.rest
def touchSet (t : Stp) (M : MemS) : MemS := ((setMotM t t.j (resT t M).2 (setMotM t t.i (resT t M).1 M)).set (bodyAt t.S t.i + 6) (w64 (t.j + 1))).set (bodyAt t.S t.j + 6) (w64 (t.i + 1))
def touchF (t : Stp) (M : MemS) : MemS := if 0 ≤ t.i ∧ t.i < t.S.nb then if 0 ≤ t.j ∧ t.j < t.S.nb then if (colT t M).2 = true then touchSet t M else M else M else M
def earT (t : Stp) (M : MemS) : Int := earlS (t.S.body t.i.toNat).sh ⟨(motM t.S M t.i).px, (motM t.S M t.i).py⟩ ⟨(motM t.S M t.i).vx, (motM t.S M t.i).vy⟩ (t.S.body t.j.toNat).sh ⟨(motM t.S M t.j).px, (motM t.S M t.j).py⟩ ⟨0, 0⟩
def testF (t : Stp) (M : MemS) : MemS := if t.i = t.j then M else if movP t.S t.i then (if earT t M < M.get 5 then M.set 5 (earT t M) else M) else M
def moveA (t : Stp) (M : MemS) : MemS := if w64 (t.i + 1) < t.S.nb then ((M.set 2 (w64 (t.i + 1))).set 3 0).set 5 1024 else (beginM t 6 0 M).set 5 0
def moveF (t : Stp) (M : MemS) : MemS := if 0 ≤ t.j ∧ t.j < t.S.nb then (testF t M).set 3 (w64 (t.j + 1)) else moveA t (if movP t.S t.i then travelM t M else M)
def nextI (i j n r : Int) : Int × Int × Int := if w64 (j + 1) < n then (r, i, w64 (j + 1)) else if w64 (i + 2) < n then (r, w64 (i + 1), w64 (i + 2)) else (w64 (r + 1), 0, 1)
def contactF (t : Stp) (M : MemS) : MemS := if (t.S.nb : Int) < 2 then (beginM t 5 0 M).set 5 1024 else if M.get 4 ≥ t.S.rounds then (beginM t 5 0 M).set 5 1024 else (((touchF t M).set 4 (nextI t.i t.j t.S.nb (M.get 4)).1).set 2 (nextI t.i t.j t.S.nb (M.get 4)).2.1).set 3 (nextI t.i t.j t.S.nb (M.get 4)).2.2

set_option maxHeartbeats 4000000 in
set_option maxRecDepth 100000 in
theorem touch_full (t : Stp)  (tb mb : Nat) (M : MemS) (k : Nat) (T F : HL) (hM : MemH mb M (k + 10) T) (hS : SetIn F t.S)  : Sp Tryz.prog 50 #[vP tb 0] (ap [(tb, .lit (Stp.l t mb) 83 (0, 0))] [T]) F (fun u H' => ∃ x, H' = ap [(tb, .lit (Stp.l t mb) 83 (0, 0))] [x] ∧ (MemH mb (touchF t M) k x)) := by
  have hp := hS.pl
  have hn := hS.nb
  have hr := hS.room
  refine Sp.of_body Tryz.func50 rfl rfl rfl [(0, vP tb 0)] rfl ?_
  intro w0
  let z1 : Nat × Blk := (tb, .lit (Stp.l t mb) 83 (0, 0))
  refine TR.convH (ap [z1] [T]) rfl ?_
  refine TR.seq ?_
  refine TR.seq ?_
  refine TR.reg ?_
  refine TL.seg0 5 [] [.own 0] [0, 6, 10] [(0, vP tb 0), (6, vP tb 0), (10, vI t.i)] (ap [z1] [T]) [tb] [] (fun _ => by kernel_rfl) mn an ?_
  refine TL.callp (dst := (some 11)) (f := 52) (args := #[vP tb 0, vI t.i]) (H1 := (ap [z1] [T])) (E := []) (Ob := []) [] [] [0, 11] (.bool (decide (0 ≤ t.i ∧ t.i < t.S.nb))) [(0, vP tb 0), (11, .bool (decide (0 ≤ t.i ∧ t.i < t.S.nb)))] (fun _ => by kernel_rfl) mn an (has_any t t.i tb mb _ (in_ap 0 rfl)) (by kernel_rfl) ?_
  rcases Decidable.em (0 ≤ t.i ∧ t.i < t.S.nb) with h1 | h1
  · let z2 : Nat × Value := (13, .bool (!(decide (0 ≤ t.i ∧ t.i < t.S.nb))))
    refine TL.seg0 7 [] [.gd false, .gd false, .gd false, .gd false, .gd false, .own 0] [0, 13, 14, 18] [(0, vP tb 0), z2, (14, vP tb 0), (18, vI t.j)] (ap [z1] [T]) [tb] [(!(decide (0 ≤ t.i ∧ t.i < t.S.nb))) = false, (!(decide (0 ≤ t.i ∧ t.i < t.S.nb))) = false, (!(decide (0 ≤ t.i ∧ t.i < t.S.nb))) = false, (!(decide (0 ≤ t.i ∧ t.i < t.S.nb))) = false, (!(decide (0 ≤ t.i ∧ t.i < t.S.nb))) = false] (fun _ => by kernel_rfl) mn (ac (by rw [decide_eq_true h1]; rfl) (ac (by rw [decide_eq_true h1]; rfl) (ac (by rw [decide_eq_true h1]; rfl) (ac (by rw [decide_eq_true h1]; rfl) (ac (by rw [decide_eq_true h1]; rfl) an))))) ?_
    refine TL.callp (dst := (some 19)) (f := 52) (args := #[vP tb 0, vI t.j]) (H1 := (ap [z1] [T])) (E := []) (Ob := [(!(decide (0 ≤ t.i ∧ t.i < t.S.nb))) = false]) [] [.gd false] [0, 13, 19] (.bool (decide (0 ≤ t.j ∧ t.j < t.S.nb))) [(0, vP tb 0), z2, (19, .bool (decide (0 ≤ t.j ∧ t.j < t.S.nb)))] (fun _ => by kernel_rfl) mn (ac (by rw [decide_eq_true h1]; rfl) an) (has_any t t.j tb mb _ (in_ap 0 rfl)) (by kernel_rfl) ?_
    refine TL.seg0 2 [] [.gd false, .gd false] [0, 21] [(0, vP tb 0), (21, .bool (!(decide (0 ≤ t.j ∧ t.j < t.S.nb))))] (ap [z1] [T]) [] [(!(decide (0 ≤ t.i ∧ t.i < t.S.nb))) = false, (!(decide (0 ≤ t.i ∧ t.i < t.S.nb))) = false] (fun _ => by kernel_rfl) mn (ac (by rw [decide_eq_true h1]; rfl) (ac (by rw [decide_eq_true h1]; rfl) an)) ?_
    refine TL.fin (by kernel_rfl) ?_
    refine EX.next ?_
    rcases Decidable.em (0 ≤ t.j ∧ t.j < t.S.nb) with h2 | h2
    · refine TR.no (b := !(decide (0 ≤ t.j ∧ t.j < t.S.nb))) (by kernel_rfl) (by kernel_rfl) (by rw [decide_eq_true h2]; rfl) ?_
      refine TR.skip ?_
      refine EX.next ?_
      refine TR.seq ?_
      refine TR.draw [14, 15] [] rfl (by kernel_rfl) ?_
      refine TD.vals [] (by kernel_rfl) [0, 1, 6, 7, 2, 8, 3, 9, 4, 10] [] [.own 0, .own 0] [0, 22, 26, 28, 32] [true, true, true, true, true, false, true, true, true, true, true, false, false, false, false, false] [(0, vP tb 0), (22, vP tb 0), (26, vI t.i), (28, vP tb 0), (32, vI t.j)] [tb, tb] [] (by kernel_rfl) (by kernel_rfl) mn an 6 rfl ?_
      let z3 := motM t.S M t.i
      let z4 : Nat × Value := (27, .agg #[vI (z3.px), vI (z3.py), vI (z3.vx), vI (z3.vy), vI (z3.inv)])
      refine TD.callv [] (by kernel_rfl) 5 [] [] (dst := (some 27)) (f := 49) (args := #[vP tb 0, vI t.i]) (E := []) (Ob := []) [0, 27, 28, 32] (.agg #[vI (z3.px), vI (z3.py), vI (z3.vx), vI (z3.vy), vI (z3.inv)]) [(0, vP tb 0), z4, (28, vP tb 0), (32, vI t.j)] (by kernel_rfl) (by kernel_rfl) (by kernel_rfl) mn an (fun X_ => (motion_any t t.i tb mb M _ T _ (in_apX 0 rfl) hS.up.up hM (sub_apX 0 rfl) h1)) (by kernel_rfl) 5 rfl ?_
      let z5 := motM t.S M t.j
      let z6 : Nat × Value := (33, .agg #[vI (z5.px), vI (z5.py), vI (z5.vx), vI (z5.vy), vI (z5.inv)])
      refine TD.callv [] (by kernel_rfl) 11 [] [] (dst := (some 33)) (f := 49) (args := #[vP tb 0, vI t.j]) (E := []) (Ob := []) [0, 27, 33] (.agg #[vI (z5.px), vI (z5.py), vI (z5.vx), vI (z5.vy), vI (z5.inv)]) [(0, vP tb 0), z4, z6] (by kernel_rfl) (by kernel_rfl) (by kernel_rfl) mn an (fun X_ => (motion_any t t.j tb mb M _ T _ (in_apX 0 rfl) hS.up.up hM (sub_apX 0 rfl) h2)) (by kernel_rfl) 4 rfl ?_
      let z7 : List Value := [vI (z5.px), vI (z5.py), vI (z5.vx), vI (z5.vy), vI (z5.inv)]
      let z8 : List Value := [vI (z3.px), vI (z3.py), vI (z3.vx), vI (z3.vy), vI (z3.inv)]
      refine TD.haveK (σ := Nat × Nat) 0 [true, true, true, true, true, true, true, true, true, true, true, true, true, true, true, true] (fun (x : Nat × Nat) => match x with | ⟨n3, n4⟩ => [(0, vP tb 0), (2, vP (n3 + 0) 0), (3, vP (n4 + 0) 0)]) (fun (x : Nat × Nat) => match x with | ⟨n3, n4⟩ => (ap [((n4 + 0), .lit z7 38 (0, 0)), ((n3 + 0), .lit z8 38 (0, 0)), z1] [T])) ?_ ?_
      · rintro ⟨n3, n4⟩
        refine TD.fin (by kernel_rfl) (EX.np ?_)
        refine EX.next ?_
        refine TR.seq ?_
        let z9 : Nat × Blk := ((n4 + 0), .lit z7 38 (0, 0))
        let z10 : Nat × Blk := ((n3 + 0), .lit z8 38 (0, 0))
        refine TR.draw [33] [z9, z10, z1] rfl (by kernel_rfl) ?_
        let z11 := t.S.bo + ((t.i).toNat)
        let z12 := t.S.bo + ((t.j).toNat)
        let z13 : Nat × Value := (2, vP (n3 + 0) 0)
        let z14 : Nat × Value := (3, vP (n4 + 0) 0)
        refine TD.vals [0, 1, 2] (by kernel_rfl) [0, 5, 12, 14, 19, 26, 1, 6, 13, 15, 20, 27, 2, 7, 16, 21, 3, 8, 17, 22, 4, 18, 9, 23, 10, 24, 11, 25] [(t.S.bb, .rows 9 t.S.bR (brow t.S.bods) 40 (0, 0))] [.own 1, .own 1, .own 0, .own 0, .own 2, .own 2, .own 2, .own 2, .ix ((t.i).toNat), .ix ((t.j).toNat), .rorow 0 z11 0, .rorow 0 z11 1, .rorow 0 z12 0, .rorow 0 z12 1] [0, 2, 3, 46, 48, 60, 62] [true, true, true, true, true, true, true, true, true, true, true, true, true, true, true, true, true, true, true, true, true, true, true, true, true, true, true, true, false, false, false, false, false, false, false] [(0, vP tb 0), z13, z14, (46, .agg #[vI ((t.S.bods.getD z11 dB).sh.r), .slice ((t.S.bods.getD z11 dB).sh.A) ((t.S.bods.getD z11 dB).sh.poly.length) ((t.S.bods.getD z11 dB).sh.cap)]), (48, .agg #[vI (z3.px), vI (z3.py)]), (60, .agg #[vI ((t.S.bods.getD z12 dB).sh.r), .slice ((t.S.bods.getD z12 dB).sh.A) ((t.S.bods.getD z12 dB).sh.poly.length) ((t.S.bods.getD z12 dB).sh.cap)]), (62, .agg #[vI (z5.px), vI (z5.py)])] [t.S.bb, t.S.bb, t.S.bb, t.S.bb, tb, tb, tb, tb, (n4 + 0), (n4 + 0), (n3 + 0), (n3 + 0)] [((t.S.bo * 9 + ((t.j).toNat) * 9) + 1) = (t.S.bo + ((t.j).toNat)) * 9 + 1 ∧ (t.S.bo + ((t.j).toNat)) < t.S.bR, (t.S.bo * 9 + ((t.j).toNat) * 9) = (t.S.bo + ((t.j).toNat)) * 9 + 0 ∧ (t.S.bo + ((t.j).toNat)) < t.S.bR, ((t.S.bo * 9 + ((t.i).toNat) * 9) + 1) = (t.S.bo + ((t.i).toNat)) * 9 + 1 ∧ (t.S.bo + ((t.i).toNat)) < t.S.bR, (t.S.bo * 9 + ((t.i).toNat) * 9) = (t.S.bo + ((t.i).toNat)) * 9 + 0 ∧ (t.S.bo + ((t.i).toNat)) < t.S.bR, t.j = (((t.j).toNat : Nat) : Int) ∧ (t.j).toNat < t.S.nb, t.i = (((t.i).toNat : Nat) : Int) ∧ (t.i).toNat < t.S.nb] (by kernel_rfl) (by kernel_rfl) (mc hS.blk mn) (ac ⟨by omega, by omega⟩ (ac ⟨by omega, by omega⟩ (ac ⟨by omega, by omega⟩ (ac ⟨by omega, by omega⟩ (ac ⟨by omega, by omega⟩ (ac ⟨by omega, by omega⟩ an)))))) 7 rfl ?_
        let z15 := (⟨z3.px, z3.py⟩ : V2)
        let z16 := (⟨z5.px, z5.py⟩ : V2)
        let z17 := collideS (t.S.bods.getD z11 dB).sh z15 (t.S.bods.getD z12 dB).sh z16
        refine TD.callv [0, 1, 2] (by kernel_rfl) 28 [] [] (dst := (some 63)) (f := 58) (args := #[.agg #[vI ((t.S.bods.getD z11 dB).sh.r), .slice ((t.S.bods.getD z11 dB).sh.A) ((t.S.bods.getD z11 dB).sh.poly.length) ((t.S.bods.getD z11 dB).sh.cap)], .agg #[vI (z3.px), vI (z3.py)], .agg #[vI ((t.S.bods.getD z12 dB).sh.r), .slice ((t.S.bods.getD z12 dB).sh.A) ((t.S.bods.getD z12 dB).sh.poly.length) ((t.S.bods.getD z12 dB).sh.cap)], .agg #[vI (z5.px), vI (z5.py)]]) (E := []) (Ob := []) [0, 2, 3, 63] (.tuple #[.agg #[vI (z17.1.nx), vI (z17.1.ny), vI (z17.1.d)], .bool (z17.2)]) [(0, vP tb 0), z13, z14, (63, .tuple #[.agg #[vI (z17.1.nx), vI (z17.1.ny), vI (z17.1.d)], .bool (z17.2)])] (by kernel_rfl) (by kernel_rfl) (by kernel_rfl) mn an (fun X_ => (collide_any (t.S.bods.getD z11 dB).sh z15 (t.S.bods.getD z12 dB).sh z16 _ ((hS.shp ((t.i).toNat) (by omega)).up.up) ((hS.shp ((t.j).toNat) (by omega)).up.up))) (by kernel_rfl) 6 rfl ?_
        let z18 : Nat × Value := (64, .agg #[vI (z17.1.nx), vI (z17.1.ny), vI (z17.1.d)])
        let z19 : Nat × Value := (65, .bool (z17.2))
        refine TD.vals [0, 1, 2] (by kernel_rfl) [29, 30, 31] [] [] [0, 2, 3, 64, 65] [true, true, true, true, true, true, true, true, true, true, true, true, true, true, true, true, true, true, true, true, true, true, true, true, true, true, true, true, true, true, true, true, false, false, false] [(0, vP tb 0), z13, z14, z18, z19] [] [] (by kernel_rfl) (by kernel_rfl) mn an 3 rfl ?_
        refine TD.one 32 (by kernel_rfl) 2 rfl fun a_ hF_ hcl_ => ?_
        refine OPJ.ev [] [] [0, 2, 3, 4, 64, 65] (fun n6 => [(0, vP tb 0), z13, z14, (4, vP (n6 + 0) 0), z18, z19]) (fun n6 => (ap [((n6 + 0), .lit [vI 0, vI 0, vI 0] 99 (0, 0)), z9, z10, z1] [T])) (fun n6 => []) (fun n6 => []) (fun _ => by kernel_rfl) mn (fun n6 => an) (.inr ⟨by decide, fun n6 => ⟨[((n6 + 0), .lit [vI 0, vI 0, vI 0] 99 (0, 0))], rfl⟩⟩) (.inr fun n6 => ⟨[((n6 + 0), .lit [vI 0, vI 0, vI 0] 99 (0, 0))], rfl⟩) (fun n6 => ?_) hF_ hcl_
        refine TD.one 33 (by kernel_rfl) 1 rfl fun a_ hF_ hcl_ => ?_
        let z20 : Nat × Value := (4, vP (n6 + 0) 0)
        let z21 : Nat × Blk := ((n6 + 0), .lit [vI (z17.1.nx), vI (z17.1.ny), vI (z17.1.d)] 99 (0, 0))
        refine OPJ.ev [] [.own 0, .own 0, .own 0] [0, 2, 3, 4, 65] (fun _ => [(0, vP tb 0), z13, z14, z20, z19]) (fun _ => (ap [z21, z9, z10, z1] [T])) (fun _ => [(n6 + 0), (n6 + 0), (n6 + 0)]) (fun _ => []) (fun _ => by kernel_rfl) mn (fun _ => an) (.inl ⟨[1, 2, 3], fun _ => by kernel_rfl⟩) (.inl (by decide)) (fun _ => ?_) hF_ hcl_
        refine TD.vals [1, 2, 3] (by kernel_rfl) [34] [] [] [0, 2, 3, 4, 5] [true, true, true, true, true, true, true, true, true, true, true, true, true, true, true, true, true, true, true, true, true, true, true, true, true, true, true, true, true, true, true, true, true, true, true] [(0, vP tb 0), z13, z14, z20, (5, .bool (z17.2))] [] [] (by kernel_rfl) (by kernel_rfl) mn an 0 rfl ?_
        refine TD.fin (by kernel_rfl) (EX.np ?_)
        refine EX.next ?_
        refine TR.seq ?_
        refine TR.seq ?_
        refine TR.reg ?_
        refine TL.seg0 2 [] [] [0, 2, 3, 4, 67] [(0, vP tb 0), z13, z14, z20, (67, .bool (!(z17.2)))] (ap [z21, z9, z10, z1] [T]) [] [] (fun _ => by kernel_rfl) mn an ?_
        refine TL.fin (by kernel_rfl) ?_
        refine EX.next ?_
        rcases Decidable.em (((collideS (t.S.bods.getD (t.S.bo + ((t.i).toNat)) dB).sh (⟨(motM t.S M t.i).px, (motM t.S M t.i).py⟩ : V2) (t.S.bods.getD (t.S.bo + ((t.j).toNat)) dB).sh (⟨(motM t.S M t.j).px, (motM t.S M t.j).py⟩ : V2)).2) = true) with h7 | h7
        · refine TR.no (b := !(z17.2)) (by kernel_rfl) (by kernel_rfl) (by rw [h7]; rfl) ?_
          refine TR.skip ?_
          refine EX.next ?_
          refine TR.seq ?_
          refine TR.draw [12, 13] [z21, z1] rfl (by kernel_rfl) ?_
          refine TD.vals [0, 3] (by kernel_rfl) [0, 1, 2, 3, 4, 5, 6, 7] [] [.own 2, .own 2, .own 2, .own 2, .own 2, .own 1, .own 1, .own 1, .own 1, .own 1, .own 0, .own 0, .own 0, .own 3] [0, 2, 3, 69, 70, 71, 76] [true, true, true, true, true, true, true, true, false, false, false, false, false, false] [(0, vP tb 0), z13, z14, (69, .agg #[vI (z3.px), vI (z3.py), vI (z3.vx), vI (z3.vy), vI (z3.inv)]), (70, .agg #[vI (z5.px), vI (z5.py), vI (z5.vx), vI (z5.vy), vI (z5.inv)]), (71, .agg #[vI (z17.1.nx), vI (z17.1.ny), vI (z17.1.d)]), (76, vI t.S.rest)] [tb, (n6 + 0), (n6 + 0), (n6 + 0), (n4 + 0), (n4 + 0), (n4 + 0), (n4 + 0), (n4 + 0), (n3 + 0), (n3 + 0), (n3 + 0), (n3 + 0), (n3 + 0)] [] (by kernel_rfl) (by kernel_rfl) mn an 6 rfl ?_
          let z22 := resolveS z3 z5 z17.1 t.S.rest
          refine TD.callv [0, 3] (by kernel_rfl) 8 [] [] (dst := (some 77)) (f := 59) (args := #[.agg #[vI (z3.px), vI (z3.py), vI (z3.vx), vI (z3.vy), vI (z3.inv)], .agg #[vI (z5.px), vI (z5.py), vI (z5.vx), vI (z5.vy), vI (z5.inv)], .agg #[vI (z17.1.nx), vI (z17.1.ny), vI (z17.1.d)], vI t.S.rest]) (E := []) (Ob := []) [0, 2, 3, 77] (.tuple #[.agg #[vI ((z22.1).px), vI ((z22.1).py), vI ((z22.1).vx), vI ((z22.1).vy), vI ((z22.1).inv)], .agg #[vI ((z22.2).px), vI ((z22.2).py), vI ((z22.2).vx), vI ((z22.2).vy), vI ((z22.2).inv)]]) [(0, vP tb 0), z13, z14, (77, .tuple #[.agg #[vI ((z22.1).px), vI ((z22.1).py), vI ((z22.1).vx), vI ((z22.1).vy), vI ((z22.1).inv)], .agg #[vI ((z22.2).px), vI ((z22.2).py), vI ((z22.2).vx), vI ((z22.2).vy), vI ((z22.2).inv)]])] (by kernel_rfl) (by kernel_rfl) (by kernel_rfl) mn an (fun X_ => (resolve_any z3 z5 z17.1 t.S.rest _)) (by kernel_rfl) 5 rfl ?_
          let z23 : Nat × Value := (79, .agg #[vI ((z22.2).px), vI ((z22.2).py), vI ((z22.2).vx), vI ((z22.2).vy), vI ((z22.2).inv)])
          refine TD.vals [0, 3] (by kernel_rfl) [9, 10, 11] [] [] [0, 2, 3, 78, 79] [true, true, true, true, true, true, true, true, true, true, true, true, false, false] [(0, vP tb 0), z13, z14, (78, .agg #[vI ((z22.1).px), vI ((z22.1).py), vI ((z22.1).vx), vI ((z22.1).vy), vI ((z22.1).inv)]), z23] [] [] (by kernel_rfl) (by kernel_rfl) mn an 2 rfl ?_
          refine TD.one 12 (by kernel_rfl) 1 rfl fun a_ hF_ hcl_ => ?_
          let z24 : Nat × Blk := ((n3 + 0), .lit [vI ((z22.1).px), vI ((z22.1).py), vI ((z22.1).vx), vI ((z22.1).vy), vI ((z22.1).inv)] 38 (0, 0))
          refine OPJ.ev [] [.own 2, .own 2, .own 2, .own 2, .own 2] [0, 2, 3, 79] (fun _ => [(0, vP tb 0), z13, z14, z23]) (fun _ => (ap [z21, z9, z24, z1] [T])) (fun _ => [(n3 + 0), (n3 + 0), (n3 + 0), (n3 + 0), (n3 + 0)]) (fun _ => []) (fun _ => by kernel_rfl) mn (fun _ => an) (.inl ⟨[0, 3], fun _ => by kernel_rfl⟩) (.inl (by decide)) (fun _ => ?_) hF_ hcl_
          refine TD.one 13 (by kernel_rfl) 0 rfl fun a_ hF_ hcl_ => ?_
          let z25 : Nat × Blk := ((n4 + 0), .lit [vI ((z22.2).px), vI ((z22.2).py), vI ((z22.2).vx), vI ((z22.2).vy), vI ((z22.2).inv)] 38 (0, 0))
          refine OPJ.ev [] [.own 1, .own 1, .own 1, .own 1, .own 1] [0, 2, 3] (fun _ => [(0, vP tb 0), z13, z14]) (fun _ => (ap [z21, z25, z24, z1] [T])) (fun _ => [(n4 + 0), (n4 + 0), (n4 + 0), (n4 + 0), (n4 + 0)]) (fun _ => []) (fun _ => by kernel_rfl) mn (fun _ => an) (.inl ⟨[0, 3], fun _ => by kernel_rfl⟩) (.inl (by decide)) (fun _ => ?_) hF_ hcl_
          refine TD.fin (by kernel_rfl) (EX.np ?_)
          refine EX.next ?_
          refine TR.seq ?_
          refine TR.draw [6] [] rfl (by kernel_rfl) ?_
          refine TD.vals [] (by kernel_rfl) [0, 1, 5, 2, 3, 4] [] [.own 2, .own 2, .own 2, .own 2, .own 2, .own 3] [0, 3, 80, 84, 85] [true, true, true, true, true, true, false] [(0, vP tb 0), z14, (80, vP tb 0), (84, vI t.i), (85, .agg #[vI ((z22.1).px), vI ((z22.1).py), vI ((z22.1).vx), vI ((z22.1).vy), vI ((z22.1).inv)])] [tb, (n3 + 0), (n3 + 0), (n3 + 0), (n3 + 0), (n3 + 0)] [] (by kernel_rfl) (by kernel_rfl) mn an 1 rfl ?_
          refine TD.one 6 (by kernel_rfl) 0 rfl fun a_ hF_ hcl_ => ?_
          let z26 := setMotM t t.i (z22.1) M
          refine OPJ.callT (τ := HL) [] [] (dst := (some 86)) (f := 60) (args := #[vP tb 0, vI t.i, .agg #[vI ((z22.1).px), vI ((z22.1).py), vI ((z22.1).vx), vI ((z22.1).vy), vI ((z22.1).inv)]]) (A := [z21, z25, z24, z1]) (Ts := [T]) (E := []) (Ob := []) [3] [0, 1, 2] [0] [] [0, 3] [z1] [z21, z25, z24] [T] [] (fun _ => [z1]) (fun x => [x]) (fun v x => MemH mb z26 (k + 6) x) (fun v_ => [(0, vP tb 0), z14]) (fun _ => by kernel_rfl) mn an (by kernel_rfl) (by kernel_rfl) (by kernel_rfl) (by kernel_rfl) (by kernel_rfl) (by kernel_rfl) (fun _ => by kernel_rfl) [] (.inl (by kernel_rfl)) (.inl (by decide)) (setMotion_any t t.i (z22.1) tb mb M (k + 6) T _ hM hS.up ) ?_ hF_ hcl_
          rintro _ T8 hM9
          refine TD.fin (by kernel_rfl) (EX.np ?_)
          refine EX.next ?_
          refine TR.seq ?_
          refine TR.draw [6] [] rfl (by kernel_rfl) ?_
          refine TD.vals [] (by kernel_rfl) [0, 1, 5, 2, 3, 4] [] [.own 2, .own 2, .own 2, .own 2, .own 2, .own 0] [0, 87, 91, 92] [true, true, true, true, true, true, false] [(0, vP tb 0), (87, vP tb 0), (91, vI t.j), (92, .agg #[vI ((z22.2).px), vI ((z22.2).py), vI ((z22.2).vx), vI ((z22.2).vy), vI ((z22.2).inv)])] [tb, (n4 + 0), (n4 + 0), (n4 + 0), (n4 + 0), (n4 + 0)] [] (by kernel_rfl) (by kernel_rfl) mn an 1 rfl ?_
          refine TD.one 6 (by kernel_rfl) 0 rfl fun a_ hF_ hcl_ => ?_
          let z27 := setMotM t t.j (z22.2) z26
          refine OPJ.callT (τ := HL) [] [] (dst := (some 93)) (f := 60) (args := #[vP tb 0, vI t.j, .agg #[vI ((z22.2).px), vI ((z22.2).py), vI ((z22.2).vx), vI ((z22.2).vy), vI ((z22.2).inv)]]) (A := [z1, z21, z25, z24]) (Ts := [T8]) (E := []) (Ob := []) [0] [1, 2, 3] [0] [] [0] [z1] [z21, z25, z24] [T8] [] (fun _ => [z1]) (fun x => [x]) (fun v x => MemH mb z27 (k + 2) x) (fun v_ => [(0, vP tb 0)]) (fun _ => by kernel_rfl) mn an (by kernel_rfl) (by kernel_rfl) (by kernel_rfl) (by kernel_rfl) (by kernel_rfl) (by kernel_rfl) (fun _ => by kernel_rfl) [] (.inl (by kernel_rfl)) (.inl (by decide)) (setMotion_any t t.j (z22.2) tb mb z26 (k + 2) T8 _ hM9 hS.up ) ?_ hF_ hcl_
          rintro _ T10 hM11
          refine TD.fin (by kernel_rfl) (EX.np ?_)
          refine EX.next ?_
          refine TR.seq ?_
          refine TR.draw [21] [] rfl (by kernel_rfl) ?_
          let z28 := IntKind.i64.wrap (t.j + 1)
          let z29 : Nat × Value := (112, vI z28)
          let z30 : Nat × Value := (114, .iface 41 (vP mb 0))
          refine TD.vals [] (by kernel_rfl) [0, 4, 8, 14, 1, 5, 9, 15, 2, 6, 10, 16, 3, 7, 11, 17, 18, 19, 20] [] [.own 0, .own 0, .own 0, .own 0, .own 0, .own 0, .own 0, .own 0, .own 0, .own 0, .own 0, .own 0, .own 0, .own 0, .own 0, .own 0, .own 0, .own 0, .own 0] [0, 101, 105, 112, 114] [true, true, true, true, true, true, true, true, true, true, true, true, false, false, true, true, true, true, true, true, true, false] [(0, vP tb 0), (101, (Setup.v t.S)), (105, vI t.i), z29, z30] [tb, tb, tb, tb, tb, tb, tb, tb, tb, tb, tb, tb, tb, tb, tb, tb, tb, tb, tb] [] (by kernel_rfl) (by kernel_rfl) mn an 3 rfl ?_
          let z31 := bodyAt t.S t.i
          refine TD.callv [] (by kernel_rfl) 12 [] [] (dst := (some 106)) (f := 37) (args := #[(Setup.v t.S), vI t.i]) (E := []) (Ob := []) [0, 106, 112, 114] (vI z31) [(0, vP tb 0), (106, vI z31), z29, z30] (by kernel_rfl) (by kernel_rfl) (by kernel_rfl) mn an (fun X_ => (lbody_any t.S t.i _ hS.toSetN)) (by kernel_rfl) 2 rfl ?_
          have hb12 := bodyAt_bd hS.toSetN t.i
          let z32 := z31 + 6
          refine TD.vals [] (by kernel_rfl) [13] [] [.nw] [0, 107, 112, 114] [true, true, true, true, true, true, true, true, true, true, true, true, true, true, true, true, true, true, true, true, true, false] [(0, vP tb 0), (107, vI z32), z29, z30] [] [-9223372036854775808 ≤ (bodyAt t.S t.i) + 6 ∧ (bodyAt t.S t.i) + 6 ≤ 9223372036854775807] (by kernel_rfl) (by kernel_rfl) mn (ac ⟨by omega, by omega⟩ an) 1 rfl ?_
          refine TD.one 21 (by kernel_rfl) 0 rfl fun a_ hF_ hcl_ => ?_
          refine OPJ.callT (τ := HL) [] [] (dst := (some 115)) (f := 150) (args := #[vP mb 0, vI z32, vI z28]) (A := [z1, z21, z25, z24]) (Ts := [T10]) (E := []) (Ob := []) [] [0, 1, 2, 3] [0] [] [0] [] [z1, z21, z25, z24] [T10] [] (fun _ => []) (fun x => [x]) (fun _ x => MemH mb (z27.set z32 z28) (k + 1) x) (fun v_ => [(0, vP tb 0)]) (fun _ => by kernel_rfl) mn an (by kernel_rfl) (by kernel_rfl) (by kernel_rfl) (by kernel_rfl) (by kernel_rfl) (by kernel_rfl) (fun _ => by kernel_rfl) [] (.inl (by kernel_rfl)) (.inl (by decide)) (set_any z32 z28 hM11) ?_ hF_ hcl_
          rintro _ T13 hM14
          refine TD.fin (by kernel_rfl) (EX.np ?_)
          refine EX.next ?_
          refine TR.draw [21] [] rfl (by kernel_rfl) ?_
          let z33 := IntKind.i64.wrap (t.i + 1)
          let z34 : Nat × Value := (134, vI z33)
          let z35 : Nat × Value := (136, .iface 41 (vP mb 0))
          refine TD.vals [] (by kernel_rfl) [0, 4, 8, 14, 1, 5, 9, 15, 2, 6, 10, 16, 3, 7, 11, 17, 18, 19, 20] [] [.own 0, .own 0, .own 0, .own 0, .own 0, .own 0, .own 0, .own 0, .own 0, .own 0, .own 0, .own 0, .own 0, .own 0, .own 0, .own 0, .own 0, .own 0, .own 0] [123, 127, 134, 136] [true, true, true, true, true, true, true, true, true, true, true, true, false, false, true, true, true, true, true, true, true, false] [(123, (Setup.v t.S)), (127, vI t.j), z34, z35] [tb, tb, tb, tb, tb, tb, tb, tb, tb, tb, tb, tb, tb, tb, tb, tb, tb, tb, tb] [] (by kernel_rfl) (by kernel_rfl) mn an 3 rfl ?_
          let z36 := bodyAt t.S t.j
          refine TD.callv [] (by kernel_rfl) 12 [] [] (dst := (some 128)) (f := 37) (args := #[(Setup.v t.S), vI t.j]) (E := []) (Ob := []) [128, 134, 136] (vI z36) [(128, vI z36), z34, z35] (by kernel_rfl) (by kernel_rfl) (by kernel_rfl) mn an (fun X_ => (lbody_any t.S t.j _ hS.toSetN)) (by kernel_rfl) 2 rfl ?_
          have hb15 := bodyAt_bd hS.toSetN t.j
          let z37 := z36 + 6
          refine TD.vals [] (by kernel_rfl) [13] [] [.nw] [129, 134, 136] [true, true, true, true, true, true, true, true, true, true, true, true, true, true, true, true, true, true, true, true, true, false] [(129, vI z37), z34, z35] [] [-9223372036854775808 ≤ (bodyAt t.S t.j) + 6 ∧ (bodyAt t.S t.j) + 6 ≤ 9223372036854775807] (by kernel_rfl) (by kernel_rfl) mn (ac ⟨by omega, by omega⟩ an) 1 rfl ?_
          refine TD.one 21 (by kernel_rfl) 0 rfl fun a_ hF_ hcl_ => ?_
          refine OPJ.callT (τ := HL) [] [] (dst := (some 137)) (f := 150) (args := #[vP mb 0, vI z37, vI z33]) (A := [z1, z21, z25, z24]) (Ts := [T13]) (E := []) (Ob := []) [] [0, 1, 2, 3] [0] [] [] [] [z1, z21, z25, z24] [T13] [] (fun _ => []) (fun x => [x]) (fun _ x => MemH mb ((z27.set z32 z28).set z37 z33) k x) (fun v_ => []) (fun _ => by kernel_rfl) mn an (by kernel_rfl) (by kernel_rfl) (by kernel_rfl) (by kernel_rfl) (by kernel_rfl) (by kernel_rfl) (fun _ => by kernel_rfl) [] (.inl (by kernel_rfl)) (.inl (by decide)) (set_any z37 z33 hM14) ?_ hF_ hcl_
          rintro _ T16 hM17
          refine TD.fin (by kernel_rfl) (EX.np ?_)
          refine EX.fin (A := [z1, z21, z25, z24]) (Ts := [T16]) rfl rfl [] [] (.tuple #[]) [] [] (fun _ => by kernel_rfl) mn an [0] [1, 2, 3] [0] [] (ap [z1] [T16]) (by kernel_rfl) (by kernel_rfl) (by kernel_rfl) ?_
          refine ⟨T16, rfl, ?_⟩
          have e : touchF t M = (((setMotM t t.j ((resolveS (motM t.S M t.i) (motM t.S M t.j) (collideS (t.S.bods.getD (t.S.bo + ((t.i).toNat)) dB).sh (⟨(motM t.S M t.i).px, (motM t.S M t.i).py⟩ : V2) (t.S.bods.getD (t.S.bo + ((t.j).toNat)) dB).sh (⟨(motM t.S M t.j).px, (motM t.S M t.j).py⟩ : V2)).1 t.S.rest).2) (setMotM t t.i ((resolveS (motM t.S M t.i) (motM t.S M t.j) (collideS (t.S.bods.getD (t.S.bo + ((t.i).toNat)) dB).sh (⟨(motM t.S M t.i).px, (motM t.S M t.i).py⟩ : V2) (t.S.bods.getD (t.S.bo + ((t.j).toNat)) dB).sh (⟨(motM t.S M t.j).px, (motM t.S M t.j).py⟩ : V2)).1 t.S.rest).1) M)).set ((bodyAt t.S t.i) + 6) (IntKind.i64.wrap (t.j + 1))).set ((bodyAt t.S t.j) + 6) (IntKind.i64.wrap (t.i + 1))) := by
            unfold touchF
            rw [if_pos (show 0 ≤ t.i ∧ t.i < t.S.nb from h1), if_pos (show 0 ≤ t.j ∧ t.j < t.S.nb from h2), if_pos (show (colT t M).2 = true from h7)]
            first | done | rfl
          rw [e]
          exact hM17.weak (by omega)
        · refine TR.yes (b := !(z17.2)) (by kernel_rfl) (by kernel_rfl) (by rw [(Bool.eq_false_iff.2 h7)]; rfl) ?_
          refine TR.ret (A := [z21, z9, z10, z1]) (Ts := [T]) (by exact fun _ _ h => h) rfl rfl [] [] (.tuple #[]) [] [] (fun _ => by kernel_rfl) mn an [3] [0, 1, 2] [0] [] (ap [z1] [T]) (by kernel_rfl) (by kernel_rfl) (by kernel_rfl) ?_
          refine ⟨T, rfl, ?_⟩
          have e : touchF t M = M := by
            unfold touchF
            rw [if_pos (show 0 ≤ t.i ∧ t.i < t.S.nb from h1), if_pos (show 0 ≤ t.j ∧ t.j < t.S.nb from h2), if_neg (show ¬ ((colT t M).2 = true) from h7)]
            first | done | rfl
          rw [e]
          exact hM.weak (by omega)
      · intro key18
        refine TD.two 12 13 (by kernel_rfl) 3 rfl (fun a_ hF_ hcl_ => ?_) (fun a_ hF_ hcl_ => ?_)
        · refine OPJ.ev [] [] [0, 2, 27, 33] (fun n19 => [(0, vP tb 0), (2, vP (n19 + 0) 0), z4, z6]) (fun n19 => (ap [((n19 + 0), .lit [vI 0, vI 0, vI 0, vI 0, vI 0] 38 (0, 0)), z1] [T])) (fun n19 => []) (fun n19 => []) (fun _ => by kernel_rfl) mn (fun n19 => an) (.inr ⟨by decide, fun n19 => ⟨[((n19 + 0), .lit [vI 0, vI 0, vI 0, vI 0, vI 0] 38 (0, 0))], rfl⟩⟩) (.inr fun n19 => ⟨[((n19 + 0), .lit [vI 0, vI 0, vI 0, vI 0, vI 0] 38 (0, 0))], rfl⟩) (fun n19 => ?_) hF_ hcl_
          refine TD.one 13 (by kernel_rfl) 2 rfl fun a_ hF_ hcl_ => ?_
          let z38 : Nat × Value := (2, vP (n19 + 0) 0)
          refine OPJ.ev [] [] [0, 2, 3, 27, 33] (fun n20 => [(0, vP tb 0), z38, (3, vP (n20 + 0) 0), z4, z6]) (fun n20 => (ap [((n20 + 0), .lit [vI 0, vI 0, vI 0, vI 0, vI 0] 38 (0, 0)), ((n19 + 0), .lit [vI 0, vI 0, vI 0, vI 0, vI 0] 38 (0, 0)), z1] [T])) (fun n20 => []) (fun n20 => []) (fun _ => by kernel_rfl) mn (fun n20 => an) (.inr ⟨by decide, fun n20 => ⟨[((n20 + 0), .lit [vI 0, vI 0, vI 0, vI 0, vI 0] 38 (0, 0))], rfl⟩⟩) (.inr fun n20 => ⟨[((n20 + 0), .lit [vI 0, vI 0, vI 0, vI 0, vI 0] 38 (0, 0))], rfl⟩) (fun n20 => ?_) hF_ hcl_
          refine TD.one 14 (by kernel_rfl) 1 rfl fun a_ hF_ hcl_ => ?_
          let z39 : Nat × Value := (3, vP (n20 + 0) 0)
          let z40 : Nat × Blk := ((n19 + 0), .lit z8 38 (0, 0))
          refine OPJ.ev [] [.own 1, .own 1, .own 1, .own 1, .own 1] [0, 2, 3, 33] (fun _ => [(0, vP tb 0), z38, z39, z6]) (fun _ => (ap [((n20 + 0), .lit [vI 0, vI 0, vI 0, vI 0, vI 0] 38 (0, 0)), z40, z1] [T])) (fun _ => [(n19 + 0), (n19 + 0), (n19 + 0), (n19 + 0), (n19 + 0)]) (fun _ => []) (fun _ => by kernel_rfl) mn (fun _ => an) (.inl ⟨[], fun _ => by kernel_rfl⟩) (.inl (by decide)) (fun _ => ?_) hF_ hcl_
          refine TD.one 15 (by kernel_rfl) 0 rfl fun a_ hF_ hcl_ => ?_
          refine OPJ.ev [] [.own 0, .own 0, .own 0, .own 0, .own 0] [0, 2, 3] (fun _ => [(0, vP tb 0), z38, z39]) (fun _ => (ap [((n20 + 0), .lit z7 38 (0, 0)), z40, z1] [T])) (fun _ => [(n20 + 0), (n20 + 0), (n20 + 0), (n20 + 0), (n20 + 0)]) (fun _ => []) (fun _ => by kernel_rfl) mn (fun _ => an) (.inl ⟨[], fun _ => by kernel_rfl⟩) (.inl (by decide)) (fun _ => ?_) hF_ hcl_
          exact TD.perm [0, 1, 2] (by kernel_rfl) (by kernel_rfl) (key18 ⟨n19, n20⟩)
        · refine OPJ.ev [] [] [0, 3, 27, 33] (fun n21 => [(0, vP tb 0), (3, vP (n21 + 0) 0), z4, z6]) (fun n21 => (ap [((n21 + 0), .lit [vI 0, vI 0, vI 0, vI 0, vI 0] 38 (0, 0)), z1] [T])) (fun n21 => []) (fun n21 => []) (fun _ => by kernel_rfl) mn (fun n21 => an) (.inr ⟨by decide, fun n21 => ⟨[((n21 + 0), .lit [vI 0, vI 0, vI 0, vI 0, vI 0] 38 (0, 0))], rfl⟩⟩) (.inr fun n21 => ⟨[((n21 + 0), .lit [vI 0, vI 0, vI 0, vI 0, vI 0] 38 (0, 0))], rfl⟩) (fun n21 => ?_) hF_ hcl_
          refine TD.one 12 (by kernel_rfl) 2 rfl fun a_ hF_ hcl_ => ?_
          let z41 : Nat × Value := (3, vP (n21 + 0) 0)
          let z42 : Nat × Blk := ((n21 + 0), .lit [vI 0, vI 0, vI 0, vI 0, vI 0] 38 (0, 0))
          refine OPJ.ev [] [] [0, 2, 3, 27, 33] (fun n22 => [(0, vP tb 0), (2, vP (n22 + 0) 0), z41, z4, z6]) (fun n22 => (ap [((n22 + 0), .lit [vI 0, vI 0, vI 0, vI 0, vI 0] 38 (0, 0)), z42, z1] [T])) (fun n22 => []) (fun n22 => []) (fun _ => by kernel_rfl) mn (fun n22 => an) (.inr ⟨by decide, fun n22 => ⟨[((n22 + 0), .lit [vI 0, vI 0, vI 0, vI 0, vI 0] 38 (0, 0))], rfl⟩⟩) (.inr fun n22 => ⟨[((n22 + 0), .lit [vI 0, vI 0, vI 0, vI 0, vI 0] 38 (0, 0))], rfl⟩) (fun n22 => ?_) hF_ hcl_
          refine TD.one 14 (by kernel_rfl) 1 rfl fun a_ hF_ hcl_ => ?_
          let z43 : Nat × Value := (2, vP (n22 + 0) 0)
          let z44 : Nat × Blk := ((n22 + 0), .lit z8 38 (0, 0))
          refine OPJ.ev [] [.own 0, .own 0, .own 0, .own 0, .own 0] [0, 2, 3, 33] (fun _ => [(0, vP tb 0), z43, z41, z6]) (fun _ => (ap [z44, z42, z1] [T])) (fun _ => [(n22 + 0), (n22 + 0), (n22 + 0), (n22 + 0), (n22 + 0)]) (fun _ => []) (fun _ => by kernel_rfl) mn (fun _ => an) (.inl ⟨[], fun _ => by kernel_rfl⟩) (.inl (by decide)) (fun _ => ?_) hF_ hcl_
          refine TD.one 15 (by kernel_rfl) 0 rfl fun a_ hF_ hcl_ => ?_
          refine OPJ.ev [] [.own 1, .own 1, .own 1, .own 1, .own 1] [0, 2, 3] (fun _ => [(0, vP tb 0), z43, z41]) (fun _ => (ap [z44, ((n21 + 0), .lit z7 38 (0, 0)), z1] [T])) (fun _ => [(n21 + 0), (n21 + 0), (n21 + 0), (n21 + 0), (n21 + 0)]) (fun _ => []) (fun _ => by kernel_rfl) mn (fun _ => an) (.inl ⟨[], fun _ => by kernel_rfl⟩) (.inl (by decide)) (fun _ => ?_) hF_ hcl_
          exact TD.perm [1, 0, 2] (by kernel_rfl) (by kernel_rfl) (key18 ⟨n22, n21⟩)
    · refine TR.yes (b := !(decide (0 ≤ t.j ∧ t.j < t.S.nb))) (by kernel_rfl) (by kernel_rfl) (by rw [decide_eq_false h2]; rfl) ?_
      refine TR.ret (A := [z1]) (Ts := [T]) (by exact fun _ _ h => h) rfl rfl [] [] (.tuple #[]) [] [] (fun _ => by kernel_rfl) mn an [0] [] [0] [] (ap [z1] [T]) (by kernel_rfl) (by kernel_rfl) (by kernel_rfl) ?_
      refine ⟨T, rfl, ?_⟩
      have e : touchF t M = M := by
        unfold touchF
        rw [if_pos (show 0 ≤ t.i ∧ t.i < t.S.nb from h1), if_neg (show ¬ (0 ≤ t.j ∧ t.j < t.S.nb) from h2)]
        first | done | rfl
      rw [e]
      exact hM.weak (by omega)
  · refine TL.seg0 10 [] [.gd true, .gd true, .gd true, .gd true, .gd true, .gd true, .gd true, .gd true] [0, 21] [(0, vP tb 0), (21, .bool true)] (ap [z1] [T]) [] [(!(decide (0 ≤ t.i ∧ t.i < t.S.nb))) = true, (!(decide (0 ≤ t.i ∧ t.i < t.S.nb))) = true, (!(decide (0 ≤ t.i ∧ t.i < t.S.nb))) = true, (!(decide (0 ≤ t.i ∧ t.i < t.S.nb))) = true, (!(decide (0 ≤ t.i ∧ t.i < t.S.nb))) = true, (!(decide (0 ≤ t.i ∧ t.i < t.S.nb))) = true, (!(decide (0 ≤ t.i ∧ t.i < t.S.nb))) = true, (!(decide (0 ≤ t.i ∧ t.i < t.S.nb))) = true] (fun _ => by kernel_rfl) mn (ac (by rw [decide_eq_false h1]; rfl) (ac (by rw [decide_eq_false h1]; rfl) (ac (by rw [decide_eq_false h1]; rfl) (ac (by rw [decide_eq_false h1]; rfl) (ac (by rw [decide_eq_false h1]; rfl) (ac (by rw [decide_eq_false h1]; rfl) (ac (by rw [decide_eq_false h1]; rfl) (ac (by rw [decide_eq_false h1]; rfl) an)))))))) ?_
    refine TL.fin (by kernel_rfl) ?_
    refine EX.next ?_
    refine TR.yes (by kernel_rfl) (by kernel_rfl) (rfl : true = true) ?_
    refine TR.ret (A := [z1]) (Ts := [T]) (by exact fun _ _ h => h) rfl rfl [] [] (.tuple #[]) [] [] (fun _ => by kernel_rfl) mn an [0] [] [0] [] (ap [z1] [T]) (by kernel_rfl) (by kernel_rfl) (by kernel_rfl) ?_
    refine ⟨T, rfl, ?_⟩
    have e : touchF t M = M := by
      unfold touchF
      rw [if_neg (show ¬ (0 ≤ t.i ∧ t.i < t.S.nb) from h1)]
      first | done | rfl
    rw [e]
    exact hM.weak (by omega)

set_option maxHeartbeats 4000000 in
set_option maxRecDepth 100000 in
theorem test_full (t : Stp)  (tb mb : Nat) (M : MemS) (k : Nat) (T F : HL) (hM : MemH mb M (k + 1) T) (hS : SetIn F t.S) (hj : 0 ≤ t.j ∧ t.j < t.S.nb) : Sp Tryz.prog 53 #[vP tb 0] (ap [(tb, .lit (Stp.l t mb) 83 (0, 0))] [T]) F (fun u H' => ∃ x, H' = ap [(tb, .lit (Stp.l t mb) 83 (0, 0))] [x] ∧ (MemH mb (testF t M) k x)) := by
  have hp := hS.pl
  have hn := hS.nb
  have hr := hS.room
  refine Sp.of_body Tryz.func53 rfl rfl rfl [(0, vP tb 0)] rfl ?_
  intro w0
  let z1 : Nat × Blk := (tb, .lit (Stp.l t mb) 83 (0, 0))
  refine TR.convH (ap [z1] [T]) rfl ?_
  refine TR.seq ?_
  refine TR.seq ?_
  refine TR.draw [] [] rfl (by kernel_rfl) ?_
  rcases Decidable.em (t.i = t.j) with h1 | h1
  · refine TD.vals [] (by kernel_rfl) [0, 4, 1, 5, 2, 6, 3, 7, 8, 9, 10, 11, 12, 13, 14, 15, 16, 17] [] [.own 0, .own 0, .gd true, .gd true, .gd true, .gd true, .gd true, .gd true, .gd true, .gd true] [0, 22] [true, true, true, true, true, true, true, true, true, true, true, true, true, true, true, true, true, true] [(0, vP tb 0), (22, .bool true)] [tb, tb] [(decide (t.i = t.j)) = true, (decide (t.i = t.j)) = true, (decide (t.i = t.j)) = true, (decide (t.i = t.j)) = true, (decide (t.i = t.j)) = true, (decide (t.i = t.j)) = true, (decide (t.i = t.j)) = true, (decide (t.i = t.j)) = true] (by kernel_rfl) (by kernel_rfl) mn (ac (decide_eq_true h1) (ac (decide_eq_true h1) (ac (decide_eq_true h1) (ac (decide_eq_true h1) (ac (decide_eq_true h1) (ac (decide_eq_true h1) (ac (decide_eq_true h1) (ac (decide_eq_true h1) an)))))))) 0 rfl ?_
    refine TD.fin (by kernel_rfl) (EX.np ?_)
    refine EX.next ?_
    refine TR.yes (by kernel_rfl) (by kernel_rfl) (rfl : true = true) ?_
    refine TR.ret (A := [z1]) (Ts := [T]) (by exact fun _ _ h => h) rfl rfl [] [] (.tuple #[]) [] [] (fun _ => by kernel_rfl) mn an [0] [] [0] [] (ap [z1] [T]) (by kernel_rfl) (by kernel_rfl) (by kernel_rfl) ?_
    refine ⟨T, rfl, ?_⟩
    have e : testF t M = M := by
      unfold testF
      rw [if_pos (show t.i = t.j from h1)]
      first | done | rfl
    rw [e]
    exact hM.weak (by omega)
  · let z2 : Nat × Value := (14, .bool (decide (t.i = t.j)))
    refine TD.vals [] (by kernel_rfl) [0, 4, 1, 5, 2, 6, 3, 7, 8, 9, 10, 11, 12, 13, 14] [] [.own 0, .own 0, .gd false, .gd false, .gd false, .gd false, .gd false, .own 0] [0, 14, 15, 19] [true, true, true, true, true, true, true, true, true, true, true, true, true, true, true, false, false, false] [(0, vP tb 0), z2, (15, vP tb 0), (19, vI t.i)] [tb, tb, tb] [(decide (t.i = t.j)) = false, (decide (t.i = t.j)) = false, (decide (t.i = t.j)) = false, (decide (t.i = t.j)) = false, (decide (t.i = t.j)) = false] (by kernel_rfl) (by kernel_rfl) mn (ac (decide_eq_false h1) (ac (decide_eq_false h1) (ac (decide_eq_false h1) (ac (decide_eq_false h1) (ac (decide_eq_false h1) an))))) 3 rfl ?_
    let z3 := movP t.S t.i
    refine TD.callv [] (by kernel_rfl) 15 [] [.gd false] (dst := (some 20)) (f := 48) (args := #[vP tb 0, vI t.i]) (E := []) (Ob := [(decide (t.i = t.j)) = false]) [0, 14, 20] (.bool (decide z3)) [(0, vP tb 0), z2, (20, .bool (decide z3))] (by kernel_rfl) (by kernel_rfl) (by kernel_rfl) mn (ac (decide_eq_false h1) an) (fun X_ => (movable_any t t.i tb mb _ (in_apX 0 rfl) hS.up.up)) (by kernel_rfl) 2 rfl ?_
    refine TD.vals [] (by kernel_rfl) [16, 17] [] [.gd false, .gd false] [0, 22] [true, true, true, true, true, true, true, true, true, true, true, true, true, true, true, true, true, true] [(0, vP tb 0), (22, .bool (!(decide z3)))] [] [(decide (t.i = t.j)) = false, (decide (t.i = t.j)) = false] (by kernel_rfl) (by kernel_rfl) mn (ac (decide_eq_false h1) (ac (decide_eq_false h1) an)) 0 rfl ?_
    refine TD.fin (by kernel_rfl) (EX.np ?_)
    refine EX.next ?_
    rcases Decidable.em (movP t.S t.i) with h2 | h2
    · have := movP.has h2
      refine TR.no (b := !(decide z3)) (by kernel_rfl) (by kernel_rfl) (by rw [decide_eq_true h2]; rfl) ?_
      refine TR.skip ?_
      refine EX.next ?_
      refine TR.seq ?_
      refine TR.draw [14, 15] [] rfl (by kernel_rfl) ?_
      refine TD.vals [] (by kernel_rfl) [0, 1, 6, 7, 2, 8, 3, 9, 4, 10] [] [.own 0, .own 0] [0, 23, 27, 29, 33] [true, true, true, true, true, false, true, true, true, true, true, false, false, false, false, false] [(0, vP tb 0), (23, vP tb 0), (27, vI t.i), (29, vP tb 0), (33, vI t.j)] [tb, tb] [] (by kernel_rfl) (by kernel_rfl) mn an 6 rfl ?_
      let z4 := motM t.S M t.i
      let z5 : Nat × Value := (28, .agg #[vI (z4.px), vI (z4.py), vI (z4.vx), vI (z4.vy), vI (z4.inv)])
      refine TD.callv [] (by kernel_rfl) 5 [] [] (dst := (some 28)) (f := 49) (args := #[vP tb 0, vI t.i]) (E := []) (Ob := []) [0, 28, 29, 33] (.agg #[vI (z4.px), vI (z4.py), vI (z4.vx), vI (z4.vy), vI (z4.inv)]) [(0, vP tb 0), z5, (29, vP tb 0), (33, vI t.j)] (by kernel_rfl) (by kernel_rfl) (by kernel_rfl) mn an (fun X_ => (motion_any t t.i tb mb M _ T _ (in_apX 0 rfl) hS.up.up hM (sub_apX 0 rfl) (movP.has h2))) (by kernel_rfl) 5 rfl ?_
      let z6 := motM t.S M t.j
      let z7 : Nat × Value := (34, .agg #[vI (z6.px), vI (z6.py), vI (z6.vx), vI (z6.vy), vI (z6.inv)])
      refine TD.callv [] (by kernel_rfl) 11 [] [] (dst := (some 34)) (f := 49) (args := #[vP tb 0, vI t.j]) (E := []) (Ob := []) [0, 28, 34] (.agg #[vI (z6.px), vI (z6.py), vI (z6.vx), vI (z6.vy), vI (z6.inv)]) [(0, vP tb 0), z5, z7] (by kernel_rfl) (by kernel_rfl) (by kernel_rfl) mn an (fun X_ => (motion_any t t.j tb mb M _ T _ (in_apX 0 rfl) hS.up.up hM (sub_apX 0 rfl) hj)) (by kernel_rfl) 4 rfl ?_
      let z8 : List Value := [vI (z6.px), vI (z6.py), vI (z6.vx), vI (z6.vy), vI (z6.inv)]
      let z9 : List Value := [vI (z4.px), vI (z4.py), vI (z4.vx), vI (z4.vy), vI (z4.inv)]
      refine TD.haveK (σ := Nat × Nat) 0 [true, true, true, true, true, true, true, true, true, true, true, true, true, true, true, true] (fun (x : Nat × Nat) => match x with | ⟨n3, n4⟩ => [(0, vP tb 0), (2, vP (n3 + 0) 0), (3, vP (n4 + 0) 0)]) (fun (x : Nat × Nat) => match x with | ⟨n3, n4⟩ => (ap [((n4 + 0), .lit z8 38 (0, 0)), ((n3 + 0), .lit z9 38 (0, 0)), z1] [T])) ?_ ?_
      · rintro ⟨n3, n4⟩
        refine TD.fin (by kernel_rfl) (EX.np ?_)
        refine EX.next ?_
        refine TR.seq ?_
        refine TR.draw [] [] rfl (by kernel_rfl) ?_
        let z10 := t.S.bo + ((t.i).toNat)
        let z11 := t.S.bo + ((t.j).toNat)
        refine TD.vals [] (by kernel_rfl) [0, 5, 12, 14, 16, 21, 28, 30, 1, 6, 13, 15, 17, 22, 29, 2, 7, 18, 23, 3, 8, 19, 24, 4, 20, 9, 25, 10, 26, 11, 27] [(t.S.bb, .rows 9 t.S.bR (brow t.S.bods) 40 (0, 0))] [.own 1, .own 1, .own 1, .own 1, .own 0, .own 0, .own 2, .own 2, .own 2, .own 2, .ix ((t.i).toNat), .ix ((t.j).toNat), .rorow 0 z10 0, .rorow 0 z10 1, .rorow 0 z11 0, .rorow 0 z11 1] [0, 46, 48, 50, 62, 64, 65] [true, true, true, true, true, true, true, true, true, true, true, true, true, true, true, true, true, true, true, true, true, true, true, true, true, true, true, true, true, true, true, false, false] [(0, vP tb 0), (46, .agg #[vI ((t.S.bods.getD z10 dB).sh.r), .slice ((t.S.bods.getD z10 dB).sh.A) ((t.S.bods.getD z10 dB).sh.poly.length) ((t.S.bods.getD z10 dB).sh.cap)]), (48, .agg #[vI (z4.px), vI (z4.py)]), (50, .agg #[vI (z4.vx), vI (z4.vy)]), (62, .agg #[vI ((t.S.bods.getD z11 dB).sh.r), .slice ((t.S.bods.getD z11 dB).sh.A) ((t.S.bods.getD z11 dB).sh.poly.length) ((t.S.bods.getD z11 dB).sh.cap)]), (64, .agg #[vI (z6.px), vI (z6.py)]), (65, .agg #[vI 0, vI 0])] [t.S.bb, t.S.bb, t.S.bb, t.S.bb, tb, tb, tb, tb, (n4 + 0), (n4 + 0), (n3 + 0), (n3 + 0), (n3 + 0), (n3 + 0)] [((t.S.bo * 9 + ((t.j).toNat) * 9) + 1) = (t.S.bo + ((t.j).toNat)) * 9 + 1 ∧ (t.S.bo + ((t.j).toNat)) < t.S.bR, (t.S.bo * 9 + ((t.j).toNat) * 9) = (t.S.bo + ((t.j).toNat)) * 9 + 0 ∧ (t.S.bo + ((t.j).toNat)) < t.S.bR, ((t.S.bo * 9 + ((t.i).toNat) * 9) + 1) = (t.S.bo + ((t.i).toNat)) * 9 + 1 ∧ (t.S.bo + ((t.i).toNat)) < t.S.bR, (t.S.bo * 9 + ((t.i).toNat) * 9) = (t.S.bo + ((t.i).toNat)) * 9 + 0 ∧ (t.S.bo + ((t.i).toNat)) < t.S.bR, t.j = (((t.j).toNat : Nat) : Int) ∧ (t.j).toNat < t.S.nb, t.i = (((t.i).toNat : Nat) : Int) ∧ (t.i).toNat < t.S.nb] (by kernel_rfl) (by kernel_rfl) (mc hS.blk mn) (ac ⟨by omega, by omega⟩ (ac ⟨by omega, by omega⟩ (ac ⟨by omega, by omega⟩ (ac ⟨by omega, by omega⟩ (ac ⟨by omega, by omega⟩ (ac ⟨by omega, by omega⟩ an)))))) 2 rfl ?_
        let z12 := (⟨z4.px, z4.py⟩ : V2)
        let z13 := (⟨z4.vx, z4.vy⟩ : V2)
        let z14 := (⟨z6.px, z6.py⟩ : V2)
        let z15 := earlS (t.S.bods.getD z10 dB).sh z12 z13 (t.S.bods.getD z11 dB).sh z14 (⟨0, 0⟩ : V2)
        refine TD.callv [] (by kernel_rfl) 31 [] [] (dst := (some 66)) (f := 61) (args := #[.agg #[vI ((t.S.bods.getD z10 dB).sh.r), .slice ((t.S.bods.getD z10 dB).sh.A) ((t.S.bods.getD z10 dB).sh.poly.length) ((t.S.bods.getD z10 dB).sh.cap)], .agg #[vI (z4.px), vI (z4.py)], .agg #[vI (z4.vx), vI (z4.vy)], .agg #[vI ((t.S.bods.getD z11 dB).sh.r), .slice ((t.S.bods.getD z11 dB).sh.A) ((t.S.bods.getD z11 dB).sh.poly.length) ((t.S.bods.getD z11 dB).sh.cap)], .agg #[vI (z6.px), vI (z6.py)], .agg #[vI 0, vI 0]]) (E := []) (Ob := []) [0, 66] (vI z15) [(0, vP tb 0), (66, vI z15)] (by kernel_rfl) (by kernel_rfl) (by kernel_rfl) mn an (fun X_ => (earliest_any (t.S.bods.getD z10 dB).sh z12 z13 (t.S.bods.getD z11 dB).sh z14 (⟨0, 0⟩ : V2) _ ((hS.shp ((t.i).toNat) (by omega)).up.up) ((hS.shp ((t.j).toNat) (by omega)).up.up))) (by kernel_rfl) 1 rfl ?_
        let z16 : Nat × Value := (4, vI z15)
        refine TD.vals [] (by kernel_rfl) [32] [] [] [0, 4] [true, true, true, true, true, true, true, true, true, true, true, true, true, true, true, true, true, true, true, true, true, true, true, true, true, true, true, true, true, true, true, true, true] [(0, vP tb 0), z16] [] [] (by kernel_rfl) (by kernel_rfl) mn an 0 rfl ?_
        refine TD.fin (by kernel_rfl) (EX.np ?_)
        refine EX.next ?_
        refine TR.seq ?_
        refine TR.reg ?_
        let z17 : Nat × Value := (67, vI z15)
        let z18 : Nat × Blk := ((n4 + 0), .lit z8 38 (0, 0))
        let z19 : Nat × Blk := ((n3 + 0), .lit z9 38 (0, 0))
        refine TL.seg0 5 [] [.own 2] [0, 4, 67, 71] [(0, vP tb 0), z16, z17, (71, .iface 41 (vP mb 0))] (ap [z18, z19, z1] [T]) [tb] [] (fun _ => by kernel_rfl) mn an ?_
        refine TL.callp (dst := (some 72)) (f := 28) (args := #[vP mb 0, vI 5]) (H1 := (ap [z18, z19, z1] [T])) (E := []) (Ob := []) [] [] [0, 4, 67, 72] (vI (M.get 5)) [(0, vP tb 0), z16, z17, (72, vI (M.get 5))] (fun _ => by kernel_rfl) mn an (get_any 5 hM (sub_ap 0 rfl)) (by kernel_rfl) ?_
        refine TL.seg0 1 [] [] [0, 4, 73] [(0, vP tb 0), z16, (73, .bool (decide (earlS (t.S.bods.getD z10 dB).sh z12 z13 (t.S.bods.getD z11 dB).sh z14 (⟨0, 0⟩ : V2) < M.get 5)))] (ap [z18, z19, z1] [T]) [] [] (fun _ => by kernel_rfl) mn an ?_
        refine TL.fin (by kernel_rfl) ?_
        refine EX.next ?_
        rcases Decidable.em (earlS (t.S.bods.getD (t.S.bo + ((t.i).toNat)) dB).sh (⟨(motM t.S M t.i).px, (motM t.S M t.i).py⟩ : V2) (⟨(motM t.S M t.i).vx, (motM t.S M t.i).vy⟩ : V2) (t.S.bods.getD (t.S.bo + ((t.j).toNat)) dB).sh (⟨(motM t.S M t.j).px, (motM t.S M t.j).py⟩ : V2) (⟨0, 0⟩ : V2) < M.get 5) with h5 | h5
        · refine TR.yes (b := decide (earlS (t.S.bods.getD z10 dB).sh z12 z13 (t.S.bods.getD z11 dB).sh z14 (⟨0, 0⟩ : V2) < M.get 5)) (by kernel_rfl) (by kernel_rfl) (decide_eq_true h5) ?_
          refine TR.reg ?_
          refine TL.seg0 5 [] [.own 2] [77, 78] [(77, .iface 41 (vP mb 0)), (78, vI z15)] (ap [z18, z19, z1] [T]) [tb] [] (fun _ => by kernel_rfl) mn an ?_
          refine TL.callT (τ := HL) [] [] (dst := (some 79)) (f := 150) (args := #[vP mb 0, vI 5, vI z15]) (A := [z18, z19, z1]) (Ts := [T]) (E := []) (Ob := []) [] [0, 1, 2] [0] [] [] [] [z18, z19, z1] [T] [] (fun _ => []) (fun x => [x]) (fun _ x => MemH mb (M.set 5 z15) k x) (fun v_ => []) (fun _ => by kernel_rfl) mn an (by kernel_rfl) (by kernel_rfl) (by kernel_rfl) (by kernel_rfl) (by kernel_rfl) (by kernel_rfl) (fun _ => by kernel_rfl) (set_any 5 z15 hM) ?_
          rintro _ T6 hM7
          refine TL.fin (by kernel_rfl) ?_
          refine EX.fin (A := [z18, z19, z1]) (Ts := [T6]) rfl rfl [] [] (.tuple #[]) [] [] (fun _ => by kernel_rfl) mn an [2] [0, 1] [0] [] (ap [z1] [T6]) (by kernel_rfl) (by kernel_rfl) (by kernel_rfl) ?_
          refine ⟨T6, rfl, ?_⟩
          have e : testF t M = (M.set 5 (earlS (t.S.bods.getD (t.S.bo + ((t.i).toNat)) dB).sh (⟨(motM t.S M t.i).px, (motM t.S M t.i).py⟩ : V2) (⟨(motM t.S M t.i).vx, (motM t.S M t.i).vy⟩ : V2) (t.S.bods.getD (t.S.bo + ((t.j).toNat)) dB).sh (⟨(motM t.S M t.j).px, (motM t.S M t.j).py⟩ : V2) (⟨0, 0⟩ : V2))) := by
            unfold testF
            rw [if_neg (show ¬ (t.i = t.j) from h1), if_pos (show movP t.S t.i from h2), if_pos (show earT t M < M.get 5 from h5)]
            first | done | rfl
          rw [e]
          exact hM7.weak (by omega)
        · refine TR.no (b := decide (earlS (t.S.bods.getD z10 dB).sh z12 z13 (t.S.bods.getD z11 dB).sh z14 (⟨0, 0⟩ : V2) < M.get 5)) (by kernel_rfl) (by kernel_rfl) (decide_eq_false h5) ?_
          refine TR.skip ?_
          refine EX.fin (A := [z18, z19, z1]) (Ts := [T]) rfl rfl [] [] (.tuple #[]) [] [] (fun _ => by kernel_rfl) mn an [2] [0, 1] [0] [] (ap [z1] [T]) (by kernel_rfl) (by kernel_rfl) (by kernel_rfl) ?_
          refine ⟨T, rfl, ?_⟩
          have e : testF t M = M := by
            unfold testF
            rw [if_neg (show ¬ (t.i = t.j) from h1), if_pos (show movP t.S t.i from h2), if_neg (show ¬ (earT t M < M.get 5) from h5)]
            first | done | rfl
          rw [e]
          exact hM.weak (by omega)
      · intro key8
        refine TD.two 12 13 (by kernel_rfl) 3 rfl (fun a_ hF_ hcl_ => ?_) (fun a_ hF_ hcl_ => ?_)
        · refine OPJ.ev [] [] [0, 2, 28, 34] (fun n9 => [(0, vP tb 0), (2, vP (n9 + 0) 0), z5, z7]) (fun n9 => (ap [((n9 + 0), .lit [vI 0, vI 0, vI 0, vI 0, vI 0] 38 (0, 0)), z1] [T])) (fun n9 => []) (fun n9 => []) (fun _ => by kernel_rfl) mn (fun n9 => an) (.inr ⟨by decide, fun n9 => ⟨[((n9 + 0), .lit [vI 0, vI 0, vI 0, vI 0, vI 0] 38 (0, 0))], rfl⟩⟩) (.inr fun n9 => ⟨[((n9 + 0), .lit [vI 0, vI 0, vI 0, vI 0, vI 0] 38 (0, 0))], rfl⟩) (fun n9 => ?_) hF_ hcl_
          refine TD.one 13 (by kernel_rfl) 2 rfl fun a_ hF_ hcl_ => ?_
          let z20 : Nat × Value := (2, vP (n9 + 0) 0)
          refine OPJ.ev [] [] [0, 2, 3, 28, 34] (fun n10 => [(0, vP tb 0), z20, (3, vP (n10 + 0) 0), z5, z7]) (fun n10 => (ap [((n10 + 0), .lit [vI 0, vI 0, vI 0, vI 0, vI 0] 38 (0, 0)), ((n9 + 0), .lit [vI 0, vI 0, vI 0, vI 0, vI 0] 38 (0, 0)), z1] [T])) (fun n10 => []) (fun n10 => []) (fun _ => by kernel_rfl) mn (fun n10 => an) (.inr ⟨by decide, fun n10 => ⟨[((n10 + 0), .lit [vI 0, vI 0, vI 0, vI 0, vI 0] 38 (0, 0))], rfl⟩⟩) (.inr fun n10 => ⟨[((n10 + 0), .lit [vI 0, vI 0, vI 0, vI 0, vI 0] 38 (0, 0))], rfl⟩) (fun n10 => ?_) hF_ hcl_
          refine TD.one 14 (by kernel_rfl) 1 rfl fun a_ hF_ hcl_ => ?_
          let z21 : Nat × Value := (3, vP (n10 + 0) 0)
          let z22 : Nat × Blk := ((n9 + 0), .lit z9 38 (0, 0))
          refine OPJ.ev [] [.own 1, .own 1, .own 1, .own 1, .own 1] [0, 2, 3, 34] (fun _ => [(0, vP tb 0), z20, z21, z7]) (fun _ => (ap [((n10 + 0), .lit [vI 0, vI 0, vI 0, vI 0, vI 0] 38 (0, 0)), z22, z1] [T])) (fun _ => [(n9 + 0), (n9 + 0), (n9 + 0), (n9 + 0), (n9 + 0)]) (fun _ => []) (fun _ => by kernel_rfl) mn (fun _ => an) (.inl ⟨[], fun _ => by kernel_rfl⟩) (.inl (by decide)) (fun _ => ?_) hF_ hcl_
          refine TD.one 15 (by kernel_rfl) 0 rfl fun a_ hF_ hcl_ => ?_
          refine OPJ.ev [] [.own 0, .own 0, .own 0, .own 0, .own 0] [0, 2, 3] (fun _ => [(0, vP tb 0), z20, z21]) (fun _ => (ap [((n10 + 0), .lit z8 38 (0, 0)), z22, z1] [T])) (fun _ => [(n10 + 0), (n10 + 0), (n10 + 0), (n10 + 0), (n10 + 0)]) (fun _ => []) (fun _ => by kernel_rfl) mn (fun _ => an) (.inl ⟨[], fun _ => by kernel_rfl⟩) (.inl (by decide)) (fun _ => ?_) hF_ hcl_
          exact TD.perm [0, 1, 2] (by kernel_rfl) (by kernel_rfl) (key8 ⟨n9, n10⟩)
        · refine OPJ.ev [] [] [0, 3, 28, 34] (fun n11 => [(0, vP tb 0), (3, vP (n11 + 0) 0), z5, z7]) (fun n11 => (ap [((n11 + 0), .lit [vI 0, vI 0, vI 0, vI 0, vI 0] 38 (0, 0)), z1] [T])) (fun n11 => []) (fun n11 => []) (fun _ => by kernel_rfl) mn (fun n11 => an) (.inr ⟨by decide, fun n11 => ⟨[((n11 + 0), .lit [vI 0, vI 0, vI 0, vI 0, vI 0] 38 (0, 0))], rfl⟩⟩) (.inr fun n11 => ⟨[((n11 + 0), .lit [vI 0, vI 0, vI 0, vI 0, vI 0] 38 (0, 0))], rfl⟩) (fun n11 => ?_) hF_ hcl_
          refine TD.one 12 (by kernel_rfl) 2 rfl fun a_ hF_ hcl_ => ?_
          let z23 : Nat × Value := (3, vP (n11 + 0) 0)
          let z24 : Nat × Blk := ((n11 + 0), .lit [vI 0, vI 0, vI 0, vI 0, vI 0] 38 (0, 0))
          refine OPJ.ev [] [] [0, 2, 3, 28, 34] (fun n12 => [(0, vP tb 0), (2, vP (n12 + 0) 0), z23, z5, z7]) (fun n12 => (ap [((n12 + 0), .lit [vI 0, vI 0, vI 0, vI 0, vI 0] 38 (0, 0)), z24, z1] [T])) (fun n12 => []) (fun n12 => []) (fun _ => by kernel_rfl) mn (fun n12 => an) (.inr ⟨by decide, fun n12 => ⟨[((n12 + 0), .lit [vI 0, vI 0, vI 0, vI 0, vI 0] 38 (0, 0))], rfl⟩⟩) (.inr fun n12 => ⟨[((n12 + 0), .lit [vI 0, vI 0, vI 0, vI 0, vI 0] 38 (0, 0))], rfl⟩) (fun n12 => ?_) hF_ hcl_
          refine TD.one 14 (by kernel_rfl) 1 rfl fun a_ hF_ hcl_ => ?_
          let z25 : Nat × Value := (2, vP (n12 + 0) 0)
          let z26 : Nat × Blk := ((n12 + 0), .lit z9 38 (0, 0))
          refine OPJ.ev [] [.own 0, .own 0, .own 0, .own 0, .own 0] [0, 2, 3, 34] (fun _ => [(0, vP tb 0), z25, z23, z7]) (fun _ => (ap [z26, z24, z1] [T])) (fun _ => [(n12 + 0), (n12 + 0), (n12 + 0), (n12 + 0), (n12 + 0)]) (fun _ => []) (fun _ => by kernel_rfl) mn (fun _ => an) (.inl ⟨[], fun _ => by kernel_rfl⟩) (.inl (by decide)) (fun _ => ?_) hF_ hcl_
          refine TD.one 15 (by kernel_rfl) 0 rfl fun a_ hF_ hcl_ => ?_
          refine OPJ.ev [] [.own 1, .own 1, .own 1, .own 1, .own 1] [0, 2, 3] (fun _ => [(0, vP tb 0), z25, z23]) (fun _ => (ap [z26, ((n11 + 0), .lit z8 38 (0, 0)), z1] [T])) (fun _ => [(n11 + 0), (n11 + 0), (n11 + 0), (n11 + 0), (n11 + 0)]) (fun _ => []) (fun _ => by kernel_rfl) mn (fun _ => an) (.inl ⟨[], fun _ => by kernel_rfl⟩) (.inl (by decide)) (fun _ => ?_) hF_ hcl_
          exact TD.perm [1, 0, 2] (by kernel_rfl) (by kernel_rfl) (key8 ⟨n12, n11⟩)
    · refine TR.yes (b := !(decide z3)) (by kernel_rfl) (by kernel_rfl) (by rw [decide_eq_false h2]; rfl) ?_
      refine TR.ret (A := [z1]) (Ts := [T]) (by exact fun _ _ h => h) rfl rfl [] [] (.tuple #[]) [] [] (fun _ => by kernel_rfl) mn an [0] [] [0] [] (ap [z1] [T]) (by kernel_rfl) (by kernel_rfl) (by kernel_rfl) ?_
      refine ⟨T, rfl, ?_⟩
      have e : testF t M = M := by
        unfold testF
        rw [if_neg (show ¬ (t.i = t.j) from h1), if_neg (show ¬ (movP t.S t.i) from h2)]
        first | done | rfl
      rw [e]
      exact hM.weak (by omega)

set_option maxHeartbeats 4000000 in
set_option maxRecDepth 100000 in
theorem move_full (t : Stp)  (tb mb : Nat) (M : MemS) (k : Nat) (T F : HL) (hM : MemH mb M (k + 8) T) (hS : SetIn F t.S)  : Sp Tryz.prog 34 #[vP tb 0] (ap [(tb, .lit (Stp.l t mb) 83 (0, 0))] [T]) F (fun u H' => ∃ x, H' = ap [(tb, .lit (Stp.l t mb) 83 (0, 0))] [x] ∧ (MemH mb (moveF t M) k x)) := by
  have hp := hS.pl
  have hn := hS.nb
  have hr := hS.room
  refine Sp.of_body Tryz.func34 rfl rfl rfl [(0, vP tb 0)] rfl ?_
  intro w0
  let z1 : Nat × Blk := (tb, .lit (Stp.l t mb) 83 (0, 0))
  refine TR.convH (ap [z1] [T]) rfl ?_
  refine TR.seq ?_
  refine TR.seq ?_
  refine TR.reg ?_
  refine TL.seg0 5 [] [.own 0] [0, 2, 6] [(0, vP tb 0), (2, vP tb 0), (6, vI t.j)] (ap [z1] [T]) [tb] [] (fun _ => by kernel_rfl) mn an ?_
  refine TL.callp (dst := (some 7)) (f := 52) (args := #[vP tb 0, vI t.j]) (H1 := (ap [z1] [T])) (E := []) (Ob := []) [] [] [0, 7] (.bool (decide (0 ≤ t.j ∧ t.j < t.S.nb))) [(0, vP tb 0), (7, .bool (decide (0 ≤ t.j ∧ t.j < t.S.nb)))] (fun _ => by kernel_rfl) mn an (has_any t t.j tb mb _ (in_ap 0 rfl)) (by kernel_rfl) ?_
  refine TL.fin (by kernel_rfl) ?_
  refine EX.next ?_
  rcases Decidable.em (0 ≤ t.j ∧ t.j < t.S.nb) with h1 | h1
  · refine TR.yes (b := decide (0 ≤ t.j ∧ t.j < t.S.nb)) (by kernel_rfl) (by kernel_rfl) (decide_eq_true h1) ?_
    refine TR.seq ?_
    refine TR.reg ?_
    refine TL.seg0 1 [] [] [0, 8] [(0, vP tb 0), (8, vP tb 0)] (ap [z1] [T]) [] [] (fun _ => by kernel_rfl) mn an ?_
    refine TL.callT (τ := HL) [] [] (dst := (some 9)) (f := 53) (args := #[vP tb 0]) (A := [z1]) (Ts := [T]) (E := []) (Ob := []) [0] [] [0] [] [0] [z1] [] [T] [] (fun _ => [z1]) (fun x => [x]) (fun v x => MemH mb (testF t M) (k + 7) x) (fun v_ => [(0, vP tb 0)]) (fun _ => by kernel_rfl) mn an (by kernel_rfl) (by kernel_rfl) (by kernel_rfl) (by kernel_rfl) (by kernel_rfl) (by kernel_rfl) (fun _ => by kernel_rfl) (test_full t tb mb M (k + 7) T _ hM hS.up (by assumption)) ?_
    rintro _ T2 hM3
    refine TL.fin (by kernel_rfl) ?_
    refine EX.next ?_
    refine TR.seq ?_
    refine TR.draw [11] [] rfl (by kernel_rfl) ?_
    let z2 := IntKind.i64.wrap (t.j + 1)
    refine TD.vals [] (by kernel_rfl) [0, 4, 1, 5, 2, 6, 3, 7, 8, 9, 10] [] [.own 0, .own 0] [18, 20] [true, true, true, true, true, true, true, true, true, true, true, false] [(18, vI z2), (20, .iface 41 (vP mb 0))] [tb, tb] [] (by kernel_rfl) (by kernel_rfl) mn an 1 rfl ?_
    refine TD.one 11 (by kernel_rfl) 0 rfl fun a_ hF_ hcl_ => ?_
    refine OPJ.callT (τ := HL) [] [] (dst := (some 21)) (f := 150) (args := #[vP mb 0, vI 3, vI z2]) (A := [z1]) (Ts := [T2]) (E := []) (Ob := []) [] [0] [0] [] [] [] [z1] [T2] [] (fun _ => []) (fun x => [x]) (fun _ x => MemH mb ((testF t M).set 3 z2) (k + 6) x) (fun v_ => []) (fun _ => by kernel_rfl) mn an (by kernel_rfl) (by kernel_rfl) (by kernel_rfl) (by kernel_rfl) (by kernel_rfl) (by kernel_rfl) (fun _ => by kernel_rfl) [] (.inl (by kernel_rfl)) (.inl (by decide)) (set_any 3 z2 hM3) ?_ hF_ hcl_
    rintro _ T4 hM5
    refine TD.fin (by kernel_rfl) (EX.np ?_)
    refine EX.next ?_
    refine TR.ret (A := [z1]) (Ts := [T4]) (by exact fun _ _ h => h) rfl rfl [] [] (.tuple #[]) [] [] (fun _ => by kernel_rfl) mn an [0] [] [0] [] (ap [z1] [T4]) (by kernel_rfl) (by kernel_rfl) (by kernel_rfl) ?_
    refine ⟨T4, rfl, ?_⟩
    have e : (moveF t M) = ((testF t M).set 3 (IntKind.i64.wrap (t.j + 1))) := by
      first | (simp only [moveF, moveA, if_pos h1]; done) | (simp only [moveF, moveA, if_pos h1]; rfl) | rfl
    rw [e]
    exact hM5.weak (by omega)
  · refine TR.no (b := decide (0 ≤ t.j ∧ t.j < t.S.nb)) (by kernel_rfl) (by kernel_rfl) (decide_eq_false h1) ?_
    refine TR.skip ?_
    refine EX.next ?_
    refine TR.seq ?_
    refine TR.seq ?_
    refine TR.reg ?_
    refine TL.seg0 5 [] [.own 0] [0, 22, 26] [(0, vP tb 0), (22, vP tb 0), (26, vI t.i)] (ap [z1] [T]) [tb] [] (fun _ => by kernel_rfl) mn an ?_
    let z3 := movP t.S t.i
    refine TL.callp (dst := (some 27)) (f := 48) (args := #[vP tb 0, vI t.i]) (H1 := (ap [z1] [T])) (E := []) (Ob := []) [] [] [0, 27] (.bool (decide z3)) [(0, vP tb 0), (27, .bool (decide z3))] (fun _ => by kernel_rfl) mn an (movable_any t t.i tb mb _ (in_ap 0 rfl) hS.up) (by kernel_rfl) ?_
    refine TL.fin (by kernel_rfl) ?_
    refine EX.next ?_
    rcases Decidable.em (movP t.S t.i) with h6 | h6
    · have := movP.has h6
      refine TR.yes (b := decide z3) (by kernel_rfl) (by kernel_rfl) (decide_eq_true h6) ?_
      refine TR.reg ?_
      refine TL.seg0 1 [] [] [0, 28] [(0, vP tb 0), (28, vP tb 0)] (ap [z1] [T]) [] [] (fun _ => by kernel_rfl) mn an ?_
      refine TL.callT (τ := HL) [] [] (dst := (some 29)) (f := 54) (args := #[vP tb 0]) (A := [z1]) (Ts := [T]) (E := []) (Ob := []) [0] [] [0] [] [0] [z1] [] [T] [] (fun _ => [z1]) (fun x => [x]) (fun v x => MemH mb (travelM t M) (k + 4) x) (fun v_ => [(0, vP tb 0)]) (fun _ => by kernel_rfl) mn an (by kernel_rfl) (by kernel_rfl) (by kernel_rfl) (by kernel_rfl) (by kernel_rfl) (by kernel_rfl) (fun _ => by kernel_rfl) (travel_any t tb mb M (k + 4) T _ hM hS.up (by assumption)) ?_
      rintro _ T7 hM8
      refine TL.fin (by kernel_rfl) ?_
      refine EX.next ?_
      refine TR.seq ?_
      refine TR.seq ?_
      refine TR.draw [] [] rfl (by kernel_rfl) ?_
      refine TD.vals [] (by kernel_rfl) [0, 5, 1, 6, 2, 7, 3, 8, 4, 9, 10, 11] [] [.own 0, .own 0] [0, 41] [true, true, true, true, true, true, true, true, true, true, true, true] [(0, vP tb 0), (41, .bool (decide (IntKind.i64.wrap (t.i + 1) < (t.S.nb : Int))))] [tb, tb] [] (by kernel_rfl) (by kernel_rfl) mn an 0 rfl ?_
      refine TD.fin (by kernel_rfl) (EX.np ?_)
      refine EX.next ?_
      rcases Decidable.em (IntKind.i64.wrap (t.i + 1) < (t.S.nb : Int)) with h9 | h9
      · refine TR.yes (b := decide (IntKind.i64.wrap (t.i + 1) < (t.S.nb : Int))) (by kernel_rfl) (by kernel_rfl) (decide_eq_true h9) ?_
        refine TR.seq ?_
        refine TR.draw [11] [] rfl (by kernel_rfl) ?_
        let z4 := IntKind.i64.wrap (t.i + 1)
        refine TD.vals [] (by kernel_rfl) [0, 4, 1, 5, 2, 6, 3, 7, 8, 9, 10] [] [.own 0, .own 0] [0, 50, 52] [true, true, true, true, true, true, true, true, true, true, true, false] [(0, vP tb 0), (50, vI z4), (52, .iface 41 (vP mb 0))] [tb, tb] [] (by kernel_rfl) (by kernel_rfl) mn an 1 rfl ?_
        refine TD.one 11 (by kernel_rfl) 0 rfl fun a_ hF_ hcl_ => ?_
        refine OPJ.callT (τ := HL) [] [] (dst := (some 53)) (f := 150) (args := #[vP mb 0, vI 2, vI z4]) (A := [z1]) (Ts := [T7]) (E := []) (Ob := []) [] [0] [0] [] [0] [] [z1] [T7] [] (fun _ => []) (fun x => [x]) (fun _ x => MemH mb ((travelM t M).set 2 z4) (k + 3) x) (fun v_ => [(0, vP tb 0)]) (fun _ => by kernel_rfl) mn an (by kernel_rfl) (by kernel_rfl) (by kernel_rfl) (by kernel_rfl) (by kernel_rfl) (by kernel_rfl) (fun _ => by kernel_rfl) [] (.inl (by kernel_rfl)) (.inl (by decide)) (set_any 2 z4 hM8) ?_ hF_ hcl_
        rintro _ T10 hM11
        refine TD.fin (by kernel_rfl) (EX.np ?_)
        refine EX.next ?_
        refine TR.seq ?_
        refine TR.reg ?_
        refine TL.seg0 4 [] [.own 0] [0, 57] [(0, vP tb 0), (57, .iface 41 (vP mb 0))] (ap [z1] [T10]) [tb] [] (fun _ => by kernel_rfl) mn an ?_
        refine TL.callT (τ := HL) [] [] (dst := (some 58)) (f := 150) (args := #[vP mb 0, vI 3, vI 0]) (A := [z1]) (Ts := [T10]) (E := []) (Ob := []) [] [0] [0] [] [0] [] [z1] [T10] [] (fun _ => []) (fun x => [x]) (fun _ x => MemH mb (((travelM t M).set 2 z4).set 3 0) (k + 2) x) (fun v_ => [(0, vP tb 0)]) (fun _ => by kernel_rfl) mn an (by kernel_rfl) (by kernel_rfl) (by kernel_rfl) (by kernel_rfl) (by kernel_rfl) (by kernel_rfl) (fun _ => by kernel_rfl) (set_any 3 0 hM11) ?_
        rintro _ T12 hM13
        refine TL.fin (by kernel_rfl) ?_
        refine EX.next ?_
        refine TR.seq ?_
        refine TR.reg ?_
        refine TL.seg0 4 [] [.own 0] [62] [(62, .iface 41 (vP mb 0))] (ap [z1] [T12]) [tb] [] (fun _ => by kernel_rfl) mn an ?_
        refine TL.callT (τ := HL) [] [] (dst := (some 63)) (f := 150) (args := #[vP mb 0, vI 5, vI 1024]) (A := [z1]) (Ts := [T12]) (E := []) (Ob := []) [] [0] [0] [] [] [] [z1] [T12] [] (fun _ => []) (fun x => [x]) (fun _ x => MemH mb ((((travelM t M).set 2 z4).set 3 0).set 5 1024) (k + 1) x) (fun v_ => []) (fun _ => by kernel_rfl) mn an (by kernel_rfl) (by kernel_rfl) (by kernel_rfl) (by kernel_rfl) (by kernel_rfl) (by kernel_rfl) (fun _ => by kernel_rfl) (set_any 5 1024 hM13) ?_
        rintro _ T14 hM15
        refine TL.fin (by kernel_rfl) ?_
        refine EX.next ?_
        refine TR.ret (A := [z1]) (Ts := [T14]) (by exact fun _ _ h => h) rfl rfl [] [] (.tuple #[]) [] [] (fun _ => by kernel_rfl) mn an [0] [] [0] [] (ap [z1] [T14]) (by kernel_rfl) (by kernel_rfl) (by kernel_rfl) ?_
        refine ⟨T14, rfl, ?_⟩
        have e : (moveF t M) = ((((travelM t M).set 2 (IntKind.i64.wrap (t.i + 1))).set 3 0).set 5 1024) := by
          first | (simp only [moveF, moveA, if_neg h1, if_pos h6, if_pos h9]; done) | (simp only [moveF, moveA, if_neg h1, if_pos h6, if_pos h9]; rfl) | rfl
        rw [e]
        exact hM15.weak (by omega)
      · refine TR.no (b := decide (IntKind.i64.wrap (t.i + 1) < (t.S.nb : Int))) (by kernel_rfl) (by kernel_rfl) (decide_eq_false h9) ?_
        refine TR.skip ?_
        refine EX.next ?_
        refine TR.seq ?_
        refine TR.reg ?_
        refine TL.seg0 1 [] [] [0, 64] [(0, vP tb 0), (64, vP tb 0)] (ap [z1] [T7]) [] [] (fun _ => by kernel_rfl) mn an ?_
        let z5 := beginM t 6 0 (travelM t M)
        refine TL.callT (τ := HL) [] [] (dst := (some 65)) (f := 45) (args := #[vP tb 0, vI 6, vI 0]) (A := [z1]) (Ts := [T7]) (E := []) (Ob := []) [0] [] [0] [] [0] [z1] [] [T7] [] (fun _ => [z1]) (fun x => [x]) (fun v x => MemH mb z5 (k + 1) x) (fun v_ => [(0, vP tb 0)]) (fun _ => by kernel_rfl) mn an (by kernel_rfl) (by kernel_rfl) (by kernel_rfl) (by kernel_rfl) (by kernel_rfl) (by kernel_rfl) (fun _ => by kernel_rfl) (begin_any t 6 0 tb mb (travelM t M) (k + 1) T7 _ hM8 hS.up ) ?_
        rintro _ T16 hM17
        refine TL.fin (by kernel_rfl) ?_
        refine EX.next ?_
        refine TR.reg ?_
        refine TL.seg0 4 [] [.own 0] [69] [(69, .iface 41 (vP mb 0))] (ap [z1] [T16]) [tb] [] (fun _ => by kernel_rfl) mn an ?_
        refine TL.callT (τ := HL) [] [] (dst := (some 70)) (f := 150) (args := #[vP mb 0, vI 5, vI 0]) (A := [z1]) (Ts := [T16]) (E := []) (Ob := []) [] [0] [0] [] [] [] [z1] [T16] [] (fun _ => []) (fun x => [x]) (fun _ x => MemH mb (z5.set 5 0) k x) (fun v_ => []) (fun _ => by kernel_rfl) mn an (by kernel_rfl) (by kernel_rfl) (by kernel_rfl) (by kernel_rfl) (by kernel_rfl) (by kernel_rfl) (fun _ => by kernel_rfl) (set_any 5 0 hM17) ?_
        rintro _ T18 hM19
        refine TL.fin (by kernel_rfl) ?_
        refine EX.fin (A := [z1]) (Ts := [T18]) rfl rfl [] [] (.tuple #[]) [] [] (fun _ => by kernel_rfl) mn an [0] [] [0] [] (ap [z1] [T18]) (by kernel_rfl) (by kernel_rfl) (by kernel_rfl) ?_
        refine ⟨T18, rfl, ?_⟩
        have e : (moveF t M) = ((beginM t 6 0 (travelM t M)).set 5 0) := by
          first | (simp only [moveF, moveA, if_neg h1, if_pos h6, if_neg h9]; done) | (simp only [moveF, moveA, if_neg h1, if_pos h6, if_neg h9]; rfl) | rfl
        rw [e]
        exact hM19.weak (by omega)
    · refine TR.no (b := decide z3) (by kernel_rfl) (by kernel_rfl) (decide_eq_false h6) ?_
      refine TR.skip ?_
      refine EX.next ?_
      refine TR.seq ?_
      refine TR.seq ?_
      refine TR.draw [] [] rfl (by kernel_rfl) ?_
      refine TD.vals [] (by kernel_rfl) [0, 5, 1, 6, 2, 7, 3, 8, 4, 9, 10, 11] [] [.own 0, .own 0] [0, 41] [true, true, true, true, true, true, true, true, true, true, true, true] [(0, vP tb 0), (41, .bool (decide (IntKind.i64.wrap (t.i + 1) < (t.S.nb : Int))))] [tb, tb] [] (by kernel_rfl) (by kernel_rfl) mn an 0 rfl ?_
      refine TD.fin (by kernel_rfl) (EX.np ?_)
      refine EX.next ?_
      rcases Decidable.em (IntKind.i64.wrap (t.i + 1) < (t.S.nb : Int)) with h20 | h20
      · refine TR.yes (b := decide (IntKind.i64.wrap (t.i + 1) < (t.S.nb : Int))) (by kernel_rfl) (by kernel_rfl) (decide_eq_true h20) ?_
        refine TR.seq ?_
        refine TR.draw [11] [] rfl (by kernel_rfl) ?_
        let z6 := IntKind.i64.wrap (t.i + 1)
        refine TD.vals [] (by kernel_rfl) [0, 4, 1, 5, 2, 6, 3, 7, 8, 9, 10] [] [.own 0, .own 0] [0, 50, 52] [true, true, true, true, true, true, true, true, true, true, true, false] [(0, vP tb 0), (50, vI z6), (52, .iface 41 (vP mb 0))] [tb, tb] [] (by kernel_rfl) (by kernel_rfl) mn an 1 rfl ?_
        refine TD.one 11 (by kernel_rfl) 0 rfl fun a_ hF_ hcl_ => ?_
        let z7 := M.set 2 z6
        refine OPJ.callT (τ := HL) [] [] (dst := (some 53)) (f := 150) (args := #[vP mb 0, vI 2, vI z6]) (A := [z1]) (Ts := [T]) (E := []) (Ob := []) [] [0] [0] [] [0] [] [z1] [T] [] (fun _ => []) (fun x => [x]) (fun _ x => MemH mb z7 (k + 7) x) (fun v_ => [(0, vP tb 0)]) (fun _ => by kernel_rfl) mn an (by kernel_rfl) (by kernel_rfl) (by kernel_rfl) (by kernel_rfl) (by kernel_rfl) (by kernel_rfl) (fun _ => by kernel_rfl) [] (.inl (by kernel_rfl)) (.inl (by decide)) (set_any 2 z6 hM) ?_ hF_ hcl_
        rintro _ T21 hM22
        refine TD.fin (by kernel_rfl) (EX.np ?_)
        refine EX.next ?_
        refine TR.seq ?_
        refine TR.reg ?_
        refine TL.seg0 4 [] [.own 0] [0, 57] [(0, vP tb 0), (57, .iface 41 (vP mb 0))] (ap [z1] [T21]) [tb] [] (fun _ => by kernel_rfl) mn an ?_
        refine TL.callT (τ := HL) [] [] (dst := (some 58)) (f := 150) (args := #[vP mb 0, vI 3, vI 0]) (A := [z1]) (Ts := [T21]) (E := []) (Ob := []) [] [0] [0] [] [0] [] [z1] [T21] [] (fun _ => []) (fun x => [x]) (fun _ x => MemH mb (z7.set 3 0) (k + 6) x) (fun v_ => [(0, vP tb 0)]) (fun _ => by kernel_rfl) mn an (by kernel_rfl) (by kernel_rfl) (by kernel_rfl) (by kernel_rfl) (by kernel_rfl) (by kernel_rfl) (fun _ => by kernel_rfl) (set_any 3 0 hM22) ?_
        rintro _ T23 hM24
        refine TL.fin (by kernel_rfl) ?_
        refine EX.next ?_
        refine TR.seq ?_
        refine TR.reg ?_
        refine TL.seg0 4 [] [.own 0] [62] [(62, .iface 41 (vP mb 0))] (ap [z1] [T23]) [tb] [] (fun _ => by kernel_rfl) mn an ?_
        refine TL.callT (τ := HL) [] [] (dst := (some 63)) (f := 150) (args := #[vP mb 0, vI 5, vI 1024]) (A := [z1]) (Ts := [T23]) (E := []) (Ob := []) [] [0] [0] [] [] [] [z1] [T23] [] (fun _ => []) (fun x => [x]) (fun _ x => MemH mb ((z7.set 3 0).set 5 1024) (k + 5) x) (fun v_ => []) (fun _ => by kernel_rfl) mn an (by kernel_rfl) (by kernel_rfl) (by kernel_rfl) (by kernel_rfl) (by kernel_rfl) (by kernel_rfl) (fun _ => by kernel_rfl) (set_any 5 1024 hM24) ?_
        rintro _ T25 hM26
        refine TL.fin (by kernel_rfl) ?_
        refine EX.next ?_
        refine TR.ret (A := [z1]) (Ts := [T25]) (by exact fun _ _ h => h) rfl rfl [] [] (.tuple #[]) [] [] (fun _ => by kernel_rfl) mn an [0] [] [0] [] (ap [z1] [T25]) (by kernel_rfl) (by kernel_rfl) (by kernel_rfl) ?_
        refine ⟨T25, rfl, ?_⟩
        have e : (moveF t M) = (((M.set 2 (IntKind.i64.wrap (t.i + 1))).set 3 0).set 5 1024) := by
          first | (simp only [moveF, moveA, if_neg h1, if_neg h6, if_pos h20]; done) | (simp only [moveF, moveA, if_neg h1, if_neg h6, if_pos h20]; rfl) | rfl
        rw [e]
        exact hM26.weak (by omega)
      · refine TR.no (b := decide (IntKind.i64.wrap (t.i + 1) < (t.S.nb : Int))) (by kernel_rfl) (by kernel_rfl) (decide_eq_false h20) ?_
        refine TR.skip ?_
        refine EX.next ?_
        refine TR.seq ?_
        refine TR.reg ?_
        refine TL.seg0 1 [] [] [0, 64] [(0, vP tb 0), (64, vP tb 0)] (ap [z1] [T]) [] [] (fun _ => by kernel_rfl) mn an ?_
        let z8 := beginM t 6 0 M
        refine TL.callT (τ := HL) [] [] (dst := (some 65)) (f := 45) (args := #[vP tb 0, vI 6, vI 0]) (A := [z1]) (Ts := [T]) (E := []) (Ob := []) [0] [] [0] [] [0] [z1] [] [T] [] (fun _ => [z1]) (fun x => [x]) (fun v x => MemH mb z8 (k + 5) x) (fun v_ => [(0, vP tb 0)]) (fun _ => by kernel_rfl) mn an (by kernel_rfl) (by kernel_rfl) (by kernel_rfl) (by kernel_rfl) (by kernel_rfl) (by kernel_rfl) (fun _ => by kernel_rfl) (begin_any t 6 0 tb mb M (k + 5) T _ hM hS.up ) ?_
        rintro _ T27 hM28
        refine TL.fin (by kernel_rfl) ?_
        refine EX.next ?_
        refine TR.reg ?_
        refine TL.seg0 4 [] [.own 0] [69] [(69, .iface 41 (vP mb 0))] (ap [z1] [T27]) [tb] [] (fun _ => by kernel_rfl) mn an ?_
        refine TL.callT (τ := HL) [] [] (dst := (some 70)) (f := 150) (args := #[vP mb 0, vI 5, vI 0]) (A := [z1]) (Ts := [T27]) (E := []) (Ob := []) [] [0] [0] [] [] [] [z1] [T27] [] (fun _ => []) (fun x => [x]) (fun _ x => MemH mb (z8.set 5 0) (k + 4) x) (fun v_ => []) (fun _ => by kernel_rfl) mn an (by kernel_rfl) (by kernel_rfl) (by kernel_rfl) (by kernel_rfl) (by kernel_rfl) (by kernel_rfl) (fun _ => by kernel_rfl) (set_any 5 0 hM28) ?_
        rintro _ T29 hM30
        refine TL.fin (by kernel_rfl) ?_
        refine EX.fin (A := [z1]) (Ts := [T29]) rfl rfl [] [] (.tuple #[]) [] [] (fun _ => by kernel_rfl) mn an [0] [] [0] [] (ap [z1] [T29]) (by kernel_rfl) (by kernel_rfl) (by kernel_rfl) ?_
        refine ⟨T29, rfl, ?_⟩
        have e : (moveF t M) = ((beginM t 6 0 M).set 5 0) := by
          first | (simp only [moveF, moveA, if_neg h1, if_neg h6, if_neg h20]; done) | (simp only [moveF, moveA, if_neg h1, if_neg h6, if_neg h20]; rfl) | rfl
        rw [e]
        exact hM30.weak (by omega)

set_option maxHeartbeats 400000 in
set_option maxRecDepth 100000 in
theorem next_any (i j n r : Int) (q1 q2 : Nat) (F : HL) (h1q : (q1, .lit [vI n] 3 (0, 0)) ∈ F) (h2q : (q2, .lit [vI r] 3 (0, 0)) ∈ F) : Sp Tryz.prog 51 #[vI i, vI j, vP q1 0, vP q2 0] [] F (fun u H' => u = .tuple #[vI ((nextI i j n r).1), vI ((nextI i j n r).2.1), vI ((nextI i j n r).2.2)] ∧ H' = []) := by
  refine Sp.of_body Tryz.func51 rfl rfl rfl [(0, vI i), (1, vI j), (2, vP q1 0), (3, vP q2 0)] rfl ?_
  intro w0
  refine TR.convH (ap [] []) rfl ?_
  refine TR.seq ?_
  refine TR.reg ?_
  refine TL.seg0 3 [] [] [0, 1, 2, 3] [(0, vI i), (1, vI j), (2, vP q1 0), (3, vP q2 0)] (ap [] []) [] [] (fun _ => by kernel_rfl) mn an ?_
  refine TL.fin (by kernel_rfl) ?_
  refine EX.next ?_
  refine TR.seq ?_
  refine TR.block ?_
  refine TR.seq ?_
  refine TR.reg ?_
  let z1 : Nat × Blk := (q1, .lit [vI n] 3 (0, 0))
  refine TL.seg0 5 [z1] [.ro 0] [0, 1, 2, 3, 9] [(0, vI i), (1, vI j), (2, vP q1 0), (3, vP q2 0), (9, .bool (decide (IntKind.i64.wrap (j + 1) < n)))] (ap [] []) [q1] [] (fun _ => by kernel_rfl) (mc h1q mn) an ?_
  refine TL.fin (by kernel_rfl) ?_
  refine EX.next ?_
  rcases Decidable.em (IntKind.i64.wrap (j + 1) < n) with h1 | h1
  · refine TR.yes (b := decide (IntKind.i64.wrap (j + 1) < n)) (by kernel_rfl) (by kernel_rfl) (decide_eq_true h1) ?_
    refine TR.seq ?_
    refine TR.reg ?_
    refine TL.seg0 7 [(q2, .lit [vI r] 3 (0, 0))] [.ro 0] [6, 7, 8] [(6, vI r), (7, vI i), (8, vI (IntKind.i64.wrap (j + 1)))] (ap [] []) [q2] [] (fun _ => by kernel_rfl) (mc h2q mn) an ?_
    refine TL.fin (by kernel_rfl) ?_
    refine EX.next ?_
    refine TR.ret (A := []) (Ts := []) (by exact fun _ _ h => h) rfl rfl [] [] (.tuple #[vI r, vI i, vI (IntKind.i64.wrap (j + 1))]) [] [] (fun _ => by kernel_rfl) mn an [] [] [] [] [] (by kernel_rfl) (by kernel_rfl) (by kernel_rfl) ?_
    refine ⟨?_, rfl⟩
    simp only [nextI, if_pos h1]
  · refine TR.no (b := decide (IntKind.i64.wrap (j + 1) < n)) (by kernel_rfl) (by kernel_rfl) (decide_eq_false h1) ?_
    refine TR.seq ?_
    refine TR.reg ?_
    refine TL.seg0 5 [z1] [.ro 0] [0, 3, 18] [(0, vI i), (3, vP q2 0), (18, .bool (decide (IntKind.i64.wrap (i + 2) < n)))] (ap [] []) [q1] [] (fun _ => by kernel_rfl) (mc h1q mn) an ?_
    refine TL.fin (by kernel_rfl) ?_
    refine EX.next ?_
    rcases Decidable.em (IntKind.i64.wrap (i + 2) < n) with h2 | h2
    · refine TR.yes (b := decide (IntKind.i64.wrap (i + 2) < n)) (by kernel_rfl) (by kernel_rfl) (decide_eq_true h2) ?_
      refine TR.seq ?_
      refine TR.reg ?_
      refine TL.seg0 8 [(q2, .lit [vI r] 3 (0, 0))] [.ro 0] [6, 7, 8] [(6, vI r), (7, vI (IntKind.i64.wrap (i + 1))), (8, vI (IntKind.i64.wrap (i + 2)))] (ap [] []) [q2] [] (fun _ => by kernel_rfl) (mc h2q mn) an ?_
      refine TL.fin (by kernel_rfl) ?_
      refine EX.next ?_
      refine TR.ret (A := []) (Ts := []) (by exact fun _ _ h => h) rfl rfl [] [] (.tuple #[vI r, vI (IntKind.i64.wrap (i + 1)), vI (IntKind.i64.wrap (i + 2))]) [] [] (fun _ => by kernel_rfl) mn an [] [] [] [] [] (by kernel_rfl) (by kernel_rfl) (by kernel_rfl) ?_
      refine ⟨?_, rfl⟩
      simp only [nextI, if_neg h1, if_pos h2]
    · refine TR.no (b := decide (IntKind.i64.wrap (i + 2) < n)) (by kernel_rfl) (by kernel_rfl) (decide_eq_false h2) ?_
      refine TR.skip ?_
      refine EX.inn ?_
      refine EX.next ?_
      refine TR.seq ?_
      refine TR.reg ?_
      refine TL.seg0 5 [(q2, .lit [vI r] 3 (0, 0))] [.ro 0] [6, 7, 8] [(6, vI (IntKind.i64.wrap (r + 1))), (7, vI 0), (8, vI 1)] (ap [] []) [q2] [] (fun _ => by kernel_rfl) (mc h2q mn) an ?_
      refine TL.fin (by kernel_rfl) ?_
      refine EX.next ?_
      refine TR.ret (A := []) (Ts := []) (by exact fun _ _ h => h) rfl rfl [] [] (.tuple #[vI (IntKind.i64.wrap (r + 1)), vI 0, vI 1]) [] [] (fun _ => by kernel_rfl) mn an [] [] [] [] [] (by kernel_rfl) (by kernel_rfl) (by kernel_rfl) ?_
      refine ⟨?_, rfl⟩
      simp only [nextI, if_neg h1, if_neg h2]

set_option maxHeartbeats 4000000 in
set_option maxRecDepth 100000 in
theorem contact_full (t : Stp)  (tb mb : Nat) (M : MemS) (k : Nat) (T F : HL) (hM : MemH mb M (k + 14) T) (hS : SetIn F t.S)  : Sp Tryz.prog 33 #[vP tb 0] (ap [(tb, .lit (Stp.l t mb) 83 (0, 0))] [T]) F (fun u H' => ∃ x, H' = ap [(tb, .lit (Stp.l t mb) 83 (0, 0))] [x] ∧ (MemH mb (contactF t M) k x)) := by
  have hp := hS.pl
  have hn := hS.nb
  have hr := hS.room
  refine Sp.of_body Tryz.func33 rfl rfl rfl [(0, vP tb 0)] rfl ?_
  intro w0
  let z1 : Nat × Blk := (tb, .lit (Stp.l t mb) 83 (0, 0))
  refine TR.convH (ap [z1] [T]) rfl ?_
  refine TR.seq ?_
  refine TR.draw [13, 14] [] rfl (by kernel_rfl) ?_
  let z2 : Nat × Value := (12, vI (t.S.nb : Int))
  refine TD.vals [] (by kernel_rfl) [0, 6, 1, 7, 2, 8, 3, 9, 4, 5] [] [.own 0, .own 0] [0, 12, 16] [true, true, true, true, true, true, true, true, true, true, false, false, false, false, false] [(0, vP tb 0), z2, (16, .iface 41 (vP mb 0))] [tb, tb] [] (by kernel_rfl) (by kernel_rfl) mn an 5 rfl ?_
  let z3 : Nat × Value := (17, vI (M.get 4))
  refine TD.callv [] (by kernel_rfl) 10 [] [] (dst := (some 17)) (f := 28) (args := #[vP mb 0, vI 4]) (E := []) (Ob := []) [0, 12, 17] (vI (M.get 4)) [(0, vP tb 0), z2, z3] (by kernel_rfl) (by kernel_rfl) (by kernel_rfl) mn an (fun X_ => (get_any 4 hM (sub_apX 0 rfl))) (by kernel_rfl) 4 rfl ?_
  refine TD.haveK (σ := Nat × Nat) 0 [true, true, true, true, true, true, true, true, true, true, true, true, true, true, true] (fun (x : Nat × Nat) => match x with | ⟨n1, n2⟩ => [(0, vP tb 0), (2, vP (n1 + 0) 0), (3, vP (n2 + 0) 0)]) (fun (x : Nat × Nat) => match x with | ⟨n1, n2⟩ => (ap [((n2 + 0), .lit [vI (M.get 4)] 3 (0, 0)), ((n1 + 0), .lit [vI (t.S.nb : Int)] 3 (0, 0)), z1] [T])) ?_ ?_
  · rintro ⟨n1, n2⟩
    refine TD.fin (by kernel_rfl) (EX.np ?_)
    refine EX.next ?_
    refine TR.seq ?_
    refine TR.seq ?_
    refine TR.draw [] [] rfl (by kernel_rfl) ?_
    rcases Decidable.em ((t.S.nb : Int) < 2) with h3 | h3
    · refine TD.vals [] (by kernel_rfl) [0, 1, 2, 3, 4, 5, 6, 7, 8, 9, 10] [] [.own 1, .gd true, .gd true, .gd true, .gd true, .gd true, .gd true, .gd true, .gd true] [0, 2, 3, 28] [true, true, true, true, true, true, true, true, true, true, true] [(0, vP tb 0), (2, vP (n1 + 0) 0), (3, vP (n2 + 0) 0), (28, .bool true)] [(n1 + 0)] [(decide ((t.S.nb : Int) < 2)) = true, (decide ((t.S.nb : Int) < 2)) = true, (decide ((t.S.nb : Int) < 2)) = true, (decide ((t.S.nb : Int) < 2)) = true, (decide ((t.S.nb : Int) < 2)) = true, (decide ((t.S.nb : Int) < 2)) = true, (decide ((t.S.nb : Int) < 2)) = true, (decide ((t.S.nb : Int) < 2)) = true] (by kernel_rfl) (by kernel_rfl) mn (ac (decide_eq_true h3) (ac (decide_eq_true h3) (ac (decide_eq_true h3) (ac (decide_eq_true h3) (ac (decide_eq_true h3) (ac (decide_eq_true h3) (ac (decide_eq_true h3) (ac (decide_eq_true h3) an)))))))) 0 rfl ?_
      refine TD.fin (by kernel_rfl) (EX.np ?_)
      refine EX.next ?_
      refine TR.yes (by kernel_rfl) (by kernel_rfl) (rfl : true = true) ?_
      refine TR.seq ?_
      refine TR.reg ?_
      let z4 : Nat × Blk := ((n2 + 0), .lit [vI (M.get 4)] 3 (0, 0))
      let z5 : Nat × Blk := ((n1 + 0), .lit [vI (t.S.nb : Int)] 3 (0, 0))
      refine TL.seg0 1 [] [] [0, 29] [(0, vP tb 0), (29, vP tb 0)] (ap [z4, z5, z1] [T]) [] [] (fun _ => by kernel_rfl) mn an ?_
      let z6 := beginM t 5 0 M
      refine TL.callT (τ := HL) [] [] (dst := (some 30)) (f := 45) (args := #[vP tb 0, vI 5, vI 0]) (A := [z4, z5, z1]) (Ts := [T]) (E := []) (Ob := []) [2] [0, 1] [0] [] [0] [z1] [z4, z5] [T] [] (fun _ => [z1]) (fun x => [x]) (fun v x => MemH mb z6 (k + 11) x) (fun v_ => [(0, vP tb 0)]) (fun _ => by kernel_rfl) mn an (by kernel_rfl) (by kernel_rfl) (by kernel_rfl) (by kernel_rfl) (by kernel_rfl) (by kernel_rfl) (fun _ => by kernel_rfl) (begin_any t 5 0 tb mb M (k + 11) T _ hM hS.up ) ?_
      rintro _ T4 hM5
      refine TL.fin (by kernel_rfl) ?_
      refine EX.next ?_
      refine TR.seq ?_
      refine TR.reg ?_
      refine TL.seg0 4 [] [.own 0] [34] [(34, .iface 41 (vP mb 0))] (ap [z1, z4, z5] [T4]) [tb] [] (fun _ => by kernel_rfl) mn an ?_
      refine TL.callT (τ := HL) [] [] (dst := (some 35)) (f := 150) (args := #[vP mb 0, vI 5, vI 1024]) (A := [z1, z4, z5]) (Ts := [T4]) (E := []) (Ob := []) [] [0, 1, 2] [0] [] [] [] [z1, z4, z5] [T4] [] (fun _ => []) (fun x => [x]) (fun _ x => MemH mb (z6.set 5 1024) (k + 10) x) (fun v_ => []) (fun _ => by kernel_rfl) mn an (by kernel_rfl) (by kernel_rfl) (by kernel_rfl) (by kernel_rfl) (by kernel_rfl) (by kernel_rfl) (fun _ => by kernel_rfl) (set_any 5 1024 hM5) ?_
      rintro _ T6 hM7
      refine TL.fin (by kernel_rfl) ?_
      refine EX.next ?_
      refine TR.ret (A := [z1, z4, z5]) (Ts := [T6]) (by exact fun _ _ h => h) rfl rfl [] [] (.tuple #[]) [] [] (fun _ => by kernel_rfl) mn an [0] [1, 2] [0] [] (ap [z1] [T6]) (by kernel_rfl) (by kernel_rfl) (by kernel_rfl) ?_
      refine ⟨T6, rfl, ?_⟩
      have e : (contactF t M) = ((beginM t 5 0 M).set 5 1024) := by
        first | (simp only [contactF, if_pos h3]; done) | (simp only [contactF, if_pos h3]; rfl) | rfl
      rw [e]
      exact hM7.weak (by omega)
    · let z7 : Nat × Value := (2, vP (n1 + 0) 0)
      let z8 : Nat × Value := (3, vP (n2 + 0) 0)
      refine TD.vals [] (by kernel_rfl) [0, 1, 2, 3, 4, 5, 6, 7, 8, 9, 10] [] [.own 1, .gd false, .own 0, .gd false, .gd false, .gd false, .gd false, .gd false, .own 2, .gd false, .gd false] [0, 2, 3, 28] [true, true, true, true, true, true, true, true, true, true, true] [(0, vP tb 0), z7, z8, (28, .bool (decide (M.get 4 ≥ t.S.rounds)))] [tb, (n2 + 0), (n1 + 0)] [(decide ((t.S.nb : Int) < 2)) = false, (decide ((t.S.nb : Int) < 2)) = false, (decide ((t.S.nb : Int) < 2)) = false, (decide ((t.S.nb : Int) < 2)) = false, (decide ((t.S.nb : Int) < 2)) = false, (decide ((t.S.nb : Int) < 2)) = false, (decide ((t.S.nb : Int) < 2)) = false, (decide ((t.S.nb : Int) < 2)) = false] (by kernel_rfl) (by kernel_rfl) mn (ac (decide_eq_false h3) (ac (decide_eq_false h3) (ac (decide_eq_false h3) (ac (decide_eq_false h3) (ac (decide_eq_false h3) (ac (decide_eq_false h3) (ac (decide_eq_false h3) (ac (decide_eq_false h3) an)))))))) 0 rfl ?_
      refine TD.fin (by kernel_rfl) (EX.np ?_)
      refine EX.next ?_
      rcases Decidable.em (M.get 4 ≥ t.S.rounds) with h8 | h8
      · refine TR.yes (b := decide (M.get 4 ≥ t.S.rounds)) (by kernel_rfl) (by kernel_rfl) (decide_eq_true h8) ?_
        refine TR.seq ?_
        refine TR.reg ?_
        let z9 : Nat × Blk := ((n2 + 0), .lit [vI (M.get 4)] 3 (0, 0))
        let z10 : Nat × Blk := ((n1 + 0), .lit [vI (t.S.nb : Int)] 3 (0, 0))
        refine TL.seg0 1 [] [] [0, 29] [(0, vP tb 0), (29, vP tb 0)] (ap [z9, z10, z1] [T]) [] [] (fun _ => by kernel_rfl) mn an ?_
        let z11 := beginM t 5 0 M
        refine TL.callT (τ := HL) [] [] (dst := (some 30)) (f := 45) (args := #[vP tb 0, vI 5, vI 0]) (A := [z9, z10, z1]) (Ts := [T]) (E := []) (Ob := []) [2] [0, 1] [0] [] [0] [z1] [z9, z10] [T] [] (fun _ => [z1]) (fun x => [x]) (fun v x => MemH mb z11 (k + 11) x) (fun v_ => [(0, vP tb 0)]) (fun _ => by kernel_rfl) mn an (by kernel_rfl) (by kernel_rfl) (by kernel_rfl) (by kernel_rfl) (by kernel_rfl) (by kernel_rfl) (fun _ => by kernel_rfl) (begin_any t 5 0 tb mb M (k + 11) T _ hM hS.up ) ?_
        rintro _ T9 hM10
        refine TL.fin (by kernel_rfl) ?_
        refine EX.next ?_
        refine TR.seq ?_
        refine TR.reg ?_
        refine TL.seg0 4 [] [.own 0] [34] [(34, .iface 41 (vP mb 0))] (ap [z1, z9, z10] [T9]) [tb] [] (fun _ => by kernel_rfl) mn an ?_
        refine TL.callT (τ := HL) [] [] (dst := (some 35)) (f := 150) (args := #[vP mb 0, vI 5, vI 1024]) (A := [z1, z9, z10]) (Ts := [T9]) (E := []) (Ob := []) [] [0, 1, 2] [0] [] [] [] [z1, z9, z10] [T9] [] (fun _ => []) (fun x => [x]) (fun _ x => MemH mb (z11.set 5 1024) (k + 10) x) (fun v_ => []) (fun _ => by kernel_rfl) mn an (by kernel_rfl) (by kernel_rfl) (by kernel_rfl) (by kernel_rfl) (by kernel_rfl) (by kernel_rfl) (fun _ => by kernel_rfl) (set_any 5 1024 hM10) ?_
        rintro _ T11 hM12
        refine TL.fin (by kernel_rfl) ?_
        refine EX.next ?_
        refine TR.ret (A := [z1, z9, z10]) (Ts := [T11]) (by exact fun _ _ h => h) rfl rfl [] [] (.tuple #[]) [] [] (fun _ => by kernel_rfl) mn an [0] [1, 2] [0] [] (ap [z1] [T11]) (by kernel_rfl) (by kernel_rfl) (by kernel_rfl) ?_
        refine ⟨T11, rfl, ?_⟩
        have e : (contactF t M) = ((beginM t 5 0 M).set 5 1024) := by
          first | (simp only [contactF, if_neg h3, if_pos h8]; done) | (simp only [contactF, if_neg h3, if_pos h8]; rfl) | rfl
        rw [e]
        exact hM12.weak (by omega)
      · refine TR.no (b := decide (M.get 4 ≥ t.S.rounds)) (by kernel_rfl) (by kernel_rfl) (decide_eq_false h8) ?_
        refine TR.skip ?_
        refine EX.next ?_
        refine TR.seq ?_
        refine TR.reg ?_
        let z12 : Nat × Blk := ((n2 + 0), .lit [vI (M.get 4)] 3 (0, 0))
        let z13 : Nat × Blk := ((n1 + 0), .lit [vI (t.S.nb : Int)] 3 (0, 0))
        refine TL.seg0 1 [] [] [0, 2, 3, 36] [(0, vP tb 0), z7, z8, (36, vP tb 0)] (ap [z12, z13, z1] [T]) [] [] (fun _ => by kernel_rfl) mn an ?_
        refine TL.callT (τ := HL) [] [] (dst := (some 37)) (f := 50) (args := #[vP tb 0]) (A := [z12, z13, z1]) (Ts := [T]) (E := []) (Ob := []) [2] [0, 1] [0] [] [0, 2, 3] [z1] [z12, z13] [T] [] (fun _ => [z1]) (fun x => [x]) (fun v x => MemH mb (touchF t M) (k + 4) x) (fun v_ => [(0, vP tb 0), z7, z8]) (fun _ => by kernel_rfl) mn an (by kernel_rfl) (by kernel_rfl) (by kernel_rfl) (by kernel_rfl) (by kernel_rfl) (by kernel_rfl) (fun _ => by kernel_rfl) (touch_full t tb mb M (k + 4) T _ hM hS.up ) ?_
        rintro _ T13 hM14
        refine TL.fin (by kernel_rfl) ?_
        refine EX.next ?_
        refine TR.seq ?_
        refine TR.reg ?_
        refine TL.seg0 2 [] [] [0, 3, 4] [(0, vP tb 0), z8, (4, .func (.func 51) #[] #[vP (n1 + 0) 0, vP (n2 + 0) 0])] (ap [z1, z12, z13] [T13]) [] [] (fun _ => by kernel_rfl) mn an ?_
        refine TL.fin (by kernel_rfl) ?_
        refine EX.next ?_
        refine TR.seq ?_
        refine TR.draw [14] [z1, z13] rfl (by kernel_rfl) ?_
        refine TD.vals [0, 2] (by kernel_rfl) [0, 1, 5, 2, 6, 3, 7, 4, 8] [] [.own 0, .own 0] [0, 3, 40, 44, 48] [true, true, true, true, true, true, true, true, true, false, false, false, false, false, false, false, false] [(0, vP tb 0), z8, (40, .func (.func 51) #[] #[vP (n1 + 0) 0, vP (n2 + 0) 0]), (44, vI t.i), (48, vI t.j)] [tb, tb] [] (by kernel_rfl) (by kernel_rfl) mn an 8 rfl ?_
        let z14 := nextI t.i t.j (t.S.nb : Int) (M.get 4)
        refine TD.callv [0, 2] (by kernel_rfl) 9 [] [] (dst := (some 49)) (f := 51) (args := #[vI t.i, vI t.j, vP (n1 + 0) 0, vP (n2 + 0) 0]) (E := []) (Ob := []) [0, 3, 49] (.tuple #[vI (z14.1), vI (z14.2.1), vI (z14.2.2)]) [(0, vP tb 0), z8, (49, .tuple #[vI (z14.1), vI (z14.2.1), vI (z14.2.2)])] (by kernel_rfl) (by kernel_rfl) (by kernel_rfl) mn an (fun X_ => (next_any t.i t.j (t.S.nb : Int) (M.get 4) (n1 + 0) (n2 + 0) _ (in_apX 2 rfl) (in_apX 1 rfl))) (by kernel_rfl) 7 rfl ?_
        let z15 : Nat × Value := (51, vI (z14.2.1))
        let z16 : Nat × Value := (52, vI (z14.2.2))
        refine TD.vals [0, 2] (by kernel_rfl) [10, 11, 12, 13] [] [] [0, 3, 50, 51, 52] [true, true, true, true, true, true, true, true, true, true, true, true, true, true, false, false, false] [(0, vP tb 0), z8, (50, vI (z14.1)), z15, z16] [] [] (by kernel_rfl) (by kernel_rfl) mn an 3 rfl ?_
        refine TD.one 14 (by kernel_rfl) 2 rfl fun a_ hF_ hcl_ => ?_
        let z17 : Nat × Blk := ((n2 + 0), .lit [vI (z14.1)] 3 (0, 0))
        refine OPJ.ev [] [.own 1] [0, 3, 51, 52] (fun _ => [(0, vP tb 0), z8, z15, z16]) (fun _ => (ap [z1, z17, z13] [T13])) (fun _ => [(n2 + 0)]) (fun _ => []) (fun _ => by kernel_rfl) mn (fun _ => an) (.inl ⟨[0, 2], fun _ => by kernel_rfl⟩) (.inl (by decide)) (fun _ => ?_) hF_ hcl_
        let z18 : Nat × Value := (5, vI (z14.2.1))
        let z19 : Nat × Value := (6, vI (z14.2.2))
        refine TD.vals [0, 2] (by kernel_rfl) [15, 16] [] [] [0, 3, 5, 6] [true, true, true, true, true, true, true, true, true, true, true, true, true, true, true, true, true] [(0, vP tb 0), z8, z18, z19] [] [] (by kernel_rfl) (by kernel_rfl) mn an 0 rfl ?_
        refine TD.fin (by kernel_rfl) (EX.np ?_)
        refine EX.next ?_
        refine TR.seq ?_
        refine TR.draw [5] [] rfl (by kernel_rfl) ?_
        refine TD.vals [] (by kernel_rfl) [0, 4, 1, 2, 3] [] [.own 1, .own 0] [0, 5, 6, 56, 57] [true, true, true, true, true, false] [(0, vP tb 0), z18, z19, (56, .iface 41 (vP mb 0)), (57, vI (z14.1))] [tb, (n2 + 0)] [] (by kernel_rfl) (by kernel_rfl) mn an 1 rfl ?_
        refine TD.one 5 (by kernel_rfl) 0 rfl fun a_ hF_ hcl_ => ?_
        refine OPJ.callT (τ := HL) [] [] (dst := (some 58)) (f := 150) (args := #[vP mb 0, vI 4, vI (z14.1)]) (A := [z1, z17, z13]) (Ts := [T13]) (E := []) (Ob := []) [] [0, 1, 2] [0] [] [0, 5, 6] [] [z1, z17, z13] [T13] [] (fun _ => []) (fun x => [x]) (fun _ x => MemH mb ((touchF t M).set 4 (z14.1)) (k + 3) x) (fun v_ => [(0, vP tb 0), z18, z19]) (fun _ => by kernel_rfl) mn an (by kernel_rfl) (by kernel_rfl) (by kernel_rfl) (by kernel_rfl) (by kernel_rfl) (by kernel_rfl) (fun _ => by kernel_rfl) [] (.inl (by kernel_rfl)) (.inl (by decide)) (set_any 4 (z14.1) hM14) ?_ hF_ hcl_
        rintro _ T15 hM16
        refine TD.fin (by kernel_rfl) (EX.np ?_)
        refine EX.next ?_
        refine TR.seq ?_
        refine TR.reg ?_
        refine TL.seg0 5 [] [.own 0] [0, 6, 62, 63] [(0, vP tb 0), z19, (62, .iface 41 (vP mb 0)), (63, vI (z14.2.1))] (ap [z1, z17, z13] [T15]) [tb] [] (fun _ => by kernel_rfl) mn an ?_
        refine TL.callT (τ := HL) [] [] (dst := (some 64)) (f := 150) (args := #[vP mb 0, vI 2, vI (z14.2.1)]) (A := [z1, z17, z13]) (Ts := [T15]) (E := []) (Ob := []) [] [0, 1, 2] [0] [] [0, 6] [] [z1, z17, z13] [T15] [] (fun _ => []) (fun x => [x]) (fun _ x => MemH mb (((touchF t M).set 4 (z14.1)).set 2 (z14.2.1)) (k + 2) x) (fun v_ => [(0, vP tb 0), z19]) (fun _ => by kernel_rfl) mn an (by kernel_rfl) (by kernel_rfl) (by kernel_rfl) (by kernel_rfl) (by kernel_rfl) (by kernel_rfl) (fun _ => by kernel_rfl) (set_any 2 (z14.2.1) hM16) ?_
        rintro _ T17 hM18
        refine TL.fin (by kernel_rfl) ?_
        refine EX.next ?_
        refine TR.reg ?_
        refine TL.seg0 5 [] [.own 0] [68, 69] [(68, .iface 41 (vP mb 0)), (69, vI (z14.2.2))] (ap [z1, z17, z13] [T17]) [tb] [] (fun _ => by kernel_rfl) mn an ?_
        refine TL.callT (τ := HL) [] [] (dst := (some 70)) (f := 150) (args := #[vP mb 0, vI 3, vI (z14.2.2)]) (A := [z1, z17, z13]) (Ts := [T17]) (E := []) (Ob := []) [] [0, 1, 2] [0] [] [] [] [z1, z17, z13] [T17] [] (fun _ => []) (fun x => [x]) (fun _ x => MemH mb ((((touchF t M).set 4 (z14.1)).set 2 (z14.2.1)).set 3 (z14.2.2)) (k + 1) x) (fun v_ => []) (fun _ => by kernel_rfl) mn an (by kernel_rfl) (by kernel_rfl) (by kernel_rfl) (by kernel_rfl) (by kernel_rfl) (by kernel_rfl) (fun _ => by kernel_rfl) (set_any 3 (z14.2.2) hM18) ?_
        rintro _ T19 hM20
        refine TL.fin (by kernel_rfl) ?_
        refine EX.fin (A := [z1, z17, z13]) (Ts := [T19]) rfl rfl [] [] (.tuple #[]) [] [] (fun _ => by kernel_rfl) mn an [0] [1, 2] [0] [] (ap [z1] [T19]) (by kernel_rfl) (by kernel_rfl) (by kernel_rfl) ?_
        refine ⟨T19, rfl, ?_⟩
        have e : (contactF t M) = ((((touchF t M).set 4 ((nextI t.i t.j (t.S.nb : Int) (M.get 4)).1)).set 2 ((nextI t.i t.j (t.S.nb : Int) (M.get 4)).2.1)).set 3 ((nextI t.i t.j (t.S.nb : Int) (M.get 4)).2.2)) := by
          first | (simp only [contactF, if_neg h3, if_neg h8]; done) | (simp only [contactF, if_neg h3, if_neg h8]; rfl) | rfl
        rw [e]
        exact hM20.weak (by omega)
  · intro key21
    refine TD.two 11 12 (by kernel_rfl) 3 rfl (fun a_ hF_ hcl_ => ?_) (fun a_ hF_ hcl_ => ?_)
    · refine OPJ.ev [] [] [0, 2, 12, 17] (fun n22 => [(0, vP tb 0), (2, vP (n22 + 0) 0), z2, z3]) (fun n22 => (ap [((n22 + 0), .lit [vI 0] 3 (0, 0)), z1] [T])) (fun n22 => []) (fun n22 => []) (fun _ => by kernel_rfl) mn (fun n22 => an) (.inr ⟨by decide, fun n22 => ⟨[((n22 + 0), .lit [vI 0] 3 (0, 0))], rfl⟩⟩) (.inr fun n22 => ⟨[((n22 + 0), .lit [vI 0] 3 (0, 0))], rfl⟩) (fun n22 => ?_) hF_ hcl_
      refine TD.one 12 (by kernel_rfl) 2 rfl fun a_ hF_ hcl_ => ?_
      let z20 : Nat × Value := (2, vP (n22 + 0) 0)
      refine OPJ.ev [] [] [0, 2, 3, 12, 17] (fun n23 => [(0, vP tb 0), z20, (3, vP (n23 + 0) 0), z2, z3]) (fun n23 => (ap [((n23 + 0), .lit [vI 0] 3 (0, 0)), ((n22 + 0), .lit [vI 0] 3 (0, 0)), z1] [T])) (fun n23 => []) (fun n23 => []) (fun _ => by kernel_rfl) mn (fun n23 => an) (.inr ⟨by decide, fun n23 => ⟨[((n23 + 0), .lit [vI 0] 3 (0, 0))], rfl⟩⟩) (.inr fun n23 => ⟨[((n23 + 0), .lit [vI 0] 3 (0, 0))], rfl⟩) (fun n23 => ?_) hF_ hcl_
      refine TD.one 13 (by kernel_rfl) 1 rfl fun a_ hF_ hcl_ => ?_
      let z21 : Nat × Value := (3, vP (n23 + 0) 0)
      let z22 : Nat × Blk := ((n22 + 0), .lit [vI (t.S.nb : Int)] 3 (0, 0))
      refine OPJ.ev [] [.own 1] [0, 2, 3, 17] (fun _ => [(0, vP tb 0), z20, z21, z3]) (fun _ => (ap [((n23 + 0), .lit [vI 0] 3 (0, 0)), z22, z1] [T])) (fun _ => [(n22 + 0)]) (fun _ => []) (fun _ => by kernel_rfl) mn (fun _ => an) (.inl ⟨[], fun _ => by kernel_rfl⟩) (.inl (by decide)) (fun _ => ?_) hF_ hcl_
      refine TD.one 14 (by kernel_rfl) 0 rfl fun a_ hF_ hcl_ => ?_
      refine OPJ.ev [] [.own 0] [0, 2, 3] (fun _ => [(0, vP tb 0), z20, z21]) (fun _ => (ap [((n23 + 0), .lit [vI (M.get 4)] 3 (0, 0)), z22, z1] [T])) (fun _ => [(n23 + 0)]) (fun _ => []) (fun _ => by kernel_rfl) mn (fun _ => an) (.inl ⟨[], fun _ => by kernel_rfl⟩) (.inl (by decide)) (fun _ => ?_) hF_ hcl_
      exact TD.perm [0, 1, 2] (by kernel_rfl) (by kernel_rfl) (key21 ⟨n22, n23⟩)
    · refine OPJ.ev [] [] [0, 3, 12, 17] (fun n24 => [(0, vP tb 0), (3, vP (n24 + 0) 0), z2, z3]) (fun n24 => (ap [((n24 + 0), .lit [vI 0] 3 (0, 0)), z1] [T])) (fun n24 => []) (fun n24 => []) (fun _ => by kernel_rfl) mn (fun n24 => an) (.inr ⟨by decide, fun n24 => ⟨[((n24 + 0), .lit [vI 0] 3 (0, 0))], rfl⟩⟩) (.inr fun n24 => ⟨[((n24 + 0), .lit [vI 0] 3 (0, 0))], rfl⟩) (fun n24 => ?_) hF_ hcl_
      refine TD.one 11 (by kernel_rfl) 2 rfl fun a_ hF_ hcl_ => ?_
      let z23 : Nat × Value := (3, vP (n24 + 0) 0)
      let z24 : Nat × Blk := ((n24 + 0), .lit [vI 0] 3 (0, 0))
      refine OPJ.ev [] [] [0, 2, 3, 12, 17] (fun n25 => [(0, vP tb 0), (2, vP (n25 + 0) 0), z23, z2, z3]) (fun n25 => (ap [((n25 + 0), .lit [vI 0] 3 (0, 0)), z24, z1] [T])) (fun n25 => []) (fun n25 => []) (fun _ => by kernel_rfl) mn (fun n25 => an) (.inr ⟨by decide, fun n25 => ⟨[((n25 + 0), .lit [vI 0] 3 (0, 0))], rfl⟩⟩) (.inr fun n25 => ⟨[((n25 + 0), .lit [vI 0] 3 (0, 0))], rfl⟩) (fun n25 => ?_) hF_ hcl_
      refine TD.one 13 (by kernel_rfl) 1 rfl fun a_ hF_ hcl_ => ?_
      let z25 : Nat × Value := (2, vP (n25 + 0) 0)
      let z26 : Nat × Blk := ((n25 + 0), .lit [vI (t.S.nb : Int)] 3 (0, 0))
      refine OPJ.ev [] [.own 0] [0, 2, 3, 17] (fun _ => [(0, vP tb 0), z25, z23, z3]) (fun _ => (ap [z26, z24, z1] [T])) (fun _ => [(n25 + 0)]) (fun _ => []) (fun _ => by kernel_rfl) mn (fun _ => an) (.inl ⟨[], fun _ => by kernel_rfl⟩) (.inl (by decide)) (fun _ => ?_) hF_ hcl_
      refine TD.one 14 (by kernel_rfl) 0 rfl fun a_ hF_ hcl_ => ?_
      refine OPJ.ev [] [.own 1] [0, 2, 3] (fun _ => [(0, vP tb 0), z25, z23]) (fun _ => (ap [z26, ((n24 + 0), .lit [vI (M.get 4)] 3 (0, 0)), z1] [T])) (fun _ => [(n24 + 0)]) (fun _ => []) (fun _ => by kernel_rfl) mn (fun _ => an) (.inl ⟨[], fun _ => by kernel_rfl⟩) (.inl (by decide)) (fun _ => ?_) hF_ hcl_
      exact TD.perm [1, 0, 2] (by kernel_rfl) (by kernel_rfl) (key21 ⟨n25, n24⟩)
end Go.Proofs.YtpkincoclhpcgaaGreatDoor
