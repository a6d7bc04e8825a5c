/- Contracts, printed by a program. -/
import Derived.Test.YtpkincoclhpcgaaGreatDoorGg
namespace Go.Proofs.YtpkincoclhpcgaaGreatDoor
set_option linter.unusedSimpArgs false
set_option linter.unusedVariables false
open Go.RowKit
def restB (t : Stp) : Bool := if w64 (t.i + 1) < t.S.nb then t.ended else true
def restA (t : Stp) (M : MemS) : MemS := if bodyAt t.S t.i ≥ 0 then M.set (bodyAt t.S t.i + 7) (if M.get (bodyAt t.S t.i + 2) = 0 then if M.get (bodyAt t.S t.i + 3) = 0 then (if 1000 < w64 (M.get (bodyAt t.S t.i + 7) + 1) then 1000 else w64 (M.get (bodyAt t.S t.i + 7) + 1)) else 0 else 0) else M
def zeroTo (M : MemS) : Nat → MemS
  | 0 => M
  | n + 1 => (zeroTo M n).set ((n + 1 : Nat) : Int) 0
def restC (t : Stp) (M : MemS) : MemS := if w64 (t.i + 1) < t.S.nb then M.set 2 (w64 (t.i + 1)) else zeroTo (M.set 0 (w64 (M.get 0 + 1))) 10
def restM (t : Stp) (M : MemS) : MemS := restC t (restA t M)
def forceV (t : Stp) (M : MemS) : V2 := vscale (if playerAt t.S t.i ≥ 0 then vadd (vadd ⟨(motM t.S M t.i).vx, (motM t.S M t.i).vy⟩ t.S.g) ⟨w64 (M.get (playerAt t.S t.i + 0) * t.S.push), w64 (M.get (playerAt t.S t.i + 1) * t.S.push)⟩ else vadd ⟨(motM t.S M t.i).vx, (motM t.S M t.i).vy⟩ t.S.g) (w64 (1024 - t.S.drag))
def forceA (t : Stp) (M : MemS) : MemS := if bodyAt t.S t.i ≥ 0 then M.set (bodyAt t.S t.i + 6) 0 else M
def forceB (t : Stp) (M : MemS) : MemS := if movP t.S t.i then (M.set (bodyAt t.S t.i + 2) (clampI (forceV t M).x (-16384) 16384)).set (bodyAt t.S t.i + 3) (clampI (forceV t M).y (-16384) 16384) else M
def forceC (t : Stp) (M : MemS) : MemS := if w64 (t.i + 1) < t.S.nb then M.set 2 (w64 (t.i + 1)) else (beginM t 4 1 M).set 4 0
def forceM (t : Stp) (M : MemS) : MemS := forceC t (forceB t (forceA t M))
def travelF (M : MemS) : Int := if w64 (M.get 5 + 128) < 1024 then w64 (M.get 5 + 128) else 1024
def travelP (t : Stp) (M : MemS) : V2 := vadd ⟨(motM t.S M t.i).px, (motM t.S M t.i).py⟩ (vmuldiv ⟨(motM t.S M t.i).vx, (motM t.S M t.i).vy⟩ (travelF M) 1024)
def travelM (t : Stp) (M : MemS) : MemS := placeM t (bodyAt t.S t.i + 1) (bodyAt t.S t.i + 3) (travelP t M).y t.S.box.y0 t.S.box.y1 (placeM t (bodyAt t.S t.i + 0) (bodyAt t.S t.i + 2) (travelP t M).x t.S.box.x0 t.S.box.x1 M)

set_option maxHeartbeats 4000000 in
set_option maxRecDepth 100000 in
theorem force_any (t : Stp)  (tb mb : Nat) (M : MemS) (k : Nat) (T F : HL) (hM : MemH mb M (k + 8) T) (hS : SetIn F t.S)  : Sp Tryz.prog 32 #[vP tb 0] (ap [(tb, .lit (Stp.l t mb) 83 (0, 0))] [T]) F (fun u H' => ∃ x, H' = ap [(tb, .lit (Stp.l t mb) 83 (0, 0))] [x] ∧ (MemH mb (forceM t M) k x)) := by
  have hp := hS.pl
  have hn := hS.nb
  have hr := hS.room
  refine Sp.of_body Tryz.func32 rfl rfl rfl [(0, vP tb 0)] rfl ?_
  intro w0
  let z1 : Nat × Blk := (tb, .lit (Stp.l t mb) 83 (0, 0))
  refine TR.convH (ap [z1] [T]) rfl ?_
  refine TR.seq ?_
  refine TR.seq ?_
  refine TR.draw [] [] rfl (by kernel_rfl) ?_
  refine TD.vals [] (by kernel_rfl) [0, 4, 1, 5, 2, 6, 3, 7] [] [.own 0, .own 0, .own 0, .own 0, .own 0, .own 0, .own 0, .own 0, .own 0, .own 0, .own 0, .own 0, .own 0, .own 0, .own 0, .own 0, .own 0] [0, 12, 16] [true, true, true, true, true, true, true, true, false, false] [(0, vP tb 0), (12, (Setup.v t.S)), (16, vI t.i)] [tb, tb, tb, tb, tb, tb, tb, tb, tb, tb, tb, tb, tb, tb, tb, tb, tb] [] (by kernel_rfl) (by kernel_rfl) mn an 2 rfl ?_
  let z2 := bodyAt t.S t.i
  refine TD.callv [] (by kernel_rfl) 8 [] [] (dst := (some 17)) (f := 37) (args := #[(Setup.v t.S), vI t.i]) (E := []) (Ob := []) [0, 17] (vI z2) [(0, vP tb 0), (17, vI z2)] (by kernel_rfl) (by kernel_rfl) (by kernel_rfl) mn an (fun X_ => (lbody_any t.S t.i _ hS.toSetN)) (by kernel_rfl) 1 rfl ?_
  have hb1 := bodyAt_bd hS.toSetN t.i
  let z3 : Nat × Value := (2, vI z2)
  refine TD.vals [] (by kernel_rfl) [9] [] [] [0, 2] [true, true, true, true, true, true, true, true, true, true] [(0, vP tb 0), z3] [] [] (by kernel_rfl) (by kernel_rfl) mn an 0 rfl ?_
  refine TD.fin (by kernel_rfl) (EX.np ?_)
  refine EX.next ?_
  refine TR.seq ?_
  refine TR.reg ?_
  refine TL.seg0 2 [] [] [0, 2, 19] [(0, vP tb 0), z3, (19, .bool (decide (bodyAt t.S t.i ≥ 0)))] (ap [z1] [T]) [] [] (fun _ => by kernel_rfl) mn an ?_
  refine TL.fin (by kernel_rfl) ?_
  refine EX.next ?_
  rcases Decidable.em (bodyAt t.S t.i ≥ 0) with h2 | h2
  · refine TR.yes (b := decide (bodyAt t.S t.i ≥ 0)) (by kernel_rfl) (by kernel_rfl) (decide_eq_true h2) ?_
    refine TR.reg ?_
    let z4 := z2 + 6
    refine TL.seg0 6 [] [.own 0, .nw] [0, 23, 25] [(0, vP tb 0), (23, .iface 41 (vP mb 0)), (25, vI z4)] (ap [z1] [T]) [tb] [-9223372036854775808 ≤ (bodyAt t.S t.i) + 6 ∧ (bodyAt t.S t.i) + 6 ≤ 9223372036854775807] (fun _ => by kernel_rfl) mn (ac ⟨by omega, by omega⟩ an) ?_
    let z5 := M.set z4 0
    refine TL.callT (τ := HL) [] [] (dst := (some 26)) (f := 150) (args := #[vP mb 0, vI z4, vI 0]) (A := [z1]) (Ts := [T]) (E := []) (Ob := []) [] [0] [0] [] [0] [] [z1] [T] [] (fun _ => []) (fun x => [x]) (fun _ x => MemH mb z5 (k + 7) x) (fun v_ => [(0, vP tb 0)]) (fun _ => by kernel_rfl) mn an (by kernel_rfl) (by kernel_rfl) (by kernel_rfl) (by kernel_rfl) (by kernel_rfl) (by kernel_rfl) (fun _ => by kernel_rfl) (set_any z4 0 hM) ?_
    rintro _ T3 hM4
    refine TL.fin (by kernel_rfl) ?_
    refine EX.next ?_
    refine TR.seq ?_
    refine TR.seq ?_
    refine TR.reg ?_
    refine TL.seg0 5 [] [.own 0] [0, 27, 31] [(0, vP tb 0), (27, vP tb 0), (31, vI t.i)] (ap [z1] [T3]) [tb] [] (fun _ => by kernel_rfl) mn an ?_
    let z6 := movP t.S t.i
    refine TL.callp (dst := (some 32)) (f := 48) (args := #[vP tb 0, vI t.i]) (H1 := (ap [z1] [T3])) (E := []) (Ob := []) [] [] [0, 32] (.bool (decide z6)) [(0, vP tb 0), (32, .bool (decide z6))] (fun _ => by kernel_rfl) mn an (movable_any t t.i tb mb _ (in_ap 0 rfl) hS.up) (by kernel_rfl) ?_
    refine TL.fin (by kernel_rfl) ?_
    refine EX.next ?_
    rcases Decidable.em (movP t.S t.i) with h5 | h5
    · have := movP.has h5
      refine TR.yes (b := decide z6) (by kernel_rfl) (by kernel_rfl) (decide_eq_true h5) ?_
      refine TR.seq ?_
      refine TR.reg ?_
      refine TL.seg0 5 [] [.own 0] [0, 33, 37] [(0, vP tb 0), (33, vP tb 0), (37, vI t.i)] (ap [z1] [T3]) [tb] [] (fun _ => by kernel_rfl) mn an ?_
      let z7 := motM t.S z5 t.i
      refine TL.callp (dst := (some 38)) (f := 49) (args := #[vP tb 0, vI t.i]) (H1 := (ap [z1] [T3])) (E := []) (Ob := []) [] [] [0, 38] (.agg #[vI (z7.px), vI (z7.py), vI (z7.vx), vI (z7.vy), vI (z7.inv)]) [(0, vP tb 0), (38, .agg #[vI (z7.px), vI (z7.py), vI (z7.vx), vI (z7.vy), vI (z7.inv)])] (fun _ => by kernel_rfl) mn an (motion_any t t.i tb mb z5 _ T3 _ (in_ap 0 rfl) hS.up hM4 (sub_ap 0 rfl) (movP.has h5)) (by kernel_rfl) ?_
      let z8 : List Value := [vI (z7.px), vI (z7.py), vI (z7.vx), vI (z7.vy), vI (z7.inv)]
      refine TL.seg 2 [] [.own 0, .own 0, .own 0, .own 0, .own 0] [0, 3] (fun n6 => [(0, vP tb 0), (3, vP (n6 + 0) 0)]) (fun n6 => (ap [((n6 + 0), .lit z8 38 (0, 0)), z1] [T3])) (fun n6 => [(n6 + 0), (n6 + 0), (n6 + 0), (n6 + 0), (n6 + 0)]) (fun n6 => []) (fun _ => by kernel_rfl) mn (fun n6 => an) ?_
      intro n6
      refine TL.fin (by kernel_rfl) ?_
      refine EX.next ?_
      refine TR.seq ?_
      refine TR.draw [9] [] rfl (by kernel_rfl) ?_
      refine TD.vals [] (by kernel_rfl) [0, 2, 1, 3, 4, 5, 6] [] [.own 0, .own 0, .own 1, .own 1] [0, 40, 45] [true, true, true, true, true, true, true, false, false, false] [(0, vP tb 0), (40, .agg #[vI (z7.vx), vI (z7.vy)]), (45, .agg #[vI t.S.g.x, vI t.S.g.y])] [tb, tb, (n6 + 0), (n6 + 0)] [] (by kernel_rfl) (by kernel_rfl) mn an 3 rfl ?_
      let z9 := (⟨z7.vx, z7.vy⟩ : V2)
      let z10 := vadd z9 t.S.g
      let z11 : Nat × Value := (46, .agg #[vI (z10.x), vI (z10.y)])
      refine TD.callv [] (by kernel_rfl) 7 [] [] (dst := (some 46)) (f := 23) (args := #[.agg #[vI (z7.vx), vI (z7.vy)], .agg #[vI t.S.g.x, vI t.S.g.y]]) (E := []) (Ob := []) [0, 46] (.agg #[vI (z10.x), vI (z10.y)]) [(0, vP tb 0), z11] (by kernel_rfl) (by kernel_rfl) (by kernel_rfl) mn an (fun X_ => (vadd_any z9 t.S.g  _)) (by kernel_rfl) 2 rfl ?_
      refine TD.one 8 (by kernel_rfl) 1 rfl fun a_ hF_ hcl_ => ?_
      let z12 : Nat × Blk := ((n6 + 0), .lit z8 38 (0, 0))
      refine OPJ.ev [] [] [0, 4, 46] (fun n7 => [(0, vP tb 0), (4, vP (n7 + 0) 0), z11]) (fun n7 => (ap [((n7 + 0), .lit [vI 0, vI 0] 30 (0, 0)), z12, z1] [T3])) (fun n7 => []) (fun n7 => []) (fun _ => by kernel_rfl) mn (fun n7 => an) (.inr ⟨by decide, fun n7 => ⟨[((n7 + 0), .lit [vI 0, vI 0] 30 (0, 0))], rfl⟩⟩) (.inr fun n7 => ⟨[((n7 + 0), .lit [vI 0, vI 0] 30 (0, 0))], rfl⟩) (fun n7 => ?_) hF_ hcl_
      refine TD.one 9 (by kernel_rfl) 0 rfl fun a_ hF_ hcl_ => ?_
      let z13 : Nat × Value := (4, vP (n7 + 0) 0)
      let z14 : Nat × Blk := ((n7 + 0), .lit [vI (z10.x), vI (z10.y)] 30 (0, 0))
      refine OPJ.ev [] [.own 0, .own 0] [0, 4] (fun _ => [(0, vP tb 0), z13]) (fun _ => (ap [z14, z12, z1] [T3])) (fun _ => [(n7 + 0), (n7 + 0)]) (fun _ => []) (fun _ => by kernel_rfl) mn (fun _ => an) (.inl ⟨[], fun _ => by kernel_rfl⟩) (.inl (by decide)) (fun _ => ?_) hF_ hcl_
      refine TD.fin (by kernel_rfl) (EX.np ?_)
      refine EX.next ?_
      refine TR.seq ?_
      refine TR.seq ?_
      refine TR.draw [] [] rfl (by kernel_rfl) ?_
      refine TD.vals [] (by kernel_rfl) [0, 4, 1, 5, 2, 6, 3, 7] [] [.own 2, .own 2, .own 2, .own 2, .own 2, .own 2, .own 2, .own 2, .own 2, .own 2, .own 2, .own 2, .own 2, .own 2, .own 2, .own 2, .own 2] [0, 4, 50, 54] [true, true, true, true, true, true, true, true, false, false] [(0, vP tb 0), z13, (50, (Setup.v t.S)), (54, vI t.i)] [tb, tb, tb, tb, tb, tb, tb, tb, tb, tb, tb, tb, tb, tb, tb, tb, tb] [] (by kernel_rfl) (by kernel_rfl) mn an 2 rfl ?_
      let z15 := playerAt t.S t.i
      refine TD.callv [] (by kernel_rfl) 8 [] [] (dst := (some 55)) (f := 44) (args := #[(Setup.v t.S), vI t.i]) (E := []) (Ob := []) [0, 4, 55] (vI z15) [(0, vP tb 0), z13, (55, vI z15)] (by kernel_rfl) (by kernel_rfl) (by kernel_rfl) mn an (fun X_ => (lplayer_any t.S t.i _ hS.toSetN)) (by kernel_rfl) 1 rfl ?_
      have hb8 := playerAt_bd hS.toSetN t.i
      let z16 : Nat × Value := (5, vI z15)
      refine TD.vals [] (by kernel_rfl) [9] [] [] [0, 4, 5] [true, true, true, true, true, true, true, true, true, true] [(0, vP tb 0), z13, z16] [] [] (by kernel_rfl) (by kernel_rfl) mn an 0 rfl ?_
      refine TD.fin (by kernel_rfl) (EX.np ?_)
      refine EX.next ?_
      refine TR.seq ?_
      refine TR.reg ?_
      refine TL.seg0 2 [] [] [0, 4, 5, 57] [(0, vP tb 0), z13, z16, (57, .bool (decide (playerAt t.S t.i ≥ 0)))] (ap [z14, z12, z1] [T3]) [] [] (fun _ => by kernel_rfl) mn an ?_
      refine TL.fin (by kernel_rfl) ?_
      refine EX.next ?_
      rcases Decidable.em (playerAt t.S t.i ≥ 0) with h9 | h9
      · refine TR.yes (b := decide (playerAt t.S t.i ≥ 0)) (by kernel_rfl) (by kernel_rfl) (decide_eq_true h9) ?_
        refine TR.seq ?_
        refine TR.draw [] [] rfl (by kernel_rfl) ?_
        let z17 := z15 + 0
        let z18 : Nat × Value := (68, .iface 41 (vP mb 0))
        let z19 := z15 + 1
        let z20 : Nat × Value := (70, vI z19)
        refine TD.vals [] (by kernel_rfl) [0, 4, 7, 11, 1, 5, 8, 12, 2, 9, 3, 10] [] [.nw, .nw, .own 2, .own 2] [0, 4, 61, 63, 68, 70] [true, true, true, true, true, true, false, true, true, true, true, true, true, false, false, false] [(0, vP tb 0), z13, (61, .iface 41 (vP mb 0)), (63, vI z17), z18, z20] [tb, tb] [-9223372036854775808 ≤ (playerAt t.S t.i) + 1 ∧ (playerAt t.S t.i) + 1 ≤ 9223372036854775807, -9223372036854775808 ≤ (playerAt t.S t.i) + 0 ∧ (playerAt t.S t.i) + 0 ≤ 9223372036854775807] (by kernel_rfl) (by kernel_rfl) mn (ac ⟨by omega, by omega⟩ (ac ⟨by omega, by omega⟩ an)) 4 rfl ?_
        let z21 : Nat × Value := (64, vI (z5.get z17))
        refine TD.callv [] (by kernel_rfl) 6 [] [] (dst := (some 64)) (f := 28) (args := #[vP mb 0, vI z17]) (E := []) (Ob := []) [0, 4, 64, 68, 70] (vI (z5.get z17)) [(0, vP tb 0), z13, z21, z18, z20] (by kernel_rfl) (by kernel_rfl) (by kernel_rfl) mn an (fun X_ => (get_any z17 hM4 (sub_apX 0 rfl))) (by kernel_rfl) 3 rfl ?_
        refine TD.callv [] (by kernel_rfl) 13 [] [] (dst := (some 71)) (f := 28) (args := #[vP mb 0, vI z19]) (E := []) (Ob := []) [0, 4, 64, 71] (vI (z5.get z19)) [(0, vP tb 0), z13, z21, (71, vI (z5.get z19))] (by kernel_rfl) (by kernel_rfl) (by kernel_rfl) mn an (fun X_ => (get_any z19 hM4 (sub_apX 0 rfl))) (by kernel_rfl) 2 rfl ?_
        refine TD.vals [] (by kernel_rfl) [14, 15] [] [] [0, 4, 6, 7] [true, true, true, true, true, true, true, true, true, true, true, true, true, true, true, true] [(0, vP tb 0), z13, (6, vI (z5.get z17)), (7, vI (z5.get z19))] [] [] (by kernel_rfl) (by kernel_rfl) mn an 0 rfl ?_
        refine TD.fin (by kernel_rfl) (EX.np ?_)
        refine EX.next ?_
        refine TR.draw [17] [] rfl (by kernel_rfl) ?_
        let z22 := (z5.get z17) * t.S.push
        let z23 := IntKind.i64.wrap z22
        let z24 := (z5.get z19) * t.S.push
        let z25 := IntKind.i64.wrap z24
        refine TD.vals [] (by kernel_rfl) [0, 1, 2, 8, 9, 3, 10, 4, 11, 5, 12, 6, 13, 7, 14, 15] [] [.own 0, .own 0, .own 2, .own 2] [0, 4, 72, 87] [true, true, true, true, true, true, true, true, true, true, true, true, true, true, true, true, false, false] [(0, vP tb 0), z13, (72, .agg #[vI (z10.x), vI (z10.y)]), (87, .agg #[vI z23, vI z25])] [tb, tb, (n7 + 0), (n7 + 0)] [] (by kernel_rfl) (by kernel_rfl) mn an 2 rfl ?_
        let z26 := (⟨IntKind.i64.wrap z22, IntKind.i64.wrap z24⟩ : V2)
        let z27 := vadd z10 z26
        refine TD.callv [] (by kernel_rfl) 16 [] [] (dst := (some 88)) (f := 23) (args := #[.agg #[vI (z10.x), vI (z10.y)], .agg #[vI z23, vI z25]]) (E := []) (Ob := []) [0, 4, 88] (.agg #[vI (z27.x), vI (z27.y)]) [(0, vP tb 0), z13, (88, .agg #[vI (z27.x), vI (z27.y)])] (by kernel_rfl) (by kernel_rfl) (by kernel_rfl) mn an (fun X_ => (vadd_any z10 z26  _)) (by kernel_rfl) 1 rfl ?_
        refine TD.one 17 (by kernel_rfl) 0 rfl fun a_ hF_ hcl_ => ?_
        refine OPJ.ev [] [.own 0, .own 0] [0, 4] (fun _ => [(0, vP tb 0), z13]) (fun _ => (ap [((n7 + 0), .lit [vI (z27.x), vI (z27.y)] 30 (0, 0)), z12, z1] [T3])) (fun _ => [(n7 + 0), (n7 + 0)]) (fun _ => []) (fun _ => by kernel_rfl) mn (fun _ => an) (.inl ⟨[], fun _ => by kernel_rfl⟩) (.inl (by decide)) (fun _ => ?_) hF_ hcl_
        refine TD.fin (by kernel_rfl) (EX.np ?_)
        refine EX.next ?_
        refine TR.seq ?_
        refine TR.draw [8] [] rfl (by kernel_rfl) ?_
        let z28 := IntKind.i64.wrap (1024 - t.S.drag)
        refine TD.vals [] (by kernel_rfl) [0, 1, 2, 3, 4, 5, 6] [] [.own 0, .own 0, .own 2] [0, 4, 89, 95] [true, true, true, true, true, true, true, false, false] [(0, vP tb 0), z13, (89, .agg #[vI (z27.x), vI (z27.y)]), (95, vI z28)] [tb, (n7 + 0), (n7 + 0)] [] (by kernel_rfl) (by kernel_rfl) mn an 2 rfl ?_
        let z29 := vscale z27 z28
        refine TD.callv [] (by kernel_rfl) 7 [] [] (dst := (some 96)) (f := 24) (args := #[.agg #[vI (z27.x), vI (z27.y)], vI z28]) (E := []) (Ob := []) [0, 4, 96] (.agg #[vI (z29.x), vI (z29.y)]) [(0, vP tb 0), z13, (96, .agg #[vI (z29.x), vI (z29.y)])] (by kernel_rfl) (by kernel_rfl) (by kernel_rfl) mn an (fun X_ => (vscale_any z27 z28  _)) (by kernel_rfl) 1 rfl ?_
        refine TD.one 8 (by kernel_rfl) 0 rfl fun a_ hF_ hcl_ => ?_
        let z30 : Nat × Blk := ((n7 + 0), .lit [vI (z29.x), vI (z29.y)] 30 (0, 0))
        refine OPJ.ev [] [.own 0, .own 0] [0, 4] (fun _ => [(0, vP tb 0), z13]) (fun _ => (ap [z30, z12, z1] [T3])) (fun _ => [(n7 + 0), (n7 + 0)]) (fun _ => []) (fun _ => by kernel_rfl) mn (fun _ => an) (.inl ⟨[], fun _ => by kernel_rfl⟩) (.inl (by decide)) (fun _ => ?_) hF_ hcl_
        refine TD.fin (by kernel_rfl) (EX.np ?_)
        refine EX.next ?_
        refine TR.seq ?_
        refine TR.draw [] [] rfl (by kernel_rfl) ?_
        refine TD.vals [] (by kernel_rfl) [0, 4, 1, 5, 2, 6, 3, 7] [] [.own 2, .own 2, .own 2, .own 2, .own 2, .own 2, .own 2, .own 2, .own 2, .own 2, .own 2, .own 2, .own 2, .own 2, .own 2, .own 2, .own 2] [0, 4, 100, 104] [true, true, true, true, true, true, true, true, false, false] [(0, vP tb 0), z13, (100, (Setup.v t.S)), (104, vI t.i)] [tb, tb, tb, tb, tb, tb, tb, tb, tb, tb, tb, tb, tb, tb, tb, tb, tb] [] (by kernel_rfl) (by kernel_rfl) mn an 2 rfl ?_
        refine TD.callv [] (by kernel_rfl) 8 [] [] (dst := (some 105)) (f := 37) (args := #[(Setup.v t.S), vI t.i]) (E := []) (Ob := []) [0, 4, 105] (vI z2) [(0, vP tb 0), z13, (105, vI z2)] (by kernel_rfl) (by kernel_rfl) (by kernel_rfl) mn an (fun X_ => (lbody_any t.S t.i _ hS.toSetN)) (by kernel_rfl) 1 rfl ?_
        have hb10 := bodyAt_bd hS.toSetN t.i
        let z31 : Nat × Value := (8, vI z2)
        refine TD.vals [] (by kernel_rfl) [9] [] [] [0, 4, 8] [true, true, true, true, true, true, true, true, true, true] [(0, vP tb 0), z13, z31] [] [] (by kernel_rfl) (by kernel_rfl) mn an 0 rfl ?_
        refine TD.fin (by kernel_rfl) (EX.np ?_)
        refine EX.next ?_
        refine TR.seq ?_
        refine TR.draw [11] [] rfl (by kernel_rfl) ?_
        let z32 := z2 + 2
        let z33 : Nat × Value := (111, vI z32)
        let z34 : Nat × Value := (116, .iface 41 (vP mb 0))
        refine TD.vals [] (by kernel_rfl) [0, 4, 6, 1, 5, 7, 2, 3, 9, 10] [] [.nw, .own 0, .own 2] [0, 4, 8, 111, 113, 116] [true, true, true, true, true, true, true, true, false, true, true, false] [(0, vP tb 0), z13, z31, z33, (113, vI (z29.x)), z34] [tb, (n7 + 0)] [-9223372036854775808 ≤ (bodyAt t.S t.i) + 2 ∧ (bodyAt t.S t.i) + 2 ≤ 9223372036854775807] (by kernel_rfl) (by kernel_rfl) mn (ac ⟨by omega, by omega⟩ an) 2 rfl ?_
        let z35 := clampI (z29.x) (-16384) 16384
        refine TD.callv [] (by kernel_rfl) 8 [] [] (dst := (some 114)) (f := 25) (args := #[vI (z29.x), vI (-16384), vI 16384]) (E := []) (Ob := []) [0, 4, 8, 111, 114, 116] (vI z35) [(0, vP tb 0), z13, z31, z33, (114, vI z35), z34] (by kernel_rfl) (by kernel_rfl) (by kernel_rfl) mn an (fun X_ => (clamp_any (z29.x) (-16384) 16384  _)) (by kernel_rfl) 1 rfl ?_
        refine TD.one 11 (by kernel_rfl) 0 rfl fun a_ hF_ hcl_ => ?_
        refine OPJ.callT (τ := HL) [] [] (dst := (some 117)) (f := 150) (args := #[vP mb 0, vI z32, vI z35]) (A := [z30, z12, z1]) (Ts := [T3]) (E := []) (Ob := []) [] [0, 1, 2] [0] [] [0, 4, 8] [] [z30, z12, z1] [T3] [] (fun _ => []) (fun x => [x]) (fun _ x => MemH mb (z5.set z32 z35) (k + 6) x) (fun v_ => [(0, vP tb 0), z13, z31]) (fun _ => by kernel_rfl) mn an (by kernel_rfl) (by kernel_rfl) (by kernel_rfl) (by kernel_rfl) (by kernel_rfl) (by kernel_rfl) (fun _ => by kernel_rfl) [] (.inl (by kernel_rfl)) (.inl (by decide)) (set_any z32 z35 hM4) ?_ hF_ hcl_
        rintro _ T11 hM12
        refine TD.fin (by kernel_rfl) (EX.np ?_)
        refine EX.next ?_
        refine TR.draw [11] [] rfl (by kernel_rfl) ?_
        let z36 := z2 + 3
        let z37 : Nat × Value := (123, vI z36)
        let z38 : Nat × Value := (128, .iface 41 (vP mb 0))
        refine TD.vals [] (by kernel_rfl) [0, 4, 6, 1, 5, 7, 2, 3, 9, 10] [] [.nw, .own 0, .own 2] [0, 123, 125, 128] [true, true, true, true, true, true, true, true, false, true, true, false] [(0, vP tb 0), z37, (125, vI (z29.y)), z38] [tb, (n7 + 0)] [-9223372036854775808 ≤ (bodyAt t.S t.i) + 3 ∧ (bodyAt t.S t.i) + 3 ≤ 9223372036854775807] (by kernel_rfl) (by kernel_rfl) mn (ac ⟨by omega, by omega⟩ an) 2 rfl ?_
        let z39 := clampI (z29.y) (-16384) 16384
        refine TD.callv [] (by kernel_rfl) 8 [] [] (dst := (some 126)) (f := 25) (args := #[vI (z29.y), vI (-16384), vI 16384]) (E := []) (Ob := []) [0, 123, 126, 128] (vI z39) [(0, vP tb 0), z37, (126, vI z39), z38] (by kernel_rfl) (by kernel_rfl) (by kernel_rfl) mn an (fun X_ => (clamp_any (z29.y) (-16384) 16384  _)) (by kernel_rfl) 1 rfl ?_
        refine TD.one 11 (by kernel_rfl) 0 rfl fun a_ hF_ hcl_ => ?_
        refine OPJ.callT (τ := HL) [] [] (dst := (some 129)) (f := 150) (args := #[vP mb 0, vI z36, vI z39]) (A := [z30, z12, z1]) (Ts := [T11]) (E := []) (Ob := []) [] [0, 1, 2] [0] [] [0] [] [z30, z12, z1] [T11] [] (fun _ => []) (fun x => [x]) (fun _ x => MemH mb ((z5.set z32 z35).set z36 z39) (k + 5) x) (fun v_ => [(0, vP tb 0)]) (fun _ => by kernel_rfl) mn an (by kernel_rfl) (by kernel_rfl) (by kernel_rfl) (by kernel_rfl) (by kernel_rfl) (by kernel_rfl) (fun _ => by kernel_rfl) [] (.inl (by kernel_rfl)) (.inl (by decide)) (set_any z36 z39 hM12) ?_ hF_ hcl_
        rintro _ T13 hM14
        refine TD.fin (by kernel_rfl) (EX.np ?_)
        refine EX.next ?_
        refine TR.seq ?_
        refine TR.seq ?_
        refine TR.draw [] [] rfl (by kernel_rfl) ?_
        refine TD.vals [] (by kernel_rfl) [0, 5, 1, 6, 2, 7, 3, 8, 4, 9, 10, 11] [] [.own 2, .own 2] [0, 141] [true, true, true, true, true, true, true, true, true, true, true, true] [(0, vP tb 0), (141, .bool (decide (IntKind.i64.wrap (t.i + 1) < (t.S.nb : Int))))] [tb, tb] [] (by kernel_rfl) (by kernel_rfl) mn an 0 rfl ?_
        refine TD.fin (by kernel_rfl) (EX.np ?_)
        refine EX.next ?_
        rcases Decidable.em (IntKind.i64.wrap (t.i + 1) < (t.S.nb : Int)) with h15 | h15
        · refine TR.yes (b := decide (IntKind.i64.wrap (t.i + 1) < (t.S.nb : Int))) (by kernel_rfl) (by kernel_rfl) (decide_eq_true h15) ?_
          refine TR.seq ?_
          refine TR.draw [11] [] rfl (by kernel_rfl) ?_
          let z40 := IntKind.i64.wrap (t.i + 1)
          refine TD.vals [] (by kernel_rfl) [0, 4, 1, 5, 2, 6, 3, 7, 8, 9, 10] [] [.own 2, .own 2] [150, 152] [true, true, true, true, true, true, true, true, true, true, true, false] [(150, vI z40), (152, .iface 41 (vP mb 0))] [tb, tb] [] (by kernel_rfl) (by kernel_rfl) mn an 1 rfl ?_
          refine TD.one 11 (by kernel_rfl) 0 rfl fun a_ hF_ hcl_ => ?_
          refine OPJ.callT (τ := HL) [] [] (dst := (some 153)) (f := 150) (args := #[vP mb 0, vI 2, vI z40]) (A := [z30, z12, z1]) (Ts := [T13]) (E := []) (Ob := []) [] [0, 1, 2] [0] [] [] [] [z30, z12, z1] [T13] [] (fun _ => []) (fun x => [x]) (fun _ x => MemH mb (((z5.set z32 z35).set z36 z39).set 2 z40) (k + 4) x) (fun v_ => []) (fun _ => by kernel_rfl) mn an (by kernel_rfl) (by kernel_rfl) (by kernel_rfl) (by kernel_rfl) (by kernel_rfl) (by kernel_rfl) (fun _ => by kernel_rfl) [] (.inl (by kernel_rfl)) (.inl (by decide)) (set_any 2 z40 hM14) ?_ hF_ hcl_
          rintro _ T16 hM17
          refine TD.fin (by kernel_rfl) (EX.np ?_)
          refine EX.next ?_
          refine TR.ret (A := [z30, z12, z1]) (Ts := [T16]) (by exact fun _ _ h => h) rfl rfl [] [] (.tuple #[]) [] [] (fun _ => by kernel_rfl) mn an [2] [0, 1] [0] [] (ap [z1] [T16]) (by kernel_rfl) (by kernel_rfl) (by kernel_rfl) ?_
          refine ⟨T16, rfl, ?_⟩
          have e : (forceM t M) = ((((M.set ((bodyAt t.S t.i) + 6) 0).set ((bodyAt t.S t.i) + 2) (clampI ((vscale (vadd (vadd (⟨(motM t.S (M.set ((bodyAt t.S t.i) + 6) 0) t.i).vx, (motM t.S (M.set ((bodyAt t.S t.i) + 6) 0) t.i).vy⟩ : V2) t.S.g) (⟨IntKind.i64.wrap (((M.set ((bodyAt t.S t.i) + 6) 0).get ((playerAt t.S t.i) + 0)) * t.S.push), IntKind.i64.wrap (((M.set ((bodyAt t.S t.i) + 6) 0).get ((playerAt t.S t.i) + 1)) * t.S.push)⟩ : V2)) (IntKind.i64.wrap (1024 - t.S.drag))).x) (-16384) 16384)).set ((bodyAt t.S t.i) + 3) (clampI ((vscale (vadd (vadd (⟨(motM t.S (M.set ((bodyAt t.S t.i) + 6) 0) t.i).vx, (motM t.S (M.set ((bodyAt t.S t.i) + 6) 0) t.i).vy⟩ : V2) t.S.g) (⟨IntKind.i64.wrap (((M.set ((bodyAt t.S t.i) + 6) 0).get ((playerAt t.S t.i) + 0)) * t.S.push), IntKind.i64.wrap (((M.set ((bodyAt t.S t.i) + 6) 0).get ((playerAt t.S t.i) + 1)) * t.S.push)⟩ : V2)) (IntKind.i64.wrap (1024 - t.S.drag))).y) (-16384) 16384)).set 2 (IntKind.i64.wrap (t.i + 1))) := by
            first | (simp only [forceM, forceA, forceB, forceC, forceV, if_pos h2, if_pos h5, if_pos h9, if_pos h15]; done) | (simp only [forceM, forceA, forceB, forceC, forceV, if_pos h2, if_pos h5, if_pos h9, if_pos h15]; rfl) | rfl
          rw [e]
          exact hM17.weak (by omega)
        · refine TR.no (b := decide (IntKind.i64.wrap (t.i + 1) < (t.S.nb : Int))) (by kernel_rfl) (by kernel_rfl) (decide_eq_false h15) ?_
          refine TR.skip ?_
          refine EX.next ?_
          refine TR.seq ?_
          refine TR.reg ?_
          refine TL.seg0 1 [] [] [0, 154] [(0, vP tb 0), (154, vP tb 0)] (ap [z30, z12, z1] [T13]) [] [] (fun _ => by kernel_rfl) mn an ?_
          let z41 := beginM t 4 1 ((z5.set z32 z35).set z36 z39)
          refine TL.callT (τ := HL) [] [] (dst := (some 155)) (f := 45) (args := #[vP tb 0, vI 4, vI 1]) (A := [z30, z12, z1]) (Ts := [T13]) (E := []) (Ob := []) [2] [0, 1] [0] [] [0] [z1] [z30, z12] [T13] [] (fun _ => [z1]) (fun x => [x]) (fun v x => MemH mb z41 (k + 2) x) (fun v_ => [(0, vP tb 0)]) (fun _ => by kernel_rfl) mn an (by kernel_rfl) (by kernel_rfl) (by kernel_rfl) (by kernel_rfl) (by kernel_rfl) (by kernel_rfl) (fun _ => by kernel_rfl) (begin_any t 4 1 tb mb ((z5.set z32 z35).set z36 z39) (k + 2) T13 _ hM14 hS.up ) ?_
          rintro _ T18 hM19
          refine TL.fin (by kernel_rfl) ?_
          refine EX.next ?_
          refine TR.reg ?_
          refine TL.seg0 4 [] [.own 0] [159] [(159, .iface 41 (vP mb 0))] (ap [z1, z30, z12] [T18]) [tb] [] (fun _ => by kernel_rfl) mn an ?_
          refine TL.callT (τ := HL) [] [] (dst := (some 160)) (f := 150) (args := #[vP mb 0, vI 4, vI 0]) (A := [z1, z30, z12]) (Ts := [T18]) (E := []) (Ob := []) [] [0, 1, 2] [0] [] [] [] [z1, z30, z12] [T18] [] (fun _ => []) (fun x => [x]) (fun _ x => MemH mb (z41.set 4 0) (k + 1) x) (fun v_ => []) (fun _ => by kernel_rfl) mn an (by kernel_rfl) (by kernel_rfl) (by kernel_rfl) (by kernel_rfl) (by kernel_rfl) (by kernel_rfl) (fun _ => by kernel_rfl) (set_any 4 0 hM19) ?_
          rintro _ T20 hM21
          refine TL.fin (by kernel_rfl) ?_
          refine EX.fin (A := [z1, z30, z12]) (Ts := [T20]) rfl rfl [] [] (.tuple #[]) [] [] (fun _ => by kernel_rfl) mn an [0] [1, 2] [0] [] (ap [z1] [T20]) (by kernel_rfl) (by kernel_rfl) (by kernel_rfl) ?_
          refine ⟨T20, rfl, ?_⟩
          have e : (forceM t M) = ((beginM t 4 1 (((M.set ((bodyAt t.S t.i) + 6) 0).set ((bodyAt t.S t.i) + 2) (clampI ((vscale (vadd (vadd (⟨(motM t.S (M.set ((bodyAt t.S t.i) + 6) 0) t.i).vx, (motM t.S (M.set ((bodyAt t.S t.i) + 6) 0) t.i).vy⟩ : V2) t.S.g) (⟨IntKind.i64.wrap (((M.set ((bodyAt t.S t.i) + 6) 0).get ((playerAt t.S t.i) + 0)) * t.S.push), IntKind.i64.wrap (((M.set ((bodyAt t.S t.i) + 6) 0).get ((playerAt t.S t.i) + 1)) * t.S.push)⟩ : V2)) (IntKind.i64.wrap (1024 - t.S.drag))).x) (-16384) 16384)).set ((bodyAt t.S t.i) + 3) (clampI ((vscale (vadd (vadd (⟨(motM t.S (M.set ((bodyAt t.S t.i) + 6) 0) t.i).vx, (motM t.S (M.set ((bodyAt t.S t.i) + 6) 0) t.i).vy⟩ : V2) t.S.g) (⟨IntKind.i64.wrap (((M.set ((bodyAt t.S t.i) + 6) 0).get ((playerAt t.S t.i) + 0)) * t.S.push), IntKind.i64.wrap (((M.set ((bodyAt t.S t.i) + 6) 0).get ((playerAt t.S t.i) + 1)) * t.S.push)⟩ : V2)) (IntKind.i64.wrap (1024 - t.S.drag))).y) (-16384) 16384))).set 4 0) := by
            first | (simp only [forceM, forceA, forceB, forceC, forceV, if_pos h2, if_pos h5, if_pos h9, if_neg h15]; done) | (simp only [forceM, forceA, forceB, forceC, forceV, if_pos h2, if_pos h5, if_pos h9, if_neg h15]; rfl) | rfl
          rw [e]
          exact hM21.weak (by omega)
      · refine TR.no (b := decide (playerAt t.S t.i ≥ 0)) (by kernel_rfl) (by kernel_rfl) (decide_eq_false h9) ?_
        refine TR.skip ?_
        refine EX.next ?_
        refine TR.seq ?_
        refine TR.draw [8] [] rfl (by kernel_rfl) ?_
        let z42 := IntKind.i64.wrap (1024 - t.S.drag)
        refine TD.vals [] (by kernel_rfl) [0, 1, 2, 3, 4, 5, 6] [] [.own 0, .own 0, .own 2] [0, 4, 89, 95] [true, true, true, true, true, true, true, false, false] [(0, vP tb 0), z13, (89, .agg #[vI (z10.x), vI (z10.y)]), (95, vI z42)] [tb, (n7 + 0), (n7 + 0)] [] (by kernel_rfl) (by kernel_rfl) mn an 2 rfl ?_
        let z43 := vscale z10 z42
        refine TD.callv [] (by kernel_rfl) 7 [] [] (dst := (some 96)) (f := 24) (args := #[.agg #[vI (z10.x), vI (z10.y)], vI z42]) (E := []) (Ob := []) [0, 4, 96] (.agg #[vI (z43.x), vI (z43.y)]) [(0, vP tb 0), z13, (96, .agg #[vI (z43.x), vI (z43.y)])] (by kernel_rfl) (by kernel_rfl) (by kernel_rfl) mn an (fun X_ => (vscale_any z10 z42  _)) (by kernel_rfl) 1 rfl ?_
        refine TD.one 8 (by kernel_rfl) 0 rfl fun a_ hF_ hcl_ => ?_
        let z44 : Nat × Blk := ((n7 + 0), .lit [vI (z43.x), vI (z43.y)] 30 (0, 0))
        refine OPJ.ev [] [.own 0, .own 0] [0, 4] (fun _ => [(0, vP tb 0), z13]) (fun _ => (ap [z44, z12, z1] [T3])) (fun _ => [(n7 + 0), (n7 + 0)]) (fun _ => []) (fun _ => by kernel_rfl) mn (fun _ => an) (.inl ⟨[], fun _ => by kernel_rfl⟩) (.inl (by decide)) (fun _ => ?_) hF_ hcl_
        refine TD.fin (by kernel_rfl) (EX.np ?_)
        refine EX.next ?_
        refine TR.seq ?_
        refine TR.draw [] [] rfl (by kernel_rfl) ?_
        refine TD.vals [] (by kernel_rfl) [0, 4, 1, 5, 2, 6, 3, 7] [] [.own 2, .own 2, .own 2, .own 2, .own 2, .own 2, .own 2, .own 2, .own 2, .own 2, .own 2, .own 2, .own 2, .own 2, .own 2, .own 2, .own 2] [0, 4, 100, 104] [true, true, true, true, true, true, true, true, false, false] [(0, vP tb 0), z13, (100, (Setup.v t.S)), (104, vI t.i)] [tb, tb, tb, tb, tb, tb, tb, tb, tb, tb, tb, tb, tb, tb, tb, tb, tb] [] (by kernel_rfl) (by kernel_rfl) mn an 2 rfl ?_
        refine TD.callv [] (by kernel_rfl) 8 [] [] (dst := (some 105)) (f := 37) (args := #[(Setup.v t.S), vI t.i]) (E := []) (Ob := []) [0, 4, 105] (vI z2) [(0, vP tb 0), z13, (105, vI z2)] (by kernel_rfl) (by kernel_rfl) (by kernel_rfl) mn an (fun X_ => (lbody_any t.S t.i _ hS.toSetN)) (by kernel_rfl) 1 rfl ?_
        have hb22 := bodyAt_bd hS.toSetN t.i
        let z45 : Nat × Value := (8, vI z2)
        refine TD.vals [] (by kernel_rfl) [9] [] [] [0, 4, 8] [true, true, true, true, true, true, true, true, true, true] [(0, vP tb 0), z13, z45] [] [] (by kernel_rfl) (by kernel_rfl) mn an 0 rfl ?_
        refine TD.fin (by kernel_rfl) (EX.np ?_)
        refine EX.next ?_
        refine TR.seq ?_
        refine TR.draw [11] [] rfl (by kernel_rfl) ?_
        let z46 := z2 + 2
        let z47 : Nat × Value := (111, vI z46)
        let z48 : Nat × Value := (116, .iface 41 (vP mb 0))
        refine TD.vals [] (by kernel_rfl) [0, 4, 6, 1, 5, 7, 2, 3, 9, 10] [] [.nw, .own 0, .own 2] [0, 4, 8, 111, 113, 116] [true, true, true, true, true, true, true, true, false, true, true, false] [(0, vP tb 0), z13, z45, z47, (113, vI (z43.x)), z48] [tb, (n7 + 0)] [-9223372036854775808 ≤ (bodyAt t.S t.i) + 2 ∧ (bodyAt t.S t.i) + 2 ≤ 9223372036854775807] (by kernel_rfl) (by kernel_rfl) mn (ac ⟨by omega, by omega⟩ an) 2 rfl ?_
        let z49 := clampI (z43.x) (-16384) 16384
        refine TD.callv [] (by kernel_rfl) 8 [] [] (dst := (some 114)) (f := 25) (args := #[vI (z43.x), vI (-16384), vI 16384]) (E := []) (Ob := []) [0, 4, 8, 111, 114, 116] (vI z49) [(0, vP tb 0), z13, z45, z47, (114, vI z49), z48] (by kernel_rfl) (by kernel_rfl) (by kernel_rfl) mn an (fun X_ => (clamp_any (z43.x) (-16384) 16384  _)) (by kernel_rfl) 1 rfl ?_
        refine TD.one 11 (by kernel_rfl) 0 rfl fun a_ hF_ hcl_ => ?_
        refine OPJ.callT (τ := HL) [] [] (dst := (some 117)) (f := 150) (args := #[vP mb 0, vI z46, vI z49]) (A := [z44, z12, z1]) (Ts := [T3]) (E := []) (Ob := []) [] [0, 1, 2] [0] [] [0, 4, 8] [] [z44, z12, z1] [T3] [] (fun _ => []) (fun x => [x]) (fun _ x => MemH mb (z5.set z46 z49) (k + 6) x) (fun v_ => [(0, vP tb 0), z13, z45]) (fun _ => by kernel_rfl) mn an (by kernel_rfl) (by kernel_rfl) (by kernel_rfl) (by kernel_rfl) (by kernel_rfl) (by kernel_rfl) (fun _ => by kernel_rfl) [] (.inl (by kernel_rfl)) (.inl (by decide)) (set_any z46 z49 hM4) ?_ hF_ hcl_
        rintro _ T23 hM24
        refine TD.fin (by kernel_rfl) (EX.np ?_)
        refine EX.next ?_
        refine TR.draw [11] [] rfl (by kernel_rfl) ?_
        let z50 := z2 + 3
        let z51 : Nat × Value := (123, vI z50)
        let z52 : Nat × Value := (128, .iface 41 (vP mb 0))
        refine TD.vals [] (by kernel_rfl) [0, 4, 6, 1, 5, 7, 2, 3, 9, 10] [] [.nw, .own 0, .own 2] [0, 123, 125, 128] [true, true, true, true, true, true, true, true, false, true, true, false] [(0, vP tb 0), z51, (125, vI (z43.y)), z52] [tb, (n7 + 0)] [-9223372036854775808 ≤ (bodyAt t.S t.i) + 3 ∧ (bodyAt t.S t.i) + 3 ≤ 9223372036854775807] (by kernel_rfl) (by kernel_rfl) mn (ac ⟨by omega, by omega⟩ an) 2 rfl ?_
        let z53 := clampI (z43.y) (-16384) 16384
        refine TD.callv [] (by kernel_rfl) 8 [] [] (dst := (some 126)) (f := 25) (args := #[vI (z43.y), vI (-16384), vI 16384]) (E := []) (Ob := []) [0, 123, 126, 128] (vI z53) [(0, vP tb 0), z51, (126, vI z53), z52] (by kernel_rfl) (by kernel_rfl) (by kernel_rfl) mn an (fun X_ => (clamp_any (z43.y) (-16384) 16384  _)) (by kernel_rfl) 1 rfl ?_
        refine TD.one 11 (by kernel_rfl) 0 rfl fun a_ hF_ hcl_ => ?_
        refine OPJ.callT (τ := HL) [] [] (dst := (some 129)) (f := 150) (args := #[vP mb 0, vI z50, vI z53]) (A := [z44, z12, z1]) (Ts := [T23]) (E := []) (Ob := []) [] [0, 1, 2] [0] [] [0] [] [z44, z12, z1] [T23] [] (fun _ => []) (fun x => [x]) (fun _ x => MemH mb ((z5.set z46 z49).set z50 z53) (k + 5) x) (fun v_ => [(0, vP tb 0)]) (fun _ => by kernel_rfl) mn an (by kernel_rfl) (by kernel_rfl) (by kernel_rfl) (by kernel_rfl) (by kernel_rfl) (by kernel_rfl) (fun _ => by kernel_rfl) [] (.inl (by kernel_rfl)) (.inl (by decide)) (set_any z50 z53 hM24) ?_ hF_ hcl_
        rintro _ T25 hM26
        refine TD.fin (by kernel_rfl) (EX.np ?_)
        refine EX.next ?_
        refine TR.seq ?_
        refine TR.seq ?_
        refine TR.draw [] [] rfl (by kernel_rfl) ?_
        refine TD.vals [] (by kernel_rfl) [0, 5, 1, 6, 2, 7, 3, 8, 4, 9, 10, 11] [] [.own 2, .own 2] [0, 141] [true, true, true, true, true, true, true, true, true, true, true, true] [(0, vP tb 0), (141, .bool (decide (IntKind.i64.wrap (t.i + 1) < (t.S.nb : Int))))] [tb, tb] [] (by kernel_rfl) (by kernel_rfl) mn an 0 rfl ?_
        refine TD.fin (by kernel_rfl) (EX.np ?_)
        refine EX.next ?_
        rcases Decidable.em (IntKind.i64.wrap (t.i + 1) < (t.S.nb : Int)) with h27 | h27
        · refine TR.yes (b := decide (IntKind.i64.wrap (t.i + 1) < (t.S.nb : Int))) (by kernel_rfl) (by kernel_rfl) (decide_eq_true h27) ?_
          refine TR.seq ?_
          refine TR.draw [11] [] rfl (by kernel_rfl) ?_
          let z54 := IntKind.i64.wrap (t.i + 1)
          refine TD.vals [] (by kernel_rfl) [0, 4, 1, 5, 2, 6, 3, 7, 8, 9, 10] [] [.own 2, .own 2] [150, 152] [true, true, true, true, true, true, true, true, true, true, true, false] [(150, vI z54), (152, .iface 41 (vP mb 0))] [tb, tb] [] (by kernel_rfl) (by kernel_rfl) mn an 1 rfl ?_
          refine TD.one 11 (by kernel_rfl) 0 rfl fun a_ hF_ hcl_ => ?_
          refine OPJ.callT (τ := HL) [] [] (dst := (some 153)) (f := 150) (args := #[vP mb 0, vI 2, vI z54]) (A := [z44, z12, z1]) (Ts := [T25]) (E := []) (Ob := []) [] [0, 1, 2] [0] [] [] [] [z44, z12, z1] [T25] [] (fun _ => []) (fun x => [x]) (fun _ x => MemH mb (((z5.set z46 z49).set z50 z53).set 2 z54) (k + 4) x) (fun v_ => []) (fun _ => by kernel_rfl) mn an (by kernel_rfl) (by kernel_rfl) (by kernel_rfl) (by kernel_rfl) (by kernel_rfl) (by kernel_rfl) (fun _ => by kernel_rfl) [] (.inl (by kernel_rfl)) (.inl (by decide)) (set_any 2 z54 hM26) ?_ hF_ hcl_
          rintro _ T28 hM29
          refine TD.fin (by kernel_rfl) (EX.np ?_)
          refine EX.next ?_
          refine TR.ret (A := [z44, z12, z1]) (Ts := [T28]) (by exact fun _ _ h => h) rfl rfl [] [] (.tuple #[]) [] [] (fun _ => by kernel_rfl) mn an [2] [0, 1] [0] [] (ap [z1] [T28]) (by kernel_rfl) (by kernel_rfl) (by kernel_rfl) ?_
          refine ⟨T28, rfl, ?_⟩
          have e : (forceM t M) = ((((M.set ((bodyAt t.S t.i) + 6) 0).set ((bodyAt t.S t.i) + 2) (clampI ((vscale (vadd (⟨(motM t.S (M.set ((bodyAt t.S t.i) + 6) 0) t.i).vx, (motM t.S (M.set ((bodyAt t.S t.i) + 6) 0) t.i).vy⟩ : V2) t.S.g) (IntKind.i64.wrap (1024 - t.S.drag))).x) (-16384) 16384)).set ((bodyAt t.S t.i) + 3) (clampI ((vscale (vadd (⟨(motM t.S (M.set ((bodyAt t.S t.i) + 6) 0) t.i).vx, (motM t.S (M.set ((bodyAt t.S t.i) + 6) 0) t.i).vy⟩ : V2) t.S.g) (IntKind.i64.wrap (1024 - t.S.drag))).y) (-16384) 16384)).set 2 (IntKind.i64.wrap (t.i + 1))) := by
            first | (simp only [forceM, forceA, forceB, forceC, forceV, if_pos h2, if_pos h5, if_neg h9, if_pos h27]; done) | (simp only [forceM, forceA, forceB, forceC, forceV, if_pos h2, if_pos h5, if_neg h9, if_pos h27]; rfl) | rfl
          rw [e]
          exact hM29.weak (by omega)
        · refine TR.no (b := decide (IntKind.i64.wrap (t.i + 1) < (t.S.nb : Int))) (by kernel_rfl) (by kernel_rfl) (decide_eq_false h27) ?_
          refine TR.skip ?_
          refine EX.next ?_
          refine TR.seq ?_
          refine TR.reg ?_
          refine TL.seg0 1 [] [] [0, 154] [(0, vP tb 0), (154, vP tb 0)] (ap [z44, z12, z1] [T25]) [] [] (fun _ => by kernel_rfl) mn an ?_
          let z55 := beginM t 4 1 ((z5.set z46 z49).set z50 z53)
          refine TL.callT (τ := HL) [] [] (dst := (some 155)) (f := 45) (args := #[vP tb 0, vI 4, vI 1]) (A := [z44, z12, z1]) (Ts := [T25]) (E := []) (Ob := []) [2] [0, 1] [0] [] [0] [z1] [z44, z12] [T25] [] (fun _ => [z1]) (fun x => [x]) (fun v x => MemH mb z55 (k + 2) x) (fun v_ => [(0, vP tb 0)]) (fun _ => by kernel_rfl) mn an (by kernel_rfl) (by kernel_rfl) (by kernel_rfl) (by kernel_rfl) (by kernel_rfl) (by kernel_rfl) (fun _ => by kernel_rfl) (begin_any t 4 1 tb mb ((z5.set z46 z49).set z50 z53) (k + 2) T25 _ hM26 hS.up ) ?_
          rintro _ T30 hM31
          refine TL.fin (by kernel_rfl) ?_
          refine EX.next ?_
          refine TR.reg ?_
          refine TL.seg0 4 [] [.own 0] [159] [(159, .iface 41 (vP mb 0))] (ap [z1, z44, z12] [T30]) [tb] [] (fun _ => by kernel_rfl) mn an ?_
          refine TL.callT (τ := HL) [] [] (dst := (some 160)) (f := 150) (args := #[vP mb 0, vI 4, vI 0]) (A := [z1, z44, z12]) (Ts := [T30]) (E := []) (Ob := []) [] [0, 1, 2] [0] [] [] [] [z1, z44, z12] [T30] [] (fun _ => []) (fun x => [x]) (fun _ x => MemH mb (z55.set 4 0) (k + 1) x) (fun v_ => []) (fun _ => by kernel_rfl) mn an (by kernel_rfl) (by kernel_rfl) (by kernel_rfl) (by kernel_rfl) (by kernel_rfl) (by kernel_rfl) (fun _ => by kernel_rfl) (set_any 4 0 hM31) ?_
          rintro _ T32 hM33
          refine TL.fin (by kernel_rfl) ?_
          refine EX.fin (A := [z1, z44, z12]) (Ts := [T32]) rfl rfl [] [] (.tuple #[]) [] [] (fun _ => by kernel_rfl) mn an [0] [1, 2] [0] [] (ap [z1] [T32]) (by kernel_rfl) (by kernel_rfl) (by kernel_rfl) ?_
          refine ⟨T32, rfl, ?_⟩
          have e : (forceM t M) = ((beginM t 4 1 (((M.set ((bodyAt t.S t.i) + 6) 0).set ((bodyAt t.S t.i) + 2) (clampI ((vscale (vadd (⟨(motM t.S (M.set ((bodyAt t.S t.i) + 6) 0) t.i).vx, (motM t.S (M.set ((bodyAt t.S t.i) + 6) 0) t.i).vy⟩ : V2) t.S.g) (IntKind.i64.wrap (1024 - t.S.drag))).x) (-16384) 16384)).set ((bodyAt t.S t.i) + 3) (clampI ((vscale (vadd (⟨(motM t.S (M.set ((bodyAt t.S t.i) + 6) 0) t.i).vx, (motM t.S (M.set ((bodyAt t.S t.i) + 6) 0) t.i).vy⟩ : V2) t.S.g) (IntKind.i64.wrap (1024 - t.S.drag))).y) (-16384) 16384))).set 4 0) := by
            first | (simp only [forceM, forceA, forceB, forceC, forceV, if_pos h2, if_pos h5, if_neg h9, if_neg h27]; done) | (simp only [forceM, forceA, forceB, forceC, forceV, if_pos h2, if_pos h5, if_neg h9, if_neg h27]; rfl) | rfl
          rw [e]
          exact hM33.weak (by omega)
    · refine TR.no (b := decide z6) (by kernel_rfl) (by kernel_rfl) (decide_eq_false h5) ?_
      refine TR.skip ?_
      refine EX.next ?_
      refine TR.seq ?_
      refine TR.seq ?_
      refine TR.draw [] [] rfl (by kernel_rfl) ?_
      refine TD.vals [] (by kernel_rfl) [0, 5, 1, 6, 2, 7, 3, 8, 4, 9, 10, 11] [] [.own 0, .own 0] [0, 141] [true, true, true, true, true, true, true, true, true, true, true, true] [(0, vP tb 0), (141, .bool (decide (IntKind.i64.wrap (t.i + 1) < (t.S.nb : Int))))] [tb, tb] [] (by kernel_rfl) (by kernel_rfl) mn an 0 rfl ?_
      refine TD.fin (by kernel_rfl) (EX.np ?_)
      refine EX.next ?_
      rcases Decidable.em (IntKind.i64.wrap (t.i + 1) < (t.S.nb : Int)) with h34 | h34
      · refine TR.yes (b := decide (IntKind.i64.wrap (t.i + 1) < (t.S.nb : Int))) (by kernel_rfl) (by kernel_rfl) (decide_eq_true h34) ?_
        refine TR.seq ?_
        refine TR.draw [11] [] rfl (by kernel_rfl) ?_
        let z56 := IntKind.i64.wrap (t.i + 1)
        refine TD.vals [] (by kernel_rfl) [0, 4, 1, 5, 2, 6, 3, 7, 8, 9, 10] [] [.own 0, .own 0] [150, 152] [true, true, true, true, true, true, true, true, true, true, true, false] [(150, vI z56), (152, .iface 41 (vP mb 0))] [tb, tb] [] (by kernel_rfl) (by kernel_rfl) mn an 1 rfl ?_
        refine TD.one 11 (by kernel_rfl) 0 rfl fun a_ hF_ hcl_ => ?_
        refine OPJ.callT (τ := HL) [] [] (dst := (some 153)) (f := 150) (args := #[vP mb 0, vI 2, vI z56]) (A := [z1]) (Ts := [T3]) (E := []) (Ob := []) [] [0] [0] [] [] [] [z1] [T3] [] (fun _ => []) (fun x => [x]) (fun _ x => MemH mb (z5.set 2 z56) (k + 6) x) (fun v_ => []) (fun _ => by kernel_rfl) mn an (by kernel_rfl) (by kernel_rfl) (by kernel_rfl) (by kernel_rfl) (by kernel_rfl) (by kernel_rfl) (fun _ => by kernel_rfl) [] (.inl (by kernel_rfl)) (.inl (by decide)) (set_any 2 z56 hM4) ?_ hF_ hcl_
        rintro _ T35 hM36
        refine TD.fin (by kernel_rfl) (EX.np ?_)
        refine EX.next ?_
        refine TR.ret (A := [z1]) (Ts := [T35]) (by exact fun _ _ h => h) rfl rfl [] [] (.tuple #[]) [] [] (fun _ => by kernel_rfl) mn an [0] [] [0] [] (ap [z1] [T35]) (by kernel_rfl) (by kernel_rfl) (by kernel_rfl) ?_
        refine ⟨T35, rfl, ?_⟩
        have e : (forceM t M) = ((M.set ((bodyAt t.S t.i) + 6) 0).set 2 (IntKind.i64.wrap (t.i + 1))) := by
          first | (simp only [forceM, forceA, forceB, forceC, forceV, if_pos h2, if_neg h5, if_pos h34]; done) | (simp only [forceM, forceA, forceB, forceC, forceV, if_pos h2, if_neg h5, if_pos h34]; rfl) | rfl
        rw [e]
        exact hM36.weak (by omega)
      · refine TR.no (b := decide (IntKind.i64.wrap (t.i + 1) < (t.S.nb : Int))) (by kernel_rfl) (by kernel_rfl) (decide_eq_false h34) ?_
        refine TR.skip ?_
        refine EX.next ?_
        refine TR.seq ?_
        refine TR.reg ?_
        refine TL.seg0 1 [] [] [0, 154] [(0, vP tb 0), (154, vP tb 0)] (ap [z1] [T3]) [] [] (fun _ => by kernel_rfl) mn an ?_
        let z57 := beginM t 4 1 z5
        refine TL.callT (τ := HL) [] [] (dst := (some 155)) (f := 45) (args := #[vP tb 0, vI 4, vI 1]) (A := [z1]) (Ts := [T3]) (E := []) (Ob := []) [0] [] [0] [] [0] [z1] [] [T3] [] (fun _ => [z1]) (fun x => [x]) (fun v x => MemH mb z57 (k + 4) x) (fun v_ => [(0, vP tb 0)]) (fun _ => by kernel_rfl) mn an (by kernel_rfl) (by kernel_rfl) (by kernel_rfl) (by kernel_rfl) (by kernel_rfl) (by kernel_rfl) (fun _ => by kernel_rfl) (begin_any t 4 1 tb mb z5 (k + 4) T3 _ hM4 hS.up ) ?_
        rintro _ T37 hM38
        refine TL.fin (by kernel_rfl) ?_
        refine EX.next ?_
        refine TR.reg ?_
        refine TL.seg0 4 [] [.own 0] [159] [(159, .iface 41 (vP mb 0))] (ap [z1] [T37]) [tb] [] (fun _ => by kernel_rfl) mn an ?_
        refine TL.callT (τ := HL) [] [] (dst := (some 160)) (f := 150) (args := #[vP mb 0, vI 4, vI 0]) (A := [z1]) (Ts := [T37]) (E := []) (Ob := []) [] [0] [0] [] [] [] [z1] [T37] [] (fun _ => []) (fun x => [x]) (fun _ x => MemH mb (z57.set 4 0) (k + 3) x) (fun v_ => []) (fun _ => by kernel_rfl) mn an (by kernel_rfl) (by kernel_rfl) (by kernel_rfl) (by kernel_rfl) (by kernel_rfl) (by kernel_rfl) (fun _ => by kernel_rfl) (set_any 4 0 hM38) ?_
        rintro _ T39 hM40
        refine TL.fin (by kernel_rfl) ?_
        refine EX.fin (A := [z1]) (Ts := [T39]) rfl rfl [] [] (.tuple #[]) [] [] (fun _ => by kernel_rfl) mn an [0] [] [0] [] (ap [z1] [T39]) (by kernel_rfl) (by kernel_rfl) (by kernel_rfl) ?_
        refine ⟨T39, rfl, ?_⟩
        have e : (forceM t M) = ((beginM t 4 1 (M.set ((bodyAt t.S t.i) + 6) 0)).set 4 0) := by
          first | (simp only [forceM, forceA, forceB, forceC, forceV, if_pos h2, if_neg h5, if_neg h34]; done) | (simp only [forceM, forceA, forceB, forceC, forceV, if_pos h2, if_neg h5, if_neg h34]; rfl) | rfl
        rw [e]
        exact hM40.weak (by omega)
  · refine TR.no (b := decide (bodyAt t.S t.i ≥ 0)) (by kernel_rfl) (by kernel_rfl) (decide_eq_false h2) ?_
    refine TR.skip ?_
    refine EX.next ?_
    refine TR.seq ?_
    refine TR.seq ?_
    refine TR.reg ?_
    refine TL.seg0 5 [] [.own 0] [0, 27, 31] [(0, vP tb 0), (27, vP tb 0), (31, vI t.i)] (ap [z1] [T]) [tb] [] (fun _ => by kernel_rfl) mn an ?_
    let z58 := movP t.S t.i
    refine TL.callp (dst := (some 32)) (f := 48) (args := #[vP tb 0, vI t.i]) (H1 := (ap [z1] [T])) (E := []) (Ob := []) [] [] [0, 32] (.bool (decide z58)) [(0, vP tb 0), (32, .bool (decide z58))] (fun _ => by kernel_rfl) mn an (movable_any t t.i tb mb _ (in_ap 0 rfl) hS.up) (by kernel_rfl) ?_
    refine TL.fin (by kernel_rfl) ?_
    refine EX.next ?_
    rcases Decidable.em (movP t.S t.i) with h41 | h41
    · have := movP.has h41
      refine TR.yes (b := decide z58) (by kernel_rfl) (by kernel_rfl) (decide_eq_true h41) ?_
      refine TR.seq ?_
      refine TR.reg ?_
      refine TL.seg0 5 [] [.own 0] [0, 33, 37] [(0, vP tb 0), (33, vP tb 0), (37, vI t.i)] (ap [z1] [T]) [tb] [] (fun _ => by kernel_rfl) mn an ?_
      let z59 := motM t.S M t.i
      refine TL.callp (dst := (some 38)) (f := 49) (args := #[vP tb 0, vI t.i]) (H1 := (ap [z1] [T])) (E := []) (Ob := []) [] [] [0, 38] (.agg #[vI (z59.px), vI (z59.py), vI (z59.vx), vI (z59.vy), vI (z59.inv)]) [(0, vP tb 0), (38, .agg #[vI (z59.px), vI (z59.py), vI (z59.vx), vI (z59.vy), vI (z59.inv)])] (fun _ => by kernel_rfl) mn an (motion_any t t.i tb mb M _ T _ (in_ap 0 rfl) hS.up hM (sub_ap 0 rfl) (movP.has h41)) (by kernel_rfl) ?_
      let z60 : List Value := [vI (z59.px), vI (z59.py), vI (z59.vx), vI (z59.vy), vI (z59.inv)]
      refine TL.seg 2 [] [.own 0, .own 0, .own 0, .own 0, .own 0] [0, 3] (fun n42 => [(0, vP tb 0), (3, vP (n42 + 0) 0)]) (fun n42 => (ap [((n42 + 0), .lit z60 38 (0, 0)), z1] [T])) (fun n42 => [(n42 + 0), (n42 + 0), (n42 + 0), (n42 + 0), (n42 + 0)]) (fun n42 => []) (fun _ => by kernel_rfl) mn (fun n42 => an) ?_
      intro n42
      refine TL.fin (by kernel_rfl) ?_
      refine EX.next ?_
      refine TR.seq ?_
      refine TR.draw [9] [] rfl (by kernel_rfl) ?_
      refine TD.vals [] (by kernel_rfl) [0, 2, 1, 3, 4, 5, 6] [] [.own 0, .own 0, .own 1, .own 1] [0, 40, 45] [true, true, true, true, true, true, true, false, false, false] [(0, vP tb 0), (40, .agg #[vI (z59.vx), vI (z59.vy)]), (45, .agg #[vI t.S.g.x, vI t.S.g.y])] [tb, tb, (n42 + 0), (n42 + 0)] [] (by kernel_rfl) (by kernel_rfl) mn an 3 rfl ?_
      let z61 := (⟨z59.vx, z59.vy⟩ : V2)
      let z62 := vadd z61 t.S.g
      let z63 : Nat × Value := (46, .agg #[vI (z62.x), vI (z62.y)])
      refine TD.callv [] (by kernel_rfl) 7 [] [] (dst := (some 46)) (f := 23) (args := #[.agg #[vI (z59.vx), vI (z59.vy)], .agg #[vI t.S.g.x, vI t.S.g.y]]) (E := []) (Ob := []) [0, 46] (.agg #[vI (z62.x), vI (z62.y)]) [(0, vP tb 0), z63] (by kernel_rfl) (by kernel_rfl) (by kernel_rfl) mn an (fun X_ => (vadd_any z61 t.S.g  _)) (by kernel_rfl) 2 rfl ?_
      refine TD.one 8 (by kernel_rfl) 1 rfl fun a_ hF_ hcl_ => ?_
      let z64 : Nat × Blk := ((n42 + 0), .lit z60 38 (0, 0))
      refine OPJ.ev [] [] [0, 4, 46] (fun n43 => [(0, vP tb 0), (4, vP (n43 + 0) 0), z63]) (fun n43 => (ap [((n43 + 0), .lit [vI 0, vI 0] 30 (0, 0)), z64, z1] [T])) (fun n43 => []) (fun n43 => []) (fun _ => by kernel_rfl) mn (fun n43 => an) (.inr ⟨by decide, fun n43 => ⟨[((n43 + 0), .lit [vI 0, vI 0] 30 (0, 0))], rfl⟩⟩) (.inr fun n43 => ⟨[((n43 + 0), .lit [vI 0, vI 0] 30 (0, 0))], rfl⟩) (fun n43 => ?_) hF_ hcl_
      refine TD.one 9 (by kernel_rfl) 0 rfl fun a_ hF_ hcl_ => ?_
      let z65 : Nat × Value := (4, vP (n43 + 0) 0)
      let z66 : Nat × Blk := ((n43 + 0), .lit [vI (z62.x), vI (z62.y)] 30 (0, 0))
      refine OPJ.ev [] [.own 0, .own 0] [0, 4] (fun _ => [(0, vP tb 0), z65]) (fun _ => (ap [z66, z64, z1] [T])) (fun _ => [(n43 + 0), (n43 + 0)]) (fun _ => []) (fun _ => by kernel_rfl) mn (fun _ => an) (.inl ⟨[], fun _ => by kernel_rfl⟩) (.inl (by decide)) (fun _ => ?_) hF_ hcl_
      refine TD.fin (by kernel_rfl) (EX.np ?_)
      refine EX.next ?_
      refine TR.seq ?_
      refine TR.seq ?_
      refine TR.draw [] [] rfl (by kernel_rfl) ?_
      refine TD.vals [] (by kernel_rfl) [0, 4, 1, 5, 2, 6, 3, 7] [] [.own 2, .own 2, .own 2, .own 2, .own 2, .own 2, .own 2, .own 2, .own 2, .own 2, .own 2, .own 2, .own 2, .own 2, .own 2, .own 2, .own 2] [0, 4, 50, 54] [true, true, true, true, true, true, true, true, false, false] [(0, vP tb 0), z65, (50, (Setup.v t.S)), (54, vI t.i)] [tb, tb, tb, tb, tb, tb, tb, tb, tb, tb, tb, tb, tb, tb, tb, tb, tb] [] (by kernel_rfl) (by kernel_rfl) mn an 2 rfl ?_
      let z67 := playerAt t.S t.i
      refine TD.callv [] (by kernel_rfl) 8 [] [] (dst := (some 55)) (f := 44) (args := #[(Setup.v t.S), vI t.i]) (E := []) (Ob := []) [0, 4, 55] (vI z67) [(0, vP tb 0), z65, (55, vI z67)] (by kernel_rfl) (by kernel_rfl) (by kernel_rfl) mn an (fun X_ => (lplayer_any t.S t.i _ hS.toSetN)) (by kernel_rfl) 1 rfl ?_
      have hb44 := playerAt_bd hS.toSetN t.i
      let z68 : Nat × Value := (5, vI z67)
      refine TD.vals [] (by kernel_rfl) [9] [] [] [0, 4, 5] [true, true, true, true, true, true, true, true, true, true] [(0, vP tb 0), z65, z68] [] [] (by kernel_rfl) (by kernel_rfl) mn an 0 rfl ?_
      refine TD.fin (by kernel_rfl) (EX.np ?_)
      refine EX.next ?_
      refine TR.seq ?_
      refine TR.reg ?_
      refine TL.seg0 2 [] [] [0, 4, 5, 57] [(0, vP tb 0), z65, z68, (57, .bool (decide (playerAt t.S t.i ≥ 0)))] (ap [z66, z64, z1] [T]) [] [] (fun _ => by kernel_rfl) mn an ?_
      refine TL.fin (by kernel_rfl) ?_
      refine EX.next ?_
      rcases Decidable.em (playerAt t.S t.i ≥ 0) with h45 | h45
      · refine TR.yes (b := decide (playerAt t.S t.i ≥ 0)) (by kernel_rfl) (by kernel_rfl) (decide_eq_true h45) ?_
        refine TR.seq ?_
        refine TR.draw [] [] rfl (by kernel_rfl) ?_
        let z69 := z67 + 0
        let z70 : Nat × Value := (68, .iface 41 (vP mb 0))
        let z71 := z67 + 1
        let z72 : Nat × Value := (70, vI z71)
        refine TD.vals [] (by kernel_rfl) [0, 4, 7, 11, 1, 5, 8, 12, 2, 9, 3, 10] [] [.nw, .nw, .own 2, .own 2] [0, 4, 61, 63, 68, 70] [true, true, true, true, true, true, false, true, true, true, true, true, true, false, false, false] [(0, vP tb 0), z65, (61, .iface 41 (vP mb 0)), (63, vI z69), z70, z72] [tb, tb] [-9223372036854775808 ≤ (playerAt t.S t.i) + 1 ∧ (playerAt t.S t.i) + 1 ≤ 9223372036854775807, -9223372036854775808 ≤ (playerAt t.S t.i) + 0 ∧ (playerAt t.S t.i) + 0 ≤ 9223372036854775807] (by kernel_rfl) (by kernel_rfl) mn (ac ⟨by omega, by omega⟩ (ac ⟨by omega, by omega⟩ an)) 4 rfl ?_
        let z73 := M.get z69
        let z74 : Nat × Value := (64, vI z73)
        refine TD.callv [] (by kernel_rfl) 6 [] [] (dst := (some 64)) (f := 28) (args := #[vP mb 0, vI z69]) (E := []) (Ob := []) [0, 4, 64, 68, 70] (vI z73) [(0, vP tb 0), z65, z74, z70, z72] (by kernel_rfl) (by kernel_rfl) (by kernel_rfl) mn an (fun X_ => (get_any z69 hM (sub_apX 0 rfl))) (by kernel_rfl) 3 rfl ?_
        let z75 := M.get z71
        refine TD.callv [] (by kernel_rfl) 13 [] [] (dst := (some 71)) (f := 28) (args := #[vP mb 0, vI z71]) (E := []) (Ob := []) [0, 4, 64, 71] (vI z75) [(0, vP tb 0), z65, z74, (71, vI z75)] (by kernel_rfl) (by kernel_rfl) (by kernel_rfl) mn an (fun X_ => (get_any z71 hM (sub_apX 0 rfl))) (by kernel_rfl) 2 rfl ?_
        refine TD.vals [] (by kernel_rfl) [14, 15] [] [] [0, 4, 6, 7] [true, true, true, true, true, true, true, true, true, true, true, true, true, true, true, true] [(0, vP tb 0), z65, (6, vI z73), (7, vI z75)] [] [] (by kernel_rfl) (by kernel_rfl) mn an 0 rfl ?_
        refine TD.fin (by kernel_rfl) (EX.np ?_)
        refine EX.next ?_
        refine TR.draw [17] [] rfl (by kernel_rfl) ?_
        let z76 := z73 * t.S.push
        let z77 := IntKind.i64.wrap z76
        let z78 := z75 * t.S.push
        let z79 := IntKind.i64.wrap z78
        refine TD.vals [] (by kernel_rfl) [0, 1, 2, 8, 9, 3, 10, 4, 11, 5, 12, 6, 13, 7, 14, 15] [] [.own 0, .own 0, .own 2, .own 2] [0, 4, 72, 87] [true, true, true, true, true, true, true, true, true, true, true, true, true, true, true, true, false, false] [(0, vP tb 0), z65, (72, .agg #[vI (z62.x), vI (z62.y)]), (87, .agg #[vI z77, vI z79])] [tb, tb, (n43 + 0), (n43 + 0)] [] (by kernel_rfl) (by kernel_rfl) mn an 2 rfl ?_
        let z80 := (⟨IntKind.i64.wrap z76, IntKind.i64.wrap z78⟩ : V2)
        let z81 := vadd z62 z80
        refine TD.callv [] (by kernel_rfl) 16 [] [] (dst := (some 88)) (f := 23) (args := #[.agg #[vI (z62.x), vI (z62.y)], .agg #[vI z77, vI z79]]) (E := []) (Ob := []) [0, 4, 88] (.agg #[vI (z81.x), vI (z81.y)]) [(0, vP tb 0), z65, (88, .agg #[vI (z81.x), vI (z81.y)])] (by kernel_rfl) (by kernel_rfl) (by kernel_rfl) mn an (fun X_ => (vadd_any z62 z80  _)) (by kernel_rfl) 1 rfl ?_
        refine TD.one 17 (by kernel_rfl) 0 rfl fun a_ hF_ hcl_ => ?_
        refine OPJ.ev [] [.own 0, .own 0] [0, 4] (fun _ => [(0, vP tb 0), z65]) (fun _ => (ap [((n43 + 0), .lit [vI (z81.x), vI (z81.y)] 30 (0, 0)), z64, z1] [T])) (fun _ => [(n43 + 0), (n43 + 0)]) (fun _ => []) (fun _ => by kernel_rfl) mn (fun _ => an) (.inl ⟨[], fun _ => by kernel_rfl⟩) (.inl (by decide)) (fun _ => ?_) hF_ hcl_
        refine TD.fin (by kernel_rfl) (EX.np ?_)
        refine EX.next ?_
        refine TR.seq ?_
        refine TR.draw [8] [] rfl (by kernel_rfl) ?_
        let z82 := IntKind.i64.wrap (1024 - t.S.drag)
        refine TD.vals [] (by kernel_rfl) [0, 1, 2, 3, 4, 5, 6] [] [.own 0, .own 0, .own 2] [0, 4, 89, 95] [true, true, true, true, true, true, true, false, false] [(0, vP tb 0), z65, (89, .agg #[vI (z81.x), vI (z81.y)]), (95, vI z82)] [tb, (n43 + 0), (n43 + 0)] [] (by kernel_rfl) (by kernel_rfl) mn an 2 rfl ?_
        let z83 := vscale z81 z82
        refine TD.callv [] (by kernel_rfl) 7 [] [] (dst := (some 96)) (f := 24) (args := #[.agg #[vI (z81.x), vI (z81.y)], vI z82]) (E := []) (Ob := []) [0, 4, 96] (.agg #[vI (z83.x), vI (z83.y)]) [(0, vP tb 0), z65, (96, .agg #[vI (z83.x), vI (z83.y)])] (by kernel_rfl) (by kernel_rfl) (by kernel_rfl) mn an (fun X_ => (vscale_any z81 z82  _)) (by kernel_rfl) 1 rfl ?_
        refine TD.one 8 (by kernel_rfl) 0 rfl fun a_ hF_ hcl_ => ?_
        let z84 : Nat × Blk := ((n43 + 0), .lit [vI (z83.x), vI (z83.y)] 30 (0, 0))
        refine OPJ.ev [] [.own 0, .own 0] [0, 4] (fun _ => [(0, vP tb 0), z65]) (fun _ => (ap [z84, z64, z1] [T])) (fun _ => [(n43 + 0), (n43 + 0)]) (fun _ => []) (fun _ => by kernel_rfl) mn (fun _ => an) (.inl ⟨[], fun _ => by kernel_rfl⟩) (.inl (by decide)) (fun _ => ?_) hF_ hcl_
        refine TD.fin (by kernel_rfl) (EX.np ?_)
        refine EX.next ?_
        refine TR.seq ?_
        refine TR.draw [] [] rfl (by kernel_rfl) ?_
        refine TD.vals [] (by kernel_rfl) [0, 4, 1, 5, 2, 6, 3, 7] [] [.own 2, .own 2, .own 2, .own 2, .own 2, .own 2, .own 2, .own 2, .own 2, .own 2, .own 2, .own 2, .own 2, .own 2, .own 2, .own 2, .own 2] [0, 4, 100, 104] [true, true, true, true, true, true, true, true, false, false] [(0, vP tb 0), z65, (100, (Setup.v t.S)), (104, vI t.i)] [tb, tb, tb, tb, tb, tb, tb, tb, tb, tb, tb, tb, tb, tb, tb, tb, tb] [] (by kernel_rfl) (by kernel_rfl) mn an 2 rfl ?_
        refine TD.callv [] (by kernel_rfl) 8 [] [] (dst := (some 105)) (f := 37) (args := #[(Setup.v t.S), vI t.i]) (E := []) (Ob := []) [0, 4, 105] (vI z2) [(0, vP tb 0), z65, (105, vI z2)] (by kernel_rfl) (by kernel_rfl) (by kernel_rfl) mn an (fun X_ => (lbody_any t.S t.i _ hS.toSetN)) (by kernel_rfl) 1 rfl ?_
        have hb46 := bodyAt_bd hS.toSetN t.i
        let z85 : Nat × Value := (8, vI z2)
        refine TD.vals [] (by kernel_rfl) [9] [] [] [0, 4, 8] [true, true, true, true, true, true, true, true, true, true] [(0, vP tb 0), z65, z85] [] [] (by kernel_rfl) (by kernel_rfl) mn an 0 rfl ?_
        refine TD.fin (by kernel_rfl) (EX.np ?_)
        refine EX.next ?_
        refine TR.seq ?_
        refine TR.draw [11] [] rfl (by kernel_rfl) ?_
        let z86 := z2 + 2
        let z87 : Nat × Value := (111, vI z86)
        let z88 : Nat × Value := (116, .iface 41 (vP mb 0))
        refine TD.vals [] (by kernel_rfl) [0, 4, 6, 1, 5, 7, 2, 3, 9, 10] [] [.nw, .own 0, .own 2] [0, 4, 8, 111, 113, 116] [true, true, true, true, true, true, true, true, false, true, true, false] [(0, vP tb 0), z65, z85, z87, (113, vI (z83.x)), z88] [tb, (n43 + 0)] [-9223372036854775808 ≤ (bodyAt t.S t.i) + 2 ∧ (bodyAt t.S t.i) + 2 ≤ 9223372036854775807] (by kernel_rfl) (by kernel_rfl) mn (ac ⟨by omega, by omega⟩ an) 2 rfl ?_
        let z89 := clampI (z83.x) (-16384) 16384
        refine TD.callv [] (by kernel_rfl) 8 [] [] (dst := (some 114)) (f := 25) (args := #[vI (z83.x), vI (-16384), vI 16384]) (E := []) (Ob := []) [0, 4, 8, 111, 114, 116] (vI z89) [(0, vP tb 0), z65, z85, z87, (114, vI z89), z88] (by kernel_rfl) (by kernel_rfl) (by kernel_rfl) mn an (fun X_ => (clamp_any (z83.x) (-16384) 16384  _)) (by kernel_rfl) 1 rfl ?_
        refine TD.one 11 (by kernel_rfl) 0 rfl fun a_ hF_ hcl_ => ?_
        let z90 := M.set z86 z89
        refine OPJ.callT (τ := HL) [] [] (dst := (some 117)) (f := 150) (args := #[vP mb 0, vI z86, vI z89]) (A := [z84, z64, z1]) (Ts := [T]) (E := []) (Ob := []) [] [0, 1, 2] [0] [] [0, 4, 8] [] [z84, z64, z1] [T] [] (fun _ => []) (fun x => [x]) (fun _ x => MemH mb z90 (k + 7) x) (fun v_ => [(0, vP tb 0), z65, z85]) (fun _ => by kernel_rfl) mn an (by kernel_rfl) (by kernel_rfl) (by kernel_rfl) (by kernel_rfl) (by kernel_rfl) (by kernel_rfl) (fun _ => by kernel_rfl) [] (.inl (by kernel_rfl)) (.inl (by decide)) (set_any z86 z89 hM) ?_ hF_ hcl_
        rintro _ T47 hM48
        refine TD.fin (by kernel_rfl) (EX.np ?_)
        refine EX.next ?_
        refine TR.draw [11] [] rfl (by kernel_rfl) ?_
        let z91 := z2 + 3
        let z92 : Nat × Value := (123, vI z91)
        let z93 : Nat × Value := (128, .iface 41 (vP mb 0))
        refine TD.vals [] (by kernel_rfl) [0, 4, 6, 1, 5, 7, 2, 3, 9, 10] [] [.nw, .own 0, .own 2] [0, 123, 125, 128] [true, true, true, true, true, true, true, true, false, true, true, false] [(0, vP tb 0), z92, (125, vI (z83.y)), z93] [tb, (n43 + 0)] [-9223372036854775808 ≤ (bodyAt t.S t.i) + 3 ∧ (bodyAt t.S t.i) + 3 ≤ 9223372036854775807] (by kernel_rfl) (by kernel_rfl) mn (ac ⟨by omega, by omega⟩ an) 2 rfl ?_
        let z94 := clampI (z83.y) (-16384) 16384
        refine TD.callv [] (by kernel_rfl) 8 [] [] (dst := (some 126)) (f := 25) (args := #[vI (z83.y), vI (-16384), vI 16384]) (E := []) (Ob := []) [0, 123, 126, 128] (vI z94) [(0, vP tb 0), z92, (126, vI z94), z93] (by kernel_rfl) (by kernel_rfl) (by kernel_rfl) mn an (fun X_ => (clamp_any (z83.y) (-16384) 16384  _)) (by kernel_rfl) 1 rfl ?_
        refine TD.one 11 (by kernel_rfl) 0 rfl fun a_ hF_ hcl_ => ?_
        refine OPJ.callT (τ := HL) [] [] (dst := (some 129)) (f := 150) (args := #[vP mb 0, vI z91, vI z94]) (A := [z84, z64, z1]) (Ts := [T47]) (E := []) (Ob := []) [] [0, 1, 2] [0] [] [0] [] [z84, z64, z1] [T47] [] (fun _ => []) (fun x => [x]) (fun _ x => MemH mb (z90.set z91 z94) (k + 6) x) (fun v_ => [(0, vP tb 0)]) (fun _ => by kernel_rfl) mn an (by kernel_rfl) (by kernel_rfl) (by kernel_rfl) (by kernel_rfl) (by kernel_rfl) (by kernel_rfl) (fun _ => by kernel_rfl) [] (.inl (by kernel_rfl)) (.inl (by decide)) (set_any z91 z94 hM48) ?_ hF_ hcl_
        rintro _ T49 hM50
        refine TD.fin (by kernel_rfl) (EX.np ?_)
        refine EX.next ?_
        refine TR.seq ?_
        refine TR.seq ?_
        refine TR.draw [] [] rfl (by kernel_rfl) ?_
        refine TD.vals [] (by kernel_rfl) [0, 5, 1, 6, 2, 7, 3, 8, 4, 9, 10, 11] [] [.own 2, .own 2] [0, 141] [true, true, true, true, true, true, true, true, true, true, true, true] [(0, vP tb 0), (141, .bool (decide (IntKind.i64.wrap (t.i + 1) < (t.S.nb : Int))))] [tb, tb] [] (by kernel_rfl) (by kernel_rfl) mn an 0 rfl ?_
        refine TD.fin (by kernel_rfl) (EX.np ?_)
        refine EX.next ?_
        rcases Decidable.em (IntKind.i64.wrap (t.i + 1) < (t.S.nb : Int)) with h51 | h51
        · refine TR.yes (b := decide (IntKind.i64.wrap (t.i + 1) < (t.S.nb : Int))) (by kernel_rfl) (by kernel_rfl) (decide_eq_true h51) ?_
          refine TR.seq ?_
          refine TR.draw [11] [] rfl (by kernel_rfl) ?_
          let z95 := IntKind.i64.wrap (t.i + 1)
          refine TD.vals [] (by kernel_rfl) [0, 4, 1, 5, 2, 6, 3, 7, 8, 9, 10] [] [.own 2, .own 2] [150, 152] [true, true, true, true, true, true, true, true, true, true, true, false] [(150, vI z95), (152, .iface 41 (vP mb 0))] [tb, tb] [] (by kernel_rfl) (by kernel_rfl) mn an 1 rfl ?_
          refine TD.one 11 (by kernel_rfl) 0 rfl fun a_ hF_ hcl_ => ?_
          refine OPJ.callT (τ := HL) [] [] (dst := (some 153)) (f := 150) (args := #[vP mb 0, vI 2, vI z95]) (A := [z84, z64, z1]) (Ts := [T49]) (E := []) (Ob := []) [] [0, 1, 2] [0] [] [] [] [z84, z64, z1] [T49] [] (fun _ => []) (fun x => [x]) (fun _ x => MemH mb ((z90.set z91 z94).set 2 z95) (k + 5) x) (fun v_ => []) (fun _ => by kernel_rfl) mn an (by kernel_rfl) (by kernel_rfl) (by kernel_rfl) (by kernel_rfl) (by kernel_rfl) (by kernel_rfl) (fun _ => by kernel_rfl) [] (.inl (by kernel_rfl)) (.inl (by decide)) (set_any 2 z95 hM50) ?_ hF_ hcl_
          rintro _ T52 hM53
          refine TD.fin (by kernel_rfl) (EX.np ?_)
          refine EX.next ?_
          refine TR.ret (A := [z84, z64, z1]) (Ts := [T52]) (by exact fun _ _ h => h) rfl rfl [] [] (.tuple #[]) [] [] (fun _ => by kernel_rfl) mn an [2] [0, 1] [0] [] (ap [z1] [T52]) (by kernel_rfl) (by kernel_rfl) (by kernel_rfl) ?_
          refine ⟨T52, rfl, ?_⟩
          have e : (forceM t M) = (((M.set ((bodyAt t.S t.i) + 2) (clampI ((vscale (vadd (vadd (⟨(motM t.S M t.i).vx, (motM t.S M t.i).vy⟩ : V2) t.S.g) (⟨IntKind.i64.wrap ((M.get ((playerAt t.S t.i) + 0)) * t.S.push), IntKind.i64.wrap ((M.get ((playerAt t.S t.i) + 1)) * t.S.push)⟩ : V2)) (IntKind.i64.wrap (1024 - t.S.drag))).x) (-16384) 16384)).set ((bodyAt t.S t.i) + 3) (clampI ((vscale (vadd (vadd (⟨(motM t.S M t.i).vx, (motM t.S M t.i).vy⟩ : V2) t.S.g) (⟨IntKind.i64.wrap ((M.get ((playerAt t.S t.i) + 0)) * t.S.push), IntKind.i64.wrap ((M.get ((playerAt t.S t.i) + 1)) * t.S.push)⟩ : V2)) (IntKind.i64.wrap (1024 - t.S.drag))).y) (-16384) 16384)).set 2 (IntKind.i64.wrap (t.i + 1))) := by
            first | (simp only [forceM, forceA, forceB, forceC, forceV, if_neg h2, if_pos h41, if_pos h45, if_pos h51]; done) | (simp only [forceM, forceA, forceB, forceC, forceV, if_neg h2, if_pos h41, if_pos h45, if_pos h51]; rfl) | rfl
          rw [e]
          exact hM53.weak (by omega)
        · refine TR.no (b := decide (IntKind.i64.wrap (t.i + 1) < (t.S.nb : Int))) (by kernel_rfl) (by kernel_rfl) (decide_eq_false h51) ?_
          refine TR.skip ?_
          refine EX.next ?_
          refine TR.seq ?_
          refine TR.reg ?_
          refine TL.seg0 1 [] [] [0, 154] [(0, vP tb 0), (154, vP tb 0)] (ap [z84, z64, z1] [T49]) [] [] (fun _ => by kernel_rfl) mn an ?_
          let z96 := beginM t 4 1 (z90.set z91 z94)
          refine TL.callT (τ := HL) [] [] (dst := (some 155)) (f := 45) (args := #[vP tb 0, vI 4, vI 1]) (A := [z84, z64, z1]) (Ts := [T49]) (E := []) (Ob := []) [2] [0, 1] [0] [] [0] [z1] [z84, z64] [T49] [] (fun _ => [z1]) (fun x => [x]) (fun v x => MemH mb z96 (k + 3) x) (fun v_ => [(0, vP tb 0)]) (fun _ => by kernel_rfl) mn an (by kernel_rfl) (by kernel_rfl) (by kernel_rfl) (by kernel_rfl) (by kernel_rfl) (by kernel_rfl) (fun _ => by kernel_rfl) (begin_any t 4 1 tb mb (z90.set z91 z94) (k + 3) T49 _ hM50 hS.up ) ?_
          rintro _ T54 hM55
          refine TL.fin (by kernel_rfl) ?_
          refine EX.next ?_
          refine TR.reg ?_
          refine TL.seg0 4 [] [.own 0] [159] [(159, .iface 41 (vP mb 0))] (ap [z1, z84, z64] [T54]) [tb] [] (fun _ => by kernel_rfl) mn an ?_
          refine TL.callT (τ := HL) [] [] (dst := (some 160)) (f := 150) (args := #[vP mb 0, vI 4, vI 0]) (A := [z1, z84, z64]) (Ts := [T54]) (E := []) (Ob := []) [] [0, 1, 2] [0] [] [] [] [z1, z84, z64] [T54] [] (fun _ => []) (fun x => [x]) (fun _ x => MemH mb (z96.set 4 0) (k + 2) x) (fun v_ => []) (fun _ => by kernel_rfl) mn an (by kernel_rfl) (by kernel_rfl) (by kernel_rfl) (by kernel_rfl) (by kernel_rfl) (by kernel_rfl) (fun _ => by kernel_rfl) (set_any 4 0 hM55) ?_
          rintro _ T56 hM57
          refine TL.fin (by kernel_rfl) ?_
          refine EX.fin (A := [z1, z84, z64]) (Ts := [T56]) rfl rfl [] [] (.tuple #[]) [] [] (fun _ => by kernel_rfl) mn an [0] [1, 2] [0] [] (ap [z1] [T56]) (by kernel_rfl) (by kernel_rfl) (by kernel_rfl) ?_
          refine ⟨T56, rfl, ?_⟩
          have e : (forceM t M) = ((beginM t 4 1 ((M.set ((bodyAt t.S t.i) + 2) (clampI ((vscale (vadd (vadd (⟨(motM t.S M t.i).vx, (motM t.S M t.i).vy⟩ : V2) t.S.g) (⟨IntKind.i64.wrap ((M.get ((playerAt t.S t.i) + 0)) * t.S.push), IntKind.i64.wrap ((M.get ((playerAt t.S t.i) + 1)) * t.S.push)⟩ : V2)) (IntKind.i64.wrap (1024 - t.S.drag))).x) (-16384) 16384)).set ((bodyAt t.S t.i) + 3) (clampI ((vscale (vadd (vadd (⟨(motM t.S M t.i).vx, (motM t.S M t.i).vy⟩ : V2) t.S.g) (⟨IntKind.i64.wrap ((M.get ((playerAt t.S t.i) + 0)) * t.S.push), IntKind.i64.wrap ((M.get ((playerAt t.S t.i) + 1)) * t.S.push)⟩ : V2)) (IntKind.i64.wrap (1024 - t.S.drag))).y) (-16384) 16384))).set 4 0) := by
            first | (simp only [forceM, forceA, forceB, forceC, forceV, if_neg h2, if_pos h41, if_pos h45, if_neg h51]; done) | (simp only [forceM, forceA, forceB, forceC, forceV, if_neg h2, if_pos h41, if_pos h45, if_neg h51]; rfl) | rfl
          rw [e]
          exact hM57.weak (by omega)
      · refine TR.no (b := decide (playerAt t.S t.i ≥ 0)) (by kernel_rfl) (by kernel_rfl) (decide_eq_false h45) ?_
        refine TR.skip ?_
        refine EX.next ?_
        refine TR.seq ?_
        refine TR.draw [8] [] rfl (by kernel_rfl) ?_
        let z97 := IntKind.i64.wrap (1024 - t.S.drag)
        refine TD.vals [] (by kernel_rfl) [0, 1, 2, 3, 4, 5, 6] [] [.own 0, .own 0, .own 2] [0, 4, 89, 95] [true, true, true, true, true, true, true, false, false] [(0, vP tb 0), z65, (89, .agg #[vI (z62.x), vI (z62.y)]), (95, vI z97)] [tb, (n43 + 0), (n43 + 0)] [] (by kernel_rfl) (by kernel_rfl) mn an 2 rfl ?_
        let z98 := vscale z62 z97
        refine TD.callv [] (by kernel_rfl) 7 [] [] (dst := (some 96)) (f := 24) (args := #[.agg #[vI (z62.x), vI (z62.y)], vI z97]) (E := []) (Ob := []) [0, 4, 96] (.agg #[vI (z98.x), vI (z98.y)]) [(0, vP tb 0), z65, (96, .agg #[vI (z98.x), vI (z98.y)])] (by kernel_rfl) (by kernel_rfl) (by kernel_rfl) mn an (fun X_ => (vscale_any z62 z97  _)) (by kernel_rfl) 1 rfl ?_
        refine TD.one 8 (by kernel_rfl) 0 rfl fun a_ hF_ hcl_ => ?_
        let z99 : Nat × Blk := ((n43 + 0), .lit [vI (z98.x), vI (z98.y)] 30 (0, 0))
        refine OPJ.ev [] [.own 0, .own 0] [0, 4] (fun _ => [(0, vP tb 0), z65]) (fun _ => (ap [z99, z64, z1] [T])) (fun _ => [(n43 + 0), (n43 + 0)]) (fun _ => []) (fun _ => by kernel_rfl) mn (fun _ => an) (.inl ⟨[], fun _ => by kernel_rfl⟩) (.inl (by decide)) (fun _ => ?_) hF_ hcl_
        refine TD.fin (by kernel_rfl) (EX.np ?_)
        refine EX.next ?_
        refine TR.seq ?_
        refine TR.draw [] [] rfl (by kernel_rfl) ?_
        refine TD.vals [] (by kernel_rfl) [0, 4, 1, 5, 2, 6, 3, 7] [] [.own 2, .own 2, .own 2, .own 2, .own 2, .own 2, .own 2, .own 2, .own 2, .own 2, .own 2, .own 2, .own 2, .own 2, .own 2, .own 2, .own 2] [0, 4, 100, 104] [true, true, true, true, true, true, true, true, false, false] [(0, vP tb 0), z65, (100, (Setup.v t.S)), (104, vI t.i)] [tb, tb, tb, tb, tb, tb, tb, tb, tb, tb, tb, tb, tb, tb, tb, tb, tb] [] (by kernel_rfl) (by kernel_rfl) mn an 2 rfl ?_
        refine TD.callv [] (by kernel_rfl) 8 [] [] (dst := (some 105)) (f := 37) (args := #[(Setup.v t.S), vI t.i]) (E := []) (Ob := []) [0, 4, 105] (vI z2) [(0, vP tb 0), z65, (105, vI z2)] (by kernel_rfl) (by kernel_rfl) (by kernel_rfl) mn an (fun X_ => (lbody_any t.S t.i _ hS.toSetN)) (by kernel_rfl) 1 rfl ?_
        have hb58 := bodyAt_bd hS.toSetN t.i
        let z100 : Nat × Value := (8, vI z2)
        refine TD.vals [] (by kernel_rfl) [9] [] [] [0, 4, 8] [true, true, true, true, true, true, true, true, true, true] [(0, vP tb 0), z65, z100] [] [] (by kernel_rfl) (by kernel_rfl) mn an 0 rfl ?_
        refine TD.fin (by kernel_rfl) (EX.np ?_)
        refine EX.next ?_
        refine TR.seq ?_
        refine TR.draw [11] [] rfl (by kernel_rfl) ?_
        let z101 := z2 + 2
        let z102 : Nat × Value := (111, vI z101)
        let z103 : Nat × Value := (116, .iface 41 (vP mb 0))
        refine TD.vals [] (by kernel_rfl) [0, 4, 6, 1, 5, 7, 2, 3, 9, 10] [] [.nw, .own 0, .own 2] [0, 4, 8, 111, 113, 116] [true, true, true, true, true, true, true, true, false, true, true, false] [(0, vP tb 0), z65, z100, z102, (113, vI (z98.x)), z103] [tb, (n43 + 0)] [-9223372036854775808 ≤ (bodyAt t.S t.i) + 2 ∧ (bodyAt t.S t.i) + 2 ≤ 9223372036854775807] (by kernel_rfl) (by kernel_rfl) mn (ac ⟨by omega, by omega⟩ an) 2 rfl ?_
        let z104 := clampI (z98.x) (-16384) 16384
        refine TD.callv [] (by kernel_rfl) 8 [] [] (dst := (some 114)) (f := 25) (args := #[vI (z98.x), vI (-16384), vI 16384]) (E := []) (Ob := []) [0, 4, 8, 111, 114, 116] (vI z104) [(0, vP tb 0), z65, z100, z102, (114, vI z104), z103] (by kernel_rfl) (by kernel_rfl) (by kernel_rfl) mn an (fun X_ => (clamp_any (z98.x) (-16384) 16384  _)) (by kernel_rfl) 1 rfl ?_
        refine TD.one 11 (by kernel_rfl) 0 rfl fun a_ hF_ hcl_ => ?_
        let z105 := M.set z101 z104
        refine OPJ.callT (τ := HL) [] [] (dst := (some 117)) (f := 150) (args := #[vP mb 0, vI z101, vI z104]) (A := [z99, z64, z1]) (Ts := [T]) (E := []) (Ob := []) [] [0, 1, 2] [0] [] [0, 4, 8] [] [z99, z64, z1] [T] [] (fun _ => []) (fun x => [x]) (fun _ x => MemH mb z105 (k + 7) x) (fun v_ => [(0, vP tb 0), z65, z100]) (fun _ => by kernel_rfl) mn an (by kernel_rfl) (by kernel_rfl) (by kernel_rfl) (by kernel_rfl) (by kernel_rfl) (by kernel_rfl) (fun _ => by kernel_rfl) [] (.inl (by kernel_rfl)) (.inl (by decide)) (set_any z101 z104 hM) ?_ hF_ hcl_
        rintro _ T59 hM60
        refine TD.fin (by kernel_rfl) (EX.np ?_)
        refine EX.next ?_
        refine TR.draw [11] [] rfl (by kernel_rfl) ?_
        let z106 := z2 + 3
        let z107 : Nat × Value := (123, vI z106)
        let z108 : Nat × Value := (128, .iface 41 (vP mb 0))
        refine TD.vals [] (by kernel_rfl) [0, 4, 6, 1, 5, 7, 2, 3, 9, 10] [] [.nw, .own 0, .own 2] [0, 123, 125, 128] [true, true, true, true, true, true, true, true, false, true, true, false] [(0, vP tb 0), z107, (125, vI (z98.y)), z108] [tb, (n43 + 0)] [-9223372036854775808 ≤ (bodyAt t.S t.i) + 3 ∧ (bodyAt t.S t.i) + 3 ≤ 9223372036854775807] (by kernel_rfl) (by kernel_rfl) mn (ac ⟨by omega, by omega⟩ an) 2 rfl ?_
        let z109 := clampI (z98.y) (-16384) 16384
        refine TD.callv [] (by kernel_rfl) 8 [] [] (dst := (some 126)) (f := 25) (args := #[vI (z98.y), vI (-16384), vI 16384]) (E := []) (Ob := []) [0, 123, 126, 128] (vI z109) [(0, vP tb 0), z107, (126, vI z109), z108] (by kernel_rfl) (by kernel_rfl) (by kernel_rfl) mn an (fun X_ => (clamp_any (z98.y) (-16384) 16384  _)) (by kernel_rfl) 1 rfl ?_
        refine TD.one 11 (by kernel_rfl) 0 rfl fun a_ hF_ hcl_ => ?_
        refine OPJ.callT (τ := HL) [] [] (dst := (some 129)) (f := 150) (args := #[vP mb 0, vI z106, vI z109]) (A := [z99, z64, z1]) (Ts := [T59]) (E := []) (Ob := []) [] [0, 1, 2] [0] [] [0] [] [z99, z64, z1] [T59] [] (fun _ => []) (fun x => [x]) (fun _ x => MemH mb (z105.set z106 z109) (k + 6) x) (fun v_ => [(0, vP tb 0)]) (fun _ => by kernel_rfl) mn an (by kernel_rfl) (by kernel_rfl) (by kernel_rfl) (by kernel_rfl) (by kernel_rfl) (by kernel_rfl) (fun _ => by kernel_rfl) [] (.inl (by kernel_rfl)) (.inl (by decide)) (set_any z106 z109 hM60) ?_ hF_ hcl_
        rintro _ T61 hM62
        refine TD.fin (by kernel_rfl) (EX.np ?_)
        refine EX.next ?_
        refine TR.seq ?_
        refine TR.seq ?_
        refine TR.draw [] [] rfl (by kernel_rfl) ?_
        refine TD.vals [] (by kernel_rfl) [0, 5, 1, 6, 2, 7, 3, 8, 4, 9, 10, 11] [] [.own 2, .own 2] [0, 141] [true, true, true, true, true, true, true, true, true, true, true, true] [(0, vP tb 0), (141, .bool (decide (IntKind.i64.wrap (t.i + 1) < (t.S.nb : Int))))] [tb, tb] [] (by kernel_rfl) (by kernel_rfl) mn an 0 rfl ?_
        refine TD.fin (by kernel_rfl) (EX.np ?_)
        refine EX.next ?_
        rcases Decidable.em (IntKind.i64.wrap (t.i + 1) < (t.S.nb : Int)) with h63 | h63
        · refine TR.yes (b := decide (IntKind.i64.wrap (t.i + 1) < (t.S.nb : Int))) (by kernel_rfl) (by kernel_rfl) (decide_eq_true h63) ?_
          refine TR.seq ?_
          refine TR.draw [11] [] rfl (by kernel_rfl) ?_
          let z110 := IntKind.i64.wrap (t.i + 1)
          refine TD.vals [] (by kernel_rfl) [0, 4, 1, 5, 2, 6, 3, 7, 8, 9, 10] [] [.own 2, .own 2] [150, 152] [true, true, true, true, true, true, true, true, true, true, true, false] [(150, vI z110), (152, .iface 41 (vP mb 0))] [tb, tb] [] (by kernel_rfl) (by kernel_rfl) mn an 1 rfl ?_
          refine TD.one 11 (by kernel_rfl) 0 rfl fun a_ hF_ hcl_ => ?_
          refine OPJ.callT (τ := HL) [] [] (dst := (some 153)) (f := 150) (args := #[vP mb 0, vI 2, vI z110]) (A := [z99, z64, z1]) (Ts := [T61]) (E := []) (Ob := []) [] [0, 1, 2] [0] [] [] [] [z99, z64, z1] [T61] [] (fun _ => []) (fun x => [x]) (fun _ x => MemH mb ((z105.set z106 z109).set 2 z110) (k + 5) x) (fun v_ => []) (fun _ => by kernel_rfl) mn an (by kernel_rfl) (by kernel_rfl) (by kernel_rfl) (by kernel_rfl) (by kernel_rfl) (by kernel_rfl) (fun _ => by kernel_rfl) [] (.inl (by kernel_rfl)) (.inl (by decide)) (set_any 2 z110 hM62) ?_ hF_ hcl_
          rintro _ T64 hM65
          refine TD.fin (by kernel_rfl) (EX.np ?_)
          refine EX.next ?_
          refine TR.ret (A := [z99, z64, z1]) (Ts := [T64]) (by exact fun _ _ h => h) rfl rfl [] [] (.tuple #[]) [] [] (fun _ => by kernel_rfl) mn an [2] [0, 1] [0] [] (ap [z1] [T64]) (by kernel_rfl) (by kernel_rfl) (by kernel_rfl) ?_
          refine ⟨T64, rfl, ?_⟩
          have e : (forceM t M) = (((M.set ((bodyAt t.S t.i) + 2) (clampI ((vscale (vadd (⟨(motM t.S M t.i).vx, (motM t.S M t.i).vy⟩ : V2) t.S.g) (IntKind.i64.wrap (1024 - t.S.drag))).x) (-16384) 16384)).set ((bodyAt t.S t.i) + 3) (clampI ((vscale (vadd (⟨(motM t.S M t.i).vx, (motM t.S M t.i).vy⟩ : V2) t.S.g) (IntKind.i64.wrap (1024 - t.S.drag))).y) (-16384) 16384)).set 2 (IntKind.i64.wrap (t.i + 1))) := by
            first | (simp only [forceM, forceA, forceB, forceC, forceV, if_neg h2, if_pos h41, if_neg h45, if_pos h63]; done) | (simp only [forceM, forceA, forceB, forceC, forceV, if_neg h2, if_pos h41, if_neg h45, if_pos h63]; rfl) | rfl
          rw [e]
          exact hM65.weak (by omega)
        · refine TR.no (b := decide (IntKind.i64.wrap (t.i + 1) < (t.S.nb : Int))) (by kernel_rfl) (by kernel_rfl) (decide_eq_false h63) ?_
          refine TR.skip ?_
          refine EX.next ?_
          refine TR.seq ?_
          refine TR.reg ?_
          refine TL.seg0 1 [] [] [0, 154] [(0, vP tb 0), (154, vP tb 0)] (ap [z99, z64, z1] [T61]) [] [] (fun _ => by kernel_rfl) mn an ?_
          let z111 := beginM t 4 1 (z105.set z106 z109)
          refine TL.callT (τ := HL) [] [] (dst := (some 155)) (f := 45) (args := #[vP tb 0, vI 4, vI 1]) (A := [z99, z64, z1]) (Ts := [T61]) (E := []) (Ob := []) [2] [0, 1] [0] [] [0] [z1] [z99, z64] [T61] [] (fun _ => [z1]) (fun x => [x]) (fun v x => MemH mb z111 (k + 3) x) (fun v_ => [(0, vP tb 0)]) (fun _ => by kernel_rfl) mn an (by kernel_rfl) (by kernel_rfl) (by kernel_rfl) (by kernel_rfl) (by kernel_rfl) (by kernel_rfl) (fun _ => by kernel_rfl) (begin_any t 4 1 tb mb (z105.set z106 z109) (k + 3) T61 _ hM62 hS.up ) ?_
          rintro _ T66 hM67
          refine TL.fin (by kernel_rfl) ?_
          refine EX.next ?_
          refine TR.reg ?_
          refine TL.seg0 4 [] [.own 0] [159] [(159, .iface 41 (vP mb 0))] (ap [z1, z99, z64] [T66]) [tb] [] (fun _ => by kernel_rfl) mn an ?_
          refine TL.callT (τ := HL) [] [] (dst := (some 160)) (f := 150) (args := #[vP mb 0, vI 4, vI 0]) (A := [z1, z99, z64]) (Ts := [T66]) (E := []) (Ob := []) [] [0, 1, 2] [0] [] [] [] [z1, z99, z64] [T66] [] (fun _ => []) (fun x => [x]) (fun _ x => MemH mb (z111.set 4 0) (k + 2) x) (fun v_ => []) (fun _ => by kernel_rfl) mn an (by kernel_rfl) (by kernel_rfl) (by kernel_rfl) (by kernel_rfl) (by kernel_rfl) (by kernel_rfl) (fun _ => by kernel_rfl) (set_any 4 0 hM67) ?_
          rintro _ T68 hM69
          refine TL.fin (by kernel_rfl) ?_
          refine EX.fin (A := [z1, z99, z64]) (Ts := [T68]) rfl rfl [] [] (.tuple #[]) [] [] (fun _ => by kernel_rfl) mn an [0] [1, 2] [0] [] (ap [z1] [T68]) (by kernel_rfl) (by kernel_rfl) (by kernel_rfl) ?_
          refine ⟨T68, rfl, ?_⟩
          have e : (forceM t M) = ((beginM t 4 1 ((M.set ((bodyAt t.S t.i) + 2) (clampI ((vscale (vadd (⟨(motM t.S M t.i).vx, (motM t.S M t.i).vy⟩ : V2) t.S.g) (IntKind.i64.wrap (1024 - t.S.drag))).x) (-16384) 16384)).set ((bodyAt t.S t.i) + 3) (clampI ((vscale (vadd (⟨(motM t.S M t.i).vx, (motM t.S M t.i).vy⟩ : V2) t.S.g) (IntKind.i64.wrap (1024 - t.S.drag))).y) (-16384) 16384))).set 4 0) := by
            first | (simp only [forceM, forceA, forceB, forceC, forceV, if_neg h2, if_pos h41, if_neg h45, if_neg h63]; done) | (simp only [forceM, forceA, forceB, forceC, forceV, if_neg h2, if_pos h41, if_neg h45, if_neg h63]; rfl) | rfl
          rw [e]
          exact hM69.weak (by omega)
    · refine TR.no (b := decide z58) (by kernel_rfl) (by kernel_rfl) (decide_eq_false h41) ?_
      refine TR.skip ?_
      refine EX.next ?_
      refine TR.seq ?_
      refine TR.seq ?_
      refine TR.draw [] [] rfl (by kernel_rfl) ?_
      refine TD.vals [] (by kernel_rfl) [0, 5, 1, 6, 2, 7, 3, 8, 4, 9, 10, 11] [] [.own 0, .own 0] [0, 141] [true, true, true, true, true, true, true, true, true, true, true, true] [(0, vP tb 0), (141, .bool (decide (IntKind.i64.wrap (t.i + 1) < (t.S.nb : Int))))] [tb, tb] [] (by kernel_rfl) (by kernel_rfl) mn an 0 rfl ?_
      refine TD.fin (by kernel_rfl) (EX.np ?_)
      refine EX.next ?_
      rcases Decidable.em (IntKind.i64.wrap (t.i + 1) < (t.S.nb : Int)) with h70 | h70
      · refine TR.yes (b := decide (IntKind.i64.wrap (t.i + 1) < (t.S.nb : Int))) (by kernel_rfl) (by kernel_rfl) (decide_eq_true h70) ?_
        refine TR.seq ?_
        refine TR.draw [11] [] rfl (by kernel_rfl) ?_
        let z112 := IntKind.i64.wrap (t.i + 1)
        refine TD.vals [] (by kernel_rfl) [0, 4, 1, 5, 2, 6, 3, 7, 8, 9, 10] [] [.own 0, .own 0] [150, 152] [true, true, true, true, true, true, true, true, true, true, true, false] [(150, vI z112), (152, .iface 41 (vP mb 0))] [tb, tb] [] (by kernel_rfl) (by kernel_rfl) mn an 1 rfl ?_
        refine TD.one 11 (by kernel_rfl) 0 rfl fun a_ hF_ hcl_ => ?_
        refine OPJ.callT (τ := HL) [] [] (dst := (some 153)) (f := 150) (args := #[vP mb 0, vI 2, vI z112]) (A := [z1]) (Ts := [T]) (E := []) (Ob := []) [] [0] [0] [] [] [] [z1] [T] [] (fun _ => []) (fun x => [x]) (fun _ x => MemH mb (M.set 2 z112) (k + 7) x) (fun v_ => []) (fun _ => by kernel_rfl) mn an (by kernel_rfl) (by kernel_rfl) (by kernel_rfl) (by kernel_rfl) (by kernel_rfl) (by kernel_rfl) (fun _ => by kernel_rfl) [] (.inl (by kernel_rfl)) (.inl (by decide)) (set_any 2 z112 hM) ?_ hF_ hcl_
        rintro _ T71 hM72
        refine TD.fin (by kernel_rfl) (EX.np ?_)
        refine EX.next ?_
        refine TR.ret (A := [z1]) (Ts := [T71]) (by exact fun _ _ h => h) rfl rfl [] [] (.tuple #[]) [] [] (fun _ => by kernel_rfl) mn an [0] [] [0] [] (ap [z1] [T71]) (by kernel_rfl) (by kernel_rfl) (by kernel_rfl) ?_
        refine ⟨T71, rfl, ?_⟩
        have e : (forceM t M) = (M.set 2 (IntKind.i64.wrap (t.i + 1))) := by
          first | (simp only [forceM, forceA, forceB, forceC, forceV, if_neg h2, if_neg h41, if_pos h70]; done) | (simp only [forceM, forceA, forceB, forceC, forceV, if_neg h2, if_neg h41, if_pos h70]; rfl) | rfl
        rw [e]
        exact hM72.weak (by omega)
      · refine TR.no (b := decide (IntKind.i64.wrap (t.i + 1) < (t.S.nb : Int))) (by kernel_rfl) (by kernel_rfl) (decide_eq_false h70) ?_
        refine TR.skip ?_
        refine EX.next ?_
        refine TR.seq ?_
        refine TR.reg ?_
        refine TL.seg0 1 [] [] [0, 154] [(0, vP tb 0), (154, vP tb 0)] (ap [z1] [T]) [] [] (fun _ => by kernel_rfl) mn an ?_
        let z113 := beginM t 4 1 M
        refine TL.callT (τ := HL) [] [] (dst := (some 155)) (f := 45) (args := #[vP tb 0, vI 4, vI 1]) (A := [z1]) (Ts := [T]) (E := []) (Ob := []) [0] [] [0] [] [0] [z1] [] [T] [] (fun _ => [z1]) (fun x => [x]) (fun v x => MemH mb z113 (k + 5) x) (fun v_ => [(0, vP tb 0)]) (fun _ => by kernel_rfl) mn an (by kernel_rfl) (by kernel_rfl) (by kernel_rfl) (by kernel_rfl) (by kernel_rfl) (by kernel_rfl) (fun _ => by kernel_rfl) (begin_any t 4 1 tb mb M (k + 5) T _ hM hS.up ) ?_
        rintro _ T73 hM74
        refine TL.fin (by kernel_rfl) ?_
        refine EX.next ?_
        refine TR.reg ?_
        refine TL.seg0 4 [] [.own 0] [159] [(159, .iface 41 (vP mb 0))] (ap [z1] [T73]) [tb] [] (fun _ => by kernel_rfl) mn an ?_
        refine TL.callT (τ := HL) [] [] (dst := (some 160)) (f := 150) (args := #[vP mb 0, vI 4, vI 0]) (A := [z1]) (Ts := [T73]) (E := []) (Ob := []) [] [0] [0] [] [] [] [z1] [T73] [] (fun _ => []) (fun x => [x]) (fun _ x => MemH mb (z113.set 4 0) (k + 4) x) (fun v_ => []) (fun _ => by kernel_rfl) mn an (by kernel_rfl) (by kernel_rfl) (by kernel_rfl) (by kernel_rfl) (by kernel_rfl) (by kernel_rfl) (fun _ => by kernel_rfl) (set_any 4 0 hM74) ?_
        rintro _ T75 hM76
        refine TL.fin (by kernel_rfl) ?_
        refine EX.fin (A := [z1]) (Ts := [T75]) rfl rfl [] [] (.tuple #[]) [] [] (fun _ => by kernel_rfl) mn an [0] [] [0] [] (ap [z1] [T75]) (by kernel_rfl) (by kernel_rfl) (by kernel_rfl) ?_
        refine ⟨T75, rfl, ?_⟩
        have e : (forceM t M) = ((beginM t 4 1 M).set 4 0) := by
          first | (simp only [forceM, forceA, forceB, forceC, forceV, if_neg h2, if_neg h41, if_neg h70]; done) | (simp only [forceM, forceA, forceB, forceC, forceV, if_neg h2, if_neg h41, if_neg h70]; rfl) | rfl
        rw [e]
        exact hM76.weak (by omega)

set_option maxHeartbeats 4000000 in
set_option maxRecDepth 100000 in
theorem travel_any (t : Stp)  (tb mb : Nat) (M : MemS) (k : Nat) (T F : HL) (hM : MemH mb M (k + 4) T) (hS : SetIn F t.S) (hi : movP t.S t.i) : Sp Tryz.prog 54 #[vP tb 0] (ap [(tb, .lit (Stp.l t mb) 83 (0, 0))] [T]) F (fun u H' => ∃ x, H' = ap [(tb, .lit (Stp.l t mb) 83 (0, 0))] [x] ∧ (MemH mb (travelM t M) k x)) := by
  have hp := hS.pl
  have hn := hS.nb
  have hr := hS.room
  refine Sp.of_body Tryz.func54 rfl rfl rfl [(0, vP tb 0)] rfl ?_
  intro w0
  let z1 : Nat × Blk := (tb, .lit (Stp.l t mb) 83 (0, 0))
  refine TR.convH (ap [z1] [T]) rfl ?_
  refine TR.seq ?_
  refine TR.reg ?_
  refine TL.seg0 5 [] [.own 0] [0, 7, 11] [(0, vP tb 0), (7, vP tb 0), (11, vI t.i)] (ap [z1] [T]) [tb] [] (fun _ => by kernel_rfl) mn an ?_
  let z2 := motM t.S M t.i
  refine TL.callp (dst := (some 12)) (f := 49) (args := #[vP tb 0, vI t.i]) (H1 := (ap [z1] [T])) (E := []) (Ob := []) [] [] [0, 12] (.agg #[vI (z2.px), vI (z2.py), vI (z2.vx), vI (z2.vy), vI (z2.inv)]) [(0, vP tb 0), (12, .agg #[vI (z2.px), vI (z2.py), vI (z2.vx), vI (z2.vy), vI (z2.inv)])] (fun _ => by kernel_rfl) mn an (motion_any t t.i tb mb M _ T _ (in_ap 0 rfl) hS.up hM (sub_ap 0 rfl) (movP.has hi)) (by kernel_rfl) ?_
  let z3 : List Value := [vI (z2.px), vI (z2.py), vI (z2.vx), vI (z2.vy), vI (z2.inv)]
  refine TL.seg 2 [] [.own 0, .own 0, .own 0, .own 0, .own 0] [0, 2] (fun n1 => [(0, vP tb 0), (2, vP (n1 + 0) 0)]) (fun n1 => (ap [((n1 + 0), .lit z3 38 (0, 0)), z1] [T])) (fun n1 => [(n1 + 0), (n1 + 0), (n1 + 0), (n1 + 0), (n1 + 0)]) (fun n1 => []) (fun _ => by kernel_rfl) mn (fun n1 => an) ?_
  intro n1
  refine TL.fin (by kernel_rfl) ?_
  refine EX.next ?_
  refine TR.seq ?_
  refine TR.reg ?_
  let z4 : Nat × Value := (2, vP (n1 + 0) 0)
  let z5 : Nat × Blk := ((n1 + 0), .lit z3 38 (0, 0))
  refine TL.seg0 4 [] [.own 1] [0, 2, 16] [(0, vP tb 0), z4, (16, .iface 41 (vP mb 0))] (ap [z5, z1] [T]) [tb] [] (fun _ => by kernel_rfl) mn an ?_
  refine TL.callp (dst := (some 17)) (f := 28) (args := #[vP mb 0, vI 5]) (H1 := (ap [z5, z1] [T])) (E := []) (Ob := []) [] [] [0, 2, 17] (vI (M.get 5)) [(0, vP tb 0), z4, (17, vI (M.get 5))] (fun _ => by kernel_rfl) mn an (get_any 5 hM (sub_ap 0 rfl)) (by kernel_rfl) ?_
  let z6 := (M.get 5) + 128
  refine TL.seg0 3 [] [] [0, 2, 3] [(0, vP tb 0), z4, (3, vI (if IntKind.i64.wrap z6 < 1024 then IntKind.i64.wrap z6 else 1024))] (ap [z5, z1] [T]) [] [] (fun _ => by kernel_rfl) mn an ?_
  refine TL.fin (by kernel_rfl) ?_
  refine EX.next ?_
  refine TR.seq ?_
  refine TR.draw [8] [] rfl (by kernel_rfl) ?_
  let z7 : Nat × Value := (21, .agg #[vI (z2.px), vI (z2.py)])
  refine TD.vals [] (by kernel_rfl) [0, 2, 4, 1, 3] [] [.own 0, .own 0, .own 0, .own 0] [0, 21, 23, 24] [true, true, true, true, true, false, false, false, false] [(0, vP tb 0), z7, (23, .agg #[vI (z2.vx), vI (z2.vy)]), (24, vI (if IntKind.i64.wrap z6 < 1024 then IntKind.i64.wrap z6 else 1024))] [(n1 + 0), (n1 + 0), (n1 + 0), (n1 + 0)] [] (by kernel_rfl) (by kernel_rfl) mn an 4 rfl ?_
  let z8 := (⟨z2.vx, z2.vy⟩ : V2)
  let z9 := vmuldiv z8 (if IntKind.i64.wrap z6 < 1024 then IntKind.i64.wrap z6 else 1024) 1024
  refine TD.callv [] (by kernel_rfl) 5 [] [] (dst := (some 25)) (f := 62) (args := #[.agg #[vI (z2.vx), vI (z2.vy)], vI (if IntKind.i64.wrap z6 < 1024 then IntKind.i64.wrap z6 else 1024), vI 1024]) (E := []) (Ob := []) [0, 21, 25] (.agg #[vI (z9.x), vI (z9.y)]) [(0, vP tb 0), z7, (25, .agg #[vI (z9.x), vI (z9.y)])] (by kernel_rfl) (by kernel_rfl) (by kernel_rfl) mn an (fun X_ => (vmuldiv_any z8 (if IntKind.i64.wrap z6 < 1024 then IntKind.i64.wrap z6 else 1024) 1024  _)) (by kernel_rfl) 3 rfl ?_
  let z10 := (⟨z2.px, z2.py⟩ : V2)
  let z11 := vadd z10 z9
  let z12 : Nat × Value := (26, .agg #[vI (z11.x), vI (z11.y)])
  refine TD.callv [] (by kernel_rfl) 6 [] [] (dst := (some 26)) (f := 23) (args := #[.agg #[vI (z2.px), vI (z2.py)], .agg #[vI (z9.x), vI (z9.y)]]) (E := []) (Ob := []) [0, 26] (.agg #[vI (z11.x), vI (z11.y)]) [(0, vP tb 0), z12] (by kernel_rfl) (by kernel_rfl) (by kernel_rfl) mn an (fun X_ => (vadd_any z10 z9  _)) (by kernel_rfl) 2 rfl ?_
  refine TD.one 7 (by kernel_rfl) 1 rfl fun a_ hF_ hcl_ => ?_
  refine OPJ.ev [] [] [0, 4, 26] (fun n2 => [(0, vP tb 0), (4, vP (n2 + 0) 0), z12]) (fun n2 => (ap [((n2 + 0), .lit [vI 0, vI 0] 30 (0, 0)), z5, z1] [T])) (fun n2 => []) (fun n2 => []) (fun _ => by kernel_rfl) mn (fun n2 => an) (.inr ⟨by decide, fun n2 => ⟨[((n2 + 0), .lit [vI 0, vI 0] 30 (0, 0))], rfl⟩⟩) (.inr fun n2 => ⟨[((n2 + 0), .lit [vI 0, vI 0] 30 (0, 0))], rfl⟩) (fun n2 => ?_) hF_ hcl_
  refine TD.one 8 (by kernel_rfl) 0 rfl fun a_ hF_ hcl_ => ?_
  let z13 : Nat × Value := (4, vP (n2 + 0) 0)
  let z14 : Nat × Blk := ((n2 + 0), .lit [vI (z11.x), vI (z11.y)] 30 (0, 0))
  refine OPJ.ev [] [.own 0, .own 0] [0, 4] (fun _ => [(0, vP tb 0), z13]) (fun _ => (ap [z14, z5, z1] [T])) (fun _ => [(n2 + 0), (n2 + 0)]) (fun _ => []) (fun _ => by kernel_rfl) mn (fun _ => an) (.inl ⟨[], fun _ => by kernel_rfl⟩) (.inl (by decide)) (fun _ => ?_) hF_ hcl_
  refine TD.fin (by kernel_rfl) (EX.np ?_)
  refine EX.next ?_
  refine TR.seq ?_
  refine TR.draw [16] [] rfl (by kernel_rfl) ?_
  let z15 : Nat × Value := (40, .agg #[vI t.S.box.x0, vI t.S.box.y0, vI t.S.box.x1, vI t.S.box.y1])
  refine TD.vals [] (by kernel_rfl) [0, 4, 9, 1, 5, 10, 2, 6, 11, 3, 7, 12, 13] [] [.own 2, .own 2, .own 2, .own 2, .own 2, .own 2, .own 2, .own 2, .own 2, .own 2, .own 2, .own 2, .own 2, .own 2, .own 2, .own 2, .own 2, .own 2, .own 2, .own 2, .own 2] [0, 4, 30, 34, 40] [true, true, true, true, true, true, true, true, false, true, true, true, true, true, false, false, false] [(0, vP tb 0), z13, (30, (Setup.v t.S)), (34, vI t.i), z15] [tb, tb, tb, tb, tb, tb, tb, tb, tb, tb, tb, tb, tb, tb, tb, tb, tb, tb, tb, tb, tb] [] (by kernel_rfl) (by kernel_rfl) mn an 4 rfl ?_
  let z16 := bodyAt t.S t.i
  let z17 : Nat × Value := (35, vI z16)
  refine TD.callv [] (by kernel_rfl) 8 [] [] (dst := (some 35)) (f := 37) (args := #[(Setup.v t.S), vI t.i]) (E := []) (Ob := []) [0, 4, 35, 40] (vI z16) [(0, vP tb 0), z13, z17, z15] (by kernel_rfl) (by kernel_rfl) (by kernel_rfl) mn an (fun X_ => (lbody_any t.S t.i _ hS.toSetN)) (by kernel_rfl) 3 rfl ?_
  have hb3 := bodyAt_bd hS.toSetN t.i
  refine TD.one 14 (by kernel_rfl) 2 rfl fun a_ hF_ hcl_ => ?_
  refine OPJ.ev [] [] [0, 4, 6, 35, 40] (fun n4 => [(0, vP tb 0), z13, (6, vP (n4 + 0) 0), z17, z15]) (fun n4 => (ap [((n4 + 0), .lit [vI 0, vI 0, vI 0, vI 0] 25 (0, 0)), z14, z5, z1] [T])) (fun n4 => []) (fun n4 => []) (fun _ => by kernel_rfl) mn (fun n4 => an) (.inr ⟨by decide, fun n4 => ⟨[((n4 + 0), .lit [vI 0, vI 0, vI 0, vI 0] 25 (0, 0))], rfl⟩⟩) (.inr fun n4 => ⟨[((n4 + 0), .lit [vI 0, vI 0, vI 0, vI 0] 25 (0, 0))], rfl⟩) (fun n4 => ?_) hF_ hcl_
  let z18 : Nat × Value := (5, vI z16)
  let z19 : Nat × Value := (6, vP (n4 + 0) 0)
  refine TD.vals [] (by kernel_rfl) [15] [] [] [0, 4, 5, 6, 40] [true, true, true, true, true, true, true, true, true, true, true, true, true, true, true, true, false] [(0, vP tb 0), z13, z18, z19, z15] [] [] (by kernel_rfl) (by kernel_rfl) mn an 1 rfl ?_
  refine TD.one 16 (by kernel_rfl) 0 rfl fun a_ hF_ hcl_ => ?_
  let z20 : Nat × Blk := ((n4 + 0), .lit [vI t.S.box.x0, vI t.S.box.y0, vI t.S.box.x1, vI t.S.box.y1] 25 (0, 0))
  refine OPJ.ev [] [.own 0, .own 0, .own 0, .own 0] [0, 4, 5, 6] (fun _ => [(0, vP tb 0), z13, z18, z19]) (fun _ => (ap [z20, z14, z5, z1] [T])) (fun _ => [(n4 + 0), (n4 + 0), (n4 + 0), (n4 + 0)]) (fun _ => []) (fun _ => by kernel_rfl) mn (fun _ => an) (.inl ⟨[], fun _ => by kernel_rfl⟩) (.inl (by decide)) (fun _ => ?_) hF_ hcl_
  refine TD.fin (by kernel_rfl) (EX.np ?_)
  refine EX.next ?_
  refine TR.seq ?_
  refine TR.reg ?_
  let z21 := z16 + 0
  let z22 := z16 + 2
  refine TL.seg0 11 [] [.nw, .nw, .own 1, .own 0, .own 0] [0, 4, 5, 6, 41, 43, 45, 47, 49, 51] [(0, vP tb 0), z13, z18, z19, (41, vP tb 0), (43, vI z21), (45, vI z22), (47, vI (z11.x)), (49, vI t.S.box.x0), (51, vI t.S.box.x1)] (ap [z20, z14, z5, z1] [T]) [(n4 + 0), (n4 + 0), (n2 + 0)] [-9223372036854775808 ≤ (bodyAt t.S t.i) + 2 ∧ (bodyAt t.S t.i) + 2 ≤ 9223372036854775807, -9223372036854775808 ≤ (bodyAt t.S t.i) + 0 ∧ (bodyAt t.S t.i) + 0 ≤ 9223372036854775807] (fun _ => by kernel_rfl) mn (ac ⟨by omega, by omega⟩ (ac ⟨by omega, by omega⟩ an)) ?_
  let z23 := placeM t z21 z22 (z11.x) t.S.box.x0 t.S.box.x1 M
  refine TL.callT (τ := HL) [] [] (dst := (some 52)) (f := 63) (args := #[vP tb 0, vI z21, vI z22, vI (z11.x), vI t.S.box.x0, vI t.S.box.x1]) (A := [z20, z14, z5, z1]) (Ts := [T]) (E := []) (Ob := []) [3] [0, 1, 2] [0] [] [0, 4, 5, 6] [z1] [z20, z14, z5] [T] [] (fun _ => [z1]) (fun x => [x]) (fun v x => MemH mb z23 (k + 2) x) (fun v_ => [(0, vP tb 0), z13, z18, z19]) (fun _ => by kernel_rfl) mn an (by kernel_rfl) (by kernel_rfl) (by kernel_rfl) (by kernel_rfl) (by kernel_rfl) (by kernel_rfl) (fun _ => by kernel_rfl) (place_any t z21 z22 (z11.x) t.S.box.x0 t.S.box.x1 tb mb M (k + 2) T _ hM hS.up ) ?_
  rintro _ T5 hM6
  refine TL.fin (by kernel_rfl) ?_
  refine EX.next ?_
  refine TR.reg ?_
  let z24 := z16 + 1
  let z25 := z16 + 3
  refine TL.seg0 11 [] [.nw, .nw, .own 2, .own 1, .own 1] [53, 55, 57, 59, 61, 63] [(53, vP tb 0), (55, vI z24), (57, vI z25), (59, vI (z11.y)), (61, vI t.S.box.y0), (63, vI t.S.box.y1)] (ap [z1, z20, z14, z5] [T5]) [(n4 + 0), (n4 + 0), (n2 + 0)] [-9223372036854775808 ≤ (bodyAt t.S t.i) + 3 ∧ (bodyAt t.S t.i) + 3 ≤ 9223372036854775807, -9223372036854775808 ≤ (bodyAt t.S t.i) + 1 ∧ (bodyAt t.S t.i) + 1 ≤ 9223372036854775807] (fun _ => by kernel_rfl) mn (ac ⟨by omega, by omega⟩ (ac ⟨by omega, by omega⟩ an)) ?_
  refine TL.callT (τ := HL) [] [] (dst := (some 64)) (f := 63) (args := #[vP tb 0, vI z24, vI z25, vI (z11.y), vI t.S.box.y0, vI t.S.box.y1]) (A := [z1, z20, z14, z5]) (Ts := [T5]) (E := []) (Ob := []) [0] [1, 2, 3] [0] [] [] [z1] [z20, z14, z5] [T5] [] (fun _ => [z1]) (fun x => [x]) (fun v x => MemH mb (placeM t z24 z25 (z11.y) t.S.box.y0 t.S.box.y1 z23) k x) (fun v_ => []) (fun _ => by kernel_rfl) mn an (by kernel_rfl) (by kernel_rfl) (by kernel_rfl) (by kernel_rfl) (by kernel_rfl) (by kernel_rfl) (fun _ => by kernel_rfl) (place_any t z24 z25 (z11.y) t.S.box.y0 t.S.box.y1 tb mb z23 k T5 _ hM6 hS.up ) ?_
  rintro _ T7 hM8
  refine TL.fin (by kernel_rfl) ?_
  refine EX.fin (A := [z1, z20, z14, z5]) (Ts := [T7]) rfl rfl [] [] (.tuple #[]) [] [] (fun _ => by kernel_rfl) mn an [0] [1, 2, 3] [0] [] (ap [z1] [T7]) (by kernel_rfl) (by kernel_rfl) (by kernel_rfl) ?_
  refine ⟨T7, rfl, ?_⟩
  have e : (travelM t M) = (placeM t ((bodyAt t.S t.i) + 1) ((bodyAt t.S t.i) + 3) ((vadd (⟨(motM t.S M t.i).px, (motM t.S M t.i).py⟩ : V2) (vmuldiv (⟨(motM t.S M t.i).vx, (motM t.S M t.i).vy⟩ : V2) (if IntKind.i64.wrap ((M.get 5) + 128) < 1024 then IntKind.i64.wrap ((M.get 5) + 128) else 1024) 1024)).y) t.S.box.y0 t.S.box.y1 (placeM t ((bodyAt t.S t.i) + 0) ((bodyAt t.S t.i) + 2) ((vadd (⟨(motM t.S M t.i).px, (motM t.S M t.i).py⟩ : V2) (vmuldiv (⟨(motM t.S M t.i).vx, (motM t.S M t.i).vy⟩ : V2) (if IntKind.i64.wrap ((M.get 5) + 128) < 1024 then IntKind.i64.wrap ((M.get 5) + 128) else 1024) 1024)).x) t.S.box.x0 t.S.box.x1 M)) := by
    first | (simp only [travelM, travelP, travelF, if_pos hi]; done) | (simp only [travelM, travelP, travelF, if_pos hi]; rfl) | rfl
  rw [e]
  exact hM8.weak (by omega)
end Go.Proofs.YtpkincoclhpcgaaGreatDoor
