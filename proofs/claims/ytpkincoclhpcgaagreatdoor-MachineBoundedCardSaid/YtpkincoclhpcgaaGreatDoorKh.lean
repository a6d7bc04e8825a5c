/- Contracts, printed by a program. -/
import Derived.Test.YtpkincoclhpcgaaGreatDoorKg
namespace Go.Proofs.YtpkincoclhpcgaaGreatDoor
set_option linter.unusedSimpArgs false
set_option linter.unusedVariables false
open Go.RowKit
structure Gm where
  S : Setup
  cA : Option Addr
  cn : Nat
  cc : Nat
  e0 : Int
  e1 : Int
  e2 : Int
  version : Int
  ib : Nat
  io : Nat
  ni : Nat
  ic : Nat
  iR : Nat
  ins : List Inp
abbrev Gm.step (g : Gm) (M : MemS) : Stp := ⟨g.S, g.cA, g.cn, g.cc, g.e0, g.e1, g.e2, g.version, g.ib, g.io, g.ni, g.ic, g.iR, g.ins, M.get 2, M.get 3, false, 0, 0, 0, 0, false⟩

set_option maxHeartbeats 2000000 in
set_option maxRecDepth 100000 in
theorem trans0 (g : Gm) (mb : Nat) (M : MemS) (k : Nat) (T F : HL) (hM : MemH mb M (k + 20) T) (hS : SetIn F g.S) (hp : M.get 1 = 0) (hI : (g.ib, .rows 3 g.iR (inrow g.ins) 70 (0, 0)) ∈ F) (hir : g.io + g.ni ≤ g.iR ∧ g.ni ≤ 1000000) : Sp Tryz.prog 12 #[.iface 41 (vP mb 0), .agg #[vI g.S.players, vS g.S.bb (g.S.bo * 9) g.S.nb g.S.bc, vI g.S.box.x0, vI g.S.box.y0, vI g.S.box.x1, vI g.S.box.y1, .slice g.S.rA g.S.rn g.S.rc, .slice g.S.dA g.S.dn g.S.dc, vI g.S.fog, vI g.S.g.x, vI g.S.g.y, vI g.S.push, vI g.S.drag, vI g.S.rest, vI g.S.rounds, vI g.S.fuel], .agg #[.slice g.cA g.cn g.cc, vI g.e0, vI g.e1, vI g.e2], vI g.version, vS g.ib (g.io * 3) g.ni g.ic] (ap [] [T]) F (fun u H' => ∃ x, H' = ap [] [x] ∧ (MemH mb (inputM (g.step M) M) k x ∧ u = .tuple #[.bool (false), .agg #[vI 0, vI 0, vI 0, vI 0], .bool false])) := by
  refine Sp.of_body Tryz.func12 rfl rfl rfl [(0, .iface 41 (vP mb 0)), (1, .agg #[vI g.S.players, vS g.S.bb (g.S.bo * 9) g.S.nb g.S.bc, vI g.S.box.x0, vI g.S.box.y0, vI g.S.box.x1, vI g.S.box.y1, .slice g.S.rA g.S.rn g.S.rc, .slice g.S.dA g.S.dn g.S.dc, vI g.S.fog, vI g.S.g.x, vI g.S.g.y, vI g.S.push, vI g.S.drag, vI g.S.rest, vI g.S.rounds, vI g.S.fuel]), (2, .agg #[.slice g.cA g.cn g.cc, vI g.e0, vI g.e1, vI g.e2]), (3, vI g.version), (4, vS g.ib (g.io * 3) g.ni g.ic)] rfl ?_
  intro w0
  refine TR.convH (ap [] [T]) rfl ?_
  refine TR.seq ?_
  refine TR.reg ?_
  let z1 : Nat × Value := (0, .iface 41 (vP mb 0))
  let z2 : Nat × Value := (3, vI g.version)
  let z3 : Nat × Value := (4, vS g.ib (g.io * 3) g.ni g.ic)
  let z4 : List Value := [.slice g.cA g.cn g.cc, vI g.e0, vI g.e1, vI g.e2]
  let z5 : List Value := [vI g.S.players, vS g.S.bb (g.S.bo * 9) g.S.nb g.S.bc, vI g.S.box.x0, vI g.S.box.y0, vI g.S.box.x1, vI g.S.box.y1, .slice g.S.rA g.S.rn g.S.rc, .slice g.S.dA g.S.dn g.S.dc, vI g.S.fog, vI g.S.g.x, vI g.S.g.y, vI g.S.push, vI g.S.drag, vI g.S.rest, vI g.S.rounds, vI g.S.fuel]
  refine TL.seg 5 [] [] [0, 3, 4, 6, 7, 11] (fun n1 => [z1, z2, z3, (6, vP (n1 + 0) 0), (7, vP (n1 + 1) 0), (11, vP (n1 + 2) 0)]) (fun n1 => (ap [((n1 + 2), .lit [vI 0, vI 0, vI 0, vI 0] 49 (0, 0)), ((n1 + 1), .lit z4 54 (0, 0)), ((n1 + 0), .lit z5 32 (0, 0))] [T])) (fun n1 => []) (fun n1 => []) (fun _ => by kernel_rfl) mn (fun n1 => an) ?_
  intro n1
  refine TL.fin (by kernel_rfl) ?_
  refine EX.next ?_
  refine TR.seq ?_
  refine TR.reg ?_
  let z6 : Nat × Value := (6, vP (n1 + 0) 0)
  let z7 : Nat × Value := (7, vP (n1 + 1) 0)
  let z8 : Nat × Value := (11, vP (n1 + 2) 0)
  let z9 : List Value := [.func (.func 29) #[] #[], .func (.func 30) #[] #[], .func (.func 31) #[] #[], .func (.func 32) #[] #[], .func (.func 33) #[] #[], .func (.func 34) #[] #[], .func (.func 35) #[] #[], .func (.func 36) #[] #[]]
  let z10 : Nat × Blk := ((n1 + 2), .lit [vI 0, vI 0, vI 0, vI 0] 49 (0, 0))
  let z11 : Nat × Blk := ((n1 + 1), .lit z4 54 (0, 0))
  let z12 : Nat × Blk := ((n1 + 0), .lit z5 32 (0, 0))
  refine TL.seg 3 [] [.own 0, .own 0, .own 0, .own 0, .own 0, .own 0, .own 0, .own 0] [0, 3, 4, 6, 7, 11, 13] (fun n2 => [z1, z2, z3, z6, z7, z8, (13, vP (n2 + 0) 0)]) (fun n2 => (ap [((n2 + 0), .lit z9 81 (0, 0)), z10, z11, z12] [T])) (fun n2 => [(n2 + 0), (n2 + 0), (n2 + 0), (n2 + 0), (n2 + 0), (n2 + 0), (n2 + 0), (n2 + 0)]) (fun n2 => []) (fun _ => by kernel_rfl) mn (fun n2 => an) ?_
  intro n2
  refine TL.fin (by kernel_rfl) ?_
  refine EX.next ?_
  refine TR.seq ?_
  refine TR.seq ?_
  refine TR.reg ?_
  let z13 : Nat × Value := (13, vP (n2 + 0) 0)
  let z14 : Nat × Blk := ((n2 + 0), .lit z9 81 (0, 0))
  refine TL.seg0 2 [] [] [0, 3, 4, 6, 7, 11, 13, 18] [z1, z2, z3, z6, z7, z8, z13, (18, .bool false)] (ap [z14, z10, z11, z12] [T]) [] [] (fun _ => by kernel_rfl) mn an ?_
  refine TL.fin (by kernel_rfl) ?_
  refine EX.next ?_
  refine TR.no (by kernel_rfl) (by kernel_rfl) (rfl : false = false) ?_
  refine TR.skip ?_
  refine EX.next ?_
  refine TR.seq ?_
  refine TR.reg ?_
  refine TL.seg0 1 [] [] [0, 3, 4, 6, 7, 11, 13, 20] [z1, z2, z3, z6, z7, z8, z13, (20, .iface 41 (vP mb 0))] (ap [z14, z10, z11, z12] [T]) [] [] (fun _ => by kernel_rfl) mn an ?_
  refine TL.callp (dst := (some 21)) (f := 28) (args := #[vP mb 0, vI 1]) (H1 := (ap [z14, z10, z11, z12] [T])) (E := []) (Ob := []) [] [] [0, 3, 4, 6, 7, 11, 13, 21] (vI 0) [z1, z2, z3, z6, z7, z8, z13, (21, vI 0)] (fun _ => by kernel_rfl) mn an (get_lit 1 hp hM (sub_ap 0 rfl)) (by kernel_rfl) ?_
  refine TL.seg0 1 [] [] [0, 3, 4, 6, 7, 11, 13, 14] [z1, z2, z3, z6, z7, z8, z13, (14, vI 0)] (ap [z14, z10, z11, z12] [T]) [] [] (fun _ => by kernel_rfl) mn an ?_
  refine TL.fin (by kernel_rfl) ?_
  refine EX.next ?_
  refine TR.seq ?_
  refine TR.seq ?_
  refine TR.reg ?_
  refine TL.seg0 6 [] [] [0, 3, 4, 6, 7, 11, 13, 14, 27] [z1, z2, z3, z6, z7, z8, z13, (14, vI 0), (27, .bool false)] (ap [z14, z10, z11, z12] [T]) [] [] (fun _ => by kernel_rfl) mn an ?_
  refine TL.fin (by kernel_rfl) ?_
  refine EX.next ?_
  refine TR.no (by kernel_rfl) (by kernel_rfl) (rfl : false = false) ?_
  refine TR.skip ?_
  refine EX.next ?_
  refine TR.seq ?_
  refine TR.draw [] [] rfl (by kernel_rfl) ?_
  let z15 : Nat × Value := (29, .iface 41 (vP mb 0))
  let z16 : Nat × Value := (30, .agg #[vI g.S.players, vS g.S.bb (g.S.bo * 9) g.S.nb g.S.bc, vI g.S.box.x0, vI g.S.box.y0, vI g.S.box.x1, vI g.S.box.y1, .slice g.S.rA g.S.rn g.S.rc, .slice g.S.dA g.S.dn g.S.dc, vI g.S.fog, vI g.S.g.x, vI g.S.g.y, vI g.S.push, vI g.S.drag, vI g.S.rest, vI g.S.rounds, vI g.S.fuel])
  let z17 : Nat × Value := (31, .agg #[.slice g.cA g.cn g.cc, vI g.e0, vI g.e1, vI g.e2])
  let z18 : Nat × Value := (32, vI g.version)
  let z19 : Nat × Value := (33, vS g.ib (g.io * 3) g.ni g.ic)
  let z20 : Nat × Value := (36, .iface 41 (vP mb 0))
  refine TD.vals [] (by kernel_rfl) [0, 1, 2, 3, 4, 5, 7] [] [.own 3, .own 3, .own 3, .own 3, .own 3, .own 3, .own 3, .own 3, .own 3, .own 3, .own 3, .own 3, .own 3, .own 3, .own 3, .own 3, .own 2, .own 2, .own 2, .own 2] [11, 13, 14, 29, 30, 31, 32, 33, 34, 36] [true, true, true, true, true, true, false, true, false, false, false, false] [z8, z13, (14, vI 0), z15, z16, z17, z18, z19, (34, .iface 41 (vP mb 0)), z20] [(n1 + 1), (n1 + 1), (n1 + 1), (n1 + 1), (n1 + 0), (n1 + 0), (n1 + 0), (n1 + 0), (n1 + 0), (n1 + 0), (n1 + 0), (n1 + 0), (n1 + 0), (n1 + 0), (n1 + 0), (n1 + 0), (n1 + 0), (n1 + 0), (n1 + 0), (n1 + 0)] [] (by kernel_rfl) (by kernel_rfl) mn an 5 rfl ?_
  let z21 : Nat × Value := (35, vI (M.get 2))
  refine TD.callv [] (by kernel_rfl) 6 [] [] (dst := (some 35)) (f := 28) (args := #[vP mb 0, vI 2]) (E := []) (Ob := []) [11, 13, 14, 29, 30, 31, 32, 33, 35, 36] (vI (M.get 2)) [z8, z13, (14, vI 0), z15, z16, z17, z18, z19, z21, z20] (by kernel_rfl) (by kernel_rfl) (by kernel_rfl) mn an (fun X_ => (get_any 2 hM (sub_apX 0 rfl))) (by kernel_rfl) 4 rfl ?_
  refine TD.callv [] (by kernel_rfl) 8 [] [] (dst := (some 37)) (f := 28) (args := #[vP mb 0, vI 3]) (E := []) (Ob := []) [11, 13, 14, 29, 30, 31, 32, 33, 35, 37] (vI (M.get 3)) [z8, z13, (14, vI 0), z15, z16, z17, z18, z19, z21, (37, vI (M.get 3))] (by kernel_rfl) (by kernel_rfl) (by kernel_rfl) mn an (fun X_ => (get_any 3 hM (sub_apX 0 rfl))) (by kernel_rfl) 3 rfl ?_
  refine TD.vals [] (by kernel_rfl) [9] [] [] [11, 13, 14, 38] [true, true, true, true, true, true, true, true, true, true, false, false] [z8, z13, (14, vI 0), (38, .agg #[.iface 41 (vP mb 0), vI g.S.players, vS g.S.bb (g.S.bo * 9) g.S.nb g.S.bc, vI g.S.box.x0, vI g.S.box.y0, vI g.S.box.x1, vI g.S.box.y1, .slice g.S.rA g.S.rn g.S.rc, .slice g.S.dA g.S.dn g.S.dc, vI g.S.fog, vI g.S.g.x, vI g.S.g.y, vI g.S.push, vI g.S.drag, vI g.S.rest, vI g.S.rounds, vI g.S.fuel, .slice g.cA g.cn g.cc, vI g.e0, vI g.e1, vI g.e2, vI g.version, vS g.ib (g.io * 3) g.ni g.ic, vI (M.get 2), vI (M.get 3), .bool false, vI 0, vI 0, vI 0, vI 0, .bool false])] [] [] (by kernel_rfl) (by kernel_rfl) mn an 2 rfl ?_
  refine TD.one 10 (by kernel_rfl) 1 rfl fun a_ hF_ hcl_ => ?_
  let z22 : List Value := [.iface 41 (vP mb 0), vI g.S.players, vS g.S.bb (g.S.bo * 9) g.S.nb g.S.bc, vI g.S.box.x0, vI g.S.box.y0, vI g.S.box.x1, vI g.S.box.y1, .slice g.S.rA g.S.rn g.S.rc, .slice g.S.dA g.S.dn g.S.dc, vI g.S.fog, vI g.S.g.x, vI g.S.g.y, vI g.S.push, vI g.S.drag, vI g.S.rest, vI g.S.rounds, vI g.S.fuel, .slice g.cA g.cn g.cc, vI g.e0, vI g.e1, vI g.e2, vI g.version, vS g.ib (g.io * 3) g.ni g.ic, vI (M.get 2), vI (M.get 3), .bool false, vI 0, vI 0, vI 0, vI 0, .bool false]
  refine OPJ.ev [] [] [11, 13, 14, 39] (fun n3 => [z8, z13, (14, vI 0), (39, vP (n3 + 0) 0)]) (fun n3 => (ap [((n3 + 0), .lit z22 83 (0, 0)), z14, z10, z11, z12] [T])) (fun n3 => []) (fun n3 => []) (fun _ => by kernel_rfl) mn (fun n3 => an) (.inr ⟨by decide, fun n3 => ⟨[((n3 + 0), .lit z22 83 (0, 0))], rfl⟩⟩) (.inr fun n3 => ⟨[((n3 + 0), .lit z22 83 (0, 0))], rfl⟩) (fun n3 => ?_) hF_ hcl_
  let z23 : Nat × Value := (15, vP (n3 + 0) 0)
  refine TD.vals [] (by kernel_rfl) [11] [] [] [11, 13, 14, 15] [true, true, true, true, true, true, true, true, true, true, true, true] [z8, z13, (14, vI 0), z23] [] [] (by kernel_rfl) (by kernel_rfl) mn an 0 rfl ?_
  refine TD.fin (by kernel_rfl) (EX.np ?_)
  refine EX.next ?_
  refine TR.seq ?_
  refine TR.reg ?_
  let z24 : Nat × Blk := ((n3 + 0), .lit z22 83 (0, 0))
  refine TL.seg0 4 [] [.own 1] [11, 15, 42, 43] [z8, z23, (42, .func (.func 29) #[] #[]), (43, vP (n3 + 0) 0)] (ap [z24, z14, z10, z11, z12] [T]) [(n2 + 0)] [] (fun _ => by kernel_rfl) mn an ?_
  refine TL.callT (τ := HL) [] [] (dst := (some 44)) (f := 29) (args := #[vP (n3 + 0) 0]) (A := [z24, z14, z10, z11, z12]) (Ts := [T]) (E := []) (Ob := []) [0] [1, 2, 3, 4] [0] [] [11, 15] [z24] [z14, z10, z11, z12] [T] [] (fun _ => [z24]) (fun x => [x]) (fun v x => MemH mb (inputM (g.step M) M) (k + 12) x) (fun v_ => [z8, z23]) (fun _ => by kernel_rfl) mn an (by kernel_rfl) (by kernel_rfl) (by kernel_rfl) (by kernel_rfl) (by kernel_rfl) (by kernel_rfl) (fun _ => by kernel_rfl) (input_any (g.step M) (n3 + 0) mb M (k + 12) T _ hM hS.up (List.mem_append_right _ hI) hir) ?_
  rintro _ T4 hM5
  refine TL.fin (by kernel_rfl) ?_
  refine EX.next ?_
  refine TR.seq ?_
  refine TR.draw [13] [z24, z14, z11, z12] rfl (by kernel_rfl) ?_
  let z25 : Nat × Value := (10, .bool false)
  let z26 : Nat × Value := (56, .bool false)
  refine TD.vals [0, 1, 3, 4] (by kernel_rfl) [0, 4, 8, 1, 5, 9, 2, 6, 10, 3, 7, 11, 12] [] [.own 0, .own 0, .own 0, .own 0, .own 0, .ro 0] [10, 11, 52, 56] [true, true, true, true, true, true, true, true, true, true, true, true, true, false, false] [z25, z8, (52, .agg #[vI 0, vI 0, vI 0, vI 0]), z26] [(n3 + 0), (n3 + 0), (n3 + 0), (n3 + 0), (n3 + 0), (n3 + 0)] [] (by kernel_rfl) (by kernel_rfl) mn an 2 rfl ?_
  refine TD.one 13 (by kernel_rfl) 1 rfl fun a_ hF_ hcl_ => ?_
  refine OPJ.ev [] [.own 2, .own 2, .own 2, .own 2] [10, 11, 56] (fun _ => [z25, z8, z26]) (fun _ => (ap [z24, z14, z10, z11, z12] [T4])) (fun _ => [(n1 + 2), (n1 + 2), (n1 + 2), (n1 + 2)]) (fun _ => []) (fun _ => by kernel_rfl) mn (fun _ => an) (.inl ⟨[0, 1, 3, 4], fun _ => by kernel_rfl⟩) (.inl (by decide)) (fun _ => ?_) hF_ hcl_
  refine TD.vals [0, 1, 3, 4] (by kernel_rfl) [14] [] [] [10, 11, 12] [true, true, true, true, true, true, true, true, true, true, true, true, true, true, true] [z25, z8, (12, .bool false)] [] [] (by kernel_rfl) (by kernel_rfl) mn an 0 rfl ?_
  refine TD.fin (by kernel_rfl) (EX.np ?_)
  refine EX.next ?_
  refine TR.ret (A := [z24, z14, z10, z11, z12]) (Ts := [T4]) (by exact fun _ _ h => h) rfl rfl [] [.own 2, .own 2, .own 2, .own 2] (.tuple #[.bool false, .agg #[vI 0, vI 0, vI 0, vI 0], .bool false]) [(n1 + 2), (n1 + 2), (n1 + 2), (n1 + 2)] [] (fun _ => by kernel_rfl) mn an [] [0, 1, 2, 3, 4] [0] [] (ap [] [T4]) (by kernel_rfl) (by kernel_rfl) (by kernel_rfl) ?_
  exact ⟨T4, rfl, hM5.weak (by omega), rfl⟩

set_option maxHeartbeats 2000000 in
set_option maxRecDepth 100000 in
theorem trans1 (g : Gm) (mb : Nat) (M : MemS) (k : Nat) (T F : HL) (hM : MemH mb M (k + 20) T) (hS : SetIn F g.S) (hp : M.get 1 = 1) (hN : NoH (g.step M)) : Sp Tryz.prog 12 #[.iface 41 (vP mb 0), .agg #[vI g.S.players, vS g.S.bb (g.S.bo * 9) g.S.nb g.S.bc, vI g.S.box.x0, vI g.S.box.y0, vI g.S.box.x1, vI g.S.box.y1, .slice g.S.rA g.S.rn g.S.rc, .slice g.S.dA g.S.dn g.S.dc, vI g.S.fog, vI g.S.g.x, vI g.S.g.y, vI g.S.push, vI g.S.drag, vI g.S.rest, vI g.S.rounds, vI g.S.fuel], .agg #[.slice g.cA g.cn g.cc, vI g.e0, vI g.e1, vI g.e2], vI g.version, vS g.ib (g.io * 3) g.ni g.ic] (ap [] [T]) F (fun u H' => ∃ x, H' = ap [] [x] ∧ (MemH mb (actM (g.step M) M) k x ∧ u = .tuple #[.bool (false), .agg #[vI 0, vI 0, vI 0, vI 0], .bool false])) := by
  refine Sp.of_body Tryz.func12 rfl rfl rfl [(0, .iface 41 (vP mb 0)), (1, .agg #[vI g.S.players, vS g.S.bb (g.S.bo * 9) g.S.nb g.S.bc, vI g.S.box.x0, vI g.S.box.y0, vI g.S.box.x1, vI g.S.box.y1, .slice g.S.rA g.S.rn g.S.rc, .slice g.S.dA g.S.dn g.S.dc, vI g.S.fog, vI g.S.g.x, vI g.S.g.y, vI g.S.push, vI g.S.drag, vI g.S.rest, vI g.S.rounds, vI g.S.fuel]), (2, .agg #[.slice g.cA g.cn g.cc, vI g.e0, vI g.e1, vI g.e2]), (3, vI g.version), (4, vS g.ib (g.io * 3) g.ni g.ic)] rfl ?_
  intro w0
  refine TR.convH (ap [] [T]) rfl ?_
  refine TR.seq ?_
  refine TR.reg ?_
  let z1 : Nat × Value := (0, .iface 41 (vP mb 0))
  let z2 : Nat × Value := (3, vI g.version)
  let z3 : Nat × Value := (4, vS g.ib (g.io * 3) g.ni g.ic)
  let z4 : List Value := [.slice g.cA g.cn g.cc, vI g.e0, vI g.e1, vI g.e2]
  let z5 : List Value := [vI g.S.players, vS g.S.bb (g.S.bo * 9) g.S.nb g.S.bc, vI g.S.box.x0, vI g.S.box.y0, vI g.S.box.x1, vI g.S.box.y1, .slice g.S.rA g.S.rn g.S.rc, .slice g.S.dA g.S.dn g.S.dc, vI g.S.fog, vI g.S.g.x, vI g.S.g.y, vI g.S.push, vI g.S.drag, vI g.S.rest, vI g.S.rounds, vI g.S.fuel]
  refine TL.seg 5 [] [] [0, 3, 4, 6, 7, 11] (fun n1 => [z1, z2, z3, (6, vP (n1 + 0) 0), (7, vP (n1 + 1) 0), (11, vP (n1 + 2) 0)]) (fun n1 => (ap [((n1 + 2), .lit [vI 0, vI 0, vI 0, vI 0] 49 (0, 0)), ((n1 + 1), .lit z4 54 (0, 0)), ((n1 + 0), .lit z5 32 (0, 0))] [T])) (fun n1 => []) (fun n1 => []) (fun _ => by kernel_rfl) mn (fun n1 => an) ?_
  intro n1
  refine TL.fin (by kernel_rfl) ?_
  refine EX.next ?_
  refine TR.seq ?_
  refine TR.reg ?_
  let z6 : Nat × Value := (6, vP (n1 + 0) 0)
  let z7 : Nat × Value := (7, vP (n1 + 1) 0)
  let z8 : Nat × Value := (11, vP (n1 + 2) 0)
  let z9 : List Value := [.func (.func 29) #[] #[], .func (.func 30) #[] #[], .func (.func 31) #[] #[], .func (.func 32) #[] #[], .func (.func 33) #[] #[], .func (.func 34) #[] #[], .func (.func 35) #[] #[], .func (.func 36) #[] #[]]
  let z10 : Nat × Blk := ((n1 + 2), .lit [vI 0, vI 0, vI 0, vI 0] 49 (0, 0))
  let z11 : Nat × Blk := ((n1 + 1), .lit z4 54 (0, 0))
  let z12 : Nat × Blk := ((n1 + 0), .lit z5 32 (0, 0))
  refine TL.seg 3 [] [.own 0, .own 0, .own 0, .own 0, .own 0, .own 0, .own 0, .own 0] [0, 3, 4, 6, 7, 11, 13] (fun n2 => [z1, z2, z3, z6, z7, z8, (13, vP (n2 + 0) 0)]) (fun n2 => (ap [((n2 + 0), .lit z9 81 (0, 0)), z10, z11, z12] [T])) (fun n2 => [(n2 + 0), (n2 + 0), (n2 + 0), (n2 + 0), (n2 + 0), (n2 + 0), (n2 + 0), (n2 + 0)]) (fun n2 => []) (fun _ => by kernel_rfl) mn (fun n2 => an) ?_
  intro n2
  refine TL.fin (by kernel_rfl) ?_
  refine EX.next ?_
  refine TR.seq ?_
  refine TR.seq ?_
  refine TR.reg ?_
  let z13 : Nat × Value := (13, vP (n2 + 0) 0)
  let z14 : Nat × Blk := ((n2 + 0), .lit z9 81 (0, 0))
  refine TL.seg0 2 [] [] [0, 3, 4, 6, 7, 11, 13, 18] [z1, z2, z3, z6, z7, z8, z13, (18, .bool false)] (ap [z14, z10, z11, z12] [T]) [] [] (fun _ => by kernel_rfl) mn an ?_
  refine TL.fin (by kernel_rfl) ?_
  refine EX.next ?_
  refine TR.no (by kernel_rfl) (by kernel_rfl) (rfl : false = false) ?_
  refine TR.skip ?_
  refine EX.next ?_
  refine TR.seq ?_
  refine TR.reg ?_
  refine TL.seg0 1 [] [] [0, 3, 4, 6, 7, 11, 13, 20] [z1, z2, z3, z6, z7, z8, z13, (20, .iface 41 (vP mb 0))] (ap [z14, z10, z11, z12] [T]) [] [] (fun _ => by kernel_rfl) mn an ?_
  refine TL.callp (dst := (some 21)) (f := 28) (args := #[vP mb 0, vI 1]) (H1 := (ap [z14, z10, z11, z12] [T])) (E := []) (Ob := []) [] [] [0, 3, 4, 6, 7, 11, 13, 21] (vI 1) [z1, z2, z3, z6, z7, z8, z13, (21, vI 1)] (fun _ => by kernel_rfl) mn an (get_lit 1 hp hM (sub_ap 0 rfl)) (by kernel_rfl) ?_
  refine TL.seg0 1 [] [] [0, 3, 4, 6, 7, 11, 13, 14] [z1, z2, z3, z6, z7, z8, z13, (14, vI 1)] (ap [z14, z10, z11, z12] [T]) [] [] (fun _ => by kernel_rfl) mn an ?_
  refine TL.fin (by kernel_rfl) ?_
  refine EX.next ?_
  refine TR.seq ?_
  refine TR.seq ?_
  refine TR.reg ?_
  refine TL.seg0 6 [] [] [0, 3, 4, 6, 7, 11, 13, 14, 27] [z1, z2, z3, z6, z7, z8, z13, (14, vI 1), (27, .bool false)] (ap [z14, z10, z11, z12] [T]) [] [] (fun _ => by kernel_rfl) mn an ?_
  refine TL.fin (by kernel_rfl) ?_
  refine EX.next ?_
  refine TR.no (by kernel_rfl) (by kernel_rfl) (rfl : false = false) ?_
  refine TR.skip ?_
  refine EX.next ?_
  refine TR.seq ?_
  refine TR.draw [] [] rfl (by kernel_rfl) ?_
  let z15 : Nat × Value := (29, .iface 41 (vP mb 0))
  let z16 : Nat × Value := (30, .agg #[vI g.S.players, vS g.S.bb (g.S.bo * 9) g.S.nb g.S.bc, vI g.S.box.x0, vI g.S.box.y0, vI g.S.box.x1, vI g.S.box.y1, .slice g.S.rA g.S.rn g.S.rc, .slice g.S.dA g.S.dn g.S.dc, vI g.S.fog, vI g.S.g.x, vI g.S.g.y, vI g.S.push, vI g.S.drag, vI g.S.rest, vI g.S.rounds, vI g.S.fuel])
  let z17 : Nat × Value := (31, .agg #[.slice g.cA g.cn g.cc, vI g.e0, vI g.e1, vI g.e2])
  let z18 : Nat × Value := (32, vI g.version)
  let z19 : Nat × Value := (33, vS g.ib (g.io * 3) g.ni g.ic)
  let z20 : Nat × Value := (36, .iface 41 (vP mb 0))
  refine TD.vals [] (by kernel_rfl) [0, 1, 2, 3, 4, 5, 7] [] [.own 3, .own 3, .own 3, .own 3, .own 3, .own 3, .own 3, .own 3, .own 3, .own 3, .own 3, .own 3, .own 3, .own 3, .own 3, .own 3, .own 2, .own 2, .own 2, .own 2] [11, 13, 14, 29, 30, 31, 32, 33, 34, 36] [true, true, true, true, true, true, false, true, false, false, false, false] [z8, z13, (14, vI 1), z15, z16, z17, z18, z19, (34, .iface 41 (vP mb 0)), z20] [(n1 + 1), (n1 + 1), (n1 + 1), (n1 + 1), (n1 + 0), (n1 + 0), (n1 + 0), (n1 + 0), (n1 + 0), (n1 + 0), (n1 + 0), (n1 + 0), (n1 + 0), (n1 + 0), (n1 + 0), (n1 + 0), (n1 + 0), (n1 + 0), (n1 + 0), (n1 + 0)] [] (by kernel_rfl) (by kernel_rfl) mn an 5 rfl ?_
  let z21 : Nat × Value := (35, vI (M.get 2))
  refine TD.callv [] (by kernel_rfl) 6 [] [] (dst := (some 35)) (f := 28) (args := #[vP mb 0, vI 2]) (E := []) (Ob := []) [11, 13, 14, 29, 30, 31, 32, 33, 35, 36] (vI (M.get 2)) [z8, z13, (14, vI 1), z15, z16, z17, z18, z19, z21, z20] (by kernel_rfl) (by kernel_rfl) (by kernel_rfl) mn an (fun X_ => (get_any 2 hM (sub_apX 0 rfl))) (by kernel_rfl) 4 rfl ?_
  refine TD.callv [] (by kernel_rfl) 8 [] [] (dst := (some 37)) (f := 28) (args := #[vP mb 0, vI 3]) (E := []) (Ob := []) [11, 13, 14, 29, 30, 31, 32, 33, 35, 37] (vI (M.get 3)) [z8, z13, (14, vI 1), z15, z16, z17, z18, z19, z21, (37, vI (M.get 3))] (by kernel_rfl) (by kernel_rfl) (by kernel_rfl) mn an (fun X_ => (get_any 3 hM (sub_apX 0 rfl))) (by kernel_rfl) 3 rfl ?_
  refine TD.vals [] (by kernel_rfl) [9] [] [] [11, 13, 14, 38] [true, true, true, true, true, true, true, true, true, true, false, false] [z8, z13, (14, vI 1), (38, .agg #[.iface 41 (vP mb 0), vI g.S.players, vS g.S.bb (g.S.bo * 9) g.S.nb g.S.bc, vI g.S.box.x0, vI g.S.box.y0, vI g.S.box.x1, vI g.S.box.y1, .slice g.S.rA g.S.rn g.S.rc, .slice g.S.dA g.S.dn g.S.dc, vI g.S.fog, vI g.S.g.x, vI g.S.g.y, vI g.S.push, vI g.S.drag, vI g.S.rest, vI g.S.rounds, vI g.S.fuel, .slice g.cA g.cn g.cc, vI g.e0, vI g.e1, vI g.e2, vI g.version, vS g.ib (g.io * 3) g.ni g.ic, vI (M.get 2), vI (M.get 3), .bool false, vI 0, vI 0, vI 0, vI 0, .bool false])] [] [] (by kernel_rfl) (by kernel_rfl) mn an 2 rfl ?_
  refine TD.one 10 (by kernel_rfl) 1 rfl fun a_ hF_ hcl_ => ?_
  let z22 : List Value := [.iface 41 (vP mb 0), vI g.S.players, vS g.S.bb (g.S.bo * 9) g.S.nb g.S.bc, vI g.S.box.x0, vI g.S.box.y0, vI g.S.box.x1, vI g.S.box.y1, .slice g.S.rA g.S.rn g.S.rc, .slice g.S.dA g.S.dn g.S.dc, vI g.S.fog, vI g.S.g.x, vI g.S.g.y, vI g.S.push, vI g.S.drag, vI g.S.rest, vI g.S.rounds, vI g.S.fuel, .slice g.cA g.cn g.cc, vI g.e0, vI g.e1, vI g.e2, vI g.version, vS g.ib (g.io * 3) g.ni g.ic, vI (M.get 2), vI (M.get 3), .bool false, vI 0, vI 0, vI 0, vI 0, .bool false]
  refine OPJ.ev [] [] [11, 13, 14, 39] (fun n3 => [z8, z13, (14, vI 1), (39, vP (n3 + 0) 0)]) (fun n3 => (ap [((n3 + 0), .lit z22 83 (0, 0)), z14, z10, z11, z12] [T])) (fun n3 => []) (fun n3 => []) (fun _ => by kernel_rfl) mn (fun n3 => an) (.inr ⟨by decide, fun n3 => ⟨[((n3 + 0), .lit z22 83 (0, 0))], rfl⟩⟩) (.inr fun n3 => ⟨[((n3 + 0), .lit z22 83 (0, 0))], rfl⟩) (fun n3 => ?_) hF_ hcl_
  let z23 : Nat × Value := (15, vP (n3 + 0) 0)
  refine TD.vals [] (by kernel_rfl) [11] [] [] [11, 13, 14, 15] [true, true, true, true, true, true, true, true, true, true, true, true] [z8, z13, (14, vI 1), z23] [] [] (by kernel_rfl) (by kernel_rfl) mn an 0 rfl ?_
  refine TD.fin (by kernel_rfl) (EX.np ?_)
  refine EX.next ?_
  refine TR.seq ?_
  refine TR.reg ?_
  let z24 : Nat × Blk := ((n3 + 0), .lit z22 83 (0, 0))
  refine TL.seg0 4 [] [.own 1] [11, 15, 42, 43] [z8, z23, (42, .func (.func 30) #[] #[]), (43, vP (n3 + 0) 0)] (ap [z24, z14, z10, z11, z12] [T]) [(n2 + 0)] [] (fun _ => by kernel_rfl) mn an ?_
  refine TL.callT (τ := HL) [] [] (dst := (some 44)) (f := 30) (args := #[vP (n3 + 0) 0]) (A := [z24, z14, z10, z11, z12]) (Ts := [T]) (E := []) (Ob := []) [0] [1, 2, 3, 4] [0] [] [11, 15] [z24] [z14, z10, z11, z12] [T] [] (fun _ => [z24]) (fun x => [x]) (fun v x => MemH mb (actM (g.step M) M) (k + 17) x) (fun v_ => [z8, z23]) (fun _ => by kernel_rfl) mn an (by kernel_rfl) (by kernel_rfl) (by kernel_rfl) (by kernel_rfl) (by kernel_rfl) (by kernel_rfl) (fun _ => by kernel_rfl) (act_no (g.step M) (n3 + 0) mb M (k + 17) T _ hM hS.up hN) ?_
  rintro _ T4 hM5
  refine TL.fin (by kernel_rfl) ?_
  refine EX.next ?_
  refine TR.seq ?_
  refine TR.draw [13] [z24, z14, z11, z12] rfl (by kernel_rfl) ?_
  let z25 : Nat × Value := (10, .bool false)
  let z26 : Nat × Value := (56, .bool false)
  refine TD.vals [0, 1, 3, 4] (by kernel_rfl) [0, 4, 8, 1, 5, 9, 2, 6, 10, 3, 7, 11, 12] [] [.own 0, .own 0, .own 0, .own 0, .own 0, .ro 0] [10, 11, 52, 56] [true, true, true, true, true, true, true, true, true, true, true, true, true, false, false] [z25, z8, (52, .agg #[vI 0, vI 0, vI 0, vI 0]), z26] [(n3 + 0), (n3 + 0), (n3 + 0), (n3 + 0), (n3 + 0), (n3 + 0)] [] (by kernel_rfl) (by kernel_rfl) mn an 2 rfl ?_
  refine TD.one 13 (by kernel_rfl) 1 rfl fun a_ hF_ hcl_ => ?_
  refine OPJ.ev [] [.own 2, .own 2, .own 2, .own 2] [10, 11, 56] (fun _ => [z25, z8, z26]) (fun _ => (ap [z24, z14, z10, z11, z12] [T4])) (fun _ => [(n1 + 2), (n1 + 2), (n1 + 2), (n1 + 2)]) (fun _ => []) (fun _ => by kernel_rfl) mn (fun _ => an) (.inl ⟨[0, 1, 3, 4], fun _ => by kernel_rfl⟩) (.inl (by decide)) (fun _ => ?_) hF_ hcl_
  refine TD.vals [0, 1, 3, 4] (by kernel_rfl) [14] [] [] [10, 11, 12] [true, true, true, true, true, true, true, true, true, true, true, true, true, true, true] [z25, z8, (12, .bool false)] [] [] (by kernel_rfl) (by kernel_rfl) mn an 0 rfl ?_
  refine TD.fin (by kernel_rfl) (EX.np ?_)
  refine EX.next ?_
  refine TR.ret (A := [z24, z14, z10, z11, z12]) (Ts := [T4]) (by exact fun _ _ h => h) rfl rfl [] [.own 2, .own 2, .own 2, .own 2] (.tuple #[.bool false, .agg #[vI 0, vI 0, vI 0, vI 0], .bool false]) [(n1 + 2), (n1 + 2), (n1 + 2), (n1 + 2)] [] (fun _ => by kernel_rfl) mn an [] [0, 1, 2, 3, 4] [0] [] (ap [] [T4]) (by kernel_rfl) (by kernel_rfl) (by kernel_rfl) ?_
  exact ⟨T4, rfl, hM5.weak (by omega), rfl⟩

set_option maxHeartbeats 2000000 in
set_option maxRecDepth 100000 in
theorem trans2 (g : Gm) (mb : Nat) (M : MemS) (k : Nat) (T F : HL) (hM : MemH mb M (k + 20) T) (hS : SetIn F g.S) (hp : M.get 1 = 2) (hN : NoH (g.step M)) : Sp Tryz.prog 12 #[.iface 41 (vP mb 0), .agg #[vI g.S.players, vS g.S.bb (g.S.bo * 9) g.S.nb g.S.bc, vI g.S.box.x0, vI g.S.box.y0, vI g.S.box.x1, vI g.S.box.y1, .slice g.S.rA g.S.rn g.S.rc, .slice g.S.dA g.S.dn g.S.dc, vI g.S.fog, vI g.S.g.x, vI g.S.g.y, vI g.S.push, vI g.S.drag, vI g.S.rest, vI g.S.rounds, vI g.S.fuel], .agg #[.slice g.cA g.cn g.cc, vI g.e0, vI g.e1, vI g.e2], vI g.version, vS g.ib (g.io * 3) g.ni g.ic] (ap [] [T]) F (fun u H' => ∃ x, H' = ap [] [x] ∧ (MemH mb (tickM (g.step M) M) k x ∧ u = .tuple #[.bool (false), .agg #[vI 0, vI 0, vI 0, vI 0], .bool false])) := by
  refine Sp.of_body Tryz.func12 rfl rfl rfl [(0, .iface 41 (vP mb 0)), (1, .agg #[vI g.S.players, vS g.S.bb (g.S.bo * 9) g.S.nb g.S.bc, vI g.S.box.x0, vI g.S.box.y0, vI g.S.box.x1, vI g.S.box.y1, .slice g.S.rA g.S.rn g.S.rc, .slice g.S.dA g.S.dn g.S.dc, vI g.S.fog, vI g.S.g.x, vI g.S.g.y, vI g.S.push, vI g.S.drag, vI g.S.rest, vI g.S.rounds, vI g.S.fuel]), (2, .agg #[.slice g.cA g.cn g.cc, vI g.e0, vI g.e1, vI g.e2]), (3, vI g.version), (4, vS g.ib (g.io * 3) g.ni g.ic)] rfl ?_
  intro w0
  refine TR.convH (ap [] [T]) rfl ?_
  refine TR.seq ?_
  refine TR.reg ?_
  let z1 : Nat × Value := (0, .iface 41 (vP mb 0))
  let z2 : Nat × Value := (3, vI g.version)
  let z3 : Nat × Value := (4, vS g.ib (g.io * 3) g.ni g.ic)
  let z4 : List Value := [.slice g.cA g.cn g.cc, vI g.e0, vI g.e1, vI g.e2]
  let z5 : List Value := [vI g.S.players, vS g.S.bb (g.S.bo * 9) g.S.nb g.S.bc, vI g.S.box.x0, vI g.S.box.y0, vI g.S.box.x1, vI g.S.box.y1, .slice g.S.rA g.S.rn g.S.rc, .slice g.S.dA g.S.dn g.S.dc, vI g.S.fog, vI g.S.g.x, vI g.S.g.y, vI g.S.push, vI g.S.drag, vI g.S.rest, vI g.S.rounds, vI g.S.fuel]
  refine TL.seg 5 [] [] [0, 3, 4, 6, 7, 11] (fun n1 => [z1, z2, z3, (6, vP (n1 + 0) 0), (7, vP (n1 + 1) 0), (11, vP (n1 + 2) 0)]) (fun n1 => (ap [((n1 + 2), .lit [vI 0, vI 0, vI 0, vI 0] 49 (0, 0)), ((n1 + 1), .lit z4 54 (0, 0)), ((n1 + 0), .lit z5 32 (0, 0))] [T])) (fun n1 => []) (fun n1 => []) (fun _ => by kernel_rfl) mn (fun n1 => an) ?_
  intro n1
  refine TL.fin (by kernel_rfl) ?_
  refine EX.next ?_
  refine TR.seq ?_
  refine TR.reg ?_
  let z6 : Nat × Value := (6, vP (n1 + 0) 0)
  let z7 : Nat × Value := (7, vP (n1 + 1) 0)
  let z8 : Nat × Value := (11, vP (n1 + 2) 0)
  let z9 : List Value := [.func (.func 29) #[] #[], .func (.func 30) #[] #[], .func (.func 31) #[] #[], .func (.func 32) #[] #[], .func (.func 33) #[] #[], .func (.func 34) #[] #[], .func (.func 35) #[] #[], .func (.func 36) #[] #[]]
  let z10 : Nat × Blk := ((n1 + 2), .lit [vI 0, vI 0, vI 0, vI 0] 49 (0, 0))
  let z11 : Nat × Blk := ((n1 + 1), .lit z4 54 (0, 0))
  let z12 : Nat × Blk := ((n1 + 0), .lit z5 32 (0, 0))
  refine TL.seg 3 [] [.own 0, .own 0, .own 0, .own 0, .own 0, .own 0, .own 0, .own 0] [0, 3, 4, 6, 7, 11, 13] (fun n2 => [z1, z2, z3, z6, z7, z8, (13, vP (n2 + 0) 0)]) (fun n2 => (ap [((n2 + 0), .lit z9 81 (0, 0)), z10, z11, z12] [T])) (fun n2 => [(n2 + 0), (n2 + 0), (n2 + 0), (n2 + 0), (n2 + 0), (n2 + 0), (n2 + 0), (n2 + 0)]) (fun n2 => []) (fun _ => by kernel_rfl) mn (fun n2 => an) ?_
  intro n2
  refine TL.fin (by kernel_rfl) ?_
  refine EX.next ?_
  refine TR.seq ?_
  refine TR.seq ?_
  refine TR.reg ?_
  let z13 : Nat × Value := (13, vP (n2 + 0) 0)
  let z14 : Nat × Blk := ((n2 + 0), .lit z9 81 (0, 0))
  refine TL.seg0 2 [] [] [0, 3, 4, 6, 7, 11, 13, 18] [z1, z2, z3, z6, z7, z8, z13, (18, .bool false)] (ap [z14, z10, z11, z12] [T]) [] [] (fun _ => by kernel_rfl) mn an ?_
  refine TL.fin (by kernel_rfl) ?_
  refine EX.next ?_
  refine TR.no (by kernel_rfl) (by kernel_rfl) (rfl : false = false) ?_
  refine TR.skip ?_
  refine EX.next ?_
  refine TR.seq ?_
  refine TR.reg ?_
  refine TL.seg0 1 [] [] [0, 3, 4, 6, 7, 11, 13, 20] [z1, z2, z3, z6, z7, z8, z13, (20, .iface 41 (vP mb 0))] (ap [z14, z10, z11, z12] [T]) [] [] (fun _ => by kernel_rfl) mn an ?_
  refine TL.callp (dst := (some 21)) (f := 28) (args := #[vP mb 0, vI 1]) (H1 := (ap [z14, z10, z11, z12] [T])) (E := []) (Ob := []) [] [] [0, 3, 4, 6, 7, 11, 13, 21] (vI 2) [z1, z2, z3, z6, z7, z8, z13, (21, vI 2)] (fun _ => by kernel_rfl) mn an (get_lit 1 hp hM (sub_ap 0 rfl)) (by kernel_rfl) ?_
  refine TL.seg0 1 [] [] [0, 3, 4, 6, 7, 11, 13, 14] [z1, z2, z3, z6, z7, z8, z13, (14, vI 2)] (ap [z14, z10, z11, z12] [T]) [] [] (fun _ => by kernel_rfl) mn an ?_
  refine TL.fin (by kernel_rfl) ?_
  refine EX.next ?_
  refine TR.seq ?_
  refine TR.seq ?_
  refine TR.reg ?_
  refine TL.seg0 6 [] [] [0, 3, 4, 6, 7, 11, 13, 14, 27] [z1, z2, z3, z6, z7, z8, z13, (14, vI 2), (27, .bool false)] (ap [z14, z10, z11, z12] [T]) [] [] (fun _ => by kernel_rfl) mn an ?_
  refine TL.fin (by kernel_rfl) ?_
  refine EX.next ?_
  refine TR.no (by kernel_rfl) (by kernel_rfl) (rfl : false = false) ?_
  refine TR.skip ?_
  refine EX.next ?_
  refine TR.seq ?_
  refine TR.draw [] [] rfl (by kernel_rfl) ?_
  let z15 : Nat × Value := (29, .iface 41 (vP mb 0))
  let z16 : Nat × Value := (30, .agg #[vI g.S.players, vS g.S.bb (g.S.bo * 9) g.S.nb g.S.bc, vI g.S.box.x0, vI g.S.box.y0, vI g.S.box.x1, vI g.S.box.y1, .slice g.S.rA g.S.rn g.S.rc, .slice g.S.dA g.S.dn g.S.dc, vI g.S.fog, vI g.S.g.x, vI g.S.g.y, vI g.S.push, vI g.S.drag, vI g.S.rest, vI g.S.rounds, vI g.S.fuel])
  let z17 : Nat × Value := (31, .agg #[.slice g.cA g.cn g.cc, vI g.e0, vI g.e1, vI g.e2])
  let z18 : Nat × Value := (32, vI g.version)
  let z19 : Nat × Value := (33, vS g.ib (g.io * 3) g.ni g.ic)
  let z20 : Nat × Value := (36, .iface 41 (vP mb 0))
  refine TD.vals [] (by kernel_rfl) [0, 1, 2, 3, 4, 5, 7] [] [.own 3, .own 3, .own 3, .own 3, .own 3, .own 3, .own 3, .own 3, .own 3, .own 3, .own 3, .own 3, .own 3, .own 3, .own 3, .own 3, .own 2, .own 2, .own 2, .own 2] [11, 13, 14, 29, 30, 31, 32, 33, 34, 36] [true, true, true, true, true, true, false, true, false, false, false, false] [z8, z13, (14, vI 2), z15, z16, z17, z18, z19, (34, .iface 41 (vP mb 0)), z20] [(n1 + 1), (n1 + 1), (n1 + 1), (n1 + 1), (n1 + 0), (n1 + 0), (n1 + 0), (n1 + 0), (n1 + 0), (n1 + 0), (n1 + 0), (n1 + 0), (n1 + 0), (n1 + 0), (n1 + 0), (n1 + 0), (n1 + 0), (n1 + 0), (n1 + 0), (n1 + 0)] [] (by kernel_rfl) (by kernel_rfl) mn an 5 rfl ?_
  let z21 : Nat × Value := (35, vI (M.get 2))
  refine TD.callv [] (by kernel_rfl) 6 [] [] (dst := (some 35)) (f := 28) (args := #[vP mb 0, vI 2]) (E := []) (Ob := []) [11, 13, 14, 29, 30, 31, 32, 33, 35, 36] (vI (M.get 2)) [z8, z13, (14, vI 2), z15, z16, z17, z18, z19, z21, z20] (by kernel_rfl) (by kernel_rfl) (by kernel_rfl) mn an (fun X_ => (get_any 2 hM (sub_apX 0 rfl))) (by kernel_rfl) 4 rfl ?_
  refine TD.callv [] (by kernel_rfl) 8 [] [] (dst := (some 37)) (f := 28) (args := #[vP mb 0, vI 3]) (E := []) (Ob := []) [11, 13, 14, 29, 30, 31, 32, 33, 35, 37] (vI (M.get 3)) [z8, z13, (14, vI 2), z15, z16, z17, z18, z19, z21, (37, vI (M.get 3))] (by kernel_rfl) (by kernel_rfl) (by kernel_rfl) mn an (fun X_ => (get_any 3 hM (sub_apX 0 rfl))) (by kernel_rfl) 3 rfl ?_
  refine TD.vals [] (by kernel_rfl) [9] [] [] [11, 13, 14, 38] [true, true, true, true, true, true, true, true, true, true, false, false] [z8, z13, (14, vI 2), (38, .agg #[.iface 41 (vP mb 0), vI g.S.players, vS g.S.bb (g.S.bo * 9) g.S.nb g.S.bc, vI g.S.box.x0, vI g.S.box.y0, vI g.S.box.x1, vI g.S.box.y1, .slice g.S.rA g.S.rn g.S.rc, .slice g.S.dA g.S.dn g.S.dc, vI g.S.fog, vI g.S.g.x, vI g.S.g.y, vI g.S.push, vI g.S.drag, vI g.S.rest, vI g.S.rounds, vI g.S.fuel, .slice g.cA g.cn g.cc, vI g.e0, vI g.e1, vI g.e2, vI g.version, vS g.ib (g.io * 3) g.ni g.ic, vI (M.get 2), vI (M.get 3), .bool false, vI 0, vI 0, vI 0, vI 0, .bool false])] [] [] (by kernel_rfl) (by kernel_rfl) mn an 2 rfl ?_
  refine TD.one 10 (by kernel_rfl) 1 rfl fun a_ hF_ hcl_ => ?_
  let z22 : List Value := [.iface 41 (vP mb 0), vI g.S.players, vS g.S.bb (g.S.bo * 9) g.S.nb g.S.bc, vI g.S.box.x0, vI g.S.box.y0, vI g.S.box.x1, vI g.S.box.y1, .slice g.S.rA g.S.rn g.S.rc, .slice g.S.dA g.S.dn g.S.dc, vI g.S.fog, vI g.S.g.x, vI g.S.g.y, vI g.S.push, vI g.S.drag, vI g.S.rest, vI g.S.rounds, vI g.S.fuel, .slice g.cA g.cn g.cc, vI g.e0, vI g.e1, vI g.e2, vI g.version, vS g.ib (g.io * 3) g.ni g.ic, vI (M.get 2), vI (M.get 3), .bool false, vI 0, vI 0, vI 0, vI 0, .bool false]
  refine OPJ.ev [] [] [11, 13, 14, 39] (fun n3 => [z8, z13, (14, vI 2), (39, vP (n3 + 0) 0)]) (fun n3 => (ap [((n3 + 0), .lit z22 83 (0, 0)), z14, z10, z11, z12] [T])) (fun n3 => []) (fun n3 => []) (fun _ => by kernel_rfl) mn (fun n3 => an) (.inr ⟨by decide, fun n3 => ⟨[((n3 + 0), .lit z22 83 (0, 0))], rfl⟩⟩) (.inr fun n3 => ⟨[((n3 + 0), .lit z22 83 (0, 0))], rfl⟩) (fun n3 => ?_) hF_ hcl_
  let z23 : Nat × Value := (15, vP (n3 + 0) 0)
  refine TD.vals [] (by kernel_rfl) [11] [] [] [11, 13, 14, 15] [true, true, true, true, true, true, true, true, true, true, true, true] [z8, z13, (14, vI 2), z23] [] [] (by kernel_rfl) (by kernel_rfl) mn an 0 rfl ?_
  refine TD.fin (by kernel_rfl) (EX.np ?_)
  refine EX.next ?_
  refine TR.seq ?_
  refine TR.reg ?_
  let z24 : Nat × Blk := ((n3 + 0), .lit z22 83 (0, 0))
  refine TL.seg0 4 [] [.own 1] [11, 15, 42, 43] [z8, z23, (42, .func (.func 31) #[] #[]), (43, vP (n3 + 0) 0)] (ap [z24, z14, z10, z11, z12] [T]) [(n2 + 0)] [] (fun _ => by kernel_rfl) mn an ?_
  refine TL.callT (τ := HL) [] [] (dst := (some 44)) (f := 31) (args := #[vP (n3 + 0) 0]) (A := [z24, z14, z10, z11, z12]) (Ts := [T]) (E := []) (Ob := []) [0] [1, 2, 3, 4] [0] [] [11, 15] [z24] [z14, z10, z11, z12] [T] [] (fun _ => [z24]) (fun x => [x]) (fun v x => MemH mb (tickM (g.step M) M) (k + 17) x) (fun v_ => [z8, z23]) (fun _ => by kernel_rfl) mn an (by kernel_rfl) (by kernel_rfl) (by kernel_rfl) (by kernel_rfl) (by kernel_rfl) (by kernel_rfl) (fun _ => by kernel_rfl) (tick_no (g.step M) (n3 + 0) mb M (k + 17) T _ hM hS.up hN) ?_
  rintro _ T4 hM5
  refine TL.fin (by kernel_rfl) ?_
  refine EX.next ?_
  refine TR.seq ?_
  refine TR.draw [13] [z24, z14, z11, z12] rfl (by kernel_rfl) ?_
  let z25 : Nat × Value := (10, .bool false)
  let z26 : Nat × Value := (56, .bool false)
  refine TD.vals [0, 1, 3, 4] (by kernel_rfl) [0, 4, 8, 1, 5, 9, 2, 6, 10, 3, 7, 11, 12] [] [.own 0, .own 0, .own 0, .own 0, .own 0, .ro 0] [10, 11, 52, 56] [true, true, true, true, true, true, true, true, true, true, true, true, true, false, false] [z25, z8, (52, .agg #[vI 0, vI 0, vI 0, vI 0]), z26] [(n3 + 0), (n3 + 0), (n3 + 0), (n3 + 0), (n3 + 0), (n3 + 0)] [] (by kernel_rfl) (by kernel_rfl) mn an 2 rfl ?_
  refine TD.one 13 (by kernel_rfl) 1 rfl fun a_ hF_ hcl_ => ?_
  refine OPJ.ev [] [.own 2, .own 2, .own 2, .own 2] [10, 11, 56] (fun _ => [z25, z8, z26]) (fun _ => (ap [z24, z14, z10, z11, z12] [T4])) (fun _ => [(n1 + 2), (n1 + 2), (n1 + 2), (n1 + 2)]) (fun _ => []) (fun _ => by kernel_rfl) mn (fun _ => an) (.inl ⟨[0, 1, 3, 4], fun _ => by kernel_rfl⟩) (.inl (by decide)) (fun _ => ?_) hF_ hcl_
  refine TD.vals [0, 1, 3, 4] (by kernel_rfl) [14] [] [] [10, 11, 12] [true, true, true, true, true, true, true, true, true, true, true, true, true, true, true] [z25, z8, (12, .bool false)] [] [] (by kernel_rfl) (by kernel_rfl) mn an 0 rfl ?_
  refine TD.fin (by kernel_rfl) (EX.np ?_)
  refine EX.next ?_
  refine TR.ret (A := [z24, z14, z10, z11, z12]) (Ts := [T4]) (by exact fun _ _ h => h) rfl rfl [] [.own 2, .own 2, .own 2, .own 2] (.tuple #[.bool false, .agg #[vI 0, vI 0, vI 0, vI 0], .bool false]) [(n1 + 2), (n1 + 2), (n1 + 2), (n1 + 2)] [] (fun _ => by kernel_rfl) mn an [] [0, 1, 2, 3, 4] [0] [] (ap [] [T4]) (by kernel_rfl) (by kernel_rfl) (by kernel_rfl) ?_
  exact ⟨T4, rfl, hM5.weak (by omega), rfl⟩

set_option maxHeartbeats 2000000 in
set_option maxRecDepth 100000 in
theorem trans3 (g : Gm) (mb : Nat) (M : MemS) (k : Nat) (T F : HL) (hM : MemH mb M (k + 20) T) (hS : SetIn F g.S) (hp : M.get 1 = 3)  : Sp Tryz.prog 12 #[.iface 41 (vP mb 0), .agg #[vI g.S.players, vS g.S.bb (g.S.bo * 9) g.S.nb g.S.bc, vI g.S.box.x0, vI g.S.box.y0, vI g.S.box.x1, vI g.S.box.y1, .slice g.S.rA g.S.rn g.S.rc, .slice g.S.dA g.S.dn g.S.dc, vI g.S.fog, vI g.S.g.x, vI g.S.g.y, vI g.S.push, vI g.S.drag, vI g.S.rest, vI g.S.rounds, vI g.S.fuel], .agg #[.slice g.cA g.cn g.cc, vI g.e0, vI g.e1, vI g.e2], vI g.version, vS g.ib (g.io * 3) g.ni g.ic] (ap [] [T]) F (fun u H' => ∃ x, H' = ap [] [x] ∧ (MemH mb (forceM (g.step M) M) k x ∧ u = .tuple #[.bool (false), .agg #[vI 0, vI 0, vI 0, vI 0], .bool false])) := by
  refine Sp.of_body Tryz.func12 rfl rfl rfl [(0, .iface 41 (vP mb 0)), (1, .agg #[vI g.S.players, vS g.S.bb (g.S.bo * 9) g.S.nb g.S.bc, vI g.S.box.x0, vI g.S.box.y0, vI g.S.box.x1, vI g.S.box.y1, .slice g.S.rA g.S.rn g.S.rc, .slice g.S.dA g.S.dn g.S.dc, vI g.S.fog, vI g.S.g.x, vI g.S.g.y, vI g.S.push, vI g.S.drag, vI g.S.rest, vI g.S.rounds, vI g.S.fuel]), (2, .agg #[.slice g.cA g.cn g.cc, vI g.e0, vI g.e1, vI g.e2]), (3, vI g.version), (4, vS g.ib (g.io * 3) g.ni g.ic)] rfl ?_
  intro w0
  refine TR.convH (ap [] [T]) rfl ?_
  refine TR.seq ?_
  refine TR.reg ?_
  let z1 : Nat × Value := (0, .iface 41 (vP mb 0))
  let z2 : Nat × Value := (3, vI g.version)
  let z3 : Nat × Value := (4, vS g.ib (g.io * 3) g.ni g.ic)
  let z4 : List Value := [.slice g.cA g.cn g.cc, vI g.e0, vI g.e1, vI g.e2]
  let z5 : List Value := [vI g.S.players, vS g.S.bb (g.S.bo * 9) g.S.nb g.S.bc, vI g.S.box.x0, vI g.S.box.y0, vI g.S.box.x1, vI g.S.box.y1, .slice g.S.rA g.S.rn g.S.rc, .slice g.S.dA g.S.dn g.S.dc, vI g.S.fog, vI g.S.g.x, vI g.S.g.y, vI g.S.push, vI g.S.drag, vI g.S.rest, vI g.S.rounds, vI g.S.fuel]
  refine TL.seg 5 [] [] [0, 3, 4, 6, 7, 11] (fun n1 => [z1, z2, z3, (6, vP (n1 + 0) 0), (7, vP (n1 + 1) 0), (11, vP (n1 + 2) 0)]) (fun n1 => (ap [((n1 + 2), .lit [vI 0, vI 0, vI 0, vI 0] 49 (0, 0)), ((n1 + 1), .lit z4 54 (0, 0)), ((n1 + 0), .lit z5 32 (0, 0))] [T])) (fun n1 => []) (fun n1 => []) (fun _ => by kernel_rfl) mn (fun n1 => an) ?_
  intro n1
  refine TL.fin (by kernel_rfl) ?_
  refine EX.next ?_
  refine TR.seq ?_
  refine TR.reg ?_
  let z6 : Nat × Value := (6, vP (n1 + 0) 0)
  let z7 : Nat × Value := (7, vP (n1 + 1) 0)
  let z8 : Nat × Value := (11, vP (n1 + 2) 0)
  let z9 : List Value := [.func (.func 29) #[] #[], .func (.func 30) #[] #[], .func (.func 31) #[] #[], .func (.func 32) #[] #[], .func (.func 33) #[] #[], .func (.func 34) #[] #[], .func (.func 35) #[] #[], .func (.func 36) #[] #[]]
  let z10 : Nat × Blk := ((n1 + 2), .lit [vI 0, vI 0, vI 0, vI 0] 49 (0, 0))
  let z11 : Nat × Blk := ((n1 + 1), .lit z4 54 (0, 0))
  let z12 : Nat × Blk := ((n1 + 0), .lit z5 32 (0, 0))
  refine TL.seg 3 [] [.own 0, .own 0, .own 0, .own 0, .own 0, .own 0, .own 0, .own 0] [0, 3, 4, 6, 7, 11, 13] (fun n2 => [z1, z2, z3, z6, z7, z8, (13, vP (n2 + 0) 0)]) (fun n2 => (ap [((n2 + 0), .lit z9 81 (0, 0)), z10, z11, z12] [T])) (fun n2 => [(n2 + 0), (n2 + 0), (n2 + 0), (n2 + 0), (n2 + 0), (n2 + 0), (n2 + 0), (n2 + 0)]) (fun n2 => []) (fun _ => by kernel_rfl) mn (fun n2 => an) ?_
  intro n2
  refine TL.fin (by kernel_rfl) ?_
  refine EX.next ?_
  refine TR.seq ?_
  refine TR.seq ?_
  refine TR.reg ?_
  let z13 : Nat × Value := (13, vP (n2 + 0) 0)
  let z14 : Nat × Blk := ((n2 + 0), .lit z9 81 (0, 0))
  refine TL.seg0 2 [] [] [0, 3, 4, 6, 7, 11, 13, 18] [z1, z2, z3, z6, z7, z8, z13, (18, .bool false)] (ap [z14, z10, z11, z12] [T]) [] [] (fun _ => by kernel_rfl) mn an ?_
  refine TL.fin (by kernel_rfl) ?_
  refine EX.next ?_
  refine TR.no (by kernel_rfl) (by kernel_rfl) (rfl : false = false) ?_
  refine TR.skip ?_
  refine EX.next ?_
  refine TR.seq ?_
  refine TR.reg ?_
  refine TL.seg0 1 [] [] [0, 3, 4, 6, 7, 11, 13, 20] [z1, z2, z3, z6, z7, z8, z13, (20, .iface 41 (vP mb 0))] (ap [z14, z10, z11, z12] [T]) [] [] (fun _ => by kernel_rfl) mn an ?_
  refine TL.callp (dst := (some 21)) (f := 28) (args := #[vP mb 0, vI 1]) (H1 := (ap [z14, z10, z11, z12] [T])) (E := []) (Ob := []) [] [] [0, 3, 4, 6, 7, 11, 13, 21] (vI 3) [z1, z2, z3, z6, z7, z8, z13, (21, vI 3)] (fun _ => by kernel_rfl) mn an (get_lit 1 hp hM (sub_ap 0 rfl)) (by kernel_rfl) ?_
  refine TL.seg0 1 [] [] [0, 3, 4, 6, 7, 11, 13, 14] [z1, z2, z3, z6, z7, z8, z13, (14, vI 3)] (ap [z14, z10, z11, z12] [T]) [] [] (fun _ => by kernel_rfl) mn an ?_
  refine TL.fin (by kernel_rfl) ?_
  refine EX.next ?_
  refine TR.seq ?_
  refine TR.seq ?_
  refine TR.reg ?_
  refine TL.seg0 6 [] [] [0, 3, 4, 6, 7, 11, 13, 14, 27] [z1, z2, z3, z6, z7, z8, z13, (14, vI 3), (27, .bool false)] (ap [z14, z10, z11, z12] [T]) [] [] (fun _ => by kernel_rfl) mn an ?_
  refine TL.fin (by kernel_rfl) ?_
  refine EX.next ?_
  refine TR.no (by kernel_rfl) (by kernel_rfl) (rfl : false = false) ?_
  refine TR.skip ?_
  refine EX.next ?_
  refine TR.seq ?_
  refine TR.draw [] [] rfl (by kernel_rfl) ?_
  let z15 : Nat × Value := (29, .iface 41 (vP mb 0))
  let z16 : Nat × Value := (30, .agg #[vI g.S.players, vS g.S.bb (g.S.bo * 9) g.S.nb g.S.bc, vI g.S.box.x0, vI g.S.box.y0, vI g.S.box.x1, vI g.S.box.y1, .slice g.S.rA g.S.rn g.S.rc, .slice g.S.dA g.S.dn g.S.dc, vI g.S.fog, vI g.S.g.x, vI g.S.g.y, vI g.S.push, vI g.S.drag, vI g.S.rest, vI g.S.rounds, vI g.S.fuel])
  let z17 : Nat × Value := (31, .agg #[.slice g.cA g.cn g.cc, vI g.e0, vI g.e1, vI g.e2])
  let z18 : Nat × Value := (32, vI g.version)
  let z19 : Nat × Value := (33, vS g.ib (g.io * 3) g.ni g.ic)
  let z20 : Nat × Value := (36, .iface 41 (vP mb 0))
  refine TD.vals [] (by kernel_rfl) [0, 1, 2, 3, 4, 5, 7] [] [.own 3, .own 3, .own 3, .own 3, .own 3, .own 3, .own 3, .own 3, .own 3, .own 3, .own 3, .own 3, .own 3, .own 3, .own 3, .own 3, .own 2, .own 2, .own 2, .own 2] [11, 13, 14, 29, 30, 31, 32, 33, 34, 36] [true, true, true, true, true, true, false, true, false, false, false, false] [z8, z13, (14, vI 3), z15, z16, z17, z18, z19, (34, .iface 41 (vP mb 0)), z20] [(n1 + 1), (n1 + 1), (n1 + 1), (n1 + 1), (n1 + 0), (n1 + 0), (n1 + 0), (n1 + 0), (n1 + 0), (n1 + 0), (n1 + 0), (n1 + 0), (n1 + 0), (n1 + 0), (n1 + 0), (n1 + 0), (n1 + 0), (n1 + 0), (n1 + 0), (n1 + 0)] [] (by kernel_rfl) (by kernel_rfl) mn an 5 rfl ?_
  let z21 : Nat × Value := (35, vI (M.get 2))
  refine TD.callv [] (by kernel_rfl) 6 [] [] (dst := (some 35)) (f := 28) (args := #[vP mb 0, vI 2]) (E := []) (Ob := []) [11, 13, 14, 29, 30, 31, 32, 33, 35, 36] (vI (M.get 2)) [z8, z13, (14, vI 3), z15, z16, z17, z18, z19, z21, z20] (by kernel_rfl) (by kernel_rfl) (by kernel_rfl) mn an (fun X_ => (get_any 2 hM (sub_apX 0 rfl))) (by kernel_rfl) 4 rfl ?_
  refine TD.callv [] (by kernel_rfl) 8 [] [] (dst := (some 37)) (f := 28) (args := #[vP mb 0, vI 3]) (E := []) (Ob := []) [11, 13, 14, 29, 30, 31, 32, 33, 35, 37] (vI (M.get 3)) [z8, z13, (14, vI 3), z15, z16, z17, z18, z19, z21, (37, vI (M.get 3))] (by kernel_rfl) (by kernel_rfl) (by kernel_rfl) mn an (fun X_ => (get_any 3 hM (sub_apX 0 rfl))) (by kernel_rfl) 3 rfl ?_
  refine TD.vals [] (by kernel_rfl) [9] [] [] [11, 13, 14, 38] [true, true, true, true, true, true, true, true, true, true, false, false] [z8, z13, (14, vI 3), (38, .agg #[.iface 41 (vP mb 0), vI g.S.players, vS g.S.bb (g.S.bo * 9) g.S.nb g.S.bc, vI g.S.box.x0, vI g.S.box.y0, vI g.S.box.x1, vI g.S.box.y1, .slice g.S.rA g.S.rn g.S.rc, .slice g.S.dA g.S.dn g.S.dc, vI g.S.fog, vI g.S.g.x, vI g.S.g.y, vI g.S.push, vI g.S.drag, vI g.S.rest, vI g.S.rounds, vI g.S.fuel, .slice g.cA g.cn g.cc, vI g.e0, vI g.e1, vI g.e2, vI g.version, vS g.ib (g.io * 3) g.ni g.ic, vI (M.get 2), vI (M.get 3), .bool false, vI 0, vI 0, vI 0, vI 0, .bool false])] [] [] (by kernel_rfl) (by kernel_rfl) mn an 2 rfl ?_
  refine TD.one 10 (by kernel_rfl) 1 rfl fun a_ hF_ hcl_ => ?_
  let z22 : List Value := [.iface 41 (vP mb 0), vI g.S.players, vS g.S.bb (g.S.bo * 9) g.S.nb g.S.bc, vI g.S.box.x0, vI g.S.box.y0, vI g.S.box.x1, vI g.S.box.y1, .slice g.S.rA g.S.rn g.S.rc, .slice g.S.dA g.S.dn g.S.dc, vI g.S.fog, vI g.S.g.x, vI g.S.g.y, vI g.S.push, vI g.S.drag, vI g.S.rest, vI g.S.rounds, vI g.S.fuel, .slice g.cA g.cn g.cc, vI g.e0, vI g.e1, vI g.e2, vI g.version, vS g.ib (g.io * 3) g.ni g.ic, vI (M.get 2), vI (M.get 3), .bool false, vI 0, vI 0, vI 0, vI 0, .bool false]
  refine OPJ.ev [] [] [11, 13, 14, 39] (fun n3 => [z8, z13, (14, vI 3), (39, vP (n3 + 0) 0)]) (fun n3 => (ap [((n3 + 0), .lit z22 83 (0, 0)), z14, z10, z11, z12] [T])) (fun n3 => []) (fun n3 => []) (fun _ => by kernel_rfl) mn (fun n3 => an) (.inr ⟨by decide, fun n3 => ⟨[((n3 + 0), .lit z22 83 (0, 0))], rfl⟩⟩) (.inr fun n3 => ⟨[((n3 + 0), .lit z22 83 (0, 0))], rfl⟩) (fun n3 => ?_) hF_ hcl_
  let z23 : Nat × Value := (15, vP (n3 + 0) 0)
  refine TD.vals [] (by kernel_rfl) [11] [] [] [11, 13, 14, 15] [true, true, true, true, true, true, true, true, true, true, true, true] [z8, z13, (14, vI 3), z23] [] [] (by kernel_rfl) (by kernel_rfl) mn an 0 rfl ?_
  refine TD.fin (by kernel_rfl) (EX.np ?_)
  refine EX.next ?_
  refine TR.seq ?_
  refine TR.reg ?_
  let z24 : Nat × Blk := ((n3 + 0), .lit z22 83 (0, 0))
  refine TL.seg0 4 [] [.own 1] [11, 15, 42, 43] [z8, z23, (42, .func (.func 32) #[] #[]), (43, vP (n3 + 0) 0)] (ap [z24, z14, z10, z11, z12] [T]) [(n2 + 0)] [] (fun _ => by kernel_rfl) mn an ?_
  refine TL.callT (τ := HL) [] [] (dst := (some 44)) (f := 32) (args := #[vP (n3 + 0) 0]) (A := [z24, z14, z10, z11, z12]) (Ts := [T]) (E := []) (Ob := []) [0] [1, 2, 3, 4] [0] [] [11, 15] [z24] [z14, z10, z11, z12] [T] [] (fun _ => [z24]) (fun x => [x]) (fun v x => MemH mb (forceM (g.step M) M) (k + 12) x) (fun v_ => [z8, z23]) (fun _ => by kernel_rfl) mn an (by kernel_rfl) (by kernel_rfl) (by kernel_rfl) (by kernel_rfl) (by kernel_rfl) (by kernel_rfl) (fun _ => by kernel_rfl) (force_any (g.step M) (n3 + 0) mb M (k + 12) T _ hM hS.up ) ?_
  rintro _ T4 hM5
  refine TL.fin (by kernel_rfl) ?_
  refine EX.next ?_
  refine TR.seq ?_
  refine TR.draw [13] [z24, z14, z11, z12] rfl (by kernel_rfl) ?_
  let z25 : Nat × Value := (10, .bool false)
  let z26 : Nat × Value := (56, .bool false)
  refine TD.vals [0, 1, 3, 4] (by kernel_rfl) [0, 4, 8, 1, 5, 9, 2, 6, 10, 3, 7, 11, 12] [] [.own 0, .own 0, .own 0, .own 0, .own 0, .ro 0] [10, 11, 52, 56] [true, true, true, true, true, true, true, true, true, true, true, true, true, false, false] [z25, z8, (52, .agg #[vI 0, vI 0, vI 0, vI 0]), z26] [(n3 + 0), (n3 + 0), (n3 + 0), (n3 + 0), (n3 + 0), (n3 + 0)] [] (by kernel_rfl) (by kernel_rfl) mn an 2 rfl ?_
  refine TD.one 13 (by kernel_rfl) 1 rfl fun a_ hF_ hcl_ => ?_
  refine OPJ.ev [] [.own 2, .own 2, .own 2, .own 2] [10, 11, 56] (fun _ => [z25, z8, z26]) (fun _ => (ap [z24, z14, z10, z11, z12] [T4])) (fun _ => [(n1 + 2), (n1 + 2), (n1 + 2), (n1 + 2)]) (fun _ => []) (fun _ => by kernel_rfl) mn (fun _ => an) (.inl ⟨[0, 1, 3, 4], fun _ => by kernel_rfl⟩) (.inl (by decide)) (fun _ => ?_) hF_ hcl_
  refine TD.vals [0, 1, 3, 4] (by kernel_rfl) [14] [] [] [10, 11, 12] [true, true, true, true, true, true, true, true, true, true, true, true, true, true, true] [z25, z8, (12, .bool false)] [] [] (by kernel_rfl) (by kernel_rfl) mn an 0 rfl ?_
  refine TD.fin (by kernel_rfl) (EX.np ?_)
  refine EX.next ?_
  refine TR.ret (A := [z24, z14, z10, z11, z12]) (Ts := [T4]) (by exact fun _ _ h => h) rfl rfl [] [.own 2, .own 2, .own 2, .own 2] (.tuple #[.bool false, .agg #[vI 0, vI 0, vI 0, vI 0], .bool false]) [(n1 + 2), (n1 + 2), (n1 + 2), (n1 + 2)] [] (fun _ => by kernel_rfl) mn an [] [0, 1, 2, 3, 4] [0] [] (ap [] [T4]) (by kernel_rfl) (by kernel_rfl) (by kernel_rfl) ?_
  exact ⟨T4, rfl, hM5.weak (by omega), rfl⟩

set_option maxHeartbeats 2000000 in
set_option maxRecDepth 100000 in
theorem trans4 (g : Gm) (mb : Nat) (M : MemS) (k : Nat) (T F : HL) (hM : MemH mb M (k + 20) T) (hS : SetIn F g.S) (hp : M.get 1 = 4)  : Sp Tryz.prog 12 #[.iface 41 (vP mb 0), .agg #[vI g.S.players, vS g.S.bb (g.S.bo * 9) g.S.nb g.S.bc, vI g.S.box.x0, vI g.S.box.y0, vI g.S.box.x1, vI g.S.box.y1, .slice g.S.rA g.S.rn g.S.rc, .slice g.S.dA g.S.dn g.S.dc, vI g.S.fog, vI g.S.g.x, vI g.S.g.y, vI g.S.push, vI g.S.drag, vI g.S.rest, vI g.S.rounds, vI g.S.fuel], .agg #[.slice g.cA g.cn g.cc, vI g.e0, vI g.e1, vI g.e2], vI g.version, vS g.ib (g.io * 3) g.ni g.ic] (ap [] [T]) F (fun u H' => ∃ x, H' = ap [] [x] ∧ (MemH mb (contactF (g.step M) M) k x ∧ u = .tuple #[.bool (false), .agg #[vI 0, vI 0, vI 0, vI 0], .bool false])) := by
  refine Sp.of_body Tryz.func12 rfl rfl rfl [(0, .iface 41 (vP mb 0)), (1, .agg #[vI g.S.players, vS g.S.bb (g.S.bo * 9) g.S.nb g.S.bc, vI g.S.box.x0, vI g.S.box.y0, vI g.S.box.x1, vI g.S.box.y1, .slice g.S.rA g.S.rn g.S.rc, .slice g.S.dA g.S.dn g.S.dc, vI g.S.fog, vI g.S.g.x, vI g.S.g.y, vI g.S.push, vI g.S.drag, vI g.S.rest, vI g.S.rounds, vI g.S.fuel]), (2, .agg #[.slice g.cA g.cn g.cc, vI g.e0, vI g.e1, vI g.e2]), (3, vI g.version), (4, vS g.ib (g.io * 3) g.ni g.ic)] rfl ?_
  intro w0
  refine TR.convH (ap [] [T]) rfl ?_
  refine TR.seq ?_
  refine TR.reg ?_
  let z1 : Nat × Value := (0, .iface 41 (vP mb 0))
  let z2 : Nat × Value := (3, vI g.version)
  let z3 : Nat × Value := (4, vS g.ib (g.io * 3) g.ni g.ic)
  let z4 : List Value := [.slice g.cA g.cn g.cc, vI g.e0, vI g.e1, vI g.e2]
  let z5 : List Value := [vI g.S.players, vS g.S.bb (g.S.bo * 9) g.S.nb g.S.bc, vI g.S.box.x0, vI g.S.box.y0, vI g.S.box.x1, vI g.S.box.y1, .slice g.S.rA g.S.rn g.S.rc, .slice g.S.dA g.S.dn g.S.dc, vI g.S.fog, vI g.S.g.x, vI g.S.g.y, vI g.S.push, vI g.S.drag, vI g.S.rest, vI g.S.rounds, vI g.S.fuel]
  refine TL.seg 5 [] [] [0, 3, 4, 6, 7, 11] (fun n1 => [z1, z2, z3, (6, vP (n1 + 0) 0), (7, vP (n1 + 1) 0), (11, vP (n1 + 2) 0)]) (fun n1 => (ap [((n1 + 2), .lit [vI 0, vI 0, vI 0, vI 0] 49 (0, 0)), ((n1 + 1), .lit z4 54 (0, 0)), ((n1 + 0), .lit z5 32 (0, 0))] [T])) (fun n1 => []) (fun n1 => []) (fun _ => by kernel_rfl) mn (fun n1 => an) ?_
  intro n1
  refine TL.fin (by kernel_rfl) ?_
  refine EX.next ?_
  refine TR.seq ?_
  refine TR.reg ?_
  let z6 : Nat × Value := (6, vP (n1 + 0) 0)
  let z7 : Nat × Value := (7, vP (n1 + 1) 0)
  let z8 : Nat × Value := (11, vP (n1 + 2) 0)
  let z9 : List Value := [.func (.func 29) #[] #[], .func (.func 30) #[] #[], .func (.func 31) #[] #[], .func (.func 32) #[] #[], .func (.func 33) #[] #[], .func (.func 34) #[] #[], .func (.func 35) #[] #[], .func (.func 36) #[] #[]]
  let z10 : Nat × Blk := ((n1 + 2), .lit [vI 0, vI 0, vI 0, vI 0] 49 (0, 0))
  let z11 : Nat × Blk := ((n1 + 1), .lit z4 54 (0, 0))
  let z12 : Nat × Blk := ((n1 + 0), .lit z5 32 (0, 0))
  refine TL.seg 3 [] [.own 0, .own 0, .own 0, .own 0, .own 0, .own 0, .own 0, .own 0] [0, 3, 4, 6, 7, 11, 13] (fun n2 => [z1, z2, z3, z6, z7, z8, (13, vP (n2 + 0) 0)]) (fun n2 => (ap [((n2 + 0), .lit z9 81 (0, 0)), z10, z11, z12] [T])) (fun n2 => [(n2 + 0), (n2 + 0), (n2 + 0), (n2 + 0), (n2 + 0), (n2 + 0), (n2 + 0), (n2 + 0)]) (fun n2 => []) (fun _ => by kernel_rfl) mn (fun n2 => an) ?_
  intro n2
  refine TL.fin (by kernel_rfl) ?_
  refine EX.next ?_
  refine TR.seq ?_
  refine TR.seq ?_
  refine TR.reg ?_
  let z13 : Nat × Value := (13, vP (n2 + 0) 0)
  let z14 : Nat × Blk := ((n2 + 0), .lit z9 81 (0, 0))
  refine TL.seg0 2 [] [] [0, 3, 4, 6, 7, 11, 13, 18] [z1, z2, z3, z6, z7, z8, z13, (18, .bool false)] (ap [z14, z10, z11, z12] [T]) [] [] (fun _ => by kernel_rfl) mn an ?_
  refine TL.fin (by kernel_rfl) ?_
  refine EX.next ?_
  refine TR.no (by kernel_rfl) (by kernel_rfl) (rfl : false = false) ?_
  refine TR.skip ?_
  refine EX.next ?_
  refine TR.seq ?_
  refine TR.reg ?_
  refine TL.seg0 1 [] [] [0, 3, 4, 6, 7, 11, 13, 20] [z1, z2, z3, z6, z7, z8, z13, (20, .iface 41 (vP mb 0))] (ap [z14, z10, z11, z12] [T]) [] [] (fun _ => by kernel_rfl) mn an ?_
  refine TL.callp (dst := (some 21)) (f := 28) (args := #[vP mb 0, vI 1]) (H1 := (ap [z14, z10, z11, z12] [T])) (E := []) (Ob := []) [] [] [0, 3, 4, 6, 7, 11, 13, 21] (vI 4) [z1, z2, z3, z6, z7, z8, z13, (21, vI 4)] (fun _ => by kernel_rfl) mn an (get_lit 1 hp hM (sub_ap 0 rfl)) (by kernel_rfl) ?_
  refine TL.seg0 1 [] [] [0, 3, 4, 6, 7, 11, 13, 14] [z1, z2, z3, z6, z7, z8, z13, (14, vI 4)] (ap [z14, z10, z11, z12] [T]) [] [] (fun _ => by kernel_rfl) mn an ?_
  refine TL.fin (by kernel_rfl) ?_
  refine EX.next ?_
  refine TR.seq ?_
  refine TR.seq ?_
  refine TR.reg ?_
  refine TL.seg0 6 [] [] [0, 3, 4, 6, 7, 11, 13, 14, 27] [z1, z2, z3, z6, z7, z8, z13, (14, vI 4), (27, .bool false)] (ap [z14, z10, z11, z12] [T]) [] [] (fun _ => by kernel_rfl) mn an ?_
  refine TL.fin (by kernel_rfl) ?_
  refine EX.next ?_
  refine TR.no (by kernel_rfl) (by kernel_rfl) (rfl : false = false) ?_
  refine TR.skip ?_
  refine EX.next ?_
  refine TR.seq ?_
  refine TR.draw [] [] rfl (by kernel_rfl) ?_
  let z15 : Nat × Value := (29, .iface 41 (vP mb 0))
  let z16 : Nat × Value := (30, .agg #[vI g.S.players, vS g.S.bb (g.S.bo * 9) g.S.nb g.S.bc, vI g.S.box.x0, vI g.S.box.y0, vI g.S.box.x1, vI g.S.box.y1, .slice g.S.rA g.S.rn g.S.rc, .slice g.S.dA g.S.dn g.S.dc, vI g.S.fog, vI g.S.g.x, vI g.S.g.y, vI g.S.push, vI g.S.drag, vI g.S.rest, vI g.S.rounds, vI g.S.fuel])
  let z17 : Nat × Value := (31, .agg #[.slice g.cA g.cn g.cc, vI g.e0, vI g.e1, vI g.e2])
  let z18 : Nat × Value := (32, vI g.version)
  let z19 : Nat × Value := (33, vS g.ib (g.io * 3) g.ni g.ic)
  let z20 : Nat × Value := (36, .iface 41 (vP mb 0))
  refine TD.vals [] (by kernel_rfl) [0, 1, 2, 3, 4, 5, 7] [] [.own 3, .own 3, .own 3, .own 3, .own 3, .own 3, .own 3, .own 3, .own 3, .own 3, .own 3, .own 3, .own 3, .own 3, .own 3, .own 3, .own 2, .own 2, .own 2, .own 2] [11, 13, 14, 29, 30, 31, 32, 33, 34, 36] [true, true, true, true, true, true, false, true, false, false, false, false] [z8, z13, (14, vI 4), z15, z16, z17, z18, z19, (34, .iface 41 (vP mb 0)), z20] [(n1 + 1), (n1 + 1), (n1 + 1), (n1 + 1), (n1 + 0), (n1 + 0), (n1 + 0), (n1 + 0), (n1 + 0), (n1 + 0), (n1 + 0), (n1 + 0), (n1 + 0), (n1 + 0), (n1 + 0), (n1 + 0), (n1 + 0), (n1 + 0), (n1 + 0), (n1 + 0)] [] (by kernel_rfl) (by kernel_rfl) mn an 5 rfl ?_
  let z21 : Nat × Value := (35, vI (M.get 2))
  refine TD.callv [] (by kernel_rfl) 6 [] [] (dst := (some 35)) (f := 28) (args := #[vP mb 0, vI 2]) (E := []) (Ob := []) [11, 13, 14, 29, 30, 31, 32, 33, 35, 36] (vI (M.get 2)) [z8, z13, (14, vI 4), z15, z16, z17, z18, z19, z21, z20] (by kernel_rfl) (by kernel_rfl) (by kernel_rfl) mn an (fun X_ => (get_any 2 hM (sub_apX 0 rfl))) (by kernel_rfl) 4 rfl ?_
  refine TD.callv [] (by kernel_rfl) 8 [] [] (dst := (some 37)) (f := 28) (args := #[vP mb 0, vI 3]) (E := []) (Ob := []) [11, 13, 14, 29, 30, 31, 32, 33, 35, 37] (vI (M.get 3)) [z8, z13, (14, vI 4), z15, z16, z17, z18, z19, z21, (37, vI (M.get 3))] (by kernel_rfl) (by kernel_rfl) (by kernel_rfl) mn an (fun X_ => (get_any 3 hM (sub_apX 0 rfl))) (by kernel_rfl) 3 rfl ?_
  refine TD.vals [] (by kernel_rfl) [9] [] [] [11, 13, 14, 38] [true, true, true, true, true, true, true, true, true, true, false, false] [z8, z13, (14, vI 4), (38, .agg #[.iface 41 (vP mb 0), vI g.S.players, vS g.S.bb (g.S.bo * 9) g.S.nb g.S.bc, vI g.S.box.x0, vI g.S.box.y0, vI g.S.box.x1, vI g.S.box.y1, .slice g.S.rA g.S.rn g.S.rc, .slice g.S.dA g.S.dn g.S.dc, vI g.S.fog, vI g.S.g.x, vI g.S.g.y, vI g.S.push, vI g.S.drag, vI g.S.rest, vI g.S.rounds, vI g.S.fuel, .slice g.cA g.cn g.cc, vI g.e0, vI g.e1, vI g.e2, vI g.version, vS g.ib (g.io * 3) g.ni g.ic, vI (M.get 2), vI (M.get 3), .bool false, vI 0, vI 0, vI 0, vI 0, .bool false])] [] [] (by kernel_rfl) (by kernel_rfl) mn an 2 rfl ?_
  refine TD.one 10 (by kernel_rfl) 1 rfl fun a_ hF_ hcl_ => ?_
  let z22 : List Value := [.iface 41 (vP mb 0), vI g.S.players, vS g.S.bb (g.S.bo * 9) g.S.nb g.S.bc, vI g.S.box.x0, vI g.S.box.y0, vI g.S.box.x1, vI g.S.box.y1, .slice g.S.rA g.S.rn g.S.rc, .slice g.S.dA g.S.dn g.S.dc, vI g.S.fog, vI g.S.g.x, vI g.S.g.y, vI g.S.push, vI g.S.drag, vI g.S.rest, vI g.S.rounds, vI g.S.fuel, .slice g.cA g.cn g.cc, vI g.e0, vI g.e1, vI g.e2, vI g.version, vS g.ib (g.io * 3) g.ni g.ic, vI (M.get 2), vI (M.get 3), .bool false, vI 0, vI 0, vI 0, vI 0, .bool false]
  refine OPJ.ev [] [] [11, 13, 14, 39] (fun n3 => [z8, z13, (14, vI 4), (39, vP (n3 + 0) 0)]) (fun n3 => (ap [((n3 + 0), .lit z22 83 (0, 0)), z14, z10, z11, z12] [T])) (fun n3 => []) (fun n3 => []) (fun _ => by kernel_rfl) mn (fun n3 => an) (.inr ⟨by decide, fun n3 => ⟨[((n3 + 0), .lit z22 83 (0, 0))], rfl⟩⟩) (.inr fun n3 => ⟨[((n3 + 0), .lit z22 83 (0, 0))], rfl⟩) (fun n3 => ?_) hF_ hcl_
  let z23 : Nat × Value := (15, vP (n3 + 0) 0)
  refine TD.vals [] (by kernel_rfl) [11] [] [] [11, 13, 14, 15] [true, true, true, true, true, true, true, true, true, true, true, true] [z8, z13, (14, vI 4), z23] [] [] (by kernel_rfl) (by kernel_rfl) mn an 0 rfl ?_
  refine TD.fin (by kernel_rfl) (EX.np ?_)
  refine EX.next ?_
  refine TR.seq ?_
  refine TR.reg ?_
  let z24 : Nat × Blk := ((n3 + 0), .lit z22 83 (0, 0))
  refine TL.seg0 4 [] [.own 1] [11, 15, 42, 43] [z8, z23, (42, .func (.func 33) #[] #[]), (43, vP (n3 + 0) 0)] (ap [z24, z14, z10, z11, z12] [T]) [(n2 + 0)] [] (fun _ => by kernel_rfl) mn an ?_
  refine TL.callT (τ := HL) [] [] (dst := (some 44)) (f := 33) (args := #[vP (n3 + 0) 0]) (A := [z24, z14, z10, z11, z12]) (Ts := [T]) (E := []) (Ob := []) [0] [1, 2, 3, 4] [0] [] [11, 15] [z24] [z14, z10, z11, z12] [T] [] (fun _ => [z24]) (fun x => [x]) (fun v x => MemH mb (contactF (g.step M) M) (k + 6) x) (fun v_ => [z8, z23]) (fun _ => by kernel_rfl) mn an (by kernel_rfl) (by kernel_rfl) (by kernel_rfl) (by kernel_rfl) (by kernel_rfl) (by kernel_rfl) (fun _ => by kernel_rfl) (contact_full (g.step M) (n3 + 0) mb M (k + 6) T _ hM hS.up ) ?_
  rintro _ T4 hM5
  refine TL.fin (by kernel_rfl) ?_
  refine EX.next ?_
  refine TR.seq ?_
  refine TR.draw [13] [z24, z14, z11, z12] rfl (by kernel_rfl) ?_
  let z25 : Nat × Value := (10, .bool false)
  let z26 : Nat × Value := (56, .bool false)
  refine TD.vals [0, 1, 3, 4] (by kernel_rfl) [0, 4, 8, 1, 5, 9, 2, 6, 10, 3, 7, 11, 12] [] [.own 0, .own 0, .own 0, .own 0, .own 0, .ro 0] [10, 11, 52, 56] [true, true, true, true, true, true, true, true, true, true, true, true, true, false, false] [z25, z8, (52, .agg #[vI 0, vI 0, vI 0, vI 0]), z26] [(n3 + 0), (n3 + 0), (n3 + 0), (n3 + 0), (n3 + 0), (n3 + 0)] [] (by kernel_rfl) (by kernel_rfl) mn an 2 rfl ?_
  refine TD.one 13 (by kernel_rfl) 1 rfl fun a_ hF_ hcl_ => ?_
  refine OPJ.ev [] [.own 2, .own 2, .own 2, .own 2] [10, 11, 56] (fun _ => [z25, z8, z26]) (fun _ => (ap [z24, z14, z10, z11, z12] [T4])) (fun _ => [(n1 + 2), (n1 + 2), (n1 + 2), (n1 + 2)]) (fun _ => []) (fun _ => by kernel_rfl) mn (fun _ => an) (.inl ⟨[0, 1, 3, 4], fun _ => by kernel_rfl⟩) (.inl (by decide)) (fun _ => ?_) hF_ hcl_
  refine TD.vals [0, 1, 3, 4] (by kernel_rfl) [14] [] [] [10, 11, 12] [true, true, true, true, true, true, true, true, true, true, true, true, true, true, true] [z25, z8, (12, .bool false)] [] [] (by kernel_rfl) (by kernel_rfl) mn an 0 rfl ?_
  refine TD.fin (by kernel_rfl) (EX.np ?_)
  refine EX.next ?_
  refine TR.ret (A := [z24, z14, z10, z11, z12]) (Ts := [T4]) (by exact fun _ _ h => h) rfl rfl [] [.own 2, .own 2, .own 2, .own 2] (.tuple #[.bool false, .agg #[vI 0, vI 0, vI 0, vI 0], .bool false]) [(n1 + 2), (n1 + 2), (n1 + 2), (n1 + 2)] [] (fun _ => by kernel_rfl) mn an [] [0, 1, 2, 3, 4] [0] [] (ap [] [T4]) (by kernel_rfl) (by kernel_rfl) (by kernel_rfl) ?_
  exact ⟨T4, rfl, hM5.weak (by omega), rfl⟩

set_option maxHeartbeats 2000000 in
set_option maxRecDepth 100000 in
theorem trans5 (g : Gm) (mb : Nat) (M : MemS) (k : Nat) (T F : HL) (hM : MemH mb M (k + 20) T) (hS : SetIn F g.S) (hp : M.get 1 = 5)  : Sp Tryz.prog 12 #[.iface 41 (vP mb 0), .agg #[vI g.S.players, vS g.S.bb (g.S.bo * 9) g.S.nb g.S.bc, vI g.S.box.x0, vI g.S.box.y0, vI g.S.box.x1, vI g.S.box.y1, .slice g.S.rA g.S.rn g.S.rc, .slice g.S.dA g.S.dn g.S.dc, vI g.S.fog, vI g.S.g.x, vI g.S.g.y, vI g.S.push, vI g.S.drag, vI g.S.rest, vI g.S.rounds, vI g.S.fuel], .agg #[.slice g.cA g.cn g.cc, vI g.e0, vI g.e1, vI g.e2], vI g.version, vS g.ib (g.io * 3) g.ni g.ic] (ap [] [T]) F (fun u H' => ∃ x, H' = ap [] [x] ∧ (MemH mb (moveF (g.step M) M) k x ∧ u = .tuple #[.bool (false), .agg #[vI 0, vI 0, vI 0, vI 0], .bool false])) := by
  refine Sp.of_body Tryz.func12 rfl rfl rfl [(0, .iface 41 (vP mb 0)), (1, .agg #[vI g.S.players, vS g.S.bb (g.S.bo * 9) g.S.nb g.S.bc, vI g.S.box.x0, vI g.S.box.y0, vI g.S.box.x1, vI g.S.box.y1, .slice g.S.rA g.S.rn g.S.rc, .slice g.S.dA g.S.dn g.S.dc, vI g.S.fog, vI g.S.g.x, vI g.S.g.y, vI g.S.push, vI g.S.drag, vI g.S.rest, vI g.S.rounds, vI g.S.fuel]), (2, .agg #[.slice g.cA g.cn g.cc, vI g.e0, vI g.e1, vI g.e2]), (3, vI g.version), (4, vS g.ib (g.io * 3) g.ni g.ic)] rfl ?_
  intro w0
  refine TR.convH (ap [] [T]) rfl ?_
  refine TR.seq ?_
  refine TR.reg ?_
  let z1 : Nat × Value := (0, .iface 41 (vP mb 0))
  let z2 : Nat × Value := (3, vI g.version)
  let z3 : Nat × Value := (4, vS g.ib (g.io * 3) g.ni g.ic)
  let z4 : List Value := [.slice g.cA g.cn g.cc, vI g.e0, vI g.e1, vI g.e2]
  let z5 : List Value := [vI g.S.players, vS g.S.bb (g.S.bo * 9) g.S.nb g.S.bc, vI g.S.box.x0, vI g.S.box.y0, vI g.S.box.x1, vI g.S.box.y1, .slice g.S.rA g.S.rn g.S.rc, .slice g.S.dA g.S.dn g.S.dc, vI g.S.fog, vI g.S.g.x, vI g.S.g.y, vI g.S.push, vI g.S.drag, vI g.S.rest, vI g.S.rounds, vI g.S.fuel]
  refine TL.seg 5 [] [] [0, 3, 4, 6, 7, 11] (fun n1 => [z1, z2, z3, (6, vP (n1 + 0) 0), (7, vP (n1 + 1) 0), (11, vP (n1 + 2) 0)]) (fun n1 => (ap [((n1 + 2), .lit [vI 0, vI 0, vI 0, vI 0] 49 (0, 0)), ((n1 + 1), .lit z4 54 (0, 0)), ((n1 + 0), .lit z5 32 (0, 0))] [T])) (fun n1 => []) (fun n1 => []) (fun _ => by kernel_rfl) mn (fun n1 => an) ?_
  intro n1
  refine TL.fin (by kernel_rfl) ?_
  refine EX.next ?_
  refine TR.seq ?_
  refine TR.reg ?_
  let z6 : Nat × Value := (6, vP (n1 + 0) 0)
  let z7 : Nat × Value := (7, vP (n1 + 1) 0)
  let z8 : Nat × Value := (11, vP (n1 + 2) 0)
  let z9 : List Value := [.func (.func 29) #[] #[], .func (.func 30) #[] #[], .func (.func 31) #[] #[], .func (.func 32) #[] #[], .func (.func 33) #[] #[], .func (.func 34) #[] #[], .func (.func 35) #[] #[], .func (.func 36) #[] #[]]
  let z10 : Nat × Blk := ((n1 + 2), .lit [vI 0, vI 0, vI 0, vI 0] 49 (0, 0))
  let z11 : Nat × Blk := ((n1 + 1), .lit z4 54 (0, 0))
  let z12 : Nat × Blk := ((n1 + 0), .lit z5 32 (0, 0))
  refine TL.seg 3 [] [.own 0, .own 0, .own 0, .own 0, .own 0, .own 0, .own 0, .own 0] [0, 3, 4, 6, 7, 11, 13] (fun n2 => [z1, z2, z3, z6, z7, z8, (13, vP (n2 + 0) 0)]) (fun n2 => (ap [((n2 + 0), .lit z9 81 (0, 0)), z10, z11, z12] [T])) (fun n2 => [(n2 + 0), (n2 + 0), (n2 + 0), (n2 + 0), (n2 + 0), (n2 + 0), (n2 + 0), (n2 + 0)]) (fun n2 => []) (fun _ => by kernel_rfl) mn (fun n2 => an) ?_
  intro n2
  refine TL.fin (by kernel_rfl) ?_
  refine EX.next ?_
  refine TR.seq ?_
  refine TR.seq ?_
  refine TR.reg ?_
  let z13 : Nat × Value := (13, vP (n2 + 0) 0)
  let z14 : Nat × Blk := ((n2 + 0), .lit z9 81 (0, 0))
  refine TL.seg0 2 [] [] [0, 3, 4, 6, 7, 11, 13, 18] [z1, z2, z3, z6, z7, z8, z13, (18, .bool false)] (ap [z14, z10, z11, z12] [T]) [] [] (fun _ => by kernel_rfl) mn an ?_
  refine TL.fin (by kernel_rfl) ?_
  refine EX.next ?_
  refine TR.no (by kernel_rfl) (by kernel_rfl) (rfl : false = false) ?_
  refine TR.skip ?_
  refine EX.next ?_
  refine TR.seq ?_
  refine TR.reg ?_
  refine TL.seg0 1 [] [] [0, 3, 4, 6, 7, 11, 13, 20] [z1, z2, z3, z6, z7, z8, z13, (20, .iface 41 (vP mb 0))] (ap [z14, z10, z11, z12] [T]) [] [] (fun _ => by kernel_rfl) mn an ?_
  refine TL.callp (dst := (some 21)) (f := 28) (args := #[vP mb 0, vI 1]) (H1 := (ap [z14, z10, z11, z12] [T])) (E := []) (Ob := []) [] [] [0, 3, 4, 6, 7, 11, 13, 21] (vI 5) [z1, z2, z3, z6, z7, z8, z13, (21, vI 5)] (fun _ => by kernel_rfl) mn an (get_lit 1 hp hM (sub_ap 0 rfl)) (by kernel_rfl) ?_
  refine TL.seg0 1 [] [] [0, 3, 4, 6, 7, 11, 13, 14] [z1, z2, z3, z6, z7, z8, z13, (14, vI 5)] (ap [z14, z10, z11, z12] [T]) [] [] (fun _ => by kernel_rfl) mn an ?_
  refine TL.fin (by kernel_rfl) ?_
  refine EX.next ?_
  refine TR.seq ?_
  refine TR.seq ?_
  refine TR.reg ?_
  refine TL.seg0 6 [] [] [0, 3, 4, 6, 7, 11, 13, 14, 27] [z1, z2, z3, z6, z7, z8, z13, (14, vI 5), (27, .bool false)] (ap [z14, z10, z11, z12] [T]) [] [] (fun _ => by kernel_rfl) mn an ?_
  refine TL.fin (by kernel_rfl) ?_
  refine EX.next ?_
  refine TR.no (by kernel_rfl) (by kernel_rfl) (rfl : false = false) ?_
  refine TR.skip ?_
  refine EX.next ?_
  refine TR.seq ?_
  refine TR.draw [] [] rfl (by kernel_rfl) ?_
  let z15 : Nat × Value := (29, .iface 41 (vP mb 0))
  let z16 : Nat × Value := (30, .agg #[vI g.S.players, vS g.S.bb (g.S.bo * 9) g.S.nb g.S.bc, vI g.S.box.x0, vI g.S.box.y0, vI g.S.box.x1, vI g.S.box.y1, .slice g.S.rA g.S.rn g.S.rc, .slice g.S.dA g.S.dn g.S.dc, vI g.S.fog, vI g.S.g.x, vI g.S.g.y, vI g.S.push, vI g.S.drag, vI g.S.rest, vI g.S.rounds, vI g.S.fuel])
  let z17 : Nat × Value := (31, .agg #[.slice g.cA g.cn g.cc, vI g.e0, vI g.e1, vI g.e2])
  let z18 : Nat × Value := (32, vI g.version)
  let z19 : Nat × Value := (33, vS g.ib (g.io * 3) g.ni g.ic)
  let z20 : Nat × Value := (36, .iface 41 (vP mb 0))
  refine TD.vals [] (by kernel_rfl) [0, 1, 2, 3, 4, 5, 7] [] [.own 3, .own 3, .own 3, .own 3, .own 3, .own 3, .own 3, .own 3, .own 3, .own 3, .own 3, .own 3, .own 3, .own 3, .own 3, .own 3, .own 2, .own 2, .own 2, .own 2] [11, 13, 14, 29, 30, 31, 32, 33, 34, 36] [true, true, true, true, true, true, false, true, false, false, false, false] [z8, z13, (14, vI 5), z15, z16, z17, z18, z19, (34, .iface 41 (vP mb 0)), z20] [(n1 + 1), (n1 + 1), (n1 + 1), (n1 + 1), (n1 + 0), (n1 + 0), (n1 + 0), (n1 + 0), (n1 + 0), (n1 + 0), (n1 + 0), (n1 + 0), (n1 + 0), (n1 + 0), (n1 + 0), (n1 + 0), (n1 + 0), (n1 + 0), (n1 + 0), (n1 + 0)] [] (by kernel_rfl) (by kernel_rfl) mn an 5 rfl ?_
  let z21 : Nat × Value := (35, vI (M.get 2))
  refine TD.callv [] (by kernel_rfl) 6 [] [] (dst := (some 35)) (f := 28) (args := #[vP mb 0, vI 2]) (E := []) (Ob := []) [11, 13, 14, 29, 30, 31, 32, 33, 35, 36] (vI (M.get 2)) [z8, z13, (14, vI 5), z15, z16, z17, z18, z19, z21, z20] (by kernel_rfl) (by kernel_rfl) (by kernel_rfl) mn an (fun X_ => (get_any 2 hM (sub_apX 0 rfl))) (by kernel_rfl) 4 rfl ?_
  refine TD.callv [] (by kernel_rfl) 8 [] [] (dst := (some 37)) (f := 28) (args := #[vP mb 0, vI 3]) (E := []) (Ob := []) [11, 13, 14, 29, 30, 31, 32, 33, 35, 37] (vI (M.get 3)) [z8, z13, (14, vI 5), z15, z16, z17, z18, z19, z21, (37, vI (M.get 3))] (by kernel_rfl) (by kernel_rfl) (by kernel_rfl) mn an (fun X_ => (get_any 3 hM (sub_apX 0 rfl))) (by kernel_rfl) 3 rfl ?_
  refine TD.vals [] (by kernel_rfl) [9] [] [] [11, 13, 14, 38] [true, true, true, true, true, true, true, true, true, true, false, false] [z8, z13, (14, vI 5), (38, .agg #[.iface 41 (vP mb 0), vI g.S.players, vS g.S.bb (g.S.bo * 9) g.S.nb g.S.bc, vI g.S.box.x0, vI g.S.box.y0, vI g.S.box.x1, vI g.S.box.y1, .slice g.S.rA g.S.rn g.S.rc, .slice g.S.dA g.S.dn g.S.dc, vI g.S.fog, vI g.S.g.x, vI g.S.g.y, vI g.S.push, vI g.S.drag, vI g.S.rest, vI g.S.rounds, vI g.S.fuel, .slice g.cA g.cn g.cc, vI g.e0, vI g.e1, vI g.e2, vI g.version, vS g.ib (g.io * 3) g.ni g.ic, vI (M.get 2), vI (M.get 3), .bool false, vI 0, vI 0, vI 0, vI 0, .bool false])] [] [] (by kernel_rfl) (by kernel_rfl) mn an 2 rfl ?_
  refine TD.one 10 (by kernel_rfl) 1 rfl fun a_ hF_ hcl_ => ?_
  let z22 : List Value := [.iface 41 (vP mb 0), vI g.S.players, vS g.S.bb (g.S.bo * 9) g.S.nb g.S.bc, vI g.S.box.x0, vI g.S.box.y0, vI g.S.box.x1, vI g.S.box.y1, .slice g.S.rA g.S.rn g.S.rc, .slice g.S.dA g.S.dn g.S.dc, vI g.S.fog, vI g.S.g.x, vI g.S.g.y, vI g.S.push, vI g.S.drag, vI g.S.rest, vI g.S.rounds, vI g.S.fuel, .slice g.cA g.cn g.cc, vI g.e0, vI g.e1, vI g.e2, vI g.version, vS g.ib (g.io * 3) g.ni g.ic, vI (M.get 2), vI (M.get 3), .bool false, vI 0, vI 0, vI 0, vI 0, .bool false]
  refine OPJ.ev [] [] [11, 13, 14, 39] (fun n3 => [z8, z13, (14, vI 5), (39, vP (n3 + 0) 0)]) (fun n3 => (ap [((n3 + 0), .lit z22 83 (0, 0)), z14, z10, z11, z12] [T])) (fun n3 => []) (fun n3 => []) (fun _ => by kernel_rfl) mn (fun n3 => an) (.inr ⟨by decide, fun n3 => ⟨[((n3 + 0), .lit z22 83 (0, 0))], rfl⟩⟩) (.inr fun n3 => ⟨[((n3 + 0), .lit z22 83 (0, 0))], rfl⟩) (fun n3 => ?_) hF_ hcl_
  let z23 : Nat × Value := (15, vP (n3 + 0) 0)
  refine TD.vals [] (by kernel_rfl) [11] [] [] [11, 13, 14, 15] [true, true, true, true, true, true, true, true, true, true, true, true] [z8, z13, (14, vI 5), z23] [] [] (by kernel_rfl) (by kernel_rfl) mn an 0 rfl ?_
  refine TD.fin (by kernel_rfl) (EX.np ?_)
  refine EX.next ?_
  refine TR.seq ?_
  refine TR.reg ?_
  let z24 : Nat × Blk := ((n3 + 0), .lit z22 83 (0, 0))
  refine TL.seg0 4 [] [.own 1] [11, 15, 42, 43] [z8, z23, (42, .func (.func 34) #[] #[]), (43, vP (n3 + 0) 0)] (ap [z24, z14, z10, z11, z12] [T]) [(n2 + 0)] [] (fun _ => by kernel_rfl) mn an ?_
  refine TL.callT (τ := HL) [] [] (dst := (some 44)) (f := 34) (args := #[vP (n3 + 0) 0]) (A := [z24, z14, z10, z11, z12]) (Ts := [T]) (E := []) (Ob := []) [0] [1, 2, 3, 4] [0] [] [11, 15] [z24] [z14, z10, z11, z12] [T] [] (fun _ => [z24]) (fun x => [x]) (fun v x => MemH mb (moveF (g.step M) M) (k + 12) x) (fun v_ => [z8, z23]) (fun _ => by kernel_rfl) mn an (by kernel_rfl) (by kernel_rfl) (by kernel_rfl) (by kernel_rfl) (by kernel_rfl) (by kernel_rfl) (fun _ => by kernel_rfl) (move_full (g.step M) (n3 + 0) mb M (k + 12) T _ hM hS.up ) ?_
  rintro _ T4 hM5
  refine TL.fin (by kernel_rfl) ?_
  refine EX.next ?_
  refine TR.seq ?_
  refine TR.draw [13] [z24, z14, z11, z12] rfl (by kernel_rfl) ?_
  let z25 : Nat × Value := (10, .bool false)
  let z26 : Nat × Value := (56, .bool false)
  refine TD.vals [0, 1, 3, 4] (by kernel_rfl) [0, 4, 8, 1, 5, 9, 2, 6, 10, 3, 7, 11, 12] [] [.own 0, .own 0, .own 0, .own 0, .own 0, .ro 0] [10, 11, 52, 56] [true, true, true, true, true, true, true, true, true, true, true, true, true, false, false] [z25, z8, (52, .agg #[vI 0, vI 0, vI 0, vI 0]), z26] [(n3 + 0), (n3 + 0), (n3 + 0), (n3 + 0), (n3 + 0), (n3 + 0)] [] (by kernel_rfl) (by kernel_rfl) mn an 2 rfl ?_
  refine TD.one 13 (by kernel_rfl) 1 rfl fun a_ hF_ hcl_ => ?_
  refine OPJ.ev [] [.own 2, .own 2, .own 2, .own 2] [10, 11, 56] (fun _ => [z25, z8, z26]) (fun _ => (ap [z24, z14, z10, z11, z12] [T4])) (fun _ => [(n1 + 2), (n1 + 2), (n1 + 2), (n1 + 2)]) (fun _ => []) (fun _ => by kernel_rfl) mn (fun _ => an) (.inl ⟨[0, 1, 3, 4], fun _ => by kernel_rfl⟩) (.inl (by decide)) (fun _ => ?_) hF_ hcl_
  refine TD.vals [0, 1, 3, 4] (by kernel_rfl) [14] [] [] [10, 11, 12] [true, true, true, true, true, true, true, true, true, true, true, true, true, true, true] [z25, z8, (12, .bool false)] [] [] (by kernel_rfl) (by kernel_rfl) mn an 0 rfl ?_
  refine TD.fin (by kernel_rfl) (EX.np ?_)
  refine EX.next ?_
  refine TR.ret (A := [z24, z14, z10, z11, z12]) (Ts := [T4]) (by exact fun _ _ h => h) rfl rfl [] [.own 2, .own 2, .own 2, .own 2] (.tuple #[.bool false, .agg #[vI 0, vI 0, vI 0, vI 0], .bool false]) [(n1 + 2), (n1 + 2), (n1 + 2), (n1 + 2)] [] (fun _ => by kernel_rfl) mn an [] [0, 1, 2, 3, 4] [0] [] (ap [] [T4]) (by kernel_rfl) (by kernel_rfl) (by kernel_rfl) ?_
  exact ⟨T4, rfl, hM5.weak (by omega), rfl⟩

set_option maxHeartbeats 2000000 in
set_option maxRecDepth 100000 in
theorem trans6 (g : Gm) (mb : Nat) (M : MemS) (k : Nat) (T F : HL) (hM : MemH mb M (k + 20) T) (hS : SetIn F g.S) (hp : M.get 1 = 6) (hN : NoH (g.step M)) : Sp Tryz.prog 12 #[.iface 41 (vP mb 0), .agg #[vI g.S.players, vS g.S.bb (g.S.bo * 9) g.S.nb g.S.bc, vI g.S.box.x0, vI g.S.box.y0, vI g.S.box.x1, vI g.S.box.y1, .slice g.S.rA g.S.rn g.S.rc, .slice g.S.dA g.S.dn g.S.dc, vI g.S.fog, vI g.S.g.x, vI g.S.g.y, vI g.S.push, vI g.S.drag, vI g.S.rest, vI g.S.rounds, vI g.S.fuel], .agg #[.slice g.cA g.cn g.cc, vI g.e0, vI g.e1, vI g.e2], vI g.version, vS g.ib (g.io * 3) g.ni g.ic] (ap [] [T]) F (fun u H' => ∃ x, H' = ap [] [x] ∧ (MemH mb (hitM (g.step M) M) k x ∧ u = .tuple #[.bool (false), .agg #[vI 0, vI 0, vI 0, vI 0], .bool false])) := by
  refine Sp.of_body Tryz.func12 rfl rfl rfl [(0, .iface 41 (vP mb 0)), (1, .agg #[vI g.S.players, vS g.S.bb (g.S.bo * 9) g.S.nb g.S.bc, vI g.S.box.x0, vI g.S.box.y0, vI g.S.box.x1, vI g.S.box.y1, .slice g.S.rA g.S.rn g.S.rc, .slice g.S.dA g.S.dn g.S.dc, vI g.S.fog, vI g.S.g.x, vI g.S.g.y, vI g.S.push, vI g.S.drag, vI g.S.rest, vI g.S.rounds, vI g.S.fuel]), (2, .agg #[.slice g.cA g.cn g.cc, vI g.e0, vI g.e1, vI g.e2]), (3, vI g.version), (4, vS g.ib (g.io * 3) g.ni g.ic)] rfl ?_
  intro w0
  refine TR.convH (ap [] [T]) rfl ?_
  refine TR.seq ?_
  refine TR.reg ?_
  let z1 : Nat × Value := (0, .iface 41 (vP mb 0))
  let z2 : Nat × Value := (3, vI g.version)
  let z3 : Nat × Value := (4, vS g.ib (g.io * 3) g.ni g.ic)
  let z4 : List Value := [.slice g.cA g.cn g.cc, vI g.e0, vI g.e1, vI g.e2]
  let z5 : List Value := [vI g.S.players, vS g.S.bb (g.S.bo * 9) g.S.nb g.S.bc, vI g.S.box.x0, vI g.S.box.y0, vI g.S.box.x1, vI g.S.box.y1, .slice g.S.rA g.S.rn g.S.rc, .slice g.S.dA g.S.dn g.S.dc, vI g.S.fog, vI g.S.g.x, vI g.S.g.y, vI g.S.push, vI g.S.drag, vI g.S.rest, vI g.S.rounds, vI g.S.fuel]
  refine TL.seg 5 [] [] [0, 3, 4, 6, 7, 11] (fun n1 => [z1, z2, z3, (6, vP (n1 + 0) 0), (7, vP (n1 + 1) 0), (11, vP (n1 + 2) 0)]) (fun n1 => (ap [((n1 + 2), .lit [vI 0, vI 0, vI 0, vI 0] 49 (0, 0)), ((n1 + 1), .lit z4 54 (0, 0)), ((n1 + 0), .lit z5 32 (0, 0))] [T])) (fun n1 => []) (fun n1 => []) (fun _ => by kernel_rfl) mn (fun n1 => an) ?_
  intro n1
  refine TL.fin (by kernel_rfl) ?_
  refine EX.next ?_
  refine TR.seq ?_
  refine TR.reg ?_
  let z6 : Nat × Value := (6, vP (n1 + 0) 0)
  let z7 : Nat × Value := (7, vP (n1 + 1) 0)
  let z8 : Nat × Value := (11, vP (n1 + 2) 0)
  let z9 : List Value := [.func (.func 29) #[] #[], .func (.func 30) #[] #[], .func (.func 31) #[] #[], .func (.func 32) #[] #[], .func (.func 33) #[] #[], .func (.func 34) #[] #[], .func (.func 35) #[] #[], .func (.func 36) #[] #[]]
  let z10 : Nat × Blk := ((n1 + 2), .lit [vI 0, vI 0, vI 0, vI 0] 49 (0, 0))
  let z11 : Nat × Blk := ((n1 + 1), .lit z4 54 (0, 0))
  let z12 : Nat × Blk := ((n1 + 0), .lit z5 32 (0, 0))
  refine TL.seg 3 [] [.own 0, .own 0, .own 0, .own 0, .own 0, .own 0, .own 0, .own 0] [0, 3, 4, 6, 7, 11, 13] (fun n2 => [z1, z2, z3, z6, z7, z8, (13, vP (n2 + 0) 0)]) (fun n2 => (ap [((n2 + 0), .lit z9 81 (0, 0)), z10, z11, z12] [T])) (fun n2 => [(n2 + 0), (n2 + 0), (n2 + 0), (n2 + 0), (n2 + 0), (n2 + 0), (n2 + 0), (n2 + 0)]) (fun n2 => []) (fun _ => by kernel_rfl) mn (fun n2 => an) ?_
  intro n2
  refine TL.fin (by kernel_rfl) ?_
  refine EX.next ?_
  refine TR.seq ?_
  refine TR.seq ?_
  refine TR.reg ?_
  let z13 : Nat × Value := (13, vP (n2 + 0) 0)
  let z14 : Nat × Blk := ((n2 + 0), .lit z9 81 (0, 0))
  refine TL.seg0 2 [] [] [0, 3, 4, 6, 7, 11, 13, 18] [z1, z2, z3, z6, z7, z8, z13, (18, .bool false)] (ap [z14, z10, z11, z12] [T]) [] [] (fun _ => by kernel_rfl) mn an ?_
  refine TL.fin (by kernel_rfl) ?_
  refine EX.next ?_
  refine TR.no (by kernel_rfl) (by kernel_rfl) (rfl : false = false) ?_
  refine TR.skip ?_
  refine EX.next ?_
  refine TR.seq ?_
  refine TR.reg ?_
  refine TL.seg0 1 [] [] [0, 3, 4, 6, 7, 11, 13, 20] [z1, z2, z3, z6, z7, z8, z13, (20, .iface 41 (vP mb 0))] (ap [z14, z10, z11, z12] [T]) [] [] (fun _ => by kernel_rfl) mn an ?_
  refine TL.callp (dst := (some 21)) (f := 28) (args := #[vP mb 0, vI 1]) (H1 := (ap [z14, z10, z11, z12] [T])) (E := []) (Ob := []) [] [] [0, 3, 4, 6, 7, 11, 13, 21] (vI 6) [z1, z2, z3, z6, z7, z8, z13, (21, vI 6)] (fun _ => by kernel_rfl) mn an (get_lit 1 hp hM (sub_ap 0 rfl)) (by kernel_rfl) ?_
  refine TL.seg0 1 [] [] [0, 3, 4, 6, 7, 11, 13, 14] [z1, z2, z3, z6, z7, z8, z13, (14, vI 6)] (ap [z14, z10, z11, z12] [T]) [] [] (fun _ => by kernel_rfl) mn an ?_
  refine TL.fin (by kernel_rfl) ?_
  refine EX.next ?_
  refine TR.seq ?_
  refine TR.seq ?_
  refine TR.reg ?_
  refine TL.seg0 6 [] [] [0, 3, 4, 6, 7, 11, 13, 14, 27] [z1, z2, z3, z6, z7, z8, z13, (14, vI 6), (27, .bool false)] (ap [z14, z10, z11, z12] [T]) [] [] (fun _ => by kernel_rfl) mn an ?_
  refine TL.fin (by kernel_rfl) ?_
  refine EX.next ?_
  refine TR.no (by kernel_rfl) (by kernel_rfl) (rfl : false = false) ?_
  refine TR.skip ?_
  refine EX.next ?_
  refine TR.seq ?_
  refine TR.draw [] [] rfl (by kernel_rfl) ?_
  let z15 : Nat × Value := (29, .iface 41 (vP mb 0))
  let z16 : Nat × Value := (30, .agg #[vI g.S.players, vS g.S.bb (g.S.bo * 9) g.S.nb g.S.bc, vI g.S.box.x0, vI g.S.box.y0, vI g.S.box.x1, vI g.S.box.y1, .slice g.S.rA g.S.rn g.S.rc, .slice g.S.dA g.S.dn g.S.dc, vI g.S.fog, vI g.S.g.x, vI g.S.g.y, vI g.S.push, vI g.S.drag, vI g.S.rest, vI g.S.rounds, vI g.S.fuel])
  let z17 : Nat × Value := (31, .agg #[.slice g.cA g.cn g.cc, vI g.e0, vI g.e1, vI g.e2])
  let z18 : Nat × Value := (32, vI g.version)
  let z19 : Nat × Value := (33, vS g.ib (g.io * 3) g.ni g.ic)
  let z20 : Nat × Value := (36, .iface 41 (vP mb 0))
  refine TD.vals [] (by kernel_rfl) [0, 1, 2, 3, 4, 5, 7] [] [.own 3, .own 3, .own 3, .own 3, .own 3, .own 3, .own 3, .own 3, .own 3, .own 3, .own 3, .own 3, .own 3, .own 3, .own 3, .own 3, .own 2, .own 2, .own 2, .own 2] [11, 13, 14, 29, 30, 31, 32, 33, 34, 36] [true, true, true, true, true, true, false, true, false, false, false, false] [z8, z13, (14, vI 6), z15, z16, z17, z18, z19, (34, .iface 41 (vP mb 0)), z20] [(n1 + 1), (n1 + 1), (n1 + 1), (n1 + 1), (n1 + 0), (n1 + 0), (n1 + 0), (n1 + 0), (n1 + 0), (n1 + 0), (n1 + 0), (n1 + 0), (n1 + 0), (n1 + 0), (n1 + 0), (n1 + 0), (n1 + 0), (n1 + 0), (n1 + 0), (n1 + 0)] [] (by kernel_rfl) (by kernel_rfl) mn an 5 rfl ?_
  let z21 : Nat × Value := (35, vI (M.get 2))
  refine TD.callv [] (by kernel_rfl) 6 [] [] (dst := (some 35)) (f := 28) (args := #[vP mb 0, vI 2]) (E := []) (Ob := []) [11, 13, 14, 29, 30, 31, 32, 33, 35, 36] (vI (M.get 2)) [z8, z13, (14, vI 6), z15, z16, z17, z18, z19, z21, z20] (by kernel_rfl) (by kernel_rfl) (by kernel_rfl) mn an (fun X_ => (get_any 2 hM (sub_apX 0 rfl))) (by kernel_rfl) 4 rfl ?_
  refine TD.callv [] (by kernel_rfl) 8 [] [] (dst := (some 37)) (f := 28) (args := #[vP mb 0, vI 3]) (E := []) (Ob := []) [11, 13, 14, 29, 30, 31, 32, 33, 35, 37] (vI (M.get 3)) [z8, z13, (14, vI 6), z15, z16, z17, z18, z19, z21, (37, vI (M.get 3))] (by kernel_rfl) (by kernel_rfl) (by kernel_rfl) mn an (fun X_ => (get_any 3 hM (sub_apX 0 rfl))) (by kernel_rfl) 3 rfl ?_
  refine TD.vals [] (by kernel_rfl) [9] [] [] [11, 13, 14, 38] [true, true, true, true, true, true, true, true, true, true, false, false] [z8, z13, (14, vI 6), (38, .agg #[.iface 41 (vP mb 0), vI g.S.players, vS g.S.bb (g.S.bo * 9) g.S.nb g.S.bc, vI g.S.box.x0, vI g.S.box.y0, vI g.S.box.x1, vI g.S.box.y1, .slice g.S.rA g.S.rn g.S.rc, .slice g.S.dA g.S.dn g.S.dc, vI g.S.fog, vI g.S.g.x, vI g.S.g.y, vI g.S.push, vI g.S.drag, vI g.S.rest, vI g.S.rounds, vI g.S.fuel, .slice g.cA g.cn g.cc, vI g.e0, vI g.e1, vI g.e2, vI g.version, vS g.ib (g.io * 3) g.ni g.ic, vI (M.get 2), vI (M.get 3), .bool false, vI 0, vI 0, vI 0, vI 0, .bool false])] [] [] (by kernel_rfl) (by kernel_rfl) mn an 2 rfl ?_
  refine TD.one 10 (by kernel_rfl) 1 rfl fun a_ hF_ hcl_ => ?_
  let z22 : List Value := [.iface 41 (vP mb 0), vI g.S.players, vS g.S.bb (g.S.bo * 9) g.S.nb g.S.bc, vI g.S.box.x0, vI g.S.box.y0, vI g.S.box.x1, vI g.S.box.y1, .slice g.S.rA g.S.rn g.S.rc, .slice g.S.dA g.S.dn g.S.dc, vI g.S.fog, vI g.S.g.x, vI g.S.g.y, vI g.S.push, vI g.S.drag, vI g.S.rest, vI g.S.rounds, vI g.S.fuel, .slice g.cA g.cn g.cc, vI g.e0, vI g.e1, vI g.e2, vI g.version, vS g.ib (g.io * 3) g.ni g.ic, vI (M.get 2), vI (M.get 3), .bool false, vI 0, vI 0, vI 0, vI 0, .bool false]
  refine OPJ.ev [] [] [11, 13, 14, 39] (fun n3 => [z8, z13, (14, vI 6), (39, vP (n3 + 0) 0)]) (fun n3 => (ap [((n3 + 0), .lit z22 83 (0, 0)), z14, z10, z11, z12] [T])) (fun n3 => []) (fun n3 => []) (fun _ => by kernel_rfl) mn (fun n3 => an) (.inr ⟨by decide, fun n3 => ⟨[((n3 + 0), .lit z22 83 (0, 0))], rfl⟩⟩) (.inr fun n3 => ⟨[((n3 + 0), .lit z22 83 (0, 0))], rfl⟩) (fun n3 => ?_) hF_ hcl_
  let z23 : Nat × Value := (15, vP (n3 + 0) 0)
  refine TD.vals [] (by kernel_rfl) [11] [] [] [11, 13, 14, 15] [true, true, true, true, true, true, true, true, true, true, true, true] [z8, z13, (14, vI 6), z23] [] [] (by kernel_rfl) (by kernel_rfl) mn an 0 rfl ?_
  refine TD.fin (by kernel_rfl) (EX.np ?_)
  refine EX.next ?_
  refine TR.seq ?_
  refine TR.reg ?_
  let z24 : Nat × Blk := ((n3 + 0), .lit z22 83 (0, 0))
  refine TL.seg0 4 [] [.own 1] [11, 15, 42, 43] [z8, z23, (42, .func (.func 35) #[] #[]), (43, vP (n3 + 0) 0)] (ap [z24, z14, z10, z11, z12] [T]) [(n2 + 0)] [] (fun _ => by kernel_rfl) mn an ?_
  refine TL.callT (τ := HL) [] [] (dst := (some 44)) (f := 35) (args := #[vP (n3 + 0) 0]) (A := [z24, z14, z10, z11, z12]) (Ts := [T]) (E := []) (Ob := []) [0] [1, 2, 3, 4] [0] [] [11, 15] [z24] [z14, z10, z11, z12] [T] [] (fun _ => [z24]) (fun x => [x]) (fun v x => MemH mb (hitM (g.step M) M) (k + 17) x) (fun v_ => [z8, z23]) (fun _ => by kernel_rfl) mn an (by kernel_rfl) (by kernel_rfl) (by kernel_rfl) (by kernel_rfl) (by kernel_rfl) (by kernel_rfl) (fun _ => by kernel_rfl) (hit_no (g.step M) (n3 + 0) mb M (k + 17) T _ hM hS.up hN) ?_
  rintro _ T4 hM5
  refine TL.fin (by kernel_rfl) ?_
  refine EX.next ?_
  refine TR.seq ?_
  refine TR.draw [13] [z24, z14, z11, z12] rfl (by kernel_rfl) ?_
  let z25 : Nat × Value := (10, .bool false)
  let z26 : Nat × Value := (56, .bool false)
  refine TD.vals [0, 1, 3, 4] (by kernel_rfl) [0, 4, 8, 1, 5, 9, 2, 6, 10, 3, 7, 11, 12] [] [.own 0, .own 0, .own 0, .own 0, .own 0, .ro 0] [10, 11, 52, 56] [true, true, true, true, true, true, true, true, true, true, true, true, true, false, false] [z25, z8, (52, .agg #[vI 0, vI 0, vI 0, vI 0]), z26] [(n3 + 0), (n3 + 0), (n3 + 0), (n3 + 0), (n3 + 0), (n3 + 0)] [] (by kernel_rfl) (by kernel_rfl) mn an 2 rfl ?_
  refine TD.one 13 (by kernel_rfl) 1 rfl fun a_ hF_ hcl_ => ?_
  refine OPJ.ev [] [.own 2, .own 2, .own 2, .own 2] [10, 11, 56] (fun _ => [z25, z8, z26]) (fun _ => (ap [z24, z14, z10, z11, z12] [T4])) (fun _ => [(n1 + 2), (n1 + 2), (n1 + 2), (n1 + 2)]) (fun _ => []) (fun _ => by kernel_rfl) mn (fun _ => an) (.inl ⟨[0, 1, 3, 4], fun _ => by kernel_rfl⟩) (.inl (by decide)) (fun _ => ?_) hF_ hcl_
  refine TD.vals [0, 1, 3, 4] (by kernel_rfl) [14] [] [] [10, 11, 12] [true, true, true, true, true, true, true, true, true, true, true, true, true, true, true] [z25, z8, (12, .bool false)] [] [] (by kernel_rfl) (by kernel_rfl) mn an 0 rfl ?_
  refine TD.fin (by kernel_rfl) (EX.np ?_)
  refine EX.next ?_
  refine TR.ret (A := [z24, z14, z10, z11, z12]) (Ts := [T4]) (by exact fun _ _ h => h) rfl rfl [] [.own 2, .own 2, .own 2, .own 2] (.tuple #[.bool false, .agg #[vI 0, vI 0, vI 0, vI 0], .bool false]) [(n1 + 2), (n1 + 2), (n1 + 2), (n1 + 2)] [] (fun _ => by kernel_rfl) mn an [] [0, 1, 2, 3, 4] [0] [] (ap [] [T4]) (by kernel_rfl) (by kernel_rfl) (by kernel_rfl) ?_
  exact ⟨T4, rfl, hM5.weak (by omega), rfl⟩

set_option maxHeartbeats 2000000 in
set_option maxRecDepth 100000 in
theorem trans7 (g : Gm) (mb : Nat) (M : MemS) (k : Nat) (T F : HL) (hM : MemH mb M (k + 20) T) (hS : SetIn F g.S) (hp : M.get 1 = 7)  : Sp Tryz.prog 12 #[.iface 41 (vP mb 0), .agg #[vI g.S.players, vS g.S.bb (g.S.bo * 9) g.S.nb g.S.bc, vI g.S.box.x0, vI g.S.box.y0, vI g.S.box.x1, vI g.S.box.y1, .slice g.S.rA g.S.rn g.S.rc, .slice g.S.dA g.S.dn g.S.dc, vI g.S.fog, vI g.S.g.x, vI g.S.g.y, vI g.S.push, vI g.S.drag, vI g.S.rest, vI g.S.rounds, vI g.S.fuel], .agg #[.slice g.cA g.cn g.cc, vI g.e0, vI g.e1, vI g.e2], vI g.version, vS g.ib (g.io * 3) g.ni g.ic] (ap [] [T]) F (fun u H' => ∃ x, H' = ap [] [x] ∧ (MemH mb (restM (g.step M) M) k x ∧ u = .tuple #[.bool (restB (g.step M)), .agg #[vI 0, vI 0, vI 0, vI 0], .bool false])) := by
  refine Sp.of_body Tryz.func12 rfl rfl rfl [(0, .iface 41 (vP mb 0)), (1, .agg #[vI g.S.players, vS g.S.bb (g.S.bo * 9) g.S.nb g.S.bc, vI g.S.box.x0, vI g.S.box.y0, vI g.S.box.x1, vI g.S.box.y1, .slice g.S.rA g.S.rn g.S.rc, .slice g.S.dA g.S.dn g.S.dc, vI g.S.fog, vI g.S.g.x, vI g.S.g.y, vI g.S.push, vI g.S.drag, vI g.S.rest, vI g.S.rounds, vI g.S.fuel]), (2, .agg #[.slice g.cA g.cn g.cc, vI g.e0, vI g.e1, vI g.e2]), (3, vI g.version), (4, vS g.ib (g.io * 3) g.ni g.ic)] rfl ?_
  intro w0
  refine TR.convH (ap [] [T]) rfl ?_
  refine TR.seq ?_
  refine TR.reg ?_
  let z1 : Nat × Value := (0, .iface 41 (vP mb 0))
  let z2 : Nat × Value := (3, vI g.version)
  let z3 : Nat × Value := (4, vS g.ib (g.io * 3) g.ni g.ic)
  let z4 : List Value := [.slice g.cA g.cn g.cc, vI g.e0, vI g.e1, vI g.e2]
  let z5 : List Value := [vI g.S.players, vS g.S.bb (g.S.bo * 9) g.S.nb g.S.bc, vI g.S.box.x0, vI g.S.box.y0, vI g.S.box.x1, vI g.S.box.y1, .slice g.S.rA g.S.rn g.S.rc, .slice g.S.dA g.S.dn g.S.dc, vI g.S.fog, vI g.S.g.x, vI g.S.g.y, vI g.S.push, vI g.S.drag, vI g.S.rest, vI g.S.rounds, vI g.S.fuel]
  refine TL.seg 5 [] [] [0, 3, 4, 6, 7, 11] (fun n1 => [z1, z2, z3, (6, vP (n1 + 0) 0), (7, vP (n1 + 1) 0), (11, vP (n1 + 2) 0)]) (fun n1 => (ap [((n1 + 2), .lit [vI 0, vI 0, vI 0, vI 0] 49 (0, 0)), ((n1 + 1), .lit z4 54 (0, 0)), ((n1 + 0), .lit z5 32 (0, 0))] [T])) (fun n1 => []) (fun n1 => []) (fun _ => by kernel_rfl) mn (fun n1 => an) ?_
  intro n1
  refine TL.fin (by kernel_rfl) ?_
  refine EX.next ?_
  refine TR.seq ?_
  refine TR.reg ?_
  let z6 : Nat × Value := (6, vP (n1 + 0) 0)
  let z7 : Nat × Value := (7, vP (n1 + 1) 0)
  let z8 : Nat × Value := (11, vP (n1 + 2) 0)
  let z9 : List Value := [.func (.func 29) #[] #[], .func (.func 30) #[] #[], .func (.func 31) #[] #[], .func (.func 32) #[] #[], .func (.func 33) #[] #[], .func (.func 34) #[] #[], .func (.func 35) #[] #[], .func (.func 36) #[] #[]]
  let z10 : Nat × Blk := ((n1 + 2), .lit [vI 0, vI 0, vI 0, vI 0] 49 (0, 0))
  let z11 : Nat × Blk := ((n1 + 1), .lit z4 54 (0, 0))
  let z12 : Nat × Blk := ((n1 + 0), .lit z5 32 (0, 0))
  refine TL.seg 3 [] [.own 0, .own 0, .own 0, .own 0, .own 0, .own 0, .own 0, .own 0] [0, 3, 4, 6, 7, 11, 13] (fun n2 => [z1, z2, z3, z6, z7, z8, (13, vP (n2 + 0) 0)]) (fun n2 => (ap [((n2 + 0), .lit z9 81 (0, 0)), z10, z11, z12] [T])) (fun n2 => [(n2 + 0), (n2 + 0), (n2 + 0), (n2 + 0), (n2 + 0), (n2 + 0), (n2 + 0), (n2 + 0)]) (fun n2 => []) (fun _ => by kernel_rfl) mn (fun n2 => an) ?_
  intro n2
  refine TL.fin (by kernel_rfl) ?_
  refine EX.next ?_
  refine TR.seq ?_
  refine TR.seq ?_
  refine TR.reg ?_
  let z13 : Nat × Value := (13, vP (n2 + 0) 0)
  let z14 : Nat × Blk := ((n2 + 0), .lit z9 81 (0, 0))
  refine TL.seg0 2 [] [] [0, 3, 4, 6, 7, 11, 13, 18] [z1, z2, z3, z6, z7, z8, z13, (18, .bool false)] (ap [z14, z10, z11, z12] [T]) [] [] (fun _ => by kernel_rfl) mn an ?_
  refine TL.fin (by kernel_rfl) ?_
  refine EX.next ?_
  refine TR.no (by kernel_rfl) (by kernel_rfl) (rfl : false = false) ?_
  refine TR.skip ?_
  refine EX.next ?_
  refine TR.seq ?_
  refine TR.reg ?_
  refine TL.seg0 1 [] [] [0, 3, 4, 6, 7, 11, 13, 20] [z1, z2, z3, z6, z7, z8, z13, (20, .iface 41 (vP mb 0))] (ap [z14, z10, z11, z12] [T]) [] [] (fun _ => by kernel_rfl) mn an ?_
  refine TL.callp (dst := (some 21)) (f := 28) (args := #[vP mb 0, vI 1]) (H1 := (ap [z14, z10, z11, z12] [T])) (E := []) (Ob := []) [] [] [0, 3, 4, 6, 7, 11, 13, 21] (vI 7) [z1, z2, z3, z6, z7, z8, z13, (21, vI 7)] (fun _ => by kernel_rfl) mn an (get_lit 1 hp hM (sub_ap 0 rfl)) (by kernel_rfl) ?_
  refine TL.seg0 1 [] [] [0, 3, 4, 6, 7, 11, 13, 14] [z1, z2, z3, z6, z7, z8, z13, (14, vI 7)] (ap [z14, z10, z11, z12] [T]) [] [] (fun _ => by kernel_rfl) mn an ?_
  refine TL.fin (by kernel_rfl) ?_
  refine EX.next ?_
  refine TR.seq ?_
  refine TR.seq ?_
  refine TR.reg ?_
  refine TL.seg0 6 [] [] [0, 3, 4, 6, 7, 11, 13, 14, 27] [z1, z2, z3, z6, z7, z8, z13, (14, vI 7), (27, .bool false)] (ap [z14, z10, z11, z12] [T]) [] [] (fun _ => by kernel_rfl) mn an ?_
  refine TL.fin (by kernel_rfl) ?_
  refine EX.next ?_
  refine TR.no (by kernel_rfl) (by kernel_rfl) (rfl : false = false) ?_
  refine TR.skip ?_
  refine EX.next ?_
  refine TR.seq ?_
  refine TR.draw [] [] rfl (by kernel_rfl) ?_
  let z15 : Nat × Value := (29, .iface 41 (vP mb 0))
  let z16 : Nat × Value := (30, .agg #[vI g.S.players, vS g.S.bb (g.S.bo * 9) g.S.nb g.S.bc, vI g.S.box.x0, vI g.S.box.y0, vI g.S.box.x1, vI g.S.box.y1, .slice g.S.rA g.S.rn g.S.rc, .slice g.S.dA g.S.dn g.S.dc, vI g.S.fog, vI g.S.g.x, vI g.S.g.y, vI g.S.push, vI g.S.drag, vI g.S.rest, vI g.S.rounds, vI g.S.fuel])
  let z17 : Nat × Value := (31, .agg #[.slice g.cA g.cn g.cc, vI g.e0, vI g.e1, vI g.e2])
  let z18 : Nat × Value := (32, vI g.version)
  let z19 : Nat × Value := (33, vS g.ib (g.io * 3) g.ni g.ic)
  let z20 : Nat × Value := (36, .iface 41 (vP mb 0))
  refine TD.vals [] (by kernel_rfl) [0, 1, 2, 3, 4, 5, 7] [] [.own 3, .own 3, .own 3, .own 3, .own 3, .own 3, .own 3, .own 3, .own 3, .own 3, .own 3, .own 3, .own 3, .own 3, .own 3, .own 3, .own 2, .own 2, .own 2, .own 2] [11, 13, 14, 29, 30, 31, 32, 33, 34, 36] [true, true, true, true, true, true, false, true, false, false, false, false] [z8, z13, (14, vI 7), z15, z16, z17, z18, z19, (34, .iface 41 (vP mb 0)), z20] [(n1 + 1), (n1 + 1), (n1 + 1), (n1 + 1), (n1 + 0), (n1 + 0), (n1 + 0), (n1 + 0), (n1 + 0), (n1 + 0), (n1 + 0), (n1 + 0), (n1 + 0), (n1 + 0), (n1 + 0), (n1 + 0), (n1 + 0), (n1 + 0), (n1 + 0), (n1 + 0)] [] (by kernel_rfl) (by kernel_rfl) mn an 5 rfl ?_
  let z21 : Nat × Value := (35, vI (M.get 2))
  refine TD.callv [] (by kernel_rfl) 6 [] [] (dst := (some 35)) (f := 28) (args := #[vP mb 0, vI 2]) (E := []) (Ob := []) [11, 13, 14, 29, 30, 31, 32, 33, 35, 36] (vI (M.get 2)) [z8, z13, (14, vI 7), z15, z16, z17, z18, z19, z21, z20] (by kernel_rfl) (by kernel_rfl) (by kernel_rfl) mn an (fun X_ => (get_any 2 hM (sub_apX 0 rfl))) (by kernel_rfl) 4 rfl ?_
  refine TD.callv [] (by kernel_rfl) 8 [] [] (dst := (some 37)) (f := 28) (args := #[vP mb 0, vI 3]) (E := []) (Ob := []) [11, 13, 14, 29, 30, 31, 32, 33, 35, 37] (vI (M.get 3)) [z8, z13, (14, vI 7), z15, z16, z17, z18, z19, z21, (37, vI (M.get 3))] (by kernel_rfl) (by kernel_rfl) (by kernel_rfl) mn an (fun X_ => (get_any 3 hM (sub_apX 0 rfl))) (by kernel_rfl) 3 rfl ?_
  refine TD.vals [] (by kernel_rfl) [9] [] [] [11, 13, 14, 38] [true, true, true, true, true, true, true, true, true, true, false, false] [z8, z13, (14, vI 7), (38, .agg #[.iface 41 (vP mb 0), vI g.S.players, vS g.S.bb (g.S.bo * 9) g.S.nb g.S.bc, vI g.S.box.x0, vI g.S.box.y0, vI g.S.box.x1, vI g.S.box.y1, .slice g.S.rA g.S.rn g.S.rc, .slice g.S.dA g.S.dn g.S.dc, vI g.S.fog, vI g.S.g.x, vI g.S.g.y, vI g.S.push, vI g.S.drag, vI g.S.rest, vI g.S.rounds, vI g.S.fuel, .slice g.cA g.cn g.cc, vI g.e0, vI g.e1, vI g.e2, vI g.version, vS g.ib (g.io * 3) g.ni g.ic, vI (M.get 2), vI (M.get 3), .bool false, vI 0, vI 0, vI 0, vI 0, .bool false])] [] [] (by kernel_rfl) (by kernel_rfl) mn an 2 rfl ?_
  refine TD.one 10 (by kernel_rfl) 1 rfl fun a_ hF_ hcl_ => ?_
  let z22 : List Value := [.iface 41 (vP mb 0), vI g.S.players, vS g.S.bb (g.S.bo * 9) g.S.nb g.S.bc, vI g.S.box.x0, vI g.S.box.y0, vI g.S.box.x1, vI g.S.box.y1, .slice g.S.rA g.S.rn g.S.rc, .slice g.S.dA g.S.dn g.S.dc, vI g.S.fog, vI g.S.g.x, vI g.S.g.y, vI g.S.push, vI g.S.drag, vI g.S.rest, vI g.S.rounds, vI g.S.fuel, .slice g.cA g.cn g.cc, vI g.e0, vI g.e1, vI g.e2, vI g.version, vS g.ib (g.io * 3) g.ni g.ic, vI (M.get 2), vI (M.get 3), .bool false, vI 0, vI 0, vI 0, vI 0, .bool false]
  refine OPJ.ev [] [] [11, 13, 14, 39] (fun n3 => [z8, z13, (14, vI 7), (39, vP (n3 + 0) 0)]) (fun n3 => (ap [((n3 + 0), .lit z22 83 (0, 0)), z14, z10, z11, z12] [T])) (fun n3 => []) (fun n3 => []) (fun _ => by kernel_rfl) mn (fun n3 => an) (.inr ⟨by decide, fun n3 => ⟨[((n3 + 0), .lit z22 83 (0, 0))], rfl⟩⟩) (.inr fun n3 => ⟨[((n3 + 0), .lit z22 83 (0, 0))], rfl⟩) (fun n3 => ?_) hF_ hcl_
  let z23 : Nat × Value := (15, vP (n3 + 0) 0)
  refine TD.vals [] (by kernel_rfl) [11] [] [] [11, 13, 14, 15] [true, true, true, true, true, true, true, true, true, true, true, true] [z8, z13, (14, vI 7), z23] [] [] (by kernel_rfl) (by kernel_rfl) mn an 0 rfl ?_
  refine TD.fin (by kernel_rfl) (EX.np ?_)
  refine EX.next ?_
  refine TR.seq ?_
  refine TR.reg ?_
  let z24 : Nat × Blk := ((n3 + 0), .lit z22 83 (0, 0))
  refine TL.seg0 4 [] [.own 1] [11, 15, 42, 43] [z8, z23, (42, .func (.func 36) #[] #[]), (43, vP (n3 + 0) 0)] (ap [z24, z14, z10, z11, z12] [T]) [(n2 + 0)] [] (fun _ => by kernel_rfl) mn an ?_
  let z25 := restB (g.step M)
  let z26 : Nat × Blk := ((n3 + 0), .lit [.iface 41 (vP mb 0), vI g.S.players, vS g.S.bb (g.S.bo * 9) g.S.nb g.S.bc, vI g.S.box.x0, vI g.S.box.y0, vI g.S.box.x1, vI g.S.box.y1, .slice g.S.rA g.S.rn g.S.rc, .slice g.S.dA g.S.dn g.S.dc, vI g.S.fog, vI g.S.g.x, vI g.S.g.y, vI g.S.push, vI g.S.drag, vI g.S.rest, vI g.S.rounds, vI g.S.fuel, .slice g.cA g.cn g.cc, vI g.e0, vI g.e1, vI g.e2, vI g.version, vS g.ib (g.io * 3) g.ni g.ic, vI (M.get 2), vI (M.get 3), .bool z25, vI 0, vI 0, vI 0, vI 0, .bool false] 83 (0, 0))
  refine TL.callT (τ := HL) [] [] (dst := (some 44)) (f := 36) (args := #[vP (n3 + 0) 0]) (A := [z24, z14, z10, z11, z12]) (Ts := [T]) (E := []) (Ob := []) [0] [1, 2, 3, 4] [0] [] [11, 15] [z24] [z14, z10, z11, z12] [T] [] (fun _ => [z26]) (fun x => [x]) (fun v x => MemH mb (restM (g.step M) M) (k + 6) x) (fun v_ => [z8, z23]) (fun _ => by kernel_rfl) mn an (by kernel_rfl) (by kernel_rfl) (by kernel_rfl) (by kernel_rfl) (by kernel_rfl) (by kernel_rfl) (fun _ => by kernel_rfl) (rest_any (g.step M) (n3 + 0) mb M (k + 6) T _ hM hS.up ) ?_
  rintro _ T4 hM5
  refine TL.fin (by kernel_rfl) ?_
  refine EX.next ?_
  refine TR.seq ?_
  refine TR.draw [13] [z26, z14, z11, z12] rfl (by kernel_rfl) ?_
  let z27 : Nat × Value := (10, .bool z25)
  let z28 : Nat × Value := (56, .bool false)
  refine TD.vals [0, 1, 3, 4] (by kernel_rfl) [0, 4, 8, 1, 5, 9, 2, 6, 10, 3, 7, 11, 12] [] [.own 0, .own 0, .own 0, .own 0, .own 0, .ro 0] [10, 11, 52, 56] [true, true, true, true, true, true, true, true, true, true, true, true, true, false, false] [z27, z8, (52, .agg #[vI 0, vI 0, vI 0, vI 0]), z28] [(n3 + 0), (n3 + 0), (n3 + 0), (n3 + 0), (n3 + 0), (n3 + 0)] [] (by kernel_rfl) (by kernel_rfl) mn an 2 rfl ?_
  refine TD.one 13 (by kernel_rfl) 1 rfl fun a_ hF_ hcl_ => ?_
  refine OPJ.ev [] [.own 2, .own 2, .own 2, .own 2] [10, 11, 56] (fun _ => [z27, z8, z28]) (fun _ => (ap [z26, z14, z10, z11, z12] [T4])) (fun _ => [(n1 + 2), (n1 + 2), (n1 + 2), (n1 + 2)]) (fun _ => []) (fun _ => by kernel_rfl) mn (fun _ => an) (.inl ⟨[0, 1, 3, 4], fun _ => by kernel_rfl⟩) (.inl (by decide)) (fun _ => ?_) hF_ hcl_
  refine TD.vals [0, 1, 3, 4] (by kernel_rfl) [14] [] [] [10, 11, 12] [true, true, true, true, true, true, true, true, true, true, true, true, true, true, true] [z27, z8, (12, .bool false)] [] [] (by kernel_rfl) (by kernel_rfl) mn an 0 rfl ?_
  refine TD.fin (by kernel_rfl) (EX.np ?_)
  refine EX.next ?_
  refine TR.ret (A := [z26, z14, z10, z11, z12]) (Ts := [T4]) (by exact fun _ _ h => h) rfl rfl [] [.own 2, .own 2, .own 2, .own 2] (.tuple #[.bool z25, .agg #[vI 0, vI 0, vI 0, vI 0], .bool false]) [(n1 + 2), (n1 + 2), (n1 + 2), (n1 + 2)] [] (fun _ => by kernel_rfl) mn an [] [0, 1, 2, 3, 4] [0] [] (ap [] [T4]) (by kernel_rfl) (by kernel_rfl) (by kernel_rfl) ?_
  exact ⟨T4, rfl, hM5.weak (by omega), rfl⟩
end Go.Proofs.YtpkincoclhpcgaaGreatDoor
