/- Contracts, printed by a program. -/
import Derived.Test.YtlefngomddjahaaGreatDoorU19
import Derived.Test.YtlefngomddjahaaGreatDoorU23
namespace Go.Proofs.YtlefngomddjahaaGreatDoor
set_option linter.unusedSimpArgs false
set_option linter.unusedVariables false
open Go.RowKit
structure Gm where
  S : Setup
  cA : Option Addr
  cn : Nat
  cc : Nat
  e0 : Int
  e1 : Int
  e2 : Int
  version : Int
  ib : Nat
  io : Nat
  ni : Nat
  ic : Nat
  iR : Nat
  ins : List Inp
  code : List Ins
abbrev Gm.step (g : Gm) (M : MemS) : Stp := ⟨g.S, g.cA, g.cn, g.cc, g.e0, g.e1, g.e2, g.version, g.ib, g.io, g.ni, g.ic, g.iR, g.ins, M.get 2, M.get 3, false, 0, 0, 0, 0, false, g.code⟩

set_option maxHeartbeats 2000000 in
set_option maxRecDepth 100000 in
theorem trans0 (g : Gm) (mb : Nat) (M : MemS) (k : Nat) (T F : HL) (hM : MemH mb M (k + 20) T) (hS : SetIn F g.S) (hp : M.get 1 = 0) (hI : (g.ib, .rows 3 g.iR (inrow g.ins) 24 (0, 0)) ∈ F) (hir : g.io + g.ni ≤ g.iR ∧ g.ni ≤ 1000000) : Sp Tryz.prog 73 #[.iface 46 (vP mb 0), .agg #[vI g.S.players, vS g.S.bb (g.S.bo * 9) g.S.nb g.S.bc, vI g.S.box.x0, vI g.S.box.y0, vI g.S.box.x1, vI g.S.box.y1, .slice g.S.rA g.S.rn g.S.rc, .slice g.S.dA g.S.dn g.S.dc, vI g.S.fog, vI g.S.g.x, vI g.S.g.y, vI g.S.push, vI g.S.drag, vI g.S.rest, vI g.S.rounds, vI g.S.fuel], .agg #[.slice g.cA g.cn g.cc, vI g.e0, vI g.e1, vI g.e2], vI g.version, vS g.ib (g.io * 3) g.ni g.ic] (ap [] [T]) F (fun u H' => ∃ x, H' = ap [] [x] ∧ (MemH mb (inputM (g.step M) M) k x ∧ u = .tuple #[.bool false, .agg #[vI 0, vI 0, vI 0, vI 0], .bool false])) := by
  refine Sp.run Tryz.func73 rfl mn (A := []) (Ts := [T]) rfl fun w0 => ?_
  refine RN.go 29 (ow 0 8) fun n1 => RN.cp (get_lit 1 hp hM (sub_ap 0)) <| RN.go 18 [] fun _ => RN.draw [] [] <| RD.go [] [0, 1, 2, 3, 4, 5, 7] (ow 3 16 ++ [.own 2, .own 2, .own 2, .own 2]) <| RD.cp [] 6 (fun X_ => (get_any 2 hM (sub_apX 0))) <| RD.cp [] 8 (fun X_ => (get_any 3 hM (sub_apX 0))) <| RD.go [] [9] [] <| RD.one 10 (RDO.ev [] [] fun n2 => ?_)
  refine RD.go [] [11] [] <| RD.fin <| RN.go 7 [.own 1] fun _ => RN.ct [0] [0] (input_any (g.step M) (n2 + 0) mb M (k + 12) T _ hM hS.up (List.mem_append_right _ hI) hir) ?_
  rintro _ T3 hM4
  refine RN.go 3 [] fun _ => RN.draw [13] [0, 1, 3, 4] <| RD.go [0, 1, 3, 4] [0, 4, 8, 1, 5, 9, 2, 6, 10, 3, 7, 11, 12] (ow 0 5 ++ [.ro 0]) <| RD.one 13 (RDO.ev [0, 1, 3, 4] [.own 2, .own 2, .own 2, .own 2] fun _ => ?_)
  refine RD.go [0, 1, 3, 4] [14] [] <| RD.fin <| RN.go 1 [] fun _ => RN.ret [.own 2, .own 2, .own 2, .own 2] [] [0] (v := .tuple #[.bool false, .agg #[vI 0, vI 0, vI 0, vI 0], .bool false]) (H' := (ap [] [T3])) ?_
  exact ⟨T3, rfl, hM4.weak (by omega), rfl⟩

set_option maxHeartbeats 2000000 in
set_option maxRecDepth 100000 in
theorem trans1 (g : Gm) (mb : Nat) (M : MemS) (k : Nat) (T F : HL) (hM : MemH mb M (k + 20) T) (hS : SetIn F g.S) (hp : M.get 1 = 1) (hE : EffIn F) (hC : CodeIn F g.code g.cA g.cn) : Sp Tryz.prog 73 #[.iface 46 (vP mb 0), .agg #[vI g.S.players, vS g.S.bb (g.S.bo * 9) g.S.nb g.S.bc, vI g.S.box.x0, vI g.S.box.y0, vI g.S.box.x1, vI g.S.box.y1, .slice g.S.rA g.S.rn g.S.rc, .slice g.S.dA g.S.dn g.S.dc, vI g.S.fog, vI g.S.g.x, vI g.S.g.y, vI g.S.push, vI g.S.drag, vI g.S.rest, vI g.S.rounds, vI g.S.fuel], .agg #[.slice g.cA g.cn g.cc, vI g.e0, vI g.e1, vI g.e2], vI g.version, vS g.ib (g.io * 3) g.ni g.ic] (ap [] [T]) F (fun u H' => ∃ x, H' = ap [] [x] ∧ (MemH mb (actV (g.step M) M).M k x ∧ u = .tuple #[.bool false, .agg #[vI ((actV (g.step M) M).e.t), vI ((actV (g.step M) M).e.i), vI ((actV (g.step M) M).e.k), vI ((actV (g.step M) M).e.v)], .bool ((actV (g.step M) M).em)])) := by
  refine Sp.run Tryz.func73 rfl mn (A := []) (Ts := [T]) rfl fun w0 => ?_
  refine RN.go 29 (ow 0 8) fun n1 => RN.cp (get_lit 1 hp hM (sub_ap 0)) <| RN.go 18 [] fun _ => RN.draw [] [] <| RD.go [] [0, 1, 2, 3, 4, 5, 7] (ow 3 16 ++ [.own 2, .own 2, .own 2, .own 2]) <| RD.cp [] 6 (fun X_ => (get_any 2 hM (sub_apX 0))) <| RD.cp [] 8 (fun X_ => (get_any 3 hM (sub_apX 0))) <| RD.go [] [9] [] <| RD.one 10 (RDO.ev [] [] fun n2 => ?_)
  refine RD.go [] [11] [] <| RD.fin <| RN.go 7 [.own 1] fun _ => RN.ct [0] [0] (act_v (g.step M) (n2 + 0) mb M (k + 11) T _ hM hS.up (ro_ap hE) hC.up) ?_
  rintro _ T3 hM4
  refine RN.go 3 [] fun _ => RN.draw [13] [0, 1, 3, 4] <| RD.go [0, 1, 3, 4] [0, 4, 8, 1, 5, 9, 2, 6, 10, 3, 7, 11, 12] (ow 0 5 ++ [.ro 0]) <| RD.one 13 (RDO.ev [0, 1, 3, 4] [.own 2, .own 2, .own 2, .own 2] fun _ => ?_)
  refine RD.go [0, 1, 3, 4] [14] [] <| RD.fin <| RN.go 1 [] fun _ => RN.ret [.own 2, .own 2, .own 2, .own 2] [] [0] (v := .tuple #[.bool false, .agg #[vI ((actV (g.step M) M).e.t), vI ((actV (g.step M) M).e.i), vI ((actV (g.step M) M).e.k), vI ((actV (g.step M) M).e.v)], .bool ((actV (g.step M) M).em)]) (H' := (ap [] [T3])) ?_
  exact ⟨T3, rfl, hM4.weak (by omega), rfl⟩

set_option maxHeartbeats 2000000 in
set_option maxRecDepth 100000 in
theorem trans2 (g : Gm) (mb : Nat) (M : MemS) (k : Nat) (T F : HL) (hM : MemH mb M (k + 20) T) (hS : SetIn F g.S) (hp : M.get 1 = 2) (hE : EffIn F) (hC : CodeIn F g.code g.cA g.cn) : Sp Tryz.prog 73 #[.iface 46 (vP mb 0), .agg #[vI g.S.players, vS g.S.bb (g.S.bo * 9) g.S.nb g.S.bc, vI g.S.box.x0, vI g.S.box.y0, vI g.S.box.x1, vI g.S.box.y1, .slice g.S.rA g.S.rn g.S.rc, .slice g.S.dA g.S.dn g.S.dc, vI g.S.fog, vI g.S.g.x, vI g.S.g.y, vI g.S.push, vI g.S.drag, vI g.S.rest, vI g.S.rounds, vI g.S.fuel], .agg #[.slice g.cA g.cn g.cc, vI g.e0, vI g.e1, vI g.e2], vI g.version, vS g.ib (g.io * 3) g.ni g.ic] (ap [] [T]) F (fun u H' => ∃ x, H' = ap [] [x] ∧ (MemH mb (tickV (g.step M) M).M k x ∧ u = .tuple #[.bool false, .agg #[vI ((tickV (g.step M) M).e.t), vI ((tickV (g.step M) M).e.i), vI ((tickV (g.step M) M).e.k), vI ((tickV (g.step M) M).e.v)], .bool ((tickV (g.step M) M).em)])) := by
  refine Sp.run Tryz.func73 rfl mn (A := []) (Ts := [T]) rfl fun w0 => ?_
  refine RN.go 29 (ow 0 8) fun n1 => RN.cp (get_lit 1 hp hM (sub_ap 0)) <| RN.go 18 [] fun _ => RN.draw [] [] <| RD.go [] [0, 1, 2, 3, 4, 5, 7] (ow 3 16 ++ [.own 2, .own 2, .own 2, .own 2]) <| RD.cp [] 6 (fun X_ => (get_any 2 hM (sub_apX 0))) <| RD.cp [] 8 (fun X_ => (get_any 3 hM (sub_apX 0))) <| RD.go [] [9] [] <| RD.one 10 (RDO.ev [] [] fun n2 => ?_)
  refine RD.go [] [11] [] <| RD.fin <| RN.go 7 [.own 1] fun _ => RN.ct [0] [0] (tick_v (g.step M) (n2 + 0) mb M (k + 11) T _ hM hS.up (ro_ap hE) hC.up) ?_
  rintro _ T3 hM4
  refine RN.go 3 [] fun _ => RN.draw [13] [0, 1, 3, 4] <| RD.go [0, 1, 3, 4] [0, 4, 8, 1, 5, 9, 2, 6, 10, 3, 7, 11, 12] (ow 0 5 ++ [.ro 0]) <| RD.one 13 (RDO.ev [0, 1, 3, 4] [.own 2, .own 2, .own 2, .own 2] fun _ => ?_)
  refine RD.go [0, 1, 3, 4] [14] [] <| RD.fin <| RN.go 1 [] fun _ => RN.ret [.own 2, .own 2, .own 2, .own 2] [] [0] (v := .tuple #[.bool false, .agg #[vI ((tickV (g.step M) M).e.t), vI ((tickV (g.step M) M).e.i), vI ((tickV (g.step M) M).e.k), vI ((tickV (g.step M) M).e.v)], .bool ((tickV (g.step M) M).em)]) (H' := (ap [] [T3])) ?_
  exact ⟨T3, rfl, hM4.weak (by omega), rfl⟩

set_option maxHeartbeats 2000000 in
set_option maxRecDepth 100000 in
theorem trans3 (g : Gm) (mb : Nat) (M : MemS) (k : Nat) (T F : HL) (hM : MemH mb M (k + 20) T) (hS : SetIn F g.S) (hp : M.get 1 = 3)  : Sp Tryz.prog 73 #[.iface 46 (vP mb 0), .agg #[vI g.S.players, vS g.S.bb (g.S.bo * 9) g.S.nb g.S.bc, vI g.S.box.x0, vI g.S.box.y0, vI g.S.box.x1, vI g.S.box.y1, .slice g.S.rA g.S.rn g.S.rc, .slice g.S.dA g.S.dn g.S.dc, vI g.S.fog, vI g.S.g.x, vI g.S.g.y, vI g.S.push, vI g.S.drag, vI g.S.rest, vI g.S.rounds, vI g.S.fuel], .agg #[.slice g.cA g.cn g.cc, vI g.e0, vI g.e1, vI g.e2], vI g.version, vS g.ib (g.io * 3) g.ni g.ic] (ap [] [T]) F (fun u H' => ∃ x, H' = ap [] [x] ∧ (MemH mb (forceM (g.step M) M) k x ∧ u = .tuple #[.bool false, .agg #[vI 0, vI 0, vI 0, vI 0], .bool false])) := by
  refine Sp.run Tryz.func73 rfl mn (A := []) (Ts := [T]) rfl fun w0 => ?_
  refine RN.go 29 (ow 0 8) fun n1 => RN.cp (get_lit 1 hp hM (sub_ap 0)) <| RN.go 18 [] fun _ => RN.draw [] [] <| RD.go [] [0, 1, 2, 3, 4, 5, 7] (ow 3 16 ++ [.own 2, .own 2, .own 2, .own 2]) <| RD.cp [] 6 (fun X_ => (get_any 2 hM (sub_apX 0))) <| RD.cp [] 8 (fun X_ => (get_any 3 hM (sub_apX 0))) <| RD.go [] [9] [] <| RD.one 10 (RDO.ev [] [] fun n2 => ?_)
  refine RD.go [] [11] [] <| RD.fin <| RN.go 7 [.own 1] fun _ => RN.ct [0] [0] (force_any (g.step M) (n2 + 0) mb M (k + 12) T _ hM hS.up ) ?_
  rintro _ T3 hM4
  refine RN.go 3 [] fun _ => RN.draw [13] [0, 1, 3, 4] <| RD.go [0, 1, 3, 4] [0, 4, 8, 1, 5, 9, 2, 6, 10, 3, 7, 11, 12] (ow 0 5 ++ [.ro 0]) <| RD.one 13 (RDO.ev [0, 1, 3, 4] [.own 2, .own 2, .own 2, .own 2] fun _ => ?_)
  refine RD.go [0, 1, 3, 4] [14] [] <| RD.fin <| RN.go 1 [] fun _ => RN.ret [.own 2, .own 2, .own 2, .own 2] [] [0] (v := .tuple #[.bool false, .agg #[vI 0, vI 0, vI 0, vI 0], .bool false]) (H' := (ap [] [T3])) ?_
  exact ⟨T3, rfl, hM4.weak (by omega), rfl⟩

set_option maxHeartbeats 2000000 in
set_option maxRecDepth 100000 in
theorem trans4 (g : Gm) (mb : Nat) (M : MemS) (k : Nat) (T F : HL) (hM : MemH mb M (k + 20) T) (hS : SetIn F g.S) (hp : M.get 1 = 4)  : Sp Tryz.prog 73 #[.iface 46 (vP mb 0), .agg #[vI g.S.players, vS g.S.bb (g.S.bo * 9) g.S.nb g.S.bc, vI g.S.box.x0, vI g.S.box.y0, vI g.S.box.x1, vI g.S.box.y1, .slice g.S.rA g.S.rn g.S.rc, .slice g.S.dA g.S.dn g.S.dc, vI g.S.fog, vI g.S.g.x, vI g.S.g.y, vI g.S.push, vI g.S.drag, vI g.S.rest, vI g.S.rounds, vI g.S.fuel], .agg #[.slice g.cA g.cn g.cc, vI g.e0, vI g.e1, vI g.e2], vI g.version, vS g.ib (g.io * 3) g.ni g.ic] (ap [] [T]) F (fun u H' => ∃ x, H' = ap [] [x] ∧ (MemH mb (contactF (g.step M) M) k x ∧ u = .tuple #[.bool false, .agg #[vI 0, vI 0, vI 0, vI 0], .bool false])) := by
  refine Sp.run Tryz.func73 rfl mn (A := []) (Ts := [T]) rfl fun w0 => ?_
  refine RN.go 29 (ow 0 8) fun n1 => RN.cp (get_lit 1 hp hM (sub_ap 0)) <| RN.go 18 [] fun _ => RN.draw [] [] <| RD.go [] [0, 1, 2, 3, 4, 5, 7] (ow 3 16 ++ [.own 2, .own 2, .own 2, .own 2]) <| RD.cp [] 6 (fun X_ => (get_any 2 hM (sub_apX 0))) <| RD.cp [] 8 (fun X_ => (get_any 3 hM (sub_apX 0))) <| RD.go [] [9] [] <| RD.one 10 (RDO.ev [] [] fun n2 => ?_)
  refine RD.go [] [11] [] <| RD.fin <| RN.go 7 [.own 1] fun _ => RN.ct [0] [0] (contact_full (g.step M) (n2 + 0) mb M (k + 6) T _ hM hS.up ) ?_
  rintro _ T3 hM4
  refine RN.go 3 [] fun _ => RN.draw [13] [0, 1, 3, 4] <| RD.go [0, 1, 3, 4] [0, 4, 8, 1, 5, 9, 2, 6, 10, 3, 7, 11, 12] (ow 0 5 ++ [.ro 0]) <| RD.one 13 (RDO.ev [0, 1, 3, 4] [.own 2, .own 2, .own 2, .own 2] fun _ => ?_)
  refine RD.go [0, 1, 3, 4] [14] [] <| RD.fin <| RN.go 1 [] fun _ => RN.ret [.own 2, .own 2, .own 2, .own 2] [] [0] (v := .tuple #[.bool false, .agg #[vI 0, vI 0, vI 0, vI 0], .bool false]) (H' := (ap [] [T3])) ?_
  exact ⟨T3, rfl, hM4.weak (by omega), rfl⟩

set_option maxHeartbeats 2000000 in
set_option maxRecDepth 100000 in
theorem trans5 (g : Gm) (mb : Nat) (M : MemS) (k : Nat) (T F : HL) (hM : MemH mb M (k + 20) T) (hS : SetIn F g.S) (hp : M.get 1 = 5)  : Sp Tryz.prog 73 #[.iface 46 (vP mb 0), .agg #[vI g.S.players, vS g.S.bb (g.S.bo * 9) g.S.nb g.S.bc, vI g.S.box.x0, vI g.S.box.y0, vI g.S.box.x1, vI g.S.box.y1, .slice g.S.rA g.S.rn g.S.rc, .slice g.S.dA g.S.dn g.S.dc, vI g.S.fog, vI g.S.g.x, vI g.S.g.y, vI g.S.push, vI g.S.drag, vI g.S.rest, vI g.S.rounds, vI g.S.fuel], .agg #[.slice g.cA g.cn g.cc, vI g.e0, vI g.e1, vI g.e2], vI g.version, vS g.ib (g.io * 3) g.ni g.ic] (ap [] [T]) F (fun u H' => ∃ x, H' = ap [] [x] ∧ (MemH mb (moveF (g.step M) M) k x ∧ u = .tuple #[.bool false, .agg #[vI 0, vI 0, vI 0, vI 0], .bool false])) := by
  refine Sp.run Tryz.func73 rfl mn (A := []) (Ts := [T]) rfl fun w0 => ?_
  refine RN.go 29 (ow 0 8) fun n1 => RN.cp (get_lit 1 hp hM (sub_ap 0)) <| RN.go 18 [] fun _ => RN.draw [] [] <| RD.go [] [0, 1, 2, 3, 4, 5, 7] (ow 3 16 ++ [.own 2, .own 2, .own 2, .own 2]) <| RD.cp [] 6 (fun X_ => (get_any 2 hM (sub_apX 0))) <| RD.cp [] 8 (fun X_ => (get_any 3 hM (sub_apX 0))) <| RD.go [] [9] [] <| RD.one 10 (RDO.ev [] [] fun n2 => ?_)
  refine RD.go [] [11] [] <| RD.fin <| RN.go 7 [.own 1] fun _ => RN.ct [0] [0] (move_full (g.step M) (n2 + 0) mb M (k + 12) T _ hM hS.up ) ?_
  rintro _ T3 hM4
  refine RN.go 3 [] fun _ => RN.draw [13] [0, 1, 3, 4] <| RD.go [0, 1, 3, 4] [0, 4, 8, 1, 5, 9, 2, 6, 10, 3, 7, 11, 12] (ow 0 5 ++ [.ro 0]) <| RD.one 13 (RDO.ev [0, 1, 3, 4] [.own 2, .own 2, .own 2, .own 2] fun _ => ?_)
  refine RD.go [0, 1, 3, 4] [14] [] <| RD.fin <| RN.go 1 [] fun _ => RN.ret [.own 2, .own 2, .own 2, .own 2] [] [0] (v := .tuple #[.bool false, .agg #[vI 0, vI 0, vI 0, vI 0], .bool false]) (H' := (ap [] [T3])) ?_
  exact ⟨T3, rfl, hM4.weak (by omega), rfl⟩

set_option maxHeartbeats 2000000 in
set_option maxRecDepth 100000 in
theorem trans6 (g : Gm) (mb : Nat) (M : MemS) (k : Nat) (T F : HL) (hM : MemH mb M (k + 20) T) (hS : SetIn F g.S) (hp : M.get 1 = 6) (hE : EffIn F) (hC : CodeIn F g.code g.cA g.cn) : Sp Tryz.prog 73 #[.iface 46 (vP mb 0), .agg #[vI g.S.players, vS g.S.bb (g.S.bo * 9) g.S.nb g.S.bc, vI g.S.box.x0, vI g.S.box.y0, vI g.S.box.x1, vI g.S.box.y1, .slice g.S.rA g.S.rn g.S.rc, .slice g.S.dA g.S.dn g.S.dc, vI g.S.fog, vI g.S.g.x, vI g.S.g.y, vI g.S.push, vI g.S.drag, vI g.S.rest, vI g.S.rounds, vI g.S.fuel], .agg #[.slice g.cA g.cn g.cc, vI g.e0, vI g.e1, vI g.e2], vI g.version, vS g.ib (g.io * 3) g.ni g.ic] (ap [] [T]) F (fun u H' => ∃ x, H' = ap [] [x] ∧ (MemH mb (hitV (g.step M) M).M k x ∧ u = .tuple #[.bool false, .agg #[vI ((hitV (g.step M) M).e.t), vI ((hitV (g.step M) M).e.i), vI ((hitV (g.step M) M).e.k), vI ((hitV (g.step M) M).e.v)], .bool ((hitV (g.step M) M).em)])) := by
  refine Sp.run Tryz.func73 rfl mn (A := []) (Ts := [T]) rfl fun w0 => ?_
  refine RN.go 29 (ow 0 8) fun n1 => RN.cp (get_lit 1 hp hM (sub_ap 0)) <| RN.go 18 [] fun _ => RN.draw [] [] <| RD.go [] [0, 1, 2, 3, 4, 5, 7] (ow 3 16 ++ [.own 2, .own 2, .own 2, .own 2]) <| RD.cp [] 6 (fun X_ => (get_any 2 hM (sub_apX 0))) <| RD.cp [] 8 (fun X_ => (get_any 3 hM (sub_apX 0))) <| RD.go [] [9] [] <| RD.one 10 (RDO.ev [] [] fun n2 => ?_)
  refine RD.go [] [11] [] <| RD.fin <| RN.go 7 [.own 1] fun _ => RN.ct [0] [0] (hit_v (g.step M) (n2 + 0) mb M (k + 11) T _ hM hS.up (ro_ap hE) hC.up) ?_
  rintro _ T3 hM4
  refine RN.go 3 [] fun _ => RN.draw [13] [0, 1, 3, 4] <| RD.go [0, 1, 3, 4] [0, 4, 8, 1, 5, 9, 2, 6, 10, 3, 7, 11, 12] (ow 0 5 ++ [.ro 0]) <| RD.one 13 (RDO.ev [0, 1, 3, 4] [.own 2, .own 2, .own 2, .own 2] fun _ => ?_)
  refine RD.go [0, 1, 3, 4] [14] [] <| RD.fin <| RN.go 1 [] fun _ => RN.ret [.own 2, .own 2, .own 2, .own 2] [] [0] (v := .tuple #[.bool false, .agg #[vI ((hitV (g.step M) M).e.t), vI ((hitV (g.step M) M).e.i), vI ((hitV (g.step M) M).e.k), vI ((hitV (g.step M) M).e.v)], .bool ((hitV (g.step M) M).em)]) (H' := (ap [] [T3])) ?_
  exact ⟨T3, rfl, hM4.weak (by omega), rfl⟩

set_option maxHeartbeats 2000000 in
set_option maxRecDepth 100000 in
theorem trans7 (g : Gm) (mb : Nat) (M : MemS) (k : Nat) (T F : HL) (hM : MemH mb M (k + 20) T) (hS : SetIn F g.S) (hp : M.get 1 = 7)  : Sp Tryz.prog 73 #[.iface 46 (vP mb 0), .agg #[vI g.S.players, vS g.S.bb (g.S.bo * 9) g.S.nb g.S.bc, vI g.S.box.x0, vI g.S.box.y0, vI g.S.box.x1, vI g.S.box.y1, .slice g.S.rA g.S.rn g.S.rc, .slice g.S.dA g.S.dn g.S.dc, vI g.S.fog, vI g.S.g.x, vI g.S.g.y, vI g.S.push, vI g.S.drag, vI g.S.rest, vI g.S.rounds, vI g.S.fuel], .agg #[.slice g.cA g.cn g.cc, vI g.e0, vI g.e1, vI g.e2], vI g.version, vS g.ib (g.io * 3) g.ni g.ic] (ap [] [T]) F (fun u H' => ∃ x, H' = ap [] [x] ∧ (MemH mb (restM (g.step M) M) k x ∧ u = .tuple #[.bool (restB (g.step M)), .agg #[vI 0, vI 0, vI 0, vI 0], .bool false])) := by
  refine Sp.run Tryz.func73 rfl mn (A := []) (Ts := [T]) rfl fun w0 => ?_
  refine RN.go 29 (ow 0 8) fun n1 => RN.cp (get_lit 1 hp hM (sub_ap 0)) <| RN.go 18 [] fun _ => RN.draw [] [] <| RD.go [] [0, 1, 2, 3, 4, 5, 7] (ow 3 16 ++ [.own 2, .own 2, .own 2, .own 2]) <| RD.cp [] 6 (fun X_ => (get_any 2 hM (sub_apX 0))) <| RD.cp [] 8 (fun X_ => (get_any 3 hM (sub_apX 0))) <| RD.go [] [9] [] <| RD.one 10 (RDO.ev [] [] fun n2 => ?_)
  refine RD.go [] [11] [] <| RD.fin <| RN.go 7 [.own 1] fun _ => RN.ct [0] [0] (rest_any (g.step M) (n2 + 0) mb M (k + 6) T _ hM hS.up ) ?_
  rintro _ T3 hM4
  refine RN.go 3 [] fun _ => RN.draw [13] [0, 1, 3, 4] <| RD.go [0, 1, 3, 4] [0, 4, 8, 1, 5, 9, 2, 6, 10, 3, 7, 11, 12] (ow 0 5 ++ [.ro 0]) <| RD.one 13 (RDO.ev [0, 1, 3, 4] [.own 2, .own 2, .own 2, .own 2] fun _ => ?_)
  refine RD.go [0, 1, 3, 4] [14] [] <| RD.fin <| RN.go 1 [] fun _ => RN.ret [.own 2, .own 2, .own 2, .own 2] [] [0] (v := .tuple #[.bool (restB (g.step M)), .agg #[vI 0, vI 0, vI 0, vI 0], .bool false]) (H' := (ap [] [T3])) ?_
  exact ⟨T3, rfl, hM4.weak (by omega), rfl⟩
end Go.Proofs.YtlefngomddjahaaGreatDoor
/- Contracts, printed by a program. -/
namespace Go.Proofs.YtlefngomddjahaaGreatDoor
set_option linter.unusedSimpArgs false
set_option linter.unusedVariables false
open Go.RowKit
def effE : Enc Eff := ⟨4, fun p k => match k with | 0 => vI p.t | 1 => vI p.i | 2 => vI p.k | _ => vI p.v, eff0⟩
noncomputable def effEI : TypeInfo := match Tryz.prog.info? 101 with | some i => i | none => ⟨.bool, "", 0, 0, false, 0, 0, none, false, #[]⟩
noncomputable def effEZ : Value := match effEI.zero with | some z => z | none => .bool false
theorem effEOk : EncOk effE Tryz.prog 101 effEI effEZ where
  info := by kernel_rfl
  zero := by kernel_rfl
  size := by kernel_rfl
  zsize := by kernel_rfl
  zcell := fun k hk => by
    have h : ∀ k < 4, effEZ.cells[k]? = some (effE.cell effE.dflt k) := by intro k hk; (iterate 4 (rcases k with _ | k; · kernel_rfl)); omega
    exact h k hk
  one := fun x k => by unfold effE; dsimp only; split <;> rfl
  bytes := Nat.le_of_ble_eq_true (by kernel_rfl)

/-- a transition -/
def trV (g : Gm) (M : MemS) : VR := if M.get 1 = 0 then ⟨inputM (g.step M) M, 0, eff0, false⟩ else if M.get 1 = 1 then (actV (g.step M) M) else if M.get 1 = 2 then (tickV (g.step M) M) else if M.get 1 = 3 then ⟨forceM (g.step M) M, 0, eff0, false⟩ else if M.get 1 = 4 then ⟨contactF (g.step M) M, 0, eff0, false⟩ else if M.get 1 = 5 then ⟨moveF (g.step M) M, 0, eff0, false⟩ else if M.get 1 = 6 then (hitV (g.step M) M) else ⟨restM (g.step M) M, 0, eff0, false⟩
def trE (g : Gm) (M : MemS) : Bool := if M.get 1 = 7 then restB (g.step M) else false
abbrev trM (g : Gm) (M : MemS) : MemS := (trV g M).M
abbrev phOk (M : MemS) : Prop := 0 ≤ M.get 1 ∧ M.get 1 ≤ 7
structure GmIn (F : HL) (g : Gm) : Prop where
  set : SetIn F g.S
  ins : (g.ib, .rows 3 g.iR (inrow g.ins) 24 (0, 0)) ∈ F
  room : g.io + g.ni ≤ g.iR ∧ g.ni ≤ 1000000
  eff : EffIn F
  code : CodeIn F g.code g.cA g.cn
theorem GmIn.up {X F : HL} {g : Gm} (h : GmIn F g) : GmIn (X ++ F) g := ⟨h.set.up, List.mem_append_right _ h.ins, h.room, List.mem_append_right _ h.eff, h.code.up⟩

theorem trans_any (g : Gm) (mb : Nat) (M : MemS) (k : Nat) (T F : HL) (hM : MemH mb M (k + 20) T) (hg : GmIn F g) (h0 : phOk M) (ver : Int) (hver : g.version = ver) : Sp Tryz.prog 73 #[.iface 46 (vP mb 0), .agg #[vI g.S.players, vS g.S.bb (g.S.bo * 9) g.S.nb g.S.bc, vI g.S.box.x0, vI g.S.box.y0, vI g.S.box.x1, vI g.S.box.y1, .slice g.S.rA g.S.rn g.S.rc, .slice g.S.dA g.S.dn g.S.dc, vI g.S.fog, vI g.S.g.x, vI g.S.g.y, vI g.S.push, vI g.S.drag, vI g.S.rest, vI g.S.rounds, vI g.S.fuel], .agg #[.slice g.cA g.cn g.cc, vI g.e0, vI g.e1, vI g.e2], vI ver, vS g.ib (g.io * 3) g.ni g.ic] (ap [] [T]) F (fun u H' => ∃ x, H' = ap [] [x] ∧ (MemH mb (trM g M) k x ∧ u = .tuple #[.bool (trE g M), .agg #[vI ((trV g M).e.t), vI ((trV g M).e.i), vI ((trV g M).e.k), vI ((trV g M).e.v)], .bool ((trV g M).em)])) := by
  subst hver
  by_cases h0 : M.get 1 = 0
  · rw [trM, show trV g M = ⟨inputM (g.step M) M, 0, eff0, false⟩ by simp only [trV, if_pos h0], show trE g M = false by simp [trE, h0]]
    exact trans0 g mb M k T F hM hg.set h0 hg.ins hg.room
  by_cases h1 : M.get 1 = 1
  · rw [trM, show trV g M = (actV (g.step M) M) by simp only [trV, if_neg h0, if_pos h1], show trE g M = false by simp [trE, h1]]
    exact trans1 g mb M k T F hM hg.set h1 hg.eff hg.code
  by_cases h2 : M.get 1 = 2
  · rw [trM, show trV g M = (tickV (g.step M) M) by simp only [trV, if_neg h0, if_neg h1, if_pos h2], show trE g M = false by simp [trE, h2]]
    exact trans2 g mb M k T F hM hg.set h2 hg.eff hg.code
  by_cases h3 : M.get 1 = 3
  · rw [trM, show trV g M = ⟨forceM (g.step M) M, 0, eff0, false⟩ by simp only [trV, if_neg h0, if_neg h1, if_neg h2, if_pos h3], show trE g M = false by simp [trE, h3]]
    exact trans3 g mb M k T F hM hg.set h3
  by_cases h4 : M.get 1 = 4
  · rw [trM, show trV g M = ⟨contactF (g.step M) M, 0, eff0, false⟩ by simp only [trV, if_neg h0, if_neg h1, if_neg h2, if_neg h3, if_pos h4], show trE g M = false by simp [trE, h4]]
    exact trans4 g mb M k T F hM hg.set h4
  by_cases h5 : M.get 1 = 5
  · rw [trM, show trV g M = ⟨moveF (g.step M) M, 0, eff0, false⟩ by simp only [trV, if_neg h0, if_neg h1, if_neg h2, if_neg h3, if_neg h4, if_pos h5], show trE g M = false by simp [trE, h5]]
    exact trans5 g mb M k T F hM hg.set h5
  by_cases h6 : M.get 1 = 6
  · rw [trM, show trV g M = (hitV (g.step M) M) by simp only [trV, if_neg h0, if_neg h1, if_neg h2, if_neg h3, if_neg h4, if_neg h5, if_pos h6], show trE g M = false by simp [trE, h6]]
    exact trans6 g mb M k T F hM hg.set h6 hg.eff hg.code
  have h7 : M.get 1 = 7 := by omega
  rw [trM, show trV g M = ⟨restM (g.step M) M, 0, eff0, false⟩ by simp only [trV, if_neg h0, if_neg h1, if_neg h2, if_neg h3, if_neg h4, if_neg h5, if_neg h6], show trE g M = restB (g.step M) by simp [trE, h7]]
  exact trans7 g mb M k T F hM hg.set h7

def runM (g : Gm) : Nat → MemS → MemS
  | 0, M => M
  | n + 1, M => runM g n (trM g M)
def effsV (g : Gm) : Nat → MemS → List Eff
  | 0, _ => []
  | n + 1, M => (if (trV g M).em = true then [(trV g M).e] else []) ++ effsV g n (trM g M)
/-- n transitions, the last of which ends the tick -/
def goodRun (g : Gm) : Nat → MemS → Prop
  | 0, _ => False
  | n + 1, M => phOk M ∧ ((n = 0 ∧ trE g M = true) ∨ (trE g M = false ∧ goodRun g n (trM g M)))
theorem effsV_yes {g : Gm} {n : Nat} {M : MemS} (h : (trV g M).em = true) : effsV g (n + 1) M = (trV g M).e :: effsV g n (trM g M) := by rw [effsV, if_pos h]; rfl
theorem effsV_no {g : Gm} {n : Nat} {M : MemS} (h : ¬ (trV g M).em = true) : effsV g (n + 1) M = effsV g n (trM g M) := by rw [effsV, if_neg h]; rfl
theorem effsV_len (g : Gm) : ∀ n M, (effsV g n M).length ≤ n
  | 0, _ => Nat.le_refl _
  | n + 1, M => by
    rw [effsV, List.length_append]
    have := effsV_len g n (trM g M)
    split
    · simp; omega
    · simp; omega
end Go.Proofs.YtlefngomddjahaaGreatDoor
/- Contracts, printed by a program. -/
namespace Go.Proofs.YtlefngomddjahaaGreatDoor
set_option linter.unusedSimpArgs false
set_option linter.unusedVariables false
open Go.RowKit
def cpy (cs : List Int) (i : Nat) : List Int := cs.take i ++ List.replicate (cs.length - i) 0
theorem zrow_irow (n : Nat) : zrow [vI 0] = irow (List.replicate n 0) := by
  funext i k
  rcases k with _ | k
  · have : (List.replicate n (0 : Int)).getD i 0 = 0 := by
      rw [List.getD_eq_getElem?_getD, List.getElem?_replicate]; split <;> rfl
    show vI 0 = vI _
    rw [this]
  · simp [zrow, irow]
theorem cpy_zero (cs : List Int) : zrow [vI 0] = irow (cpy cs 0) := by rw [zrow_irow cs.length]; simp [cpy]
theorem cpy_end (cs : List Int) : cpy cs cs.length = cs := by simp [cpy]
theorem cpy_next {cs : List Int} {i : Nat} (h : i < cs.length) : updG (irow (cpy cs i)) i 0 (vI (cs.getD i 0)) = irow (cpy cs (i + 1)) := by
  rw [irow_set (by simp [cpy]; omega)]
  congr 1
  unfold cpy
  rw [List.set_append_right _ _ (by simp; omega)]
  have e : cs.length - i = (cs.length - (i + 1)) + 1 := by omega
  rw [e, List.replicate_succ, List.take_succ_eq_append_getElem h, List.append_assoc]
  simp [List.length_take, Nat.min_eq_left (Nat.le_of_lt h), h]
theorem MemH.len {mb : Nat} {M : MemS} {k : Nat} {T : HL} (h : MemH mb M k T) : M.cs.length ≤ 1000000 := by
  cases h with
  | mk cb A cap Hl hs hc hl => exact hc
theorem upd_eq {g g' : Nat → Nat → Value} {b w n : Nat} {ty : TypeId} {fz : Nat × Nat} {A : HL} {Ts : List HL} (h : g = g') : ap ((b, .rows w n g ty fz) :: A) Ts = ap ((b, .rows w n g' ty fz) :: A) Ts := h ▸ rfl

set_option maxHeartbeats 400000 in
set_option maxRecDepth 100000 in
theorem len_mem (mb cb n : Nat) (A : Option Addr) (m cap : Nat) (base : Int) (F : HL) (hm : (mb, .lit [vS cb 0 n n, .slice A m cap, vI base] 132 (0, 0)) ∈ F) : Sp Tryz.prog 40 #[vP mb 0] [] F (fun u H' => u = vI (n : Int) ∧ H' = []) := by
  refine Sp.run Tryz.func40 rfl (mc hm mn) (A := []) (Ts := []) rfl fun w0 => ?_
  refine RN.go 15 [.ro 0] fun _ => ?_
  exact RN.ret [] [] [] ⟨rfl, rfl⟩

theorem len_any {mb : Nat} {M : MemS} {k : Nat} {T : HL} {F : HL} (h : MemH mb M k T) (hs : ∀ x ∈ T, x ∈ F) : Sp Tryz.prog 40 #[vP mb 0] [] F (fun u H' => u = vI (M.cs.length : Int) ∧ H' = []) := by
  cases h with
  | mk cb A cap Hl hsl hc hl => exact len_mem mb cb M.cs.length A M.lg.length cap M.base F (hs _ (by simp))

theorem get_nat {M : MemS} {i : Nat} (h : i < M.cs.length) : M.get (i : Int) = M.cs.getD i 0 := by
  unfold MemS.get
  rw [if_pos (by omega), Int.toNat_natCast]

set_option maxHeartbeats 400000 in
set_option maxRecDepth 100000 in
theorem cells_any (mb : Nat) (M : MemS) (k : Nat) (T F : HL) (hM : MemH mb M k T) (hT : ∀ x ∈ T, x ∈ F) : Sp Tryz.prog 15 #[vP mb 0] [] F (fun u H' => ∃ q, H' = ap [(q, .rows 1 M.cs.length (irow M.cs) 3 (0, 0))] [] ∧ u = vS q 0 M.cs.length M.cs.length) := by
  have hl := hM.len
  refine Sp.run Tryz.func15 rfl mn (A := []) (Ts := []) rfl fun w0 => ?_
  refine RN.go 8 [] fun _ => RN.cp (len_any hM (fun x hx => List.mem_append_right _ (hT x hx))) <| RN.goP 8 [.mk M.cs.length M.cs.length] [(M.cs.length : Int) = ((M.cs.length : Nat) : Int) ∧ (M.cs.length : Int) = ((M.cs.length : Nat) : Int) ∧ M.cs.length ≤ M.cs.length ∧ 8 * M.cs.length ≤ 140737488355328 ∧ 1 = 1 ∧ M.cs.length ≤ 9223372036854775807] fun n1 => RN.cp (len_any hM (fun x hx => List.mem_append_right _ (hT x hx))) <| RN.go 4 [] fun _ => RN.bv 0 (congrArg (fun v_ => (.rows 1 M.cs.length v_ 3 (0, 0) : Blk)) (show (zrow [vI 0]) = (irow (cpy M.cs 0)) from (by rw [cpy_zero M.cs]))) <| RN.loop (σ := Nat) (fun i => ⟨[(0, vP mb 0), (3, vS (n1 + 0) 0 M.cs.length M.cs.length), (9, vI (M.cs.length : Int)), (10, vI (i : Int))], [((n1 + 0), .rows 1 M.cs.length (irow (cpy M.cs i)) 3 (0, 0))], [], i ≤ M.cs.length, M.cs.length - i⟩) 0 [0] [] (Nat.zero_le _) ?_
  rintro i hI2 mt3
  refine RN.go 6 [] fun _ => RN.em ((i : Int) < (M.cs.length : Int)) 11 (fun h4 => ?_) fun h4 => ?_
  · refine RN.go 16 [] fun _ => RN.cp (get_any (i : Int) hM (fun x hx => List.mem_append_right _ (hT x hx))) <| RN.goP 9 [.ix i, .row 0 i 0, .nw] [I64 ((i : Int) + 1), (0 + i * 1) = i * 1 + 0 ∧ i < M.cs.length, (i : Int) = ((i : Nat) : Int) ∧ i < M.cs.length] fun _ => RN.bv 0 (congrArg (fun v_ => (.rows 1 M.cs.length v_ 3 (0, 0) : Blk)) (show (updG (irow (cpy M.cs i)) i 0 (vI (M.get (i : Int)))) = (irow (cpy M.cs (i + 1))) from (by rw [← cpy_next (cs := M.cs) (i := i) (by omega)]; rw [get_nat (by omega)]))) ?_
    refine mt3 (i + 1) [0] [] ?_
    try dsimp only
    exact ⟨by omega, by omega⟩
  · refine RN.go 12 [] fun _ => RN.ret [] [0] [] (v := vS (n1 + 0) 0 M.cs.length M.cs.length) (H' := [((n1 + 0), .rows 1 M.cs.length (irow (cpy M.cs i)) 3 (0, 0))]) ?_
    have ei : i = M.cs.length := by omega
    subst ei
    exact ⟨_, by rw [cpy_end]; rfl, rfl⟩

set_option maxHeartbeats 400000 in
set_option maxRecDepth 100000 in
theorem new_any (q : Nat) (cs : List Int) (k cap : Nat) (F : HL) (hq : (q, .rows 1 cs.length (irow cs) 3 (0, 0)) ∈ F) (hc : cs.length ≤ 1000000) (hk : k ≤ 100000000) (hcap : cs.length ≤ cap) : Sp Tryz.prog 35 #[vS q 0 cs.length cap] [] F (fun u H' => ∃ x : Nat × HL, H' = ap [] [x.2] ∧ (u = vP x.1 0 ∧ MemH x.1 ⟨cs, [], 0⟩ k x.2)) := by
  refine Sp.run Tryz.func35 rfl (mc hq mn) (A := []) (Ts := []) rfl fun w0 => ?_
  refine RN.goP 24 [.mk cs.length cs.length] [(cs.length : Int) = ((cs.length : Nat) : Int) ∧ (cs.length : Int) = ((cs.length : Nat) : Int) ∧ cs.length ≤ cs.length ∧ 8 * cs.length ≤ 140737488355328 ∧ 1 = 1 ∧ cs.length ≤ 9223372036854775807] fun n1 => RN.bv 1 (congrArg (fun v_ => (.rows 1 cs.length v_ 3 (0, 0) : Blk)) (show (zrow [vI 0]) = (irow (cpy cs 0)) from (by rw [cpy_zero cs]))) <| RN.loop (σ := Nat) (fun i => ⟨[(0, vS q 0 cs.length cap), (3, vP (n1 + 1) 0), (11, vI (cs.length : Int)), (12, vI (i : Int))], [((n1 + 1), .lit [vS (n1 + 0) 0 cs.length cs.length, .slice none 0 0, vI 0] 132 (0, 0)), ((n1 + 0), .rows 1 cs.length (irow (cpy cs i)) 3 (0, 0))], [], i ≤ cs.length, cs.length - i⟩) 0 [0, 1] [] (Nat.zero_le _) ?_
  rintro i hI2 mt3
  refine RN.go 6 [] fun _ => RN.em ((i : Int) < (cs.length : Int)) 13 (fun h4 => ?_) fun h4 => ?_
  · refine RN.go 11 [] fun _ => RN.draw [10] [] <| RD.goP [] [0, 4, 5, 6, 1, 7, 2, 8, 3, 9] [.ix i, .rorow 0 i 0, .own 0, .ix i] [(i : Int) = ((i : Nat) : Int) ∧ i < cs.length, (0 + i * 1) = i * 1 + 0 ∧ i < cs.length, (i : Int) = ((i : Nat) : Int) ∧ i < cs.length] <| RD.one 10 (RDO.evP [] [.row 1 i 0] [(0 + i * 1) = i * 1 + 0 ∧ i < cs.length] fun _ => ?_)
    refine RD.fin <| RN.goP 6 [.nw] [I64 ((i : Int) + 1)] fun _ => RN.bv 1 (congrArg (fun v_ => (.rows 1 cs.length v_ 3 (0, 0) : Blk)) (show (updG (irow (cpy cs i)) i 0 (vI (cs.getD i 0))) = (irow (cpy cs (i + 1))) from (by rw [← cpy_next (cs := cs) (i := i) (by omega)]))) ?_
    refine mt3 (i + 1) [0, 1] [] ?_
    try dsimp only
    exact ⟨by omega, by omega⟩
  · refine RN.go 12 [] fun _ => RN.ret [] [0, 1] [] (v := vP (n1 + 1) 0) (H' := [((n1 + 1), .lit [vS (n1 + 0) 0 cs.length cs.length, .slice none 0 0, vI 0] 132 (0, 0)), ((n1 + 0), .rows 1 cs.length (irow (cpy cs i)) 3 (0, 0))]) ?_
    have ei : i = cs.length := by omega
    subst ei
    rw [cpy_end]
    have hmm := MemH.mk (mb := (n1 + 1)) (M := ⟨cs, [], 0⟩) (k := k) (n1 + 0) none 0 [] (SlIs.nil _ _) hc (show ([] : List (Int × Int)).length + k ≤ 100000000 by simpa using hk)
    exact ⟨((n1 + 1), _), rfl, rfl, hmm⟩
end Go.Proofs.YtlefngomddjahaaGreatDoor
