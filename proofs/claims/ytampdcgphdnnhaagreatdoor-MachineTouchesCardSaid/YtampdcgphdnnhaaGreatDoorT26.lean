/- Contracts, printed by a program. -/
import Derived.Test.YtampdcgphdnnhaaGreatDoorT21
import Derived.Test.YtampdcgphdnnhaaGreatDoorT25
namespace Go.Proofs.YtampdcgphdnnhaaGreatDoor
set_option linter.unusedSimpArgs false
set_option linter.unusedVariables false
open Go.RowKit
structure Gm where
  S : Setup
  cA : Option Addr
  cn : Nat
  cc : Nat
  e0 : Int
  e1 : Int
  e2 : Int
  version : Int
  ib : Nat
  io : Nat
  ni : Nat
  ic : Nat
  iR : Nat
  ins : List Inp
  code : List Ins
abbrev Gm.step (g : Gm) (M : MemS) : Stp := ⟨g.S, g.cA, g.cn, g.cc, g.e0, g.e1, g.e2, g.version, g.ib, g.io, g.ni, g.ic, g.iR, g.ins, M.get 2, M.get 3, false, 0, 0, 0, 0, false, g.code⟩

set_option maxHeartbeats 2000000 in
set_option maxRecDepth 100000 in
theorem trans0 (g : Gm) (mb : Nat) (M : MemS) (k : Nat) (T F : HL) (hM : MemH mb M (k + 20) T) (hS : SetIn F g.S) (hp : M.get 1 = 0) (hI : (g.ib, .rows 3 g.iR (inrow g.ins) 57 (0, 0)) ∈ F) (hir : g.io + g.ni ≤ g.iR ∧ g.ni ≤ 1000000) : Sp Tryz.prog 18 #[.iface 38 (vP mb 0), .agg #[vI g.S.players, vS g.S.bb (g.S.bo * 9) g.S.nb g.S.bc, vI g.S.box.x0, vI g.S.box.y0, vI g.S.box.x1, vI g.S.box.y1, .slice g.S.rA g.S.rn g.S.rc, .slice g.S.dA g.S.dn g.S.dc, vI g.S.fog, vI g.S.g.x, vI g.S.g.y, vI g.S.push, vI g.S.drag, vI g.S.rest, vI g.S.rounds, vI g.S.fuel], .agg #[.slice g.cA g.cn g.cc, vI g.e0, vI g.e1, vI g.e2], vI g.version, vS g.ib (g.io * 3) g.ni g.ic] (ap [] [T]) F (fun u H' => ∃ x, H' = ap [] [x] ∧ (MemH mb (inputM (g.step M) M) k x ∧ u = .tuple #[.bool false, .agg #[vI 0, vI 0, vI 0, vI 0], .bool false])) := by
  refine Sp.run Tryz.func18 rfl mn (A := []) (Ts := [T]) rfl fun w0 => ?_
  refine RN.go 29 (ow 0 8) fun n1 => RN.cp (get_lit 1 hp hM (sub_ap 0)) <| RN.go 18 [] fun _ => RN.draw [] [] <| RD.go [] [0, 1, 2, 3, 4, 5, 7] (ow 3 16 ++ [.own 2, .own 2, .own 2, .own 2]) <| RD.cp [] 6 (fun X_ => (get_any 2 hM (sub_apX 0))) <| RD.cp [] 8 (fun X_ => (get_any 3 hM (sub_apX 0))) <| RD.go [] [9] [] <| RD.one 10 (RDO.ev [] [] fun n2 => ?_)
  refine RD.go [] [11] [] <| RD.fin <| RN.go 7 [.own 1] fun _ => RN.ct [0] [0] (input_any (g.step M) (n2 + 0) mb M (k + 12) T _ hM hS.up (List.mem_append_right _ hI) hir) ?_
  rintro _ T3 hM4
  refine RN.go 3 [] fun _ => RN.draw [13] [0, 1, 3, 4] <| RD.go [0, 1, 3, 4] [0, 4, 8, 1, 5, 9, 2, 6, 10, 3, 7, 11, 12] (ow 0 5 ++ [.ro 0]) <| RD.one 13 (RDO.ev [0, 1, 3, 4] [.own 2, .own 2, .own 2, .own 2] fun _ => ?_)
  refine RD.go [0, 1, 3, 4] [14] [] <| RD.fin <| RN.go 1 [] fun _ => RN.ret [.own 2, .own 2, .own 2, .own 2] [] [0] (v := .tuple #[.bool false, .agg #[vI 0, vI 0, vI 0, vI 0], .bool false]) (H' := (ap [] [T3])) ?_
  exact ⟨T3, rfl, hM4.weak (by omega), rfl⟩

set_option maxHeartbeats 2000000 in
set_option maxRecDepth 100000 in
theorem trans1 (g : Gm) (mb : Nat) (M : MemS) (k : Nat) (T F : HL) (hM : MemH mb M (k + 20) T) (hS : SetIn F g.S) (hp : M.get 1 = 1) (hE : EffIn F) (hC : CodeIn F g.code g.cA g.cn) : Sp Tryz.prog 18 #[.iface 38 (vP mb 0), .agg #[vI g.S.players, vS g.S.bb (g.S.bo * 9) g.S.nb g.S.bc, vI g.S.box.x0, vI g.S.box.y0, vI g.S.box.x1, vI g.S.box.y1, .slice g.S.rA g.S.rn g.S.rc, .slice g.S.dA g.S.dn g.S.dc, vI g.S.fog, vI g.S.g.x, vI g.S.g.y, vI g.S.push, vI g.S.drag, vI g.S.rest, vI g.S.rounds, vI g.S.fuel], .agg #[.slice g.cA g.cn g.cc, vI g.e0, vI g.e1, vI g.e2], vI g.version, vS g.ib (g.io * 3) g.ni g.ic] (ap [] [T]) F (fun u H' => ∃ x, H' = ap [] [x] ∧ (MemH mb (actV (g.step M) M).M k x ∧ u = .tuple #[.bool false, .agg #[vI ((actV (g.step M) M).e.t), vI ((actV (g.step M) M).e.i), vI ((actV (g.step M) M).e.k), vI ((actV (g.step M) M).e.v)], .bool ((actV (g.step M) M).em)])) := by
  refine Sp.run Tryz.func18 rfl mn (A := []) (Ts := [T]) rfl fun w0 => ?_
  refine RN.go 29 (ow 0 8) fun n1 => RN.cp (get_lit 1 hp hM (sub_ap 0)) <| RN.go 18 [] fun _ => RN.draw [] [] <| RD.go [] [0, 1, 2, 3, 4, 5, 7] (ow 3 16 ++ [.own 2, .own 2, .own 2, .own 2]) <| RD.cp [] 6 (fun X_ => (get_any 2 hM (sub_apX 0))) <| RD.cp [] 8 (fun X_ => (get_any 3 hM (sub_apX 0))) <| RD.go [] [9] [] <| RD.one 10 (RDO.ev [] [] fun n2 => ?_)
  refine RD.go [] [11] [] <| RD.fin <| RN.go 7 [.own 1] fun _ => RN.ct [0] [0] (act_v (g.step M) (n2 + 0) mb M (k + 11) T _ hM hS.up (ro_ap hE) hC.up) ?_
  rintro _ T3 hM4
  refine RN.go 3 [] fun _ => RN.draw [13] [0, 1, 3, 4] <| RD.go [0, 1, 3, 4] [0, 4, 8, 1, 5, 9, 2, 6, 10, 3, 7, 11, 12] (ow 0 5 ++ [.ro 0]) <| RD.one 13 (RDO.ev [0, 1, 3, 4] [.own 2, .own 2, .own 2, .own 2] fun _ => ?_)
  refine RD.go [0, 1, 3, 4] [14] [] <| RD.fin <| RN.go 1 [] fun _ => RN.ret [.own 2, .own 2, .own 2, .own 2] [] [0] (v := .tuple #[.bool false, .agg #[vI ((actV (g.step M) M).e.t), vI ((actV (g.step M) M).e.i), vI ((actV (g.step M) M).e.k), vI ((actV (g.step M) M).e.v)], .bool ((actV (g.step M) M).em)]) (H' := (ap [] [T3])) ?_
  exact ⟨T3, rfl, hM4.weak (by omega), rfl⟩

set_option maxHeartbeats 2000000 in
set_option maxRecDepth 100000 in
theorem trans2 (g : Gm) (mb : Nat) (M : MemS) (k : Nat) (T F : HL) (hM : MemH mb M (k + 20) T) (hS : SetIn F g.S) (hp : M.get 1 = 2) (hE : EffIn F) (hC : CodeIn F g.code g.cA g.cn) : Sp Tryz.prog 18 #[.iface 38 (vP mb 0), .agg #[vI g.S.players, vS g.S.bb (g.S.bo * 9) g.S.nb g.S.bc, vI g.S.box.x0, vI g.S.box.y0, vI g.S.box.x1, vI g.S.box.y1, .slice g.S.rA g.S.rn g.S.rc, .slice g.S.dA g.S.dn g.S.dc, vI g.S.fog, vI g.S.g.x, vI g.S.g.y, vI g.S.push, vI g.S.drag, vI g.S.rest, vI g.S.rounds, vI g.S.fuel], .agg #[.slice g.cA g.cn g.cc, vI g.e0, vI g.e1, vI g.e2], vI g.version, vS g.ib (g.io * 3) g.ni g.ic] (ap [] [T]) F (fun u H' => ∃ x, H' = ap [] [x] ∧ (MemH mb (tickV (g.step M) M).M k x ∧ u = .tuple #[.bool false, .agg #[vI ((tickV (g.step M) M).e.t), vI ((tickV (g.step M) M).e.i), vI ((tickV (g.step M) M).e.k), vI ((tickV (g.step M) M).e.v)], .bool ((tickV (g.step M) M).em)])) := by
  refine Sp.run Tryz.func18 rfl mn (A := []) (Ts := [T]) rfl fun w0 => ?_
  refine RN.go 29 (ow 0 8) fun n1 => RN.cp (get_lit 1 hp hM (sub_ap 0)) <| RN.go 18 [] fun _ => RN.draw [] [] <| RD.go [] [0, 1, 2, 3, 4, 5, 7] (ow 3 16 ++ [.own 2, .own 2, .own 2, .own 2]) <| RD.cp [] 6 (fun X_ => (get_any 2 hM (sub_apX 0))) <| RD.cp [] 8 (fun X_ => (get_any 3 hM (sub_apX 0))) <| RD.go [] [9] [] <| RD.one 10 (RDO.ev [] [] fun n2 => ?_)
  refine RD.go [] [11] [] <| RD.fin <| RN.go 7 [.own 1] fun _ => RN.ct [0] [0] (tick_v (g.step M) (n2 + 0) mb M (k + 11) T _ hM hS.up (ro_ap hE) hC.up) ?_
  rintro _ T3 hM4
  refine RN.go 3 [] fun _ => RN.draw [13] [0, 1, 3, 4] <| RD.go [0, 1, 3, 4] [0, 4, 8, 1, 5, 9, 2, 6, 10, 3, 7, 11, 12] (ow 0 5 ++ [.ro 0]) <| RD.one 13 (RDO.ev [0, 1, 3, 4] [.own 2, .own 2, .own 2, .own 2] fun _ => ?_)
  refine RD.go [0, 1, 3, 4] [14] [] <| RD.fin <| RN.go 1 [] fun _ => RN.ret [.own 2, .own 2, .own 2, .own 2] [] [0] (v := .tuple #[.bool false, .agg #[vI ((tickV (g.step M) M).e.t), vI ((tickV (g.step M) M).e.i), vI ((tickV (g.step M) M).e.k), vI ((tickV (g.step M) M).e.v)], .bool ((tickV (g.step M) M).em)]) (H' := (ap [] [T3])) ?_
  exact ⟨T3, rfl, hM4.weak (by omega), rfl⟩

set_option maxHeartbeats 2000000 in
set_option maxRecDepth 100000 in
theorem trans3 (g : Gm) (mb : Nat) (M : MemS) (k : Nat) (T F : HL) (hM : MemH mb M (k + 20) T) (hS : SetIn F g.S) (hp : M.get 1 = 3)  : Sp Tryz.prog 18 #[.iface 38 (vP mb 0), .agg #[vI g.S.players, vS g.S.bb (g.S.bo * 9) g.S.nb g.S.bc, vI g.S.box.x0, vI g.S.box.y0, vI g.S.box.x1, vI g.S.box.y1, .slice g.S.rA g.S.rn g.S.rc, .slice g.S.dA g.S.dn g.S.dc, vI g.S.fog, vI g.S.g.x, vI g.S.g.y, vI g.S.push, vI g.S.drag, vI g.S.rest, vI g.S.rounds, vI g.S.fuel], .agg #[.slice g.cA g.cn g.cc, vI g.e0, vI g.e1, vI g.e2], vI g.version, vS g.ib (g.io * 3) g.ni g.ic] (ap [] [T]) F (fun u H' => ∃ x, H' = ap [] [x] ∧ (MemH mb (forceM (g.step M) M) k x ∧ u = .tuple #[.bool false, .agg #[vI 0, vI 0, vI 0, vI 0], .bool false])) := by
  refine Sp.run Tryz.func18 rfl mn (A := []) (Ts := [T]) rfl fun w0 => ?_
  refine RN.go 29 (ow 0 8) fun n1 => RN.cp (get_lit 1 hp hM (sub_ap 0)) <| RN.go 18 [] fun _ => RN.draw [] [] <| RD.go [] [0, 1, 2, 3, 4, 5, 7] (ow 3 16 ++ [.own 2, .own 2, .own 2, .own 2]) <| RD.cp [] 6 (fun X_ => (get_any 2 hM (sub_apX 0))) <| RD.cp [] 8 (fun X_ => (get_any 3 hM (sub_apX 0))) <| RD.go [] [9] [] <| RD.one 10 (RDO.ev [] [] fun n2 => ?_)
  refine RD.go [] [11] [] <| RD.fin <| RN.go 7 [.own 1] fun _ => RN.ct [0] [0] (force_any (g.step M) (n2 + 0) mb M (k + 12) T _ hM hS.up ) ?_
  rintro _ T3 hM4
  refine RN.go 3 [] fun _ => RN.draw [13] [0, 1, 3, 4] <| RD.go [0, 1, 3, 4] [0, 4, 8, 1, 5, 9, 2, 6, 10, 3, 7, 11, 12] (ow 0 5 ++ [.ro 0]) <| RD.one 13 (RDO.ev [0, 1, 3, 4] [.own 2, .own 2, .own 2, .own 2] fun _ => ?_)
  refine RD.go [0, 1, 3, 4] [14] [] <| RD.fin <| RN.go 1 [] fun _ => RN.ret [.own 2, .own 2, .own 2, .own 2] [] [0] (v := .tuple #[.bool false, .agg #[vI 0, vI 0, vI 0, vI 0], .bool false]) (H' := (ap [] [T3])) ?_
  exact ⟨T3, rfl, hM4.weak (by omega), rfl⟩

set_option maxHeartbeats 2000000 in
set_option maxRecDepth 100000 in
theorem trans4 (g : Gm) (mb : Nat) (M : MemS) (k : Nat) (T F : HL) (hM : MemH mb M (k + 20) T) (hS : SetIn F g.S) (hp : M.get 1 = 4)  : Sp Tryz.prog 18 #[.iface 38 (vP mb 0), .agg #[vI g.S.players, vS g.S.bb (g.S.bo * 9) g.S.nb g.S.bc, vI g.S.box.x0, vI g.S.box.y0, vI g.S.box.x1, vI g.S.box.y1, .slice g.S.rA g.S.rn g.S.rc, .slice g.S.dA g.S.dn g.S.dc, vI g.S.fog, vI g.S.g.x, vI g.S.g.y, vI g.S.push, vI g.S.drag, vI g.S.rest, vI g.S.rounds, vI g.S.fuel], .agg #[.slice g.cA g.cn g.cc, vI g.e0, vI g.e1, vI g.e2], vI g.version, vS g.ib (g.io * 3) g.ni g.ic] (ap [] [T]) F (fun u H' => ∃ x, H' = ap [] [x] ∧ (MemH mb (contactF (g.step M) M) k x ∧ u = .tuple #[.bool false, .agg #[vI 0, vI 0, vI 0, vI 0], .bool false])) := by
  refine Sp.run Tryz.func18 rfl mn (A := []) (Ts := [T]) rfl fun w0 => ?_
  refine RN.go 29 (ow 0 8) fun n1 => RN.cp (get_lit 1 hp hM (sub_ap 0)) <| RN.go 18 [] fun _ => RN.draw [] [] <| RD.go [] [0, 1, 2, 3, 4, 5, 7] (ow 3 16 ++ [.own 2, .own 2, .own 2, .own 2]) <| RD.cp [] 6 (fun X_ => (get_any 2 hM (sub_apX 0))) <| RD.cp [] 8 (fun X_ => (get_any 3 hM (sub_apX 0))) <| RD.go [] [9] [] <| RD.one 10 (RDO.ev [] [] fun n2 => ?_)
  refine RD.go [] [11] [] <| RD.fin <| RN.go 7 [.own 1] fun _ => RN.ct [0] [0] (contact_full (g.step M) (n2 + 0) mb M (k + 6) T _ hM hS.up ) ?_
  rintro _ T3 hM4
  refine RN.go 3 [] fun _ => RN.draw [13] [0, 1, 3, 4] <| RD.go [0, 1, 3, 4] [0, 4, 8, 1, 5, 9, 2, 6, 10, 3, 7, 11, 12] (ow 0 5 ++ [.ro 0]) <| RD.one 13 (RDO.ev [0, 1, 3, 4] [.own 2, .own 2, .own 2, .own 2] fun _ => ?_)
  refine RD.go [0, 1, 3, 4] [14] [] <| RD.fin <| RN.go 1 [] fun _ => RN.ret [.own 2, .own 2, .own 2, .own 2] [] [0] (v := .tuple #[.bool false, .agg #[vI 0, vI 0, vI 0, vI 0], .bool false]) (H' := (ap [] [T3])) ?_
  exact ⟨T3, rfl, hM4.weak (by omega), rfl⟩

set_option maxHeartbeats 2000000 in
set_option maxRecDepth 100000 in
theorem trans5 (g : Gm) (mb : Nat) (M : MemS) (k : Nat) (T F : HL) (hM : MemH mb M (k + 20) T) (hS : SetIn F g.S) (hp : M.get 1 = 5)  : Sp Tryz.prog 18 #[.iface 38 (vP mb 0), .agg #[vI g.S.players, vS g.S.bb (g.S.bo * 9) g.S.nb g.S.bc, vI g.S.box.x0, vI g.S.box.y0, vI g.S.box.x1, vI g.S.box.y1, .slice g.S.rA g.S.rn g.S.rc, .slice g.S.dA g.S.dn g.S.dc, vI g.S.fog, vI g.S.g.x, vI g.S.g.y, vI g.S.push, vI g.S.drag, vI g.S.rest, vI g.S.rounds, vI g.S.fuel], .agg #[.slice g.cA g.cn g.cc, vI g.e0, vI g.e1, vI g.e2], vI g.version, vS g.ib (g.io * 3) g.ni g.ic] (ap [] [T]) F (fun u H' => ∃ x, H' = ap [] [x] ∧ (MemH mb (moveF (g.step M) M) k x ∧ u = .tuple #[.bool false, .agg #[vI 0, vI 0, vI 0, vI 0], .bool false])) := by
  refine Sp.run Tryz.func18 rfl mn (A := []) (Ts := [T]) rfl fun w0 => ?_
  refine RN.go 29 (ow 0 8) fun n1 => RN.cp (get_lit 1 hp hM (sub_ap 0)) <| RN.go 18 [] fun _ => RN.draw [] [] <| RD.go [] [0, 1, 2, 3, 4, 5, 7] (ow 3 16 ++ [.own 2, .own 2, .own 2, .own 2]) <| RD.cp [] 6 (fun X_ => (get_any 2 hM (sub_apX 0))) <| RD.cp [] 8 (fun X_ => (get_any 3 hM (sub_apX 0))) <| RD.go [] [9] [] <| RD.one 10 (RDO.ev [] [] fun n2 => ?_)
  refine RD.go [] [11] [] <| RD.fin <| RN.go 7 [.own 1] fun _ => RN.ct [0] [0] (move_full (g.step M) (n2 + 0) mb M (k + 12) T _ hM hS.up ) ?_
  rintro _ T3 hM4
  refine RN.go 3 [] fun _ => RN.draw [13] [0, 1, 3, 4] <| RD.go [0, 1, 3, 4] [0, 4, 8, 1, 5, 9, 2, 6, 10, 3, 7, 11, 12] (ow 0 5 ++ [.ro 0]) <| RD.one 13 (RDO.ev [0, 1, 3, 4] [.own 2, .own 2, .own 2, .own 2] fun _ => ?_)
  refine RD.go [0, 1, 3, 4] [14] [] <| RD.fin <| RN.go 1 [] fun _ => RN.ret [.own 2, .own 2, .own 2, .own 2] [] [0] (v := .tuple #[.bool false, .agg #[vI 0, vI 0, vI 0, vI 0], .bool false]) (H' := (ap [] [T3])) ?_
  exact ⟨T3, rfl, hM4.weak (by omega), rfl⟩

set_option maxHeartbeats 2000000 in
set_option maxRecDepth 100000 in
theorem trans6 (g : Gm) (mb : Nat) (M : MemS) (k : Nat) (T F : HL) (hM : MemH mb M (k + 20) T) (hS : SetIn F g.S) (hp : M.get 1 = 6) (hE : EffIn F) (hC : CodeIn F g.code g.cA g.cn) : Sp Tryz.prog 18 #[.iface 38 (vP mb 0), .agg #[vI g.S.players, vS g.S.bb (g.S.bo * 9) g.S.nb g.S.bc, vI g.S.box.x0, vI g.S.box.y0, vI g.S.box.x1, vI g.S.box.y1, .slice g.S.rA g.S.rn g.S.rc, .slice g.S.dA g.S.dn g.S.dc, vI g.S.fog, vI g.S.g.x, vI g.S.g.y, vI g.S.push, vI g.S.drag, vI g.S.rest, vI g.S.rounds, vI g.S.fuel], .agg #[.slice g.cA g.cn g.cc, vI g.e0, vI g.e1, vI g.e2], vI g.version, vS g.ib (g.io * 3) g.ni g.ic] (ap [] [T]) F (fun u H' => ∃ x, H' = ap [] [x] ∧ (MemH mb (hitV (g.step M) M).M k x ∧ u = .tuple #[.bool false, .agg #[vI ((hitV (g.step M) M).e.t), vI ((hitV (g.step M) M).e.i), vI ((hitV (g.step M) M).e.k), vI ((hitV (g.step M) M).e.v)], .bool ((hitV (g.step M) M).em)])) := by
  refine Sp.run Tryz.func18 rfl mn (A := []) (Ts := [T]) rfl fun w0 => ?_
  refine RN.go 29 (ow 0 8) fun n1 => RN.cp (get_lit 1 hp hM (sub_ap 0)) <| RN.go 18 [] fun _ => RN.draw [] [] <| RD.go [] [0, 1, 2, 3, 4, 5, 7] (ow 3 16 ++ [.own 2, .own 2, .own 2, .own 2]) <| RD.cp [] 6 (fun X_ => (get_any 2 hM (sub_apX 0))) <| RD.cp [] 8 (fun X_ => (get_any 3 hM (sub_apX 0))) <| RD.go [] [9] [] <| RD.one 10 (RDO.ev [] [] fun n2 => ?_)
  refine RD.go [] [11] [] <| RD.fin <| RN.go 7 [.own 1] fun _ => RN.ct [0] [0] (hit_v (g.step M) (n2 + 0) mb M (k + 11) T _ hM hS.up (ro_ap hE) hC.up) ?_
  rintro _ T3 hM4
  refine RN.go 3 [] fun _ => RN.draw [13] [0, 1, 3, 4] <| RD.go [0, 1, 3, 4] [0, 4, 8, 1, 5, 9, 2, 6, 10, 3, 7, 11, 12] (ow 0 5 ++ [.ro 0]) <| RD.one 13 (RDO.ev [0, 1, 3, 4] [.own 2, .own 2, .own 2, .own 2] fun _ => ?_)
  refine RD.go [0, 1, 3, 4] [14] [] <| RD.fin <| RN.go 1 [] fun _ => RN.ret [.own 2, .own 2, .own 2, .own 2] [] [0] (v := .tuple #[.bool false, .agg #[vI ((hitV (g.step M) M).e.t), vI ((hitV (g.step M) M).e.i), vI ((hitV (g.step M) M).e.k), vI ((hitV (g.step M) M).e.v)], .bool ((hitV (g.step M) M).em)]) (H' := (ap [] [T3])) ?_
  exact ⟨T3, rfl, hM4.weak (by omega), rfl⟩

set_option maxHeartbeats 2000000 in
set_option maxRecDepth 100000 in
theorem trans7 (g : Gm) (mb : Nat) (M : MemS) (k : Nat) (T F : HL) (hM : MemH mb M (k + 20) T) (hS : SetIn F g.S) (hp : M.get 1 = 7)  : Sp Tryz.prog 18 #[.iface 38 (vP mb 0), .agg #[vI g.S.players, vS g.S.bb (g.S.bo * 9) g.S.nb g.S.bc, vI g.S.box.x0, vI g.S.box.y0, vI g.S.box.x1, vI g.S.box.y1, .slice g.S.rA g.S.rn g.S.rc, .slice g.S.dA g.S.dn g.S.dc, vI g.S.fog, vI g.S.g.x, vI g.S.g.y, vI g.S.push, vI g.S.drag, vI g.S.rest, vI g.S.rounds, vI g.S.fuel], .agg #[.slice g.cA g.cn g.cc, vI g.e0, vI g.e1, vI g.e2], vI g.version, vS g.ib (g.io * 3) g.ni g.ic] (ap [] [T]) F (fun u H' => ∃ x, H' = ap [] [x] ∧ (MemH mb (restM (g.step M) M) k x ∧ u = .tuple #[.bool (restB (g.step M)), .agg #[vI 0, vI 0, vI 0, vI 0], .bool false])) := by
  refine Sp.run Tryz.func18 rfl mn (A := []) (Ts := [T]) rfl fun w0 => ?_
  refine RN.go 29 (ow 0 8) fun n1 => RN.cp (get_lit 1 hp hM (sub_ap 0)) <| RN.go 18 [] fun _ => RN.draw [] [] <| RD.go [] [0, 1, 2, 3, 4, 5, 7] (ow 3 16 ++ [.own 2, .own 2, .own 2, .own 2]) <| RD.cp [] 6 (fun X_ => (get_any 2 hM (sub_apX 0))) <| RD.cp [] 8 (fun X_ => (get_any 3 hM (sub_apX 0))) <| RD.go [] [9] [] <| RD.one 10 (RDO.ev [] [] fun n2 => ?_)
  refine RD.go [] [11] [] <| RD.fin <| RN.go 7 [.own 1] fun _ => RN.ct [0] [0] (rest_any (g.step M) (n2 + 0) mb M (k + 6) T _ hM hS.up ) ?_
  rintro _ T3 hM4
  refine RN.go 3 [] fun _ => RN.draw [13] [0, 1, 3, 4] <| RD.go [0, 1, 3, 4] [0, 4, 8, 1, 5, 9, 2, 6, 10, 3, 7, 11, 12] (ow 0 5 ++ [.ro 0]) <| RD.one 13 (RDO.ev [0, 1, 3, 4] [.own 2, .own 2, .own 2, .own 2] fun _ => ?_)
  refine RD.go [0, 1, 3, 4] [14] [] <| RD.fin <| RN.go 1 [] fun _ => RN.ret [.own 2, .own 2, .own 2, .own 2] [] [0] (v := .tuple #[.bool (restB (g.step M)), .agg #[vI 0, vI 0, vI 0, vI 0], .bool false]) (H' := (ap [] [T3])) ?_
  exact ⟨T3, rfl, hM4.weak (by omega), rfl⟩
end Go.Proofs.YtampdcgphdnnhaaGreatDoor
/- Contracts, printed by a program. -/
namespace Go.Proofs.YtampdcgphdnnhaaGreatDoor
set_option linter.unusedSimpArgs false
set_option linter.unusedVariables false
open Go.RowKit
def effE : Enc Eff := ⟨4, fun p k => match k with | 0 => vI p.t | 1 => vI p.i | 2 => vI p.k | _ => vI p.v, eff0⟩
noncomputable def effEI : TypeInfo := match Tryz.prog.info? 52 with | some i => i | none => ⟨.bool, "", 0, 0, false, 0, 0, none, false, #[]⟩
noncomputable def effEZ : Value := match effEI.zero with | some z => z | none => .bool false
theorem effEOk : EncOk effE Tryz.prog 52 effEI effEZ where
  info := by kernel_rfl
  zero := by kernel_rfl
  size := by kernel_rfl
  zsize := by kernel_rfl
  zcell := fun k hk => by
    have h : ∀ k < 4, effEZ.cells[k]? = some (effE.cell effE.dflt k) := by intro k hk; (iterate 4 (rcases k with _ | k; · kernel_rfl)); omega
    exact h k hk
  one := fun x k => by unfold effE; dsimp only; split <;> rfl
  bytes := Nat.le_of_ble_eq_true (by kernel_rfl)

/-- a transition -/
def trV (g : Gm) (M : MemS) : VR := if M.get 1 = 0 then ⟨inputM (g.step M) M, 0, eff0, false⟩ else if M.get 1 = 1 then (actV (g.step M) M) else if M.get 1 = 2 then (tickV (g.step M) M) else if M.get 1 = 3 then ⟨forceM (g.step M) M, 0, eff0, false⟩ else if M.get 1 = 4 then ⟨contactF (g.step M) M, 0, eff0, false⟩ else if M.get 1 = 5 then ⟨moveF (g.step M) M, 0, eff0, false⟩ else if M.get 1 = 6 then (hitV (g.step M) M) else ⟨restM (g.step M) M, 0, eff0, false⟩
def trE (g : Gm) (M : MemS) : Bool := if M.get 1 = 7 then restB (g.step M) else false
abbrev trM (g : Gm) (M : MemS) : MemS := (trV g M).M
abbrev phOk (M : MemS) : Prop := 0 ≤ M.get 1 ∧ M.get 1 ≤ 7
structure GmIn (F : HL) (g : Gm) : Prop where
  set : SetIn F g.S
  ins : (g.ib, .rows 3 g.iR (inrow g.ins) 57 (0, 0)) ∈ F
  room : g.io + g.ni ≤ g.iR ∧ g.ni ≤ 1000000
  eff : EffIn F
  code : CodeIn F g.code g.cA g.cn
theorem GmIn.up {X F : HL} {g : Gm} (h : GmIn F g) : GmIn (X ++ F) g := ⟨h.set.up, List.mem_append_right _ h.ins, h.room, List.mem_append_right _ h.eff, h.code.up⟩

theorem trans_any (g : Gm) (mb : Nat) (M : MemS) (k : Nat) (T F : HL) (hM : MemH mb M (k + 20) T) (hg : GmIn F g) (h0 : phOk M) (ver : Int) (hver : g.version = ver) : Sp Tryz.prog 18 #[.iface 38 (vP mb 0), .agg #[vI g.S.players, vS g.S.bb (g.S.bo * 9) g.S.nb g.S.bc, vI g.S.box.x0, vI g.S.box.y0, vI g.S.box.x1, vI g.S.box.y1, .slice g.S.rA g.S.rn g.S.rc, .slice g.S.dA g.S.dn g.S.dc, vI g.S.fog, vI g.S.g.x, vI g.S.g.y, vI g.S.push, vI g.S.drag, vI g.S.rest, vI g.S.rounds, vI g.S.fuel], .agg #[.slice g.cA g.cn g.cc, vI g.e0, vI g.e1, vI g.e2], vI ver, vS g.ib (g.io * 3) g.ni g.ic] (ap [] [T]) F (fun u H' => ∃ x, H' = ap [] [x] ∧ (MemH mb (trM g M) k x ∧ u = .tuple #[.bool (trE g M), .agg #[vI ((trV g M).e.t), vI ((trV g M).e.i), vI ((trV g M).e.k), vI ((trV g M).e.v)], .bool ((trV g M).em)])) := by
  subst hver
  by_cases h0 : M.get 1 = 0
  · rw [trM, show trV g M = ⟨inputM (g.step M) M, 0, eff0, false⟩ by simp only [trV, if_pos h0], show trE g M = false by simp [trE, h0]]
    exact trans0 g mb M k T F hM hg.set h0 hg.ins hg.room
  by_cases h1 : M.get 1 = 1
  · rw [trM, show trV g M = (actV (g.step M) M) by simp only [trV, if_neg h0, if_pos h1], show trE g M = false by simp [trE, h1]]
    exact trans1 g mb M k T F hM hg.set h1 hg.eff hg.code
  by_cases h2 : M.get 1 = 2
  · rw [trM, show trV g M = (tickV (g.step M) M) by simp only [trV, if_neg h0, if_neg h1, if_pos h2], show trE g M = false by simp [trE, h2]]
    exact trans2 g mb M k T F hM hg.set h2 hg.eff hg.code
  by_cases h3 : M.get 1 = 3
  · rw [trM, show trV g M = ⟨forceM (g.step M) M, 0, eff0, false⟩ by simp only [trV, if_neg h0, if_neg h1, if_neg h2, if_pos h3], show trE g M = false by simp [trE, h3]]
    exact trans3 g mb M k T F hM hg.set h3
  by_cases h4 : M.get 1 = 4
  · rw [trM, show trV g M = ⟨contactF (g.step M) M, 0, eff0, false⟩ by simp only [trV, if_neg h0, if_neg h1, if_neg h2, if_neg h3, if_pos h4], show trE g M = false by simp [trE, h4]]
    exact trans4 g mb M k T F hM hg.set h4
  by_cases h5 : M.get 1 = 5
  · rw [trM, show trV g M = ⟨moveF (g.step M) M, 0, eff0, false⟩ by simp only [trV, if_neg h0, if_neg h1, if_neg h2, if_neg h3, if_neg h4, if_pos h5], show trE g M = false by simp [trE, h5]]
    exact trans5 g mb M k T F hM hg.set h5
  by_cases h6 : M.get 1 = 6
  · rw [trM, show trV g M = (hitV (g.step M) M) by simp only [trV, if_neg h0, if_neg h1, if_neg h2, if_neg h3, if_neg h4, if_neg h5, if_pos h6], show trE g M = false by simp [trE, h6]]
    exact trans6 g mb M k T F hM hg.set h6 hg.eff hg.code
  have h7 : M.get 1 = 7 := by omega
  rw [trM, show trV g M = ⟨restM (g.step M) M, 0, eff0, false⟩ by simp only [trV, if_neg h0, if_neg h1, if_neg h2, if_neg h3, if_neg h4, if_neg h5, if_neg h6], show trE g M = restB (g.step M) by simp [trE, h7]]
  exact trans7 g mb M k T F hM hg.set h7

def runM (g : Gm) : Nat → MemS → MemS
  | 0, M => M
  | n + 1, M => runM g n (trM g M)
def effsV (g : Gm) : Nat → MemS → List Eff
  | 0, _ => []
  | n + 1, M => (if (trV g M).em = true then [(trV g M).e] else []) ++ effsV g n (trM g M)
/-- n transitions, the last of which ends the tick -/
def goodRun (g : Gm) : Nat → MemS → Prop
  | 0, _ => False
  | n + 1, M => phOk M ∧ ((n = 0 ∧ trE g M = true) ∨ (trE g M = false ∧ goodRun g n (trM g M)))
theorem effsV_yes {g : Gm} {n : Nat} {M : MemS} (h : (trV g M).em = true) : effsV g (n + 1) M = (trV g M).e :: effsV g n (trM g M) := by rw [effsV, if_pos h]; rfl
theorem effsV_no {g : Gm} {n : Nat} {M : MemS} (h : ¬ (trV g M).em = true) : effsV g (n + 1) M = effsV g n (trM g M) := by rw [effsV, if_neg h]; rfl
theorem effsV_len (g : Gm) : ∀ n M, (effsV g n M).length ≤ n
  | 0, _ => Nat.le_refl _
  | n + 1, M => by
    rw [effsV, List.length_append]
    have := effsV_len g n (trM g M)
    split
    · simp; omega
    · simp; omega

set_option maxHeartbeats 1000000 in
set_option maxRecDepth 100000 in
theorem count_any (g : Gm) (mb : Nat) (M : MemS) (k m : Nat) (lim : Int) (T F : HL) (hM : MemH mb M (k + 20 * m + 20) T) (hg : GmIn F g) (hv : g.version = 0) (hgood : goodRun g (m + 1) M) (hlim : ((m + 1 : Nat) : Int) ≤ lim) (hl2 : lim ≤ 1000000) : Sp Tryz.prog 14 #[vP mb 0, .agg #[vI g.S.players, vS g.S.bb (g.S.bo * 9) g.S.nb g.S.bc, vI g.S.box.x0, vI g.S.box.y0, vI g.S.box.x1, vI g.S.box.y1, .slice g.S.rA g.S.rn g.S.rc, .slice g.S.dA g.S.dn g.S.dc, vI g.S.fog, vI g.S.g.x, vI g.S.g.y, vI g.S.push, vI g.S.drag, vI g.S.rest, vI g.S.rounds, vI g.S.fuel], .agg #[.slice g.cA g.cn g.cc, vI g.e0, vI g.e1, vI g.e2], vS g.ib (g.io * 3) g.ni g.ic, vI lim] (ap [] [T]) F (fun u H' => ∃ x : HL × Option Addr × Nat × HL, H' = ap [] [x.1, x.2.2.2] ∧ (MemH mb (runM g (m + 1) M) k x.1 ∧ SlIs effE 52 (effsV g (m + 1) M) x.2.1 x.2.2.1 x.2.2.2 ∧ u = .tuple #[vI ((m + 1 : Nat) : Int), .slice x.2.1 (effsV g (m + 1) M).length x.2.2.1])) := by
  refine Sp.run Tryz.func14 rfl mn (A := []) (Ts := [T]) rfl fun w0 => ?_
  refine RN.go 20 [] fun n1 => RN.nt <| RN.loop (σ := Nat × Nat × MemS × HL × List Eff × Option Addr × Nat × HL) (fun ⟨r, d, M_, T_, es_, B_, c_, E_⟩ => ⟨[(0, vP mb 0), (3, vS g.ib (g.io * 3) g.ni g.ic), (4, vI lim), (6, vP (n1 + 0) 0), (7, vP (n1 + 1) 0), (12, .slice B_ es_.length c_), (13, vI ((d + 1 : Nat) : Int))], [((n1 + 1), .lit [.slice g.cA g.cn g.cc, vI g.e0, vI g.e1, vI g.e2] 36 (0, 0)), ((n1 + 0), .lit [vI g.S.players, vS g.S.bb (g.S.bo * 9) g.S.nb g.S.bc, vI g.S.box.x0, vI g.S.box.y0, vI g.S.box.x1, vI g.S.box.y1, .slice g.S.rA g.S.rn g.S.rc, .slice g.S.dA g.S.dn g.S.dc, vI g.S.fog, vI g.S.g.x, vI g.S.g.y, vI g.S.push, vI g.S.drag, vI g.S.rest, vI g.S.rounds, vI g.S.fuel] 31 (0, 0))], [T_, E_], d + (r + 1) = m + 1 ∧ goodRun g (r + 1) M_ ∧ runM g (r + 1) M_ = runM g (m + 1) M ∧ MemH mb M_ (k + 20 * r + 20) T_ ∧ es_ ++ effsV g (r + 1) M_ = effsV g (m + 1) M ∧ SlIs effE 52 es_ B_ c_ E_ ∧ es_.length ≤ d, r⟩) (m, 0, M, T, [], none, 0, []) [0, 1] [1, 0] (⟨by omega, hgood, rfl, hM, rfl, SlIs.nil _ _, Nat.zero_le _⟩) ?_
  rintro ⟨r, d, M_, T_, es_, B_, c_, E_⟩ ⟨hd_, hgood_, hrun_, hM_, hes_, hs_, hlen_⟩ mt3
  refine RN.go 8 [] fun _ => RN.em (((d + 1 : Nat) : Int) ≤ lim) 19 (fun h4 => ?_) fun h4 => ?_
  · refine RN.go 12 (ow 1 16 ++ [.own 0, .own 0, .own 0, .own 0]) fun _ => RN.ct [] [0] (trans_any g mb M_ (k + 20 * r) T_ _ hM_ hg.up hgood_.1 0 hv) ?_
    rintro _ T5 ⟨hM6, rfl⟩
    refine RN.go 16 [.own 0, .own 0, .own 0, .own 0] fun n7 => RN.eb ((trV g M_).em) 32 (fun h8 => ?_) fun h8 => ?_
    · refine RN.go 5 [.own 0, .own 0, .own 0, .own 0] fun n9 => RN.app effEOk es_ [(trV g M_).e] 1 0 rfl hs_ (by have := hlen_; simp; omega) ?_
      rintro A10 c11 T12 ⟨hs13, hz14⟩
      refine RN.go 8 [] fun _ => RN.eb (trE g M_) 37 (fun h15 => ?_) fun h15 => ?_
      · refine RN.go 9 [] fun _ => RN.ret [] [] [1, 0] (v := .tuple #[vI ((d + 1 : Nat) : Int), .slice A10 (es_.length + 1) c11]) (H' := (ap [] [T5, T12])) ?_
        have er : r = 0 := by
          rcases hgood_.2 with ⟨e, _⟩ | ⟨e, _⟩
          · exact e
          · have hh : trE g M_ = true := by assumption
            rw [e] at hh; cases hh
        subst er
        have ed : d = m := by omega
        subst ed
        have e2 : es_ ++ [(trV g M_).e] = effsV g (d + 1) M := by rw [← hes_, effsV_yes h8]; rfl
        rw [← hrun_, ← e2]
        exact ⟨⟨T5, A10, c11, T12⟩, rfl, hM6.weak (by omega), hs13, by simp⟩
      · refine RN.goP 9 [.nw] [I64 (((d + 1 : Nat) : Int) + 1)] fun _ => ?_
        have hg2 := hgood_.2
        rcases hg2 with ⟨_, e_⟩ | ⟨_, hg2⟩
        · exact absurd e_ (by assumption)
        rcases r with _ | r
        · exact hg2.elim
        refine RN.sv 12 (congrArg (fun v_ => (.slice A10 v_ c11 : Value)) (show es_.length + 1 = (es_ ++ [(trV g M_).e]).length by simp)) ?_
        refine mt3 (r, d + 1, trM g M_, T5, es_ ++ [(trV g M_).e], A10, c11, T12) [2, 3] [1, 0] ?_
        try dsimp only
        exact ⟨⟨by omega, hg2, hrun_, hM6.weak (by omega), by rw [← hes_, effsV_yes h8, List.append_assoc]; rfl, hs13, by simp; omega⟩, by omega⟩
    · refine RN.go 8 [] fun _ => RN.eb (trE g M_) 37 (fun h16 => ?_) fun h16 => ?_
      · refine RN.go 9 [] fun _ => RN.ret [] [] [0, 1] (v := .tuple #[vI ((d + 1 : Nat) : Int), .slice B_ es_.length c_]) (H' := (ap [] [T5, E_])) ?_
        have er : r = 0 := by
          rcases hgood_.2 with ⟨e, _⟩ | ⟨e, _⟩
          · exact e
          · have hh : trE g M_ = true := by assumption
            rw [e] at hh; cases hh
        subst er
        have ed : d = m := by omega
        subst ed
        have e2 : es_ = effsV g (d + 1) M := by rw [← hes_, effsV_no h8]; simp [effsV]
        rw [← hrun_, ← e2]
        exact ⟨⟨T5, B_, c_, E_⟩, rfl, hM6.weak (by omega), hs_, rfl⟩
      · refine RN.goP 9 [.nw] [I64 (((d + 1 : Nat) : Int) + 1)] fun _ => ?_
        have hg2 := hgood_.2
        rcases hg2 with ⟨_, e_⟩ | ⟨_, hg2⟩
        · exact absurd e_ (by assumption)
        rcases r with _ | r
        · exact hg2.elim
        refine mt3 (r, d + 1, trM g M_, T5, es_, B_, c_, E_) [1, 2] [0, 1] ?_
        try dsimp only
        exact ⟨⟨by omega, hg2, hrun_, hM6.weak (by omega), by rw [← hes_, effsV_no h8], hs_, by omega⟩, by omega⟩
  · (exfalso; omega)
end Go.Proofs.YtampdcgphdnnhaaGreatDoor
