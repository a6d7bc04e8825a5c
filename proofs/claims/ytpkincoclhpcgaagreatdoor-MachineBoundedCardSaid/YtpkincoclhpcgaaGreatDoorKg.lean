/- Contracts, printed by a program. -/
import Derived.Test.YtpkincoclhpcgaaGreatDoorKf
namespace Go.Proofs.YtpkincoclhpcgaaGreatDoor
set_option linter.unusedSimpArgs false
set_option linter.unusedVariables false
open Go.RowKit
def turnM (t : Stp) (other : Int) (cause : Bool) (M : MemS) : MemS := M.set 2 (w64 (t.i + 1))
def actM (t : Stp) (M : MemS) : MemS := if playerAt t.S t.i < 0 then beginM t 2 0 M else M.set 2 (w64 (t.i + 1))
def tickM (t : Stp) (M : MemS) : MemS := beginM t 3 0 M
def hitM (t : Stp) (M : MemS) : MemS := if bodyAt t.S t.i < 0 then beginM t 7 0 M else M.set 2 (w64 (t.i + 1))

set_option maxHeartbeats 400000 in
set_option maxRecDepth 100000 in
theorem start_no0 (mb : Nat) (cA : Option Addr) (cn cc : Nat) (e0 e1 e2 a b c : Int) (F : HL) (h : e0 < 0) : Sp Tryz.prog 56 #[.iface 41 (vP mb 0), .agg #[.slice cA cn cc, vI e0, vI e1, vI e2], vI 0, vI a, vI b, vI c] [] F (fun u H' => u = .bool false ∧ H' = []) := by
  refine Sp.of_body Tryz.func56 rfl rfl rfl [(0, .iface 41 (vP mb 0)), (1, .agg #[.slice cA cn cc, vI e0, vI e1, vI e2]), (2, vI 0), (3, vI a), (4, vI b), (5, vI c)] rfl ?_
  intro w0
  refine TR.convH (ap [] []) rfl ?_
  refine TR.seq ?_
  refine TR.reg ?_
  refine TL.seg 2 [] [] [0, 2, 3, 4, 5, 7] (fun n1 => [(0, .iface 41 (vP mb 0)), (2, vI 0), (3, vI a), (4, vI b), (5, vI c), (7, vP (n1 + 0) 0)]) (fun n1 => (ap [((n1 + 0), .lit [.slice cA cn cc, vI e0, vI e1, vI e2] 54 (0, 0))] [])) (fun n1 => []) (fun n1 => []) (fun _ => by kernel_rfl) mn (fun n1 => an) ?_
  intro n1
  refine TL.fin (by kernel_rfl) ?_
  refine EX.next ?_
  refine TR.seq ?_
  refine TR.seq ?_
  refine TR.reg ?_
  refine TL.seg0 17 [] [.own 0] [0, 2, 3, 4, 5, 7, 29] [(0, .iface 41 (vP mb 0)), (2, vI 0), (3, vI a), (4, vI b), (5, vI c), (7, vP (n1 + 0) 0), (29, .bool (decide (e0 < 0)))] (ap [((n1 + 0), .lit [.slice cA cn cc, vI e0, vI e1, vI e2] 54 (0, 0))] []) [(n1 + 0)] [] (fun _ => by kernel_rfl) mn an ?_
  refine TL.fin (by kernel_rfl) ?_
  refine EX.next ?_
  refine TR.yes (b := decide (e0 < 0)) (by kernel_rfl) (by kernel_rfl) (decide_eq_true h) ?_
  refine TR.seq ?_
  refine TR.reg ?_
  refine TL.seg0 1 [] [] [12] [(12, .bool false)] (ap [((n1 + 0), .lit [.slice cA cn cc, vI e0, vI e1, vI e2] 54 (0, 0))] []) [] [] (fun _ => by kernel_rfl) mn an ?_
  refine TL.fin (by kernel_rfl) ?_
  refine EX.next ?_
  refine TR.ret (A := [((n1 + 0), .lit [.slice cA cn cc, vI e0, vI e1, vI e2] 54 (0, 0))]) (Ts := []) (by exact fun _ _ h => h) rfl rfl [] [] (.bool false) [] [] (fun _ => by kernel_rfl) mn an [] [0] [] [] [] (by kernel_rfl) (by kernel_rfl) (by kernel_rfl) ?_
  exact ⟨rfl, rfl⟩

set_option maxHeartbeats 400000 in
set_option maxRecDepth 100000 in
theorem start_no1 (mb : Nat) (cA : Option Addr) (cn cc : Nat) (e0 e1 e2 a b c : Int) (F : HL) (h : e1 < 0) : Sp Tryz.prog 56 #[.iface 41 (vP mb 0), .agg #[.slice cA cn cc, vI e0, vI e1, vI e2], vI 1, vI a, vI b, vI c] [] F (fun u H' => u = .bool false ∧ H' = []) := by
  refine Sp.of_body Tryz.func56 rfl rfl rfl [(0, .iface 41 (vP mb 0)), (1, .agg #[.slice cA cn cc, vI e0, vI e1, vI e2]), (2, vI 1), (3, vI a), (4, vI b), (5, vI c)] rfl ?_
  intro w0
  refine TR.convH (ap [] []) rfl ?_
  refine TR.seq ?_
  refine TR.reg ?_
  refine TL.seg 2 [] [] [0, 2, 3, 4, 5, 7] (fun n1 => [(0, .iface 41 (vP mb 0)), (2, vI 1), (3, vI a), (4, vI b), (5, vI c), (7, vP (n1 + 0) 0)]) (fun n1 => (ap [((n1 + 0), .lit [.slice cA cn cc, vI e0, vI e1, vI e2] 54 (0, 0))] [])) (fun n1 => []) (fun n1 => []) (fun _ => by kernel_rfl) mn (fun n1 => an) ?_
  intro n1
  refine TL.fin (by kernel_rfl) ?_
  refine EX.next ?_
  refine TR.seq ?_
  refine TR.seq ?_
  refine TR.reg ?_
  refine TL.seg0 17 [] [.own 0] [0, 2, 3, 4, 5, 7, 29] [(0, .iface 41 (vP mb 0)), (2, vI 1), (3, vI a), (4, vI b), (5, vI c), (7, vP (n1 + 0) 0), (29, .bool (decide (e1 < 0)))] (ap [((n1 + 0), .lit [.slice cA cn cc, vI e0, vI e1, vI e2] 54 (0, 0))] []) [(n1 + 0)] [] (fun _ => by kernel_rfl) mn an ?_
  refine TL.fin (by kernel_rfl) ?_
  refine EX.next ?_
  refine TR.yes (b := decide (e1 < 0)) (by kernel_rfl) (by kernel_rfl) (decide_eq_true h) ?_
  refine TR.seq ?_
  refine TR.reg ?_
  refine TL.seg0 1 [] [] [12] [(12, .bool false)] (ap [((n1 + 0), .lit [.slice cA cn cc, vI e0, vI e1, vI e2] 54 (0, 0))] []) [] [] (fun _ => by kernel_rfl) mn an ?_
  refine TL.fin (by kernel_rfl) ?_
  refine EX.next ?_
  refine TR.ret (A := [((n1 + 0), .lit [.slice cA cn cc, vI e0, vI e1, vI e2] 54 (0, 0))]) (Ts := []) (by exact fun _ _ h => h) rfl rfl [] [] (.bool false) [] [] (fun _ => by kernel_rfl) mn an [] [0] [] [] [] (by kernel_rfl) (by kernel_rfl) (by kernel_rfl) ?_
  exact ⟨rfl, rfl⟩

set_option maxHeartbeats 400000 in
set_option maxRecDepth 100000 in
theorem start_no2 (mb : Nat) (cA : Option Addr) (cn cc : Nat) (e0 e1 e2 a b c : Int) (F : HL) (h : e2 < 0) : Sp Tryz.prog 56 #[.iface 41 (vP mb 0), .agg #[.slice cA cn cc, vI e0, vI e1, vI e2], vI 2, vI a, vI b, vI c] [] F (fun u H' => u = .bool false ∧ H' = []) := by
  refine Sp.of_body Tryz.func56 rfl rfl rfl [(0, .iface 41 (vP mb 0)), (1, .agg #[.slice cA cn cc, vI e0, vI e1, vI e2]), (2, vI 2), (3, vI a), (4, vI b), (5, vI c)] rfl ?_
  intro w0
  refine TR.convH (ap [] []) rfl ?_
  refine TR.seq ?_
  refine TR.reg ?_
  refine TL.seg 2 [] [] [0, 2, 3, 4, 5, 7] (fun n1 => [(0, .iface 41 (vP mb 0)), (2, vI 2), (3, vI a), (4, vI b), (5, vI c), (7, vP (n1 + 0) 0)]) (fun n1 => (ap [((n1 + 0), .lit [.slice cA cn cc, vI e0, vI e1, vI e2] 54 (0, 0))] [])) (fun n1 => []) (fun n1 => []) (fun _ => by kernel_rfl) mn (fun n1 => an) ?_
  intro n1
  refine TL.fin (by kernel_rfl) ?_
  refine EX.next ?_
  refine TR.seq ?_
  refine TR.seq ?_
  refine TR.reg ?_
  refine TL.seg0 17 [] [.own 0] [0, 2, 3, 4, 5, 7, 29] [(0, .iface 41 (vP mb 0)), (2, vI 2), (3, vI a), (4, vI b), (5, vI c), (7, vP (n1 + 0) 0), (29, .bool (decide (e2 < 0)))] (ap [((n1 + 0), .lit [.slice cA cn cc, vI e0, vI e1, vI e2] 54 (0, 0))] []) [(n1 + 0)] [] (fun _ => by kernel_rfl) mn an ?_
  refine TL.fin (by kernel_rfl) ?_
  refine EX.next ?_
  refine TR.yes (b := decide (e2 < 0)) (by kernel_rfl) (by kernel_rfl) (decide_eq_true h) ?_
  refine TR.seq ?_
  refine TR.reg ?_
  refine TL.seg0 1 [] [] [12] [(12, .bool false)] (ap [((n1 + 0), .lit [.slice cA cn cc, vI e0, vI e1, vI e2] 54 (0, 0))] []) [] [] (fun _ => by kernel_rfl) mn an ?_
  refine TL.fin (by kernel_rfl) ?_
  refine EX.next ?_
  refine TR.ret (A := [((n1 + 0), .lit [.slice cA cn cc, vI e0, vI e1, vI e2] 54 (0, 0))]) (Ts := []) (by exact fun _ _ h => h) rfl rfl [] [] (.bool false) [] [] (fun _ => by kernel_rfl) mn an [] [0] [] [] [] (by kernel_rfl) (by kernel_rfl) (by kernel_rfl) ?_
  exact ⟨rfl, rfl⟩

set_option maxHeartbeats 400000 in
set_option maxRecDepth 100000 in
theorem run_no0 (t : Stp) (a b : Int) (tb mb : Nat) (F : HL) (hN : NoH t) (hb : (tb, .lit (Stp.l t mb) 83 (0, 0)) ∈ F) : Sp Tryz.prog 47 #[vP tb 0, vI 0, vI a, vI b] [] F (fun u H' => u = .bool true ∧ H' = []) := by
  refine Sp.of_body Tryz.func47 rfl rfl rfl [(0, vP tb 0), (1, vI 0), (2, vI a), (3, vI b)] rfl ?_
  intro w0
  refine TR.convH (ap [] []) rfl ?_
  refine TR.seq ?_
  refine TR.reg ?_
  refine TL.seg0 1 [] [] [0, 1, 2, 3] [(0, vP tb 0), (1, vI 0), (2, vI a), (3, vI b)] (ap [] []) [] [] (fun _ => by kernel_rfl) mn an ?_
  refine TL.fin (by kernel_rfl) ?_
  refine EX.next ?_
  refine TR.seq ?_
  refine TR.seq ?_
  refine TR.reg ?_
  let z1 : Nat × Blk := (tb, .lit (Stp.l t mb) 83 (0, 0))
  refine TL.seg0 5 [z1] [.ro 0] [0, 1, 2, 3, 16] [(0, vP tb 0), (1, vI 0), (2, vI a), (3, vI b), (16, .bool (decide (t.j = 0)))] (ap [] []) [tb] [] (fun _ => by kernel_rfl) (mc hb mn) an ?_
  refine TL.fin (by kernel_rfl) ?_
  refine EX.next ?_
  refine TR.yes (b := decide (t.j = 0)) (by kernel_rfl) (by kernel_rfl) (decide_eq_true hN.1) ?_
  refine TR.seq ?_
  refine TR.seq ?_
  refine TR.draw [] [] rfl (by kernel_rfl) ?_
  refine TD.vals [] (by kernel_rfl) [0, 4, 8, 9, 10, 11, 1, 5, 12, 2, 6, 13, 3, 7, 14, 15] [z1] [.ro 0, .ro 0, .ro 0, .ro 0, .ro 0, .ro 0] [0, 20, 24, 25, 26, 27, 32] [true, true, true, true, true, true, true, true, true, true, true, true, true, true, true, true, false, false] [(0, vP tb 0), (20, .iface 41 (vP mb 0)), (24, .agg #[.slice t.cA t.cn t.cc, vI t.e0, vI t.e1, vI t.e2]), (25, vI 0), (26, vI a), (27, vI b), (32, vI t.S.fuel)] [tb, tb, tb, tb, tb, tb] [] (by kernel_rfl) (by kernel_rfl) (mc hb mn) an 2 rfl ?_
  refine TD.callv [] (by kernel_rfl) 16 [] [] (dst := (some 33)) (f := 56) (args := #[.iface 41 (vP mb 0), .agg #[.slice t.cA t.cn t.cc, vI t.e0, vI t.e1, vI t.e2], vI 0, vI a, vI b, vI t.S.fuel]) (E := []) (Ob := []) [0, 33] (.bool false) [(0, vP tb 0), (33, .bool false)] (by kernel_rfl) (by kernel_rfl) (by kernel_rfl) mn an (fun X_ => (start_no0 mb _ _ _ _ _ _ a b t.S.fuel _ hN.2.1)) (by kernel_rfl) 1 rfl ?_
  refine TD.vals [] (by kernel_rfl) [17] [] [] [0, 34] [true, true, true, true, true, true, true, true, true, true, true, true, true, true, true, true, true, true] [(0, vP tb 0), (34, .bool true)] [] [] (by kernel_rfl) (by kernel_rfl) mn an 0 rfl ?_
  refine TD.fin (by kernel_rfl) (EX.np ?_)
  refine EX.next ?_
  refine TR.yes (by kernel_rfl) (by kernel_rfl) (rfl : true = true) ?_
  refine TR.seq ?_
  refine TR.reg ?_
  refine TL.seg0 1 [] [] [8] [(8, .bool true)] (ap [] []) [] [] (fun _ => by kernel_rfl) mn an ?_
  refine TL.fin (by kernel_rfl) ?_
  refine EX.next ?_
  refine TR.ret (A := []) (Ts := []) (by exact fun _ _ h => h) rfl rfl [] [] (.bool true) [] [] (fun _ => by kernel_rfl) mn an [] [] [] [] [] (by kernel_rfl) (by kernel_rfl) (by kernel_rfl) ?_
  exact ⟨rfl, rfl⟩

set_option maxHeartbeats 400000 in
set_option maxRecDepth 100000 in
theorem run_no1 (t : Stp) (a b : Int) (tb mb : Nat) (F : HL) (hN : NoH t) (hb : (tb, .lit (Stp.l t mb) 83 (0, 0)) ∈ F) : Sp Tryz.prog 47 #[vP tb 0, vI 1, vI a, vI b] [] F (fun u H' => u = .bool true ∧ H' = []) := by
  refine Sp.of_body Tryz.func47 rfl rfl rfl [(0, vP tb 0), (1, vI 1), (2, vI a), (3, vI b)] rfl ?_
  intro w0
  refine TR.convH (ap [] []) rfl ?_
  refine TR.seq ?_
  refine TR.reg ?_
  refine TL.seg0 1 [] [] [0, 1, 2, 3] [(0, vP tb 0), (1, vI 1), (2, vI a), (3, vI b)] (ap [] []) [] [] (fun _ => by kernel_rfl) mn an ?_
  refine TL.fin (by kernel_rfl) ?_
  refine EX.next ?_
  refine TR.seq ?_
  refine TR.seq ?_
  refine TR.reg ?_
  let z1 : Nat × Blk := (tb, .lit (Stp.l t mb) 83 (0, 0))
  refine TL.seg0 5 [z1] [.ro 0] [0, 1, 2, 3, 16] [(0, vP tb 0), (1, vI 1), (2, vI a), (3, vI b), (16, .bool (decide (t.j = 0)))] (ap [] []) [tb] [] (fun _ => by kernel_rfl) (mc hb mn) an ?_
  refine TL.fin (by kernel_rfl) ?_
  refine EX.next ?_
  refine TR.yes (b := decide (t.j = 0)) (by kernel_rfl) (by kernel_rfl) (decide_eq_true hN.1) ?_
  refine TR.seq ?_
  refine TR.seq ?_
  refine TR.draw [] [] rfl (by kernel_rfl) ?_
  refine TD.vals [] (by kernel_rfl) [0, 4, 8, 9, 10, 11, 1, 5, 12, 2, 6, 13, 3, 7, 14, 15] [z1] [.ro 0, .ro 0, .ro 0, .ro 0, .ro 0, .ro 0] [0, 20, 24, 25, 26, 27, 32] [true, true, true, true, true, true, true, true, true, true, true, true, true, true, true, true, false, false] [(0, vP tb 0), (20, .iface 41 (vP mb 0)), (24, .agg #[.slice t.cA t.cn t.cc, vI t.e0, vI t.e1, vI t.e2]), (25, vI 1), (26, vI a), (27, vI b), (32, vI t.S.fuel)] [tb, tb, tb, tb, tb, tb] [] (by kernel_rfl) (by kernel_rfl) (mc hb mn) an 2 rfl ?_
  refine TD.callv [] (by kernel_rfl) 16 [] [] (dst := (some 33)) (f := 56) (args := #[.iface 41 (vP mb 0), .agg #[.slice t.cA t.cn t.cc, vI t.e0, vI t.e1, vI t.e2], vI 1, vI a, vI b, vI t.S.fuel]) (E := []) (Ob := []) [0, 33] (.bool false) [(0, vP tb 0), (33, .bool false)] (by kernel_rfl) (by kernel_rfl) (by kernel_rfl) mn an (fun X_ => (start_no1 mb _ _ _ _ _ _ a b t.S.fuel _ hN.2.2.1)) (by kernel_rfl) 1 rfl ?_
  refine TD.vals [] (by kernel_rfl) [17] [] [] [0, 34] [true, true, true, true, true, true, true, true, true, true, true, true, true, true, true, true, true, true] [(0, vP tb 0), (34, .bool true)] [] [] (by kernel_rfl) (by kernel_rfl) mn an 0 rfl ?_
  refine TD.fin (by kernel_rfl) (EX.np ?_)
  refine EX.next ?_
  refine TR.yes (by kernel_rfl) (by kernel_rfl) (rfl : true = true) ?_
  refine TR.seq ?_
  refine TR.reg ?_
  refine TL.seg0 1 [] [] [8] [(8, .bool true)] (ap [] []) [] [] (fun _ => by kernel_rfl) mn an ?_
  refine TL.fin (by kernel_rfl) ?_
  refine EX.next ?_
  refine TR.ret (A := []) (Ts := []) (by exact fun _ _ h => h) rfl rfl [] [] (.bool true) [] [] (fun _ => by kernel_rfl) mn an [] [] [] [] [] (by kernel_rfl) (by kernel_rfl) (by kernel_rfl) ?_
  exact ⟨rfl, rfl⟩

set_option maxHeartbeats 400000 in
set_option maxRecDepth 100000 in
theorem run_no2 (t : Stp) (a b : Int) (tb mb : Nat) (F : HL) (hN : NoH t) (hb : (tb, .lit (Stp.l t mb) 83 (0, 0)) ∈ F) : Sp Tryz.prog 47 #[vP tb 0, vI 2, vI a, vI b] [] F (fun u H' => u = .bool true ∧ H' = []) := by
  refine Sp.of_body Tryz.func47 rfl rfl rfl [(0, vP tb 0), (1, vI 2), (2, vI a), (3, vI b)] rfl ?_
  intro w0
  refine TR.convH (ap [] []) rfl ?_
  refine TR.seq ?_
  refine TR.reg ?_
  refine TL.seg0 1 [] [] [0, 1, 2, 3] [(0, vP tb 0), (1, vI 2), (2, vI a), (3, vI b)] (ap [] []) [] [] (fun _ => by kernel_rfl) mn an ?_
  refine TL.fin (by kernel_rfl) ?_
  refine EX.next ?_
  refine TR.seq ?_
  refine TR.seq ?_
  refine TR.reg ?_
  let z1 : Nat × Blk := (tb, .lit (Stp.l t mb) 83 (0, 0))
  refine TL.seg0 5 [z1] [.ro 0] [0, 1, 2, 3, 16] [(0, vP tb 0), (1, vI 2), (2, vI a), (3, vI b), (16, .bool (decide (t.j = 0)))] (ap [] []) [tb] [] (fun _ => by kernel_rfl) (mc hb mn) an ?_
  refine TL.fin (by kernel_rfl) ?_
  refine EX.next ?_
  refine TR.yes (b := decide (t.j = 0)) (by kernel_rfl) (by kernel_rfl) (decide_eq_true hN.1) ?_
  refine TR.seq ?_
  refine TR.seq ?_
  refine TR.draw [] [] rfl (by kernel_rfl) ?_
  refine TD.vals [] (by kernel_rfl) [0, 4, 8, 9, 10, 11, 1, 5, 12, 2, 6, 13, 3, 7, 14, 15] [z1] [.ro 0, .ro 0, .ro 0, .ro 0, .ro 0, .ro 0] [0, 20, 24, 25, 26, 27, 32] [true, true, true, true, true, true, true, true, true, true, true, true, true, true, true, true, false, false] [(0, vP tb 0), (20, .iface 41 (vP mb 0)), (24, .agg #[.slice t.cA t.cn t.cc, vI t.e0, vI t.e1, vI t.e2]), (25, vI 2), (26, vI a), (27, vI b), (32, vI t.S.fuel)] [tb, tb, tb, tb, tb, tb] [] (by kernel_rfl) (by kernel_rfl) (mc hb mn) an 2 rfl ?_
  refine TD.callv [] (by kernel_rfl) 16 [] [] (dst := (some 33)) (f := 56) (args := #[.iface 41 (vP mb 0), .agg #[.slice t.cA t.cn t.cc, vI t.e0, vI t.e1, vI t.e2], vI 2, vI a, vI b, vI t.S.fuel]) (E := []) (Ob := []) [0, 33] (.bool false) [(0, vP tb 0), (33, .bool false)] (by kernel_rfl) (by kernel_rfl) (by kernel_rfl) mn an (fun X_ => (start_no2 mb _ _ _ _ _ _ a b t.S.fuel _ hN.2.2.2)) (by kernel_rfl) 1 rfl ?_
  refine TD.vals [] (by kernel_rfl) [17] [] [] [0, 34] [true, true, true, true, true, true, true, true, true, true, true, true, true, true, true, true, true, true] [(0, vP tb 0), (34, .bool true)] [] [] (by kernel_rfl) (by kernel_rfl) mn an 0 rfl ?_
  refine TD.fin (by kernel_rfl) (EX.np ?_)
  refine EX.next ?_
  refine TR.yes (by kernel_rfl) (by kernel_rfl) (rfl : true = true) ?_
  refine TR.seq ?_
  refine TR.reg ?_
  refine TL.seg0 1 [] [] [8] [(8, .bool true)] (ap [] []) [] [] (fun _ => by kernel_rfl) mn an ?_
  refine TL.fin (by kernel_rfl) ?_
  refine EX.next ?_
  refine TR.ret (A := []) (Ts := []) (by exact fun _ _ h => h) rfl rfl [] [] (.bool true) [] [] (fun _ => by kernel_rfl) mn an [] [] [] [] [] (by kernel_rfl) (by kernel_rfl) (by kernel_rfl) ?_
  exact ⟨rfl, rfl⟩

set_option maxHeartbeats 4000000 in
set_option maxRecDepth 100000 in
theorem turn_no0 (t : Stp) (other : Int) (cause : Bool) (tb mb : Nat) (M : MemS) (k : Nat) (T F : HL) (hM : MemH mb M (k + 1) T) (hS : SetIn F t.S) (hN : NoH t) : Sp Tryz.prog 46 #[vP tb 0, vI 0, vI other, .bool cause] (ap [(tb, .lit (Stp.l t mb) 83 (0, 0))] [T]) F (fun u H' => ∃ x, H' = ap [(tb, .lit (Stp.l t mb) 83 (0, 0))] [x] ∧ (MemH mb (turnM t other cause M) k x)) := by
  have hp := hS.pl
  have hn := hS.nb
  have hr := hS.room
  refine Sp.of_body Tryz.func46 rfl rfl rfl [(0, vP tb 0), (1, vI 0), (2, vI other), (3, .bool cause)] rfl ?_
  intro w0
  let z1 : Nat × Blk := (tb, .lit (Stp.l t mb) 83 (0, 0))
  refine TR.convH (ap [z1] [T]) rfl ?_
  refine TR.seq ?_
  refine TR.reg ?_
  refine TL.seg0 9 [] [.own 0, .gd true, .gd true, .gd true] [0, 1, 2, 16] [(0, vP tb 0), (1, vI 0), (2, vI other), (16, .bool (!cause))] (ap [z1] [T]) [tb] [(decide (t.j = 0)) = true, (decide (t.j = 0)) = true, (decide (t.j = 0)) = true] (fun _ => by kernel_rfl) mn (ac (decide_eq_true hN.1) (ac (decide_eq_true hN.1) (ac (decide_eq_true hN.1) an))) ?_
  refine TL.fin (by kernel_rfl) ?_
  refine EX.next ?_
  rcases Decidable.em ((cause) = true) with h1 | h1
  · refine TR.no (b := !cause) (by kernel_rfl) (by kernel_rfl) (by rw [h1]; rfl) ?_
    refine TR.seq ?_
    refine TR.reg ?_
    refine TL.seg0 7 [] [.own 0] [0, 29, 30, 34, 35] [(0, vP tb 0), (29, vP tb 0), (30, vI 0), (34, vI t.i), (35, vI other)] (ap [z1] [T]) [tb] [] (fun _ => by kernel_rfl) mn an ?_
    refine TL.callp (dst := (some 36)) (f := 47) (args := #[vP tb 0, vI 0, vI t.i, vI other]) (H1 := (ap [z1] [T])) (E := []) (Ob := []) [] [] [0, 36] (.bool true) [(0, vP tb 0), (36, .bool true)] (fun _ => by kernel_rfl) mn an (run_no0 t t.i other tb mb _ hN (in_ap 0 rfl)) (by kernel_rfl) ?_
    refine TL.fin (by kernel_rfl) ?_
    refine EX.next ?_
    refine TR.yes (by kernel_rfl) (by kernel_rfl) (rfl : true = true) ?_
    refine TR.seq ?_
    refine TR.seq ?_
    refine TR.reg ?_
    refine TL.seg0 5 [] [.own 0] [0, 41] [(0, vP tb 0), (41, .bool (!(decide (t.j = 0))))] (ap [z1] [T]) [tb] [] (fun _ => by kernel_rfl) mn an ?_
    refine TL.fin (by kernel_rfl) ?_
    refine EX.next ?_
    refine TR.no (b := !(decide (t.j = 0))) (by kernel_rfl) (by kernel_rfl) (by rw [decide_eq_true hN.1]; rfl) ?_
    refine TR.skip ?_
    refine EX.next ?_
    refine TR.draw [11] [] rfl (by kernel_rfl) ?_
    refine TD.vals [] (by kernel_rfl) [0, 4, 1, 5, 2, 6, 3, 7, 8, 9, 10] [] [.own 0, .own 0] [55, 57] [true, true, true, true, true, true, true, true, true, true, true, false] [(55, vI (IntKind.i64.wrap (t.i + 1))), (57, .iface 41 (vP mb 0))] [tb, tb] [] (by kernel_rfl) (by kernel_rfl) mn an 1 rfl ?_
    refine TD.one 11 (by kernel_rfl) 0 rfl fun a_ hF_ hcl_ => ?_
    refine OPJ.callT (τ := HL) [] [] (dst := (some 58)) (f := 150) (args := #[vP mb 0, vI 2, vI (IntKind.i64.wrap (t.i + 1))]) (A := [z1]) (Ts := [T]) (E := []) (Ob := []) [] [0] [0] [] [] [] [z1] [T] [] (fun _ => []) (fun x => [x]) (fun _ x => MemH mb (M.set 2 (IntKind.i64.wrap (t.i + 1))) k x) (fun v_ => []) (fun _ => by kernel_rfl) mn an (by kernel_rfl) (by kernel_rfl) (by kernel_rfl) (by kernel_rfl) (by kernel_rfl) (by kernel_rfl) (fun _ => by kernel_rfl) [] (.inl (by kernel_rfl)) (.inl (by decide)) (set_any 2 (IntKind.i64.wrap (t.i + 1)) hM) ?_ hF_ hcl_
    rintro _ T2 hM3
    refine TD.fin (by kernel_rfl) (EX.np ?_)
    refine EX.fin (A := [z1]) (Ts := [T2]) rfl rfl [] [] (.tuple #[]) [] [] (fun _ => by kernel_rfl) mn an [0] [] [0] [] (ap [z1] [T2]) (by kernel_rfl) (by kernel_rfl) (by kernel_rfl) ?_
    refine ⟨T2, rfl, ?_⟩
    have e : (turnM t other cause M) = (M.set 2 (IntKind.i64.wrap (t.i + 1))) := by
      first | (simp only [turnM, if_pos hN.1, if_pos h1]; done) | (simp only [turnM, if_pos hN.1, if_pos h1]; rfl) | rfl
    rw [e]
    exact hM3.weak (by omega)
  · refine TR.yes (b := !cause) (by kernel_rfl) (by kernel_rfl) (by rw [(Bool.eq_false_iff.2 h1)]; rfl) ?_
    refine TR.draw [11] [] rfl (by kernel_rfl) ?_
    refine TD.vals [] (by kernel_rfl) [0, 4, 1, 5, 2, 6, 3, 7, 8, 9, 10] [] [.own 0, .own 0] [25, 27] [true, true, true, true, true, true, true, true, true, true, true, false] [(25, vI (IntKind.i64.wrap (t.i + 1))), (27, .iface 41 (vP mb 0))] [tb, tb] [] (by kernel_rfl) (by kernel_rfl) mn an 1 rfl ?_
    refine TD.one 11 (by kernel_rfl) 0 rfl fun a_ hF_ hcl_ => ?_
    refine OPJ.callT (τ := HL) [] [] (dst := (some 28)) (f := 150) (args := #[vP mb 0, vI 2, vI (IntKind.i64.wrap (t.i + 1))]) (A := [z1]) (Ts := [T]) (E := []) (Ob := []) [] [0] [0] [] [] [] [z1] [T] [] (fun _ => []) (fun x => [x]) (fun _ x => MemH mb (M.set 2 (IntKind.i64.wrap (t.i + 1))) k x) (fun v_ => []) (fun _ => by kernel_rfl) mn an (by kernel_rfl) (by kernel_rfl) (by kernel_rfl) (by kernel_rfl) (by kernel_rfl) (by kernel_rfl) (fun _ => by kernel_rfl) [] (.inl (by kernel_rfl)) (.inl (by decide)) (set_any 2 (IntKind.i64.wrap (t.i + 1)) hM) ?_ hF_ hcl_
    rintro _ T4 hM5
    refine TD.fin (by kernel_rfl) (EX.np ?_)
    refine EX.fin (A := [z1]) (Ts := [T4]) rfl rfl [] [] (.tuple #[]) [] [] (fun _ => by kernel_rfl) mn an [0] [] [0] [] (ap [z1] [T4]) (by kernel_rfl) (by kernel_rfl) (by kernel_rfl) ?_
    refine ⟨T4, rfl, ?_⟩
    have e : (turnM t other cause M) = (M.set 2 (IntKind.i64.wrap (t.i + 1))) := by
      first | (simp only [turnM, if_pos hN.1, if_neg h1]; done) | (simp only [turnM, if_pos hN.1, if_neg h1]; rfl) | rfl
    rw [e]
    exact hM5.weak (by omega)

set_option maxHeartbeats 4000000 in
set_option maxRecDepth 100000 in
theorem turn_no2 (t : Stp) (other : Int) (cause : Bool) (tb mb : Nat) (M : MemS) (k : Nat) (T F : HL) (hM : MemH mb M (k + 1) T) (hS : SetIn F t.S) (hN : NoH t) : Sp Tryz.prog 46 #[vP tb 0, vI 2, vI other, .bool cause] (ap [(tb, .lit (Stp.l t mb) 83 (0, 0))] [T]) F (fun u H' => ∃ x, H' = ap [(tb, .lit (Stp.l t mb) 83 (0, 0))] [x] ∧ (MemH mb (turnM t other cause M) k x)) := by
  have hp := hS.pl
  have hn := hS.nb
  have hr := hS.room
  refine Sp.of_body Tryz.func46 rfl rfl rfl [(0, vP tb 0), (1, vI 2), (2, vI other), (3, .bool cause)] rfl ?_
  intro w0
  let z1 : Nat × Blk := (tb, .lit (Stp.l t mb) 83 (0, 0))
  refine TR.convH (ap [z1] [T]) rfl ?_
  refine TR.seq ?_
  refine TR.reg ?_
  refine TL.seg0 9 [] [.own 0, .gd true, .gd true, .gd true] [0, 1, 2, 16] [(0, vP tb 0), (1, vI 2), (2, vI other), (16, .bool (!cause))] (ap [z1] [T]) [tb] [(decide (t.j = 0)) = true, (decide (t.j = 0)) = true, (decide (t.j = 0)) = true] (fun _ => by kernel_rfl) mn (ac (decide_eq_true hN.1) (ac (decide_eq_true hN.1) (ac (decide_eq_true hN.1) an))) ?_
  refine TL.fin (by kernel_rfl) ?_
  refine EX.next ?_
  rcases Decidable.em ((cause) = true) with h1 | h1
  · refine TR.no (b := !cause) (by kernel_rfl) (by kernel_rfl) (by rw [h1]; rfl) ?_
    refine TR.seq ?_
    refine TR.reg ?_
    refine TL.seg0 7 [] [.own 0] [0, 29, 30, 34, 35] [(0, vP tb 0), (29, vP tb 0), (30, vI 2), (34, vI t.i), (35, vI other)] (ap [z1] [T]) [tb] [] (fun _ => by kernel_rfl) mn an ?_
    refine TL.callp (dst := (some 36)) (f := 47) (args := #[vP tb 0, vI 2, vI t.i, vI other]) (H1 := (ap [z1] [T])) (E := []) (Ob := []) [] [] [0, 36] (.bool true) [(0, vP tb 0), (36, .bool true)] (fun _ => by kernel_rfl) mn an (run_no2 t t.i other tb mb _ hN (in_ap 0 rfl)) (by kernel_rfl) ?_
    refine TL.fin (by kernel_rfl) ?_
    refine EX.next ?_
    refine TR.yes (by kernel_rfl) (by kernel_rfl) (rfl : true = true) ?_
    refine TR.seq ?_
    refine TR.seq ?_
    refine TR.reg ?_
    refine TL.seg0 5 [] [.own 0] [0, 41] [(0, vP tb 0), (41, .bool (!(decide (t.j = 0))))] (ap [z1] [T]) [tb] [] (fun _ => by kernel_rfl) mn an ?_
    refine TL.fin (by kernel_rfl) ?_
    refine EX.next ?_
    refine TR.no (b := !(decide (t.j = 0))) (by kernel_rfl) (by kernel_rfl) (by rw [decide_eq_true hN.1]; rfl) ?_
    refine TR.skip ?_
    refine EX.next ?_
    refine TR.draw [11] [] rfl (by kernel_rfl) ?_
    refine TD.vals [] (by kernel_rfl) [0, 4, 1, 5, 2, 6, 3, 7, 8, 9, 10] [] [.own 0, .own 0] [55, 57] [true, true, true, true, true, true, true, true, true, true, true, false] [(55, vI (IntKind.i64.wrap (t.i + 1))), (57, .iface 41 (vP mb 0))] [tb, tb] [] (by kernel_rfl) (by kernel_rfl) mn an 1 rfl ?_
    refine TD.one 11 (by kernel_rfl) 0 rfl fun a_ hF_ hcl_ => ?_
    refine OPJ.callT (τ := HL) [] [] (dst := (some 58)) (f := 150) (args := #[vP mb 0, vI 2, vI (IntKind.i64.wrap (t.i + 1))]) (A := [z1]) (Ts := [T]) (E := []) (Ob := []) [] [0] [0] [] [] [] [z1] [T] [] (fun _ => []) (fun x => [x]) (fun _ x => MemH mb (M.set 2 (IntKind.i64.wrap (t.i + 1))) k x) (fun v_ => []) (fun _ => by kernel_rfl) mn an (by kernel_rfl) (by kernel_rfl) (by kernel_rfl) (by kernel_rfl) (by kernel_rfl) (by kernel_rfl) (fun _ => by kernel_rfl) [] (.inl (by kernel_rfl)) (.inl (by decide)) (set_any 2 (IntKind.i64.wrap (t.i + 1)) hM) ?_ hF_ hcl_
    rintro _ T2 hM3
    refine TD.fin (by kernel_rfl) (EX.np ?_)
    refine EX.fin (A := [z1]) (Ts := [T2]) rfl rfl [] [] (.tuple #[]) [] [] (fun _ => by kernel_rfl) mn an [0] [] [0] [] (ap [z1] [T2]) (by kernel_rfl) (by kernel_rfl) (by kernel_rfl) ?_
    refine ⟨T2, rfl, ?_⟩
    have e : (turnM t other cause M) = (M.set 2 (IntKind.i64.wrap (t.i + 1))) := by
      first | (simp only [turnM, if_pos hN.1, if_pos h1]; done) | (simp only [turnM, if_pos hN.1, if_pos h1]; rfl) | rfl
    rw [e]
    exact hM3.weak (by omega)
  · refine TR.yes (b := !cause) (by kernel_rfl) (by kernel_rfl) (by rw [(Bool.eq_false_iff.2 h1)]; rfl) ?_
    refine TR.draw [11] [] rfl (by kernel_rfl) ?_
    refine TD.vals [] (by kernel_rfl) [0, 4, 1, 5, 2, 6, 3, 7, 8, 9, 10] [] [.own 0, .own 0] [25, 27] [true, true, true, true, true, true, true, true, true, true, true, false] [(25, vI (IntKind.i64.wrap (t.i + 1))), (27, .iface 41 (vP mb 0))] [tb, tb] [] (by kernel_rfl) (by kernel_rfl) mn an 1 rfl ?_
    refine TD.one 11 (by kernel_rfl) 0 rfl fun a_ hF_ hcl_ => ?_
    refine OPJ.callT (τ := HL) [] [] (dst := (some 28)) (f := 150) (args := #[vP mb 0, vI 2, vI (IntKind.i64.wrap (t.i + 1))]) (A := [z1]) (Ts := [T]) (E := []) (Ob := []) [] [0] [0] [] [] [] [z1] [T] [] (fun _ => []) (fun x => [x]) (fun _ x => MemH mb (M.set 2 (IntKind.i64.wrap (t.i + 1))) k x) (fun v_ => []) (fun _ => by kernel_rfl) mn an (by kernel_rfl) (by kernel_rfl) (by kernel_rfl) (by kernel_rfl) (by kernel_rfl) (by kernel_rfl) (fun _ => by kernel_rfl) [] (.inl (by kernel_rfl)) (.inl (by decide)) (set_any 2 (IntKind.i64.wrap (t.i + 1)) hM) ?_ hF_ hcl_
    rintro _ T4 hM5
    refine TD.fin (by kernel_rfl) (EX.np ?_)
    refine EX.fin (A := [z1]) (Ts := [T4]) rfl rfl [] [] (.tuple #[]) [] [] (fun _ => by kernel_rfl) mn an [0] [] [0] [] (ap [z1] [T4]) (by kernel_rfl) (by kernel_rfl) (by kernel_rfl) ?_
    refine ⟨T4, rfl, ?_⟩
    have e : (turnM t other cause M) = (M.set 2 (IntKind.i64.wrap (t.i + 1))) := by
      first | (simp only [turnM, if_pos hN.1, if_neg h1]; done) | (simp only [turnM, if_pos hN.1, if_neg h1]; rfl) | rfl
    rw [e]
    exact hM5.weak (by omega)

set_option maxHeartbeats 4000000 in
set_option maxRecDepth 100000 in
theorem act_no (t : Stp)  (tb mb : Nat) (M : MemS) (k : Nat) (T F : HL) (hM : MemH mb M (k + 3) T) (hS : SetIn F t.S) (hN : NoH t) : Sp Tryz.prog 30 #[vP tb 0] (ap [(tb, .lit (Stp.l t mb) 83 (0, 0))] [T]) F (fun u H' => ∃ x, H' = ap [(tb, .lit (Stp.l t mb) 83 (0, 0))] [x] ∧ (MemH mb (actM t M) k x)) := by
  have hp := hS.pl
  have hn := hS.nb
  have hr := hS.room
  refine Sp.of_body Tryz.func30 rfl rfl rfl [(0, vP tb 0)] rfl ?_
  intro w0
  let z1 : Nat × Blk := (tb, .lit (Stp.l t mb) 83 (0, 0))
  refine TR.convH (ap [z1] [T]) rfl ?_
  refine TR.seq ?_
  refine TR.draw [] [] rfl (by kernel_rfl) ?_
  refine TD.vals [] (by kernel_rfl) [0, 4, 1, 5, 2, 6, 3, 7] [] [.own 0, .own 0, .own 0, .own 0, .own 0, .own 0, .own 0, .own 0, .own 0, .own 0, .own 0, .own 0, .own 0, .own 0, .own 0, .own 0, .own 0] [0, 7, 11] [true, true, true, true, true, true, true, true, false, false] [(0, vP tb 0), (7, (Setup.v t.S)), (11, vI t.i)] [tb, tb, tb, tb, tb, tb, tb, tb, tb, tb, tb, tb, tb, tb, tb, tb, tb] [] (by kernel_rfl) (by kernel_rfl) mn an 2 rfl ?_
  refine TD.callv [] (by kernel_rfl) 8 [] [] (dst := (some 12)) (f := 44) (args := #[(Setup.v t.S), vI t.i]) (E := []) (Ob := []) [0, 12] (vI (playerAt t.S t.i)) [(0, vP tb 0), (12, vI (playerAt t.S t.i))] (by kernel_rfl) (by kernel_rfl) (by kernel_rfl) mn an (fun X_ => (lplayer_any t.S t.i _ hS.toSetN)) (by kernel_rfl) 1 rfl ?_
  have hb1 := playerAt_bd hS.toSetN t.i
  let z2 : Nat × Value := (2, vI (playerAt t.S t.i))
  refine TD.vals [] (by kernel_rfl) [9] [] [] [0, 2] [true, true, true, true, true, true, true, true, true, true] [(0, vP tb 0), z2] [] [] (by kernel_rfl) (by kernel_rfl) mn an 0 rfl ?_
  refine TD.fin (by kernel_rfl) (EX.np ?_)
  refine EX.next ?_
  refine TR.seq ?_
  refine TR.seq ?_
  refine TR.reg ?_
  refine TL.seg0 2 [] [] [0, 2, 14] [(0, vP tb 0), z2, (14, .bool (decide (playerAt t.S t.i < 0)))] (ap [z1] [T]) [] [] (fun _ => by kernel_rfl) mn an ?_
  refine TL.fin (by kernel_rfl) ?_
  refine EX.next ?_
  rcases Decidable.em (playerAt t.S t.i < 0) with h2 | h2
  · refine TR.yes (b := decide (playerAt t.S t.i < 0)) (by kernel_rfl) (by kernel_rfl) (decide_eq_true h2) ?_
    refine TR.seq ?_
    refine TR.reg ?_
    refine TL.seg0 1 [] [] [15] [(15, vP tb 0)] (ap [z1] [T]) [] [] (fun _ => by kernel_rfl) mn an ?_
    refine TL.callT (τ := HL) [] [] (dst := (some 16)) (f := 45) (args := #[vP tb 0, vI 2, vI 0]) (A := [z1]) (Ts := [T]) (E := []) (Ob := []) [0] [] [0] [] [] [z1] [] [T] [] (fun _ => [z1]) (fun x => [x]) (fun v x => MemH mb (beginM t 2 0 M) k x) (fun v_ => []) (fun _ => by kernel_rfl) mn an (by kernel_rfl) (by kernel_rfl) (by kernel_rfl) (by kernel_rfl) (by kernel_rfl) (by kernel_rfl) (fun _ => by kernel_rfl) (begin_any t 2 0 tb mb M k T _ hM hS.up ) ?_
    rintro _ T3 hM4
    refine TL.fin (by kernel_rfl) ?_
    refine EX.next ?_
    refine TR.ret (A := [z1]) (Ts := [T3]) (by exact fun _ _ h => h) rfl rfl [] [] (.tuple #[]) [] [] (fun _ => by kernel_rfl) mn an [0] [] [0] [] (ap [z1] [T3]) (by kernel_rfl) (by kernel_rfl) (by kernel_rfl) ?_
    refine ⟨T3, rfl, ?_⟩
    have e : (actM t M) = (beginM t 2 0 M) := by
      first | (simp only [actM, turnM, if_pos h2]; done) | (simp only [actM, turnM, if_pos h2]; rfl) | rfl
    rw [e]
    exact hM4.weak (by omega)
  · refine TR.no (b := decide (playerAt t.S t.i < 0)) (by kernel_rfl) (by kernel_rfl) (decide_eq_false h2) ?_
    refine TR.skip ?_
    refine EX.next ?_
    refine TR.seq ?_
    refine TR.reg ?_
    refine TL.seg0 6 [] [.own 0, .nw] [0, 20, 22] [(0, vP tb 0), (20, .iface 41 (vP mb 0)), (22, vI ((playerAt t.S t.i) + 2))] (ap [z1] [T]) [tb] [-9223372036854775808 ≤ (playerAt t.S t.i) + 2 ∧ (playerAt t.S t.i) + 2 ≤ 9223372036854775807] (fun _ => by kernel_rfl) mn (ac ⟨by omega, by omega⟩ an) ?_
    refine TL.callp (dst := (some 23)) (f := 28) (args := #[vP mb 0, vI ((playerAt t.S t.i) + 2)]) (H1 := (ap [z1] [T])) (E := []) (Ob := []) [] [] [0, 23] (vI (M.get ((playerAt t.S t.i) + 2))) [(0, vP tb 0), (23, vI (M.get ((playerAt t.S t.i) + 2)))] (fun _ => by kernel_rfl) mn an (get_any ((playerAt t.S t.i) + 2) hM (sub_ap 0 rfl)) (by kernel_rfl) ?_
    refine TL.seg0 1 [] [] [0, 3] [(0, vP tb 0), (3, vI (M.get ((playerAt t.S t.i) + 2)))] (ap [z1] [T]) [] [] (fun _ => by kernel_rfl) mn an ?_
    refine TL.fin (by kernel_rfl) ?_
    refine EX.next ?_
    refine TR.reg ?_
    refine TL.seg0 4 [] [] [24, 25, 27] [(24, vP tb 0), (25, vI (M.get ((playerAt t.S t.i) + 2))), (27, .bool (!(decide (M.get ((playerAt t.S t.i) + 2) = 0))))] (ap [z1] [T]) [] [] (fun _ => by kernel_rfl) mn an ?_
    refine TL.callT (τ := HL) [] [] (dst := (some 28)) (f := 46) (args := #[vP tb 0, vI 0, vI (M.get ((playerAt t.S t.i) + 2)), .bool (!(decide (M.get ((playerAt t.S t.i) + 2) = 0)))]) (A := [z1]) (Ts := [T]) (E := []) (Ob := []) [0] [] [0] [] [] [z1] [] [T] [] (fun _ => [z1]) (fun x => [x]) (fun v x => MemH mb (turnM t (M.get ((playerAt t.S t.i) + 2)) (!(decide (M.get ((playerAt t.S t.i) + 2) = 0))) M) (k + 2) x) (fun v_ => []) (fun _ => by kernel_rfl) mn an (by kernel_rfl) (by kernel_rfl) (by kernel_rfl) (by kernel_rfl) (by kernel_rfl) (by kernel_rfl) (fun _ => by kernel_rfl) (turn_no0 t (M.get ((playerAt t.S t.i) + 2)) (!(decide (M.get ((playerAt t.S t.i) + 2) = 0))) tb mb M (k + 2) T _ hM hS.up hN) ?_
    rintro _ T5 hM6
    refine TL.fin (by kernel_rfl) ?_
    refine EX.fin (A := [z1]) (Ts := [T5]) rfl rfl [] [] (.tuple #[]) [] [] (fun _ => by kernel_rfl) mn an [0] [] [0] [] (ap [z1] [T5]) (by kernel_rfl) (by kernel_rfl) (by kernel_rfl) ?_
    refine ⟨T5, rfl, ?_⟩
    have e : (actM t M) = (turnM t (M.get ((playerAt t.S t.i) + 2)) (!(decide (M.get ((playerAt t.S t.i) + 2) = 0))) M) := by
      first | (simp only [actM, turnM, if_neg h2]; done) | (simp only [actM, turnM, if_neg h2]; rfl) | rfl
    rw [e]
    exact hM6.weak (by omega)

set_option maxHeartbeats 4000000 in
set_option maxRecDepth 100000 in
theorem tick_no (t : Stp)  (tb mb : Nat) (M : MemS) (k : Nat) (T F : HL) (hM : MemH mb M (k + 3) T) (hS : SetIn F t.S) (hN : NoH t) : Sp Tryz.prog 31 #[vP tb 0] (ap [(tb, .lit (Stp.l t mb) 83 (0, 0))] [T]) F (fun u H' => ∃ x, H' = ap [(tb, .lit (Stp.l t mb) 83 (0, 0))] [x] ∧ (MemH mb (tickM t M) k x)) := by
  have hp := hS.pl
  have hn := hS.nb
  have hr := hS.room
  refine Sp.of_body Tryz.func31 rfl rfl rfl [(0, vP tb 0)] rfl ?_
  intro w0
  let z1 : Nat × Blk := (tb, .lit (Stp.l t mb) 83 (0, 0))
  refine TR.convH (ap [z1] [T]) rfl ?_
  refine TR.seq ?_
  refine TR.reg ?_
  refine TL.seg0 1 [] [] [0, 2] [(0, vP tb 0), (2, vP tb 0)] (ap [z1] [T]) [] [] (fun _ => by kernel_rfl) mn an ?_
  refine TL.callp (dst := (some 3)) (f := 47) (args := #[vP tb 0, vI 1, vI 0, vI 0]) (H1 := (ap [z1] [T])) (E := []) (Ob := []) [] [] [0, 3] (.bool true) [(0, vP tb 0), (3, .bool true)] (fun _ => by kernel_rfl) mn an (run_no1 t 0 0 tb mb _ hN (in_ap 0 rfl)) (by kernel_rfl) ?_
  refine TL.fin (by kernel_rfl) ?_
  refine EX.next ?_
  refine TR.yes (by kernel_rfl) (by kernel_rfl) (rfl : true = true) ?_
  refine TR.reg ?_
  refine TL.seg0 1 [] [] [4] [(4, vP tb 0)] (ap [z1] [T]) [] [] (fun _ => by kernel_rfl) mn an ?_
  refine TL.callT (τ := HL) [] [] (dst := (some 5)) (f := 45) (args := #[vP tb 0, vI 3, vI 0]) (A := [z1]) (Ts := [T]) (E := []) (Ob := []) [0] [] [0] [] [] [z1] [] [T] [] (fun _ => [z1]) (fun x => [x]) (fun v x => MemH mb (beginM t 3 0 M) k x) (fun v_ => []) (fun _ => by kernel_rfl) mn an (by kernel_rfl) (by kernel_rfl) (by kernel_rfl) (by kernel_rfl) (by kernel_rfl) (by kernel_rfl) (fun _ => by kernel_rfl) (begin_any t 3 0 tb mb M k T _ hM hS.up ) ?_
  rintro _ T1 hM2
  refine TL.fin (by kernel_rfl) ?_
  refine EX.fin (A := [z1]) (Ts := [T1]) rfl rfl [] [] (.tuple #[]) [] [] (fun _ => by kernel_rfl) mn an [0] [] [0] [] (ap [z1] [T1]) (by kernel_rfl) (by kernel_rfl) (by kernel_rfl) ?_
  refine ⟨T1, rfl, ?_⟩
  have e : (tickM t M) = (beginM t 3 0 M) := by
    first | (simp only [tickM, turnM]; done) | (simp only [tickM, turnM]; rfl) | rfl
  rw [e]
  exact hM2.weak (by omega)

set_option maxHeartbeats 4000000 in
set_option maxRecDepth 100000 in
theorem hit_no (t : Stp)  (tb mb : Nat) (M : MemS) (k : Nat) (T F : HL) (hM : MemH mb M (k + 3) T) (hS : SetIn F t.S) (hN : NoH t) : Sp Tryz.prog 35 #[vP tb 0] (ap [(tb, .lit (Stp.l t mb) 83 (0, 0))] [T]) F (fun u H' => ∃ x, H' = ap [(tb, .lit (Stp.l t mb) 83 (0, 0))] [x] ∧ (MemH mb (hitM t M) k x)) := by
  have hp := hS.pl
  have hn := hS.nb
  have hr := hS.room
  refine Sp.of_body Tryz.func35 rfl rfl rfl [(0, vP tb 0)] rfl ?_
  intro w0
  let z1 : Nat × Blk := (tb, .lit (Stp.l t mb) 83 (0, 0))
  refine TR.convH (ap [z1] [T]) rfl ?_
  refine TR.seq ?_
  refine TR.draw [] [] rfl (by kernel_rfl) ?_
  refine TD.vals [] (by kernel_rfl) [0, 4, 1, 5, 2, 6, 3, 7] [] [.own 0, .own 0, .own 0, .own 0, .own 0, .own 0, .own 0, .own 0, .own 0, .own 0, .own 0, .own 0, .own 0, .own 0, .own 0, .own 0, .own 0] [0, 7, 11] [true, true, true, true, true, true, true, true, false, false] [(0, vP tb 0), (7, (Setup.v t.S)), (11, vI t.i)] [tb, tb, tb, tb, tb, tb, tb, tb, tb, tb, tb, tb, tb, tb, tb, tb, tb] [] (by kernel_rfl) (by kernel_rfl) mn an 2 rfl ?_
  refine TD.callv [] (by kernel_rfl) 8 [] [] (dst := (some 12)) (f := 37) (args := #[(Setup.v t.S), vI t.i]) (E := []) (Ob := []) [0, 12] (vI (bodyAt t.S t.i)) [(0, vP tb 0), (12, vI (bodyAt t.S t.i))] (by kernel_rfl) (by kernel_rfl) (by kernel_rfl) mn an (fun X_ => (lbody_any t.S t.i _ hS.toSetN)) (by kernel_rfl) 1 rfl ?_
  have hb1 := bodyAt_bd hS.toSetN t.i
  let z2 : Nat × Value := (2, vI (bodyAt t.S t.i))
  refine TD.vals [] (by kernel_rfl) [9] [] [] [0, 2] [true, true, true, true, true, true, true, true, true, true] [(0, vP tb 0), z2] [] [] (by kernel_rfl) (by kernel_rfl) mn an 0 rfl ?_
  refine TD.fin (by kernel_rfl) (EX.np ?_)
  refine EX.next ?_
  refine TR.seq ?_
  refine TR.seq ?_
  refine TR.reg ?_
  refine TL.seg0 2 [] [] [0, 2, 14] [(0, vP tb 0), z2, (14, .bool (decide (bodyAt t.S t.i < 0)))] (ap [z1] [T]) [] [] (fun _ => by kernel_rfl) mn an ?_
  refine TL.fin (by kernel_rfl) ?_
  refine EX.next ?_
  rcases Decidable.em (bodyAt t.S t.i < 0) with h2 | h2
  · refine TR.yes (b := decide (bodyAt t.S t.i < 0)) (by kernel_rfl) (by kernel_rfl) (decide_eq_true h2) ?_
    refine TR.seq ?_
    refine TR.reg ?_
    refine TL.seg0 1 [] [] [15] [(15, vP tb 0)] (ap [z1] [T]) [] [] (fun _ => by kernel_rfl) mn an ?_
    refine TL.callT (τ := HL) [] [] (dst := (some 16)) (f := 45) (args := #[vP tb 0, vI 7, vI 0]) (A := [z1]) (Ts := [T]) (E := []) (Ob := []) [0] [] [0] [] [] [z1] [] [T] [] (fun _ => [z1]) (fun x => [x]) (fun v x => MemH mb (beginM t 7 0 M) k x) (fun v_ => []) (fun _ => by kernel_rfl) mn an (by kernel_rfl) (by kernel_rfl) (by kernel_rfl) (by kernel_rfl) (by kernel_rfl) (by kernel_rfl) (fun _ => by kernel_rfl) (begin_any t 7 0 tb mb M k T _ hM hS.up ) ?_
    rintro _ T3 hM4
    refine TL.fin (by kernel_rfl) ?_
    refine EX.next ?_
    refine TR.ret (A := [z1]) (Ts := [T3]) (by exact fun _ _ h => h) rfl rfl [] [] (.tuple #[]) [] [] (fun _ => by kernel_rfl) mn an [0] [] [0] [] (ap [z1] [T3]) (by kernel_rfl) (by kernel_rfl) (by kernel_rfl) ?_
    refine ⟨T3, rfl, ?_⟩
    have e : (hitM t M) = (beginM t 7 0 M) := by
      first | (simp only [hitM, turnM, if_pos h2]; done) | (simp only [hitM, turnM, if_pos h2]; rfl) | rfl
    rw [e]
    exact hM4.weak (by omega)
  · refine TR.no (b := decide (bodyAt t.S t.i < 0)) (by kernel_rfl) (by kernel_rfl) (decide_eq_false h2) ?_
    refine TR.skip ?_
    refine EX.next ?_
    refine TR.seq ?_
    refine TR.reg ?_
    refine TL.seg0 6 [] [.own 0, .nw] [0, 20, 22] [(0, vP tb 0), (20, .iface 41 (vP mb 0)), (22, vI ((bodyAt t.S t.i) + 6))] (ap [z1] [T]) [tb] [-9223372036854775808 ≤ (bodyAt t.S t.i) + 6 ∧ (bodyAt t.S t.i) + 6 ≤ 9223372036854775807] (fun _ => by kernel_rfl) mn (ac ⟨by omega, by omega⟩ an) ?_
    refine TL.callp (dst := (some 23)) (f := 28) (args := #[vP mb 0, vI ((bodyAt t.S t.i) + 6)]) (H1 := (ap [z1] [T])) (E := []) (Ob := []) [] [] [0, 23] (vI (M.get ((bodyAt t.S t.i) + 6))) [(0, vP tb 0), (23, vI (M.get ((bodyAt t.S t.i) + 6)))] (fun _ => by kernel_rfl) mn an (get_any ((bodyAt t.S t.i) + 6) hM (sub_ap 0 rfl)) (by kernel_rfl) ?_
    refine TL.seg0 1 [] [] [0, 3] [(0, vP tb 0), (3, vI (M.get ((bodyAt t.S t.i) + 6)))] (ap [z1] [T]) [] [] (fun _ => by kernel_rfl) mn an ?_
    refine TL.fin (by kernel_rfl) ?_
    refine EX.next ?_
    refine TR.reg ?_
    refine TL.seg0 5 [] [] [24, 26, 28] [(24, vP tb 0), (26, vI (IntKind.i64.wrap ((M.get ((bodyAt t.S t.i) + 6)) - 1))), (28, .bool (!(decide (M.get ((bodyAt t.S t.i) + 6) = 0))))] (ap [z1] [T]) [] [] (fun _ => by kernel_rfl) mn an ?_
    refine TL.callT (τ := HL) [] [] (dst := (some 29)) (f := 46) (args := #[vP tb 0, vI 2, vI (IntKind.i64.wrap ((M.get ((bodyAt t.S t.i) + 6)) - 1)), .bool (!(decide (M.get ((bodyAt t.S t.i) + 6) = 0)))]) (A := [z1]) (Ts := [T]) (E := []) (Ob := []) [0] [] [0] [] [] [z1] [] [T] [] (fun _ => [z1]) (fun x => [x]) (fun v x => MemH mb (turnM t (IntKind.i64.wrap ((M.get ((bodyAt t.S t.i) + 6)) - 1)) (!(decide (M.get ((bodyAt t.S t.i) + 6) = 0))) M) (k + 2) x) (fun v_ => []) (fun _ => by kernel_rfl) mn an (by kernel_rfl) (by kernel_rfl) (by kernel_rfl) (by kernel_rfl) (by kernel_rfl) (by kernel_rfl) (fun _ => by kernel_rfl) (turn_no2 t (IntKind.i64.wrap ((M.get ((bodyAt t.S t.i) + 6)) - 1)) (!(decide (M.get ((bodyAt t.S t.i) + 6) = 0))) tb mb M (k + 2) T _ hM hS.up hN) ?_
    rintro _ T5 hM6
    refine TL.fin (by kernel_rfl) ?_
    refine EX.fin (A := [z1]) (Ts := [T5]) rfl rfl [] [] (.tuple #[]) [] [] (fun _ => by kernel_rfl) mn an [0] [] [0] [] (ap [z1] [T5]) (by kernel_rfl) (by kernel_rfl) (by kernel_rfl) ?_
    refine ⟨T5, rfl, ?_⟩
    have e : (hitM t M) = (turnM t (IntKind.i64.wrap ((M.get ((bodyAt t.S t.i) + 6)) - 1)) (!(decide (M.get ((bodyAt t.S t.i) + 6) = 0))) M) := by
      first | (simp only [hitM, turnM, if_neg h2]; done) | (simp only [hitM, turnM, if_neg h2]; rfl) | rfl
    rw [e]
    exact hM6.weak (by omega)

set_option maxHeartbeats 4000000 in
set_option maxRecDepth 100000 in
theorem rest_any (t : Stp)  (tb mb : Nat) (M : MemS) (k : Nat) (T F : HL) (hM : MemH mb M (k + 14) T) (hS : SetIn F t.S)  : Sp Tryz.prog 36 #[vP tb 0] (ap [(tb, .lit (Stp.l t mb) 83 (0, 0))] [T]) F (fun u H' => ∃ x, H' = ap [(tb, .lit [.iface 41 (vP mb 0), vI t.S.players, vS t.S.bb (t.S.bo * 9) t.S.nb t.S.bc, vI t.S.box.x0, vI t.S.box.y0, vI t.S.box.x1, vI t.S.box.y1, .slice t.S.rA t.S.rn t.S.rc, .slice t.S.dA t.S.dn t.S.dc, vI t.S.fog, vI t.S.g.x, vI t.S.g.y, vI t.S.push, vI t.S.drag, vI t.S.rest, vI t.S.rounds, vI t.S.fuel, .slice t.cA t.cn t.cc, vI t.e0, vI t.e1, vI t.e2, vI t.version, vS t.ib (t.io * 3) t.ni t.ic, vI t.i, vI t.j, .bool (restB t), vI t.f0, vI t.f1, vI t.f2, vI t.f3, .bool t.emitted] 83 (0, 0))] [x] ∧ (MemH mb (restM t M) k x)) := by
  have hp := hS.pl
  have hn := hS.nb
  have hr := hS.room
  refine Sp.of_body Tryz.func36 rfl rfl rfl [(0, vP tb 0)] rfl ?_
  intro w0
  refine TR.convH (ap [(tb, .lit (Stp.l t mb) 83 (0, 0))] [T]) rfl ?_
  refine TR.seq ?_
  refine TR.seq ?_
  refine TR.draw [] [] rfl (by kernel_rfl) ?_
  refine TD.vals [] (by kernel_rfl) [0, 4, 1, 5, 2, 6, 3, 7] [] [.own 0, .own 0, .own 0, .own 0, .own 0, .own 0, .own 0, .own 0, .own 0, .own 0, .own 0, .own 0, .own 0, .own 0, .own 0, .own 0, .own 0] [0, 8, 12] [true, true, true, true, true, true, true, true, false, false] [(0, vP tb 0), (8, (Setup.v t.S)), (12, vI t.i)] [tb, tb, tb, tb, tb, tb, tb, tb, tb, tb, tb, tb, tb, tb, tb, tb, tb] [] (by kernel_rfl) (by kernel_rfl) mn an 2 rfl ?_
  refine TD.callv [] (by kernel_rfl) 8 [] [] (dst := (some 13)) (f := 37) (args := #[(Setup.v t.S), vI t.i]) (E := []) (Ob := []) [0, 13] (vI (bodyAt t.S t.i)) [(0, vP tb 0), (13, vI (bodyAt t.S t.i))] (by kernel_rfl) (by kernel_rfl) (by kernel_rfl) mn an (fun X_ => (lbody_any t.S t.i _ hS.toSetN)) (by kernel_rfl) 1 rfl ?_
  have hb1 := bodyAt_bd hS.toSetN t.i
  refine TD.vals [] (by kernel_rfl) [9] [] [] [0, 2] [true, true, true, true, true, true, true, true, true, true] [(0, vP tb 0), (2, vI (bodyAt t.S t.i))] [] [] (by kernel_rfl) (by kernel_rfl) mn an 0 rfl ?_
  refine TD.fin (by kernel_rfl) (EX.np ?_)
  refine EX.next ?_
  refine TR.seq ?_
  refine TR.reg ?_
  refine TL.seg0 2 [] [] [0, 2, 15] [(0, vP tb 0), (2, vI (bodyAt t.S t.i)), (15, .bool (decide (bodyAt t.S t.i ≥ 0)))] (ap [(tb, .lit (Stp.l t mb) 83 (0, 0))] [T]) [] [] (fun _ => by kernel_rfl) mn an ?_
  refine TL.fin (by kernel_rfl) ?_
  refine EX.next ?_
  rcases Decidable.em (bodyAt t.S t.i ≥ 0) with h2 | h2
  · refine TR.yes (b := decide (bodyAt t.S t.i ≥ 0)) (by kernel_rfl) (by kernel_rfl) (decide_eq_true h2) ?_
    refine TR.seq ?_
    refine TR.reg ?_
    refine TL.seg0 1 [] [] [0, 2, 3] [(0, vP tb 0), (2, vI (bodyAt t.S t.i)), (3, vI 0)] (ap [(tb, .lit (Stp.l t mb) 83 (0, 0))] [T]) [] [] (fun _ => by kernel_rfl) mn an ?_
    refine TL.fin (by kernel_rfl) ?_
    refine EX.next ?_
    refine TR.seq ?_
    refine TR.seq ?_
    refine TR.reg ?_
    refine TL.seg0 6 [] [.own 0, .nw] [0, 2, 3, 19, 21] [(0, vP tb 0), (2, vI (bodyAt t.S t.i)), (3, vI 0), (19, .iface 41 (vP mb 0)), (21, vI ((bodyAt t.S t.i) + 2))] (ap [(tb, .lit (Stp.l t mb) 83 (0, 0))] [T]) [tb] [-9223372036854775808 ≤ (bodyAt t.S t.i) + 2 ∧ (bodyAt t.S t.i) + 2 ≤ 9223372036854775807] (fun _ => by kernel_rfl) mn (ac ⟨by omega, by omega⟩ an) ?_
    refine TL.callp (dst := (some 22)) (f := 28) (args := #[vP mb 0, vI ((bodyAt t.S t.i) + 2)]) (H1 := (ap [(tb, .lit (Stp.l t mb) 83 (0, 0))] [T])) (E := []) (Ob := []) [] [] [0, 2, 3, 22] (vI (M.get ((bodyAt t.S t.i) + 2))) [(0, vP tb 0), (2, vI (bodyAt t.S t.i)), (3, vI 0), (22, vI (M.get ((bodyAt t.S t.i) + 2)))] (fun _ => by kernel_rfl) mn an (get_any ((bodyAt t.S t.i) + 2) hM (sub_ap 0 rfl)) (by kernel_rfl) ?_
    rcases Decidable.em (M.get ((bodyAt t.S t.i) + 2) = 0) with h3 | h3
    · refine TL.seg0 8 [] [.gd true, .gd true, .gd true, .gd true, .own 0, .gd true, .gd true, .nw] [0, 2, 3, 24, 28, 30] [(0, vP tb 0), (2, vI (bodyAt t.S t.i)), (3, vI 0), (24, .bool (decide (M.get ((bodyAt t.S t.i) + 2) = 0))), (28, .iface 41 (vP mb 0)), (30, vI ((bodyAt t.S t.i) + 3))] (ap [(tb, .lit (Stp.l t mb) 83 (0, 0))] [T]) [tb] [-9223372036854775808 ≤ (bodyAt t.S t.i) + 3 ∧ (bodyAt t.S t.i) + 3 ≤ 9223372036854775807, (decide (M.get ((bodyAt t.S t.i) + 2) = 0)) = true, (decide (M.get ((bodyAt t.S t.i) + 2) = 0)) = true, (decide (M.get ((bodyAt t.S t.i) + 2) = 0)) = true, (decide (M.get ((bodyAt t.S t.i) + 2) = 0)) = true, (decide (M.get ((bodyAt t.S t.i) + 2) = 0)) = true, (decide (M.get ((bodyAt t.S t.i) + 2) = 0)) = true] (fun _ => by kernel_rfl) mn (ac ⟨by omega, by omega⟩ (ac (decide_eq_true h3) (ac (decide_eq_true h3) (ac (decide_eq_true h3) (ac (decide_eq_true h3) (ac (decide_eq_true h3) (ac (decide_eq_true h3) an))))))) ?_
      refine TL.callp (dst := (some 31)) (f := 28) (args := #[vP mb 0, vI ((bodyAt t.S t.i) + 3)]) (H1 := (ap [(tb, .lit (Stp.l t mb) 83 (0, 0))] [T])) (E := []) (Ob := [(decide (M.get ((bodyAt t.S t.i) + 2) = 0)) = true]) [] [.gd true] [0, 2, 3, 24, 31] (vI (M.get ((bodyAt t.S t.i) + 3))) [(0, vP tb 0), (2, vI (bodyAt t.S t.i)), (3, vI 0), (24, .bool (decide (M.get ((bodyAt t.S t.i) + 2) = 0))), (31, vI (M.get ((bodyAt t.S t.i) + 3)))] (fun _ => by kernel_rfl) mn (ac (decide_eq_true h3) an) (get_any ((bodyAt t.S t.i) + 3) hM (sub_ap 0 rfl)) (by kernel_rfl) ?_
      refine TL.seg0 2 [] [.gd true, .gd true] [0, 2, 3, 33] [(0, vP tb 0), (2, vI (bodyAt t.S t.i)), (3, vI 0), (33, .bool (decide (M.get ((bodyAt t.S t.i) + 3) = 0)))] (ap [(tb, .lit (Stp.l t mb) 83 (0, 0))] [T]) [] [(decide (M.get ((bodyAt t.S t.i) + 2) = 0)) = true, (decide (M.get ((bodyAt t.S t.i) + 2) = 0)) = true] (fun _ => by kernel_rfl) mn (ac (decide_eq_true h3) (ac (decide_eq_true h3) an)) ?_
      refine TL.fin (by kernel_rfl) ?_
      refine EX.next ?_
      rcases Decidable.em (M.get ((bodyAt t.S t.i) + 3) = 0) with h4 | h4
      · refine TR.yes (b := decide (M.get ((bodyAt t.S t.i) + 3) = 0)) (by kernel_rfl) (by kernel_rfl) (decide_eq_true h4) ?_
        refine TR.reg ?_
        refine TL.seg0 6 [] [.own 0, .nw] [0, 2, 3, 37, 39] [(0, vP tb 0), (2, vI (bodyAt t.S t.i)), (3, vI 0), (37, .iface 41 (vP mb 0)), (39, vI ((bodyAt t.S t.i) + 7))] (ap [(tb, .lit (Stp.l t mb) 83 (0, 0))] [T]) [tb] [-9223372036854775808 ≤ (bodyAt t.S t.i) + 7 ∧ (bodyAt t.S t.i) + 7 ≤ 9223372036854775807] (fun _ => by kernel_rfl) mn (ac ⟨by omega, by omega⟩ an) ?_
        refine TL.callp (dst := (some 40)) (f := 28) (args := #[vP mb 0, vI ((bodyAt t.S t.i) + 7)]) (H1 := (ap [(tb, .lit (Stp.l t mb) 83 (0, 0))] [T])) (E := []) (Ob := []) [] [] [0, 2, 3, 40] (vI (M.get ((bodyAt t.S t.i) + 7))) [(0, vP tb 0), (2, vI (bodyAt t.S t.i)), (3, vI 0), (40, vI (M.get ((bodyAt t.S t.i) + 7)))] (fun _ => by kernel_rfl) mn an (get_any ((bodyAt t.S t.i) + 7) hM (sub_ap 0 rfl)) (by kernel_rfl) ?_
        refine TL.seg0 3 [] [] [0, 2, 3] [(0, vP tb 0), (2, vI (bodyAt t.S t.i)), (3, vI (if 1000 < IntKind.i64.wrap ((M.get ((bodyAt t.S t.i) + 7)) + 1) then 1000 else IntKind.i64.wrap ((M.get ((bodyAt t.S t.i) + 7)) + 1)))] (ap [(tb, .lit (Stp.l t mb) 83 (0, 0))] [T]) [] [] (fun _ => by kernel_rfl) mn an ?_
        refine TL.fin (by kernel_rfl) ?_
        refine EX.next ?_
        refine TR.reg ?_
        refine TL.seg0 7 [] [.own 0, .nw] [0, 46, 48, 49] [(0, vP tb 0), (46, .iface 41 (vP mb 0)), (48, vI ((bodyAt t.S t.i) + 7)), (49, vI (if 1000 < IntKind.i64.wrap ((M.get ((bodyAt t.S t.i) + 7)) + 1) then 1000 else IntKind.i64.wrap ((M.get ((bodyAt t.S t.i) + 7)) + 1)))] (ap [(tb, .lit (Stp.l t mb) 83 (0, 0))] [T]) [tb] [-9223372036854775808 ≤ (bodyAt t.S t.i) + 7 ∧ (bodyAt t.S t.i) + 7 ≤ 9223372036854775807] (fun _ => by kernel_rfl) mn (ac ⟨by omega, by omega⟩ an) ?_
        refine TL.callT (τ := HL) [] [] (dst := (some 50)) (f := 150) (args := #[vP mb 0, vI ((bodyAt t.S t.i) + 7), vI (if 1000 < IntKind.i64.wrap ((M.get ((bodyAt t.S t.i) + 7)) + 1) then 1000 else IntKind.i64.wrap ((M.get ((bodyAt t.S t.i) + 7)) + 1))]) (A := [(tb, .lit (Stp.l t mb) 83 (0, 0))]) (Ts := [T]) (E := []) (Ob := []) [] [0] [0] [] [0] [] [(tb, .lit (Stp.l t mb) 83 (0, 0))] [T] [] (fun _ => []) (fun x => [x]) (fun _ x => MemH mb (M.set ((bodyAt t.S t.i) + 7) (if 1000 < IntKind.i64.wrap ((M.get ((bodyAt t.S t.i) + 7)) + 1) then 1000 else IntKind.i64.wrap ((M.get ((bodyAt t.S t.i) + 7)) + 1))) (k + 13) x) (fun v_ => [(0, vP tb 0)]) (fun _ => by kernel_rfl) mn an (by kernel_rfl) (by kernel_rfl) (by kernel_rfl) (by kernel_rfl) (by kernel_rfl) (by kernel_rfl) (fun _ => by kernel_rfl) (set_any ((bodyAt t.S t.i) + 7) (if 1000 < IntKind.i64.wrap ((M.get ((bodyAt t.S t.i) + 7)) + 1) then 1000 else IntKind.i64.wrap ((M.get ((bodyAt t.S t.i) + 7)) + 1)) hM) ?_
        rintro _ T5 hM6
        refine TL.fin (by kernel_rfl) ?_
        refine EX.next ?_
        refine TR.seq ?_
        refine TR.seq ?_
        refine TR.draw [] [] rfl (by kernel_rfl) ?_
        refine TD.vals [] (by kernel_rfl) [0, 5, 1, 6, 2, 7, 3, 8, 4, 9, 10, 11] [] [.own 0, .own 0] [0, 62] [true, true, true, true, true, true, true, true, true, true, true, true] [(0, vP tb 0), (62, .bool (decide (IntKind.i64.wrap (t.i + 1) < (t.S.nb : Int))))] [tb, tb] [] (by kernel_rfl) (by kernel_rfl) mn an 0 rfl ?_
        refine TD.fin (by kernel_rfl) (EX.np ?_)
        refine EX.next ?_
        rcases Decidable.em (IntKind.i64.wrap (t.i + 1) < (t.S.nb : Int)) with h7 | h7
        · refine TR.yes (b := decide (IntKind.i64.wrap (t.i + 1) < (t.S.nb : Int))) (by kernel_rfl) (by kernel_rfl) (decide_eq_true h7) ?_
          refine TR.seq ?_
          refine TR.draw [11] [] rfl (by kernel_rfl) ?_
          refine TD.vals [] (by kernel_rfl) [0, 4, 1, 5, 2, 6, 3, 7, 8, 9, 10] [] [.own 0, .own 0] [71, 73] [true, true, true, true, true, true, true, true, true, true, true, false] [(71, vI (IntKind.i64.wrap (t.i + 1))), (73, .iface 41 (vP mb 0))] [tb, tb] [] (by kernel_rfl) (by kernel_rfl) mn an 1 rfl ?_
          refine TD.one 11 (by kernel_rfl) 0 rfl fun a_ hF_ hcl_ => ?_
          refine OPJ.callT (τ := HL) [] [] (dst := (some 74)) (f := 150) (args := #[vP mb 0, vI 2, vI (IntKind.i64.wrap (t.i + 1))]) (A := [(tb, .lit (Stp.l t mb) 83 (0, 0))]) (Ts := [T5]) (E := []) (Ob := []) [] [0] [0] [] [] [] [(tb, .lit (Stp.l t mb) 83 (0, 0))] [T5] [] (fun _ => []) (fun x => [x]) (fun _ x => MemH mb ((M.set ((bodyAt t.S t.i) + 7) (if 1000 < IntKind.i64.wrap ((M.get ((bodyAt t.S t.i) + 7)) + 1) then 1000 else IntKind.i64.wrap ((M.get ((bodyAt t.S t.i) + 7)) + 1))).set 2 (IntKind.i64.wrap (t.i + 1))) (k + 12) x) (fun v_ => []) (fun _ => by kernel_rfl) mn an (by kernel_rfl) (by kernel_rfl) (by kernel_rfl) (by kernel_rfl) (by kernel_rfl) (by kernel_rfl) (fun _ => by kernel_rfl) [] (.inl (by kernel_rfl)) (.inl (by decide)) (set_any 2 (IntKind.i64.wrap (t.i + 1)) hM6) ?_ hF_ hcl_
          rintro _ T8 hM9
          refine TD.fin (by kernel_rfl) (EX.np ?_)
          refine EX.next ?_
          refine TR.ret (A := [(tb, .lit (Stp.l t mb) 83 (0, 0))]) (Ts := [T8]) (by exact fun _ _ h => h) rfl rfl [] [] (.tuple #[]) [] [] (fun _ => by kernel_rfl) mn an [0] [] [0] [] (ap [(tb, .lit (Stp.l t mb) 83 (0, 0))] [T8]) (by kernel_rfl) (by kernel_rfl) (by kernel_rfl) ?_
          refine ⟨T8, by simp only [restB, Stp.l, if_pos h2, if_pos h3, if_pos h4, if_pos h7], ?_⟩
          have e : (restM t M) = ((M.set ((bodyAt t.S t.i) + 7) (if 1000 < IntKind.i64.wrap ((M.get ((bodyAt t.S t.i) + 7)) + 1) then 1000 else IntKind.i64.wrap ((M.get ((bodyAt t.S t.i) + 7)) + 1))).set 2 (IntKind.i64.wrap (t.i + 1))) := by
            simp only [restM, restA, restC, if_pos h2, if_pos h3, if_pos h4, if_pos h7]
          rw [e]
          exact hM9.weak (by omega)
        · refine TR.no (b := decide (IntKind.i64.wrap (t.i + 1) < (t.S.nb : Int))) (by kernel_rfl) (by kernel_rfl) (decide_eq_false h7) ?_
          refine TR.skip ?_
          refine EX.next ?_
          refine TR.seq ?_
          refine TR.reg ?_
          refine TL.seg0 4 [] [.own 0] [0] [(0, vP tb 0)] (ap [(tb, .lit [.iface 41 (vP mb 0), vI t.S.players, vS t.S.bb (t.S.bo * 9) t.S.nb t.S.bc, vI t.S.box.x0, vI t.S.box.y0, vI t.S.box.x1, vI t.S.box.y1, .slice t.S.rA t.S.rn t.S.rc, .slice t.S.dA t.S.dn t.S.dc, vI t.S.fog, vI t.S.g.x, vI t.S.g.y, vI t.S.push, vI t.S.drag, vI t.S.rest, vI t.S.rounds, vI t.S.fuel, .slice t.cA t.cn t.cc, vI t.e0, vI t.e1, vI t.e2, vI t.version, vS t.ib (t.io * 3) t.ni t.ic, vI t.i, vI t.j, .bool true, vI t.f0, vI t.f1, vI t.f2, vI t.f3, .bool t.emitted] 83 (0, 0))] [T5]) [tb] [] (fun _ => by kernel_rfl) mn an ?_
          refine TL.fin (by kernel_rfl) ?_
          refine EX.next ?_
          refine TR.seq ?_
          refine TR.draw [12] [] rfl (by kernel_rfl) ?_
          refine TD.vals [] (by kernel_rfl) [0, 4, 1, 5, 2, 6, 3, 7, 10, 11] [] [.own 0, .own 0] [0, 85, 89] [true, true, true, true, true, true, true, true, false, false, true, true, false] [(0, vP tb 0), (85, .iface 41 (vP mb 0)), (89, .iface 41 (vP mb 0))] [tb, tb] [] (by kernel_rfl) (by kernel_rfl) mn an 3 rfl ?_
          refine TD.callv [] (by kernel_rfl) 8 [] [] (dst := (some 86)) (f := 28) (args := #[vP mb 0, vI 0]) (E := []) (Ob := []) [0, 86, 89] (vI ((M.set ((bodyAt t.S t.i) + 7) (if 1000 < IntKind.i64.wrap ((M.get ((bodyAt t.S t.i) + 7)) + 1) then 1000 else IntKind.i64.wrap ((M.get ((bodyAt t.S t.i) + 7)) + 1))).get 0)) [(0, vP tb 0), (86, vI ((M.set ((bodyAt t.S t.i) + 7) (if 1000 < IntKind.i64.wrap ((M.get ((bodyAt t.S t.i) + 7)) + 1) then 1000 else IntKind.i64.wrap ((M.get ((bodyAt t.S t.i) + 7)) + 1))).get 0)), (89, .iface 41 (vP mb 0))] (by kernel_rfl) (by kernel_rfl) (by kernel_rfl) mn an (fun X_ => (get_any 0 hM6 (sub_apX 0 rfl))) (by kernel_rfl) 2 rfl ?_
          refine TD.vals [] (by kernel_rfl) [9] [] [] [0, 87, 89] [true, true, true, true, true, true, true, true, true, true, true, true, false] [(0, vP tb 0), (87, vI (IntKind.i64.wrap (((M.set ((bodyAt t.S t.i) + 7) (if 1000 < IntKind.i64.wrap ((M.get ((bodyAt t.S t.i) + 7)) + 1) then 1000 else IntKind.i64.wrap ((M.get ((bodyAt t.S t.i) + 7)) + 1))).get 0) + 1))), (89, .iface 41 (vP mb 0))] [] [] (by kernel_rfl) (by kernel_rfl) mn an 1 rfl ?_
          refine TD.one 12 (by kernel_rfl) 0 rfl fun a_ hF_ hcl_ => ?_
          refine OPJ.callT (τ := HL) [] [] (dst := (some 90)) (f := 150) (args := #[vP mb 0, vI 0, vI (IntKind.i64.wrap (((M.set ((bodyAt t.S t.i) + 7) (if 1000 < IntKind.i64.wrap ((M.get ((bodyAt t.S t.i) + 7)) + 1) then 1000 else IntKind.i64.wrap ((M.get ((bodyAt t.S t.i) + 7)) + 1))).get 0) + 1))]) (A := [(tb, .lit [.iface 41 (vP mb 0), vI t.S.players, vS t.S.bb (t.S.bo * 9) t.S.nb t.S.bc, vI t.S.box.x0, vI t.S.box.y0, vI t.S.box.x1, vI t.S.box.y1, .slice t.S.rA t.S.rn t.S.rc, .slice t.S.dA t.S.dn t.S.dc, vI t.S.fog, vI t.S.g.x, vI t.S.g.y, vI t.S.push, vI t.S.drag, vI t.S.rest, vI t.S.rounds, vI t.S.fuel, .slice t.cA t.cn t.cc, vI t.e0, vI t.e1, vI t.e2, vI t.version, vS t.ib (t.io * 3) t.ni t.ic, vI t.i, vI t.j, .bool true, vI t.f0, vI t.f1, vI t.f2, vI t.f3, .bool t.emitted] 83 (0, 0))]) (Ts := [T5]) (E := []) (Ob := []) [] [0] [0] [] [0] [] [(tb, .lit [.iface 41 (vP mb 0), vI t.S.players, vS t.S.bb (t.S.bo * 9) t.S.nb t.S.bc, vI t.S.box.x0, vI t.S.box.y0, vI t.S.box.x1, vI t.S.box.y1, .slice t.S.rA t.S.rn t.S.rc, .slice t.S.dA t.S.dn t.S.dc, vI t.S.fog, vI t.S.g.x, vI t.S.g.y, vI t.S.push, vI t.S.drag, vI t.S.rest, vI t.S.rounds, vI t.S.fuel, .slice t.cA t.cn t.cc, vI t.e0, vI t.e1, vI t.e2, vI t.version, vS t.ib (t.io * 3) t.ni t.ic, vI t.i, vI t.j, .bool true, vI t.f0, vI t.f1, vI t.f2, vI t.f3, .bool t.emitted] 83 (0, 0))] [T5] [] (fun _ => []) (fun x => [x]) (fun _ x => MemH mb ((M.set ((bodyAt t.S t.i) + 7) (if 1000 < IntKind.i64.wrap ((M.get ((bodyAt t.S t.i) + 7)) + 1) then 1000 else IntKind.i64.wrap ((M.get ((bodyAt t.S t.i) + 7)) + 1))).set 0 (IntKind.i64.wrap (((M.set ((bodyAt t.S t.i) + 7) (if 1000 < IntKind.i64.wrap ((M.get ((bodyAt t.S t.i) + 7)) + 1) then 1000 else IntKind.i64.wrap ((M.get ((bodyAt t.S t.i) + 7)) + 1))).get 0) + 1))) (k + 12) x) (fun v_ => [(0, vP tb 0)]) (fun _ => by kernel_rfl) mn an (by kernel_rfl) (by kernel_rfl) (by kernel_rfl) (by kernel_rfl) (by kernel_rfl) (by kernel_rfl) (fun _ => by kernel_rfl) [] (.inl (by kernel_rfl)) (.inl (by decide)) (set_any 0 (IntKind.i64.wrap (((M.set ((bodyAt t.S t.i) + 7) (if 1000 < IntKind.i64.wrap ((M.get ((bodyAt t.S t.i) + 7)) + 1) then 1000 else IntKind.i64.wrap ((M.get ((bodyAt t.S t.i) + 7)) + 1))).get 0) + 1)) hM6) ?_ hF_ hcl_
          rintro _ T10 hM11
          refine TD.fin (by kernel_rfl) (EX.np ?_)
          refine EX.next ?_
          refine TR.seq ?_
          refine TR.reg ?_
          refine TL.seg0 1 [] [] [0, 4] [(0, vP tb 0), (4, vI 1)] (ap [(tb, .lit [.iface 41 (vP mb 0), vI t.S.players, vS t.S.bb (t.S.bo * 9) t.S.nb t.S.bc, vI t.S.box.x0, vI t.S.box.y0, vI t.S.box.x1, vI t.S.box.y1, .slice t.S.rA t.S.rn t.S.rc, .slice t.S.dA t.S.dn t.S.dc, vI t.S.fog, vI t.S.g.x, vI t.S.g.y, vI t.S.push, vI t.S.drag, vI t.S.rest, vI t.S.rounds, vI t.S.fuel, .slice t.cA t.cn t.cc, vI t.e0, vI t.e1, vI t.e2, vI t.version, vS t.ib (t.io * 3) t.ni t.ic, vI t.i, vI t.j, .bool true, vI t.f0, vI t.f1, vI t.f2, vI t.f3, .bool t.emitted] 83 (0, 0))] [T10]) [] [] (fun _ => by kernel_rfl) mn an ?_
          refine TL.fin (by kernel_rfl) ?_
          refine EX.next ?_
          refine TR.block ?_
          refine TR.loop (A := [(tb, .lit [.iface 41 (vP mb 0), vI t.S.players, vS t.S.bb (t.S.bo * 9) t.S.nb t.S.bc, vI t.S.box.x0, vI t.S.box.y0, vI t.S.box.x1, vI t.S.box.y1, .slice t.S.rA t.S.rn t.S.rc, .slice t.S.dA t.S.dn t.S.dc, vI t.S.fog, vI t.S.g.x, vI t.S.g.y, vI t.S.push, vI t.S.drag, vI t.S.rest, vI t.S.rounds, vI t.S.fuel, .slice t.cA t.cn t.cc, vI t.e0, vI t.e1, vI t.e2, vI t.version, vS t.ib (t.io * 3) t.ni t.ic, vI t.i, vI t.j, .bool true, vI t.f0, vI t.f1, vI t.f2, vI t.f3, .bool t.emitted] 83 (0, 0))]) (Ts := [T10]) (σ := Nat × HL) (fun (x : Nat × HL) => match x with | ⟨n, T_⟩ => [(0, vP tb 0), (4, vI ((n + 1 : Nat) : Int))]) (fun (x : Nat × HL) => match x with | ⟨n, T_⟩ => ap [(tb, .lit [.iface 41 (vP mb 0), vI t.S.players, vS t.S.bb (t.S.bo * 9) t.S.nb t.S.bc, vI t.S.box.x0, vI t.S.box.y0, vI t.S.box.x1, vI t.S.box.y1, .slice t.S.rA t.S.rn t.S.rc, .slice t.S.dA t.S.dn t.S.dc, vI t.S.fog, vI t.S.g.x, vI t.S.g.y, vI t.S.push, vI t.S.drag, vI t.S.rest, vI t.S.rounds, vI t.S.fuel, .slice t.cA t.cn t.cc, vI t.e0, vI t.e1, vI t.e2, vI t.version, vS t.ib (t.io * 3) t.ni t.ic, vI t.i, vI t.j, .bool true, vI t.f0, vI t.f1, vI t.f2, vI t.f3, .bool t.emitted] 83 (0, 0))] [T_]) (fun (x : Nat × HL) => match x with | ⟨n, T_⟩ => n ≤ 10 ∧ MemH mb (zeroTo ((M.set ((bodyAt t.S t.i) + 7) (if 1000 < IntKind.i64.wrap ((M.get ((bodyAt t.S t.i) + 7)) + 1) then 1000 else IntKind.i64.wrap ((M.get ((bodyAt t.S t.i) + 7)) + 1))).set 0 (IntKind.i64.wrap (((M.set ((bodyAt t.S t.i) + 7) (if 1000 < IntKind.i64.wrap ((M.get ((bodyAt t.S t.i) + 7)) + 1) then 1000 else IntKind.i64.wrap ((M.get ((bodyAt t.S t.i) + 7)) + 1))).get 0) + 1))) n) (k + 10 - n) T_) (fun (x : Nat × HL) => match x with | ⟨n, T_⟩ => 10 - n) (0, T10) (⟨by omega, hM11.weak (by omega)⟩) [0, 4] (by kernel_rfl) [0] [] [0] [] (by kernel_rfl) (by kernel_rfl) (by kernel_rfl) ?_
          rintro ⟨n, T_⟩ ⟨hn_, hM_⟩
          refine TR.seq ?_
          refine TR.seq ?_
          refine TR.reg ?_
          refine TL.seg0 2 [] [] [0, 4, 92] [(0, vP tb 0), (4, vI ((n + 1 : Nat) : Int)), (92, .bool (decide (((n + 1 : Nat) : Int) ≤ 10)))] (ap [(tb, .lit [.iface 41 (vP mb 0), vI t.S.players, vS t.S.bb (t.S.bo * 9) t.S.nb t.S.bc, vI t.S.box.x0, vI t.S.box.y0, vI t.S.box.x1, vI t.S.box.y1, .slice t.S.rA t.S.rn t.S.rc, .slice t.S.dA t.S.dn t.S.dc, vI t.S.fog, vI t.S.g.x, vI t.S.g.y, vI t.S.push, vI t.S.drag, vI t.S.rest, vI t.S.rounds, vI t.S.fuel, .slice t.cA t.cn t.cc, vI t.e0, vI t.e1, vI t.e2, vI t.version, vS t.ib (t.io * 3) t.ni t.ic, vI t.i, vI t.j, .bool true, vI t.f0, vI t.f1, vI t.f2, vI t.f3, .bool t.emitted] 83 (0, 0))] [T_]) [] [] (fun _ => by kernel_rfl) mn an ?_
          refine TL.fin (by kernel_rfl) ?_
          refine EX.next ?_
          rcases Decidable.em (((n + 1 : Nat) : Int) ≤ 10) with h13 | h13
          · obtain ⟨e_, he_⟩ : ∃ e, k + 10 - n = e + 1 := ⟨k + 9 - n, by omega⟩
            have hM_2 : MemH mb (zeroTo ((M.set ((bodyAt t.S t.i) + 7) (if 1000 < IntKind.i64.wrap ((M.get ((bodyAt t.S t.i) + 7)) + 1) then 1000 else IntKind.i64.wrap ((M.get ((bodyAt t.S t.i) + 7)) + 1))).set 0 (IntKind.i64.wrap (((M.set ((bodyAt t.S t.i) + 7) (if 1000 < IntKind.i64.wrap ((M.get ((bodyAt t.S t.i) + 7)) + 1) then 1000 else IntKind.i64.wrap ((M.get ((bodyAt t.S t.i) + 7)) + 1))).get 0) + 1))) n) (e_ + 1) T_ := he_ ▸ hM_
            refine TR.yes (b := decide (((n + 1 : Nat) : Int) ≤ 10)) (by kernel_rfl) (by kernel_rfl) (decide_eq_true h13) ?_
            refine TR.skip ?_
            refine EX.next ?_
            refine TR.seq ?_
            refine TR.block ?_
            refine TR.reg ?_
            refine TL.seg0 5 [] [.own 0] [0, 4, 98, 99] [(0, vP tb 0), (4, vI ((n + 1 : Nat) : Int)), (98, .iface 41 (vP mb 0)), (99, vI ((n + 1 : Nat) : Int))] (ap [(tb, .lit [.iface 41 (vP mb 0), vI t.S.players, vS t.S.bb (t.S.bo * 9) t.S.nb t.S.bc, vI t.S.box.x0, vI t.S.box.y0, vI t.S.box.x1, vI t.S.box.y1, .slice t.S.rA t.S.rn t.S.rc, .slice t.S.dA t.S.dn t.S.dc, vI t.S.fog, vI t.S.g.x, vI t.S.g.y, vI t.S.push, vI t.S.drag, vI t.S.rest, vI t.S.rounds, vI t.S.fuel, .slice t.cA t.cn t.cc, vI t.e0, vI t.e1, vI t.e2, vI t.version, vS t.ib (t.io * 3) t.ni t.ic, vI t.i, vI t.j, .bool true, vI t.f0, vI t.f1, vI t.f2, vI t.f3, .bool t.emitted] 83 (0, 0))] [T_]) [tb] [] (fun _ => by kernel_rfl) mn an ?_
            refine TL.callT (τ := HL) [] [] (dst := (some 100)) (f := 150) (args := #[vP mb 0, vI ((n + 1 : Nat) : Int), vI 0]) (A := [(tb, .lit [.iface 41 (vP mb 0), vI t.S.players, vS t.S.bb (t.S.bo * 9) t.S.nb t.S.bc, vI t.S.box.x0, vI t.S.box.y0, vI t.S.box.x1, vI t.S.box.y1, .slice t.S.rA t.S.rn t.S.rc, .slice t.S.dA t.S.dn t.S.dc, vI t.S.fog, vI t.S.g.x, vI t.S.g.y, vI t.S.push, vI t.S.drag, vI t.S.rest, vI t.S.rounds, vI t.S.fuel, .slice t.cA t.cn t.cc, vI t.e0, vI t.e1, vI t.e2, vI t.version, vS t.ib (t.io * 3) t.ni t.ic, vI t.i, vI t.j, .bool true, vI t.f0, vI t.f1, vI t.f2, vI t.f3, .bool t.emitted] 83 (0, 0))]) (Ts := [T_]) (E := []) (Ob := []) [] [0] [0] [] [0, 4] [] [(tb, .lit [.iface 41 (vP mb 0), vI t.S.players, vS t.S.bb (t.S.bo * 9) t.S.nb t.S.bc, vI t.S.box.x0, vI t.S.box.y0, vI t.S.box.x1, vI t.S.box.y1, .slice t.S.rA t.S.rn t.S.rc, .slice t.S.dA t.S.dn t.S.dc, vI t.S.fog, vI t.S.g.x, vI t.S.g.y, vI t.S.push, vI t.S.drag, vI t.S.rest, vI t.S.rounds, vI t.S.fuel, .slice t.cA t.cn t.cc, vI t.e0, vI t.e1, vI t.e2, vI t.version, vS t.ib (t.io * 3) t.ni t.ic, vI t.i, vI t.j, .bool true, vI t.f0, vI t.f1, vI t.f2, vI t.f3, .bool t.emitted] 83 (0, 0))] [T_] [] (fun _ => []) (fun x => [x]) (fun _ x => MemH mb ((zeroTo ((M.set ((bodyAt t.S t.i) + 7) (if 1000 < IntKind.i64.wrap ((M.get ((bodyAt t.S t.i) + 7)) + 1) then 1000 else IntKind.i64.wrap ((M.get ((bodyAt t.S t.i) + 7)) + 1))).set 0 (IntKind.i64.wrap (((M.set ((bodyAt t.S t.i) + 7) (if 1000 < IntKind.i64.wrap ((M.get ((bodyAt t.S t.i) + 7)) + 1) then 1000 else IntKind.i64.wrap ((M.get ((bodyAt t.S t.i) + 7)) + 1))).get 0) + 1))) n).set ((n + 1 : Nat) : Int) 0) e_ x) (fun v_ => [(0, vP tb 0), (4, vI ((n + 1 : Nat) : Int))]) (fun _ => by kernel_rfl) mn an (by kernel_rfl) (by kernel_rfl) (by kernel_rfl) (by kernel_rfl) (by kernel_rfl) (by kernel_rfl) (fun _ => by kernel_rfl) (set_any ((n + 1 : Nat) : Int) 0 hM_2) ?_
            rintro _ T14 hM15
            refine TL.fin (by kernel_rfl) ?_
            refine EX.inn ?_
            refine EX.next ?_
            refine TR.reg ?_
            refine TL.seg0 3 [] [.nw] [0, 4] [(0, vP tb 0), (4, vI (((n + 1 : Nat) : Int) + 1))] (ap [(tb, .lit [.iface 41 (vP mb 0), vI t.S.players, vS t.S.bb (t.S.bo * 9) t.S.nb t.S.bc, vI t.S.box.x0, vI t.S.box.y0, vI t.S.box.x1, vI t.S.box.y1, .slice t.S.rA t.S.rn t.S.rc, .slice t.S.dA t.S.dn t.S.dc, vI t.S.fog, vI t.S.g.x, vI t.S.g.y, vI t.S.push, vI t.S.drag, vI t.S.rest, vI t.S.rounds, vI t.S.fuel, .slice t.cA t.cn t.cc, vI t.e0, vI t.e1, vI t.e2, vI t.version, vS t.ib (t.io * 3) t.ni t.ic, vI t.i, vI t.j, .bool true, vI t.f0, vI t.f1, vI t.f2, vI t.f3, .bool t.emitted] 83 (0, 0))] [T14]) [] [-9223372036854775808 ≤ ((n + 1 : Nat) : Int) + 1 ∧ ((n + 1 : Nat) : Int) + 1 ≤ 9223372036854775807] (fun _ => by kernel_rfl) mn (ac ⟨by omega, by omega⟩ an) ?_
            refine TL.fin (by kernel_rfl) ?_
            refine EX.meet (A := [(tb, .lit [.iface 41 (vP mb 0), vI t.S.players, vS t.S.bb (t.S.bo * 9) t.S.nb t.S.bc, vI t.S.box.x0, vI t.S.box.y0, vI t.S.box.x1, vI t.S.box.y1, .slice t.S.rA t.S.rn t.S.rc, .slice t.S.dA t.S.dn t.S.dc, vI t.S.fog, vI t.S.g.x, vI t.S.g.y, vI t.S.push, vI t.S.drag, vI t.S.rest, vI t.S.rounds, vI t.S.fuel, .slice t.cA t.cn t.cc, vI t.e0, vI t.e1, vI t.e2, vI t.version, vS t.ib (t.io * 3) t.ni t.ic, vI t.i, vI t.j, .bool true, vI t.f0, vI t.f1, vI t.f2, vI t.f3, .bool t.emitted] 83 (0, 0))]) (Ts := [T14]) (n + 1, T14) ?_ [0, 4] (by kernel_rfl) [0] [] [0] [] (by kernel_rfl) (by kernel_rfl) (by kernel_rfl)
            try dsimp only
            refine ⟨⟨by omega, hM15.cast (by rw [zeroTo]) (by omega)⟩, by omega⟩
          · refine TR.no (b := decide (((n + 1 : Nat) : Int) ≤ 10)) (by kernel_rfl) (by kernel_rfl) (decide_eq_false h13) ?_
            refine TR.exit ?_
            refine EX.thn (by simp) ?_
            refine EX.thn (by simp) ?_
            refine EX.hit ?_
            refine EX.fin (A := [(tb, .lit [.iface 41 (vP mb 0), vI t.S.players, vS t.S.bb (t.S.bo * 9) t.S.nb t.S.bc, vI t.S.box.x0, vI t.S.box.y0, vI t.S.box.x1, vI t.S.box.y1, .slice t.S.rA t.S.rn t.S.rc, .slice t.S.dA t.S.dn t.S.dc, vI t.S.fog, vI t.S.g.x, vI t.S.g.y, vI t.S.push, vI t.S.drag, vI t.S.rest, vI t.S.rounds, vI t.S.fuel, .slice t.cA t.cn t.cc, vI t.e0, vI t.e1, vI t.e2, vI t.version, vS t.ib (t.io * 3) t.ni t.ic, vI t.i, vI t.j, .bool true, vI t.f0, vI t.f1, vI t.f2, vI t.f3, .bool t.emitted] 83 (0, 0))]) (Ts := [T_]) rfl rfl [] [] (.tuple #[]) [] [] (fun _ => by kernel_rfl) mn an [0] [] [0] [] (ap [(tb, .lit [.iface 41 (vP mb 0), vI t.S.players, vS t.S.bb (t.S.bo * 9) t.S.nb t.S.bc, vI t.S.box.x0, vI t.S.box.y0, vI t.S.box.x1, vI t.S.box.y1, .slice t.S.rA t.S.rn t.S.rc, .slice t.S.dA t.S.dn t.S.dc, vI t.S.fog, vI t.S.g.x, vI t.S.g.y, vI t.S.push, vI t.S.drag, vI t.S.rest, vI t.S.rounds, vI t.S.fuel, .slice t.cA t.cn t.cc, vI t.e0, vI t.e1, vI t.e2, vI t.version, vS t.ib (t.io * 3) t.ni t.ic, vI t.i, vI t.j, .bool true, vI t.f0, vI t.f1, vI t.f2, vI t.f3, .bool t.emitted] 83 (0, 0))] [T_]) (by kernel_rfl) (by kernel_rfl) (by kernel_rfl) ?_
            refine ⟨T_, by simp only [restB, Stp.l, if_pos h2, if_pos h3, if_pos h4, if_neg h7, if_neg h13], ?_⟩
            have en : n = 10 := by omega
            have e : (restM t M) = (zeroTo ((M.set ((bodyAt t.S t.i) + 7) (if 1000 < IntKind.i64.wrap ((M.get ((bodyAt t.S t.i) + 7)) + 1) then 1000 else IntKind.i64.wrap ((M.get ((bodyAt t.S t.i) + 7)) + 1))).set 0 (IntKind.i64.wrap (((M.set ((bodyAt t.S t.i) + 7) (if 1000 < IntKind.i64.wrap ((M.get ((bodyAt t.S t.i) + 7)) + 1) then 1000 else IntKind.i64.wrap ((M.get ((bodyAt t.S t.i) + 7)) + 1))).get 0) + 1))) n) := by
              rw [en]
              simp only [restM, restA, restC, if_pos h2, if_pos h3, if_pos h4, if_neg h7, if_neg h13]
            rw [e]
            exact hM_.weak (by omega)
      · refine TR.no (b := decide (M.get ((bodyAt t.S t.i) + 3) = 0)) (by kernel_rfl) (by kernel_rfl) (decide_eq_false h4) ?_
        refine TR.skip ?_
        refine EX.next ?_
        refine TR.reg ?_
        refine TL.seg0 7 [] [.own 0, .nw] [0, 46, 48, 49] [(0, vP tb 0), (46, .iface 41 (vP mb 0)), (48, vI ((bodyAt t.S t.i) + 7)), (49, vI 0)] (ap [(tb, .lit (Stp.l t mb) 83 (0, 0))] [T]) [tb] [-9223372036854775808 ≤ (bodyAt t.S t.i) + 7 ∧ (bodyAt t.S t.i) + 7 ≤ 9223372036854775807] (fun _ => by kernel_rfl) mn (ac ⟨by omega, by omega⟩ an) ?_
        refine TL.callT (τ := HL) [] [] (dst := (some 50)) (f := 150) (args := #[vP mb 0, vI ((bodyAt t.S t.i) + 7), vI 0]) (A := [(tb, .lit (Stp.l t mb) 83 (0, 0))]) (Ts := [T]) (E := []) (Ob := []) [] [0] [0] [] [0] [] [(tb, .lit (Stp.l t mb) 83 (0, 0))] [T] [] (fun _ => []) (fun x => [x]) (fun _ x => MemH mb (M.set ((bodyAt t.S t.i) + 7) 0) (k + 13) x) (fun v_ => [(0, vP tb 0)]) (fun _ => by kernel_rfl) mn an (by kernel_rfl) (by kernel_rfl) (by kernel_rfl) (by kernel_rfl) (by kernel_rfl) (by kernel_rfl) (fun _ => by kernel_rfl) (set_any ((bodyAt t.S t.i) + 7) 0 hM) ?_
        rintro _ T16 hM17
        refine TL.fin (by kernel_rfl) ?_
        refine EX.next ?_
        refine TR.seq ?_
        refine TR.seq ?_
        refine TR.draw [] [] rfl (by kernel_rfl) ?_
        refine TD.vals [] (by kernel_rfl) [0, 5, 1, 6, 2, 7, 3, 8, 4, 9, 10, 11] [] [.own 0, .own 0] [0, 62] [true, true, true, true, true, true, true, true, true, true, true, true] [(0, vP tb 0), (62, .bool (decide (IntKind.i64.wrap (t.i + 1) < (t.S.nb : Int))))] [tb, tb] [] (by kernel_rfl) (by kernel_rfl) mn an 0 rfl ?_
        refine TD.fin (by kernel_rfl) (EX.np ?_)
        refine EX.next ?_
        rcases Decidable.em (IntKind.i64.wrap (t.i + 1) < (t.S.nb : Int)) with h18 | h18
        · refine TR.yes (b := decide (IntKind.i64.wrap (t.i + 1) < (t.S.nb : Int))) (by kernel_rfl) (by kernel_rfl) (decide_eq_true h18) ?_
          refine TR.seq ?_
          refine TR.draw [11] [] rfl (by kernel_rfl) ?_
          refine TD.vals [] (by kernel_rfl) [0, 4, 1, 5, 2, 6, 3, 7, 8, 9, 10] [] [.own 0, .own 0] [71, 73] [true, true, true, true, true, true, true, true, true, true, true, false] [(71, vI (IntKind.i64.wrap (t.i + 1))), (73, .iface 41 (vP mb 0))] [tb, tb] [] (by kernel_rfl) (by kernel_rfl) mn an 1 rfl ?_
          refine TD.one 11 (by kernel_rfl) 0 rfl fun a_ hF_ hcl_ => ?_
          refine OPJ.callT (τ := HL) [] [] (dst := (some 74)) (f := 150) (args := #[vP mb 0, vI 2, vI (IntKind.i64.wrap (t.i + 1))]) (A := [(tb, .lit (Stp.l t mb) 83 (0, 0))]) (Ts := [T16]) (E := []) (Ob := []) [] [0] [0] [] [] [] [(tb, .lit (Stp.l t mb) 83 (0, 0))] [T16] [] (fun _ => []) (fun x => [x]) (fun _ x => MemH mb ((M.set ((bodyAt t.S t.i) + 7) 0).set 2 (IntKind.i64.wrap (t.i + 1))) (k + 12) x) (fun v_ => []) (fun _ => by kernel_rfl) mn an (by kernel_rfl) (by kernel_rfl) (by kernel_rfl) (by kernel_rfl) (by kernel_rfl) (by kernel_rfl) (fun _ => by kernel_rfl) [] (.inl (by kernel_rfl)) (.inl (by decide)) (set_any 2 (IntKind.i64.wrap (t.i + 1)) hM17) ?_ hF_ hcl_
          rintro _ T19 hM20
          refine TD.fin (by kernel_rfl) (EX.np ?_)
          refine EX.next ?_
          refine TR.ret (A := [(tb, .lit (Stp.l t mb) 83 (0, 0))]) (Ts := [T19]) (by exact fun _ _ h => h) rfl rfl [] [] (.tuple #[]) [] [] (fun _ => by kernel_rfl) mn an [0] [] [0] [] (ap [(tb, .lit (Stp.l t mb) 83 (0, 0))] [T19]) (by kernel_rfl) (by kernel_rfl) (by kernel_rfl) ?_
          refine ⟨T19, by simp only [restB, Stp.l, if_pos h2, if_pos h3, if_neg h4, if_pos h18], ?_⟩
          have e : (restM t M) = ((M.set ((bodyAt t.S t.i) + 7) 0).set 2 (IntKind.i64.wrap (t.i + 1))) := by
            simp only [restM, restA, restC, if_pos h2, if_pos h3, if_neg h4, if_pos h18]
          rw [e]
          exact hM20.weak (by omega)
        · refine TR.no (b := decide (IntKind.i64.wrap (t.i + 1) < (t.S.nb : Int))) (by kernel_rfl) (by kernel_rfl) (decide_eq_false h18) ?_
          refine TR.skip ?_
          refine EX.next ?_
          refine TR.seq ?_
          refine TR.reg ?_
          refine TL.seg0 4 [] [.own 0] [0] [(0, vP tb 0)] (ap [(tb, .lit [.iface 41 (vP mb 0), vI t.S.players, vS t.S.bb (t.S.bo * 9) t.S.nb t.S.bc, vI t.S.box.x0, vI t.S.box.y0, vI t.S.box.x1, vI t.S.box.y1, .slice t.S.rA t.S.rn t.S.rc, .slice t.S.dA t.S.dn t.S.dc, vI t.S.fog, vI t.S.g.x, vI t.S.g.y, vI t.S.push, vI t.S.drag, vI t.S.rest, vI t.S.rounds, vI t.S.fuel, .slice t.cA t.cn t.cc, vI t.e0, vI t.e1, vI t.e2, vI t.version, vS t.ib (t.io * 3) t.ni t.ic, vI t.i, vI t.j, .bool true, vI t.f0, vI t.f1, vI t.f2, vI t.f3, .bool t.emitted] 83 (0, 0))] [T16]) [tb] [] (fun _ => by kernel_rfl) mn an ?_
          refine TL.fin (by kernel_rfl) ?_
          refine EX.next ?_
          refine TR.seq ?_
          refine TR.draw [12] [] rfl (by kernel_rfl) ?_
          refine TD.vals [] (by kernel_rfl) [0, 4, 1, 5, 2, 6, 3, 7, 10, 11] [] [.own 0, .own 0] [0, 85, 89] [true, true, true, true, true, true, true, true, false, false, true, true, false] [(0, vP tb 0), (85, .iface 41 (vP mb 0)), (89, .iface 41 (vP mb 0))] [tb, tb] [] (by kernel_rfl) (by kernel_rfl) mn an 3 rfl ?_
          refine TD.callv [] (by kernel_rfl) 8 [] [] (dst := (some 86)) (f := 28) (args := #[vP mb 0, vI 0]) (E := []) (Ob := []) [0, 86, 89] (vI ((M.set ((bodyAt t.S t.i) + 7) 0).get 0)) [(0, vP tb 0), (86, vI ((M.set ((bodyAt t.S t.i) + 7) 0).get 0)), (89, .iface 41 (vP mb 0))] (by kernel_rfl) (by kernel_rfl) (by kernel_rfl) mn an (fun X_ => (get_any 0 hM17 (sub_apX 0 rfl))) (by kernel_rfl) 2 rfl ?_
          refine TD.vals [] (by kernel_rfl) [9] [] [] [0, 87, 89] [true, true, true, true, true, true, true, true, true, true, true, true, false] [(0, vP tb 0), (87, vI (IntKind.i64.wrap (((M.set ((bodyAt t.S t.i) + 7) 0).get 0) + 1))), (89, .iface 41 (vP mb 0))] [] [] (by kernel_rfl) (by kernel_rfl) mn an 1 rfl ?_
          refine TD.one 12 (by kernel_rfl) 0 rfl fun a_ hF_ hcl_ => ?_
          refine OPJ.callT (τ := HL) [] [] (dst := (some 90)) (f := 150) (args := #[vP mb 0, vI 0, vI (IntKind.i64.wrap (((M.set ((bodyAt t.S t.i) + 7) 0).get 0) + 1))]) (A := [(tb, .lit [.iface 41 (vP mb 0), vI t.S.players, vS t.S.bb (t.S.bo * 9) t.S.nb t.S.bc, vI t.S.box.x0, vI t.S.box.y0, vI t.S.box.x1, vI t.S.box.y1, .slice t.S.rA t.S.rn t.S.rc, .slice t.S.dA t.S.dn t.S.dc, vI t.S.fog, vI t.S.g.x, vI t.S.g.y, vI t.S.push, vI t.S.drag, vI t.S.rest, vI t.S.rounds, vI t.S.fuel, .slice t.cA t.cn t.cc, vI t.e0, vI t.e1, vI t.e2, vI t.version, vS t.ib (t.io * 3) t.ni t.ic, vI t.i, vI t.j, .bool true, vI t.f0, vI t.f1, vI t.f2, vI t.f3, .bool t.emitted] 83 (0, 0))]) (Ts := [T16]) (E := []) (Ob := []) [] [0] [0] [] [0] [] [(tb, .lit [.iface 41 (vP mb 0), vI t.S.players, vS t.S.bb (t.S.bo * 9) t.S.nb t.S.bc, vI t.S.box.x0, vI t.S.box.y0, vI t.S.box.x1, vI t.S.box.y1, .slice t.S.rA t.S.rn t.S.rc, .slice t.S.dA t.S.dn t.S.dc, vI t.S.fog, vI t.S.g.x, vI t.S.g.y, vI t.S.push, vI t.S.drag, vI t.S.rest, vI t.S.rounds, vI t.S.fuel, .slice t.cA t.cn t.cc, vI t.e0, vI t.e1, vI t.e2, vI t.version, vS t.ib (t.io * 3) t.ni t.ic, vI t.i, vI t.j, .bool true, vI t.f0, vI t.f1, vI t.f2, vI t.f3, .bool t.emitted] 83 (0, 0))] [T16] [] (fun _ => []) (fun x => [x]) (fun _ x => MemH mb ((M.set ((bodyAt t.S t.i) + 7) 0).set 0 (IntKind.i64.wrap (((M.set ((bodyAt t.S t.i) + 7) 0).get 0) + 1))) (k + 12) x) (fun v_ => [(0, vP tb 0)]) (fun _ => by kernel_rfl) mn an (by kernel_rfl) (by kernel_rfl) (by kernel_rfl) (by kernel_rfl) (by kernel_rfl) (by kernel_rfl) (fun _ => by kernel_rfl) [] (.inl (by kernel_rfl)) (.inl (by decide)) (set_any 0 (IntKind.i64.wrap (((M.set ((bodyAt t.S t.i) + 7) 0).get 0) + 1)) hM17) ?_ hF_ hcl_
          rintro _ T21 hM22
          refine TD.fin (by kernel_rfl) (EX.np ?_)
          refine EX.next ?_
          refine TR.seq ?_
          refine TR.reg ?_
          refine TL.seg0 1 [] [] [0, 4] [(0, vP tb 0), (4, vI 1)] (ap [(tb, .lit [.iface 41 (vP mb 0), vI t.S.players, vS t.S.bb (t.S.bo * 9) t.S.nb t.S.bc, vI t.S.box.x0, vI t.S.box.y0, vI t.S.box.x1, vI t.S.box.y1, .slice t.S.rA t.S.rn t.S.rc, .slice t.S.dA t.S.dn t.S.dc, vI t.S.fog, vI t.S.g.x, vI t.S.g.y, vI t.S.push, vI t.S.drag, vI t.S.rest, vI t.S.rounds, vI t.S.fuel, .slice t.cA t.cn t.cc, vI t.e0, vI t.e1, vI t.e2, vI t.version, vS t.ib (t.io * 3) t.ni t.ic, vI t.i, vI t.j, .bool true, vI t.f0, vI t.f1, vI t.f2, vI t.f3, .bool t.emitted] 83 (0, 0))] [T21]) [] [] (fun _ => by kernel_rfl) mn an ?_
          refine TL.fin (by kernel_rfl) ?_
          refine EX.next ?_
          refine TR.block ?_
          refine TR.loop (A := [(tb, .lit [.iface 41 (vP mb 0), vI t.S.players, vS t.S.bb (t.S.bo * 9) t.S.nb t.S.bc, vI t.S.box.x0, vI t.S.box.y0, vI t.S.box.x1, vI t.S.box.y1, .slice t.S.rA t.S.rn t.S.rc, .slice t.S.dA t.S.dn t.S.dc, vI t.S.fog, vI t.S.g.x, vI t.S.g.y, vI t.S.push, vI t.S.drag, vI t.S.rest, vI t.S.rounds, vI t.S.fuel, .slice t.cA t.cn t.cc, vI t.e0, vI t.e1, vI t.e2, vI t.version, vS t.ib (t.io * 3) t.ni t.ic, vI t.i, vI t.j, .bool true, vI t.f0, vI t.f1, vI t.f2, vI t.f3, .bool t.emitted] 83 (0, 0))]) (Ts := [T21]) (σ := Nat × HL) (fun (x : Nat × HL) => match x with | ⟨n, T_⟩ => [(0, vP tb 0), (4, vI ((n + 1 : Nat) : Int))]) (fun (x : Nat × HL) => match x with | ⟨n, T_⟩ => ap [(tb, .lit [.iface 41 (vP mb 0), vI t.S.players, vS t.S.bb (t.S.bo * 9) t.S.nb t.S.bc, vI t.S.box.x0, vI t.S.box.y0, vI t.S.box.x1, vI t.S.box.y1, .slice t.S.rA t.S.rn t.S.rc, .slice t.S.dA t.S.dn t.S.dc, vI t.S.fog, vI t.S.g.x, vI t.S.g.y, vI t.S.push, vI t.S.drag, vI t.S.rest, vI t.S.rounds, vI t.S.fuel, .slice t.cA t.cn t.cc, vI t.e0, vI t.e1, vI t.e2, vI t.version, vS t.ib (t.io * 3) t.ni t.ic, vI t.i, vI t.j, .bool true, vI t.f0, vI t.f1, vI t.f2, vI t.f3, .bool t.emitted] 83 (0, 0))] [T_]) (fun (x : Nat × HL) => match x with | ⟨n, T_⟩ => n ≤ 10 ∧ MemH mb (zeroTo ((M.set ((bodyAt t.S t.i) + 7) 0).set 0 (IntKind.i64.wrap (((M.set ((bodyAt t.S t.i) + 7) 0).get 0) + 1))) n) (k + 10 - n) T_) (fun (x : Nat × HL) => match x with | ⟨n, T_⟩ => 10 - n) (0, T21) (⟨by omega, hM22.weak (by omega)⟩) [0, 4] (by kernel_rfl) [0] [] [0] [] (by kernel_rfl) (by kernel_rfl) (by kernel_rfl) ?_
          rintro ⟨n, T_⟩ ⟨hn_, hM_⟩
          refine TR.seq ?_
          refine TR.seq ?_
          refine TR.reg ?_
          refine TL.seg0 2 [] [] [0, 4, 92] [(0, vP tb 0), (4, vI ((n + 1 : Nat) : Int)), (92, .bool (decide (((n + 1 : Nat) : Int) ≤ 10)))] (ap [(tb, .lit [.iface 41 (vP mb 0), vI t.S.players, vS t.S.bb (t.S.bo * 9) t.S.nb t.S.bc, vI t.S.box.x0, vI t.S.box.y0, vI t.S.box.x1, vI t.S.box.y1, .slice t.S.rA t.S.rn t.S.rc, .slice t.S.dA t.S.dn t.S.dc, vI t.S.fog, vI t.S.g.x, vI t.S.g.y, vI t.S.push, vI t.S.drag, vI t.S.rest, vI t.S.rounds, vI t.S.fuel, .slice t.cA t.cn t.cc, vI t.e0, vI t.e1, vI t.e2, vI t.version, vS t.ib (t.io * 3) t.ni t.ic, vI t.i, vI t.j, .bool true, vI t.f0, vI t.f1, vI t.f2, vI t.f3, .bool t.emitted] 83 (0, 0))] [T_]) [] [] (fun _ => by kernel_rfl) mn an ?_
          refine TL.fin (by kernel_rfl) ?_
          refine EX.next ?_
          rcases Decidable.em (((n + 1 : Nat) : Int) ≤ 10) with h24 | h24
          · obtain ⟨e_, he_⟩ : ∃ e, k + 10 - n = e + 1 := ⟨k + 9 - n, by omega⟩
            have hM_2 : MemH mb (zeroTo ((M.set ((bodyAt t.S t.i) + 7) 0).set 0 (IntKind.i64.wrap (((M.set ((bodyAt t.S t.i) + 7) 0).get 0) + 1))) n) (e_ + 1) T_ := he_ ▸ hM_
            refine TR.yes (b := decide (((n + 1 : Nat) : Int) ≤ 10)) (by kernel_rfl) (by kernel_rfl) (decide_eq_true h24) ?_
            refine TR.skip ?_
            refine EX.next ?_
            refine TR.seq ?_
            refine TR.block ?_
            refine TR.reg ?_
            refine TL.seg0 5 [] [.own 0] [0, 4, 98, 99] [(0, vP tb 0), (4, vI ((n + 1 : Nat) : Int)), (98, .iface 41 (vP mb 0)), (99, vI ((n + 1 : Nat) : Int))] (ap [(tb, .lit [.iface 41 (vP mb 0), vI t.S.players, vS t.S.bb (t.S.bo * 9) t.S.nb t.S.bc, vI t.S.box.x0, vI t.S.box.y0, vI t.S.box.x1, vI t.S.box.y1, .slice t.S.rA t.S.rn t.S.rc, .slice t.S.dA t.S.dn t.S.dc, vI t.S.fog, vI t.S.g.x, vI t.S.g.y, vI t.S.push, vI t.S.drag, vI t.S.rest, vI t.S.rounds, vI t.S.fuel, .slice t.cA t.cn t.cc, vI t.e0, vI t.e1, vI t.e2, vI t.version, vS t.ib (t.io * 3) t.ni t.ic, vI t.i, vI t.j, .bool true, vI t.f0, vI t.f1, vI t.f2, vI t.f3, .bool t.emitted] 83 (0, 0))] [T_]) [tb] [] (fun _ => by kernel_rfl) mn an ?_
            refine TL.callT (τ := HL) [] [] (dst := (some 100)) (f := 150) (args := #[vP mb 0, vI ((n + 1 : Nat) : Int), vI 0]) (A := [(tb, .lit [.iface 41 (vP mb 0), vI t.S.players, vS t.S.bb (t.S.bo * 9) t.S.nb t.S.bc, vI t.S.box.x0, vI t.S.box.y0, vI t.S.box.x1, vI t.S.box.y1, .slice t.S.rA t.S.rn t.S.rc, .slice t.S.dA t.S.dn t.S.dc, vI t.S.fog, vI t.S.g.x, vI t.S.g.y, vI t.S.push, vI t.S.drag, vI t.S.rest, vI t.S.rounds, vI t.S.fuel, .slice t.cA t.cn t.cc, vI t.e0, vI t.e1, vI t.e2, vI t.version, vS t.ib (t.io * 3) t.ni t.ic, vI t.i, vI t.j, .bool true, vI t.f0, vI t.f1, vI t.f2, vI t.f3, .bool t.emitted] 83 (0, 0))]) (Ts := [T_]) (E := []) (Ob := []) [] [0] [0] [] [0, 4] [] [(tb, .lit [.iface 41 (vP mb 0), vI t.S.players, vS t.S.bb (t.S.bo * 9) t.S.nb t.S.bc, vI t.S.box.x0, vI t.S.box.y0, vI t.S.box.x1, vI t.S.box.y1, .slice t.S.rA t.S.rn t.S.rc, .slice t.S.dA t.S.dn t.S.dc, vI t.S.fog, vI t.S.g.x, vI t.S.g.y, vI t.S.push, vI t.S.drag, vI t.S.rest, vI t.S.rounds, vI t.S.fuel, .slice t.cA t.cn t.cc, vI t.e0, vI t.e1, vI t.e2, vI t.version, vS t.ib (t.io * 3) t.ni t.ic, vI t.i, vI t.j, .bool true, vI t.f0, vI t.f1, vI t.f2, vI t.f3, .bool t.emitted] 83 (0, 0))] [T_] [] (fun _ => []) (fun x => [x]) (fun _ x => MemH mb ((zeroTo ((M.set ((bodyAt t.S t.i) + 7) 0).set 0 (IntKind.i64.wrap (((M.set ((bodyAt t.S t.i) + 7) 0).get 0) + 1))) n).set ((n + 1 : Nat) : Int) 0) e_ x) (fun v_ => [(0, vP tb 0), (4, vI ((n + 1 : Nat) : Int))]) (fun _ => by kernel_rfl) mn an (by kernel_rfl) (by kernel_rfl) (by kernel_rfl) (by kernel_rfl) (by kernel_rfl) (by kernel_rfl) (fun _ => by kernel_rfl) (set_any ((n + 1 : Nat) : Int) 0 hM_2) ?_
            rintro _ T25 hM26
            refine TL.fin (by kernel_rfl) ?_
            refine EX.inn ?_
            refine EX.next ?_
            refine TR.reg ?_
            refine TL.seg0 3 [] [.nw] [0, 4] [(0, vP tb 0), (4, vI (((n + 1 : Nat) : Int) + 1))] (ap [(tb, .lit [.iface 41 (vP mb 0), vI t.S.players, vS t.S.bb (t.S.bo * 9) t.S.nb t.S.bc, vI t.S.box.x0, vI t.S.box.y0, vI t.S.box.x1, vI t.S.box.y1, .slice t.S.rA t.S.rn t.S.rc, .slice t.S.dA t.S.dn t.S.dc, vI t.S.fog, vI t.S.g.x, vI t.S.g.y, vI t.S.push, vI t.S.drag, vI t.S.rest, vI t.S.rounds, vI t.S.fuel, .slice t.cA t.cn t.cc, vI t.e0, vI t.e1, vI t.e2, vI t.version, vS t.ib (t.io * 3) t.ni t.ic, vI t.i, vI t.j, .bool true, vI t.f0, vI t.f1, vI t.f2, vI t.f3, .bool t.emitted] 83 (0, 0))] [T25]) [] [-9223372036854775808 ≤ ((n + 1 : Nat) : Int) + 1 ∧ ((n + 1 : Nat) : Int) + 1 ≤ 9223372036854775807] (fun _ => by kernel_rfl) mn (ac ⟨by omega, by omega⟩ an) ?_
            refine TL.fin (by kernel_rfl) ?_
            refine EX.meet (A := [(tb, .lit [.iface 41 (vP mb 0), vI t.S.players, vS t.S.bb (t.S.bo * 9) t.S.nb t.S.bc, vI t.S.box.x0, vI t.S.box.y0, vI t.S.box.x1, vI t.S.box.y1, .slice t.S.rA t.S.rn t.S.rc, .slice t.S.dA t.S.dn t.S.dc, vI t.S.fog, vI t.S.g.x, vI t.S.g.y, vI t.S.push, vI t.S.drag, vI t.S.rest, vI t.S.rounds, vI t.S.fuel, .slice t.cA t.cn t.cc, vI t.e0, vI t.e1, vI t.e2, vI t.version, vS t.ib (t.io * 3) t.ni t.ic, vI t.i, vI t.j, .bool true, vI t.f0, vI t.f1, vI t.f2, vI t.f3, .bool t.emitted] 83 (0, 0))]) (Ts := [T25]) (n + 1, T25) ?_ [0, 4] (by kernel_rfl) [0] [] [0] [] (by kernel_rfl) (by kernel_rfl) (by kernel_rfl)
            try dsimp only
            refine ⟨⟨by omega, hM26.cast (by rw [zeroTo]) (by omega)⟩, by omega⟩
          · refine TR.no (b := decide (((n + 1 : Nat) : Int) ≤ 10)) (by kernel_rfl) (by kernel_rfl) (decide_eq_false h24) ?_
            refine TR.exit ?_
            refine EX.thn (by simp) ?_
            refine EX.thn (by simp) ?_
            refine EX.hit ?_
            refine EX.fin (A := [(tb, .lit [.iface 41 (vP mb 0), vI t.S.players, vS t.S.bb (t.S.bo * 9) t.S.nb t.S.bc, vI t.S.box.x0, vI t.S.box.y0, vI t.S.box.x1, vI t.S.box.y1, .slice t.S.rA t.S.rn t.S.rc, .slice t.S.dA t.S.dn t.S.dc, vI t.S.fog, vI t.S.g.x, vI t.S.g.y, vI t.S.push, vI t.S.drag, vI t.S.rest, vI t.S.rounds, vI t.S.fuel, .slice t.cA t.cn t.cc, vI t.e0, vI t.e1, vI t.e2, vI t.version, vS t.ib (t.io * 3) t.ni t.ic, vI t.i, vI t.j, .bool true, vI t.f0, vI t.f1, vI t.f2, vI t.f3, .bool t.emitted] 83 (0, 0))]) (Ts := [T_]) rfl rfl [] [] (.tuple #[]) [] [] (fun _ => by kernel_rfl) mn an [0] [] [0] [] (ap [(tb, .lit [.iface 41 (vP mb 0), vI t.S.players, vS t.S.bb (t.S.bo * 9) t.S.nb t.S.bc, vI t.S.box.x0, vI t.S.box.y0, vI t.S.box.x1, vI t.S.box.y1, .slice t.S.rA t.S.rn t.S.rc, .slice t.S.dA t.S.dn t.S.dc, vI t.S.fog, vI t.S.g.x, vI t.S.g.y, vI t.S.push, vI t.S.drag, vI t.S.rest, vI t.S.rounds, vI t.S.fuel, .slice t.cA t.cn t.cc, vI t.e0, vI t.e1, vI t.e2, vI t.version, vS t.ib (t.io * 3) t.ni t.ic, vI t.i, vI t.j, .bool true, vI t.f0, vI t.f1, vI t.f2, vI t.f3, .bool t.emitted] 83 (0, 0))] [T_]) (by kernel_rfl) (by kernel_rfl) (by kernel_rfl) ?_
            refine ⟨T_, by simp only [restB, Stp.l, if_pos h2, if_pos h3, if_neg h4, if_neg h18, if_neg h24], ?_⟩
            have en : n = 10 := by omega
            have e : (restM t M) = (zeroTo ((M.set ((bodyAt t.S t.i) + 7) 0).set 0 (IntKind.i64.wrap (((M.set ((bodyAt t.S t.i) + 7) 0).get 0) + 1))) n) := by
              rw [en]
              simp only [restM, restA, restC, if_pos h2, if_pos h3, if_neg h4, if_neg h18, if_neg h24]
            rw [e]
            exact hM_.weak (by omega)
    · refine TL.seg0 11 [] [.gd false, .gd false, .gd false, .gd false, .gd false, .gd false, .gd false, .gd false, .gd false] [0, 2, 3, 33] [(0, vP tb 0), (2, vI (bodyAt t.S t.i)), (3, vI 0), (33, .bool false)] (ap [(tb, .lit (Stp.l t mb) 83 (0, 0))] [T]) [] [(decide (M.get ((bodyAt t.S t.i) + 2) = 0)) = false, (decide (M.get ((bodyAt t.S t.i) + 2) = 0)) = false, (decide (M.get ((bodyAt t.S t.i) + 2) = 0)) = false, (decide (M.get ((bodyAt t.S t.i) + 2) = 0)) = false, (decide (M.get ((bodyAt t.S t.i) + 2) = 0)) = false, (decide (M.get ((bodyAt t.S t.i) + 2) = 0)) = false, (decide (M.get ((bodyAt t.S t.i) + 2) = 0)) = false, (decide (M.get ((bodyAt t.S t.i) + 2) = 0)) = false, (decide (M.get ((bodyAt t.S t.i) + 2) = 0)) = false] (fun _ => by kernel_rfl) mn (ac (decide_eq_false h3) (ac (decide_eq_false h3) (ac (decide_eq_false h3) (ac (decide_eq_false h3) (ac (decide_eq_false h3) (ac (decide_eq_false h3) (ac (decide_eq_false h3) (ac (decide_eq_false h3) (ac (decide_eq_false h3) an))))))))) ?_
      refine TL.fin (by kernel_rfl) ?_
      refine EX.next ?_
      refine TR.no (by kernel_rfl) (by kernel_rfl) (rfl : false = false) ?_
      refine TR.skip ?_
      refine EX.next ?_
      refine TR.reg ?_
      refine TL.seg0 7 [] [.own 0, .nw] [0, 46, 48, 49] [(0, vP tb 0), (46, .iface 41 (vP mb 0)), (48, vI ((bodyAt t.S t.i) + 7)), (49, vI 0)] (ap [(tb, .lit (Stp.l t mb) 83 (0, 0))] [T]) [tb] [-9223372036854775808 ≤ (bodyAt t.S t.i) + 7 ∧ (bodyAt t.S t.i) + 7 ≤ 9223372036854775807] (fun _ => by kernel_rfl) mn (ac ⟨by omega, by omega⟩ an) ?_
      refine TL.callT (τ := HL) [] [] (dst := (some 50)) (f := 150) (args := #[vP mb 0, vI ((bodyAt t.S t.i) + 7), vI 0]) (A := [(tb, .lit (Stp.l t mb) 83 (0, 0))]) (Ts := [T]) (E := []) (Ob := []) [] [0] [0] [] [0] [] [(tb, .lit (Stp.l t mb) 83 (0, 0))] [T] [] (fun _ => []) (fun x => [x]) (fun _ x => MemH mb (M.set ((bodyAt t.S t.i) + 7) 0) (k + 13) x) (fun v_ => [(0, vP tb 0)]) (fun _ => by kernel_rfl) mn an (by kernel_rfl) (by kernel_rfl) (by kernel_rfl) (by kernel_rfl) (by kernel_rfl) (by kernel_rfl) (fun _ => by kernel_rfl) (set_any ((bodyAt t.S t.i) + 7) 0 hM) ?_
      rintro _ T27 hM28
      refine TL.fin (by kernel_rfl) ?_
      refine EX.next ?_
      refine TR.seq ?_
      refine TR.seq ?_
      refine TR.draw [] [] rfl (by kernel_rfl) ?_
      refine TD.vals [] (by kernel_rfl) [0, 5, 1, 6, 2, 7, 3, 8, 4, 9, 10, 11] [] [.own 0, .own 0] [0, 62] [true, true, true, true, true, true, true, true, true, true, true, true] [(0, vP tb 0), (62, .bool (decide (IntKind.i64.wrap (t.i + 1) < (t.S.nb : Int))))] [tb, tb] [] (by kernel_rfl) (by kernel_rfl) mn an 0 rfl ?_
      refine TD.fin (by kernel_rfl) (EX.np ?_)
      refine EX.next ?_
      rcases Decidable.em (IntKind.i64.wrap (t.i + 1) < (t.S.nb : Int)) with h29 | h29
      · refine TR.yes (b := decide (IntKind.i64.wrap (t.i + 1) < (t.S.nb : Int))) (by kernel_rfl) (by kernel_rfl) (decide_eq_true h29) ?_
        refine TR.seq ?_
        refine TR.draw [11] [] rfl (by kernel_rfl) ?_
        refine TD.vals [] (by kernel_rfl) [0, 4, 1, 5, 2, 6, 3, 7, 8, 9, 10] [] [.own 0, .own 0] [71, 73] [true, true, true, true, true, true, true, true, true, true, true, false] [(71, vI (IntKind.i64.wrap (t.i + 1))), (73, .iface 41 (vP mb 0))] [tb, tb] [] (by kernel_rfl) (by kernel_rfl) mn an 1 rfl ?_
        refine TD.one 11 (by kernel_rfl) 0 rfl fun a_ hF_ hcl_ => ?_
        refine OPJ.callT (τ := HL) [] [] (dst := (some 74)) (f := 150) (args := #[vP mb 0, vI 2, vI (IntKind.i64.wrap (t.i + 1))]) (A := [(tb, .lit (Stp.l t mb) 83 (0, 0))]) (Ts := [T27]) (E := []) (Ob := []) [] [0] [0] [] [] [] [(tb, .lit (Stp.l t mb) 83 (0, 0))] [T27] [] (fun _ => []) (fun x => [x]) (fun _ x => MemH mb ((M.set ((bodyAt t.S t.i) + 7) 0).set 2 (IntKind.i64.wrap (t.i + 1))) (k + 12) x) (fun v_ => []) (fun _ => by kernel_rfl) mn an (by kernel_rfl) (by kernel_rfl) (by kernel_rfl) (by kernel_rfl) (by kernel_rfl) (by kernel_rfl) (fun _ => by kernel_rfl) [] (.inl (by kernel_rfl)) (.inl (by decide)) (set_any 2 (IntKind.i64.wrap (t.i + 1)) hM28) ?_ hF_ hcl_
        rintro _ T30 hM31
        refine TD.fin (by kernel_rfl) (EX.np ?_)
        refine EX.next ?_
        refine TR.ret (A := [(tb, .lit (Stp.l t mb) 83 (0, 0))]) (Ts := [T30]) (by exact fun _ _ h => h) rfl rfl [] [] (.tuple #[]) [] [] (fun _ => by kernel_rfl) mn an [0] [] [0] [] (ap [(tb, .lit (Stp.l t mb) 83 (0, 0))] [T30]) (by kernel_rfl) (by kernel_rfl) (by kernel_rfl) ?_
        refine ⟨T30, by simp only [restB, Stp.l, if_pos h2, if_neg h3, if_pos h29], ?_⟩
        have e : (restM t M) = ((M.set ((bodyAt t.S t.i) + 7) 0).set 2 (IntKind.i64.wrap (t.i + 1))) := by
          simp only [restM, restA, restC, if_pos h2, if_neg h3, if_pos h29]
        rw [e]
        exact hM31.weak (by omega)
      · refine TR.no (b := decide (IntKind.i64.wrap (t.i + 1) < (t.S.nb : Int))) (by kernel_rfl) (by kernel_rfl) (decide_eq_false h29) ?_
        refine TR.skip ?_
        refine EX.next ?_
        refine TR.seq ?_
        refine TR.reg ?_
        refine TL.seg0 4 [] [.own 0] [0] [(0, vP tb 0)] (ap [(tb, .lit [.iface 41 (vP mb 0), vI t.S.players, vS t.S.bb (t.S.bo * 9) t.S.nb t.S.bc, vI t.S.box.x0, vI t.S.box.y0, vI t.S.box.x1, vI t.S.box.y1, .slice t.S.rA t.S.rn t.S.rc, .slice t.S.dA t.S.dn t.S.dc, vI t.S.fog, vI t.S.g.x, vI t.S.g.y, vI t.S.push, vI t.S.drag, vI t.S.rest, vI t.S.rounds, vI t.S.fuel, .slice t.cA t.cn t.cc, vI t.e0, vI t.e1, vI t.e2, vI t.version, vS t.ib (t.io * 3) t.ni t.ic, vI t.i, vI t.j, .bool true, vI t.f0, vI t.f1, vI t.f2, vI t.f3, .bool t.emitted] 83 (0, 0))] [T27]) [tb] [] (fun _ => by kernel_rfl) mn an ?_
        refine TL.fin (by kernel_rfl) ?_
        refine EX.next ?_
        refine TR.seq ?_
        refine TR.draw [12] [] rfl (by kernel_rfl) ?_
        refine TD.vals [] (by kernel_rfl) [0, 4, 1, 5, 2, 6, 3, 7, 10, 11] [] [.own 0, .own 0] [0, 85, 89] [true, true, true, true, true, true, true, true, false, false, true, true, false] [(0, vP tb 0), (85, .iface 41 (vP mb 0)), (89, .iface 41 (vP mb 0))] [tb, tb] [] (by kernel_rfl) (by kernel_rfl) mn an 3 rfl ?_
        refine TD.callv [] (by kernel_rfl) 8 [] [] (dst := (some 86)) (f := 28) (args := #[vP mb 0, vI 0]) (E := []) (Ob := []) [0, 86, 89] (vI ((M.set ((bodyAt t.S t.i) + 7) 0).get 0)) [(0, vP tb 0), (86, vI ((M.set ((bodyAt t.S t.i) + 7) 0).get 0)), (89, .iface 41 (vP mb 0))] (by kernel_rfl) (by kernel_rfl) (by kernel_rfl) mn an (fun X_ => (get_any 0 hM28 (sub_apX 0 rfl))) (by kernel_rfl) 2 rfl ?_
        refine TD.vals [] (by kernel_rfl) [9] [] [] [0, 87, 89] [true, true, true, true, true, true, true, true, true, true, true, true, false] [(0, vP tb 0), (87, vI (IntKind.i64.wrap (((M.set ((bodyAt t.S t.i) + 7) 0).get 0) + 1))), (89, .iface 41 (vP mb 0))] [] [] (by kernel_rfl) (by kernel_rfl) mn an 1 rfl ?_
        refine TD.one 12 (by kernel_rfl) 0 rfl fun a_ hF_ hcl_ => ?_
        refine OPJ.callT (τ := HL) [] [] (dst := (some 90)) (f := 150) (args := #[vP mb 0, vI 0, vI (IntKind.i64.wrap (((M.set ((bodyAt t.S t.i) + 7) 0).get 0) + 1))]) (A := [(tb, .lit [.iface 41 (vP mb 0), vI t.S.players, vS t.S.bb (t.S.bo * 9) t.S.nb t.S.bc, vI t.S.box.x0, vI t.S.box.y0, vI t.S.box.x1, vI t.S.box.y1, .slice t.S.rA t.S.rn t.S.rc, .slice t.S.dA t.S.dn t.S.dc, vI t.S.fog, vI t.S.g.x, vI t.S.g.y, vI t.S.push, vI t.S.drag, vI t.S.rest, vI t.S.rounds, vI t.S.fuel, .slice t.cA t.cn t.cc, vI t.e0, vI t.e1, vI t.e2, vI t.version, vS t.ib (t.io * 3) t.ni t.ic, vI t.i, vI t.j, .bool true, vI t.f0, vI t.f1, vI t.f2, vI t.f3, .bool t.emitted] 83 (0, 0))]) (Ts := [T27]) (E := []) (Ob := []) [] [0] [0] [] [0] [] [(tb, .lit [.iface 41 (vP mb 0), vI t.S.players, vS t.S.bb (t.S.bo * 9) t.S.nb t.S.bc, vI t.S.box.x0, vI t.S.box.y0, vI t.S.box.x1, vI t.S.box.y1, .slice t.S.rA t.S.rn t.S.rc, .slice t.S.dA t.S.dn t.S.dc, vI t.S.fog, vI t.S.g.x, vI t.S.g.y, vI t.S.push, vI t.S.drag, vI t.S.rest, vI t.S.rounds, vI t.S.fuel, .slice t.cA t.cn t.cc, vI t.e0, vI t.e1, vI t.e2, vI t.version, vS t.ib (t.io * 3) t.ni t.ic, vI t.i, vI t.j, .bool true, vI t.f0, vI t.f1, vI t.f2, vI t.f3, .bool t.emitted] 83 (0, 0))] [T27] [] (fun _ => []) (fun x => [x]) (fun _ x => MemH mb ((M.set ((bodyAt t.S t.i) + 7) 0).set 0 (IntKind.i64.wrap (((M.set ((bodyAt t.S t.i) + 7) 0).get 0) + 1))) (k + 12) x) (fun v_ => [(0, vP tb 0)]) (fun _ => by kernel_rfl) mn an (by kernel_rfl) (by kernel_rfl) (by kernel_rfl) (by kernel_rfl) (by kernel_rfl) (by kernel_rfl) (fun _ => by kernel_rfl) [] (.inl (by kernel_rfl)) (.inl (by decide)) (set_any 0 (IntKind.i64.wrap (((M.set ((bodyAt t.S t.i) + 7) 0).get 0) + 1)) hM28) ?_ hF_ hcl_
        rintro _ T32 hM33
        refine TD.fin (by kernel_rfl) (EX.np ?_)
        refine EX.next ?_
        refine TR.seq ?_
        refine TR.reg ?_
        refine TL.seg0 1 [] [] [0, 4] [(0, vP tb 0), (4, vI 1)] (ap [(tb, .lit [.iface 41 (vP mb 0), vI t.S.players, vS t.S.bb (t.S.bo * 9) t.S.nb t.S.bc, vI t.S.box.x0, vI t.S.box.y0, vI t.S.box.x1, vI t.S.box.y1, .slice t.S.rA t.S.rn t.S.rc, .slice t.S.dA t.S.dn t.S.dc, vI t.S.fog, vI t.S.g.x, vI t.S.g.y, vI t.S.push, vI t.S.drag, vI t.S.rest, vI t.S.rounds, vI t.S.fuel, .slice t.cA t.cn t.cc, vI t.e0, vI t.e1, vI t.e2, vI t.version, vS t.ib (t.io * 3) t.ni t.ic, vI t.i, vI t.j, .bool true, vI t.f0, vI t.f1, vI t.f2, vI t.f3, .bool t.emitted] 83 (0, 0))] [T32]) [] [] (fun _ => by kernel_rfl) mn an ?_
        refine TL.fin (by kernel_rfl) ?_
        refine EX.next ?_
        refine TR.block ?_
        refine TR.loop (A := [(tb, .lit [.iface 41 (vP mb 0), vI t.S.players, vS t.S.bb (t.S.bo * 9) t.S.nb t.S.bc, vI t.S.box.x0, vI t.S.box.y0, vI t.S.box.x1, vI t.S.box.y1, .slice t.S.rA t.S.rn t.S.rc, .slice t.S.dA t.S.dn t.S.dc, vI t.S.fog, vI t.S.g.x, vI t.S.g.y, vI t.S.push, vI t.S.drag, vI t.S.rest, vI t.S.rounds, vI t.S.fuel, .slice t.cA t.cn t.cc, vI t.e0, vI t.e1, vI t.e2, vI t.version, vS t.ib (t.io * 3) t.ni t.ic, vI t.i, vI t.j, .bool true, vI t.f0, vI t.f1, vI t.f2, vI t.f3, .bool t.emitted] 83 (0, 0))]) (Ts := [T32]) (σ := Nat × HL) (fun (x : Nat × HL) => match x with | ⟨n, T_⟩ => [(0, vP tb 0), (4, vI ((n + 1 : Nat) : Int))]) (fun (x : Nat × HL) => match x with | ⟨n, T_⟩ => ap [(tb, .lit [.iface 41 (vP mb 0), vI t.S.players, vS t.S.bb (t.S.bo * 9) t.S.nb t.S.bc, vI t.S.box.x0, vI t.S.box.y0, vI t.S.box.x1, vI t.S.box.y1, .slice t.S.rA t.S.rn t.S.rc, .slice t.S.dA t.S.dn t.S.dc, vI t.S.fog, vI t.S.g.x, vI t.S.g.y, vI t.S.push, vI t.S.drag, vI t.S.rest, vI t.S.rounds, vI t.S.fuel, .slice t.cA t.cn t.cc, vI t.e0, vI t.e1, vI t.e2, vI t.version, vS t.ib (t.io * 3) t.ni t.ic, vI t.i, vI t.j, .bool true, vI t.f0, vI t.f1, vI t.f2, vI t.f3, .bool t.emitted] 83 (0, 0))] [T_]) (fun (x : Nat × HL) => match x with | ⟨n, T_⟩ => n ≤ 10 ∧ MemH mb (zeroTo ((M.set ((bodyAt t.S t.i) + 7) 0).set 0 (IntKind.i64.wrap (((M.set ((bodyAt t.S t.i) + 7) 0).get 0) + 1))) n) (k + 10 - n) T_) (fun (x : Nat × HL) => match x with | ⟨n, T_⟩ => 10 - n) (0, T32) (⟨by omega, hM33.weak (by omega)⟩) [0, 4] (by kernel_rfl) [0] [] [0] [] (by kernel_rfl) (by kernel_rfl) (by kernel_rfl) ?_
        rintro ⟨n, T_⟩ ⟨hn_, hM_⟩
        refine TR.seq ?_
        refine TR.seq ?_
        refine TR.reg ?_
        refine TL.seg0 2 [] [] [0, 4, 92] [(0, vP tb 0), (4, vI ((n + 1 : Nat) : Int)), (92, .bool (decide (((n + 1 : Nat) : Int) ≤ 10)))] (ap [(tb, .lit [.iface 41 (vP mb 0), vI t.S.players, vS t.S.bb (t.S.bo * 9) t.S.nb t.S.bc, vI t.S.box.x0, vI t.S.box.y0, vI t.S.box.x1, vI t.S.box.y1, .slice t.S.rA t.S.rn t.S.rc, .slice t.S.dA t.S.dn t.S.dc, vI t.S.fog, vI t.S.g.x, vI t.S.g.y, vI t.S.push, vI t.S.drag, vI t.S.rest, vI t.S.rounds, vI t.S.fuel, .slice t.cA t.cn t.cc, vI t.e0, vI t.e1, vI t.e2, vI t.version, vS t.ib (t.io * 3) t.ni t.ic, vI t.i, vI t.j, .bool true, vI t.f0, vI t.f1, vI t.f2, vI t.f3, .bool t.emitted] 83 (0, 0))] [T_]) [] [] (fun _ => by kernel_rfl) mn an ?_
        refine TL.fin (by kernel_rfl) ?_
        refine EX.next ?_
        rcases Decidable.em (((n + 1 : Nat) : Int) ≤ 10) with h35 | h35
        · obtain ⟨e_, he_⟩ : ∃ e, k + 10 - n = e + 1 := ⟨k + 9 - n, by omega⟩
          have hM_2 : MemH mb (zeroTo ((M.set ((bodyAt t.S t.i) + 7) 0).set 0 (IntKind.i64.wrap (((M.set ((bodyAt t.S t.i) + 7) 0).get 0) + 1))) n) (e_ + 1) T_ := he_ ▸ hM_
          refine TR.yes (b := decide (((n + 1 : Nat) : Int) ≤ 10)) (by kernel_rfl) (by kernel_rfl) (decide_eq_true h35) ?_
          refine TR.skip ?_
          refine EX.next ?_
          refine TR.seq ?_
          refine TR.block ?_
          refine TR.reg ?_
          refine TL.seg0 5 [] [.own 0] [0, 4, 98, 99] [(0, vP tb 0), (4, vI ((n + 1 : Nat) : Int)), (98, .iface 41 (vP mb 0)), (99, vI ((n + 1 : Nat) : Int))] (ap [(tb, .lit [.iface 41 (vP mb 0), vI t.S.players, vS t.S.bb (t.S.bo * 9) t.S.nb t.S.bc, vI t.S.box.x0, vI t.S.box.y0, vI t.S.box.x1, vI t.S.box.y1, .slice t.S.rA t.S.rn t.S.rc, .slice t.S.dA t.S.dn t.S.dc, vI t.S.fog, vI t.S.g.x, vI t.S.g.y, vI t.S.push, vI t.S.drag, vI t.S.rest, vI t.S.rounds, vI t.S.fuel, .slice t.cA t.cn t.cc, vI t.e0, vI t.e1, vI t.e2, vI t.version, vS t.ib (t.io * 3) t.ni t.ic, vI t.i, vI t.j, .bool true, vI t.f0, vI t.f1, vI t.f2, vI t.f3, .bool t.emitted] 83 (0, 0))] [T_]) [tb] [] (fun _ => by kernel_rfl) mn an ?_
          refine TL.callT (τ := HL) [] [] (dst := (some 100)) (f := 150) (args := #[vP mb 0, vI ((n + 1 : Nat) : Int), vI 0]) (A := [(tb, .lit [.iface 41 (vP mb 0), vI t.S.players, vS t.S.bb (t.S.bo * 9) t.S.nb t.S.bc, vI t.S.box.x0, vI t.S.box.y0, vI t.S.box.x1, vI t.S.box.y1, .slice t.S.rA t.S.rn t.S.rc, .slice t.S.dA t.S.dn t.S.dc, vI t.S.fog, vI t.S.g.x, vI t.S.g.y, vI t.S.push, vI t.S.drag, vI t.S.rest, vI t.S.rounds, vI t.S.fuel, .slice t.cA t.cn t.cc, vI t.e0, vI t.e1, vI t.e2, vI t.version, vS t.ib (t.io * 3) t.ni t.ic, vI t.i, vI t.j, .bool true, vI t.f0, vI t.f1, vI t.f2, vI t.f3, .bool t.emitted] 83 (0, 0))]) (Ts := [T_]) (E := []) (Ob := []) [] [0] [0] [] [0, 4] [] [(tb, .lit [.iface 41 (vP mb 0), vI t.S.players, vS t.S.bb (t.S.bo * 9) t.S.nb t.S.bc, vI t.S.box.x0, vI t.S.box.y0, vI t.S.box.x1, vI t.S.box.y1, .slice t.S.rA t.S.rn t.S.rc, .slice t.S.dA t.S.dn t.S.dc, vI t.S.fog, vI t.S.g.x, vI t.S.g.y, vI t.S.push, vI t.S.drag, vI t.S.rest, vI t.S.rounds, vI t.S.fuel, .slice t.cA t.cn t.cc, vI t.e0, vI t.e1, vI t.e2, vI t.version, vS t.ib (t.io * 3) t.ni t.ic, vI t.i, vI t.j, .bool true, vI t.f0, vI t.f1, vI t.f2, vI t.f3, .bool t.emitted] 83 (0, 0))] [T_] [] (fun _ => []) (fun x => [x]) (fun _ x => MemH mb ((zeroTo ((M.set ((bodyAt t.S t.i) + 7) 0).set 0 (IntKind.i64.wrap (((M.set ((bodyAt t.S t.i) + 7) 0).get 0) + 1))) n).set ((n + 1 : Nat) : Int) 0) e_ x) (fun v_ => [(0, vP tb 0), (4, vI ((n + 1 : Nat) : Int))]) (fun _ => by kernel_rfl) mn an (by kernel_rfl) (by kernel_rfl) (by kernel_rfl) (by kernel_rfl) (by kernel_rfl) (by kernel_rfl) (fun _ => by kernel_rfl) (set_any ((n + 1 : Nat) : Int) 0 hM_2) ?_
          rintro _ T36 hM37
          refine TL.fin (by kernel_rfl) ?_
          refine EX.inn ?_
          refine EX.next ?_
          refine TR.reg ?_
          refine TL.seg0 3 [] [.nw] [0, 4] [(0, vP tb 0), (4, vI (((n + 1 : Nat) : Int) + 1))] (ap [(tb, .lit [.iface 41 (vP mb 0), vI t.S.players, vS t.S.bb (t.S.bo * 9) t.S.nb t.S.bc, vI t.S.box.x0, vI t.S.box.y0, vI t.S.box.x1, vI t.S.box.y1, .slice t.S.rA t.S.rn t.S.rc, .slice t.S.dA t.S.dn t.S.dc, vI t.S.fog, vI t.S.g.x, vI t.S.g.y, vI t.S.push, vI t.S.drag, vI t.S.rest, vI t.S.rounds, vI t.S.fuel, .slice t.cA t.cn t.cc, vI t.e0, vI t.e1, vI t.e2, vI t.version, vS t.ib (t.io * 3) t.ni t.ic, vI t.i, vI t.j, .bool true, vI t.f0, vI t.f1, vI t.f2, vI t.f3, .bool t.emitted] 83 (0, 0))] [T36]) [] [-9223372036854775808 ≤ ((n + 1 : Nat) : Int) + 1 ∧ ((n + 1 : Nat) : Int) + 1 ≤ 9223372036854775807] (fun _ => by kernel_rfl) mn (ac ⟨by omega, by omega⟩ an) ?_
          refine TL.fin (by kernel_rfl) ?_
          refine EX.meet (A := [(tb, .lit [.iface 41 (vP mb 0), vI t.S.players, vS t.S.bb (t.S.bo * 9) t.S.nb t.S.bc, vI t.S.box.x0, vI t.S.box.y0, vI t.S.box.x1, vI t.S.box.y1, .slice t.S.rA t.S.rn t.S.rc, .slice t.S.dA t.S.dn t.S.dc, vI t.S.fog, vI t.S.g.x, vI t.S.g.y, vI t.S.push, vI t.S.drag, vI t.S.rest, vI t.S.rounds, vI t.S.fuel, .slice t.cA t.cn t.cc, vI t.e0, vI t.e1, vI t.e2, vI t.version, vS t.ib (t.io * 3) t.ni t.ic, vI t.i, vI t.j, .bool true, vI t.f0, vI t.f1, vI t.f2, vI t.f3, .bool t.emitted] 83 (0, 0))]) (Ts := [T36]) (n + 1, T36) ?_ [0, 4] (by kernel_rfl) [0] [] [0] [] (by kernel_rfl) (by kernel_rfl) (by kernel_rfl)
          try dsimp only
          refine ⟨⟨by omega, hM37.cast (by rw [zeroTo]) (by omega)⟩, by omega⟩
        · refine TR.no (b := decide (((n + 1 : Nat) : Int) ≤ 10)) (by kernel_rfl) (by kernel_rfl) (decide_eq_false h35) ?_
          refine TR.exit ?_
          refine EX.thn (by simp) ?_
          refine EX.thn (by simp) ?_
          refine EX.hit ?_
          refine EX.fin (A := [(tb, .lit [.iface 41 (vP mb 0), vI t.S.players, vS t.S.bb (t.S.bo * 9) t.S.nb t.S.bc, vI t.S.box.x0, vI t.S.box.y0, vI t.S.box.x1, vI t.S.box.y1, .slice t.S.rA t.S.rn t.S.rc, .slice t.S.dA t.S.dn t.S.dc, vI t.S.fog, vI t.S.g.x, vI t.S.g.y, vI t.S.push, vI t.S.drag, vI t.S.rest, vI t.S.rounds, vI t.S.fuel, .slice t.cA t.cn t.cc, vI t.e0, vI t.e1, vI t.e2, vI t.version, vS t.ib (t.io * 3) t.ni t.ic, vI t.i, vI t.j, .bool true, vI t.f0, vI t.f1, vI t.f2, vI t.f3, .bool t.emitted] 83 (0, 0))]) (Ts := [T_]) rfl rfl [] [] (.tuple #[]) [] [] (fun _ => by kernel_rfl) mn an [0] [] [0] [] (ap [(tb, .lit [.iface 41 (vP mb 0), vI t.S.players, vS t.S.bb (t.S.bo * 9) t.S.nb t.S.bc, vI t.S.box.x0, vI t.S.box.y0, vI t.S.box.x1, vI t.S.box.y1, .slice t.S.rA t.S.rn t.S.rc, .slice t.S.dA t.S.dn t.S.dc, vI t.S.fog, vI t.S.g.x, vI t.S.g.y, vI t.S.push, vI t.S.drag, vI t.S.rest, vI t.S.rounds, vI t.S.fuel, .slice t.cA t.cn t.cc, vI t.e0, vI t.e1, vI t.e2, vI t.version, vS t.ib (t.io * 3) t.ni t.ic, vI t.i, vI t.j, .bool true, vI t.f0, vI t.f1, vI t.f2, vI t.f3, .bool t.emitted] 83 (0, 0))] [T_]) (by kernel_rfl) (by kernel_rfl) (by kernel_rfl) ?_
          refine ⟨T_, by simp only [restB, Stp.l, if_pos h2, if_neg h3, if_neg h29, if_neg h35], ?_⟩
          have en : n = 10 := by omega
          have e : (restM t M) = (zeroTo ((M.set ((bodyAt t.S t.i) + 7) 0).set 0 (IntKind.i64.wrap (((M.set ((bodyAt t.S t.i) + 7) 0).get 0) + 1))) n) := by
            rw [en]
            simp only [restM, restA, restC, if_pos h2, if_neg h3, if_neg h29, if_neg h35]
          rw [e]
          exact hM_.weak (by omega)
  · refine TR.no (b := decide (bodyAt t.S t.i ≥ 0)) (by kernel_rfl) (by kernel_rfl) (decide_eq_false h2) ?_
    refine TR.skip ?_
    refine EX.next ?_
    refine TR.seq ?_
    refine TR.seq ?_
    refine TR.draw [] [] rfl (by kernel_rfl) ?_
    refine TD.vals [] (by kernel_rfl) [0, 5, 1, 6, 2, 7, 3, 8, 4, 9, 10, 11] [] [.own 0, .own 0] [0, 62] [true, true, true, true, true, true, true, true, true, true, true, true] [(0, vP tb 0), (62, .bool (decide (IntKind.i64.wrap (t.i + 1) < (t.S.nb : Int))))] [tb, tb] [] (by kernel_rfl) (by kernel_rfl) mn an 0 rfl ?_
    refine TD.fin (by kernel_rfl) (EX.np ?_)
    refine EX.next ?_
    rcases Decidable.em (IntKind.i64.wrap (t.i + 1) < (t.S.nb : Int)) with h38 | h38
    · refine TR.yes (b := decide (IntKind.i64.wrap (t.i + 1) < (t.S.nb : Int))) (by kernel_rfl) (by kernel_rfl) (decide_eq_true h38) ?_
      refine TR.seq ?_
      refine TR.draw [11] [] rfl (by kernel_rfl) ?_
      refine TD.vals [] (by kernel_rfl) [0, 4, 1, 5, 2, 6, 3, 7, 8, 9, 10] [] [.own 0, .own 0] [71, 73] [true, true, true, true, true, true, true, true, true, true, true, false] [(71, vI (IntKind.i64.wrap (t.i + 1))), (73, .iface 41 (vP mb 0))] [tb, tb] [] (by kernel_rfl) (by kernel_rfl) mn an 1 rfl ?_
      refine TD.one 11 (by kernel_rfl) 0 rfl fun a_ hF_ hcl_ => ?_
      refine OPJ.callT (τ := HL) [] [] (dst := (some 74)) (f := 150) (args := #[vP mb 0, vI 2, vI (IntKind.i64.wrap (t.i + 1))]) (A := [(tb, .lit (Stp.l t mb) 83 (0, 0))]) (Ts := [T]) (E := []) (Ob := []) [] [0] [0] [] [] [] [(tb, .lit (Stp.l t mb) 83 (0, 0))] [T] [] (fun _ => []) (fun x => [x]) (fun _ x => MemH mb (M.set 2 (IntKind.i64.wrap (t.i + 1))) (k + 13) x) (fun v_ => []) (fun _ => by kernel_rfl) mn an (by kernel_rfl) (by kernel_rfl) (by kernel_rfl) (by kernel_rfl) (by kernel_rfl) (by kernel_rfl) (fun _ => by kernel_rfl) [] (.inl (by kernel_rfl)) (.inl (by decide)) (set_any 2 (IntKind.i64.wrap (t.i + 1)) hM) ?_ hF_ hcl_
      rintro _ T39 hM40
      refine TD.fin (by kernel_rfl) (EX.np ?_)
      refine EX.next ?_
      refine TR.ret (A := [(tb, .lit (Stp.l t mb) 83 (0, 0))]) (Ts := [T39]) (by exact fun _ _ h => h) rfl rfl [] [] (.tuple #[]) [] [] (fun _ => by kernel_rfl) mn an [0] [] [0] [] (ap [(tb, .lit (Stp.l t mb) 83 (0, 0))] [T39]) (by kernel_rfl) (by kernel_rfl) (by kernel_rfl) ?_
      refine ⟨T39, by simp only [restB, Stp.l, if_neg h2, if_pos h38], ?_⟩
      have e : (restM t M) = (M.set 2 (IntKind.i64.wrap (t.i + 1))) := by
        simp only [restM, restA, restC, if_neg h2, if_pos h38]
      rw [e]
      exact hM40.weak (by omega)
    · refine TR.no (b := decide (IntKind.i64.wrap (t.i + 1) < (t.S.nb : Int))) (by kernel_rfl) (by kernel_rfl) (decide_eq_false h38) ?_
      refine TR.skip ?_
      refine EX.next ?_
      refine TR.seq ?_
      refine TR.reg ?_
      refine TL.seg0 4 [] [.own 0] [0] [(0, vP tb 0)] (ap [(tb, .lit [.iface 41 (vP mb 0), vI t.S.players, vS t.S.bb (t.S.bo * 9) t.S.nb t.S.bc, vI t.S.box.x0, vI t.S.box.y0, vI t.S.box.x1, vI t.S.box.y1, .slice t.S.rA t.S.rn t.S.rc, .slice t.S.dA t.S.dn t.S.dc, vI t.S.fog, vI t.S.g.x, vI t.S.g.y, vI t.S.push, vI t.S.drag, vI t.S.rest, vI t.S.rounds, vI t.S.fuel, .slice t.cA t.cn t.cc, vI t.e0, vI t.e1, vI t.e2, vI t.version, vS t.ib (t.io * 3) t.ni t.ic, vI t.i, vI t.j, .bool true, vI t.f0, vI t.f1, vI t.f2, vI t.f3, .bool t.emitted] 83 (0, 0))] [T]) [tb] [] (fun _ => by kernel_rfl) mn an ?_
      refine TL.fin (by kernel_rfl) ?_
      refine EX.next ?_
      refine TR.seq ?_
      refine TR.draw [12] [] rfl (by kernel_rfl) ?_
      refine TD.vals [] (by kernel_rfl) [0, 4, 1, 5, 2, 6, 3, 7, 10, 11] [] [.own 0, .own 0] [0, 85, 89] [true, true, true, true, true, true, true, true, false, false, true, true, false] [(0, vP tb 0), (85, .iface 41 (vP mb 0)), (89, .iface 41 (vP mb 0))] [tb, tb] [] (by kernel_rfl) (by kernel_rfl) mn an 3 rfl ?_
      refine TD.callv [] (by kernel_rfl) 8 [] [] (dst := (some 86)) (f := 28) (args := #[vP mb 0, vI 0]) (E := []) (Ob := []) [0, 86, 89] (vI (M.get 0)) [(0, vP tb 0), (86, vI (M.get 0)), (89, .iface 41 (vP mb 0))] (by kernel_rfl) (by kernel_rfl) (by kernel_rfl) mn an (fun X_ => (get_any 0 hM (sub_apX 0 rfl))) (by kernel_rfl) 2 rfl ?_
      refine TD.vals [] (by kernel_rfl) [9] [] [] [0, 87, 89] [true, true, true, true, true, true, true, true, true, true, true, true, false] [(0, vP tb 0), (87, vI (IntKind.i64.wrap ((M.get 0) + 1))), (89, .iface 41 (vP mb 0))] [] [] (by kernel_rfl) (by kernel_rfl) mn an 1 rfl ?_
      refine TD.one 12 (by kernel_rfl) 0 rfl fun a_ hF_ hcl_ => ?_
      refine OPJ.callT (τ := HL) [] [] (dst := (some 90)) (f := 150) (args := #[vP mb 0, vI 0, vI (IntKind.i64.wrap ((M.get 0) + 1))]) (A := [(tb, .lit [.iface 41 (vP mb 0), vI t.S.players, vS t.S.bb (t.S.bo * 9) t.S.nb t.S.bc, vI t.S.box.x0, vI t.S.box.y0, vI t.S.box.x1, vI t.S.box.y1, .slice t.S.rA t.S.rn t.S.rc, .slice t.S.dA t.S.dn t.S.dc, vI t.S.fog, vI t.S.g.x, vI t.S.g.y, vI t.S.push, vI t.S.drag, vI t.S.rest, vI t.S.rounds, vI t.S.fuel, .slice t.cA t.cn t.cc, vI t.e0, vI t.e1, vI t.e2, vI t.version, vS t.ib (t.io * 3) t.ni t.ic, vI t.i, vI t.j, .bool true, vI t.f0, vI t.f1, vI t.f2, vI t.f3, .bool t.emitted] 83 (0, 0))]) (Ts := [T]) (E := []) (Ob := []) [] [0] [0] [] [0] [] [(tb, .lit [.iface 41 (vP mb 0), vI t.S.players, vS t.S.bb (t.S.bo * 9) t.S.nb t.S.bc, vI t.S.box.x0, vI t.S.box.y0, vI t.S.box.x1, vI t.S.box.y1, .slice t.S.rA t.S.rn t.S.rc, .slice t.S.dA t.S.dn t.S.dc, vI t.S.fog, vI t.S.g.x, vI t.S.g.y, vI t.S.push, vI t.S.drag, vI t.S.rest, vI t.S.rounds, vI t.S.fuel, .slice t.cA t.cn t.cc, vI t.e0, vI t.e1, vI t.e2, vI t.version, vS t.ib (t.io * 3) t.ni t.ic, vI t.i, vI t.j, .bool true, vI t.f0, vI t.f1, vI t.f2, vI t.f3, .bool t.emitted] 83 (0, 0))] [T] [] (fun _ => []) (fun x => [x]) (fun _ x => MemH mb (M.set 0 (IntKind.i64.wrap ((M.get 0) + 1))) (k + 13) x) (fun v_ => [(0, vP tb 0)]) (fun _ => by kernel_rfl) mn an (by kernel_rfl) (by kernel_rfl) (by kernel_rfl) (by kernel_rfl) (by kernel_rfl) (by kernel_rfl) (fun _ => by kernel_rfl) [] (.inl (by kernel_rfl)) (.inl (by decide)) (set_any 0 (IntKind.i64.wrap ((M.get 0) + 1)) hM) ?_ hF_ hcl_
      rintro _ T41 hM42
      refine TD.fin (by kernel_rfl) (EX.np ?_)
      refine EX.next ?_
      refine TR.seq ?_
      refine TR.reg ?_
      refine TL.seg0 1 [] [] [0, 4] [(0, vP tb 0), (4, vI 1)] (ap [(tb, .lit [.iface 41 (vP mb 0), vI t.S.players, vS t.S.bb (t.S.bo * 9) t.S.nb t.S.bc, vI t.S.box.x0, vI t.S.box.y0, vI t.S.box.x1, vI t.S.box.y1, .slice t.S.rA t.S.rn t.S.rc, .slice t.S.dA t.S.dn t.S.dc, vI t.S.fog, vI t.S.g.x, vI t.S.g.y, vI t.S.push, vI t.S.drag, vI t.S.rest, vI t.S.rounds, vI t.S.fuel, .slice t.cA t.cn t.cc, vI t.e0, vI t.e1, vI t.e2, vI t.version, vS t.ib (t.io * 3) t.ni t.ic, vI t.i, vI t.j, .bool true, vI t.f0, vI t.f1, vI t.f2, vI t.f3, .bool t.emitted] 83 (0, 0))] [T41]) [] [] (fun _ => by kernel_rfl) mn an ?_
      refine TL.fin (by kernel_rfl) ?_
      refine EX.next ?_
      refine TR.block ?_
      refine TR.loop (A := [(tb, .lit [.iface 41 (vP mb 0), vI t.S.players, vS t.S.bb (t.S.bo * 9) t.S.nb t.S.bc, vI t.S.box.x0, vI t.S.box.y0, vI t.S.box.x1, vI t.S.box.y1, .slice t.S.rA t.S.rn t.S.rc, .slice t.S.dA t.S.dn t.S.dc, vI t.S.fog, vI t.S.g.x, vI t.S.g.y, vI t.S.push, vI t.S.drag, vI t.S.rest, vI t.S.rounds, vI t.S.fuel, .slice t.cA t.cn t.cc, vI t.e0, vI t.e1, vI t.e2, vI t.version, vS t.ib (t.io * 3) t.ni t.ic, vI t.i, vI t.j, .bool true, vI t.f0, vI t.f1, vI t.f2, vI t.f3, .bool t.emitted] 83 (0, 0))]) (Ts := [T41]) (σ := Nat × HL) (fun (x : Nat × HL) => match x with | ⟨n, T_⟩ => [(0, vP tb 0), (4, vI ((n + 1 : Nat) : Int))]) (fun (x : Nat × HL) => match x with | ⟨n, T_⟩ => ap [(tb, .lit [.iface 41 (vP mb 0), vI t.S.players, vS t.S.bb (t.S.bo * 9) t.S.nb t.S.bc, vI t.S.box.x0, vI t.S.box.y0, vI t.S.box.x1, vI t.S.box.y1, .slice t.S.rA t.S.rn t.S.rc, .slice t.S.dA t.S.dn t.S.dc, vI t.S.fog, vI t.S.g.x, vI t.S.g.y, vI t.S.push, vI t.S.drag, vI t.S.rest, vI t.S.rounds, vI t.S.fuel, .slice t.cA t.cn t.cc, vI t.e0, vI t.e1, vI t.e2, vI t.version, vS t.ib (t.io * 3) t.ni t.ic, vI t.i, vI t.j, .bool true, vI t.f0, vI t.f1, vI t.f2, vI t.f3, .bool t.emitted] 83 (0, 0))] [T_]) (fun (x : Nat × HL) => match x with | ⟨n, T_⟩ => n ≤ 10 ∧ MemH mb (zeroTo (M.set 0 (IntKind.i64.wrap ((M.get 0) + 1))) n) (k + 10 - n) T_) (fun (x : Nat × HL) => match x with | ⟨n, T_⟩ => 10 - n) (0, T41) (⟨by omega, hM42.weak (by omega)⟩) [0, 4] (by kernel_rfl) [0] [] [0] [] (by kernel_rfl) (by kernel_rfl) (by kernel_rfl) ?_
      rintro ⟨n, T_⟩ ⟨hn_, hM_⟩
      refine TR.seq ?_
      refine TR.seq ?_
      refine TR.reg ?_
      refine TL.seg0 2 [] [] [0, 4, 92] [(0, vP tb 0), (4, vI ((n + 1 : Nat) : Int)), (92, .bool (decide (((n + 1 : Nat) : Int) ≤ 10)))] (ap [(tb, .lit [.iface 41 (vP mb 0), vI t.S.players, vS t.S.bb (t.S.bo * 9) t.S.nb t.S.bc, vI t.S.box.x0, vI t.S.box.y0, vI t.S.box.x1, vI t.S.box.y1, .slice t.S.rA t.S.rn t.S.rc, .slice t.S.dA t.S.dn t.S.dc, vI t.S.fog, vI t.S.g.x, vI t.S.g.y, vI t.S.push, vI t.S.drag, vI t.S.rest, vI t.S.rounds, vI t.S.fuel, .slice t.cA t.cn t.cc, vI t.e0, vI t.e1, vI t.e2, vI t.version, vS t.ib (t.io * 3) t.ni t.ic, vI t.i, vI t.j, .bool true, vI t.f0, vI t.f1, vI t.f2, vI t.f3, .bool t.emitted] 83 (0, 0))] [T_]) [] [] (fun _ => by kernel_rfl) mn an ?_
      refine TL.fin (by kernel_rfl) ?_
      refine EX.next ?_
      rcases Decidable.em (((n + 1 : Nat) : Int) ≤ 10) with h44 | h44
      · obtain ⟨e_, he_⟩ : ∃ e, k + 10 - n = e + 1 := ⟨k + 9 - n, by omega⟩
        have hM_2 : MemH mb (zeroTo (M.set 0 (IntKind.i64.wrap ((M.get 0) + 1))) n) (e_ + 1) T_ := he_ ▸ hM_
        refine TR.yes (b := decide (((n + 1 : Nat) : Int) ≤ 10)) (by kernel_rfl) (by kernel_rfl) (decide_eq_true h44) ?_
        refine TR.skip ?_
        refine EX.next ?_
        refine TR.seq ?_
        refine TR.block ?_
        refine TR.reg ?_
        refine TL.seg0 5 [] [.own 0] [0, 4, 98, 99] [(0, vP tb 0), (4, vI ((n + 1 : Nat) : Int)), (98, .iface 41 (vP mb 0)), (99, vI ((n + 1 : Nat) : Int))] (ap [(tb, .lit [.iface 41 (vP mb 0), vI t.S.players, vS t.S.bb (t.S.bo * 9) t.S.nb t.S.bc, vI t.S.box.x0, vI t.S.box.y0, vI t.S.box.x1, vI t.S.box.y1, .slice t.S.rA t.S.rn t.S.rc, .slice t.S.dA t.S.dn t.S.dc, vI t.S.fog, vI t.S.g.x, vI t.S.g.y, vI t.S.push, vI t.S.drag, vI t.S.rest, vI t.S.rounds, vI t.S.fuel, .slice t.cA t.cn t.cc, vI t.e0, vI t.e1, vI t.e2, vI t.version, vS t.ib (t.io * 3) t.ni t.ic, vI t.i, vI t.j, .bool true, vI t.f0, vI t.f1, vI t.f2, vI t.f3, .bool t.emitted] 83 (0, 0))] [T_]) [tb] [] (fun _ => by kernel_rfl) mn an ?_
        refine TL.callT (τ := HL) [] [] (dst := (some 100)) (f := 150) (args := #[vP mb 0, vI ((n + 1 : Nat) : Int), vI 0]) (A := [(tb, .lit [.iface 41 (vP mb 0), vI t.S.players, vS t.S.bb (t.S.bo * 9) t.S.nb t.S.bc, vI t.S.box.x0, vI t.S.box.y0, vI t.S.box.x1, vI t.S.box.y1, .slice t.S.rA t.S.rn t.S.rc, .slice t.S.dA t.S.dn t.S.dc, vI t.S.fog, vI t.S.g.x, vI t.S.g.y, vI t.S.push, vI t.S.drag, vI t.S.rest, vI t.S.rounds, vI t.S.fuel, .slice t.cA t.cn t.cc, vI t.e0, vI t.e1, vI t.e2, vI t.version, vS t.ib (t.io * 3) t.ni t.ic, vI t.i, vI t.j, .bool true, vI t.f0, vI t.f1, vI t.f2, vI t.f3, .bool t.emitted] 83 (0, 0))]) (Ts := [T_]) (E := []) (Ob := []) [] [0] [0] [] [0, 4] [] [(tb, .lit [.iface 41 (vP mb 0), vI t.S.players, vS t.S.bb (t.S.bo * 9) t.S.nb t.S.bc, vI t.S.box.x0, vI t.S.box.y0, vI t.S.box.x1, vI t.S.box.y1, .slice t.S.rA t.S.rn t.S.rc, .slice t.S.dA t.S.dn t.S.dc, vI t.S.fog, vI t.S.g.x, vI t.S.g.y, vI t.S.push, vI t.S.drag, vI t.S.rest, vI t.S.rounds, vI t.S.fuel, .slice t.cA t.cn t.cc, vI t.e0, vI t.e1, vI t.e2, vI t.version, vS t.ib (t.io * 3) t.ni t.ic, vI t.i, vI t.j, .bool true, vI t.f0, vI t.f1, vI t.f2, vI t.f3, .bool t.emitted] 83 (0, 0))] [T_] [] (fun _ => []) (fun x => [x]) (fun _ x => MemH mb ((zeroTo (M.set 0 (IntKind.i64.wrap ((M.get 0) + 1))) n).set ((n + 1 : Nat) : Int) 0) e_ x) (fun v_ => [(0, vP tb 0), (4, vI ((n + 1 : Nat) : Int))]) (fun _ => by kernel_rfl) mn an (by kernel_rfl) (by kernel_rfl) (by kernel_rfl) (by kernel_rfl) (by kernel_rfl) (by kernel_rfl) (fun _ => by kernel_rfl) (set_any ((n + 1 : Nat) : Int) 0 hM_2) ?_
        rintro _ T45 hM46
        refine TL.fin (by kernel_rfl) ?_
        refine EX.inn ?_
        refine EX.next ?_
        refine TR.reg ?_
        refine TL.seg0 3 [] [.nw] [0, 4] [(0, vP tb 0), (4, vI (((n + 1 : Nat) : Int) + 1))] (ap [(tb, .lit [.iface 41 (vP mb 0), vI t.S.players, vS t.S.bb (t.S.bo * 9) t.S.nb t.S.bc, vI t.S.box.x0, vI t.S.box.y0, vI t.S.box.x1, vI t.S.box.y1, .slice t.S.rA t.S.rn t.S.rc, .slice t.S.dA t.S.dn t.S.dc, vI t.S.fog, vI t.S.g.x, vI t.S.g.y, vI t.S.push, vI t.S.drag, vI t.S.rest, vI t.S.rounds, vI t.S.fuel, .slice t.cA t.cn t.cc, vI t.e0, vI t.e1, vI t.e2, vI t.version, vS t.ib (t.io * 3) t.ni t.ic, vI t.i, vI t.j, .bool true, vI t.f0, vI t.f1, vI t.f2, vI t.f3, .bool t.emitted] 83 (0, 0))] [T45]) [] [-9223372036854775808 ≤ ((n + 1 : Nat) : Int) + 1 ∧ ((n + 1 : Nat) : Int) + 1 ≤ 9223372036854775807] (fun _ => by kernel_rfl) mn (ac ⟨by omega, by omega⟩ an) ?_
        refine TL.fin (by kernel_rfl) ?_
        refine EX.meet (A := [(tb, .lit [.iface 41 (vP mb 0), vI t.S.players, vS t.S.bb (t.S.bo * 9) t.S.nb t.S.bc, vI t.S.box.x0, vI t.S.box.y0, vI t.S.box.x1, vI t.S.box.y1, .slice t.S.rA t.S.rn t.S.rc, .slice t.S.dA t.S.dn t.S.dc, vI t.S.fog, vI t.S.g.x, vI t.S.g.y, vI t.S.push, vI t.S.drag, vI t.S.rest, vI t.S.rounds, vI t.S.fuel, .slice t.cA t.cn t.cc, vI t.e0, vI t.e1, vI t.e2, vI t.version, vS t.ib (t.io * 3) t.ni t.ic, vI t.i, vI t.j, .bool true, vI t.f0, vI t.f1, vI t.f2, vI t.f3, .bool t.emitted] 83 (0, 0))]) (Ts := [T45]) (n + 1, T45) ?_ [0, 4] (by kernel_rfl) [0] [] [0] [] (by kernel_rfl) (by kernel_rfl) (by kernel_rfl)
        try dsimp only
        refine ⟨⟨by omega, hM46.cast (by rw [zeroTo]) (by omega)⟩, by omega⟩
      · refine TR.no (b := decide (((n + 1 : Nat) : Int) ≤ 10)) (by kernel_rfl) (by kernel_rfl) (decide_eq_false h44) ?_
        refine TR.exit ?_
        refine EX.thn (by simp) ?_
        refine EX.thn (by simp) ?_
        refine EX.hit ?_
        refine EX.fin (A := [(tb, .lit [.iface 41 (vP mb 0), vI t.S.players, vS t.S.bb (t.S.bo * 9) t.S.nb t.S.bc, vI t.S.box.x0, vI t.S.box.y0, vI t.S.box.x1, vI t.S.box.y1, .slice t.S.rA t.S.rn t.S.rc, .slice t.S.dA t.S.dn t.S.dc, vI t.S.fog, vI t.S.g.x, vI t.S.g.y, vI t.S.push, vI t.S.drag, vI t.S.rest, vI t.S.rounds, vI t.S.fuel, .slice t.cA t.cn t.cc, vI t.e0, vI t.e1, vI t.e2, vI t.version, vS t.ib (t.io * 3) t.ni t.ic, vI t.i, vI t.j, .bool true, vI t.f0, vI t.f1, vI t.f2, vI t.f3, .bool t.emitted] 83 (0, 0))]) (Ts := [T_]) rfl rfl [] [] (.tuple #[]) [] [] (fun _ => by kernel_rfl) mn an [0] [] [0] [] (ap [(tb, .lit [.iface 41 (vP mb 0), vI t.S.players, vS t.S.bb (t.S.bo * 9) t.S.nb t.S.bc, vI t.S.box.x0, vI t.S.box.y0, vI t.S.box.x1, vI t.S.box.y1, .slice t.S.rA t.S.rn t.S.rc, .slice t.S.dA t.S.dn t.S.dc, vI t.S.fog, vI t.S.g.x, vI t.S.g.y, vI t.S.push, vI t.S.drag, vI t.S.rest, vI t.S.rounds, vI t.S.fuel, .slice t.cA t.cn t.cc, vI t.e0, vI t.e1, vI t.e2, vI t.version, vS t.ib (t.io * 3) t.ni t.ic, vI t.i, vI t.j, .bool true, vI t.f0, vI t.f1, vI t.f2, vI t.f3, .bool t.emitted] 83 (0, 0))] [T_]) (by kernel_rfl) (by kernel_rfl) (by kernel_rfl) ?_
        refine ⟨T_, by simp only [restB, Stp.l, if_neg h2, if_neg h38, if_neg h44], ?_⟩
        have en : n = 10 := by omega
        have e : (restM t M) = (zeroTo (M.set 0 (IntKind.i64.wrap ((M.get 0) + 1))) n) := by
          rw [en]
          simp only [restM, restA, restC, if_neg h2, if_neg h38, if_neg h44]
        rw [e]
        exact hM_.weak (by omega)
end Go.Proofs.YtpkincoclhpcgaaGreatDoor
