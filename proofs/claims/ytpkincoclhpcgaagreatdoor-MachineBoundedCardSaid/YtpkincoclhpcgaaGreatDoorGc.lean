/- Contracts, printed by a program. -/
import Derived.Test.YtpkincoclhpcgaaGreatDoorGb
namespace Go.Proofs.YtpkincoclhpcgaaGreatDoor
set_option linter.unusedSimpArgs false
set_option linter.unusedVariables false
open Go.RowKit
def vadd (a b : V2) : V2 := ⟨w64 (a.x + b.x), w64 (a.y + b.y)⟩
def vsub (a b : V2) : V2 := ⟨w64 (a.x - b.x), w64 (a.y - b.y)⟩
def vneg (a : V2) : V2 := vsub ⟨0, 0⟩ a
def vscale (a : V2) (f : Int) : V2 := ⟨mulI a.x f, mulI a.y f⟩
def vmuldiv (a : V2) (n d : Int) : V2 := ⟨mulDivI a.x n d, mulDivI a.y n d⟩
def floorI (n : Int) : Int := n.fdiv 1024
def vdot (a b : V2) : Int := floorI (w64 (w64 (a.x * b.x) + w64 (a.y * b.y)))
def vlen (a : V2) : Int := isqrtI (w64 (w64 (a.x * a.x) + w64 (a.y * a.y)))
def vzero (a : V2) : Prop := a.x = 0 ∧ a.y = 0
instance (a : V2) : Decidable (vzero a) := inferInstanceAs (Decidable (_ ∧ _))
def vnorm (a : V2) : V2 := if vzero a then a else vmuldiv a 1024 (vlen a)

set_option maxHeartbeats 400000 in
set_option maxRecDepth 100000 in
theorem adds_any (m n : Int) (F : HL) : Sp Tryz.prog 40 #[vI m, vI n] [] F (fun u H' => u = vI (w64 (m + n)) ∧ H' = []) := by
  refine Sp.of_body Tryz.func40 rfl rfl rfl [(0, vI m), (1, vI n)] rfl ?_
  intro w0
  refine TR.convH (ap [] []) rfl ?_
  refine TR.seq ?_
  refine TR.reg ?_
  refine TL.seg0 1 [] [] [0, 1] [(0, vI m), (1, vI n)] (ap [] []) [] [] (fun _ => by kernel_rfl) mn an ?_
  refine TL.fin (by kernel_rfl) ?_
  refine EX.next ?_
  refine TR.seq ?_
  refine TR.reg ?_
  refine TL.seg0 4 [] [] [4] [(4, vI (IntKind.i64.wrap (m + n)))] (ap [] []) [] [] (fun _ => by kernel_rfl) mn an ?_
  refine TL.fin (by kernel_rfl) ?_
  refine EX.next ?_
  refine TR.ret (A := []) (Ts := []) (by exact fun _ _ h => h) rfl rfl [] [] (vI (IntKind.i64.wrap (m + n))) [] [] (fun _ => by kernel_rfl) mn an [] [] [] [] [] (by kernel_rfl) (by kernel_rfl) (by kernel_rfl) ?_
  exact ⟨rfl, rfl⟩

set_option maxHeartbeats 400000 in
set_option maxRecDepth 100000 in
theorem subs_any (m n : Int) (F : HL) : Sp Tryz.prog 95 #[vI m, vI n] [] F (fun u H' => u = vI (w64 (m - n)) ∧ H' = []) := by
  refine Sp.of_body Tryz.func95 rfl rfl rfl [(0, vI m), (1, vI n)] rfl ?_
  intro w0
  refine TR.convH (ap [] []) rfl ?_
  refine TR.seq ?_
  refine TR.reg ?_
  refine TL.seg0 1 [] [] [0, 1] [(0, vI m), (1, vI n)] (ap [] []) [] [] (fun _ => by kernel_rfl) mn an ?_
  refine TL.fin (by kernel_rfl) ?_
  refine EX.next ?_
  refine TR.seq ?_
  refine TR.reg ?_
  refine TL.seg0 4 [] [] [4] [(4, vI (IntKind.i64.wrap (m - n)))] (ap [] []) [] [] (fun _ => by kernel_rfl) mn an ?_
  refine TL.fin (by kernel_rfl) ?_
  refine EX.next ?_
  refine TR.ret (A := []) (Ts := []) (by exact fun _ _ h => h) rfl rfl [] [] (vI (IntKind.i64.wrap (m - n))) [] [] (fun _ => by kernel_rfl) mn an [] [] [] [] [] (by kernel_rfl) (by kernel_rfl) (by kernel_rfl) ?_
  exact ⟨rfl, rfl⟩

set_option maxHeartbeats 400000 in
set_option maxRecDepth 100000 in
theorem mulDiv1_any (m n d : Int) (b : Nat) (F : HL) (hb : (b, .lit [vI d] 3 (0, 0)) ∈ F) : Sp Tryz.prog 82 #[vI m, vI n, vP b 0] [] F (fun u H' => u = vI (mulDivI m n d) ∧ H' = []) := by
  refine Sp.of_body Tryz.func82 rfl rfl rfl [(0, vI m), (1, vI n), (2, vP b 0)] rfl ?_
  intro w0
  refine TR.convH (ap [] []) rfl ?_
  refine TR.seq ?_
  refine TR.reg ?_
  refine TL.seg0 1 [] [] [0, 1, 2] [(0, vI m), (1, vI n), (2, vP b 0)] (ap [] []) [] [] (fun _ => by kernel_rfl) mn an ?_
  refine TL.fin (by kernel_rfl) ?_
  refine EX.next ?_
  refine TR.seq ?_
  refine TR.reg ?_
  refine TL.seg0 3 [(b, .lit [vI d] 3 (0, 0))] [.ro 0] [6, 7, 8] [(6, vI m), (7, vI n), (8, vI d)] (ap [] []) [b] [] (fun _ => by kernel_rfl) (mc hb mn) an ?_
  refine TL.callp (dst := (some 9)) (f := 74) (args := #[vI m, vI n, vI d]) (H1 := (ap [] [])) (E := []) (Ob := []) [] [] [9] (vI (mulDivI m n d)) [(9, vI (mulDivI m n d))] (fun _ => by kernel_rfl) mn an (mulDiv_any m n d  _) (by kernel_rfl) ?_
  refine TL.seg0 1 [] [] [5] [(5, vI (mulDivI m n d))] (ap [] []) [] [] (fun _ => by kernel_rfl) mn an ?_
  refine TL.fin (by kernel_rfl) ?_
  refine EX.next ?_
  refine TR.ret (A := []) (Ts := []) (by exact fun _ _ h => h) rfl rfl [] [] (vI (mulDivI m n d)) [] [] (fun _ => by kernel_rfl) mn an [] [] [] [] [] (by kernel_rfl) (by kernel_rfl) (by kernel_rfl) ?_
  exact ⟨rfl, rfl⟩

set_option maxHeartbeats 400000 in
set_option maxRecDepth 100000 in
theorem comb_add (a b : V2)  (F : HL) : Sp Tryz.prog 39 #[.agg #[vI a.x, vI a.y], .agg #[vI b.x, vI b.y], .func (.func 40) #[] #[]] [] F (fun u H' => u = .agg #[vI ((vadd a b).x), vI ((vadd a b).y)] ∧ H' = []) := by
  refine Sp.of_body Tryz.func39 rfl rfl rfl [(0, .agg #[vI a.x, vI a.y]), (1, .agg #[vI b.x, vI b.y]), (2, .func (.func 40) #[] #[])] rfl ?_
  intro w0
  refine TR.convH (ap [] []) rfl ?_
  refine TR.seq ?_
  refine TR.reg ?_
  refine TL.seg 3 [] [] [2, 3, 4, 6] (fun n1 => [(2, .func (.func 40) #[] #[]), (3, vP (n1 + 0) 0), (4, vP (n1 + 1) 0), (6, vP (n1 + 2) 0)]) (fun n1 => (ap [((n1 + 2), .lit [vI 0, vI 0] 30 (0, 0)), ((n1 + 1), .lit [vI b.x, vI b.y] 30 (0, 0)), ((n1 + 0), .lit [vI a.x, vI a.y] 30 (0, 0))] [])) (fun n1 => []) (fun n1 => []) (fun _ => by kernel_rfl) mn (fun n1 => an) ?_
  intro n1
  refine TL.fin (by kernel_rfl) ?_
  refine EX.next ?_
  refine TR.seq ?_
  refine TR.draw [13] [] rfl (by kernel_rfl) ?_
  let z1 : Nat × Value := (6, vP (n1 + 2) 0)
  let z2 : Nat × Value := (13, .func (.func 40) #[] #[])
  refine TD.vals [] (by kernel_rfl) [0, 1, 3, 6, 7, 9, 2, 4, 8, 10] [] [.own 2, .own 1, .own 2, .own 1] [6, 7, 9, 11, 13, 15, 17] [true, true, true, true, true, false, true, true, true, true, true, false, false, false] [z1, (7, .func (.func 40) #[] #[]), (9, vI a.x), (11, vI b.x), z2, (15, vI a.y), (17, vI b.y)] [(n1 + 1), (n1 + 0), (n1 + 1), (n1 + 0)] [] (by kernel_rfl) (by kernel_rfl) mn an 4 rfl ?_
  let z3 : Nat × Value := (12, vI (w64 (a.x + b.x)))
  refine TD.callv [] (by kernel_rfl) 5 [] [] (dst := (some 12)) (f := 40) (args := #[vI a.x, vI b.x]) (E := []) (Ob := []) [6, 12, 13, 15, 17] (vI (w64 (a.x + b.x))) [z1, z3, z2, (15, vI a.y), (17, vI b.y)] (by kernel_rfl) (by kernel_rfl) (by kernel_rfl) mn an (fun X_ => (adds_any _ _ _)) (by kernel_rfl) 3 rfl ?_
  refine TD.callv [] (by kernel_rfl) 11 [] [] (dst := (some 18)) (f := 40) (args := #[vI a.y, vI b.y]) (E := []) (Ob := []) [6, 12, 18] (vI (w64 (a.y + b.y))) [z1, z3, (18, vI (w64 (a.y + b.y)))] (by kernel_rfl) (by kernel_rfl) (by kernel_rfl) mn an (fun X_ => (adds_any _ _ _)) (by kernel_rfl) 2 rfl ?_
  refine TD.vals [] (by kernel_rfl) [12] [] [] [6, 19] [true, true, true, true, true, true, true, true, true, true, true, true, true, false] [z1, (19, .agg #[vI (w64 (a.x + b.x)), vI (w64 (a.y + b.y))])] [] [] (by kernel_rfl) (by kernel_rfl) mn an 1 rfl ?_
  refine TD.one 13 (by kernel_rfl) 0 rfl fun a_ hF_ hcl_ => ?_
  let z4 : Nat × Blk := ((n1 + 2), .lit [vI (w64 (a.x + b.x)), vI (w64 (a.y + b.y))] 30 (0, 0))
  let z5 : Nat × Blk := ((n1 + 1), .lit [vI b.x, vI b.y] 30 (0, 0))
  let z6 : Nat × Blk := ((n1 + 0), .lit [vI a.x, vI a.y] 30 (0, 0))
  refine OPJ.ev [] [.own 0, .own 0] [6] (fun _ => [z1]) (fun _ => (ap [z4, z5, z6] [])) (fun _ => [(n1 + 2), (n1 + 2)]) (fun _ => []) (fun _ => by kernel_rfl) mn (fun _ => an) (.inl ⟨[], fun _ => by kernel_rfl⟩) (.inl (by decide)) (fun _ => ?_) hF_ hcl_
  refine TD.fin (by kernel_rfl) (EX.np ?_)
  refine EX.next ?_
  refine TR.ret (A := [z4, z5, z6]) (Ts := []) (by exact fun _ _ h => h) rfl rfl [] [.own 0, .own 0] (.agg #[vI (w64 (a.x + b.x)), vI (w64 (a.y + b.y))]) [(n1 + 2), (n1 + 2)] [] (fun _ => by kernel_rfl) mn an [] [0, 1, 2] [] [] [] (by kernel_rfl) (by kernel_rfl) (by kernel_rfl) ?_
  exact ⟨rfl, rfl⟩

set_option maxHeartbeats 400000 in
set_option maxRecDepth 100000 in
theorem comb_sub (a b : V2)  (F : HL) : Sp Tryz.prog 39 #[.agg #[vI a.x, vI a.y], .agg #[vI b.x, vI b.y], .func (.func 95) #[] #[]] [] F (fun u H' => u = .agg #[vI ((vsub a b).x), vI ((vsub a b).y)] ∧ H' = []) := by
  refine Sp.of_body Tryz.func39 rfl rfl rfl [(0, .agg #[vI a.x, vI a.y]), (1, .agg #[vI b.x, vI b.y]), (2, .func (.func 95) #[] #[])] rfl ?_
  intro w0
  refine TR.convH (ap [] []) rfl ?_
  refine TR.seq ?_
  refine TR.reg ?_
  refine TL.seg 3 [] [] [2, 3, 4, 6] (fun n1 => [(2, .func (.func 95) #[] #[]), (3, vP (n1 + 0) 0), (4, vP (n1 + 1) 0), (6, vP (n1 + 2) 0)]) (fun n1 => (ap [((n1 + 2), .lit [vI 0, vI 0] 30 (0, 0)), ((n1 + 1), .lit [vI b.x, vI b.y] 30 (0, 0)), ((n1 + 0), .lit [vI a.x, vI a.y] 30 (0, 0))] [])) (fun n1 => []) (fun n1 => []) (fun _ => by kernel_rfl) mn (fun n1 => an) ?_
  intro n1
  refine TL.fin (by kernel_rfl) ?_
  refine EX.next ?_
  refine TR.seq ?_
  refine TR.draw [13] [] rfl (by kernel_rfl) ?_
  let z1 : Nat × Value := (6, vP (n1 + 2) 0)
  let z2 : Nat × Value := (13, .func (.func 95) #[] #[])
  refine TD.vals [] (by kernel_rfl) [0, 1, 3, 6, 7, 9, 2, 4, 8, 10] [] [.own 2, .own 1, .own 2, .own 1] [6, 7, 9, 11, 13, 15, 17] [true, true, true, true, true, false, true, true, true, true, true, false, false, false] [z1, (7, .func (.func 95) #[] #[]), (9, vI a.x), (11, vI b.x), z2, (15, vI a.y), (17, vI b.y)] [(n1 + 1), (n1 + 0), (n1 + 1), (n1 + 0)] [] (by kernel_rfl) (by kernel_rfl) mn an 4 rfl ?_
  let z3 : Nat × Value := (12, vI (w64 (a.x - b.x)))
  refine TD.callv [] (by kernel_rfl) 5 [] [] (dst := (some 12)) (f := 95) (args := #[vI a.x, vI b.x]) (E := []) (Ob := []) [6, 12, 13, 15, 17] (vI (w64 (a.x - b.x))) [z1, z3, z2, (15, vI a.y), (17, vI b.y)] (by kernel_rfl) (by kernel_rfl) (by kernel_rfl) mn an (fun X_ => (subs_any _ _ _)) (by kernel_rfl) 3 rfl ?_
  refine TD.callv [] (by kernel_rfl) 11 [] [] (dst := (some 18)) (f := 95) (args := #[vI a.y, vI b.y]) (E := []) (Ob := []) [6, 12, 18] (vI (w64 (a.y - b.y))) [z1, z3, (18, vI (w64 (a.y - b.y)))] (by kernel_rfl) (by kernel_rfl) (by kernel_rfl) mn an (fun X_ => (subs_any _ _ _)) (by kernel_rfl) 2 rfl ?_
  refine TD.vals [] (by kernel_rfl) [12] [] [] [6, 19] [true, true, true, true, true, true, true, true, true, true, true, true, true, false] [z1, (19, .agg #[vI (w64 (a.x - b.x)), vI (w64 (a.y - b.y))])] [] [] (by kernel_rfl) (by kernel_rfl) mn an 1 rfl ?_
  refine TD.one 13 (by kernel_rfl) 0 rfl fun a_ hF_ hcl_ => ?_
  let z4 : Nat × Blk := ((n1 + 2), .lit [vI (w64 (a.x - b.x)), vI (w64 (a.y - b.y))] 30 (0, 0))
  let z5 : Nat × Blk := ((n1 + 1), .lit [vI b.x, vI b.y] 30 (0, 0))
  let z6 : Nat × Blk := ((n1 + 0), .lit [vI a.x, vI a.y] 30 (0, 0))
  refine OPJ.ev [] [.own 0, .own 0] [6] (fun _ => [z1]) (fun _ => (ap [z4, z5, z6] [])) (fun _ => [(n1 + 2), (n1 + 2)]) (fun _ => []) (fun _ => by kernel_rfl) mn (fun _ => an) (.inl ⟨[], fun _ => by kernel_rfl⟩) (.inl (by decide)) (fun _ => ?_) hF_ hcl_
  refine TD.fin (by kernel_rfl) (EX.np ?_)
  refine EX.next ?_
  refine TR.ret (A := [z4, z5, z6]) (Ts := []) (by exact fun _ _ h => h) rfl rfl [] [.own 0, .own 0] (.agg #[vI (w64 (a.x - b.x)), vI (w64 (a.y - b.y))]) [(n1 + 2), (n1 + 2)] [] (fun _ => by kernel_rfl) mn an [] [0, 1, 2] [] [] [] (by kernel_rfl) (by kernel_rfl) (by kernel_rfl) ?_
  exact ⟨rfl, rfl⟩

set_option maxHeartbeats 400000 in
set_option maxRecDepth 100000 in
theorem comb_mul (a b : V2)  (F : HL) : Sp Tryz.prog 39 #[.agg #[vI a.x, vI a.y], .agg #[vI b.x, vI b.y], .func (.func 42) #[] #[]] [] F (fun u H' => u = .agg #[vI ((⟨mulI a.x b.x, mulI a.y b.y⟩ : V2).x), vI ((⟨mulI a.x b.x, mulI a.y b.y⟩ : V2).y)] ∧ H' = []) := by
  refine Sp.of_body Tryz.func39 rfl rfl rfl [(0, .agg #[vI a.x, vI a.y]), (1, .agg #[vI b.x, vI b.y]), (2, .func (.func 42) #[] #[])] rfl ?_
  intro w0
  refine TR.convH (ap [] []) rfl ?_
  refine TR.seq ?_
  refine TR.reg ?_
  refine TL.seg 3 [] [] [2, 3, 4, 6] (fun n1 => [(2, .func (.func 42) #[] #[]), (3, vP (n1 + 0) 0), (4, vP (n1 + 1) 0), (6, vP (n1 + 2) 0)]) (fun n1 => (ap [((n1 + 2), .lit [vI 0, vI 0] 30 (0, 0)), ((n1 + 1), .lit [vI b.x, vI b.y] 30 (0, 0)), ((n1 + 0), .lit [vI a.x, vI a.y] 30 (0, 0))] [])) (fun n1 => []) (fun n1 => []) (fun _ => by kernel_rfl) mn (fun n1 => an) ?_
  intro n1
  refine TL.fin (by kernel_rfl) ?_
  refine EX.next ?_
  refine TR.seq ?_
  refine TR.draw [13] [] rfl (by kernel_rfl) ?_
  let z1 : Nat × Value := (6, vP (n1 + 2) 0)
  let z2 : Nat × Value := (13, .func (.func 42) #[] #[])
  refine TD.vals [] (by kernel_rfl) [0, 1, 3, 6, 7, 9, 2, 4, 8, 10] [] [.own 2, .own 1, .own 2, .own 1] [6, 7, 9, 11, 13, 15, 17] [true, true, true, true, true, false, true, true, true, true, true, false, false, false] [z1, (7, .func (.func 42) #[] #[]), (9, vI a.x), (11, vI b.x), z2, (15, vI a.y), (17, vI b.y)] [(n1 + 1), (n1 + 0), (n1 + 1), (n1 + 0)] [] (by kernel_rfl) (by kernel_rfl) mn an 4 rfl ?_
  let z3 : Nat × Value := (12, vI (mulI a.x b.x))
  refine TD.callv [] (by kernel_rfl) 5 [] [] (dst := (some 12)) (f := 42) (args := #[vI a.x, vI b.x]) (E := []) (Ob := []) [6, 12, 13, 15, 17] (vI (mulI a.x b.x)) [z1, z3, z2, (15, vI a.y), (17, vI b.y)] (by kernel_rfl) (by kernel_rfl) (by kernel_rfl) mn an (fun X_ => (mul_any a.x b.x  _)) (by kernel_rfl) 3 rfl ?_
  refine TD.callv [] (by kernel_rfl) 11 [] [] (dst := (some 18)) (f := 42) (args := #[vI a.y, vI b.y]) (E := []) (Ob := []) [6, 12, 18] (vI (mulI a.y b.y)) [z1, z3, (18, vI (mulI a.y b.y))] (by kernel_rfl) (by kernel_rfl) (by kernel_rfl) mn an (fun X_ => (mul_any a.y b.y  _)) (by kernel_rfl) 2 rfl ?_
  refine TD.vals [] (by kernel_rfl) [12] [] [] [6, 19] [true, true, true, true, true, true, true, true, true, true, true, true, true, false] [z1, (19, .agg #[vI (mulI a.x b.x), vI (mulI a.y b.y)])] [] [] (by kernel_rfl) (by kernel_rfl) mn an 1 rfl ?_
  refine TD.one 13 (by kernel_rfl) 0 rfl fun a_ hF_ hcl_ => ?_
  let z4 : Nat × Blk := ((n1 + 2), .lit [vI (mulI a.x b.x), vI (mulI a.y b.y)] 30 (0, 0))
  let z5 : Nat × Blk := ((n1 + 1), .lit [vI b.x, vI b.y] 30 (0, 0))
  let z6 : Nat × Blk := ((n1 + 0), .lit [vI a.x, vI a.y] 30 (0, 0))
  refine OPJ.ev [] [.own 0, .own 0] [6] (fun _ => [z1]) (fun _ => (ap [z4, z5, z6] [])) (fun _ => [(n1 + 2), (n1 + 2)]) (fun _ => []) (fun _ => by kernel_rfl) mn (fun _ => an) (.inl ⟨[], fun _ => by kernel_rfl⟩) (.inl (by decide)) (fun _ => ?_) hF_ hcl_
  refine TD.fin (by kernel_rfl) (EX.np ?_)
  refine EX.next ?_
  refine TR.ret (A := [z4, z5, z6]) (Ts := []) (by exact fun _ _ h => h) rfl rfl [] [.own 0, .own 0] (.agg #[vI (mulI a.x b.x), vI (mulI a.y b.y)]) [(n1 + 2), (n1 + 2)] [] (fun _ => by kernel_rfl) mn an [] [0, 1, 2] [] [] [] (by kernel_rfl) (by kernel_rfl) (by kernel_rfl) ?_
  exact ⟨rfl, rfl⟩

set_option maxHeartbeats 400000 in
set_option maxRecDepth 100000 in
theorem comb_muldiv (a b : V2) (d : Int) (q : Nat) (F : HL) (hq : (q, .lit [vI d] 3 (0, 0)) ∈ F) : Sp Tryz.prog 39 #[.agg #[vI a.x, vI a.y], .agg #[vI b.x, vI b.y], .func (.func 82) #[] #[vP q 0]] [] F (fun u H' => u = .agg #[vI ((⟨mulDivI a.x b.x d, mulDivI a.y b.y d⟩ : V2).x), vI ((⟨mulDivI a.x b.x d, mulDivI a.y b.y d⟩ : V2).y)] ∧ H' = []) := by
  refine Sp.of_body Tryz.func39 rfl rfl rfl [(0, .agg #[vI a.x, vI a.y]), (1, .agg #[vI b.x, vI b.y]), (2, .func (.func 82) #[] #[vP q 0])] rfl ?_
  intro w0
  refine TR.convH (ap [] []) rfl ?_
  refine TR.seq ?_
  refine TR.reg ?_
  refine TL.seg 3 [] [] [2, 3, 4, 6] (fun n1 => [(2, .func (.func 82) #[] #[vP q 0]), (3, vP (n1 + 0) 0), (4, vP (n1 + 1) 0), (6, vP (n1 + 2) 0)]) (fun n1 => (ap [((n1 + 2), .lit [vI 0, vI 0] 30 (0, 0)), ((n1 + 1), .lit [vI b.x, vI b.y] 30 (0, 0)), ((n1 + 0), .lit [vI a.x, vI a.y] 30 (0, 0))] [])) (fun n1 => []) (fun n1 => []) (fun _ => by kernel_rfl) mn (fun n1 => an) ?_
  intro n1
  refine TL.fin (by kernel_rfl) ?_
  refine EX.next ?_
  refine TR.seq ?_
  refine TR.draw [13] [] rfl (by kernel_rfl) ?_
  let z1 : Nat × Value := (6, vP (n1 + 2) 0)
  let z2 : Nat × Value := (13, .func (.func 82) #[] #[vP q 0])
  refine TD.vals [] (by kernel_rfl) [0, 1, 3, 6, 7, 9, 2, 4, 8, 10] [] [.own 2, .own 1, .own 2, .own 1] [6, 7, 9, 11, 13, 15, 17] [true, true, true, true, true, false, true, true, true, true, true, false, false, false] [z1, (7, .func (.func 82) #[] #[vP q 0]), (9, vI a.x), (11, vI b.x), z2, (15, vI a.y), (17, vI b.y)] [(n1 + 1), (n1 + 0), (n1 + 1), (n1 + 0)] [] (by kernel_rfl) (by kernel_rfl) mn an 4 rfl ?_
  let z3 : Nat × Value := (12, vI (mulDivI a.x b.x d))
  refine TD.callv [] (by kernel_rfl) 5 [] [] (dst := (some 12)) (f := 82) (args := #[vI a.x, vI b.x, vP q 0]) (E := []) (Ob := []) [6, 12, 13, 15, 17] (vI (mulDivI a.x b.x d)) [z1, z3, z2, (15, vI a.y), (17, vI b.y)] (by kernel_rfl) (by kernel_rfl) (by kernel_rfl) mn an (fun X_ => (mulDiv1_any _ _ _ _ _ (by first | assumption | simp [*]))) (by kernel_rfl) 3 rfl ?_
  refine TD.callv [] (by kernel_rfl) 11 [] [] (dst := (some 18)) (f := 82) (args := #[vI a.y, vI b.y, vP q 0]) (E := []) (Ob := []) [6, 12, 18] (vI (mulDivI a.y b.y d)) [z1, z3, (18, vI (mulDivI a.y b.y d))] (by kernel_rfl) (by kernel_rfl) (by kernel_rfl) mn an (fun X_ => (mulDiv1_any _ _ _ _ _ (by first | assumption | simp [*]))) (by kernel_rfl) 2 rfl ?_
  refine TD.vals [] (by kernel_rfl) [12] [] [] [6, 19] [true, true, true, true, true, true, true, true, true, true, true, true, true, false] [z1, (19, .agg #[vI (mulDivI a.x b.x d), vI (mulDivI a.y b.y d)])] [] [] (by kernel_rfl) (by kernel_rfl) mn an 1 rfl ?_
  refine TD.one 13 (by kernel_rfl) 0 rfl fun a_ hF_ hcl_ => ?_
  let z4 : Nat × Blk := ((n1 + 2), .lit [vI (mulDivI a.x b.x d), vI (mulDivI a.y b.y d)] 30 (0, 0))
  let z5 : Nat × Blk := ((n1 + 1), .lit [vI b.x, vI b.y] 30 (0, 0))
  let z6 : Nat × Blk := ((n1 + 0), .lit [vI a.x, vI a.y] 30 (0, 0))
  refine OPJ.ev [] [.own 0, .own 0] [6] (fun _ => [z1]) (fun _ => (ap [z4, z5, z6] [])) (fun _ => [(n1 + 2), (n1 + 2)]) (fun _ => []) (fun _ => by kernel_rfl) mn (fun _ => an) (.inl ⟨[], fun _ => by kernel_rfl⟩) (.inl (by decide)) (fun _ => ?_) hF_ hcl_
  refine TD.fin (by kernel_rfl) (EX.np ?_)
  refine EX.next ?_
  refine TR.ret (A := [z4, z5, z6]) (Ts := []) (by exact fun _ _ h => h) rfl rfl [] [.own 0, .own 0] (.agg #[vI (mulDivI a.x b.x d), vI (mulDivI a.y b.y d)]) [(n1 + 2), (n1 + 2)] [] (fun _ => by kernel_rfl) mn an [] [0, 1, 2] [] [] [] (by kernel_rfl) (by kernel_rfl) (by kernel_rfl) ?_
  exact ⟨rfl, rfl⟩

set_option maxHeartbeats 400000 in
set_option maxRecDepth 100000 in
theorem uniform_any (n : Int) (F : HL) : Sp Tryz.prog 41 #[vI n] [] F (fun u H' => u = .agg #[vI n, vI n] ∧ H' = []) := by
  refine Sp.of_body Tryz.func41 rfl rfl rfl [(0, vI n)] rfl ?_
  intro w0
  refine TR.convH (ap [] []) rfl ?_
  refine TR.seq ?_
  refine TR.reg ?_
  refine TL.seg 1 [] [] [0, 2] (fun n1 => [(0, vI n), (2, vP (n1 + 0) 0)]) (fun n1 => (ap [((n1 + 0), .lit [vI 0, vI 0] 30 (0, 0))] [])) (fun n1 => []) (fun n1 => []) (fun _ => by kernel_rfl) mn (fun n1 => an) ?_
  intro n1
  refine TL.fin (by kernel_rfl) ?_
  refine EX.next ?_
  refine TR.seq ?_
  refine TR.reg ?_
  refine TL.seg0 4 [] [.own 0, .own 0] [2] [(2, vP (n1 + 0) 0)] (ap [((n1 + 0), .lit [vI n, vI n] 30 (0, 0))] []) [(n1 + 0), (n1 + 0)] [] (fun _ => by kernel_rfl) mn an ?_
  refine TL.fin (by kernel_rfl) ?_
  refine EX.next ?_
  refine TR.ret (A := [((n1 + 0), .lit [vI n, vI n] 30 (0, 0))]) (Ts := []) (by exact fun _ _ h => h) rfl rfl [] [.own 0, .own 0] (.agg #[vI n, vI n]) [(n1 + 0), (n1 + 0)] [] (fun _ => by kernel_rfl) mn an [] [0] [] [] [] (by kernel_rfl) (by kernel_rfl) (by kernel_rfl) ?_
  exact ⟨rfl, rfl⟩

set_option maxHeartbeats 400000 in
set_option maxRecDepth 100000 in
theorem vadd_any (a : V2) (b : V2)  (F : HL) : Sp Tryz.prog 23 #[.agg #[vI a.x, vI a.y], .agg #[vI b.x, vI b.y]] [] F (fun u H' => u = .agg #[vI ((vadd a b).x), vI ((vadd a b).y)] ∧ H' = []) := by
  refine Sp.of_body Tryz.func23 rfl rfl rfl [(0, .agg #[vI a.x, vI a.y]), (1, .agg #[vI b.x, vI b.y])] rfl ?_
  intro w0
  refine TR.convH (ap [] []) rfl ?_
  refine TR.seq ?_
  refine TR.reg ?_
  refine TL.seg 3 [] [] [2, 3, 4] (fun n1 => [(2, vP (n1 + 0) 0), (3, vP (n1 + 1) 0), (4, vP (n1 + 2) 0)]) (fun n1 => (ap [((n1 + 2), .lit [vI 0, vI 0] 30 (0, 0)), ((n1 + 1), .lit [vI b.x, vI b.y] 30 (0, 0)), ((n1 + 0), .lit [vI a.x, vI a.y] 30 (0, 0))] [])) (fun n1 => []) (fun n1 => []) (fun _ => by kernel_rfl) mn (fun n1 => an) ?_
  intro n1
  refine TL.fin (by kernel_rfl) ?_
  refine EX.next ?_
  refine TR.seq ?_
  refine TR.reg ?_
  let z1 : Nat × Value := (4, vP (n1 + 2) 0)
  let z2 : Nat × Blk := ((n1 + 2), .lit [vI 0, vI 0] 30 (0, 0))
  let z3 : Nat × Blk := ((n1 + 1), .lit [vI b.x, vI b.y] 30 (0, 0))
  let z4 : Nat × Blk := ((n1 + 0), .lit [vI a.x, vI a.y] 30 (0, 0))
  refine TL.seg0 2 [] [.own 2, .own 2, .own 1, .own 1] [4, 5, 6] [z1, (5, .agg #[vI a.x, vI a.y]), (6, .agg #[vI b.x, vI b.y])] (ap [z2, z3, z4] []) [(n1 + 1), (n1 + 1), (n1 + 0), (n1 + 0)] [] (fun _ => by kernel_rfl) mn an ?_
  refine TL.callp (dst := (some 7)) (f := 39) (args := #[.agg #[vI a.x, vI a.y], .agg #[vI b.x, vI b.y], .func (.func 40) #[] #[]]) (H1 := (ap [z2, z3, z4] [])) (E := []) (Ob := []) [] [] [4, 7] (.agg #[vI ((vadd a b).x), vI ((vadd a b).y)]) [z1, (7, .agg #[vI ((vadd a b).x), vI ((vadd a b).y)])] (fun _ => by kernel_rfl) mn an (comb_add a b _) (by kernel_rfl) ?_
  let z5 : Nat × Blk := ((n1 + 2), .lit [vI ((vadd a b).x), vI ((vadd a b).y)] 30 (0, 0))
  refine TL.seg0 1 [] [.own 0, .own 0] [4] [z1] (ap [z5, z3, z4] []) [(n1 + 2), (n1 + 2)] [] (fun _ => by kernel_rfl) mn an ?_
  refine TL.fin (by kernel_rfl) ?_
  refine EX.next ?_
  refine TR.ret (A := [z5, z3, z4]) (Ts := []) (by exact fun _ _ h => h) rfl rfl [] [.own 0, .own 0] (.agg #[vI ((vadd a b).x), vI ((vadd a b).y)]) [(n1 + 2), (n1 + 2)] [] (fun _ => by kernel_rfl) mn an [] [0, 1, 2] [] [] [] (by kernel_rfl) (by kernel_rfl) (by kernel_rfl) ?_
  exact ⟨rfl, rfl⟩

set_option maxHeartbeats 400000 in
set_option maxRecDepth 100000 in
theorem vsub_any (a : V2) (b : V2)  (F : HL) : Sp Tryz.prog 71 #[.agg #[vI a.x, vI a.y], .agg #[vI b.x, vI b.y]] [] F (fun u H' => u = .agg #[vI ((vsub a b).x), vI ((vsub a b).y)] ∧ H' = []) := by
  refine Sp.of_body Tryz.func71 rfl rfl rfl [(0, .agg #[vI a.x, vI a.y]), (1, .agg #[vI b.x, vI b.y])] rfl ?_
  intro w0
  refine TR.convH (ap [] []) rfl ?_
  refine TR.seq ?_
  refine TR.reg ?_
  refine TL.seg 3 [] [] [2, 3, 4] (fun n1 => [(2, vP (n1 + 0) 0), (3, vP (n1 + 1) 0), (4, vP (n1 + 2) 0)]) (fun n1 => (ap [((n1 + 2), .lit [vI 0, vI 0] 30 (0, 0)), ((n1 + 1), .lit [vI b.x, vI b.y] 30 (0, 0)), ((n1 + 0), .lit [vI a.x, vI a.y] 30 (0, 0))] [])) (fun n1 => []) (fun n1 => []) (fun _ => by kernel_rfl) mn (fun n1 => an) ?_
  intro n1
  refine TL.fin (by kernel_rfl) ?_
  refine EX.next ?_
  refine TR.seq ?_
  refine TR.reg ?_
  let z1 : Nat × Value := (4, vP (n1 + 2) 0)
  let z2 : Nat × Blk := ((n1 + 2), .lit [vI 0, vI 0] 30 (0, 0))
  let z3 : Nat × Blk := ((n1 + 1), .lit [vI b.x, vI b.y] 30 (0, 0))
  let z4 : Nat × Blk := ((n1 + 0), .lit [vI a.x, vI a.y] 30 (0, 0))
  refine TL.seg0 2 [] [.own 2, .own 2, .own 1, .own 1] [4, 5, 6] [z1, (5, .agg #[vI a.x, vI a.y]), (6, .agg #[vI b.x, vI b.y])] (ap [z2, z3, z4] []) [(n1 + 1), (n1 + 1), (n1 + 0), (n1 + 0)] [] (fun _ => by kernel_rfl) mn an ?_
  refine TL.callp (dst := (some 7)) (f := 39) (args := #[.agg #[vI a.x, vI a.y], .agg #[vI b.x, vI b.y], .func (.func 95) #[] #[]]) (H1 := (ap [z2, z3, z4] [])) (E := []) (Ob := []) [] [] [4, 7] (.agg #[vI ((vsub a b).x), vI ((vsub a b).y)]) [z1, (7, .agg #[vI ((vsub a b).x), vI ((vsub a b).y)])] (fun _ => by kernel_rfl) mn an (comb_sub a b _) (by kernel_rfl) ?_
  let z5 : Nat × Blk := ((n1 + 2), .lit [vI ((vsub a b).x), vI ((vsub a b).y)] 30 (0, 0))
  refine TL.seg0 1 [] [.own 0, .own 0] [4] [z1] (ap [z5, z3, z4] []) [(n1 + 2), (n1 + 2)] [] (fun _ => by kernel_rfl) mn an ?_
  refine TL.fin (by kernel_rfl) ?_
  refine EX.next ?_
  refine TR.ret (A := [z5, z3, z4]) (Ts := []) (by exact fun _ _ h => h) rfl rfl [] [.own 0, .own 0] (.agg #[vI ((vsub a b).x), vI ((vsub a b).y)]) [(n1 + 2), (n1 + 2)] [] (fun _ => by kernel_rfl) mn an [] [0, 1, 2] [] [] [] (by kernel_rfl) (by kernel_rfl) (by kernel_rfl) ?_
  exact ⟨rfl, rfl⟩

set_option maxHeartbeats 400000 in
set_option maxRecDepth 100000 in
theorem vneg_any (a : V2)  (F : HL) : Sp Tryz.prog 72 #[.agg #[vI a.x, vI a.y]] [] F (fun u H' => u = .agg #[vI ((vneg a).x), vI ((vneg a).y)] ∧ H' = []) := by
  refine Sp.of_body Tryz.func72 rfl rfl rfl [(0, .agg #[vI a.x, vI a.y])] rfl ?_
  intro w0
  refine TR.convH (ap [] []) rfl ?_
  refine TR.seq ?_
  refine TR.reg ?_
  refine TL.seg 2 [] [] [1, 2] (fun n1 => [(1, vP (n1 + 0) 0), (2, vP (n1 + 1) 0)]) (fun n1 => (ap [((n1 + 1), .lit [vI 0, vI 0] 30 (0, 0)), ((n1 + 0), .lit [vI a.x, vI a.y] 30 (0, 0))] [])) (fun n1 => []) (fun n1 => []) (fun _ => by kernel_rfl) mn (fun n1 => an) ?_
  intro n1
  refine TL.fin (by kernel_rfl) ?_
  refine EX.next ?_
  refine TR.seq ?_
  refine TR.reg ?_
  let z1 : Nat × Value := (2, vP (n1 + 1) 0)
  let z2 : Nat × Blk := ((n1 + 1), .lit [vI 0, vI 0] 30 (0, 0))
  let z3 : Nat × Blk := ((n1 + 0), .lit [vI a.x, vI a.y] 30 (0, 0))
  refine TL.seg0 2 [] [.own 1, .own 1] [2, 3, 4] [z1, (3, .agg #[vI 0, vI 0]), (4, .agg #[vI a.x, vI a.y])] (ap [z2, z3] []) [(n1 + 0), (n1 + 0)] [] (fun _ => by kernel_rfl) mn an ?_
  refine TL.callp (dst := (some 5)) (f := 71) (args := #[.agg #[vI 0, vI 0], .agg #[vI a.x, vI a.y]]) (H1 := (ap [z2, z3] [])) (E := []) (Ob := []) [] [] [2, 5] (.agg #[vI ((vsub (⟨0, 0⟩ : V2) a).x), vI ((vsub (⟨0, 0⟩ : V2) a).y)]) [z1, (5, .agg #[vI ((vsub (⟨0, 0⟩ : V2) a).x), vI ((vsub (⟨0, 0⟩ : V2) a).y)])] (fun _ => by kernel_rfl) mn an (vsub_any (⟨0, 0⟩ : V2) a  _) (by kernel_rfl) ?_
  let z4 : Nat × Blk := ((n1 + 1), .lit [vI ((vsub (⟨0, 0⟩ : V2) a).x), vI ((vsub (⟨0, 0⟩ : V2) a).y)] 30 (0, 0))
  refine TL.seg0 1 [] [.own 0, .own 0] [2] [z1] (ap [z4, z3] []) [(n1 + 1), (n1 + 1)] [] (fun _ => by kernel_rfl) mn an ?_
  refine TL.fin (by kernel_rfl) ?_
  refine EX.next ?_
  refine TR.ret (A := [z4, z3]) (Ts := []) (by exact fun _ _ h => h) rfl rfl [] [.own 0, .own 0] (.agg #[vI ((vsub (⟨0, 0⟩ : V2) a).x), vI ((vsub (⟨0, 0⟩ : V2) a).y)]) [(n1 + 1), (n1 + 1)] [] (fun _ => by kernel_rfl) mn an [] [0, 1] [] [] [] (by kernel_rfl) (by kernel_rfl) (by kernel_rfl) ?_
  exact ⟨rfl, rfl⟩

set_option maxHeartbeats 400000 in
set_option maxRecDepth 100000 in
theorem vscale_any (a : V2) (f : Int)  (F : HL) : Sp Tryz.prog 24 #[.agg #[vI a.x, vI a.y], vI f] [] F (fun u H' => u = .agg #[vI ((vscale a f).x), vI ((vscale a f).y)] ∧ H' = []) := by
  refine Sp.of_body Tryz.func24 rfl rfl rfl [(0, .agg #[vI a.x, vI a.y]), (1, vI f)] rfl ?_
  intro w0
  refine TR.convH (ap [] []) rfl ?_
  refine TR.seq ?_
  refine TR.reg ?_
  refine TL.seg 2 [] [] [1, 2, 4] (fun n1 => [(1, vI f), (2, vP (n1 + 0) 0), (4, vP (n1 + 1) 0)]) (fun n1 => (ap [((n1 + 1), .lit [vI 0, vI 0] 30 (0, 0)), ((n1 + 0), .lit [vI a.x, vI a.y] 30 (0, 0))] [])) (fun n1 => []) (fun n1 => []) (fun _ => by kernel_rfl) mn (fun n1 => an) ?_
  intro n1
  refine TL.fin (by kernel_rfl) ?_
  refine EX.next ?_
  refine TR.seq ?_
  refine TR.draw [4] [] rfl (by kernel_rfl) ?_
  let z1 : Nat × Value := (4, vP (n1 + 1) 0)
  let z2 : Nat × Value := (5, .agg #[vI a.x, vI a.y])
  refine TD.vals [] (by kernel_rfl) [0, 1] [] [.own 1, .own 1] [4, 5, 6] [true, true, false, false, false] [z1, z2, (6, vI f)] [(n1 + 0), (n1 + 0)] [] (by kernel_rfl) (by kernel_rfl) mn an 3 rfl ?_
  refine TD.callv [] (by kernel_rfl) 2 [] [] (dst := (some 7)) (f := 41) (args := #[vI f]) (E := []) (Ob := []) [4, 5, 7] (.agg #[vI f, vI f]) [z1, z2, (7, .agg #[vI f, vI f])] (by kernel_rfl) (by kernel_rfl) (by kernel_rfl) mn an (fun X_ => (uniform_any _ _)) (by kernel_rfl) 2 rfl ?_
  refine TD.callv [] (by kernel_rfl) 3 [] [] (dst := (some 8)) (f := 39) (args := #[.agg #[vI a.x, vI a.y], .agg #[vI f, vI f], .func (.func 42) #[] #[]]) (E := []) (Ob := []) [4, 8] (.agg #[vI (mulI a.x f), vI (mulI a.y f)]) [z1, (8, .agg #[vI (mulI a.x f), vI (mulI a.y f)])] (by kernel_rfl) (by kernel_rfl) (by kernel_rfl) mn an (fun X_ => (comb_mul a (⟨f, f⟩ : V2) _)) (by kernel_rfl) 1 rfl ?_
  refine TD.one 4 (by kernel_rfl) 0 rfl fun a_ hF_ hcl_ => ?_
  let z3 : Nat × Blk := ((n1 + 1), .lit [vI (mulI a.x f), vI (mulI a.y f)] 30 (0, 0))
  let z4 : Nat × Blk := ((n1 + 0), .lit [vI a.x, vI a.y] 30 (0, 0))
  refine OPJ.ev [] [.own 0, .own 0] [4] (fun _ => [z1]) (fun _ => (ap [z3, z4] [])) (fun _ => [(n1 + 1), (n1 + 1)]) (fun _ => []) (fun _ => by kernel_rfl) mn (fun _ => an) (.inl ⟨[], fun _ => by kernel_rfl⟩) (.inl (by decide)) (fun _ => ?_) hF_ hcl_
  refine TD.fin (by kernel_rfl) (EX.np ?_)
  refine EX.next ?_
  refine TR.ret (A := [z3, z4]) (Ts := []) (by exact fun _ _ h => h) rfl rfl [] [.own 0, .own 0] (.agg #[vI (mulI a.x f), vI (mulI a.y f)]) [(n1 + 1), (n1 + 1)] [] (fun _ => by kernel_rfl) mn an [] [0, 1] [] [] [] (by kernel_rfl) (by kernel_rfl) (by kernel_rfl) ?_
  exact ⟨rfl, rfl⟩

set_option maxHeartbeats 400000 in
set_option maxRecDepth 100000 in
theorem vmuldiv_any (a : V2) (n : Int) (d : Int)  (F : HL) : Sp Tryz.prog 62 #[.agg #[vI a.x, vI a.y], vI n, vI d] [] F (fun u H' => u = .agg #[vI ((vmuldiv a n d).x), vI ((vmuldiv a n d).y)] ∧ H' = []) := by
  refine Sp.of_body Tryz.func62 rfl rfl rfl [(0, .agg #[vI a.x, vI a.y]), (1, vI n), (2, vI d)] rfl ?_
  intro w0
  refine TR.convH (ap [] []) rfl ?_
  refine TR.seq ?_
  refine TR.reg ?_
  refine TL.seg 3 [] [] [1, 3, 5, 6] (fun n1 => [(1, vI n), (3, vP (n1 + 0) 0), (5, vP (n1 + 1) 0), (6, vP (n1 + 2) 0)]) (fun n1 => (ap [((n1 + 2), .lit [vI 0, vI 0] 30 (0, 0)), ((n1 + 1), .lit [vI d] 3 (0, 0)), ((n1 + 0), .lit [vI a.x, vI a.y] 30 (0, 0))] [])) (fun n1 => []) (fun n1 => []) (fun _ => by kernel_rfl) mn (fun n1 => an) ?_
  intro n1
  refine TL.fin (by kernel_rfl) ?_
  refine EX.next ?_
  refine TR.seq ?_
  refine TR.draw [5] [] rfl (by kernel_rfl) ?_
  let z1 : Nat × Value := (6, vP (n1 + 2) 0)
  let z2 : Nat × Value := (7, .agg #[vI a.x, vI a.y])
  let z3 : Nat × Value := (10, .func (.func 82) #[] #[vP (n1 + 1) 0])
  refine TD.vals [] (by kernel_rfl) [0, 1, 3] [] [.own 2, .own 2] [6, 7, 8, 10] [true, true, false, true, false, false] [z1, z2, (8, vI n), z3] [(n1 + 0), (n1 + 0)] [] (by kernel_rfl) (by kernel_rfl) mn an 3 rfl ?_
  refine TD.callv [] (by kernel_rfl) 2 [] [] (dst := (some 9)) (f := 41) (args := #[vI n]) (E := []) (Ob := []) [6, 7, 9, 10] (.agg #[vI n, vI n]) [z1, z2, (9, .agg #[vI n, vI n]), z3] (by kernel_rfl) (by kernel_rfl) (by kernel_rfl) mn an (fun X_ => (uniform_any _ _)) (by kernel_rfl) 2 rfl ?_
  refine TD.callv [] (by kernel_rfl) 4 [] [] (dst := (some 11)) (f := 39) (args := #[.agg #[vI a.x, vI a.y], .agg #[vI n, vI n], .func (.func 82) #[] #[vP (n1 + 1) 0]]) (E := []) (Ob := []) [6, 11] (.agg #[vI (mulDivI a.x n d), vI (mulDivI a.y n d)]) [z1, (11, .agg #[vI (mulDivI a.x n d), vI (mulDivI a.y n d)])] (by kernel_rfl) (by kernel_rfl) (by kernel_rfl) mn an (fun X_ => (comb_muldiv a (⟨n, n⟩ : V2) d (n1 + 1) _ (by simp))) (by kernel_rfl) 1 rfl ?_
  refine TD.one 5 (by kernel_rfl) 0 rfl fun a_ hF_ hcl_ => ?_
  let z4 : Nat × Blk := ((n1 + 2), .lit [vI (mulDivI a.x n d), vI (mulDivI a.y n d)] 30 (0, 0))
  let z5 : Nat × Blk := ((n1 + 1), .lit [vI d] 3 (0, 0))
  let z6 : Nat × Blk := ((n1 + 0), .lit [vI a.x, vI a.y] 30 (0, 0))
  refine OPJ.ev [] [.own 0, .own 0] [6] (fun _ => [z1]) (fun _ => (ap [z4, z5, z6] [])) (fun _ => [(n1 + 2), (n1 + 2)]) (fun _ => []) (fun _ => by kernel_rfl) mn (fun _ => an) (.inl ⟨[], fun _ => by kernel_rfl⟩) (.inl (by decide)) (fun _ => ?_) hF_ hcl_
  refine TD.fin (by kernel_rfl) (EX.np ?_)
  refine EX.next ?_
  refine TR.ret (A := [z4, z5, z6]) (Ts := []) (by exact fun _ _ h => h) rfl rfl [] [.own 0, .own 0] (.agg #[vI (mulDivI a.x n d), vI (mulDivI a.y n d)]) [(n1 + 2), (n1 + 2)] [] (fun _ => by kernel_rfl) mn an [] [0, 1, 2] [] [] [] (by kernel_rfl) (by kernel_rfl) (by kernel_rfl) ?_
  exact ⟨rfl, rfl⟩

set_option maxHeartbeats 400000 in
set_option maxRecDepth 100000 in
theorem floor_any (n : Int)  (F : HL) : Sp Tryz.prog 94 #[vI n] [] F (fun u H' => u = vI (floorI n) ∧ H' = []) := by
  refine Sp.of_body Tryz.func94 rfl rfl rfl [(0, vI n)] rfl ?_
  intro w0
  refine TR.convH (ap [] []) rfl ?_
  refine TR.seq ?_
  refine TR.reg ?_
  refine TL.seg0 1 [] [] [0] [(0, vI n)] (ap [] []) [] [] (fun _ => by kernel_rfl) mn an ?_
  refine TL.fin (by kernel_rfl) ?_
  refine EX.next ?_
  refine TR.seq ?_
  refine TR.reg ?_
  refine TL.seg0 3 [] [] [2] [(2, vI (n.fdiv 1024))] (ap [] []) [] [] (fun _ => by kernel_rfl) mn an ?_
  refine TL.fin (by kernel_rfl) ?_
  refine EX.next ?_
  refine TR.ret (A := []) (Ts := []) (by exact fun _ _ h => h) rfl rfl [] [] (vI (n.fdiv 1024)) [] [] (fun _ => by kernel_rfl) mn an [] [] [] [] [] (by kernel_rfl) (by kernel_rfl) (by kernel_rfl) ?_
  exact ⟨rfl, rfl⟩

set_option maxHeartbeats 400000 in
set_option maxRecDepth 100000 in
theorem vdot_any (a : V2) (b : V2)  (F : HL) : Sp Tryz.prog 70 #[.agg #[vI a.x, vI a.y], .agg #[vI b.x, vI b.y]] [] F (fun u H' => u = vI (vdot a b) ∧ H' = []) := by
  refine Sp.of_body Tryz.func70 rfl rfl rfl [(0, .agg #[vI a.x, vI a.y]), (1, .agg #[vI b.x, vI b.y])] rfl ?_
  intro w0
  refine TR.convH (ap [] []) rfl ?_
  refine TR.seq ?_
  refine TR.reg ?_
  refine TL.seg 3 [] [] [2, 3] (fun n1 => [(2, vP (n1 + 0) 0), (3, vP (n1 + 1) 0)]) (fun n1 => (ap [((n1 + 1), .lit [vI b.x, vI b.y] 30 (0, 0)), ((n1 + 0), .lit [vI a.x, vI a.y] 30 (0, 0))] [])) (fun n1 => []) (fun n1 => []) (fun _ => by kernel_rfl) mn (fun n1 => an) ?_
  intro n1
  refine TL.fin (by kernel_rfl) ?_
  refine EX.next ?_
  refine TR.seq ?_
  refine TR.reg ?_
  let z1 : Nat × Blk := ((n1 + 1), .lit [vI b.x, vI b.y] 30 (0, 0))
  let z2 : Nat × Blk := ((n1 + 0), .lit [vI a.x, vI a.y] 30 (0, 0))
  refine TL.seg0 11 [] [.own 1, .own 0, .own 1, .own 0] [15] [(15, vI (IntKind.i64.wrap ((IntKind.i64.wrap (a.x * b.x)) + (IntKind.i64.wrap (a.y * b.y)))))] (ap [z1, z2] []) [(n1 + 1), (n1 + 0), (n1 + 1), (n1 + 0)] [] (fun _ => by kernel_rfl) mn an ?_
  refine TL.callp (dst := (some 16)) (f := 94) (args := #[vI (IntKind.i64.wrap ((IntKind.i64.wrap (a.x * b.x)) + (IntKind.i64.wrap (a.y * b.y))))]) (H1 := (ap [z1, z2] [])) (E := []) (Ob := []) [] [] [16] (vI (floorI (IntKind.i64.wrap ((IntKind.i64.wrap (a.x * b.x)) + (IntKind.i64.wrap (a.y * b.y)))))) [(16, vI (floorI (IntKind.i64.wrap ((IntKind.i64.wrap (a.x * b.x)) + (IntKind.i64.wrap (a.y * b.y))))))] (fun _ => by kernel_rfl) mn an (floor_any (IntKind.i64.wrap ((IntKind.i64.wrap (a.x * b.x)) + (IntKind.i64.wrap (a.y * b.y))))  _) (by kernel_rfl) ?_
  refine TL.seg0 1 [] [] [4] [(4, vI (floorI (IntKind.i64.wrap ((IntKind.i64.wrap (a.x * b.x)) + (IntKind.i64.wrap (a.y * b.y))))))] (ap [z1, z2] []) [] [] (fun _ => by kernel_rfl) mn an ?_
  refine TL.fin (by kernel_rfl) ?_
  refine EX.next ?_
  refine TR.ret (A := [z1, z2]) (Ts := []) (by exact fun _ _ h => h) rfl rfl [] [] (vI (floorI (IntKind.i64.wrap ((IntKind.i64.wrap (a.x * b.x)) + (IntKind.i64.wrap (a.y * b.y)))))) [] [] (fun _ => by kernel_rfl) mn an [] [0, 1] [] [] [] (by kernel_rfl) (by kernel_rfl) (by kernel_rfl) ?_
  exact ⟨rfl, rfl⟩

set_option maxHeartbeats 400000 in
set_option maxRecDepth 100000 in
theorem vlen_any (a : V2)  (F : HL) : Sp Tryz.prog 126 #[.agg #[vI a.x, vI a.y]] [] F (fun u H' => u = vI (vlen a) ∧ H' = []) := by
  refine Sp.of_body Tryz.func126 rfl rfl rfl [(0, .agg #[vI a.x, vI a.y])] rfl ?_
  intro w0
  refine TR.convH (ap [] []) rfl ?_
  refine TR.seq ?_
  refine TR.reg ?_
  refine TL.seg 2 [] [] [1] (fun n1 => [(1, vP (n1 + 0) 0)]) (fun n1 => (ap [((n1 + 0), .lit [vI a.x, vI a.y] 30 (0, 0))] [])) (fun n1 => []) (fun n1 => []) (fun _ => by kernel_rfl) mn (fun n1 => an) ?_
  intro n1
  refine TL.fin (by kernel_rfl) ?_
  refine EX.next ?_
  refine TR.seq ?_
  refine TR.reg ?_
  let z1 : Nat × Blk := ((n1 + 0), .lit [vI a.x, vI a.y] 30 (0, 0))
  refine TL.seg0 11 [] [.own 0, .own 0, .own 0, .own 0] [13] [(13, vI (IntKind.i64.wrap ((IntKind.i64.wrap (a.x * a.x)) + (IntKind.i64.wrap (a.y * a.y)))))] (ap [z1] []) [(n1 + 0), (n1 + 0), (n1 + 0), (n1 + 0)] [] (fun _ => by kernel_rfl) mn an ?_
  refine TL.callp (dst := (some 14)) (f := 129) (args := #[vI (IntKind.i64.wrap ((IntKind.i64.wrap (a.x * a.x)) + (IntKind.i64.wrap (a.y * a.y))))]) (H1 := (ap [z1] [])) (E := []) (Ob := []) [] [] [14] (vI (isqrtI (IntKind.i64.wrap ((IntKind.i64.wrap (a.x * a.x)) + (IntKind.i64.wrap (a.y * a.y)))))) [(14, vI (isqrtI (IntKind.i64.wrap ((IntKind.i64.wrap (a.x * a.x)) + (IntKind.i64.wrap (a.y * a.y))))))] (fun _ => by kernel_rfl) mn an (isqrt_any (IntKind.i64.wrap ((IntKind.i64.wrap (a.x * a.x)) + (IntKind.i64.wrap (a.y * a.y))))  _) (by kernel_rfl) ?_
  refine TL.seg0 1 [] [] [2] [(2, vI (isqrtI (IntKind.i64.wrap ((IntKind.i64.wrap (a.x * a.x)) + (IntKind.i64.wrap (a.y * a.y))))))] (ap [z1] []) [] [] (fun _ => by kernel_rfl) mn an ?_
  refine TL.fin (by kernel_rfl) ?_
  refine EX.next ?_
  refine TR.ret (A := [z1]) (Ts := []) (by exact fun _ _ h => h) rfl rfl [] [] (vI (isqrtI (IntKind.i64.wrap ((IntKind.i64.wrap (a.x * a.x)) + (IntKind.i64.wrap (a.y * a.y)))))) [] [] (fun _ => by kernel_rfl) mn an [] [0] [] [] [] (by kernel_rfl) (by kernel_rfl) (by kernel_rfl) ?_
  exact ⟨rfl, rfl⟩

set_option maxHeartbeats 400000 in
set_option maxRecDepth 100000 in
theorem vnorm_any (a : V2)  (F : HL) : Sp Tryz.prog 122 #[.agg #[vI a.x, vI a.y]] [] F (fun u H' => u = .agg #[vI ((vnorm a).x), vI ((vnorm a).y)] ∧ H' = []) := by
  refine Sp.of_body Tryz.func122 rfl rfl rfl [(0, .agg #[vI a.x, vI a.y])] rfl ?_
  intro w0
  refine TR.convH (ap [] []) rfl ?_
  refine TR.seq ?_
  refine TR.reg ?_
  refine TL.seg 2 [] [] [1, 2] (fun n1 => [(1, vP (n1 + 0) 0), (2, vP (n1 + 1) 0)]) (fun n1 => (ap [((n1 + 1), .lit [vI 0, vI 0] 30 (0, 0)), ((n1 + 0), .lit [vI a.x, vI a.y] 30 (0, 0))] [])) (fun n1 => []) (fun n1 => []) (fun _ => by kernel_rfl) mn (fun n1 => an) ?_
  intro n1
  refine TL.fin (by kernel_rfl) ?_
  refine EX.next ?_
  refine TR.seq ?_
  refine TR.seq ?_
  refine TR.reg ?_
  let z1 : Nat × Value := (2, vP (n1 + 1) 0)
  let z2 : Nat × Blk := ((n1 + 0), .lit [vI a.x, vI a.y] 30 (0, 0))
  refine TL.seg0 3 [] [.own 1, .own 1, .sq] [1, 2, 5] [(1, vP (n1 + 0) 0), z1, (5, .bool (decide (a.x = 0) && (decide (a.y = 0) && true)))] (ap [((n1 + 1), .lit [vI 0, vI 0] 30 (0, 0)), z2] []) [(n1 + 0), (n1 + 0)] [] (fun _ => by kernel_rfl) mn an ?_
  refine TL.fin (by kernel_rfl) ?_
  refine EX.next ?_
  rcases Decidable.em (((decide (a.x = 0) && (decide (a.y = 0) && true))) = true) with h2 | h2
  · refine TR.yes (b := (decide (a.x = 0) && (decide (a.y = 0) && true))) (by kernel_rfl) (by kernel_rfl) h2 ?_
    refine TR.seq ?_
    refine TR.reg ?_
    let z3 : Nat × Blk := ((n1 + 1), .lit [vI a.x, vI a.y] 30 (0, 0))
    refine TL.seg0 2 [] [.own 1, .own 1, .own 0, .own 0] [2] [z1] (ap [z3, z2] []) [(n1 + 1), (n1 + 1), (n1 + 0), (n1 + 0)] [] (fun _ => by kernel_rfl) mn an ?_
    refine TL.fin (by kernel_rfl) ?_
    refine EX.next ?_
    refine TR.ret (A := [z3, z2]) (Ts := []) (by exact fun _ _ h => h) rfl rfl [] [.own 0, .own 0] (.agg #[vI a.x, vI a.y]) [(n1 + 1), (n1 + 1)] [] (fun _ => by kernel_rfl) mn an [] [0, 1] [] [] [] (by kernel_rfl) (by kernel_rfl) (by kernel_rfl) ?_
    refine ⟨?_, rfl⟩
    unfold vnorm
    first | rw [if_pos (by simpa [vzero] using h2)] | rw [if_neg (by simpa [vzero] using h2)]
  · refine TR.no (b := (decide (a.x = 0) && (decide (a.y = 0) && true))) (by kernel_rfl) (by kernel_rfl) (Bool.eq_false_iff.2 h2) ?_
    refine TR.skip ?_
    refine EX.next ?_
    refine TR.seq ?_
    refine TR.draw [4] [] rfl (by kernel_rfl) ?_
    let z4 : Nat × Value := (7, .agg #[vI a.x, vI a.y])
    refine TD.vals [] (by kernel_rfl) [0, 1] [] [.own 1, .own 1, .own 1, .own 1] [2, 7, 8] [true, true, false, false, false] [z1, z4, (8, .agg #[vI a.x, vI a.y])] [(n1 + 0), (n1 + 0), (n1 + 0), (n1 + 0)] [] (by kernel_rfl) (by kernel_rfl) mn an 3 rfl ?_
    refine TD.callv [] (by kernel_rfl) 2 [] [] (dst := (some 9)) (f := 126) (args := #[.agg #[vI a.x, vI a.y]]) (E := []) (Ob := []) [2, 7, 9] (vI (vlen a)) [z1, z4, (9, vI (vlen a))] (by kernel_rfl) (by kernel_rfl) (by kernel_rfl) mn an (fun X_ => (vlen_any a  _)) (by kernel_rfl) 2 rfl ?_
    refine TD.callv [] (by kernel_rfl) 3 [] [] (dst := (some 10)) (f := 62) (args := #[.agg #[vI a.x, vI a.y], vI 1024, vI (vlen a)]) (E := []) (Ob := []) [2, 10] (.agg #[vI ((vmuldiv a 1024 (vlen a)).x), vI ((vmuldiv a 1024 (vlen a)).y)]) [z1, (10, .agg #[vI ((vmuldiv a 1024 (vlen a)).x), vI ((vmuldiv a 1024 (vlen a)).y)])] (by kernel_rfl) (by kernel_rfl) (by kernel_rfl) mn an (fun X_ => (vmuldiv_any a 1024 (vlen a)  _)) (by kernel_rfl) 1 rfl ?_
    refine TD.one 4 (by kernel_rfl) 0 rfl fun a_ hF_ hcl_ => ?_
    let z5 : Nat × Blk := ((n1 + 1), .lit [vI ((vmuldiv a 1024 (vlen a)).x), vI ((vmuldiv a 1024 (vlen a)).y)] 30 (0, 0))
    refine OPJ.ev [] [.own 0, .own 0] [2] (fun _ => [z1]) (fun _ => (ap [z5, z2] [])) (fun _ => [(n1 + 1), (n1 + 1)]) (fun _ => []) (fun _ => by kernel_rfl) mn (fun _ => an) (.inl ⟨[], fun _ => by kernel_rfl⟩) (.inl (by decide)) (fun _ => ?_) hF_ hcl_
    refine TD.fin (by kernel_rfl) (EX.np ?_)
    refine EX.next ?_
    refine TR.ret (A := [z5, z2]) (Ts := []) (by exact fun _ _ h => h) rfl rfl [] [.own 0, .own 0] (.agg #[vI ((vmuldiv a 1024 (vlen a)).x), vI ((vmuldiv a 1024 (vlen a)).y)]) [(n1 + 1), (n1 + 1)] [] (fun _ => by kernel_rfl) mn an [] [0, 1] [] [] [] (by kernel_rfl) (by kernel_rfl) (by kernel_rfl) ?_
    refine ⟨?_, rfl⟩
    unfold vnorm
    first | rw [if_pos (by simpa [vzero] using h2)] | rw [if_neg (by simpa [vzero] using h2)]
end Go.Proofs.YtpkincoclhpcgaaGreatDoor
