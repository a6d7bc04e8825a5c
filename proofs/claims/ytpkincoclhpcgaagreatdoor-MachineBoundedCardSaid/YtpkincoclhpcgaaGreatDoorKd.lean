/- Contracts, printed by a program. -/
import Derived.Test.YtpkincoclhpcgaaGreatDoorKc
namespace Go.Proofs.YtpkincoclhpcgaaGreatDoor
set_option linter.unusedSimpArgs false
set_option linter.unusedVariables false
open Go.RowKit
def clampV (a : V2) (m : Int) : V2 := ⟨clampI a.x (w64 (0 - m)) m, clampI a.y (w64 (0 - m)) m⟩
def slowM (m : Mot) (b : V2) : Mot := ⟨m.px, m.py, (vsub ⟨m.vx, m.vy⟩ b).x, (vsub ⟨m.vx, m.vy⟩ b).y, m.inv⟩
def speedM (m : Mot) (b : V2) : Mot := ⟨m.px, m.py, (vadd ⟨m.vx, m.vy⟩ b).x, (vadd ⟨m.vx, m.vy⟩ b).y, m.inv⟩
def advM (m : Mot) (b : V2) : Mot := ⟨(vadd ⟨m.px, m.py⟩ b).x, (vadd ⟨m.px, m.py⟩ b).y, m.vx, m.vy, m.inv⟩
def retM' (m : Mot) (b : V2) : Mot := ⟨(vsub ⟨m.px, m.py⟩ b).x, (vsub ⟨m.px, m.py⟩ b).y, m.vx, m.vy, m.inv⟩
def limM (m : Mot) : Mot := ⟨(clampV ⟨m.px, m.py⟩ 1048576).x, (clampV ⟨m.px, m.py⟩ 1048576).y, (clampV ⟨m.vx, m.vy⟩ 16384).x, (clampV ⟨m.vx, m.vy⟩ 16384).y, m.inv⟩
def rsSp (a b : Mot) (c : Con) : Int := vdot (vsub ⟨b.vx, b.vy⟩ ⟨a.vx, a.vy⟩) ⟨c.nx, c.ny⟩
def rsImp (a b : Mot) (c : Con) (rest : Int) : Int := mulDivI (w64 (0 - rsSp a b c)) (w64 (1024 + rest)) (w64 (a.inv + b.inv))
def rsA (a b : Mot) (c : Con) (rest : Int) : Mot := if rsSp a b c < 0 then slowM a (vscale ⟨c.nx, c.ny⟩ (mulI (rsImp a b c rest) a.inv)) else a
def rsB (a b : Mot) (c : Con) (rest : Int) : Mot := if rsSp a b c < 0 then speedM b (vscale ⟨c.nx, c.ny⟩ (mulI (rsImp a b c rest) b.inv)) else b
def resolveS (a b : Mot) (c : Con) (rest : Int) : Mot × Mot := if w64 (a.inv + b.inv) = 0 then (a, b) else (limM (retM' (rsA a b c rest) (vscale ⟨c.nx, c.ny⟩ (mulDivI c.d a.inv (w64 (a.inv + b.inv))))), limM (advM (rsB a b c rest) (vscale ⟨c.nx, c.ny⟩ (mulDivI c.d b.inv (w64 (a.inv + b.inv))))))

set_option maxHeartbeats 400000 in
set_option maxRecDepth 100000 in
theorem clampV_any (a : V2) (m : Int)  (F : HL) : Sp Tryz.prog 96 #[.agg #[vI a.x, vI a.y], vI m] [] F (fun u H' => u = .agg #[vI ((clampV a m).x), vI ((clampV a m).y)] ∧ H' = []) := by
  refine Sp.of_body Tryz.func96 rfl rfl rfl [(0, .agg #[vI a.x, vI a.y]), (1, vI m)] rfl ?_
  intro w0
  refine TR.convH (ap [] []) rfl ?_
  refine TR.seq ?_
  refine TR.reg ?_
  refine TL.seg 2 [] [] [1, 2, 4] (fun n1 => [(1, vI m), (2, vP (n1 + 0) 0), (4, vP (n1 + 1) 0)]) (fun n1 => (ap [((n1 + 1), .lit [vI 0, vI 0] 30 (0, 0)), ((n1 + 0), .lit [vI a.x, vI a.y] 30 (0, 0))] [])) (fun n1 => []) (fun n1 => []) (fun _ => by kernel_rfl) mn (fun n1 => an) ?_
  intro n1
  refine TL.fin (by kernel_rfl) ?_
  refine EX.next ?_
  refine TR.seq ?_
  refine TR.draw [13] [] rfl (by kernel_rfl) ?_
  let z1 : Nat × Value := (4, vP (n1 + 1) 0)
  let z2 : Nat × Value := (14, vI (IntKind.i64.wrap (0 - m)))
  refine TD.vals [] (by kernel_rfl) [0, 2, 4, 6, 8, 10, 1, 3, 7, 9] [] [.own 1, .own 1] [4, 6, 8, 9, 12, 14, 15] [true, true, true, true, true, false, true, true, true, true, true, false, false, false] [z1, (6, vI a.x), (8, vI (IntKind.i64.wrap (0 - m))), (9, vI m), (12, vI a.y), z2, (15, vI m)] [(n1 + 0), (n1 + 0)] [] (by kernel_rfl) (by kernel_rfl) mn an 4 rfl ?_
  let z3 : Nat × Value := (10, vI (clampI a.x (IntKind.i64.wrap (0 - m)) m))
  refine TD.callv [] (by kernel_rfl) 5 [] [] (dst := (some 10)) (f := 25) (args := #[vI a.x, vI (IntKind.i64.wrap (0 - m)), vI m]) (E := []) (Ob := []) [4, 10, 12, 14, 15] (vI (clampI a.x (IntKind.i64.wrap (0 - m)) m)) [z1, z3, (12, vI a.y), z2, (15, vI m)] (by kernel_rfl) (by kernel_rfl) (by kernel_rfl) mn an (fun X_ => (clamp_any a.x (IntKind.i64.wrap (0 - m)) m  _)) (by kernel_rfl) 3 rfl ?_
  refine TD.callv [] (by kernel_rfl) 11 [] [] (dst := (some 16)) (f := 25) (args := #[vI a.y, vI (IntKind.i64.wrap (0 - m)), vI m]) (E := []) (Ob := []) [4, 10, 16] (vI (clampI a.y (IntKind.i64.wrap (0 - m)) m)) [z1, z3, (16, vI (clampI a.y (IntKind.i64.wrap (0 - m)) m))] (by kernel_rfl) (by kernel_rfl) (by kernel_rfl) mn an (fun X_ => (clamp_any a.y (IntKind.i64.wrap (0 - m)) m  _)) (by kernel_rfl) 2 rfl ?_
  refine TD.vals [] (by kernel_rfl) [12] [] [] [4, 17] [true, true, true, true, true, true, true, true, true, true, true, true, true, false] [z1, (17, .agg #[vI (clampI a.x (IntKind.i64.wrap (0 - m)) m), vI (clampI a.y (IntKind.i64.wrap (0 - m)) m)])] [] [] (by kernel_rfl) (by kernel_rfl) mn an 1 rfl ?_
  refine TD.one 13 (by kernel_rfl) 0 rfl fun a_ hF_ hcl_ => ?_
  let z4 : Nat × Blk := ((n1 + 1), .lit [vI (clampI a.x (IntKind.i64.wrap (0 - m)) m), vI (clampI a.y (IntKind.i64.wrap (0 - m)) m)] 30 (0, 0))
  let z5 : Nat × Blk := ((n1 + 0), .lit [vI a.x, vI a.y] 30 (0, 0))
  refine OPJ.ev [] [.own 0, .own 0] [4] (fun _ => [z1]) (fun _ => (ap [z4, z5] [])) (fun _ => [(n1 + 1), (n1 + 1)]) (fun _ => []) (fun _ => by kernel_rfl) mn (fun _ => an) (.inl ⟨[], fun _ => by kernel_rfl⟩) (.inl (by decide)) (fun _ => ?_) hF_ hcl_
  refine TD.fin (by kernel_rfl) (EX.np ?_)
  refine EX.next ?_
  refine TR.ret (A := [z4, z5]) (Ts := []) (by exact fun _ _ h => h) rfl rfl [] [.own 0, .own 0] (.agg #[vI (clampI a.x (IntKind.i64.wrap (0 - m)) m), vI (clampI a.y (IntKind.i64.wrap (0 - m)) m)]) [(n1 + 1), (n1 + 1)] [] (fun _ => by kernel_rfl) mn an [] [0, 1] [] [] [] (by kernel_rfl) (by kernel_rfl) (by kernel_rfl) ?_
  exact ⟨rfl, rfl⟩

set_option maxHeartbeats 400000 in
set_option maxRecDepth 100000 in
theorem slowDown_any (m : Mot) (b : V2) (q : Nat) (F : HL) : Sp Tryz.prog 75 #[vP q 0, .agg #[vI b.x, vI b.y]] [(q, .lit [vI m.px, vI m.py, vI m.vx, vI m.vy, vI m.inv] 126 (0, 0))] F (fun u H' => ∃ x : Unit, H' = ap [(q, .lit [vI ((slowM m b).px), vI ((slowM m b).py), vI ((slowM m b).vx), vI ((slowM m b).vy), vI ((slowM m b).inv)] 126 (0, 0))] [] ∧ True) := by
  refine Sp.of_body Tryz.func75 rfl rfl rfl [(0, vP q 0), (1, .agg #[vI b.x, vI b.y])] rfl ?_
  intro w0
  let z1 : Nat × Blk := (q, .lit [vI m.px, vI m.py, vI m.vx, vI m.vy, vI m.inv] 126 (0, 0))
  refine TR.convH (ap [z1] []) rfl ?_
  refine TR.seq ?_
  refine TR.reg ?_
  refine TL.seg 1 [] [] [0, 3] (fun n1 => [(0, vP q 0), (3, vP (n1 + 0) 0)]) (fun n1 => (ap [((n1 + 0), .lit [vI b.x, vI b.y] 30 (0, 0)), z1] [])) (fun n1 => []) (fun n1 => []) (fun _ => by kernel_rfl) mn (fun n1 => an) ?_
  intro n1
  refine TL.fin (by kernel_rfl) ?_
  refine EX.next ?_
  refine TR.draw [11] [] rfl (by kernel_rfl) ?_
  refine TD.vals [] (by kernel_rfl) [0, 1, 6, 2, 3, 4, 5] [] [.own 0, .own 0, .own 1, .own 1] [4, 9, 10] [true, true, true, true, true, true, true, false, false, false, false, false] [(4, vP q 0), (9, .agg #[vI m.vx, vI m.vy]), (10, .agg #[vI b.x, vI b.y])] [q, q, (n1 + 0), (n1 + 0)] [] (by kernel_rfl) (by kernel_rfl) mn an 5 rfl ?_
  let z2 : Nat × Value := (11, .agg #[vI ((vsub (⟨m.vx, m.vy⟩ : V2) b).x), vI ((vsub (⟨m.vx, m.vy⟩ : V2) b).y)])
  refine TD.callv [] (by kernel_rfl) 7 [] [] (dst := (some 11)) (f := 71) (args := #[.agg #[vI m.vx, vI m.vy], .agg #[vI b.x, vI b.y]]) (E := []) (Ob := []) [4, 11] (.agg #[vI ((vsub (⟨m.vx, m.vy⟩ : V2) b).x), vI ((vsub (⟨m.vx, m.vy⟩ : V2) b).y)]) [(4, vP q 0), z2] (by kernel_rfl) (by kernel_rfl) (by kernel_rfl) mn an (fun X_ => (vsub_any (⟨m.vx, m.vy⟩ : V2) b  _)) (by kernel_rfl) 4 rfl ?_
  refine TD.vals [] (by kernel_rfl) [8, 9, 10] [] [] [11, 14] [true, true, true, true, true, true, true, true, true, true, true, false] [z2, (14, vP q 2)] [] [] (by kernel_rfl) (by kernel_rfl) mn an 1 rfl ?_
  refine TD.one 11 (by kernel_rfl) 0 rfl fun a_ hF_ hcl_ => ?_
  let z3 : Nat × Blk := ((n1 + 0), .lit [vI b.x, vI b.y] 30 (0, 0))
  let z4 : Nat × Blk := (q, .lit [vI m.px, vI m.py, vI ((vsub (⟨m.vx, m.vy⟩ : V2) b).x), vI ((vsub (⟨m.vx, m.vy⟩ : V2) b).y), vI m.inv] 126 (0, 0))
  refine OPJ.ev [] [.own 1, .own 1] [] (fun _ => []) (fun _ => (ap [z3, z4] [])) (fun _ => [q, q]) (fun _ => []) (fun _ => by kernel_rfl) mn (fun _ => an) (.inl ⟨[], fun _ => by kernel_rfl⟩) (.inl (by decide)) (fun _ => ?_) hF_ hcl_
  refine TD.fin (by kernel_rfl) (EX.np ?_)
  refine EX.fin (A := [z3, z4]) (Ts := []) rfl rfl [] [] (.tuple #[]) [] [] (fun _ => by kernel_rfl) mn an [1] [0] [] [] (ap [z4] []) (by kernel_rfl) (by kernel_rfl) (by kernel_rfl) ?_
  exact ⟨(), rfl, trivial⟩

theorem slowDown_ap (m : Mot) (b : V2) (q : Nat) (F : HL) : Sp Tryz.prog 75 #[vP q 0, .agg #[vI b.x, vI b.y]] (ap [(q, .lit [vI m.px, vI m.py, vI m.vx, vI m.vy, vI m.inv] 126 (0, 0))] []) F (fun u H' => ∃ x : Unit, H' = ap [(q, .lit [vI ((slowM m b).px), vI ((slowM m b).py), vI ((slowM m b).vx), vI ((slowM m b).vy), vI ((slowM m b).inv)] 126 (0, 0))] [] ∧ True) := by
  have e : ap [(q, .lit [vI m.px, vI m.py, vI m.vx, vI m.vy, vI m.inv] 126 (0, 0))] [] = [(q, .lit [vI m.px, vI m.py, vI m.vx, vI m.vy, vI m.inv] 126 (0, 0))] := by simp
  rw [e]
  exact slowDown_any m b q F

set_option maxHeartbeats 400000 in
set_option maxRecDepth 100000 in
theorem speedUp_any (m : Mot) (b : V2) (q : Nat) (F : HL) : Sp Tryz.prog 76 #[vP q 0, .agg #[vI b.x, vI b.y]] [(q, .lit [vI m.px, vI m.py, vI m.vx, vI m.vy, vI m.inv] 126 (0, 0))] F (fun u H' => ∃ x : Unit, H' = ap [(q, .lit [vI ((speedM m b).px), vI ((speedM m b).py), vI ((speedM m b).vx), vI ((speedM m b).vy), vI ((speedM m b).inv)] 126 (0, 0))] [] ∧ True) := by
  refine Sp.of_body Tryz.func76 rfl rfl rfl [(0, vP q 0), (1, .agg #[vI b.x, vI b.y])] rfl ?_
  intro w0
  let z1 : Nat × Blk := (q, .lit [vI m.px, vI m.py, vI m.vx, vI m.vy, vI m.inv] 126 (0, 0))
  refine TR.convH (ap [z1] []) rfl ?_
  refine TR.seq ?_
  refine TR.reg ?_
  refine TL.seg 1 [] [] [0, 3] (fun n1 => [(0, vP q 0), (3, vP (n1 + 0) 0)]) (fun n1 => (ap [((n1 + 0), .lit [vI b.x, vI b.y] 30 (0, 0)), z1] [])) (fun n1 => []) (fun n1 => []) (fun _ => by kernel_rfl) mn (fun n1 => an) ?_
  intro n1
  refine TL.fin (by kernel_rfl) ?_
  refine EX.next ?_
  refine TR.draw [11] [] rfl (by kernel_rfl) ?_
  refine TD.vals [] (by kernel_rfl) [0, 1, 6, 2, 3, 4, 5] [] [.own 0, .own 0, .own 1, .own 1] [4, 9, 10] [true, true, true, true, true, true, true, false, false, false, false, false] [(4, vP q 0), (9, .agg #[vI m.vx, vI m.vy]), (10, .agg #[vI b.x, vI b.y])] [q, q, (n1 + 0), (n1 + 0)] [] (by kernel_rfl) (by kernel_rfl) mn an 5 rfl ?_
  let z2 : Nat × Value := (11, .agg #[vI ((vadd (⟨m.vx, m.vy⟩ : V2) b).x), vI ((vadd (⟨m.vx, m.vy⟩ : V2) b).y)])
  refine TD.callv [] (by kernel_rfl) 7 [] [] (dst := (some 11)) (f := 23) (args := #[.agg #[vI m.vx, vI m.vy], .agg #[vI b.x, vI b.y]]) (E := []) (Ob := []) [4, 11] (.agg #[vI ((vadd (⟨m.vx, m.vy⟩ : V2) b).x), vI ((vadd (⟨m.vx, m.vy⟩ : V2) b).y)]) [(4, vP q 0), z2] (by kernel_rfl) (by kernel_rfl) (by kernel_rfl) mn an (fun X_ => (vadd_any (⟨m.vx, m.vy⟩ : V2) b  _)) (by kernel_rfl) 4 rfl ?_
  refine TD.vals [] (by kernel_rfl) [8, 9, 10] [] [] [11, 14] [true, true, true, true, true, true, true, true, true, true, true, false] [z2, (14, vP q 2)] [] [] (by kernel_rfl) (by kernel_rfl) mn an 1 rfl ?_
  refine TD.one 11 (by kernel_rfl) 0 rfl fun a_ hF_ hcl_ => ?_
  let z3 : Nat × Blk := ((n1 + 0), .lit [vI b.x, vI b.y] 30 (0, 0))
  let z4 : Nat × Blk := (q, .lit [vI m.px, vI m.py, vI ((vadd (⟨m.vx, m.vy⟩ : V2) b).x), vI ((vadd (⟨m.vx, m.vy⟩ : V2) b).y), vI m.inv] 126 (0, 0))
  refine OPJ.ev [] [.own 1, .own 1] [] (fun _ => []) (fun _ => (ap [z3, z4] [])) (fun _ => [q, q]) (fun _ => []) (fun _ => by kernel_rfl) mn (fun _ => an) (.inl ⟨[], fun _ => by kernel_rfl⟩) (.inl (by decide)) (fun _ => ?_) hF_ hcl_
  refine TD.fin (by kernel_rfl) (EX.np ?_)
  refine EX.fin (A := [z3, z4]) (Ts := []) rfl rfl [] [] (.tuple #[]) [] [] (fun _ => by kernel_rfl) mn an [1] [0] [] [] (ap [z4] []) (by kernel_rfl) (by kernel_rfl) (by kernel_rfl) ?_
  exact ⟨(), rfl, trivial⟩

theorem speedUp_ap (m : Mot) (b : V2) (q : Nat) (F : HL) : Sp Tryz.prog 76 #[vP q 0, .agg #[vI b.x, vI b.y]] (ap [(q, .lit [vI m.px, vI m.py, vI m.vx, vI m.vy, vI m.inv] 126 (0, 0))] []) F (fun u H' => ∃ x : Unit, H' = ap [(q, .lit [vI ((speedM m b).px), vI ((speedM m b).py), vI ((speedM m b).vx), vI ((speedM m b).vy), vI ((speedM m b).inv)] 126 (0, 0))] [] ∧ True) := by
  have e : ap [(q, .lit [vI m.px, vI m.py, vI m.vx, vI m.vy, vI m.inv] 126 (0, 0))] [] = [(q, .lit [vI m.px, vI m.py, vI m.vx, vI m.vy, vI m.inv] 126 (0, 0))] := by simp
  rw [e]
  exact speedUp_any m b q F

set_option maxHeartbeats 400000 in
set_option maxRecDepth 100000 in
theorem advance_any (m : Mot) (b : V2) (q : Nat) (F : HL) : Sp Tryz.prog 78 #[vP q 0, .agg #[vI b.x, vI b.y]] [(q, .lit [vI m.px, vI m.py, vI m.vx, vI m.vy, vI m.inv] 126 (0, 0))] F (fun u H' => ∃ x : Unit, H' = ap [(q, .lit [vI ((advM m b).px), vI ((advM m b).py), vI ((advM m b).vx), vI ((advM m b).vy), vI ((advM m b).inv)] 126 (0, 0))] [] ∧ True) := by
  refine Sp.of_body Tryz.func78 rfl rfl rfl [(0, vP q 0), (1, .agg #[vI b.x, vI b.y])] rfl ?_
  intro w0
  let z1 : Nat × Blk := (q, .lit [vI m.px, vI m.py, vI m.vx, vI m.vy, vI m.inv] 126 (0, 0))
  refine TR.convH (ap [z1] []) rfl ?_
  refine TR.seq ?_
  refine TR.reg ?_
  refine TL.seg 1 [] [] [0, 3] (fun n1 => [(0, vP q 0), (3, vP (n1 + 0) 0)]) (fun n1 => (ap [((n1 + 0), .lit [vI b.x, vI b.y] 30 (0, 0)), z1] [])) (fun n1 => []) (fun n1 => []) (fun _ => by kernel_rfl) mn (fun n1 => an) ?_
  intro n1
  refine TL.fin (by kernel_rfl) ?_
  refine EX.next ?_
  refine TR.draw [11] [] rfl (by kernel_rfl) ?_
  refine TD.vals [] (by kernel_rfl) [0, 1, 6, 2, 3, 4, 5] [] [.own 0, .own 0, .own 1, .own 1] [4, 9, 10] [true, true, true, true, true, true, true, false, false, false, false, false] [(4, vP q 0), (9, .agg #[vI m.px, vI m.py]), (10, .agg #[vI b.x, vI b.y])] [q, q, (n1 + 0), (n1 + 0)] [] (by kernel_rfl) (by kernel_rfl) mn an 5 rfl ?_
  let z2 : Nat × Value := (11, .agg #[vI ((vadd (⟨m.px, m.py⟩ : V2) b).x), vI ((vadd (⟨m.px, m.py⟩ : V2) b).y)])
  refine TD.callv [] (by kernel_rfl) 7 [] [] (dst := (some 11)) (f := 23) (args := #[.agg #[vI m.px, vI m.py], .agg #[vI b.x, vI b.y]]) (E := []) (Ob := []) [4, 11] (.agg #[vI ((vadd (⟨m.px, m.py⟩ : V2) b).x), vI ((vadd (⟨m.px, m.py⟩ : V2) b).y)]) [(4, vP q 0), z2] (by kernel_rfl) (by kernel_rfl) (by kernel_rfl) mn an (fun X_ => (vadd_any (⟨m.px, m.py⟩ : V2) b  _)) (by kernel_rfl) 4 rfl ?_
  refine TD.vals [] (by kernel_rfl) [8, 9, 10] [] [] [11, 14] [true, true, true, true, true, true, true, true, true, true, true, false] [z2, (14, vP q 0)] [] [] (by kernel_rfl) (by kernel_rfl) mn an 1 rfl ?_
  refine TD.one 11 (by kernel_rfl) 0 rfl fun a_ hF_ hcl_ => ?_
  let z3 : Nat × Blk := ((n1 + 0), .lit [vI b.x, vI b.y] 30 (0, 0))
  let z4 : Nat × Blk := (q, .lit [vI ((vadd (⟨m.px, m.py⟩ : V2) b).x), vI ((vadd (⟨m.px, m.py⟩ : V2) b).y), vI m.vx, vI m.vy, vI m.inv] 126 (0, 0))
  refine OPJ.ev [] [.own 1, .own 1] [] (fun _ => []) (fun _ => (ap [z3, z4] [])) (fun _ => [q, q]) (fun _ => []) (fun _ => by kernel_rfl) mn (fun _ => an) (.inl ⟨[], fun _ => by kernel_rfl⟩) (.inl (by decide)) (fun _ => ?_) hF_ hcl_
  refine TD.fin (by kernel_rfl) (EX.np ?_)
  refine EX.fin (A := [z3, z4]) (Ts := []) rfl rfl [] [] (.tuple #[]) [] [] (fun _ => by kernel_rfl) mn an [1] [0] [] [] (ap [z4] []) (by kernel_rfl) (by kernel_rfl) (by kernel_rfl) ?_
  exact ⟨(), rfl, trivial⟩

theorem advance_ap (m : Mot) (b : V2) (q : Nat) (F : HL) : Sp Tryz.prog 78 #[vP q 0, .agg #[vI b.x, vI b.y]] (ap [(q, .lit [vI m.px, vI m.py, vI m.vx, vI m.vy, vI m.inv] 126 (0, 0))] []) F (fun u H' => ∃ x : Unit, H' = ap [(q, .lit [vI ((advM m b).px), vI ((advM m b).py), vI ((advM m b).vx), vI ((advM m b).vy), vI ((advM m b).inv)] 126 (0, 0))] [] ∧ True) := by
  have e : ap [(q, .lit [vI m.px, vI m.py, vI m.vx, vI m.vy, vI m.inv] 126 (0, 0))] [] = [(q, .lit [vI m.px, vI m.py, vI m.vx, vI m.vy, vI m.inv] 126 (0, 0))] := by simp
  rw [e]
  exact advance_any m b q F

set_option maxHeartbeats 400000 in
set_option maxRecDepth 100000 in
theorem retreat_any (m : Mot) (b : V2) (q : Nat) (F : HL) : Sp Tryz.prog 77 #[vP q 0, .agg #[vI b.x, vI b.y]] [(q, .lit [vI m.px, vI m.py, vI m.vx, vI m.vy, vI m.inv] 126 (0, 0))] F (fun u H' => ∃ x : Unit, H' = ap [(q, .lit [vI ((retM' m b).px), vI ((retM' m b).py), vI ((retM' m b).vx), vI ((retM' m b).vy), vI ((retM' m b).inv)] 126 (0, 0))] [] ∧ True) := by
  refine Sp.of_body Tryz.func77 rfl rfl rfl [(0, vP q 0), (1, .agg #[vI b.x, vI b.y])] rfl ?_
  intro w0
  let z1 : Nat × Blk := (q, .lit [vI m.px, vI m.py, vI m.vx, vI m.vy, vI m.inv] 126 (0, 0))
  refine TR.convH (ap [z1] []) rfl ?_
  refine TR.seq ?_
  refine TR.reg ?_
  refine TL.seg 1 [] [] [0, 3] (fun n1 => [(0, vP q 0), (3, vP (n1 + 0) 0)]) (fun n1 => (ap [((n1 + 0), .lit [vI b.x, vI b.y] 30 (0, 0)), z1] [])) (fun n1 => []) (fun n1 => []) (fun _ => by kernel_rfl) mn (fun n1 => an) ?_
  intro n1
  refine TL.fin (by kernel_rfl) ?_
  refine EX.next ?_
  refine TR.draw [11] [] rfl (by kernel_rfl) ?_
  refine TD.vals [] (by kernel_rfl) [0, 1, 6, 2, 3, 4, 5] [] [.own 0, .own 0, .own 1, .own 1] [4, 9, 10] [true, true, true, true, true, true, true, false, false, false, false, false] [(4, vP q 0), (9, .agg #[vI m.px, vI m.py]), (10, .agg #[vI b.x, vI b.y])] [q, q, (n1 + 0), (n1 + 0)] [] (by kernel_rfl) (by kernel_rfl) mn an 5 rfl ?_
  let z2 : Nat × Value := (11, .agg #[vI ((vsub (⟨m.px, m.py⟩ : V2) b).x), vI ((vsub (⟨m.px, m.py⟩ : V2) b).y)])
  refine TD.callv [] (by kernel_rfl) 7 [] [] (dst := (some 11)) (f := 71) (args := #[.agg #[vI m.px, vI m.py], .agg #[vI b.x, vI b.y]]) (E := []) (Ob := []) [4, 11] (.agg #[vI ((vsub (⟨m.px, m.py⟩ : V2) b).x), vI ((vsub (⟨m.px, m.py⟩ : V2) b).y)]) [(4, vP q 0), z2] (by kernel_rfl) (by kernel_rfl) (by kernel_rfl) mn an (fun X_ => (vsub_any (⟨m.px, m.py⟩ : V2) b  _)) (by kernel_rfl) 4 rfl ?_
  refine TD.vals [] (by kernel_rfl) [8, 9, 10] [] [] [11, 14] [true, true, true, true, true, true, true, true, true, true, true, false] [z2, (14, vP q 0)] [] [] (by kernel_rfl) (by kernel_rfl) mn an 1 rfl ?_
  refine TD.one 11 (by kernel_rfl) 0 rfl fun a_ hF_ hcl_ => ?_
  let z3 : Nat × Blk := ((n1 + 0), .lit [vI b.x, vI b.y] 30 (0, 0))
  let z4 : Nat × Blk := (q, .lit [vI ((vsub (⟨m.px, m.py⟩ : V2) b).x), vI ((vsub (⟨m.px, m.py⟩ : V2) b).y), vI m.vx, vI m.vy, vI m.inv] 126 (0, 0))
  refine OPJ.ev [] [.own 1, .own 1] [] (fun _ => []) (fun _ => (ap [z3, z4] [])) (fun _ => [q, q]) (fun _ => []) (fun _ => by kernel_rfl) mn (fun _ => an) (.inl ⟨[], fun _ => by kernel_rfl⟩) (.inl (by decide)) (fun _ => ?_) hF_ hcl_
  refine TD.fin (by kernel_rfl) (EX.np ?_)
  refine EX.fin (A := [z3, z4]) (Ts := []) rfl rfl [] [] (.tuple #[]) [] [] (fun _ => by kernel_rfl) mn an [1] [0] [] [] (ap [z4] []) (by kernel_rfl) (by kernel_rfl) (by kernel_rfl) ?_
  exact ⟨(), rfl, trivial⟩

theorem retreat_ap (m : Mot) (b : V2) (q : Nat) (F : HL) : Sp Tryz.prog 77 #[vP q 0, .agg #[vI b.x, vI b.y]] (ap [(q, .lit [vI m.px, vI m.py, vI m.vx, vI m.vy, vI m.inv] 126 (0, 0))] []) F (fun u H' => ∃ x : Unit, H' = ap [(q, .lit [vI ((retM' m b).px), vI ((retM' m b).py), vI ((retM' m b).vx), vI ((retM' m b).vy), vI ((retM' m b).inv)] 126 (0, 0))] [] ∧ True) := by
  have e : ap [(q, .lit [vI m.px, vI m.py, vI m.vx, vI m.vy, vI m.inv] 126 (0, 0))] [] = [(q, .lit [vI m.px, vI m.py, vI m.vx, vI m.vy, vI m.inv] 126 (0, 0))] := by simp
  rw [e]
  exact retreat_any m b q F

set_option maxHeartbeats 400000 in
set_option maxRecDepth 100000 in
theorem limited_any (m : Mot) (q : Nat) (F : HL) (hq : (q, .lit [vI m.px, vI m.py, vI m.vx, vI m.vy, vI m.inv] 126 (0, 0)) ∈ F) : Sp Tryz.prog 79 #[vP q 0] [] F (fun u H' => u = .agg #[vI ((limM m).px), vI ((limM m).py), vI ((limM m).vx), vI ((limM m).vy), vI ((limM m).inv)] ∧ H' = []) := by
  refine Sp.of_body Tryz.func79 rfl rfl rfl [(0, vP q 0)] rfl ?_
  intro w0
  refine TR.convH (ap [] []) rfl ?_
  refine TR.seq ?_
  refine TR.reg ?_
  refine TL.seg 1 [] [] [0, 2] (fun n1 => [(0, vP q 0), (2, vP (n1 + 0) 0)]) (fun n1 => (ap [((n1 + 0), .lit [vI 0, vI 0, vI 0, vI 0, vI 0] 38 (0, 0))] [])) (fun n1 => []) (fun n1 => []) (fun _ => by kernel_rfl) mn (fun n1 => an) ?_
  intro n1
  refine TL.fin (by kernel_rfl) ?_
  refine EX.next ?_
  refine TR.seq ?_
  refine TR.draw [18] [] rfl (by kernel_rfl) ?_
  let z1 : Nat × Value := (2, vP (n1 + 0) 0)
  let z2 : Nat × Value := (13, .agg #[vI m.vx, vI m.vy])
  let z3 : Nat × Value := (19, vI m.inv)
  refine TD.vals [] (by kernel_rfl) [0, 6, 12, 1, 7, 13, 2, 8, 14, 3, 9, 15, 4, 10, 16] [(q, .lit [vI m.px, vI m.py, vI m.vx, vI m.vy, vI m.inv] 126 (0, 0))] [.ro 0, .ro 0, .ro 0, .ro 0, .ro 0] [2, 7, 13, 19] [true, true, true, true, true, false, true, true, true, true, true, false, true, true, true, true, true, false, false] [z1, (7, .agg #[vI m.px, vI m.py]), z2, z3] [q, q, q, q, q] [] (by kernel_rfl) (by kernel_rfl) (mc hq mn) an 4 rfl ?_
  let z4 : Nat × Value := (8, .agg #[vI ((clampV (⟨m.px, m.py⟩ : V2) 1048576).x), vI ((clampV (⟨m.px, m.py⟩ : V2) 1048576).y)])
  refine TD.callv [] (by kernel_rfl) 5 [] [] (dst := (some 8)) (f := 96) (args := #[.agg #[vI m.px, vI m.py], vI 1048576]) (E := []) (Ob := []) [2, 8, 13, 19] (.agg #[vI ((clampV (⟨m.px, m.py⟩ : V2) 1048576).x), vI ((clampV (⟨m.px, m.py⟩ : V2) 1048576).y)]) [z1, z4, z2, z3] (by kernel_rfl) (by kernel_rfl) (by kernel_rfl) mn an (fun X_ => (clampV_any (⟨m.px, m.py⟩ : V2) 1048576  _)) (by kernel_rfl) 3 rfl ?_
  refine TD.callv [] (by kernel_rfl) 11 [] [] (dst := (some 14)) (f := 96) (args := #[.agg #[vI m.vx, vI m.vy], vI 16384]) (E := []) (Ob := []) [2, 8, 14, 19] (.agg #[vI ((clampV (⟨m.vx, m.vy⟩ : V2) 16384).x), vI ((clampV (⟨m.vx, m.vy⟩ : V2) 16384).y)]) [z1, z4, (14, .agg #[vI ((clampV (⟨m.vx, m.vy⟩ : V2) 16384).x), vI ((clampV (⟨m.vx, m.vy⟩ : V2) 16384).y)]), z3] (by kernel_rfl) (by kernel_rfl) (by kernel_rfl) mn an (fun X_ => (clampV_any (⟨m.vx, m.vy⟩ : V2) 16384  _)) (by kernel_rfl) 2 rfl ?_
  refine TD.vals [] (by kernel_rfl) [17] [] [] [2, 20] [true, true, true, true, true, true, true, true, true, true, true, true, true, true, true, true, true, true, false] [z1, (20, .agg #[vI ((clampV (⟨m.px, m.py⟩ : V2) 1048576).x), vI ((clampV (⟨m.px, m.py⟩ : V2) 1048576).y), vI ((clampV (⟨m.vx, m.vy⟩ : V2) 16384).x), vI ((clampV (⟨m.vx, m.vy⟩ : V2) 16384).y), vI m.inv])] [] [] (by kernel_rfl) (by kernel_rfl) mn an 1 rfl ?_
  refine TD.one 18 (by kernel_rfl) 0 rfl fun a_ hF_ hcl_ => ?_
  let z5 : Nat × Blk := ((n1 + 0), .lit [vI ((clampV (⟨m.px, m.py⟩ : V2) 1048576).x), vI ((clampV (⟨m.px, m.py⟩ : V2) 1048576).y), vI ((clampV (⟨m.vx, m.vy⟩ : V2) 16384).x), vI ((clampV (⟨m.vx, m.vy⟩ : V2) 16384).y), vI m.inv] 38 (0, 0))
  refine OPJ.ev [] [.own 0, .own 0, .own 0, .own 0, .own 0] [2] (fun _ => [z1]) (fun _ => (ap [z5] [])) (fun _ => [(n1 + 0), (n1 + 0), (n1 + 0), (n1 + 0), (n1 + 0)]) (fun _ => []) (fun _ => by kernel_rfl) mn (fun _ => an) (.inl ⟨[], fun _ => by kernel_rfl⟩) (.inl (by decide)) (fun _ => ?_) hF_ hcl_
  refine TD.fin (by kernel_rfl) (EX.np ?_)
  refine EX.next ?_
  refine TR.ret (A := [z5]) (Ts := []) (by exact fun _ _ h => h) rfl rfl [] [.own 0, .own 0, .own 0, .own 0, .own 0] (.agg #[vI ((clampV (⟨m.px, m.py⟩ : V2) 1048576).x), vI ((clampV (⟨m.px, m.py⟩ : V2) 1048576).y), vI ((clampV (⟨m.vx, m.vy⟩ : V2) 16384).x), vI ((clampV (⟨m.vx, m.vy⟩ : V2) 16384).y), vI m.inv]) [(n1 + 0), (n1 + 0), (n1 + 0), (n1 + 0), (n1 + 0)] [] (fun _ => by kernel_rfl) mn an [] [0] [] [] [] (by kernel_rfl) (by kernel_rfl) (by kernel_rfl) ?_
  exact ⟨rfl, rfl⟩

set_option maxHeartbeats 400000 in
set_option maxRecDepth 100000 in
theorem chg_slowDown (m : Mot) (c : Con) (am : Int) (q qc : Nat) (F : HL) (hc : (qc, .lit [vI c.nx, vI c.ny, vI c.d] 99 (0, 0)) ∈ F) : Sp Tryz.prog 73 #[.func (.func 75) #[vP q 0] #[], vI am, vP qc 0] (ap [(q, .lit [vI m.px, vI m.py, vI m.vx, vI m.vy, vI m.inv] 126 (0, 0))] []) F (fun u H' => ∃ x : Unit, H' = ap [(q, .lit [vI ((slowM m (vscale ⟨c.nx, c.ny⟩ am)).px), vI ((slowM m (vscale ⟨c.nx, c.ny⟩ am)).py), vI ((slowM m (vscale ⟨c.nx, c.ny⟩ am)).vx), vI ((slowM m (vscale ⟨c.nx, c.ny⟩ am)).vy), vI ((slowM m (vscale ⟨c.nx, c.ny⟩ am)).inv)] 126 (0, 0))] [] ∧ True) := by
  refine Sp.of_body Tryz.func73 rfl rfl rfl [(0, .func (.func 75) #[vP q 0] #[]), (1, vI am), (2, vP qc 0)] rfl ?_
  intro w0
  let z1 : Nat × Blk := (q, .lit [vI m.px, vI m.py, vI m.vx, vI m.vy, vI m.inv] 126 (0, 0))
  refine TR.convH (ap [z1] []) rfl ?_
  refine TR.reg ?_
  let z2 : Nat × Value := (5, .func (.func 75) #[vP q 0] #[])
  refine TL.seg0 4 [(qc, .lit [vI c.nx, vI c.ny, vI c.d] 99 (0, 0))] [.ro 0, .ro 0] [5, 7, 8] [z2, (7, .agg #[vI c.nx, vI c.ny]), (8, vI am)] (ap [z1] []) [qc, qc] [] (fun _ => by kernel_rfl) (mc hc mn) an ?_
  refine TL.callp (dst := (some 9)) (f := 24) (args := #[.agg #[vI c.nx, vI c.ny], vI am]) (H1 := (ap [z1] [])) (E := []) (Ob := []) [] [] [5, 9] (.agg #[vI ((vscale (⟨c.nx, c.ny⟩ : V2) am).x), vI ((vscale (⟨c.nx, c.ny⟩ : V2) am).y)]) [z2, (9, .agg #[vI ((vscale (⟨c.nx, c.ny⟩ : V2) am).x), vI ((vscale (⟨c.nx, c.ny⟩ : V2) am).y)])] (fun _ => by kernel_rfl) mn an (vscale_any (⟨c.nx, c.ny⟩ : V2) am  _) (by kernel_rfl) ?_
  let z3 : Nat × Blk := (q, .lit [vI ((slowM m (vscale (⟨c.nx, c.ny⟩ : V2) am)).px), vI ((slowM m (vscale (⟨c.nx, c.ny⟩ : V2) am)).py), vI ((slowM m (vscale (⟨c.nx, c.ny⟩ : V2) am)).vx), vI ((slowM m (vscale (⟨c.nx, c.ny⟩ : V2) am)).vy), vI ((slowM m (vscale (⟨c.nx, c.ny⟩ : V2) am)).inv)] 126 (0, 0))
  refine TL.callT (τ := Unit) [] [] (dst := (some 10)) (f := 75) (args := #[vP q 0, .agg #[vI ((vscale (⟨c.nx, c.ny⟩ : V2) am).x), vI ((vscale (⟨c.nx, c.ny⟩ : V2) am).y)]]) (A := [z1]) (Ts := []) (E := []) (Ob := []) [0] [] [] [] [] [z1] [] [] [] (fun _ => [z3]) (fun _ => []) (fun _ _ => True) (fun v_ => []) (fun _ => by kernel_rfl) mn an (by kernel_rfl) (by kernel_rfl) (by kernel_rfl) (by kernel_rfl) (by kernel_rfl) (by kernel_rfl) (fun _ => by kernel_rfl) (slowDown_ap m (vscale (⟨c.nx, c.ny⟩ : V2) am) q _) ?_
  rintro _ _ _
  refine TL.fin (by kernel_rfl) ?_
  refine EX.fin (A := [z3]) (Ts := []) rfl rfl [] [] (.tuple #[]) [] [] (fun _ => by kernel_rfl) mn an [0] [] [] [] (ap [z3] []) (by kernel_rfl) (by kernel_rfl) (by kernel_rfl) ?_
  exact ⟨(), rfl, trivial⟩

set_option maxHeartbeats 400000 in
set_option maxRecDepth 100000 in
theorem chg_speedUp (m : Mot) (c : Con) (am : Int) (q qc : Nat) (F : HL) (hc : (qc, .lit [vI c.nx, vI c.ny, vI c.d] 99 (0, 0)) ∈ F) : Sp Tryz.prog 73 #[.func (.func 76) #[vP q 0] #[], vI am, vP qc 0] (ap [(q, .lit [vI m.px, vI m.py, vI m.vx, vI m.vy, vI m.inv] 126 (0, 0))] []) F (fun u H' => ∃ x : Unit, H' = ap [(q, .lit [vI ((speedM m (vscale ⟨c.nx, c.ny⟩ am)).px), vI ((speedM m (vscale ⟨c.nx, c.ny⟩ am)).py), vI ((speedM m (vscale ⟨c.nx, c.ny⟩ am)).vx), vI ((speedM m (vscale ⟨c.nx, c.ny⟩ am)).vy), vI ((speedM m (vscale ⟨c.nx, c.ny⟩ am)).inv)] 126 (0, 0))] [] ∧ True) := by
  refine Sp.of_body Tryz.func73 rfl rfl rfl [(0, .func (.func 76) #[vP q 0] #[]), (1, vI am), (2, vP qc 0)] rfl ?_
  intro w0
  let z1 : Nat × Blk := (q, .lit [vI m.px, vI m.py, vI m.vx, vI m.vy, vI m.inv] 126 (0, 0))
  refine TR.convH (ap [z1] []) rfl ?_
  refine TR.reg ?_
  let z2 : Nat × Value := (5, .func (.func 76) #[vP q 0] #[])
  refine TL.seg0 4 [(qc, .lit [vI c.nx, vI c.ny, vI c.d] 99 (0, 0))] [.ro 0, .ro 0] [5, 7, 8] [z2, (7, .agg #[vI c.nx, vI c.ny]), (8, vI am)] (ap [z1] []) [qc, qc] [] (fun _ => by kernel_rfl) (mc hc mn) an ?_
  refine TL.callp (dst := (some 9)) (f := 24) (args := #[.agg #[vI c.nx, vI c.ny], vI am]) (H1 := (ap [z1] [])) (E := []) (Ob := []) [] [] [5, 9] (.agg #[vI ((vscale (⟨c.nx, c.ny⟩ : V2) am).x), vI ((vscale (⟨c.nx, c.ny⟩ : V2) am).y)]) [z2, (9, .agg #[vI ((vscale (⟨c.nx, c.ny⟩ : V2) am).x), vI ((vscale (⟨c.nx, c.ny⟩ : V2) am).y)])] (fun _ => by kernel_rfl) mn an (vscale_any (⟨c.nx, c.ny⟩ : V2) am  _) (by kernel_rfl) ?_
  let z3 : Nat × Blk := (q, .lit [vI ((speedM m (vscale (⟨c.nx, c.ny⟩ : V2) am)).px), vI ((speedM m (vscale (⟨c.nx, c.ny⟩ : V2) am)).py), vI ((speedM m (vscale (⟨c.nx, c.ny⟩ : V2) am)).vx), vI ((speedM m (vscale (⟨c.nx, c.ny⟩ : V2) am)).vy), vI ((speedM m (vscale (⟨c.nx, c.ny⟩ : V2) am)).inv)] 126 (0, 0))
  refine TL.callT (τ := Unit) [] [] (dst := (some 10)) (f := 76) (args := #[vP q 0, .agg #[vI ((vscale (⟨c.nx, c.ny⟩ : V2) am).x), vI ((vscale (⟨c.nx, c.ny⟩ : V2) am).y)]]) (A := [z1]) (Ts := []) (E := []) (Ob := []) [0] [] [] [] [] [z1] [] [] [] (fun _ => [z3]) (fun _ => []) (fun _ _ => True) (fun v_ => []) (fun _ => by kernel_rfl) mn an (by kernel_rfl) (by kernel_rfl) (by kernel_rfl) (by kernel_rfl) (by kernel_rfl) (by kernel_rfl) (fun _ => by kernel_rfl) (speedUp_ap m (vscale (⟨c.nx, c.ny⟩ : V2) am) q _) ?_
  rintro _ _ _
  refine TL.fin (by kernel_rfl) ?_
  refine EX.fin (A := [z3]) (Ts := []) rfl rfl [] [] (.tuple #[]) [] [] (fun _ => by kernel_rfl) mn an [0] [] [] [] (ap [z3] []) (by kernel_rfl) (by kernel_rfl) (by kernel_rfl) ?_
  exact ⟨(), rfl, trivial⟩

set_option maxHeartbeats 400000 in
set_option maxRecDepth 100000 in
theorem chg_advance (m : Mot) (c : Con) (am : Int) (q qc : Nat) (F : HL) (hc : (qc, .lit [vI c.nx, vI c.ny, vI c.d] 99 (0, 0)) ∈ F) : Sp Tryz.prog 73 #[.func (.func 78) #[vP q 0] #[], vI am, vP qc 0] (ap [(q, .lit [vI m.px, vI m.py, vI m.vx, vI m.vy, vI m.inv] 126 (0, 0))] []) F (fun u H' => ∃ x : Unit, H' = ap [(q, .lit [vI ((advM m (vscale ⟨c.nx, c.ny⟩ am)).px), vI ((advM m (vscale ⟨c.nx, c.ny⟩ am)).py), vI ((advM m (vscale ⟨c.nx, c.ny⟩ am)).vx), vI ((advM m (vscale ⟨c.nx, c.ny⟩ am)).vy), vI ((advM m (vscale ⟨c.nx, c.ny⟩ am)).inv)] 126 (0, 0))] [] ∧ True) := by
  refine Sp.of_body Tryz.func73 rfl rfl rfl [(0, .func (.func 78) #[vP q 0] #[]), (1, vI am), (2, vP qc 0)] rfl ?_
  intro w0
  let z1 : Nat × Blk := (q, .lit [vI m.px, vI m.py, vI m.vx, vI m.vy, vI m.inv] 126 (0, 0))
  refine TR.convH (ap [z1] []) rfl ?_
  refine TR.reg ?_
  let z2 : Nat × Value := (5, .func (.func 78) #[vP q 0] #[])
  refine TL.seg0 4 [(qc, .lit [vI c.nx, vI c.ny, vI c.d] 99 (0, 0))] [.ro 0, .ro 0] [5, 7, 8] [z2, (7, .agg #[vI c.nx, vI c.ny]), (8, vI am)] (ap [z1] []) [qc, qc] [] (fun _ => by kernel_rfl) (mc hc mn) an ?_
  refine TL.callp (dst := (some 9)) (f := 24) (args := #[.agg #[vI c.nx, vI c.ny], vI am]) (H1 := (ap [z1] [])) (E := []) (Ob := []) [] [] [5, 9] (.agg #[vI ((vscale (⟨c.nx, c.ny⟩ : V2) am).x), vI ((vscale (⟨c.nx, c.ny⟩ : V2) am).y)]) [z2, (9, .agg #[vI ((vscale (⟨c.nx, c.ny⟩ : V2) am).x), vI ((vscale (⟨c.nx, c.ny⟩ : V2) am).y)])] (fun _ => by kernel_rfl) mn an (vscale_any (⟨c.nx, c.ny⟩ : V2) am  _) (by kernel_rfl) ?_
  let z3 : Nat × Blk := (q, .lit [vI ((advM m (vscale (⟨c.nx, c.ny⟩ : V2) am)).px), vI ((advM m (vscale (⟨c.nx, c.ny⟩ : V2) am)).py), vI ((advM m (vscale (⟨c.nx, c.ny⟩ : V2) am)).vx), vI ((advM m (vscale (⟨c.nx, c.ny⟩ : V2) am)).vy), vI ((advM m (vscale (⟨c.nx, c.ny⟩ : V2) am)).inv)] 126 (0, 0))
  refine TL.callT (τ := Unit) [] [] (dst := (some 10)) (f := 78) (args := #[vP q 0, .agg #[vI ((vscale (⟨c.nx, c.ny⟩ : V2) am).x), vI ((vscale (⟨c.nx, c.ny⟩ : V2) am).y)]]) (A := [z1]) (Ts := []) (E := []) (Ob := []) [0] [] [] [] [] [z1] [] [] [] (fun _ => [z3]) (fun _ => []) (fun _ _ => True) (fun v_ => []) (fun _ => by kernel_rfl) mn an (by kernel_rfl) (by kernel_rfl) (by kernel_rfl) (by kernel_rfl) (by kernel_rfl) (by kernel_rfl) (fun _ => by kernel_rfl) (advance_ap m (vscale (⟨c.nx, c.ny⟩ : V2) am) q _) ?_
  rintro _ _ _
  refine TL.fin (by kernel_rfl) ?_
  refine EX.fin (A := [z3]) (Ts := []) rfl rfl [] [] (.tuple #[]) [] [] (fun _ => by kernel_rfl) mn an [0] [] [] [] (ap [z3] []) (by kernel_rfl) (by kernel_rfl) (by kernel_rfl) ?_
  exact ⟨(), rfl, trivial⟩

set_option maxHeartbeats 400000 in
set_option maxRecDepth 100000 in
theorem chg_retreat (m : Mot) (c : Con) (am : Int) (q qc : Nat) (F : HL) (hc : (qc, .lit [vI c.nx, vI c.ny, vI c.d] 99 (0, 0)) ∈ F) : Sp Tryz.prog 73 #[.func (.func 77) #[vP q 0] #[], vI am, vP qc 0] (ap [(q, .lit [vI m.px, vI m.py, vI m.vx, vI m.vy, vI m.inv] 126 (0, 0))] []) F (fun u H' => ∃ x : Unit, H' = ap [(q, .lit [vI ((retM' m (vscale ⟨c.nx, c.ny⟩ am)).px), vI ((retM' m (vscale ⟨c.nx, c.ny⟩ am)).py), vI ((retM' m (vscale ⟨c.nx, c.ny⟩ am)).vx), vI ((retM' m (vscale ⟨c.nx, c.ny⟩ am)).vy), vI ((retM' m (vscale ⟨c.nx, c.ny⟩ am)).inv)] 126 (0, 0))] [] ∧ True) := by
  refine Sp.of_body Tryz.func73 rfl rfl rfl [(0, .func (.func 77) #[vP q 0] #[]), (1, vI am), (2, vP qc 0)] rfl ?_
  intro w0
  let z1 : Nat × Blk := (q, .lit [vI m.px, vI m.py, vI m.vx, vI m.vy, vI m.inv] 126 (0, 0))
  refine TR.convH (ap [z1] []) rfl ?_
  refine TR.reg ?_
  let z2 : Nat × Value := (5, .func (.func 77) #[vP q 0] #[])
  refine TL.seg0 4 [(qc, .lit [vI c.nx, vI c.ny, vI c.d] 99 (0, 0))] [.ro 0, .ro 0] [5, 7, 8] [z2, (7, .agg #[vI c.nx, vI c.ny]), (8, vI am)] (ap [z1] []) [qc, qc] [] (fun _ => by kernel_rfl) (mc hc mn) an ?_
  refine TL.callp (dst := (some 9)) (f := 24) (args := #[.agg #[vI c.nx, vI c.ny], vI am]) (H1 := (ap [z1] [])) (E := []) (Ob := []) [] [] [5, 9] (.agg #[vI ((vscale (⟨c.nx, c.ny⟩ : V2) am).x), vI ((vscale (⟨c.nx, c.ny⟩ : V2) am).y)]) [z2, (9, .agg #[vI ((vscale (⟨c.nx, c.ny⟩ : V2) am).x), vI ((vscale (⟨c.nx, c.ny⟩ : V2) am).y)])] (fun _ => by kernel_rfl) mn an (vscale_any (⟨c.nx, c.ny⟩ : V2) am  _) (by kernel_rfl) ?_
  let z3 : Nat × Blk := (q, .lit [vI ((retM' m (vscale (⟨c.nx, c.ny⟩ : V2) am)).px), vI ((retM' m (vscale (⟨c.nx, c.ny⟩ : V2) am)).py), vI ((retM' m (vscale (⟨c.nx, c.ny⟩ : V2) am)).vx), vI ((retM' m (vscale (⟨c.nx, c.ny⟩ : V2) am)).vy), vI ((retM' m (vscale (⟨c.nx, c.ny⟩ : V2) am)).inv)] 126 (0, 0))
  refine TL.callT (τ := Unit) [] [] (dst := (some 10)) (f := 77) (args := #[vP q 0, .agg #[vI ((vscale (⟨c.nx, c.ny⟩ : V2) am).x), vI ((vscale (⟨c.nx, c.ny⟩ : V2) am).y)]]) (A := [z1]) (Ts := []) (E := []) (Ob := []) [0] [] [] [] [] [z1] [] [] [] (fun _ => [z3]) (fun _ => []) (fun _ _ => True) (fun v_ => []) (fun _ => by kernel_rfl) mn an (by kernel_rfl) (by kernel_rfl) (by kernel_rfl) (by kernel_rfl) (by kernel_rfl) (by kernel_rfl) (fun _ => by kernel_rfl) (retreat_ap m (vscale (⟨c.nx, c.ny⟩ : V2) am) q _) ?_
  rintro _ _ _
  refine TL.fin (by kernel_rfl) ?_
  refine EX.fin (A := [z3]) (Ts := []) rfl rfl [] [] (.tuple #[]) [] [] (fun _ => by kernel_rfl) mn an [0] [] [] [] (ap [z3] []) (by kernel_rfl) (by kernel_rfl) (by kernel_rfl) ?_
  exact ⟨(), rfl, trivial⟩

set_option maxHeartbeats 1000000 in
set_option maxRecDepth 100000 in
theorem resolve_any (a b : Mot) (c : Con) (rest : Int) (F : HL) : Sp Tryz.prog 59 #[.agg #[vI a.px, vI a.py, vI a.vx, vI a.vy, vI a.inv], .agg #[vI b.px, vI b.py, vI b.vx, vI b.vy, vI b.inv], .agg #[vI c.nx, vI c.ny, vI c.d], vI rest] [] F (fun u H' => u = .tuple #[.agg #[vI (((resolveS a b c rest).1).px), vI (((resolveS a b c rest).1).py), vI (((resolveS a b c rest).1).vx), vI (((resolveS a b c rest).1).vy), vI (((resolveS a b c rest).1).inv)], .agg #[vI (((resolveS a b c rest).2).px), vI (((resolveS a b c rest).2).py), vI (((resolveS a b c rest).2).vx), vI (((resolveS a b c rest).2).vy), vI (((resolveS a b c rest).2).inv)]] ∧ H' = []) := by
  refine Sp.of_body Tryz.func59 rfl rfl rfl [(0, .agg #[vI a.px, vI a.py, vI a.vx, vI a.vy, vI a.inv]), (1, .agg #[vI b.px, vI b.py, vI b.vx, vI b.vy, vI b.inv]), (2, .agg #[vI c.nx, vI c.ny, vI c.d]), (3, vI rest)] rfl ?_
  intro w0
  refine TR.convH (ap [] []) rfl ?_
  refine TR.seq ?_
  refine TR.reg ?_
  let z1 : List Value := [vI b.px, vI b.py, vI b.vx, vI b.vy, vI b.inv]
  let z2 : List Value := [vI a.px, vI a.py, vI a.vx, vI a.vy, vI a.inv]
  refine TL.seg 5 [] [] [3, 4, 5, 6, 8, 9] (fun n1 => [(3, vI rest), (4, vP (n1 + 0) 0), (5, vP (n1 + 1) 0), (6, vP (n1 + 2) 0), (8, vP (n1 + 3) 0), (9, vP (n1 + 4) 0)]) (fun n1 => (ap [((n1 + 4), .lit [vI 0, vI 0, vI 0, vI 0, vI 0] 38 (0, 0)), ((n1 + 3), .lit [vI 0, vI 0, vI 0, vI 0, vI 0] 38 (0, 0)), ((n1 + 2), .lit [vI c.nx, vI c.ny, vI c.d] 99 (0, 0)), ((n1 + 1), .lit z1 38 (0, 0)), ((n1 + 0), .lit z2 38 (0, 0))] [])) (fun n1 => []) (fun n1 => []) (fun _ => by kernel_rfl) mn (fun n1 => an) ?_
  intro n1
  refine TL.fin (by kernel_rfl) ?_
  refine EX.next ?_
  refine TR.seq ?_
  refine TR.reg ?_
  let z3 : Nat × Value := (4, vP (n1 + 0) 0)
  let z4 : Nat × Value := (5, vP (n1 + 1) 0)
  let z5 : Nat × Value := (6, vP (n1 + 2) 0)
  let z6 : Nat × Value := (8, vP (n1 + 3) 0)
  let z7 : Nat × Value := (9, vP (n1 + 4) 0)
  let z8 := a.inv + b.inv
  let z9 := IntKind.i64.wrap z8
  let z10 : Nat × Value := (10, vI z9)
  let z11 : Nat × Blk := ((n1 + 4), .lit [vI 0, vI 0, vI 0, vI 0, vI 0] 38 (0, 0))
  let z12 : Nat × Blk := ((n1 + 3), .lit [vI 0, vI 0, vI 0, vI 0, vI 0] 38 (0, 0))
  let z13 : Nat × Blk := ((n1 + 2), .lit [vI c.nx, vI c.ny, vI c.d] 99 (0, 0))
  let z14 : Nat × Blk := ((n1 + 1), .lit z1 38 (0, 0))
  let z15 : Nat × Blk := ((n1 + 0), .lit z2 38 (0, 0))
  refine TL.seg0 6 [] [.own 4, .own 3] [3, 4, 5, 6, 8, 9, 10] [(3, vI rest), z3, z4, z5, z6, z7, z10] (ap [z11, z12, z13, z14, z15] []) [(n1 + 1), (n1 + 0)] [] (fun _ => by kernel_rfl) mn an ?_
  refine TL.fin (by kernel_rfl) ?_
  refine EX.next ?_
  refine TR.seq ?_
  refine TR.seq ?_
  refine TR.reg ?_
  refine TL.seg0 2 [] [] [3, 4, 5, 6, 8, 9, 10, 22] [(3, vI rest), z3, z4, z5, z6, z7, z10, (22, .bool (decide (IntKind.i64.wrap z8 = 0)))] (ap [z11, z12, z13, z14, z15] []) [] [] (fun _ => by kernel_rfl) mn an ?_
  refine TL.fin (by kernel_rfl) ?_
  refine EX.next ?_
  rcases Decidable.em (IntKind.i64.wrap (a.inv + b.inv) = 0) with h2 | h2
  · refine TR.yes (b := decide (IntKind.i64.wrap z8 = 0)) (by kernel_rfl) (by kernel_rfl) (decide_eq_true h2) ?_
    refine TR.seq ?_
    refine TR.draw [2, 3] [z13, z14, z15] rfl (by kernel_rfl) ?_
    let z16 : Nat × Value := (24, .agg #[vI b.px, vI b.py, vI b.vx, vI b.vy, vI b.inv])
    refine TD.vals [2, 3, 4] (by kernel_rfl) [0, 1] [] [.own 4, .own 4, .own 4, .own 4, .own 4, .ro 1, .ro 1, .ro 1, .ro 1, .ro 1] [8, 9, 23, 24] [true, true, false, false] [z6, z7, (23, .agg #[vI a.px, vI a.py, vI a.vx, vI a.vy, vI a.inv]), z16] [(n1 + 1), (n1 + 1), (n1 + 1), (n1 + 1), (n1 + 1), (n1 + 0), (n1 + 0), (n1 + 0), (n1 + 0), (n1 + 0)] [] (by kernel_rfl) (by kernel_rfl) mn an 2 rfl ?_
    refine TD.one 2 (by kernel_rfl) 1 rfl fun a_ hF_ hcl_ => ?_
    let z17 : Nat × Blk := ((n1 + 3), .lit z2 38 (0, 0))
    refine OPJ.ev [] [.own 1, .own 1, .own 1, .own 1, .own 1] [8, 9, 24] (fun _ => [z6, z7, z16]) (fun _ => (ap [z11, z17, z13, z14, z15] [])) (fun _ => [(n1 + 3), (n1 + 3), (n1 + 3), (n1 + 3), (n1 + 3)]) (fun _ => []) (fun _ => by kernel_rfl) mn (fun _ => an) (.inl ⟨[2, 3, 4], fun _ => by kernel_rfl⟩) (.inl (by decide)) (fun _ => ?_) hF_ hcl_
    refine TD.one 3 (by kernel_rfl) 0 rfl fun a_ hF_ hcl_ => ?_
    let z18 : Nat × Blk := ((n1 + 4), .lit z1 38 (0, 0))
    refine OPJ.ev [] [.own 0, .own 0, .own 0, .own 0, .own 0] [8, 9] (fun _ => [z6, z7]) (fun _ => (ap [z18, z17, z13, z14, z15] [])) (fun _ => [(n1 + 4), (n1 + 4), (n1 + 4), (n1 + 4), (n1 + 4)]) (fun _ => []) (fun _ => by kernel_rfl) mn (fun _ => an) (.inl ⟨[2, 3, 4], fun _ => by kernel_rfl⟩) (.inl (by decide)) (fun _ => ?_) hF_ hcl_
    refine TD.fin (by kernel_rfl) (EX.np ?_)
    refine EX.next ?_
    refine TR.ret (A := [z18, z17, z13, z14, z15]) (Ts := []) (by exact fun _ _ h => h) rfl rfl [] [.own 1, .own 1, .own 1, .own 1, .own 1, .own 0, .own 0, .own 0, .own 0, .own 0] (.tuple #[.agg #[vI a.px, vI a.py, vI a.vx, vI a.vy, vI a.inv], .agg #[vI b.px, vI b.py, vI b.vx, vI b.vy, vI b.inv]]) [(n1 + 4), (n1 + 4), (n1 + 4), (n1 + 4), (n1 + 4), (n1 + 3), (n1 + 3), (n1 + 3), (n1 + 3), (n1 + 3)] [] (fun _ => by kernel_rfl) mn an [] [0, 1, 2, 3, 4] [] [] [] (by kernel_rfl) (by kernel_rfl) (by kernel_rfl) ?_
    refine ⟨?_, rfl⟩
    rw [show resolveS a b c rest = (a, b) from if_pos (show w64 (a.inv + b.inv) = 0 from h2)]
  · refine TR.no (b := decide (IntKind.i64.wrap z8 = 0)) (by kernel_rfl) (by kernel_rfl) (decide_eq_false h2) ?_
    refine TR.skip ?_
    refine EX.next ?_
    refine TR.seq ?_
    refine TR.draw [6, 7] [z11, z12, z13, z14, z15] rfl (by kernel_rfl) ?_
    let z19 : Nat × Value := (26, .agg #[vI a.px, vI a.py, vI a.vx, vI a.vy, vI a.inv])
    let z20 : Nat × Value := (28, .agg #[vI b.px, vI b.py, vI b.vx, vI b.vy, vI b.inv])
    refine TD.vals [0, 1, 2, 3, 4] (by kernel_rfl) [0, 2, 1, 3] [] [.own 4, .own 4, .own 4, .own 4, .own 4, .ro 3, .ro 3, .ro 3, .ro 3, .ro 3] [3, 4, 5, 6, 8, 9, 10, 26, 28] [true, true, true, true, false, false, false, false] [(3, vI rest), z3, z4, z5, z6, z7, z10, z19, z20] [(n1 + 1), (n1 + 1), (n1 + 1), (n1 + 1), (n1 + 1), (n1 + 0), (n1 + 0), (n1 + 0), (n1 + 0), (n1 + 0)] [] (by kernel_rfl) (by kernel_rfl) mn an 4 rfl ?_
    refine TD.haveK (σ := Nat × Nat) 0 [true, true, true, true, true, true, true, true] (fun (x : Nat × Nat) => match x with | ⟨n5, n6⟩ => [(3, vI rest), z3, z4, z5, z6, z7, z10, (11, vP (n5 + 0) 0), (12, vP (n6 + 0) 0)]) (fun (x : Nat × Nat) => match x with | ⟨n5, n6⟩ => (ap [((n6 + 0), .lit z1 126 (0, 0)), ((n5 + 0), .lit z2 126 (0, 0)), z11, z12, z13, z14, z15] [])) ?_ ?_
    · rintro ⟨n5, n6⟩
      refine TD.fin (by kernel_rfl) (EX.np ?_)
      refine EX.next ?_
      refine TR.seq ?_
      refine TR.reg ?_
      let z21 : Nat × Value := (11, vP (n5 + 0) 0)
      let z22 : Nat × Value := (12, vP (n6 + 0) 0)
      let z23 : Nat × Value := (13, .func (.func 73) #[] #[vP (n1 + 2) 0])
      let z24 : Nat × Blk := ((n6 + 0), .lit z1 126 (0, 0))
      let z25 : Nat × Blk := ((n5 + 0), .lit z2 126 (0, 0))
      refine TL.seg0 2 [] [] [3, 4, 5, 6, 8, 9, 10, 11, 12, 13] [(3, vI rest), z3, z4, z5, z6, z7, z10, z21, z22, z23] (ap [z24, z25, z11, z12, z13, z14, z15] []) [] [] (fun _ => by kernel_rfl) mn an ?_
      refine TL.fin (by kernel_rfl) ?_
      refine EX.next ?_
      refine TR.seq ?_
      refine TR.seq ?_
      refine TR.draw [] [] rfl (by kernel_rfl) ?_
      let z26 : Nat × Value := (36, .agg #[vI c.nx, vI c.ny])
      refine TD.vals [] (by kernel_rfl) [0, 2, 5, 1, 3, 6] [] [.own 5, .own 5, .own 6, .own 6, .own 4, .own 4] [3, 4, 5, 6, 8, 9, 10, 11, 12, 13, 31, 33, 36] [true, true, true, true, false, true, true, false, false] [(3, vI rest), z3, z4, z5, z6, z7, z10, z21, z22, z23, (31, .agg #[vI b.vx, vI b.vy]), (33, .agg #[vI a.vx, vI a.vy]), z26] [(n1 + 2), (n1 + 2), (n1 + 0), (n1 + 0), (n1 + 1), (n1 + 1)] [] (by kernel_rfl) (by kernel_rfl) mn an 3 rfl ?_
      let z27 := (⟨b.vx, b.vy⟩ : V2)
      let z28 := (⟨a.vx, a.vy⟩ : V2)
      let z29 := vsub z27 z28
      refine TD.callv [] (by kernel_rfl) 4 [] [] (dst := (some 34)) (f := 71) (args := #[.agg #[vI b.vx, vI b.vy], .agg #[vI a.vx, vI a.vy]]) (E := []) (Ob := []) [3, 4, 5, 6, 8, 9, 10, 11, 12, 13, 34, 36] (.agg #[vI (z29.x), vI (z29.y)]) [(3, vI rest), z3, z4, z5, z6, z7, z10, z21, z22, z23, (34, .agg #[vI (z29.x), vI (z29.y)]), z26] (by kernel_rfl) (by kernel_rfl) (by kernel_rfl) mn an (fun X_ => (vsub_any z27 z28  _)) (by kernel_rfl) 2 rfl ?_
      let z30 := (⟨c.nx, c.ny⟩ : V2)
      let z31 := vdot z29 z30
      refine TD.callv [] (by kernel_rfl) 7 [] [] (dst := (some 37)) (f := 70) (args := #[.agg #[vI (z29.x), vI (z29.y)], .agg #[vI c.nx, vI c.ny]]) (E := []) (Ob := []) [3, 4, 5, 6, 8, 9, 10, 11, 12, 13, 37] (vI z31) [(3, vI rest), z3, z4, z5, z6, z7, z10, z21, z22, z23, (37, vI z31)] (by kernel_rfl) (by kernel_rfl) (by kernel_rfl) mn an (fun X_ => (vdot_any z29 z30  _)) (by kernel_rfl) 1 rfl ?_
      let z32 : Nat × Value := (14, vI z31)
      refine TD.vals [] (by kernel_rfl) [8] [] [] [3, 4, 5, 6, 8, 9, 10, 11, 12, 13, 14] [true, true, true, true, true, true, true, true, true] [(3, vI rest), z3, z4, z5, z6, z7, z10, z21, z22, z23, z32] [] [] (by kernel_rfl) (by kernel_rfl) mn an 0 rfl ?_
      refine TD.fin (by kernel_rfl) (EX.np ?_)
      refine EX.next ?_
      refine TR.seq ?_
      refine TR.reg ?_
      refine TL.seg0 2 [] [] [3, 4, 5, 6, 8, 9, 10, 11, 12, 13, 14, 39] [(3, vI rest), z3, z4, z5, z6, z7, z10, z21, z22, z23, z32, (39, .bool (decide (vdot z29 z30 < 0)))] (ap [z24, z25, z11, z12, z13, z14, z15] []) [] [] (fun _ => by kernel_rfl) mn an ?_
      refine TL.fin (by kernel_rfl) ?_
      refine EX.next ?_
      rcases Decidable.em (vdot (vsub (⟨b.vx, b.vy⟩ : V2) (⟨a.vx, a.vy⟩ : V2)) (⟨c.nx, c.ny⟩ : V2) < 0) with h7 | h7
      · refine TR.yes (b := decide (vdot z29 z30 < 0)) (by kernel_rfl) (by kernel_rfl) (decide_eq_true h7) ?_
        refine TR.seq ?_
        refine TR.reg ?_
        let z33 := IntKind.i64.wrap (0 - z31)
        let z34 := IntKind.i64.wrap (1024 + rest)
        refine TL.seg0 5 [] [] [4, 5, 6, 8, 9, 10, 11, 12, 13, 41, 43, 44] [z3, z4, z5, z6, z7, z10, z21, z22, z23, (41, vI z33), (43, vI z34), (44, vI z9)] (ap [z24, z25, z11, z12, z13, z14, z15] []) [] [] (fun _ => by kernel_rfl) mn an ?_
        let z35 := mulDivI z33 z34 z9
        refine TL.callp (dst := (some 45)) (f := 74) (args := #[vI z33, vI z34, vI z9]) (H1 := (ap [z24, z25, z11, z12, z13, z14, z15] [])) (E := []) (Ob := []) [] [] [4, 5, 6, 8, 9, 10, 11, 12, 13, 45] (vI z35) [z3, z4, z5, z6, z7, z10, z21, z22, z23, (45, vI z35)] (fun _ => by kernel_rfl) mn an (mulDiv_any z33 z34 z9  _) (by kernel_rfl) ?_
        let z36 : Nat × Value := (15, vI z35)
        refine TL.seg0 1 [] [] [4, 5, 6, 8, 9, 10, 11, 12, 13, 15] [z3, z4, z5, z6, z7, z10, z21, z22, z23, z36] (ap [z24, z25, z11, z12, z13, z14, z15] []) [] [] (fun _ => by kernel_rfl) mn an ?_
        refine TL.fin (by kernel_rfl) ?_
        refine EX.next ?_
        refine TR.seq ?_
        refine TR.reg ?_
        let z37 : Nat × Value := (46, .func (.func 73) #[] #[vP (n1 + 2) 0])
        let z38 : Nat × Value := (47, .func (.func 75) #[vP (n5 + 0) 0] #[])
        refine TL.seg0 5 [] [.own 6] [4, 5, 6, 8, 9, 10, 11, 12, 13, 15, 46, 47, 48, 50] [z3, z4, z5, z6, z7, z10, z21, z22, z23, z36, z37, z38, (48, vI z35), (50, vI a.inv)] (ap [z24, z25, z11, z12, z13, z14, z15] []) [(n1 + 0)] [] (fun _ => by kernel_rfl) mn an ?_
        let z39 := mulI z35 a.inv
        refine TL.callp (dst := (some 51)) (f := 42) (args := #[vI z35, vI a.inv]) (H1 := (ap [z24, z25, z11, z12, z13, z14, z15] [])) (E := []) (Ob := []) [] [] [4, 5, 6, 8, 9, 10, 11, 12, 13, 15, 46, 47, 51] (vI z39) [z3, z4, z5, z6, z7, z10, z21, z22, z23, z36, z37, z38, (51, vI z39)] (fun _ => by kernel_rfl) mn an (mul_any z35 a.inv  _) (by kernel_rfl) ?_
        let z40 := slowM a (vscale ⟨c.nx, c.ny⟩ z39)
        let z41 : Nat × Blk := ((n5 + 0), .lit [vI (z40.px), vI (z40.py), vI (z40.vx), vI (z40.vy), vI (z40.inv)] 126 (0, 0))
        refine TL.callT (τ := Unit) [] [] (dst := (some 52)) (f := 73) (args := #[.func (.func 75) #[vP (n5 + 0) 0] #[], vI z39, vP (n1 + 2) 0]) (A := [z24, z25, z11, z12, z13, z14, z15]) (Ts := []) (E := []) (Ob := []) [1] [0, 2, 3, 4, 5, 6] [] [] [4, 5, 6, 8, 9, 10, 11, 12, 13, 15] [z25] [z24, z11, z12, z13, z14, z15] [] [] (fun _ => [z41]) (fun _ => []) (fun _ _ => True) (fun v_ => [z3, z4, z5, z6, z7, z10, z21, z22, z23, z36]) (fun _ => by kernel_rfl) mn an (by kernel_rfl) (by kernel_rfl) (by kernel_rfl) (by kernel_rfl) (by kernel_rfl) (by kernel_rfl) (fun _ => by kernel_rfl) (chg_slowDown a c z39 (n5 + 0) (n1 + 2) _ (in_ap 3 rfl)) ?_
        rintro _ _ _
        refine TL.fin (by kernel_rfl) ?_
        refine EX.next ?_
        refine TR.reg ?_
        let z42 : Nat × Value := (53, .func (.func 73) #[] #[vP (n1 + 2) 0])
        let z43 : Nat × Value := (54, .func (.func 76) #[vP (n6 + 0) 0] #[])
        refine TL.seg0 5 [] [.own 5] [4, 5, 6, 8, 9, 10, 11, 12, 13, 53, 54, 55, 57] [z3, z4, z5, z6, z7, z10, z21, z22, z23, z42, z43, (55, vI z35), (57, vI b.inv)] (ap [z41, z24, z11, z12, z13, z14, z15] []) [(n1 + 1)] [] (fun _ => by kernel_rfl) mn an ?_
        let z44 := mulI z35 b.inv
        refine TL.callp (dst := (some 58)) (f := 42) (args := #[vI z35, vI b.inv]) (H1 := (ap [z41, z24, z11, z12, z13, z14, z15] [])) (E := []) (Ob := []) [] [] [4, 5, 6, 8, 9, 10, 11, 12, 13, 53, 54, 58] (vI z44) [z3, z4, z5, z6, z7, z10, z21, z22, z23, z42, z43, (58, vI z44)] (fun _ => by kernel_rfl) mn an (mul_any z35 b.inv  _) (by kernel_rfl) ?_
        let z45 := speedM b (vscale ⟨c.nx, c.ny⟩ z44)
        let z46 : Nat × Blk := ((n6 + 0), .lit [vI (z45.px), vI (z45.py), vI (z45.vx), vI (z45.vy), vI (z45.inv)] 126 (0, 0))
        refine TL.callT (τ := Unit) [] [] (dst := (some 59)) (f := 73) (args := #[.func (.func 76) #[vP (n6 + 0) 0] #[], vI z44, vP (n1 + 2) 0]) (A := [z41, z24, z11, z12, z13, z14, z15]) (Ts := []) (E := []) (Ob := []) [1] [0, 2, 3, 4, 5, 6] [] [] [4, 5, 6, 8, 9, 10, 11, 12, 13] [z24] [z41, z11, z12, z13, z14, z15] [] [] (fun _ => [z46]) (fun _ => []) (fun _ _ => True) (fun v_ => [z3, z4, z5, z6, z7, z10, z21, z22, z23]) (fun _ => by kernel_rfl) mn an (by kernel_rfl) (by kernel_rfl) (by kernel_rfl) (by kernel_rfl) (by kernel_rfl) (by kernel_rfl) (fun _ => by kernel_rfl) (chg_speedUp b c z44 (n6 + 0) (n1 + 2) _ (in_ap 3 rfl)) ?_
        rintro _ _ _
        refine TL.fin (by kernel_rfl) ?_
        refine EX.next ?_
        refine TR.seq ?_
        refine TR.reg ?_
        let z47 : Nat × Value := (60, .func (.func 73) #[] #[vP (n1 + 2) 0])
        let z48 : Nat × Value := (61, .func (.func 77) #[vP (n5 + 0) 0] #[])
        refine TL.seg0 7 [] [.own 4, .own 6] [5, 6, 8, 9, 10, 11, 12, 13, 60, 61, 63, 65, 66] [z4, z5, z6, z7, z10, z21, z22, z23, z47, z48, (63, vI c.d), (65, vI a.inv), (66, vI z9)] (ap [z46, z41, z11, z12, z13, z14, z15] []) [(n1 + 0), (n1 + 2)] [] (fun _ => by kernel_rfl) mn an ?_
        let z49 := mulDivI c.d a.inv z9
        refine TL.callp (dst := (some 67)) (f := 74) (args := #[vI c.d, vI a.inv, vI z9]) (H1 := (ap [z46, z41, z11, z12, z13, z14, z15] [])) (E := []) (Ob := []) [] [] [5, 6, 8, 9, 10, 11, 12, 13, 60, 61, 67] (vI z49) [z4, z5, z6, z7, z10, z21, z22, z23, z47, z48, (67, vI z49)] (fun _ => by kernel_rfl) mn an (mulDiv_any c.d a.inv z9  _) (by kernel_rfl) ?_
        let z50 := retM' z40 (vscale ⟨c.nx, c.ny⟩ z49)
        let z51 : Nat × Blk := ((n5 + 0), .lit [vI (z50.px), vI (z50.py), vI (z50.vx), vI (z50.vy), vI (z50.inv)] 126 (0, 0))
        refine TL.callT (τ := Unit) [] [] (dst := (some 68)) (f := 73) (args := #[.func (.func 77) #[vP (n5 + 0) 0] #[], vI z49, vP (n1 + 2) 0]) (A := [z46, z41, z11, z12, z13, z14, z15]) (Ts := []) (E := []) (Ob := []) [1] [0, 2, 3, 4, 5, 6] [] [] [5, 6, 8, 9, 10, 11, 12, 13] [z41] [z46, z11, z12, z13, z14, z15] [] [] (fun _ => [z51]) (fun _ => []) (fun _ _ => True) (fun v_ => [z4, z5, z6, z7, z10, z21, z22, z23]) (fun _ => by kernel_rfl) mn an (by kernel_rfl) (by kernel_rfl) (by kernel_rfl) (by kernel_rfl) (by kernel_rfl) (by kernel_rfl) (fun _ => by kernel_rfl) (chg_retreat z40 c z49 (n5 + 0) (n1 + 2) _ (in_ap 3 rfl)) ?_
        rintro _ _ _
        refine TL.fin (by kernel_rfl) ?_
        refine EX.next ?_
        refine TR.seq ?_
        refine TR.reg ?_
        let z52 : Nat × Value := (69, .func (.func 73) #[] #[vP (n1 + 2) 0])
        let z53 : Nat × Value := (70, .func (.func 78) #[vP (n6 + 0) 0] #[])
        refine TL.seg0 7 [] [.own 4, .own 5] [8, 9, 11, 12, 69, 70, 72, 74, 75] [z6, z7, z21, z22, z52, z53, (72, vI c.d), (74, vI b.inv), (75, vI z9)] (ap [z51, z46, z11, z12, z13, z14, z15] []) [(n1 + 1), (n1 + 2)] [] (fun _ => by kernel_rfl) mn an ?_
        let z54 := mulDivI c.d b.inv z9
        refine TL.callp (dst := (some 76)) (f := 74) (args := #[vI c.d, vI b.inv, vI z9]) (H1 := (ap [z51, z46, z11, z12, z13, z14, z15] [])) (E := []) (Ob := []) [] [] [8, 9, 11, 12, 69, 70, 76] (vI z54) [z6, z7, z21, z22, z52, z53, (76, vI z54)] (fun _ => by kernel_rfl) mn an (mulDiv_any c.d b.inv z9  _) (by kernel_rfl) ?_
        let z55 := advM z45 (vscale ⟨c.nx, c.ny⟩ z54)
        let z56 : Nat × Blk := ((n6 + 0), .lit [vI (z55.px), vI (z55.py), vI (z55.vx), vI (z55.vy), vI (z55.inv)] 126 (0, 0))
        refine TL.callT (τ := Unit) [] [] (dst := (some 77)) (f := 73) (args := #[.func (.func 78) #[vP (n6 + 0) 0] #[], vI z54, vP (n1 + 2) 0]) (A := [z51, z46, z11, z12, z13, z14, z15]) (Ts := []) (E := []) (Ob := []) [1] [0, 2, 3, 4, 5, 6] [] [] [8, 9, 11, 12] [z46] [z51, z11, z12, z13, z14, z15] [] [] (fun _ => [z56]) (fun _ => []) (fun _ _ => True) (fun v_ => [z6, z7, z21, z22]) (fun _ => by kernel_rfl) mn an (by kernel_rfl) (by kernel_rfl) (by kernel_rfl) (by kernel_rfl) (by kernel_rfl) (by kernel_rfl) (fun _ => by kernel_rfl) (chg_advance z45 c z54 (n6 + 0) (n1 + 2) _ (in_ap 3 rfl)) ?_
        rintro _ _ _
        refine TL.fin (by kernel_rfl) ?_
        refine EX.next ?_
        refine TR.seq ?_
        refine TR.reg ?_
        let z57 := limM z50
        let z58 : Nat × Value := (78, .agg #[vI (z57.px), vI (z57.py), vI (z57.vx), vI (z57.vy), vI (z57.inv)])
        refine TL.callp (dst := (some 78)) (f := 79) (args := #[vP (n5 + 0) 0]) (H1 := (ap [z56, z51, z11, z12, z13, z14, z15] [])) (E := []) (Ob := []) [] [] [8, 9, 12, 78] (.agg #[vI (z57.px), vI (z57.py), vI (z57.vx), vI (z57.vy), vI (z57.inv)]) [z6, z7, z22, z58] (fun _ => by kernel_rfl) mn an (limited_any z50 (n5 + 0) _ (in_ap 1 rfl)) (by kernel_rfl) ?_
        let z59 := limM z55
        refine TL.callp (dst := (some 79)) (f := 79) (args := #[vP (n6 + 0) 0]) (H1 := (ap [z56, z51, z11, z12, z13, z14, z15] [])) (E := []) (Ob := []) [] [] [8, 9, 78, 79] (.agg #[vI (z59.px), vI (z59.py), vI (z59.vx), vI (z59.vy), vI (z59.inv)]) [z6, z7, z58, (79, .agg #[vI (z59.px), vI (z59.py), vI (z59.vx), vI (z59.vy), vI (z59.inv)])] (fun _ => by kernel_rfl) mn an (limited_any z55 (n6 + 0) _ (in_ap 0 rfl)) (by kernel_rfl) ?_
        let z60 : Nat × Blk := ((n1 + 4), .lit [vI (z59.px), vI (z59.py), vI (z59.vx), vI (z59.vy), vI (z59.inv)] 38 (0, 0))
        let z61 : Nat × Blk := ((n1 + 3), .lit [vI (z57.px), vI (z57.py), vI (z57.vx), vI (z57.vy), vI (z57.inv)] 38 (0, 0))
        refine TL.seg0 2 [] [.own 3, .own 3, .own 3, .own 3, .own 3, .own 2, .own 2, .own 2, .own 2, .own 2] [8, 9] [z6, z7] (ap [z56, z51, z60, z61, z13, z14, z15] []) [(n1 + 4), (n1 + 4), (n1 + 4), (n1 + 4), (n1 + 4), (n1 + 3), (n1 + 3), (n1 + 3), (n1 + 3), (n1 + 3)] [] (fun _ => by kernel_rfl) mn an ?_
        refine TL.fin (by kernel_rfl) ?_
        refine EX.next ?_
        refine TR.ret (A := [z56, z51, z60, z61, z13, z14, z15]) (Ts := []) (by exact fun _ _ h => h) rfl rfl [] [.own 3, .own 3, .own 3, .own 3, .own 3, .own 2, .own 2, .own 2, .own 2, .own 2] (.tuple #[.agg #[vI (z57.px), vI (z57.py), vI (z57.vx), vI (z57.vy), vI (z57.inv)], .agg #[vI (z59.px), vI (z59.py), vI (z59.vx), vI (z59.vy), vI (z59.inv)]]) [(n1 + 4), (n1 + 4), (n1 + 4), (n1 + 4), (n1 + 4), (n1 + 3), (n1 + 3), (n1 + 3), (n1 + 3), (n1 + 3)] [] (fun _ => by kernel_rfl) mn an [] [0, 1, 2, 3, 4, 5, 6] [] [] [] (by kernel_rfl) (by kernel_rfl) (by kernel_rfl) ?_
        refine ⟨?_, rfl⟩
        rw [show resolveS a b c rest = _ from if_neg (show ¬ w64 (a.inv + b.inv) = 0 from h2)]
        rw [show rsA a b c rest = _ from if_pos (show rsSp a b c < 0 from h7), show rsB a b c rest = _ from if_pos (show rsSp a b c < 0 from h7)]
        first | rfl | skip
      · refine TR.no (b := decide (vdot z29 z30 < 0)) (by kernel_rfl) (by kernel_rfl) (decide_eq_false h7) ?_
        refine TR.skip ?_
        refine EX.next ?_
        refine TR.seq ?_
        refine TR.reg ?_
        let z62 : Nat × Value := (60, .func (.func 73) #[] #[vP (n1 + 2) 0])
        let z63 : Nat × Value := (61, .func (.func 77) #[vP (n5 + 0) 0] #[])
        refine TL.seg0 7 [] [.own 4, .own 6] [5, 6, 8, 9, 10, 11, 12, 13, 60, 61, 63, 65, 66] [z4, z5, z6, z7, z10, z21, z22, z23, z62, z63, (63, vI c.d), (65, vI a.inv), (66, vI z9)] (ap [z24, z25, z11, z12, z13, z14, z15] []) [(n1 + 0), (n1 + 2)] [] (fun _ => by kernel_rfl) mn an ?_
        let z64 := mulDivI c.d a.inv z9
        refine TL.callp (dst := (some 67)) (f := 74) (args := #[vI c.d, vI a.inv, vI z9]) (H1 := (ap [z24, z25, z11, z12, z13, z14, z15] [])) (E := []) (Ob := []) [] [] [5, 6, 8, 9, 10, 11, 12, 13, 60, 61, 67] (vI z64) [z4, z5, z6, z7, z10, z21, z22, z23, z62, z63, (67, vI z64)] (fun _ => by kernel_rfl) mn an (mulDiv_any c.d a.inv z9  _) (by kernel_rfl) ?_
        let z65 := retM' a (vscale ⟨c.nx, c.ny⟩ z64)
        let z66 : Nat × Blk := ((n5 + 0), .lit [vI (z65.px), vI (z65.py), vI (z65.vx), vI (z65.vy), vI (z65.inv)] 126 (0, 0))
        refine TL.callT (τ := Unit) [] [] (dst := (some 68)) (f := 73) (args := #[.func (.func 77) #[vP (n5 + 0) 0] #[], vI z64, vP (n1 + 2) 0]) (A := [z24, z25, z11, z12, z13, z14, z15]) (Ts := []) (E := []) (Ob := []) [1] [0, 2, 3, 4, 5, 6] [] [] [5, 6, 8, 9, 10, 11, 12, 13] [z25] [z24, z11, z12, z13, z14, z15] [] [] (fun _ => [z66]) (fun _ => []) (fun _ _ => True) (fun v_ => [z4, z5, z6, z7, z10, z21, z22, z23]) (fun _ => by kernel_rfl) mn an (by kernel_rfl) (by kernel_rfl) (by kernel_rfl) (by kernel_rfl) (by kernel_rfl) (by kernel_rfl) (fun _ => by kernel_rfl) (chg_retreat a c z64 (n5 + 0) (n1 + 2) _ (in_ap 3 rfl)) ?_
        rintro _ _ _
        refine TL.fin (by kernel_rfl) ?_
        refine EX.next ?_
        refine TR.seq ?_
        refine TR.reg ?_
        let z67 : Nat × Value := (69, .func (.func 73) #[] #[vP (n1 + 2) 0])
        let z68 : Nat × Value := (70, .func (.func 78) #[vP (n6 + 0) 0] #[])
        refine TL.seg0 7 [] [.own 4, .own 5] [8, 9, 11, 12, 69, 70, 72, 74, 75] [z6, z7, z21, z22, z67, z68, (72, vI c.d), (74, vI b.inv), (75, vI z9)] (ap [z66, z24, z11, z12, z13, z14, z15] []) [(n1 + 1), (n1 + 2)] [] (fun _ => by kernel_rfl) mn an ?_
        let z69 := mulDivI c.d b.inv z9
        refine TL.callp (dst := (some 76)) (f := 74) (args := #[vI c.d, vI b.inv, vI z9]) (H1 := (ap [z66, z24, z11, z12, z13, z14, z15] [])) (E := []) (Ob := []) [] [] [8, 9, 11, 12, 69, 70, 76] (vI z69) [z6, z7, z21, z22, z67, z68, (76, vI z69)] (fun _ => by kernel_rfl) mn an (mulDiv_any c.d b.inv z9  _) (by kernel_rfl) ?_
        let z70 := advM b (vscale ⟨c.nx, c.ny⟩ z69)
        let z71 : Nat × Blk := ((n6 + 0), .lit [vI (z70.px), vI (z70.py), vI (z70.vx), vI (z70.vy), vI (z70.inv)] 126 (0, 0))
        refine TL.callT (τ := Unit) [] [] (dst := (some 77)) (f := 73) (args := #[.func (.func 78) #[vP (n6 + 0) 0] #[], vI z69, vP (n1 + 2) 0]) (A := [z66, z24, z11, z12, z13, z14, z15]) (Ts := []) (E := []) (Ob := []) [1] [0, 2, 3, 4, 5, 6] [] [] [8, 9, 11, 12] [z24] [z66, z11, z12, z13, z14, z15] [] [] (fun _ => [z71]) (fun _ => []) (fun _ _ => True) (fun v_ => [z6, z7, z21, z22]) (fun _ => by kernel_rfl) mn an (by kernel_rfl) (by kernel_rfl) (by kernel_rfl) (by kernel_rfl) (by kernel_rfl) (by kernel_rfl) (fun _ => by kernel_rfl) (chg_advance b c z69 (n6 + 0) (n1 + 2) _ (in_ap 3 rfl)) ?_
        rintro _ _ _
        refine TL.fin (by kernel_rfl) ?_
        refine EX.next ?_
        refine TR.seq ?_
        refine TR.reg ?_
        let z72 := limM z65
        let z73 : Nat × Value := (78, .agg #[vI (z72.px), vI (z72.py), vI (z72.vx), vI (z72.vy), vI (z72.inv)])
        refine TL.callp (dst := (some 78)) (f := 79) (args := #[vP (n5 + 0) 0]) (H1 := (ap [z71, z66, z11, z12, z13, z14, z15] [])) (E := []) (Ob := []) [] [] [8, 9, 12, 78] (.agg #[vI (z72.px), vI (z72.py), vI (z72.vx), vI (z72.vy), vI (z72.inv)]) [z6, z7, z22, z73] (fun _ => by kernel_rfl) mn an (limited_any z65 (n5 + 0) _ (in_ap 1 rfl)) (by kernel_rfl) ?_
        let z74 := limM z70
        refine TL.callp (dst := (some 79)) (f := 79) (args := #[vP (n6 + 0) 0]) (H1 := (ap [z71, z66, z11, z12, z13, z14, z15] [])) (E := []) (Ob := []) [] [] [8, 9, 78, 79] (.agg #[vI (z74.px), vI (z74.py), vI (z74.vx), vI (z74.vy), vI (z74.inv)]) [z6, z7, z73, (79, .agg #[vI (z74.px), vI (z74.py), vI (z74.vx), vI (z74.vy), vI (z74.inv)])] (fun _ => by kernel_rfl) mn an (limited_any z70 (n6 + 0) _ (in_ap 0 rfl)) (by kernel_rfl) ?_
        let z75 : Nat × Blk := ((n1 + 4), .lit [vI (z74.px), vI (z74.py), vI (z74.vx), vI (z74.vy), vI (z74.inv)] 38 (0, 0))
        let z76 : Nat × Blk := ((n1 + 3), .lit [vI (z72.px), vI (z72.py), vI (z72.vx), vI (z72.vy), vI (z72.inv)] 38 (0, 0))
        refine TL.seg0 2 [] [.own 3, .own 3, .own 3, .own 3, .own 3, .own 2, .own 2, .own 2, .own 2, .own 2] [8, 9] [z6, z7] (ap [z71, z66, z75, z76, z13, z14, z15] []) [(n1 + 4), (n1 + 4), (n1 + 4), (n1 + 4), (n1 + 4), (n1 + 3), (n1 + 3), (n1 + 3), (n1 + 3), (n1 + 3)] [] (fun _ => by kernel_rfl) mn an ?_
        refine TL.fin (by kernel_rfl) ?_
        refine EX.next ?_
        refine TR.ret (A := [z71, z66, z75, z76, z13, z14, z15]) (Ts := []) (by exact fun _ _ h => h) rfl rfl [] [.own 3, .own 3, .own 3, .own 3, .own 3, .own 2, .own 2, .own 2, .own 2, .own 2] (.tuple #[.agg #[vI (z72.px), vI (z72.py), vI (z72.vx), vI (z72.vy), vI (z72.inv)], .agg #[vI (z74.px), vI (z74.py), vI (z74.vx), vI (z74.vy), vI (z74.inv)]]) [(n1 + 4), (n1 + 4), (n1 + 4), (n1 + 4), (n1 + 4), (n1 + 3), (n1 + 3), (n1 + 3), (n1 + 3), (n1 + 3)] [] (fun _ => by kernel_rfl) mn an [] [0, 1, 2, 3, 4, 5, 6] [] [] [] (by kernel_rfl) (by kernel_rfl) (by kernel_rfl) ?_
        refine ⟨?_, rfl⟩
        rw [show resolveS a b c rest = _ from if_neg (show ¬ w64 (a.inv + b.inv) = 0 from h2)]
        rw [show rsA a b c rest = _ from if_neg (show ¬ rsSp a b c < 0 from h7), show rsB a b c rest = _ from if_neg (show ¬ rsSp a b c < 0 from h7)]
        first | rfl | skip
    · intro key8
      refine TD.two 4 5 (by kernel_rfl) 3 rfl (fun a_ hF_ hcl_ => ?_) (fun a_ hF_ hcl_ => ?_)
      · refine OPJ.ev [] [] [3, 4, 5, 6, 8, 9, 10, 11, 26, 28] (fun n9 => [(3, vI rest), z3, z4, z5, z6, z7, z10, (11, vP (n9 + 0) 0), z19, z20]) (fun n9 => (ap [((n9 + 0), .lit [vI 0, vI 0, vI 0, vI 0, vI 0] 126 (0, 0)), z11, z12, z13, z14, z15] [])) (fun n9 => []) (fun n9 => []) (fun _ => by kernel_rfl) mn (fun n9 => an) (.inr ⟨by decide, fun n9 => ⟨[((n9 + 0), .lit [vI 0, vI 0, vI 0, vI 0, vI 0] 126 (0, 0))], rfl⟩⟩) (.inr fun n9 => ⟨[((n9 + 0), .lit [vI 0, vI 0, vI 0, vI 0, vI 0] 126 (0, 0))], rfl⟩) (fun n9 => ?_) hF_ hcl_
        refine TD.one 5 (by kernel_rfl) 2 rfl fun a_ hF_ hcl_ => ?_
        let z77 : Nat × Value := (11, vP (n9 + 0) 0)
        refine OPJ.ev [] [] [3, 4, 5, 6, 8, 9, 10, 11, 12, 26, 28] (fun n10 => [(3, vI rest), z3, z4, z5, z6, z7, z10, z77, (12, vP (n10 + 0) 0), z19, z20]) (fun n10 => (ap [((n10 + 0), .lit [vI 0, vI 0, vI 0, vI 0, vI 0] 126 (0, 0)), ((n9 + 0), .lit [vI 0, vI 0, vI 0, vI 0, vI 0] 126 (0, 0)), z11, z12, z13, z14, z15] [])) (fun n10 => []) (fun n10 => []) (fun _ => by kernel_rfl) mn (fun n10 => an) (.inr ⟨by decide, fun n10 => ⟨[((n10 + 0), .lit [vI 0, vI 0, vI 0, vI 0, vI 0] 126 (0, 0))], rfl⟩⟩) (.inr fun n10 => ⟨[((n10 + 0), .lit [vI 0, vI 0, vI 0, vI 0, vI 0] 126 (0, 0))], rfl⟩) (fun n10 => ?_) hF_ hcl_
        refine TD.one 6 (by kernel_rfl) 1 rfl fun a_ hF_ hcl_ => ?_
        let z78 : Nat × Value := (12, vP (n10 + 0) 0)
        let z79 : Nat × Blk := ((n9 + 0), .lit z2 126 (0, 0))
        refine OPJ.ev [] [.own 1, .own 1, .own 1, .own 1, .own 1] [3, 4, 5, 6, 8, 9, 10, 11, 12, 28] (fun _ => [(3, vI rest), z3, z4, z5, z6, z7, z10, z77, z78, z20]) (fun _ => (ap [((n10 + 0), .lit [vI 0, vI 0, vI 0, vI 0, vI 0] 126 (0, 0)), z79, z11, z12, z13, z14, z15] [])) (fun _ => [(n9 + 0), (n9 + 0), (n9 + 0), (n9 + 0), (n9 + 0)]) (fun _ => []) (fun _ => by kernel_rfl) mn (fun _ => an) (.inl ⟨[2, 3, 4, 5, 6], fun _ => by kernel_rfl⟩) (.inl (by decide)) (fun _ => ?_) hF_ hcl_
        refine TD.one 7 (by kernel_rfl) 0 rfl fun a_ hF_ hcl_ => ?_
        refine OPJ.ev [] [.own 0, .own 0, .own 0, .own 0, .own 0] [3, 4, 5, 6, 8, 9, 10, 11, 12] (fun _ => [(3, vI rest), z3, z4, z5, z6, z7, z10, z77, z78]) (fun _ => (ap [((n10 + 0), .lit z1 126 (0, 0)), z79, z11, z12, z13, z14, z15] [])) (fun _ => [(n10 + 0), (n10 + 0), (n10 + 0), (n10 + 0), (n10 + 0)]) (fun _ => []) (fun _ => by kernel_rfl) mn (fun _ => an) (.inl ⟨[2, 3, 4, 5, 6], fun _ => by kernel_rfl⟩) (.inl (by decide)) (fun _ => ?_) hF_ hcl_
        exact TD.perm [0, 1, 2, 3, 4, 5, 6] (by kernel_rfl) (by kernel_rfl) (key8 ⟨n9, n10⟩)
      · refine OPJ.ev [] [] [3, 4, 5, 6, 8, 9, 10, 12, 26, 28] (fun n11 => [(3, vI rest), z3, z4, z5, z6, z7, z10, (12, vP (n11 + 0) 0), z19, z20]) (fun n11 => (ap [((n11 + 0), .lit [vI 0, vI 0, vI 0, vI 0, vI 0] 126 (0, 0)), z11, z12, z13, z14, z15] [])) (fun n11 => []) (fun n11 => []) (fun _ => by kernel_rfl) mn (fun n11 => an) (.inr ⟨by decide, fun n11 => ⟨[((n11 + 0), .lit [vI 0, vI 0, vI 0, vI 0, vI 0] 126 (0, 0))], rfl⟩⟩) (.inr fun n11 => ⟨[((n11 + 0), .lit [vI 0, vI 0, vI 0, vI 0, vI 0] 126 (0, 0))], rfl⟩) (fun n11 => ?_) hF_ hcl_
        refine TD.one 4 (by kernel_rfl) 2 rfl fun a_ hF_ hcl_ => ?_
        let z80 : Nat × Value := (12, vP (n11 + 0) 0)
        let z81 : Nat × Blk := ((n11 + 0), .lit [vI 0, vI 0, vI 0, vI 0, vI 0] 126 (0, 0))
        refine OPJ.ev [] [] [3, 4, 5, 6, 8, 9, 10, 11, 12, 26, 28] (fun n12 => [(3, vI rest), z3, z4, z5, z6, z7, z10, (11, vP (n12 + 0) 0), z80, z19, z20]) (fun n12 => (ap [((n12 + 0), .lit [vI 0, vI 0, vI 0, vI 0, vI 0] 126 (0, 0)), z81, z11, z12, z13, z14, z15] [])) (fun n12 => []) (fun n12 => []) (fun _ => by kernel_rfl) mn (fun n12 => an) (.inr ⟨by decide, fun n12 => ⟨[((n12 + 0), .lit [vI 0, vI 0, vI 0, vI 0, vI 0] 126 (0, 0))], rfl⟩⟩) (.inr fun n12 => ⟨[((n12 + 0), .lit [vI 0, vI 0, vI 0, vI 0, vI 0] 126 (0, 0))], rfl⟩) (fun n12 => ?_) hF_ hcl_
        refine TD.one 6 (by kernel_rfl) 1 rfl fun a_ hF_ hcl_ => ?_
        let z82 : Nat × Value := (11, vP (n12 + 0) 0)
        let z83 : Nat × Blk := ((n12 + 0), .lit z2 126 (0, 0))
        refine OPJ.ev [] [.own 0, .own 0, .own 0, .own 0, .own 0] [3, 4, 5, 6, 8, 9, 10, 11, 12, 28] (fun _ => [(3, vI rest), z3, z4, z5, z6, z7, z10, z82, z80, z20]) (fun _ => (ap [z83, z81, z11, z12, z13, z14, z15] [])) (fun _ => [(n12 + 0), (n12 + 0), (n12 + 0), (n12 + 0), (n12 + 0)]) (fun _ => []) (fun _ => by kernel_rfl) mn (fun _ => an) (.inl ⟨[2, 3, 4, 5, 6], fun _ => by kernel_rfl⟩) (.inl (by decide)) (fun _ => ?_) hF_ hcl_
        refine TD.one 7 (by kernel_rfl) 0 rfl fun a_ hF_ hcl_ => ?_
        refine OPJ.ev [] [.own 1, .own 1, .own 1, .own 1, .own 1] [3, 4, 5, 6, 8, 9, 10, 11, 12] (fun _ => [(3, vI rest), z3, z4, z5, z6, z7, z10, z82, z80]) (fun _ => (ap [z83, ((n11 + 0), .lit z1 126 (0, 0)), z11, z12, z13, z14, z15] [])) (fun _ => [(n11 + 0), (n11 + 0), (n11 + 0), (n11 + 0), (n11 + 0)]) (fun _ => []) (fun _ => by kernel_rfl) mn (fun _ => an) (.inl ⟨[2, 3, 4, 5, 6], fun _ => by kernel_rfl⟩) (.inl (by decide)) (fun _ => ?_) hF_ hcl_
        exact TD.perm [1, 0, 2, 3, 4, 5, 6] (by kernel_rfl) (by kernel_rfl) (key8 ⟨n12, n11⟩)
end Go.Proofs.YtpkincoclhpcgaaGreatDoor
