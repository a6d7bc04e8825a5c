/- Contracts, printed by a program. -/
import Derived.Test.YtlefngomddjahaaGreatDoorU15
import Derived.Test.YtlefngomddjahaaGreatDoorU13
namespace Go.Proofs.YtlefngomddjahaaGreatDoor
set_option linter.unusedSimpArgs false
set_option linter.unusedVariables false
open Go.RowKit
/-- what an instruction leaves -/
structure VR where (M : MemS) (v : Int) (e : Eff) (em : Bool)
def effT : List (Int × Int × Int) := [(0, 0, 0), (0, 1, 0), (0, 1, 16), (1, 0, 16), (1, 1, 8), (2, 0, 8), (0, 1, 0), (0, 1, 0), (0, 1, 0), (2, 1, 0), (2, 1, 0), (2, 1, 0), (2, 1, 0), (1, 1, 0), (2, 1, 0), (2, 1, 0), (2, 1, 0), (1, 1, 0), (0, 0, 0), (1, 0, 0), (2, 0, 0), (0, 0, 0)]
abbrev eP (op : Int) : Int := (effT.getD op.toNat (0, 0, 0)).1
abbrev eQ (op : Int) : Int := (effT.getD op.toNat (0, 0, 0)).2.1
abbrev eN (op : Int) : Int := (effT.getD op.toNat (0, 0, 0)).2.2
def effrow : Nat → Nat → Value := fun i k => match k with | 0 => vI (effT.getD i (0, 0, 0)).1 | 1 => vI (effT.getD i (0, 0, 0)).2.1 | _ => vI (effT.getD i (0, 0, 0)).2.2
def satI (n : Int) : Int := clampI n (-2147483647) 2147483647
def boolI (b : Bool) : Int := if b = true then 1 else 0
def exeOk (op n sp : Int) : Bool := if op < 1 then false else if op > 21 then false else if sp > 16 then false else if sp < eP op then false else if w64 (w64 (sp - eP op) + eQ op) > 16 then false else if eN op = 0 then true else if n ≥ 0 then decide (n < eN op) else false
def limF (f v : Int) : Int := if f = 0 then clampI v (-1048576) 1048576 else if f = 1 then clampI v (-1048576) 1048576 else if f = 2 then clampI v (-16384) 16384 else if f = 3 then clampI v (-16384) 16384 else v
abbrev effS : ByteArray := ⟨#[101, 102, 102, 101, 99, 116]⟩
def emitV (k v : Int) (M : MemS) : VR := if M.get 11 ≥ 40 then ⟨M, 0, eff0, false⟩ else ⟨(M.set 12 (w64 ((sumH effS [M.get 12, M.get 0, k, v]).fdiv 2))).set 11 (w64 (M.get 11 + 1)), 0, ⟨M.get 0, M.get 11, k, v⟩, true⟩
/-- an instruction behind the popping of its operands -/
def execV (S : Setup) (op n a b : Int) (M : MemS) : VR :=
  if op = 1 then ⟨M, n, eff0, false⟩ else if op = 2 then ⟨M, M.get (w64 (32 + n)), eff0, false⟩ else if op = 6 then ⟨M, M.get 9, eff0, false⟩ else if op = 7 then ⟨M, M.get 10, eff0, false⟩ else if op = 8 then ⟨M, M.get 0, eff0, false⟩
  else if op = 9 then ⟨M, satI (w64 (a + b)), eff0, false⟩ else if op = 10 then ⟨M, satI (w64 (a - b)), eff0, false⟩ else if op = 11 then ⟨M, satI (w64 (a * b)), eff0, false⟩ else if op = 12 then ⟨M, if b = 0 then 0 else satI (w64 (a.tdiv b)), eff0, false⟩
  else if op = 14 then ⟨M, boolI (decide (a < b)), eff0, false⟩ else if op = 15 then ⟨M, boolI (decide (a ≤ b)), eff0, false⟩ else if op = 16 then ⟨M, boolI (decide (a = b)), eff0, false⟩
  else if op = 13 then ⟨M, satI (w64 (0 - a)), eff0, false⟩ else if op = 17 then ⟨M, boolI (decide (a = 0)), eff0, false⟩
  else if op = 3 then ⟨M.set (w64 (32 + n)) a, 0, eff0, false⟩ else if op = 4 then ⟨M, if bodyAt S a ≥ 0 then M.get (w64 (bodyAt S a + n)) else 0, eff0, false⟩ else if op = 5 then ⟨if bodyAt S a ≥ 0 then M.set (w64 (bodyAt S a + n)) (limF n b) else M, 0, eff0, false⟩
  else if op = 18 then ⟨M.set 6 n, 0, eff0, false⟩ else if op = 19 then ⟨if a = 0 then M.set 6 n else M, 0, eff0, false⟩ else if op = 20 then ⟨(emitV a b M).M, 0, (emitV a b M).e, (emitV a b M).em⟩ else ⟨M, 0, eff0, false⟩
def popA (op sp : Int) (M : MemS) : Int := if eP op = 2 then M.get (w64 (w64 (16 + sp) - eP op)) else if eP op = 1 then M.get (w64 (w64 (16 + sp) - eP op)) else 0
def popB (op sp : Int) (M : MemS) : Int := if eP op = 2 then M.get (w64 (w64 (w64 (16 + sp) - eP op) + 1)) else 0
def memP (op sp pc fuel : Int) (M : MemS) : MemS := if eP op = eQ op then (M.set 8 (w64 (fuel - 1))).set 6 (w64 (pc + 1)) else ((M.set 8 (w64 (fuel - 1))).set 6 (w64 (pc + 1))).set 7 (w64 (w64 (sp - eP op) + eQ op))
def stepI (S : Setup) (op n sp pc fuel : Int) (M : MemS) : VR := execV S op n (popA op sp M) (popB op sp M) (memP op sp pc fuel M)
def pushV (op sp : Int) (r : VR) : VR := if eQ op > 0 then ⟨r.M.set (w64 (w64 (16 + sp) - eP op)) r.v, r.v, r.e, r.em⟩ else r
abbrev codeA (code : List Ins) (M : MemS) : Ins := code.getD (M.get 6).toNat dIns
def runsV (code : List Ins) (n : Nat) (M : MemS) : Prop := ¬ M.get 8 < 1 ∧ ¬ M.get 6 < 0 ∧ ¬ M.get 6 ≥ (n : Int) ∧ exeOk (codeA code M).op (codeA code M).n (M.get 7) = true
instance (code : List Ins) (n : Nat) (M : MemS) : Decidable (runsV code n M) := inferInstanceAs (Decidable (_ ∧ _))
/-- one instruction: what is left; whether the handler has ended -/
def stepV (S : Setup) (code : List Ins) (n : Nat) (M : MemS) : VR := if runsV code n M then pushV (codeA code M).op (M.get 7) (stepI S (codeA code M).op (codeA code M).n (M.get 7) (M.get 6) (M.get 8) M) else ⟨M, 0, eff0, false⟩
def endV (code : List Ins) (n : Nat) (M : MemS) : Bool := if runsV code n M then decide ((codeA code M).op = 21) else true
def startV (e fuel self other : Int) (M : MemS) : MemS := if e < 0 then M else ((((M.set 6 e).set 7 0).set 8 fuel).set 9 self).set 10 other

def insE : Enc Ins := ⟨2, fun p k => match k with | 0 => vI p.op | 1 => vI p.n | _ => default, dIns⟩
noncomputable def insEI : TypeInfo := match Tryz.prog.info? 167 with | some i => i | none => ⟨.bool, "", 0, 0, false, 0, 0, none, false, #[]⟩
noncomputable def insEZ : Value := match insEI.zero with | some z => z | none => .bool false
theorem insEOk : EncOk insE Tryz.prog 167 insEI insEZ where
  info := by kernel_rfl
  zero := by kernel_rfl
  size := by kernel_rfl
  zsize := by kernel_rfl
  zcell := fun k hk => by
    have h : ∀ k < 2, insEZ.cells[k]? = some (insE.cell insE.dflt k) := by intro k hk; (iterate 2 (rcases k with _ | k; · kernel_rfl)); omega
    exact h k hk
  one := fun x k => by unfold insE; dsimp only; split <;> rfl
  bytes := Nat.le_of_ble_eq_true (by kernel_rfl)

abbrev crow (l : List Ins) : Nat → Nat → Value := rowE insE l
inductive CodeIn (F : HL) (code : List Ins) : Option Addr → Nat → Prop
  | nil (A : Option Addr) : CodeIn F code A 0
  | mk (b R n : Nat) (h : (b, .rows 2 R (crow code) 167 (0, 0)) ∈ F) (hn : n ≤ R) (hn2 : n ≤ 1000000) : CodeIn F code (some ⟨b, 0, none⟩) n
theorem CodeIn.up {F X : HL} {code : List Ins} {A : Option Addr} {n : Nat} (h : CodeIn F code A n) : CodeIn (X ++ F) code A n := by
  cases h with
  | nil => exact .nil _
  | mk b R n h h1 h2 => exact .mk b R n (List.mem_append_right _ h) h1 h2
abbrev EffIn (F : HL) : Prop := (1, .rows 3 22 effrow 277 (0, 0)) ∈ F

set_option maxHeartbeats 400000 in
set_option maxRecDepth 100000 in
theorem sat_any (n : Int)  (F : HL) : Sp Tryz.prog 242 #[vI n] [] F (fun u H' => u = vI (satI n) ∧ H' = []) := by
  refine Sp.run Tryz.func242 rfl mn (A := []) (Ts := []) rfl fun w0 => ?_
  refine RN.go 8 [] fun _ => RN.cp (clamp_any n (-2147483647) 2147483647  _) <| RN.go 3 [] fun _ => ?_
  exact RN.ret [] [] [] ⟨rfl, rfl⟩

set_option maxHeartbeats 400000 in
set_option maxRecDepth 100000 in
theorem truth_any (b : Bool) (F : HL) : Sp Tryz.prog 247 #[.bool b] [] F (fun u H' => u = vI (boolI b) ∧ H' = []) := by
  refine Sp.run Tryz.func247 rfl mn (A := []) (Ts := []) rfl fun w0 => ?_
  refine RN.go 11 [] fun _ => RN.eb (b) 3 (fun h1 => ?_) fun h1 => ?_
  · refine RN.go 6 [] fun _ => RN.ret [] [] [] (v := vI 1) (H' := []) ?_
    refine ⟨?_, rfl⟩
    first | (simp only [boolI, if_pos h1]; done) | (simp only [boolI, if_pos h1]; rfl) | rfl
  · refine RN.go 8 [] fun _ => RN.ret [] [] [] (v := vI 0) (H' := []) ?_
    refine ⟨?_, rfl⟩
    first | (simp only [boolI, if_neg h1]; done) | (simp only [boolI, if_neg h1]; rfl) | rfl

set_option maxHeartbeats 400000 in
set_option maxRecDepth 100000 in
theorem limited_v (f : Int) (v : Int)  (F : HL) : Sp Tryz.prog 255 #[vI f, vI v] [] F (fun u H' => u = vI (limF f v) ∧ H' = []) := by
  refine Sp.run Tryz.func255 rfl mn (A := []) (Ts := []) rfl fun w0 => ?_
  refine RN.go 19 [] fun _ => RN.em (f = 0) 6 (fun h1 => ?_) fun h1 => ?_
  · refine RN.go 7 [] fun _ => RN.cp (clamp_any v (-1048576) 1048576  _) <| RN.go 3 [] fun _ => RN.ret [] [] [] (v := vI (clampI v (-1048576) 1048576)) (H' := []) ?_
    refine ⟨?_, rfl⟩
    first | (simp only [limF, if_pos h1]; done) | (simp only [limF, if_pos h1]; rfl) | rfl
  · refine RN.go 6 [] fun _ => RN.em (f = 1) 6 (fun h2 => ?_) fun h2 => ?_
    · refine RN.go 4 [] fun _ => RN.cp (clamp_any v (-1048576) 1048576  _) <| RN.go 3 [] fun _ => RN.ret [] [] [] (v := vI (clampI v (-1048576) 1048576)) (H' := []) ?_
      refine ⟨?_, rfl⟩
      first | (simp only [limF, if_neg h1, if_pos h2]; done) | (simp only [limF, if_neg h1, if_pos h2]; rfl) | rfl
    · refine RN.go 8 [] fun _ => RN.em (f = 2) 11 (fun h3 => ?_) fun h3 => ?_
      · refine RN.go 7 [] fun _ => RN.cp (clamp_any v (-16384) 16384  _) <| RN.go 3 [] fun _ => RN.ret [] [] [] (v := vI (clampI v (-16384) 16384)) (H' := []) ?_
        refine ⟨?_, rfl⟩
        first | (simp only [limF, if_neg h1, if_neg h2, if_pos h3]; done) | (simp only [limF, if_neg h1, if_neg h2, if_pos h3]; rfl) | rfl
      · refine RN.go 6 [] fun _ => RN.em (f = 3) 11 (fun h4 => ?_) fun h4 => ?_
        · refine RN.go 4 [] fun _ => RN.cp (clamp_any v (-16384) 16384  _) <| RN.go 3 [] fun _ => RN.ret [] [] [] (v := vI (clampI v (-16384) 16384)) (H' := []) ?_
          refine ⟨?_, rfl⟩
          first | (simp only [limF, if_neg h1, if_neg h2, if_neg h3, if_pos h4]; done) | (simp only [limF, if_neg h1, if_neg h2, if_neg h3, if_pos h4]; rfl) | rfl
        · refine RN.go 10 [] fun _ => RN.ret [] [] [] (v := vI v) (H' := []) ?_
          refine ⟨?_, rfl⟩
          first | (simp only [limF, if_neg h1, if_neg h2, if_neg h3, if_neg h4]; done) | (simp only [limF, if_neg h1, if_neg h2, if_neg h3, if_neg h4]; rfl) | rfl

set_option maxHeartbeats 400000 in
set_option maxRecDepth 100000 in
theorem exe_any (op n sp : Int) (F : HL) (hE : EffIn F) : Sp Tryz.prog 184 #[.agg #[vI op, vI n], vI sp] [] F (fun u H' => u = .bool (exeOk op n sp) ∧ H' = []) := by
  refine Sp.run Tryz.func184 rfl (mc hE mn) (A := []) (Ts := []) rfl fun w0 => ?_
  refine RN.go 13 [.own 0] fun n1 => RN.em (op < 1) 9 (fun h2 => ?_) fun h2 => ?_
  · refine RN.go 16 [] fun _ => RN.ret [] [] [] (v := .bool false) (H' := []) ?_
    refine ⟨?_, rfl⟩
    first | (simp only [exeOk, if_pos h2]; done) | (simp only [exeOk, if_pos h2]; rfl) | rfl
  · refine RN.go 5 [.own 0] fun _ => RN.em (op > 21) 14 (fun h3 => ?_) fun h3 => ?_
    · refine RN.go 11 [] fun _ => RN.ret [] [] [] (v := .bool false) (H' := []) ?_
      refine ⟨?_, rfl⟩
      first | (simp only [exeOk, if_neg h2, if_pos h3]; done) | (simp only [exeOk, if_neg h2, if_pos h3]; rfl) | rfl
    · refine RN.go 5 [] fun _ => RN.em (sp > 16) 17 (fun h4 => ?_) fun h4 => ?_
      · refine RN.go 6 [] fun _ => RN.ret [] [] [] (v := .bool false) (H' := []) ?_
        refine ⟨?_, rfl⟩
        first | (simp only [exeOk, if_neg h2, if_neg h3, if_pos h4]; done) | (simp only [exeOk, if_neg h2, if_neg h3, if_pos h4]; rfl) | rfl
      · refine RN.goP 21 [.own 0, .ix ((op).toNat), .rorow 0 ((op).toNat) 0, .rorow 0 ((op).toNat) 1, .rorow 0 ((op).toNat) 2, .own 0, .own 0, .own 0, .own 0] [((0 + ((op).toNat) * 3) + 2) = ((op).toNat) * 3 + 2 ∧ ((op).toNat) < 22, ((0 + ((op).toNat) * 3) + 1) = ((op).toNat) * 3 + 1 ∧ ((op).toNat) < 22, (0 + ((op).toNat) * 3) = ((op).toNat) * 3 + 0 ∧ ((op).toNat) < 22, op = (((op).toNat : Nat) : Int) ∧ (op).toNat < 22] fun n5 => RN.em (sp < eP op) 26 (fun h6 => ?_) fun h6 => ?_
        · refine RN.go 17 [] fun _ => RN.ret [] [] [] (v := .bool false) (H' := []) ?_
          refine ⟨?_, rfl⟩
          first | (simp only [exeOk, if_neg h2, if_neg h3, if_neg h4, if_pos h6]; done) | (simp only [exeOk, if_neg h2, if_neg h3, if_neg h4, if_pos h6]; rfl) | rfl
        · refine RN.go 11 [.own 0, .own 0] fun _ => RN.em (IntKind.i64.wrap ((IntKind.i64.wrap (sp - (eP op))) + (eQ op)) > 16) 35 (fun h7 => ?_) fun h7 => ?_
          · refine RN.go 6 [] fun _ => RN.ret [] [] [] (v := .bool false) (H' := []) ?_
            refine ⟨?_, rfl⟩
            first | (simp only [exeOk, if_neg h2, if_neg h3, if_neg h4, if_neg h6, if_pos h7]; done) | (simp only [exeOk, if_neg h2, if_neg h3, if_neg h4, if_neg h6, if_pos h7]; rfl) | rfl
          · refine RN.go 9 [.own 0] fun _ => RN.em (eN op = 0) 39 (fun h8 => ?_) fun h8 => ?_
            · refine RN.go 14 [] fun _ => RN.ret [] [] [] (v := .bool true) (H' := []) ?_
              refine ⟨?_, rfl⟩
              first | (simp only [exeOk, if_neg h2, if_neg h3, if_neg h4, if_neg h6, if_neg h7, if_pos h8]; done) | (simp only [exeOk, if_neg h2, if_neg h3, if_neg h4, if_neg h6, if_neg h7, if_pos h8]; rfl) | rfl
            · refine RN.go 4 [.own 1] fun _ => RN.em (n ≥ 0) 43 (fun h9 => ?_) fun h9 => ?_
              · refine RN.go 10 [.own 1, .own 0] fun _ => RN.ret [] [] [] (v := .bool (decide (n < eN op))) (H' := []) ?_
                refine ⟨?_, rfl⟩
                first | (simp only [exeOk, if_neg h2, if_neg h3, if_neg h4, if_neg h6, if_neg h7, if_neg h8, if_pos h9]; done) | (simp only [exeOk, if_neg h2, if_neg h3, if_neg h4, if_neg h6, if_neg h7, if_neg h8, if_pos h9]; rfl) | rfl
              · refine RN.go 10 [] fun _ => RN.ret [] [] [] (v := .bool false) (H' := []) ?_
                refine ⟨?_, rfl⟩
                first | (simp only [exeOk, if_neg h2, if_neg h3, if_neg h4, if_neg h6, if_neg h7, if_neg h8, if_neg h9]; done) | (simp only [exeOk, if_neg h2, if_neg h3, if_neg h4, if_neg h6, if_neg h7, if_neg h8, if_neg h9]; rfl) | rfl

set_option maxHeartbeats 400000 in
set_option maxRecDepth 100000 in
theorem ld1 (mb : Nat) (M : MemS) (k : Nat) (T : HL) (n : Int) (F : HL) (hM : MemH mb M k T) (hs : ∀ x ∈ T, x ∈ F) : Sp Tryz.prog 236 #[.iface 46 (vP mb 0), vI n] [] F (fun u H' => u = vI (n) ∧ H' = []) := by
  refine Sp.run Tryz.func236 rfl mn (A := []) (Ts := []) rfl fun w0 => ?_
  refine RN.go 11 [] fun _ => ?_
  exact RN.ret [] [] [] ⟨rfl, rfl⟩

set_option maxHeartbeats 400000 in
set_option maxRecDepth 100000 in
theorem ld2 (mb : Nat) (M : MemS) (k : Nat) (T : HL) (n : Int) (F : HL) (hM : MemH mb M k T) (hs : ∀ x ∈ T, x ∈ F) : Sp Tryz.prog 237 #[.iface 46 (vP mb 0), vI n] [] F (fun u H' => u = vI (M.get (w64 (32 + n))) ∧ H' = []) := by
  refine Sp.run Tryz.func237 rfl mn (A := []) (Ts := []) rfl fun w0 => ?_
  refine RN.go 10 [] fun _ => RN.cp (get_any (IntKind.i64.wrap (32 + n)) hM fun x hx => ro_ap (hs x hx)) <| RN.go 3 [] fun _ => ?_
  exact RN.ret [] [] [] ⟨rfl, rfl⟩

set_option maxHeartbeats 400000 in
set_option maxRecDepth 100000 in
theorem ld3 (mb : Nat) (M : MemS) (k : Nat) (T : HL) (n : Int) (F : HL) (hM : MemH mb M k T) (hs : ∀ x ∈ T, x ∈ F) : Sp Tryz.prog 238 #[.iface 46 (vP mb 0), vI n] [] F (fun u H' => u = vI (M.get 9) ∧ H' = []) := by
  refine Sp.run Tryz.func238 rfl mn (A := []) (Ts := []) rfl fun w0 => ?_
  refine RN.go 8 [] fun _ => RN.cp (get_any 9 hM fun x hx => ro_ap (hs x hx)) <| RN.go 3 [] fun _ => ?_
  exact RN.ret [] [] [] ⟨rfl, rfl⟩

set_option maxHeartbeats 400000 in
set_option maxRecDepth 100000 in
theorem ld4 (mb : Nat) (M : MemS) (k : Nat) (T : HL) (n : Int) (F : HL) (hM : MemH mb M k T) (hs : ∀ x ∈ T, x ∈ F) : Sp Tryz.prog 239 #[.iface 46 (vP mb 0), vI n] [] F (fun u H' => u = vI (M.get 10) ∧ H' = []) := by
  refine Sp.run Tryz.func239 rfl mn (A := []) (Ts := []) rfl fun w0 => ?_
  refine RN.go 8 [] fun _ => RN.cp (get_any 10 hM fun x hx => ro_ap (hs x hx)) <| RN.go 3 [] fun _ => ?_
  exact RN.ret [] [] [] ⟨rfl, rfl⟩

set_option maxHeartbeats 400000 in
set_option maxRecDepth 100000 in
theorem ld5 (mb : Nat) (M : MemS) (k : Nat) (T : HL) (n : Int) (F : HL) (hM : MemH mb M k T) (hs : ∀ x ∈ T, x ∈ F) : Sp Tryz.prog 240 #[.iface 46 (vP mb 0), vI n] [] F (fun u H' => u = vI (M.get 0) ∧ H' = []) := by
  refine Sp.run Tryz.func240 rfl mn (A := []) (Ts := []) rfl fun w0 => ?_
  refine RN.go 8 [] fun _ => RN.cp (get_any 0 hM fun x hx => ro_ap (hs x hx)) <| RN.go 3 [] fun _ => ?_
  exact RN.ret [] [] [] ⟨rfl, rfl⟩

set_option maxHeartbeats 400000 in
set_option maxRecDepth 100000 in
theorem bin1 (a b : Int) (F : HL) : Sp Tryz.prog 241 #[vI a, vI b] [] F (fun u H' => u = vI (satI (w64 (a + b))) ∧ H' = []) := by
  refine Sp.run Tryz.func241 rfl mn (A := []) (Ts := []) rfl fun w0 => ?_
  refine RN.go 10 [] fun _ => RN.cp (sat_any (IntKind.i64.wrap (a + b))  _) <| RN.go 3 [] fun _ => ?_
  exact RN.ret [] [] [] ⟨rfl, rfl⟩

set_option maxHeartbeats 400000 in
set_option maxRecDepth 100000 in
theorem bin2 (a b : Int) (F : HL) : Sp Tryz.prog 243 #[vI a, vI b] [] F (fun u H' => u = vI (satI (w64 (a - b))) ∧ H' = []) := by
  refine Sp.run Tryz.func243 rfl mn (A := []) (Ts := []) rfl fun w0 => ?_
  refine RN.go 10 [] fun _ => RN.cp (sat_any (IntKind.i64.wrap (a - b))  _) <| RN.go 3 [] fun _ => ?_
  exact RN.ret [] [] [] ⟨rfl, rfl⟩

set_option maxHeartbeats 400000 in
set_option maxRecDepth 100000 in
theorem bin3 (a b : Int) (F : HL) : Sp Tryz.prog 244 #[vI a, vI b] [] F (fun u H' => u = vI (satI (w64 (a * b))) ∧ H' = []) := by
  refine Sp.run Tryz.func244 rfl mn (A := []) (Ts := []) rfl fun w0 => ?_
  refine RN.go 10 [] fun _ => RN.cp (sat_any (IntKind.i64.wrap (a * b))  _) <| RN.go 3 [] fun _ => ?_
  exact RN.ret [] [] [] ⟨rfl, rfl⟩

set_option maxHeartbeats 400000 in
set_option maxRecDepth 100000 in
theorem bin4 (a b : Int) (F : HL) : Sp Tryz.prog 245 #[vI a, vI b] [] F (fun u H' => u = vI (if b = 0 then 0 else satI (w64 (a.tdiv b))) ∧ H' = []) := by
  refine Sp.run Tryz.func245 rfl mn (A := []) (Ts := []) rfl fun w0 => ?_
  refine RN.go 12 [] fun _ => RN.em (b = 0) 6 (fun h1 => ?_) fun h1 => ?_
  · refine RN.go 6 [] fun _ => RN.ret [] [] [] (v := vI 0) (H' := []) ?_
    exact ⟨by simp [*], rfl⟩
  · refine RN.goP 8 [.dv] [b ≠ 0] fun _ => RN.cp (sat_any (IntKind.i64.wrap (a.tdiv b))  _) <| RN.go 3 [] fun _ => RN.ret [] [] [] (v := vI (satI (IntKind.i64.wrap (a.tdiv b)))) (H' := []) ?_
    exact ⟨by simp [*], rfl⟩

set_option maxHeartbeats 400000 in
set_option maxRecDepth 100000 in
theorem bin5 (a b : Int) (F : HL) : Sp Tryz.prog 246 #[vI a, vI b] [] F (fun u H' => u = vI (boolI (decide (a < b))) ∧ H' = []) := by
  refine Sp.run Tryz.func246 rfl mn (A := []) (Ts := []) rfl fun w0 => ?_
  refine RN.go 10 [] fun _ => RN.cp (truth_any (decide (a < b)) _) <| RN.go 3 [] fun _ => ?_
  exact RN.ret [] [] [] ⟨rfl, rfl⟩

set_option maxHeartbeats 400000 in
set_option maxRecDepth 100000 in
theorem bin6 (a b : Int) (F : HL) : Sp Tryz.prog 248 #[vI a, vI b] [] F (fun u H' => u = vI (boolI (decide (a ≤ b))) ∧ H' = []) := by
  refine Sp.run Tryz.func248 rfl mn (A := []) (Ts := []) rfl fun w0 => ?_
  refine RN.go 10 [] fun _ => RN.cp (truth_any (decide (a ≤ b)) _) <| RN.go 3 [] fun _ => ?_
  exact RN.ret [] [] [] ⟨rfl, rfl⟩

set_option maxHeartbeats 400000 in
set_option maxRecDepth 100000 in
theorem bin7 (a b : Int) (F : HL) : Sp Tryz.prog 249 #[vI a, vI b] [] F (fun u H' => u = vI (boolI (decide (a = b))) ∧ H' = []) := by
  refine Sp.run Tryz.func249 rfl mn (A := []) (Ts := []) rfl fun w0 => ?_
  refine RN.go 10 [] fun _ => RN.cp (truth_any (decide (a = b)) _) <| RN.go 3 [] fun _ => ?_
  exact RN.ret [] [] [] ⟨rfl, rfl⟩

set_option maxHeartbeats 400000 in
set_option maxRecDepth 100000 in
theorem un1 (a : Int) (F : HL) : Sp Tryz.prog 250 #[vI a] [] F (fun u H' => u = vI (satI (w64 (0 - a))) ∧ H' = []) := by
  refine Sp.run Tryz.func250 rfl mn (A := []) (Ts := []) rfl fun w0 => ?_
  refine RN.go 9 [] fun _ => RN.cp (sat_any (IntKind.i64.wrap (0 - a))  _) <| RN.go 3 [] fun _ => ?_
  exact RN.ret [] [] [] ⟨rfl, rfl⟩

set_option maxHeartbeats 400000 in
set_option maxRecDepth 100000 in
theorem un2 (a : Int) (F : HL) : Sp Tryz.prog 251 #[vI a] [] F (fun u H' => u = vI (boolI (decide (a = 0))) ∧ H' = []) := by
  refine Sp.run Tryz.func251 rfl mn (A := []) (Ts := []) rfl fun w0 => ?_
  refine RN.go 9 [] fun _ => RN.cp (truth_any (decide (a = 0)) _) <| RN.go 3 [] fun _ => ?_
  exact RN.ret [] [] [] ⟨rfl, rfl⟩

set_option maxHeartbeats 400000 in
set_option maxRecDepth 100000 in
theorem tab_1 (F : HL) : Sp Tryz.prog 215 #[vI 1] [] F (fun u H' => u = .func (.func 236) #[] #[] ∧ H' = []) := by
  refine Sp.run Tryz.func215 rfl mn (A := []) (Ts := []) rfl fun w0 => ?_
  refine RN.go 19 (ow 0 11) fun n1 => ?_
  exact RN.ret [] [] [] ⟨rfl, rfl⟩

set_option maxHeartbeats 400000 in
set_option maxRecDepth 100000 in
theorem tab_2 (F : HL) : Sp Tryz.prog 215 #[vI 2] [] F (fun u H' => u = .func (.func 237) #[] #[] ∧ H' = []) := by
  refine Sp.run Tryz.func215 rfl mn (A := []) (Ts := []) rfl fun w0 => ?_
  refine RN.go 19 (ow 0 11) fun n1 => ?_
  exact RN.ret [] [] [] ⟨rfl, rfl⟩

set_option maxHeartbeats 400000 in
set_option maxRecDepth 100000 in
theorem tab_6 (F : HL) : Sp Tryz.prog 215 #[vI 6] [] F (fun u H' => u = .func (.func 238) #[] #[] ∧ H' = []) := by
  refine Sp.run Tryz.func215 rfl mn (A := []) (Ts := []) rfl fun w0 => ?_
  refine RN.go 19 (ow 0 11) fun n1 => ?_
  exact RN.ret [] [] [] ⟨rfl, rfl⟩

set_option maxHeartbeats 400000 in
set_option maxRecDepth 100000 in
theorem tab_7 (F : HL) : Sp Tryz.prog 215 #[vI 7] [] F (fun u H' => u = .func (.func 239) #[] #[] ∧ H' = []) := by
  refine Sp.run Tryz.func215 rfl mn (A := []) (Ts := []) rfl fun w0 => ?_
  refine RN.go 19 (ow 0 11) fun n1 => ?_
  exact RN.ret [] [] [] ⟨rfl, rfl⟩

set_option maxHeartbeats 400000 in
set_option maxRecDepth 100000 in
theorem tab_8 (F : HL) : Sp Tryz.prog 215 #[vI 8] [] F (fun u H' => u = .func (.func 240) #[] #[] ∧ H' = []) := by
  refine Sp.run Tryz.func215 rfl mn (A := []) (Ts := []) rfl fun w0 => ?_
  refine RN.go 19 (ow 0 11) fun n1 => ?_
  exact RN.ret [] [] [] ⟨rfl, rfl⟩

set_option maxHeartbeats 400000 in
set_option maxRecDepth 100000 in
theorem tab_9 (F : HL) : Sp Tryz.prog 216 #[vI 9] [] F (fun u H' => u = .func (.func 241) #[] #[] ∧ H' = []) := by
  refine Sp.run Tryz.func216 rfl mn (A := []) (Ts := []) rfl fun w0 => ?_
  refine RN.go 21 (ow 0 15) fun n1 => ?_
  exact RN.ret [] [] [] ⟨rfl, rfl⟩

set_option maxHeartbeats 400000 in
set_option maxRecDepth 100000 in
theorem tab_10 (F : HL) : Sp Tryz.prog 216 #[vI 10] [] F (fun u H' => u = .func (.func 243) #[] #[] ∧ H' = []) := by
  refine Sp.run Tryz.func216 rfl mn (A := []) (Ts := []) rfl fun w0 => ?_
  refine RN.go 21 (ow 0 15) fun n1 => ?_
  exact RN.ret [] [] [] ⟨rfl, rfl⟩

set_option maxHeartbeats 400000 in
set_option maxRecDepth 100000 in
theorem tab_11 (F : HL) : Sp Tryz.prog 216 #[vI 11] [] F (fun u H' => u = .func (.func 244) #[] #[] ∧ H' = []) := by
  refine Sp.run Tryz.func216 rfl mn (A := []) (Ts := []) rfl fun w0 => ?_
  refine RN.go 21 (ow 0 15) fun n1 => ?_
  exact RN.ret [] [] [] ⟨rfl, rfl⟩

set_option maxHeartbeats 400000 in
set_option maxRecDepth 100000 in
theorem tab_12 (F : HL) : Sp Tryz.prog 216 #[vI 12] [] F (fun u H' => u = .func (.func 245) #[] #[] ∧ H' = []) := by
  refine Sp.run Tryz.func216 rfl mn (A := []) (Ts := []) rfl fun w0 => ?_
  refine RN.go 21 (ow 0 15) fun n1 => ?_
  exact RN.ret [] [] [] ⟨rfl, rfl⟩

set_option maxHeartbeats 400000 in
set_option maxRecDepth 100000 in
theorem tab_14 (F : HL) : Sp Tryz.prog 216 #[vI 14] [] F (fun u H' => u = .func (.func 246) #[] #[] ∧ H' = []) := by
  refine Sp.run Tryz.func216 rfl mn (A := []) (Ts := []) rfl fun w0 => ?_
  refine RN.go 21 (ow 0 15) fun n1 => ?_
  exact RN.ret [] [] [] ⟨rfl, rfl⟩

set_option maxHeartbeats 400000 in
set_option maxRecDepth 100000 in
theorem tab_15 (F : HL) : Sp Tryz.prog 216 #[vI 15] [] F (fun u H' => u = .func (.func 248) #[] #[] ∧ H' = []) := by
  refine Sp.run Tryz.func216 rfl mn (A := []) (Ts := []) rfl fun w0 => ?_
  refine RN.go 21 (ow 0 15) fun n1 => ?_
  exact RN.ret [] [] [] ⟨rfl, rfl⟩

set_option maxHeartbeats 400000 in
set_option maxRecDepth 100000 in
theorem tab_16 (F : HL) : Sp Tryz.prog 216 #[vI 16] [] F (fun u H' => u = .func (.func 249) #[] #[] ∧ H' = []) := by
  refine Sp.run Tryz.func216 rfl mn (A := []) (Ts := []) rfl fun w0 => ?_
  refine RN.go 21 (ow 0 15) fun n1 => ?_
  exact RN.ret [] [] [] ⟨rfl, rfl⟩

set_option maxHeartbeats 400000 in
set_option maxRecDepth 100000 in
theorem tab_13 (F : HL) : Sp Tryz.prog 217 #[vI 13] [] F (fun u H' => u = .func (.func 250) #[] #[] ∧ H' = []) := by
  refine Sp.run Tryz.func217 rfl mn (A := []) (Ts := []) rfl fun w0 => ?_
  refine RN.go 16 (ow 0 5) fun n1 => ?_
  exact RN.ret [] [] [] ⟨rfl, rfl⟩

set_option maxHeartbeats 400000 in
set_option maxRecDepth 100000 in
theorem tab_17 (F : HL) : Sp Tryz.prog 217 #[vI 17] [] F (fun u H' => u = .func (.func 251) #[] #[] ∧ H' = []) := by
  refine Sp.run Tryz.func217 rfl mn (A := []) (Ts := []) rfl fun w0 => ?_
  refine RN.go 16 (ow 0 5) fun n1 => ?_
  exact RN.ret [] [] [] ⟨rfl, rfl⟩

set_option maxHeartbeats 400000 in
set_option maxRecDepth 100000 in
theorem tab_3 (F : HL) : Sp Tryz.prog 218 #[vI 3] [] F (fun u H' => u = .func (.func 252) #[] #[] ∧ H' = []) := by
  refine Sp.run Tryz.func218 rfl mn (A := []) (Ts := []) rfl fun w0 => ?_
  refine RN.go 21 (ow 0 15) fun n1 => ?_
  exact RN.ret [] [] [] ⟨rfl, rfl⟩

set_option maxHeartbeats 400000 in
set_option maxRecDepth 100000 in
theorem tab_4 (F : HL) : Sp Tryz.prog 218 #[vI 4] [] F (fun u H' => u = .func (.func 253) #[] #[] ∧ H' = []) := by
  refine Sp.run Tryz.func218 rfl mn (A := []) (Ts := []) rfl fun w0 => ?_
  refine RN.go 21 (ow 0 15) fun n1 => ?_
  exact RN.ret [] [] [] ⟨rfl, rfl⟩

set_option maxHeartbeats 400000 in
set_option maxRecDepth 100000 in
theorem tab_5 (F : HL) : Sp Tryz.prog 218 #[vI 5] [] F (fun u H' => u = .func (.func 254) #[] #[] ∧ H' = []) := by
  refine Sp.run Tryz.func218 rfl mn (A := []) (Ts := []) rfl fun w0 => ?_
  refine RN.go 21 (ow 0 15) fun n1 => ?_
  exact RN.ret [] [] [] ⟨rfl, rfl⟩

set_option maxHeartbeats 400000 in
set_option maxRecDepth 100000 in
theorem tab_18 (F : HL) : Sp Tryz.prog 218 #[vI 18] [] F (fun u H' => u = .func (.func 256) #[] #[] ∧ H' = []) := by
  refine Sp.run Tryz.func218 rfl mn (A := []) (Ts := []) rfl fun w0 => ?_
  refine RN.go 21 (ow 0 15) fun n1 => ?_
  exact RN.ret [] [] [] ⟨rfl, rfl⟩

set_option maxHeartbeats 400000 in
set_option maxRecDepth 100000 in
theorem tab_19 (F : HL) : Sp Tryz.prog 218 #[vI 19] [] F (fun u H' => u = .func (.func 257) #[] #[] ∧ H' = []) := by
  refine Sp.run Tryz.func218 rfl mn (A := []) (Ts := []) rfl fun w0 => ?_
  refine RN.go 21 (ow 0 15) fun n1 => ?_
  exact RN.ret [] [] [] ⟨rfl, rfl⟩

set_option maxHeartbeats 400000 in
set_option maxRecDepth 100000 in
theorem tab_20 (F : HL) : Sp Tryz.prog 218 #[vI 20] [] F (fun u H' => u = .func (.func 258) #[] #[] ∧ H' = []) := by
  refine Sp.run Tryz.func218 rfl mn (A := []) (Ts := []) rfl fun w0 => ?_
  refine RN.go 21 (ow 0 15) fun n1 => ?_
  exact RN.ret [] [] [] ⟨rfl, rfl⟩

set_option maxHeartbeats 400000 in
set_option maxRecDepth 100000 in
theorem tab_21 (F : HL) : Sp Tryz.prog 218 #[vI 21] [] F (fun u H' => u = .func (.func 260) #[] #[] ∧ H' = []) := by
  refine Sp.run Tryz.func218 rfl mn (A := []) (Ts := []) rfl fun w0 => ?_
  refine RN.go 21 (ow 0 15) fun n1 => ?_
  exact RN.ret [] [] [] ⟨rfl, rfl⟩
end Go.Proofs.YtlefngomddjahaaGreatDoor
