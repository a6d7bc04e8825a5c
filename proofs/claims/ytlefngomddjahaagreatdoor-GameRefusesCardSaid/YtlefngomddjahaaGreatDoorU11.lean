/- Contracts, printed by a program. -/
import Derived.Test.YtlefngomddjahaaGreatDoorU10
namespace Go.Proofs.YtlefngomddjahaaGreatDoor
set_option linter.unusedSimpArgs false
set_option linter.unusedVariables false
open Go.RowKit
structure MemS where
  cs : List Int
  lg : List (Int × Int)
  base : Int
def MemS.get (M : MemS) (i : Int) : Int := if 0 ≤ i ∧ i < M.cs.length then M.cs.getD i.toNat 0 else 0
def MemS.set (M : MemS) (i v : Int) : MemS := if 0 ≤ i ∧ i < M.cs.length then ⟨M.cs.set i.toNat v, M.lg ++ [(i, M.cs.getD i.toNat 0)], M.base⟩ else M
def irow (cs : List Int) : Nat → Nat → Value := fun i k => match k with | 0 => vI (cs.getD i 0) | _ => default
theorem irow_set {cs : List Int} {i : Nat} (h : i < cs.length) (v : Int) : updG (irow cs) i 0 (vI v) = irow (cs.set i v) := by
  funext i' k'
  unfold updG irow
  by_cases h1 : i' = i
  · subst h1
    rcases k' with _ | k'
    · simp [h]
    · simp
  · rcases k' with _ | k'
    · have : ¬ i = i' := fun e => h1 e.symm
      simp [h1, List.getElem?_set, this]
    · simp

def entE : Enc (Int × Int) := ⟨2, fun p k => match k with | 0 => vI p.1 | _ => vI p.2, (0, 0)⟩
noncomputable def entEI : TypeInfo := match Tryz.prog.info? 139 with | some i => i | none => ⟨.bool, "", 0, 0, false, 0, 0, none, false, #[]⟩
noncomputable def entEZ : Value := match entEI.zero with | some z => z | none => .bool false
theorem entEOk : EncOk entE Tryz.prog 139 entEI entEZ where
  info := by kernel_rfl
  zero := by kernel_rfl
  size := by kernel_rfl
  zsize := by kernel_rfl
  zcell := fun k hk => by
    have h : ∀ k < 2, entEZ.cells[k]? = some (entE.cell entE.dflt k) := by intro k hk; (iterate 2 (rcases k with _ | k; · kernel_rfl)); omega
    exact h k hk
  one := fun x k => by unfold entE; dsimp only; split <;> rfl
  bytes := Nat.le_of_ble_eq_true (by kernel_rfl)

/-- a memory of cells -/
inductive MemH (mb : Nat) (M : MemS) (k : Nat) : HL → Prop
  | mk (cb : Nat) (A : Option Addr) (cap : Nat) (Hl : HL) (hs : SlIs entE 139 M.lg A cap Hl) (hc : M.cs.length ≤ 1000000) (hl : M.lg.length + k ≤ 100000000) : MemH mb M k (ap [(mb, .lit [vS cb 0 M.cs.length M.cs.length, .slice A M.lg.length cap, vI M.base] 132 (0, 0)), (cb, .rows 1 M.cs.length (irow M.cs) 3 (0, 0))] [Hl])
theorem MemH.weak {mb : Nat} {M : MemS} {k k' : Nat} {T : HL} (h : MemH mb M k T) (hk : k' ≤ k) : MemH mb M k' T := by
  cases h with
  | mk cb A cap Hl hs hc hl => exact .mk cb A cap Hl hs hc (by omega)
theorem MemH.cast {mb : Nat} {M M' : MemS} {k k' : Nat} {T : HL} (h : MemH mb M k T) (e : M' = M) (hk : k' ≤ k) : MemH mb M' k' T := e ▸ h.weak hk
theorem MemH.put {mb : Nat} {M : MemS} {k : Nat} {i v : Int} {cb : Nat} {A : Option Addr} {cap : Nat} {Hl : HL} (h : 0 ≤ i ∧ i < M.cs.length) (hc : M.cs.length ≤ 1000000) (hl : M.lg.length + (k + 1) ≤ 100000000) (hs : SlIs entE 139 (M.lg ++ [(i, M.cs.getD i.toNat 0)]) A cap Hl) :
    MemH mb (M.set i v) k (ap [(mb, .lit [vS cb 0 M.cs.length M.cs.length, .slice A (M.lg.length + [(i, M.cs.getD i.toNat 0)].length) cap, vI M.base] 132 (0, 0)), (cb, .rows 1 M.cs.length (updG (irow M.cs) i.toNat 0 (vI v)) 3 (0, 0))] [Hl]) := by
  have e : M.set i v = ⟨M.cs.set i.toNat v, M.lg ++ [(i, M.cs.getD i.toNat 0)], M.base⟩ := by unfold MemS.set; rw [if_pos h]
  rw [e, irow_set (by omega)]
  have := MemH.mk (M := ⟨M.cs.set i.toNat v, M.lg ++ [(i, M.cs.getD i.toNat 0)], M.base⟩) (k := k) cb A cap Hl hs (by simpa using hc) (by simp; omega) (mb := mb)
  simpa using this

set_option maxHeartbeats 400000 in
set_option maxRecDepth 100000 in
theorem has_mem (mb cb n : Nat) (A : Option Addr) (m cap : Nat) (base i : Int) (F : HL) (hm : (mb, .lit [vS cb 0 n n, .slice A m cap, vI base] 132 (0, 0)) ∈ F) : Sp Tryz.prog 68 #[vP mb 0, vI i] [] F (fun u H' => u = .bool (decide (0 ≤ i ∧ i < n)) ∧ H' = []) := by
  refine Sp.run Tryz.func68 rfl (mc hm mn) (A := []) (Ts := []) rfl fun w0 => ?_
  refine RN.go 10 [] fun _ => RN.em (0 ≤ i) 7 (fun h1 => ?_) fun h1 => ?_
  · refine RN.go 11 [.ro 0] fun _ => RN.ret [] [] [] (v := .bool (decide (i < (n : Int)))) (H' := []) ?_
    exact ⟨by simp [*], rfl⟩
  · refine RN.go 11 [] fun _ => RN.ret [] [] [] (v := .bool false) (H' := []) ?_
    exact ⟨by simp [*], rfl⟩

set_option maxHeartbeats 400000 in
set_option maxRecDepth 100000 in
theorem get_mem (mb cb : Nat) (cs : List Int) (A : Option Addr) (m cap : Nat) (base i : Int) (lg : List (Int × Int)) (F : HL) (hm : (mb, .lit [vS cb 0 cs.length cs.length, .slice A m cap, vI base] 132 (0, 0)) ∈ F) (hc : (cb, .rows 1 cs.length (irow cs) 3 (0, 0)) ∈ F) (hn : cs.length ≤ 1000000) : Sp Tryz.prog 41 #[vP mb 0, vI i] [] F (fun u H' => u = vI (MemS.get ⟨cs, lg, base⟩ i) ∧ H' = []) := by
  refine Sp.run Tryz.func41 rfl (mc hm (mc hc mn)) (A := []) (Ts := []) rfl fun w0 => ?_
  refine RN.go 10 [] fun _ => RN.cp (has_mem mb cb cs.length A m cap base i _ (ro_ap hm)) <| RN.go 3 [] fun _ => RN.en (0 ≤ i ∧ i < cs.length) 8 (fun h1 => ?_) fun h1 => ?_
  · refine RN.goP 15 [.ro 0, .ix ((i).toNat), .rorow 1 ((i).toNat) 0] [(0 + ((i).toNat) * 1) = ((i).toNat) * 1 + 0 ∧ ((i).toNat) < cs.length, i = (((i).toNat : Nat) : Int) ∧ (i).toNat < cs.length] fun _ => RN.ret [] [] [] (v := vI (cs.getD ((i).toNat) 0)) (H' := []) ?_
    exact ⟨by simp [MemS.get, *], rfl⟩
  · refine RN.go 6 [] fun _ => RN.ret [] [] [] (v := vI 0) (H' := []) ?_
    exact ⟨by simp [MemS.get, *], rfl⟩

theorem get_any {mb : Nat} {M : MemS} {k : Nat} {T : HL} (i : Int) {F : HL} (h : MemH mb M k T) (hs : ∀ x ∈ T, x ∈ F) : Sp Tryz.prog 41 #[vP mb 0, vI i] [] F (fun u H' => u = vI (M.get i) ∧ H' = []) := by
  cases h with
  | mk cb A cap Hl hsl hc hl => exact get_mem mb cb M.cs A M.lg.length cap M.base i M.lg F (hs _ (by simp)) (hs _ (by simp)) hc

theorem get_lit {mb : Nat} {M : MemS} {k : Nat} {T : HL} (i : Int) {c : Int} (e : M.get i = c) {F : HL} (h : MemH mb M k T) (hs : ∀ x ∈ T, x ∈ F) : Sp Tryz.prog 41 #[vP mb 0, vI i] [] F (fun u H' => u = vI c ∧ H' = []) := e ▸ get_any i h hs

set_option maxHeartbeats 400000 in
set_option maxRecDepth 100000 in
theorem set_mem (mb cb : Nat) (M : MemS) (k : Nat) (A : Option Addr) (cap : Nat) (i v : Int) (Hl : HL) (F : HL) (hs : SlIs entE 139 M.lg A cap Hl) (hc : M.cs.length ≤ 1000000) (hl : M.lg.length + (k + 1) ≤ 100000000) : Sp Tryz.prog 50 #[vP mb 0, vI i, vI v] (ap [(mb, .lit [vS cb 0 M.cs.length M.cs.length, .slice A M.lg.length cap, vI M.base] 132 (0, 0)), (cb, .rows 1 M.cs.length (irow M.cs) 3 (0, 0))] [Hl]) F (fun u H' => MemH mb (M.set i v) k H') := by
  refine Sp.run Tryz.func50 rfl mn (A := [(mb, .lit [vS cb 0 M.cs.length M.cs.length, .slice A M.lg.length cap, vI M.base] 132 (0, 0)), (cb, .rows 1 M.cs.length (irow M.cs) 3 (0, 0))]) (Ts := [Hl]) rfl fun w0 => ?_
  refine RN.go 5 [] fun _ => RN.cp (has_mem mb cb M.cs.length A M.lg.length cap M.base i _ (in_ap 0)) <| RN.go 3 [] fun _ => RN.en (0 ≤ i ∧ i < M.cs.length) 9 (fun h1 => ?_) fun h1 => ?_
  · refine RN.go 4 [] fun _ => RN.draw [15, 18] [] <| RD.goP [] [0, 1, 5, 6, 10, 2, 7, 3, 8, 4, 9, 11, 12, 13] [.own 0, .own 0, .ix ((i).toNat), .row 1 ((i).toNat) 0] [(0 + ((i).toNat) * 1) = ((i).toNat) * 1 + 0 ∧ ((i).toNat) < M.cs.length, i = (((i).toNat : Nat) : Int) ∧ (i).toNat < M.cs.length] <| RD.one 14 (RDO.ev [] [] fun n3 => ?_)
    refine RD.one 15 (RDO.app [] entEOk M.lg [(i, M.cs.getD i.toNat 0)] 0 0 rfl hs (by simp; omega) ?_)
    rintro A4 c5 T6 ⟨hs7, hz8⟩
    refine RD.go [] [16, 17] [] <| RD.one 18 (RDO.ev [] [.own 1] fun _ => ?_)
    refine RD.fin <| RN.goP 11 [.own 1, .ix ((i).toNat), .row 2 ((i).toNat) 0] [(0 + ((i).toNat) * 1) = ((i).toNat) * 1 + 0 ∧ ((i).toNat) < M.cs.length, i = (((i).toNat : Nat) : Int) ∧ (i).toNat < M.cs.length] fun _ => RN.ret [] [1, 2] [0] (v := .tuple #[]) (H' := (ap [(mb, .lit [vS cb 0 M.cs.length M.cs.length, .slice A4 (M.lg.length + ([(i, M.cs.getD i.toNat 0)]).length) c5, vI M.base] 132 (0, 0)), (cb, .rows 1 M.cs.length (updG (irow M.cs) ((i).toNat) 0 (vI v)) 3 (0, 0))] [T6])) ?_
    exact MemH.put (by omega) hc (by omega) hs7
  · refine RN.go 1 [] fun _ => RN.ret [] [0, 1] [0] (v := .tuple #[]) (H' := (ap [(mb, .lit [vS cb 0 M.cs.length M.cs.length, .slice A M.lg.length cap, vI M.base] 132 (0, 0)), (cb, .rows 1 M.cs.length (irow M.cs) 3 (0, 0))] [Hl])) ?_
    have e : M.set i v = M := by unfold MemS.set; rw [if_neg (by assumption)]
    rw [e]
    exact .mk cb A cap Hl hs hc (by omega)

theorem set_any {mb : Nat} {M : MemS} {k : Nat} {T : HL} (i v : Int) {F : HL} (h : MemH mb M (k + 1) T) : Sp Tryz.prog 50 #[vP mb 0, vI i, vI v] (ap [] [T]) F (fun u H' => ∃ x, H' = ap ((fun _ => []) x) ((fun x => [x]) x) ∧ MemH mb (M.set i v) k x) := by
  cases h with
  | mk cb A cap Hl hsl hc hl =>
    have e : ∀ T : HL, ap [] [T] = T := fun T => by simp
    have := set_mem mb cb M k A cap i v Hl F hsl hc hl
    rw [e]
    exact this.mono fun u H' h => ⟨H', (e H').symm, h⟩
end Go.Proofs.YtlefngomddjahaaGreatDoor
/- Contracts, printed by a program. -/
namespace Go.Proofs.YtlefngomddjahaaGreatDoor
set_option linter.unusedSimpArgs false
set_option linter.unusedVariables false
open Go.RowKit
structure Bod where (sh : Shp) (mot : Mot) (a b : Int)
abbrev dB : Bod := ⟨⟨0, [], none, 0⟩, ⟨0, 0, 0, 0, 0⟩, 0, 0⟩

def bodE : Enc Bod := ⟨9, fun p k => match k with | 0 => vI p.sh.r | 1 => .slice p.sh.A p.sh.poly.length p.sh.cap | 2 => vI p.mot.px | 3 => vI p.mot.py | 4 => vI p.mot.vx | 5 => vI p.mot.vy | 6 => vI p.mot.inv | 7 => vI p.a | _ => vI p.b, dB⟩
noncomputable def bodEI : TypeInfo := match Tryz.prog.info? 82 with | some i => i | none => ⟨.bool, "", 0, 0, false, 0, 0, none, false, #[]⟩
noncomputable def bodEZ : Value := match bodEI.zero with | some z => z | none => .bool false
theorem bodEOk : EncOk bodE Tryz.prog 82 bodEI bodEZ where
  info := by kernel_rfl
  zero := by kernel_rfl
  size := by kernel_rfl
  zsize := by kernel_rfl
  zcell := fun k hk => by
    have h : ∀ k < 9, bodEZ.cells[k]? = some (bodE.cell bodE.dflt k) := by intro k hk; (iterate 9 (rcases k with _ | k; · kernel_rfl)); omega
    exact h k hk
  one := fun x k => by unfold bodE; dsimp only; split <;> rfl
  bytes := Nat.le_of_ble_eq_true (by kernel_rfl)

abbrev brow (l : List Bod) : Nat → Nat → Value := rowE bodE l
structure Setup where
  players : Int
  bb : Nat
  bo : Nat
  nb : Nat
  bc : Nat
  bR : Nat
  bods : List Bod
  box : Bx
  rA : Option Addr
  rn : Nat
  rc : Nat
  dA : Option Addr
  dn : Nat
  dc : Nat
  fog : Int
  g : V2
  push : Int
  drag : Int
  rest : Int
  rounds : Int
  fuel : Int
def Setup.body (S : Setup) (k : Nat) : Bod := S.bods.getD (S.bo + k) dB
structure SetN (S : Setup) : Prop where
  pl : 0 ≤ S.players ∧ S.players ≤ 1000000
  nb : S.nb ≤ 1000000
structure SetIn (F : HL) (S : Setup) : Prop extends SetN S where
  blk : (S.bb, .rows 9 S.bR (brow S.bods) 82 (0, 0)) ∈ F
  room : S.bo + S.nb ≤ S.bR
  shp : ∀ k, k < S.nb → ShIn F (S.body k).sh
theorem SetIn.up {F X : HL} {S : Setup} (h : SetIn F S) : SetIn (X ++ F) S :=
  ⟨h.toSetN, List.mem_append_right _ h.blk, h.room, fun k hk => (h.shp k hk).mono fun x hx => List.mem_append_right _ hx⟩
def playerAt (S : Setup) (k : Int) : Int := if k < 0 then -1 else if k ≥ S.players then -1 else 48 + 4 * k
def bodyAt (S : Setup) (k : Int) : Int := if k < 0 then -1 else if k ≥ S.nb then -1 else 48 + 4 * S.players + 8 * k
def sizeOf (S : Setup) : Int := 48 + 4 * S.players + 8 * S.nb
theorem playerAt_bd {S : Setup} (h : SetN S) (k : Int) : (-1 ≤ playerAt S k ∧ playerAt S k ≤ 1000000000) ∧ (playerAt S k < 0 ∨ (0 ≤ k ∧ k < S.players)) := by
  have := h.pl
  unfold playerAt; split
  · omega
  · split <;> omega
theorem bodyAt_bd {S : Setup} (h : SetN S) (k : Int) : (-1 ≤ bodyAt S k ∧ bodyAt S k ≤ 1000000000) ∧ (bodyAt S k < 0 ∨ (0 ≤ k ∧ k < S.nb)) := by
  have := h.pl
  have := h.nb
  unfold bodyAt; split
  · omega
  · split <;> omega

abbrev Setup.v (S : Setup) : Value := .agg #[vI S.players, vS S.bb (S.bo * 9) S.nb S.bc, vI S.box.x0, vI S.box.y0, vI S.box.x1, vI S.box.y1, .slice S.rA S.rn S.rc, .slice S.dA S.dn S.dc, vI S.fog, vI S.g.x, vI S.g.y, vI S.push, vI S.drag, vI S.rest, vI S.rounds, vI S.fuel]
abbrev Setup.l (S : Setup) : List Value := [vI S.players, vS S.bb (S.bo * 9) S.nb S.bc, vI S.box.x0, vI S.box.y0, vI S.box.x1, vI S.box.y1, .slice S.rA S.rn S.rc, .slice S.dA S.dn S.dc, vI S.fog, vI S.g.x, vI S.g.y, vI S.push, vI S.drag, vI S.rest, vI S.rounds, vI S.fuel]

set_option maxHeartbeats 400000 in
set_option maxRecDepth 100000 in
theorem lplayer_any (S : Setup) (k : Int) (F : HL) (hn : SetN S) : Sp Tryz.prog 111 #[(Setup.v S), vI k] [] F (fun u H' => u = vI (playerAt S k) ∧ H' = []) := by
  have h1 := hn.pl
  have h2 := hn.nb
  refine Sp.run Tryz.func111 rfl mn (A := []) (Ts := []) rfl fun w0 => ?_
  refine RN.go 12 [] fun n1 => RN.em (k < 0) 7 (fun h2 => ?_) fun h2 => ?_
  · refine RN.go 13 [] fun _ => RN.ret [] [] [] (v := vI (-1)) (H' := []) ?_
    refine ⟨?_, rfl⟩
    simp only [playerAt, if_pos h2]
  · refine RN.go 7 [.own 0] fun _ => RN.em (k ≥ S.players) 12 (fun h3 => ?_) fun h3 => ?_
    · refine RN.go 6 [] fun _ => RN.ret [] [] [] (v := vI (-1)) (H' := []) ?_
      refine ⟨?_, rfl⟩
      simp only [playerAt, if_neg h2, if_pos h3]
    · refine RN.goP 11 [.nw, .nw] [I64 (48 + (4 * k)), I64 (4 * k)] fun _ => RN.ret [] [] [] (v := vI (48 + (4 * k))) (H' := []) ?_
      refine ⟨?_, rfl⟩
      simp only [playerAt, if_neg h2, if_neg h3]

set_option maxHeartbeats 400000 in
set_option maxRecDepth 100000 in
theorem lbody_any (S : Setup) (k : Int) (F : HL) (hn : SetN S) : Sp Tryz.prog 66 #[(Setup.v S), vI k] [] F (fun u H' => u = vI (bodyAt S k) ∧ H' = []) := by
  have h1 := hn.pl
  have h2 := hn.nb
  refine Sp.run Tryz.func66 rfl mn (A := []) (Ts := []) rfl fun w0 => ?_
  refine RN.go 12 [] fun n1 => RN.em (k < 0) 7 (fun h2 => ?_) fun h2 => ?_
  · refine RN.go 14 [] fun _ => RN.ret [] [] [] (v := vI (-1)) (H' := []) ?_
    refine ⟨?_, rfl⟩
    simp only [bodyAt, if_pos h2]
  · refine RN.go 8 [.own 0] fun _ => RN.em (k ≥ (S.nb : Int)) 13 (fun h3 => ?_) fun h3 => ?_
    · refine RN.go 6 [] fun _ => RN.ret [] [] [] (v := vI (-1)) (H' := []) ?_
      refine ⟨?_, rfl⟩
      simp only [bodyAt, if_neg h2, if_pos h3]
    · refine RN.goP 15 [.own 0, .nw, .nw, .nw, .nw] [I64 ((48 + (4 * S.players)) + (8 * k)), I64 (8 * k), I64 (48 + (4 * S.players)), I64 (4 * S.players)] fun _ => RN.ret [] [] [] (v := vI ((48 + (4 * S.players)) + (8 * k))) (H' := []) ?_
      refine ⟨?_, rfl⟩
      simp only [bodyAt, if_neg h2, if_neg h3]

set_option maxHeartbeats 400000 in
set_option maxRecDepth 100000 in
theorem lsize_any (S : Setup) (F : HL) (hn : SetN S) : Sp Tryz.prog 65 #[(Setup.v S)] [] F (fun u H' => u = vI (sizeOf S) ∧ H' = []) := by
  have h1 := hn.pl
  have h2 := hn.nb
  refine Sp.run Tryz.func65 rfl mn (A := []) (Ts := []) rfl fun w0 => ?_
  refine RN.goP 20 [.own 0, .nw, .nw, .own 0, .nw, .nw] [I64 ((48 + (4 * S.players)) + (8 * (S.nb : Int))), I64 (8 * (S.nb : Int)), I64 (48 + (4 * S.players)), I64 (4 * S.players)] fun n1 => ?_
  exact RN.ret [] [] [] ⟨rfl, rfl⟩

set_option maxHeartbeats 400000 in
set_option maxRecDepth 100000 in
theorem rbody_any (S : Setup) (k : Int) (F : HL) (hn : SetN S) : Sp Tryz.prog 48 #[(Setup.v S), vI k] [] F (fun u H' => u = vI (bodyAt S k) ∧ H' = []) := by
  have h1 := hn.pl
  have h2 := hn.nb
  refine Sp.run Tryz.func48 rfl mn (A := []) (Ts := []) rfl fun w0 => ?_
  refine RN.go 12 [] fun n1 => RN.em (k < 0) 7 (fun h2 => ?_) fun h2 => ?_
  · refine RN.go 14 [] fun _ => RN.ret [] [] [] (v := vI (-1)) (H' := []) ?_
    refine ⟨?_, rfl⟩
    simp only [bodyAt, if_pos h2]
  · refine RN.go 8 [.own 0] fun _ => RN.em (k ≥ (S.nb : Int)) 13 (fun h3 => ?_) fun h3 => ?_
    · refine RN.go 6 [] fun _ => RN.ret [] [] [] (v := vI (-1)) (H' := []) ?_
      refine ⟨?_, rfl⟩
      simp only [bodyAt, if_neg h2, if_pos h3]
    · refine RN.goP 15 [.own 0, .nw, .nw, .nw, .nw] [I64 ((48 + (4 * S.players)) + (8 * k)), I64 (8 * k), I64 (48 + (4 * S.players)), I64 (4 * S.players)] fun _ => RN.ret [] [] [] (v := vI ((48 + (4 * S.players)) + (8 * k))) (H' := []) ?_
      refine ⟨?_, rfl⟩
      simp only [bodyAt, if_neg h2, if_neg h3]

set_option maxHeartbeats 400000 in
set_option maxRecDepth 100000 in
theorem rsize_any (S : Setup) (F : HL) (hn : SetN S) : Sp Tryz.prog 47 #[(Setup.v S)] [] F (fun u H' => u = vI (sizeOf S) ∧ H' = []) := by
  have h1 := hn.pl
  have h2 := hn.nb
  refine Sp.run Tryz.func47 rfl mn (A := []) (Ts := []) rfl fun w0 => ?_
  refine RN.goP 20 [.own 0, .nw, .nw, .own 0, .nw, .nw] [I64 ((48 + (4 * S.players)) + (8 * (S.nb : Int))), I64 (8 * (S.nb : Int)), I64 (48 + (4 * S.players)), I64 (4 * S.players)] fun n1 => ?_
  exact RN.ret [] [] [] ⟨rfl, rfl⟩
end Go.Proofs.YtlefngomddjahaaGreatDoor
