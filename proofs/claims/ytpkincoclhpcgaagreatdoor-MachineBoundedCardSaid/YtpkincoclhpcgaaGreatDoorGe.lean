/- Contracts, printed by a program. -/
import Derived.Test.YtpkincoclhpcgaaGreatDoorGd
import Derived.Test.YtpkincoclhpcgaaGreatDoorE6
namespace Go.Proofs.YtpkincoclhpcgaaGreatDoor
set_option linter.unusedSimpArgs false
set_option linter.unusedVariables false
open Go.RowKit
structure MemS where
  cs : List Int
  lg : List (Int × Int)
  base : Int
def MemS.get (M : MemS) (i : Int) : Int := if 0 ≤ i ∧ i < M.cs.length then M.cs.getD i.toNat 0 else 0
def MemS.set (M : MemS) (i v : Int) : MemS := if 0 ≤ i ∧ i < M.cs.length then ⟨M.cs.set i.toNat v, M.lg ++ [(i, M.cs.getD i.toNat 0)], M.base⟩ else M
def irow (cs : List Int) : Nat → Nat → Value := fun i k => match k with | 0 => vI (cs.getD i 0) | _ => default
theorem irow_set {cs : List Int} {i : Nat} (h : i < cs.length) (v : Int) : updG (irow cs) i 0 (vI v) = irow (cs.set i v) := by
  funext i' k'
  unfold updG irow
  by_cases h1 : i' = i
  · subst h1
    rcases k' with _ | k'
    · simp [h]
    · simp
  · rcases k' with _ | k'
    · have : ¬ i = i' := fun e => h1 e.symm
      simp [h1, List.getElem?_set, this]
    · simp

def entE : Enc (Int × Int) := ⟨2, fun p k => match k with | 0 => vI p.1 | _ => vI p.2, (0, 0)⟩
noncomputable def entEI : TypeInfo := match Tryz.prog.info? 182 with | some i => i | none => ⟨.bool, "", 0, 0, false, 0, 0, none, false, #[]⟩
noncomputable def entEZ : Value := match entEI.zero with | some z => z | none => .bool false
theorem entEOk : EncOk entE Tryz.prog 182 entEI entEZ where
  info := by kernel_rfl
  zero := by kernel_rfl
  size := by kernel_rfl
  zsize := by kernel_rfl
  zcell := fun k hk => by
    have h : ∀ k < 2, entEZ.cells[k]? = some (entE.cell entE.dflt k) := by intro k hk; (iterate 2 (rcases k with _ | k; · kernel_rfl)); omega
    exact h k hk
  one := fun x k => by unfold entE; dsimp only; split <;> rfl
  bytes := Nat.le_of_ble_eq_true (by kernel_rfl)

/-- a memory of cells -/
inductive MemH (mb : Nat) (M : MemS) (k : Nat) : HL → Prop
  | mk (cb : Nat) (A : Option Addr) (cap : Nat) (Hl : HL) (hs : SlIs entE 182 M.lg A cap Hl) (hc : M.cs.length ≤ 1000000) (hl : M.lg.length + k ≤ 100000000) : MemH mb M k (ap [(mb, .lit [vS cb 0 M.cs.length M.cs.length, .slice A M.lg.length cap, vI M.base] 75 (0, 0)), (cb, .rows 1 M.cs.length (irow M.cs) 3 (0, 0))] [Hl])
theorem MemH.weak {mb : Nat} {M : MemS} {k k' : Nat} {T : HL} (h : MemH mb M k T) (hk : k' ≤ k) : MemH mb M k' T := by
  cases h with
  | mk cb A cap Hl hs hc hl => exact .mk cb A cap Hl hs hc (by omega)
theorem MemH.cast {mb : Nat} {M M' : MemS} {k k' : Nat} {T : HL} (h : MemH mb M k T) (e : M' = M) (hk : k' ≤ k) : MemH mb M' k' T := e ▸ h.weak hk
theorem MemH.put {mb : Nat} {M : MemS} {k : Nat} {i v : Int} {cb : Nat} {A : Option Addr} {cap : Nat} {Hl : HL} (h : 0 ≤ i ∧ i < M.cs.length) (hc : M.cs.length ≤ 1000000) (hl : M.lg.length + (k + 1) ≤ 100000000) (hs : SlIs entE 182 (M.lg ++ [(i, M.cs.getD i.toNat 0)]) A cap Hl) :
    MemH mb (M.set i v) k (ap [(mb, .lit [vS cb 0 M.cs.length M.cs.length, .slice A (M.lg.length + [(i, M.cs.getD i.toNat 0)].length) cap, vI M.base] 75 (0, 0)), (cb, .rows 1 M.cs.length (updG (irow M.cs) i.toNat 0 (vI v)) 3 (0, 0))] [Hl]) := by
  have e : M.set i v = ⟨M.cs.set i.toNat v, M.lg ++ [(i, M.cs.getD i.toNat 0)], M.base⟩ := by unfold MemS.set; rw [if_pos h]
  rw [e, irow_set (by omega)]
  have := MemH.mk (M := ⟨M.cs.set i.toNat v, M.lg ++ [(i, M.cs.getD i.toNat 0)], M.base⟩) (k := k) cb A cap Hl hs (by simpa using hc) (by simp; omega) (mb := mb)
  simpa using this
theorem sub_ap {A : HL} {Ts : List HL} {F T : HL} (j : Nat) (h : Ts[j]? = some T) : ∀ x ∈ T, x ∈ ap A Ts ++ F := fun x hx =>
  List.mem_append_left _ (List.mem_append_right _ (List.mem_flatten.2 ⟨T, List.mem_of_getElem? h, hx⟩))
theorem sub_apX {X A : HL} {Ts : List HL} {F T : HL} (j : Nat) (h : Ts[j]? = some T) : ∀ x ∈ T, x ∈ X ++ (ap A Ts ++ F) := fun x hx => List.mem_append_right _ (sub_ap j h x hx)

set_option maxHeartbeats 400000 in
set_option maxRecDepth 100000 in
theorem has_mem (mb cb n : Nat) (A : Option Addr) (m cap : Nat) (base i : Int) (F : HL) (hm : (mb, .lit [vS cb 0 n n, .slice A m cap, vI base] 75 (0, 0)) ∈ F) : Sp Tryz.prog 43 #[vP mb 0, vI i] [] F (fun u H' => u = .bool (decide (0 ≤ i ∧ i < n)) ∧ H' = []) := by
  refine Sp.of_body Tryz.func43 rfl rfl rfl [(0, vP mb 0), (1, vI i)] rfl ?_
  intro w0
  refine TR.convH (ap [] []) rfl ?_
  refine TR.seq ?_
  refine TR.reg ?_
  refine TL.seg0 1 [] [] [0, 1] [(0, vP mb 0), (1, vI i)] (ap [] []) [] [] (fun _ => by kernel_rfl) mn an ?_
  refine TL.fin (by kernel_rfl) ?_
  refine EX.next ?_
  refine TR.seq ?_
  refine TR.reg ?_
  rcases Decidable.em (0 ≤ i) with h1 | h1
  · refine TL.seg0 12 [(mb, .lit [vS cb 0 n n, .slice A m cap, vI base] 75 (0, 0))] [.gd true, .gd true, .gd true, .gd true, .gd true, .ro 0, .gd true, .gd true, .gd true] [4] [(4, .bool (decide (i < (n : Int))))] (ap [] []) [mb] [(decide (0 ≤ i)) = true, (decide (0 ≤ i)) = true, (decide (0 ≤ i)) = true, (decide (0 ≤ i)) = true, (decide (0 ≤ i)) = true, (decide (0 ≤ i)) = true, (decide (0 ≤ i)) = true, (decide (0 ≤ i)) = true] (fun _ => by kernel_rfl) (mc hm mn) (ac (decide_eq_true h1) (ac (decide_eq_true h1) (ac (decide_eq_true h1) (ac (decide_eq_true h1) (ac (decide_eq_true h1) (ac (decide_eq_true h1) (ac (decide_eq_true h1) (ac (decide_eq_true h1) an)))))))) ?_
    refine TL.fin (by kernel_rfl) ?_
    refine EX.next ?_
    refine TR.ret (A := []) (Ts := []) (by exact fun _ _ h => h) rfl rfl [] [] (.bool (decide (i < (n : Int)))) [] [] (fun _ => by kernel_rfl) mn an [] [] [] [] [] (by kernel_rfl) (by kernel_rfl) (by kernel_rfl) ?_
    exact ⟨by simp [*], rfl⟩
  · refine TL.seg0 12 [] [.gd false, .gd false, .gd false, .gd false, .gd false, .gd false, .gd false, .gd false] [4] [(4, .bool false)] (ap [] []) [] [(decide (0 ≤ i)) = false, (decide (0 ≤ i)) = false, (decide (0 ≤ i)) = false, (decide (0 ≤ i)) = false, (decide (0 ≤ i)) = false, (decide (0 ≤ i)) = false, (decide (0 ≤ i)) = false, (decide (0 ≤ i)) = false] (fun _ => by kernel_rfl) mn (ac (decide_eq_false h1) (ac (decide_eq_false h1) (ac (decide_eq_false h1) (ac (decide_eq_false h1) (ac (decide_eq_false h1) (ac (decide_eq_false h1) (ac (decide_eq_false h1) (ac (decide_eq_false h1) an)))))))) ?_
    refine TL.fin (by kernel_rfl) ?_
    refine EX.next ?_
    refine TR.ret (A := []) (Ts := []) (by exact fun _ _ h => h) rfl rfl [] [] (.bool false) [] [] (fun _ => by kernel_rfl) mn an [] [] [] [] [] (by kernel_rfl) (by kernel_rfl) (by kernel_rfl) ?_
    exact ⟨by simp [*], rfl⟩

set_option maxHeartbeats 400000 in
set_option maxRecDepth 100000 in
theorem get_mem (mb cb : Nat) (cs : List Int) (A : Option Addr) (m cap : Nat) (base i : Int) (lg : List (Int × Int)) (F : HL) (hm : (mb, .lit [vS cb 0 cs.length cs.length, .slice A m cap, vI base] 75 (0, 0)) ∈ F) (hc : (cb, .rows 1 cs.length (irow cs) 3 (0, 0)) ∈ F) (hn : cs.length ≤ 1000000) : Sp Tryz.prog 28 #[vP mb 0, vI i] [] F (fun u H' => u = vI (MemS.get ⟨cs, lg, base⟩ i) ∧ H' = []) := by
  refine Sp.of_body Tryz.func28 rfl rfl rfl [(0, vP mb 0), (1, vI i)] rfl ?_
  intro w0
  refine TR.convH (ap [] []) rfl ?_
  refine TR.seq ?_
  refine TR.reg ?_
  refine TL.seg0 1 [] [] [0, 1] [(0, vP mb 0), (1, vI i)] (ap [] []) [] [] (fun _ => by kernel_rfl) mn an ?_
  refine TL.fin (by kernel_rfl) ?_
  refine EX.next ?_
  refine TR.seq ?_
  refine TR.seq ?_
  refine TR.reg ?_
  refine TL.seg0 2 [] [] [0, 1, 5, 6] [(0, vP mb 0), (1, vI i), (5, vP mb 0), (6, vI i)] (ap [] []) [] [] (fun _ => by kernel_rfl) mn an ?_
  refine TL.callp (dst := (some 7)) (f := 43) (args := #[vP mb 0, vI i]) (H1 := (ap [] [])) (E := []) (Ob := []) [] [] [0, 1, 7] (.bool (decide (0 ≤ i ∧ i < cs.length))) [(0, vP mb 0), (1, vI i), (7, .bool (decide (0 ≤ i ∧ i < cs.length)))] (fun _ => by kernel_rfl) mn an (has_mem mb cb cs.length A m cap base i _ (List.mem_append_right _ hm)) (by kernel_rfl) ?_
  refine TL.seg0 1 [] [] [0, 1, 8] [(0, vP mb 0), (1, vI i), (8, .bool (!(decide (0 ≤ i ∧ i < cs.length))))] (ap [] []) [] [] (fun _ => by kernel_rfl) mn an ?_
  refine TL.fin (by kernel_rfl) ?_
  refine EX.next ?_
  rcases Decidable.em (0 ≤ i ∧ i < cs.length) with h1 | h1
  · refine TR.no (b := !(decide (0 ≤ i ∧ i < cs.length))) (by kernel_rfl) (by kernel_rfl) (by rw [decide_eq_true h1]; rfl) ?_
    refine TR.skip ?_
    refine EX.next ?_
    refine TR.seq ?_
    refine TR.reg ?_
    refine TL.seg0 8 [(mb, .lit [vS cb 0 cs.length cs.length, .slice A m cap, vI base] 75 (0, 0)), (cb, .rows 1 cs.length (irow cs) 3 (0, 0))] [.ro 0, .ix ((i).toNat), .rorow 1 ((i).toNat) 0] [4] [(4, vI (cs.getD ((i).toNat) 0))] (ap [] []) [cb, mb] [(0 + ((i).toNat) * 1) = ((i).toNat) * 1 + 0 ∧ ((i).toNat) < cs.length, i = (((i).toNat : Nat) : Int) ∧ (i).toNat < cs.length] (fun _ => by kernel_rfl) (mc hm (mc hc mn)) (ac ⟨by omega, by omega⟩ (ac ⟨by omega, by omega⟩ an)) ?_
    refine TL.fin (by kernel_rfl) ?_
    refine EX.next ?_
    refine TR.ret (A := []) (Ts := []) (by exact fun _ _ h => h) rfl rfl [] [] (vI (cs.getD ((i).toNat) 0)) [] [] (fun _ => by kernel_rfl) mn an [] [] [] [] [] (by kernel_rfl) (by kernel_rfl) (by kernel_rfl) ?_
    exact ⟨by simp [MemS.get, *], rfl⟩
  · refine TR.yes (b := !(decide (0 ≤ i ∧ i < cs.length))) (by kernel_rfl) (by kernel_rfl) (by rw [decide_eq_false h1]; rfl) ?_
    refine TR.seq ?_
    refine TR.reg ?_
    refine TL.seg0 1 [] [] [4] [(4, vI 0)] (ap [] []) [] [] (fun _ => by kernel_rfl) mn an ?_
    refine TL.fin (by kernel_rfl) ?_
    refine EX.next ?_
    refine TR.ret (A := []) (Ts := []) (by exact fun _ _ h => h) rfl rfl [] [] (vI 0) [] [] (fun _ => by kernel_rfl) mn an [] [] [] [] [] (by kernel_rfl) (by kernel_rfl) (by kernel_rfl) ?_
    exact ⟨by simp [MemS.get, *], rfl⟩

theorem get_any {mb : Nat} {M : MemS} {k : Nat} {T : HL} (i : Int) {F : HL} (h : MemH mb M k T) (hs : ∀ x ∈ T, x ∈ F) : Sp Tryz.prog 28 #[vP mb 0, vI i] [] F (fun u H' => u = vI (M.get i) ∧ H' = []) := by
  cases h with
  | mk cb A cap Hl hsl hc hl => exact get_mem mb cb M.cs A M.lg.length cap M.base i M.lg F (hs _ (by simp)) (hs _ (by simp)) hc

theorem get_lit {mb : Nat} {M : MemS} {k : Nat} {T : HL} (i : Int) {c : Int} (e : M.get i = c) {F : HL} (h : MemH mb M k T) (hs : ∀ x ∈ T, x ∈ F) : Sp Tryz.prog 28 #[vP mb 0, vI i] [] F (fun u H' => u = vI c ∧ H' = []) := e ▸ get_any i h hs

set_option maxHeartbeats 400000 in
set_option maxRecDepth 100000 in
theorem set_mem (mb cb : Nat) (M : MemS) (k : Nat) (A : Option Addr) (cap : Nat) (i v : Int) (Hl : HL) (F : HL) (hs : SlIs entE 182 M.lg A cap Hl) (hc : M.cs.length ≤ 1000000) (hl : M.lg.length + (k + 1) ≤ 100000000) : Sp Tryz.prog 150 #[vP mb 0, vI i, vI v] (ap [(mb, .lit [vS cb 0 M.cs.length M.cs.length, .slice A M.lg.length cap, vI M.base] 75 (0, 0)), (cb, .rows 1 M.cs.length (irow M.cs) 3 (0, 0))] [Hl]) F (fun u H' => MemH mb (M.set i v) k H') := by
  refine Sp.of_body Tryz.func150 rfl rfl rfl [(0, vP mb 0), (1, vI i), (2, vI v)] rfl ?_
  intro w0
  refine TR.convH (ap [(mb, .lit [vS cb 0 M.cs.length M.cs.length, .slice A M.lg.length cap, vI M.base] 75 (0, 0)), (cb, .rows 1 M.cs.length (irow M.cs) 3 (0, 0))] [Hl]) rfl ?_
  refine TR.seq ?_
  refine TR.seq ?_
  refine TR.reg ?_
  refine TL.seg0 2 [] [] [0, 1, 2, 6, 7] [(0, vP mb 0), (1, vI i), (2, vI v), (6, vP mb 0), (7, vI i)] (ap [(mb, .lit [vS cb 0 M.cs.length M.cs.length, .slice A M.lg.length cap, vI M.base] 75 (0, 0)), (cb, .rows 1 M.cs.length (irow M.cs) 3 (0, 0))] [Hl]) [] [] (fun _ => by kernel_rfl) mn an ?_
  refine TL.callp (dst := (some 8)) (f := 43) (args := #[vP mb 0, vI i]) (H1 := (ap [(mb, .lit [vS cb 0 M.cs.length M.cs.length, .slice A M.lg.length cap, vI M.base] 75 (0, 0)), (cb, .rows 1 M.cs.length (irow M.cs) 3 (0, 0))] [Hl])) (E := []) (Ob := []) [] [] [0, 1, 2, 8] (.bool (decide (0 ≤ i ∧ i < M.cs.length))) [(0, vP mb 0), (1, vI i), (2, vI v), (8, .bool (decide (0 ≤ i ∧ i < M.cs.length)))] (fun _ => by kernel_rfl) mn an (has_mem mb cb M.cs.length A M.lg.length cap M.base i _ (by simp)) (by kernel_rfl) ?_
  refine TL.seg0 1 [] [] [0, 1, 2, 9] [(0, vP mb 0), (1, vI i), (2, vI v), (9, .bool (!(decide (0 ≤ i ∧ i < M.cs.length))))] (ap [(mb, .lit [vS cb 0 M.cs.length M.cs.length, .slice A M.lg.length cap, vI M.base] 75 (0, 0)), (cb, .rows 1 M.cs.length (irow M.cs) 3 (0, 0))] [Hl]) [] [] (fun _ => by kernel_rfl) mn an ?_
  refine TL.fin (by kernel_rfl) ?_
  refine EX.next ?_
  rcases Decidable.em (0 ≤ i ∧ i < M.cs.length) with h1 | h1
  · refine TR.no (b := !(decide (0 ≤ i ∧ i < M.cs.length))) (by kernel_rfl) (by kernel_rfl) (by rw [decide_eq_true h1]; rfl) ?_
    refine TR.skip ?_
    refine EX.next ?_
    refine TR.seq ?_
    refine TR.draw [15, 18] [] rfl (by kernel_rfl) ?_
    refine TD.vals [] (by kernel_rfl) [0, 1, 5, 6, 10, 2, 7, 3, 8, 4, 9, 11, 12, 13] [] [.own 0, .own 0, .ix ((i).toNat), .row 1 ((i).toNat) 0] [0, 1, 2, 10, 14, 23] [true, true, true, true, true, true, true, true, true, true, true, true, true, true, false, false, false, false, false] [(0, vP mb 0), (1, vI i), (2, vI v), (10, vP mb 0), (14, .slice A M.lg.length cap), (23, .agg #[vI i, vI (M.cs.getD ((i).toNat) 0)])] [cb, mb, mb] [(0 + ((i).toNat) * 1) = ((i).toNat) * 1 + 0 ∧ ((i).toNat) < M.cs.length, i = (((i).toNat : Nat) : Int) ∧ (i).toNat < M.cs.length] (by kernel_rfl) (by kernel_rfl) mn (ac ⟨by omega, by omega⟩ (ac ⟨by omega, by omega⟩ an)) 5 rfl ?_
    refine TD.one 14 (by kernel_rfl) 4 rfl fun a_ hF_ hcl_ => ?_
    refine OPJ.ev [] [] [0, 1, 2, 10, 14, 24] (fun n3 => [(0, vP mb 0), (1, vI i), (2, vI v), (10, vP mb 0), (14, .slice A M.lg.length cap), (24, vS (n3 + 0) 0 1 1)]) (fun n3 => (ap [((n3 + 0), .lit [vI i, vI (M.cs.getD ((i).toNat) 0)] 182 (0, 0)), (mb, .lit [vS cb 0 M.cs.length M.cs.length, .slice A M.lg.length cap, vI M.base] 75 (0, 0)), (cb, .rows 1 M.cs.length (irow M.cs) 3 (0, 0))] [Hl])) (fun n3 => []) (fun n3 => []) (fun _ => by kernel_rfl) mn (fun n3 => an) (.inr ⟨by decide, fun n3 => ⟨[((n3 + 0), .lit [vI i, vI (M.cs.getD ((i).toNat) 0)] 182 (0, 0))], rfl⟩⟩) (.inr fun n3 => ⟨[((n3 + 0), .lit [vI i, vI (M.cs.getD ((i).toNat) 0)] 182 (0, 0))], rfl⟩) (fun n3 => ?_) hF_ hcl_
    refine TD.one 15 (by kernel_rfl) 3 rfl fun a_ hF_ hcl_ => ?_
    refine OPJ.app (e := entE) (P := Tryz.prog) (tx := 73) entEOk (o := _) (a1 := (.tmp 14)) (a2 := (.tmp 24)) rfl rfl rfl rfl M.lg [(i, M.cs.getD i.toNat 0)] (A := A) (cap := cap) (n := M.lg.length) Hl [((n3 + 0), .lit [vI i, vI (M.cs.getD ((i).toNat) 0)] 182 (0, 0)), (mb, .lit [vS cb 0 M.cs.length M.cs.length, .slice A M.lg.length cap, vI M.base] 75 (0, 0)), (cb, .rows 1 M.cs.length (irow M.cs) 3 (0, 0))] [Hl] [] [] (by kernel_rfl) (by kernel_rfl) rfl (by kernel_rfl) rfl ⟨0, rfl, by kernel_rfl⟩ (by kernel_rfl) hs (fun w hR => src_lit entEOk rfl (src := [(i, M.cs.getD i.toNat 0)]) (c := 1) 0 rfl hR) (by simp; omega) [0, 1, 2, 10, 25] (fun v_ => [(0, vP mb 0), (1, vI i), (2, vI v), (10, vP mb 0), (25, v_)]) (fun _ => by kernel_rfl) [] (by kernel_rfl) (by decide) ?_ hF_ hcl_
    rintro A4 c5 T6 ⟨hs7, hz8⟩
    refine TD.vals [] (by kernel_rfl) [16, 17] [] [] [0, 1, 2, 25, 27] [true, true, true, true, true, true, true, true, true, true, true, true, true, true, true, true, true, true, false] [(0, vP mb 0), (1, vI i), (2, vI v), (25, .slice A4 (M.lg.length + ([(i, M.cs.getD i.toNat 0)]).length) c5), (27, vP mb 1)] [] [] (by kernel_rfl) (by kernel_rfl) mn an 1 rfl ?_
    refine TD.one 18 (by kernel_rfl) 0 rfl fun a_ hF_ hcl_ => ?_
    refine OPJ.ev [] [.own 1] [0, 1, 2] (fun _ => [(0, vP mb 0), (1, vI i), (2, vI v)]) (fun _ => (ap [((n3 + 0), .lit [vI i, vI (M.cs.getD ((i).toNat) 0)] 182 (0, 0)), (mb, .lit [vS cb 0 M.cs.length M.cs.length, .slice A4 (M.lg.length + ([(i, M.cs.getD i.toNat 0)]).length) c5, vI M.base] 75 (0, 0)), (cb, .rows 1 M.cs.length (irow M.cs) 3 (0, 0))] [T6])) (fun _ => [mb]) (fun _ => []) (fun _ => by kernel_rfl) mn (fun _ => an) (.inl ⟨[], fun _ => by kernel_rfl⟩) (.inl (by decide)) (fun _ => ?_) hF_ hcl_
    refine TD.fin (by kernel_rfl) (EX.np ?_)
    refine EX.next ?_
    refine TR.reg ?_
    refine TL.seg0 8 [] [.own 1, .ix ((i).toNat), .row 2 ((i).toNat) 0] [] [] (ap [((n3 + 0), .lit [vI i, vI (M.cs.getD ((i).toNat) 0)] 182 (0, 0)), (mb, .lit [vS cb 0 M.cs.length M.cs.length, .slice A4 (M.lg.length + ([(i, M.cs.getD i.toNat 0)]).length) c5, vI M.base] 75 (0, 0)), (cb, .rows 1 M.cs.length (updG (irow M.cs) ((i).toNat) 0 (vI v)) 3 (0, 0))] [T6]) [cb, mb] [(0 + ((i).toNat) * 1) = ((i).toNat) * 1 + 0 ∧ ((i).toNat) < M.cs.length, i = (((i).toNat : Nat) : Int) ∧ (i).toNat < M.cs.length] (fun _ => by kernel_rfl) mn (ac ⟨by omega, by omega⟩ (ac ⟨by omega, by omega⟩ an)) ?_
    refine TL.fin (by kernel_rfl) ?_
    refine EX.fin (A := [((n3 + 0), .lit [vI i, vI (M.cs.getD ((i).toNat) 0)] 182 (0, 0)), (mb, .lit [vS cb 0 M.cs.length M.cs.length, .slice A4 (M.lg.length + ([(i, M.cs.getD i.toNat 0)]).length) c5, vI M.base] 75 (0, 0)), (cb, .rows 1 M.cs.length (updG (irow M.cs) ((i).toNat) 0 (vI v)) 3 (0, 0))]) (Ts := [T6]) rfl rfl [] [] (.tuple #[]) [] [] (fun _ => by kernel_rfl) mn an [1, 2] [0] [0] [] (ap [(mb, .lit [vS cb 0 M.cs.length M.cs.length, .slice A4 (M.lg.length + ([(i, M.cs.getD i.toNat 0)]).length) c5, vI M.base] 75 (0, 0)), (cb, .rows 1 M.cs.length (updG (irow M.cs) ((i).toNat) 0 (vI v)) 3 (0, 0))] [T6]) (by kernel_rfl) (by kernel_rfl) (by kernel_rfl) ?_
    exact MemH.put (by omega) hc (by omega) hs7
  · refine TR.yes (b := !(decide (0 ≤ i ∧ i < M.cs.length))) (by kernel_rfl) (by kernel_rfl) (by rw [decide_eq_false h1]; rfl) ?_
    refine TR.ret (A := [(mb, .lit [vS cb 0 M.cs.length M.cs.length, .slice A M.lg.length cap, vI M.base] 75 (0, 0)), (cb, .rows 1 M.cs.length (irow M.cs) 3 (0, 0))]) (Ts := [Hl]) (by exact fun _ _ h => h) rfl rfl [] [] (.tuple #[]) [] [] (fun _ => by kernel_rfl) mn an [0, 1] [] [0] [] (ap [(mb, .lit [vS cb 0 M.cs.length M.cs.length, .slice A M.lg.length cap, vI M.base] 75 (0, 0)), (cb, .rows 1 M.cs.length (irow M.cs) 3 (0, 0))] [Hl]) (by kernel_rfl) (by kernel_rfl) (by kernel_rfl) ?_
    have e : M.set i v = M := by unfold MemS.set; rw [if_neg (by assumption)]
    rw [e]
    exact .mk cb A cap Hl hs hc (by omega)

theorem set_any {mb : Nat} {M : MemS} {k : Nat} {T : HL} (i v : Int) {F : HL} (h : MemH mb M (k + 1) T) : Sp Tryz.prog 150 #[vP mb 0, vI i, vI v] (ap [] [T]) F (fun u H' => ∃ x, H' = ap ((fun _ => []) x) ((fun x => [x]) x) ∧ MemH mb (M.set i v) k x) := by
  cases h with
  | mk cb A cap Hl hsl hc hl =>
    have e : ∀ T : HL, ap [] [T] = T := fun T => by simp
    have := set_mem mb cb M k A cap i v Hl F hsl hc hl
    rw [e]
    exact this.mono fun u H' h => ⟨H', (e H').symm, h⟩
end Go.Proofs.YtpkincoclhpcgaaGreatDoor
