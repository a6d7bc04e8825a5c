/- Contracts, printed by a program. -/
import Derived.Test.YtampdcgphdnnhaaGreatDoorU35
namespace Go.Proofs.YtampdcgphdnnhaaGreatDoor
set_option linter.unusedSimpArgs false
set_option linter.unusedVariables false
open Go.RowKit
/-- operations and jumps are in range -/
def OKi (n : Nat) (i : Ins) : Prop := (1 ≤ i.op ∧ i.op ≤ 21) ∧ (i.op = 18 ∨ i.op = 19 → 0 ≤ i.n ∧ i.n ≤ n)
def OKc (l : List Ins) : Prop := ∀ i ∈ l, OKi l.length i
theorem OKi.up {n m : Nat} {i : Ins} (h : OKi n i) (hn : n ≤ m) : OKi m i := ⟨h.1, fun e => by have := h.2 e; omega⟩
theorem OKc.nil : OKc [] := fun i hi => by simp at hi
theorem OKc.snoc {l : List Ins} (h : OKc l) {op n : Int} (ho : 1 ≤ op ∧ op ≤ 21) (hn : op = 18 ∨ op = 19 → 0 ≤ n ∧ n ≤ (l.length : Int) + 1) : OKc (l ++ [⟨op, n⟩]) := by
  intro i hi
  rw [List.length_append]
  rcases List.mem_append.1 hi with hi | hi
  · exact (h i hi).up (by simp)
  · simp only [List.mem_singleton] at hi
    subst hi
    exact ⟨ho, fun e => by have := hn e; simp; omega⟩
theorem OKc.setN {l : List Ins} (h : OKc l) {k : Nat} (hk : k < l.length) {z : Int} (hz : 0 ≤ z ∧ z ≤ l.length) : OKc (l.set k ⟨(l.getD k dIns).op, z⟩) := by
  intro i hi
  rw [List.length_set]
  rcases List.mem_or_eq_of_mem_set hi with hi | rfl
  · exact h i hi
  · have : l.getD k dIns ∈ l := getD_mem' hk
    exact ⟨(h _ this).1, fun _ => hz⟩
theorem crow_set {l : List Ins} {k : Nat} (h : k < l.length) (z : Int) : updG (crow l) k 1 (vI z) = crow (l.set k ⟨(l.getD k dIns).op, z⟩) := by
  funext i' k'
  unfold updG
  by_cases h1 : i' = k
  · subst h1
    rcases k' with _ | _ | k'
    · simp [crow, rowE, insE, h]
    · simp [crow, rowE, insE, h]
    · simp [crow, rowE, insE, h]
  · have : ¬ k = i' := fun e => h1 e.symm
    simp [h1, crow, rowE, List.getElem?_set, this]
theorem SlIs.ofRows {α : Type} {e : Enc α} {T : TypeId} {l rest : List α} {b c : Nat} (h : (l ++ rest).length = c) : SlIs e T l (some ⟨b, 0, none⟩) c [(b, .rows e.w c (rowE e (l ++ rest)) T (0, 0))] :=
  .inr ⟨b, 0, l ++ rest, by rw [Nat.zero_mul], by rw [Nat.zero_add], by omega, by rw [← h]; simp, by simp⟩
theorem SlIs.openL {α : Type} {e : Enc α} {T : TypeId} {l : List α} {A : Option Addr} {cap : Nat} {Hl : HL} (h : SlIs e T l A cap Hl) (hz : zeroOff A) (hw : 0 < e.w) (hl : 0 < l.length) : ∃ b rest, A = some ⟨b, 0, none⟩ ∧ Hl = [(b, .rows e.w cap (rowE e (l ++ rest)) T (0, 0))] ∧ (l ++ rest).length = cap := by
  rcases h with ⟨_, _, rfl, _⟩ | ⟨b, o, full, rfl, rfl, h3, h4, h5⟩
  · simp at hl
  · have ho : o = 0 := by
      have h6 : o * e.w = 0 := hz
      rcases Nat.mul_eq_zero.1 h6 with h | h
      · exact h
      · omega
    subst ho
    have : l ++ full.drop l.length = full := by
      conv => lhs; lhs; rw [← h5]
      rw [List.drop_zero, List.take_append_drop]
    refine ⟨b, full.drop l.length, by rw [Nat.zero_mul], ?_, by rw [this]; omega⟩
    rw [this, Nat.zero_add]
/-- how much code a tree of a height gives at most -/
def gr : Nat → Nat
  | 0 => 0
  | h + 1 => 3 * gr h + 5
theorem Ht.kids3 {h : Nat} {x : Nd} (hx : Ht (h + 1) x) : x.kids.length ≤ 3 := by cases hx with | mk _ _ _ _ _ _ _ hl _ => exact hl
theorem Ht.kid {h : Nat} {x y : Nd} (hx : Ht (h + 1) x) (hy : y ∈ x.kids) : Ht h y := by cases hx with | mk _ _ _ _ _ _ _ _ hk => exact hk y hy
theorem NdIn.up {F X : HL} {x : Nd} (h : NdIn F x) : NdIn (X ++ F) x := h.mono fun _ hy => List.mem_append_right _ hy
abbrev trH (tb m : Nat) (e0 e1 e2 : Int) (kv : List (ByteArray × Value)) (n : Nat) (A : Option Addr) (c : Nat) : HL := [(tb, .lit [.slice A n c, .map (some m), vI e0, vI e1, vI e2] 110 (0, 0)), (m, .obj (smap kv))]
abbrev TrR (tb m : Nat) (e0 e1 e2 : Int) (kv : List (ByteArray × Value)) (l : List Ins) (g : Nat) : Value → HL → Prop := fun u H' => ∃ x : List Ins × Option Addr × Nat × HL, H' = ap (trH tb m e0 e1 e2 kv x.1.length x.2.1 x.2.2.1) [x.2.2.2] ∧ (SlIs insE 142 x.1 x.2.1 x.2.2.1 x.2.2.2 ∧ zeroOff x.2.1 ∧ l.length ≤ x.1.length ∧ x.1.length ≤ l.length + g ∧ OKc x.1)
def TrC (h : Nat) : Prop := ∀ (x : Nd) (tb m : Nat) (e0 e1 e2 : Int) (kv : List (ByteArray × Value)) (l : List Ins) (A : Option Addr) (c : Nat) (T F : HL), Ht h x → NdIn F x → SlIs insE 142 l A c T → zeroOff A → OKc l → AllInt kv → l.length + gr h ≤ 100000000 →
  Sp Tryz.prog 49 #[vP tb 0, ndV x] (ap (trH tb m e0 e1 e2 kv l.length A c) [T]) F (TrR tb m e0 e1 e2 kv l (gr h))

set_option maxHeartbeats 1000000 in
set_option maxRecDepth 100000 in
theorem emit_any (tb m : Nat) (e0 e1 e2 : Int) (kv : List (ByteArray × Value)) (l : List Ins) (A : Option Addr) (c : Nat) (T F : HL) (hs : SlIs insE 142 l A c T) (hz : zeroOff A) (ok : OKc l) (hkv : AllInt kv) (op n : Int) (ho : 1 ≤ op ∧ op ≤ 21) (hn : op = 18 ∨ op = 19 → 0 ≤ n ∧ n ≤ (l.length : Int) + 1) (hb : l.length + 1 ≤ 100000000) : Sp Tryz.prog 50 #[vP tb 0, vI op, vI n] (ap [(tb, .lit [.slice A l.length c, .map (some m), vI e0, vI e1, vI e2] 110 (0, 0)), (m, .obj (smap kv))] [T]) F (fun u H' => ∃ x : List Ins × Option Addr × Nat × HL, H' = ap (trH tb m e0 e1 e2 kv x.1.length x.2.1 x.2.2.1) [x.2.2.2] ∧ (u = vI (l.length : Int) ∧ SlIs insE 142 x.1 x.2.1 x.2.2.1 x.2.2.2 ∧ zeroOff x.2.1 ∧ x.1.length = l.length + 1 ∧ OKc x.1)) := by
  refine Sp.run Tryz.func50 rfl mn (A := [(tb, .lit [.slice A l.length c, .map (some m), vI e0, vI e1, vI e2] 110 (0, 0)), (m, .obj (smap kv))]) (Ts := [T]) rfl fun w0 => ?_
  refine RN.go 16 [.own 0] fun n1 => RN.app insEOk l [⟨op, n⟩] 0 0 rfl hs (by simp; omega) ?_
  rintro A2 c3 T4 ⟨hs5, hz6⟩
  refine RN.goP 16 [.own 1, .own 1, .nw] [I64 ((((l.length + 1) : Nat) : Int) - 1)] fun _ => RN.ret [] [1, 2] [0] (v := vI ((((l.length + 1) : Nat) : Int) - 1)) (H' := (ap [(tb, .lit [.slice A2 (l.length + 1) c3, .map (some m), vI e0, vI e1, vI e2] 110 (0, 0)), (m, .obj (smap kv))] [T4])) ?_
  exact ⟨(l ++ [⟨op, n⟩], A2, c3, T4), by simp [ap], congrArg (Value.int .i64) (by omega), hs5, hz6 hz, by simp, ok.snoc ho hn⟩

set_option maxHeartbeats 1000000 in
set_option maxRecDepth 100000 in
theorem jump_any (tb m : Nat) (e0 e1 e2 : Int) (kv : List (ByteArray × Value)) (l : List Ins) (A : Option Addr) (c : Nat) (T F : HL) (hs : SlIs insE 142 l A c T) (hz : zeroOff A) (ok : OKc l) (hkv : AllInt kv) (op : Int) (ho : 1 ≤ op ∧ op ≤ 21) (hb : l.length + 1 ≤ 100000000) : Sp Tryz.prog 148 #[vP tb 0, vI op] (ap [(tb, .lit [.slice A l.length c, .map (some m), vI e0, vI e1, vI e2] 110 (0, 0)), (m, .obj (smap kv))] [T]) F (fun u H' => ∃ x : List Ins × Option Addr × Nat × HL × Nat × Nat, H' = ap ((x.2.2.2.2.1, .lit [vP tb 0] 138 (0, 0)) :: (x.2.2.2.2.2, .lit [vI (l.length : Int)] 3 (0, 0)) :: trH tb m e0 e1 e2 kv x.1.length x.2.1 x.2.2.1) [x.2.2.2.1] ∧ (u = .func (.func 164) #[] #[vP x.2.2.2.2.1 0, vP x.2.2.2.2.2 0] ∧ SlIs insE 142 x.1 x.2.1 x.2.2.1 x.2.2.2.1 ∧ zeroOff x.2.1 ∧ x.1.length = l.length + 1 ∧ OKc x.1)) := by
  refine Sp.run Tryz.func148 rfl mn (A := [(tb, .lit [.slice A l.length c, .map (some m), vI e0, vI e1, vI e2] 110 (0, 0)), (m, .obj (smap kv))]) (Ts := [T]) rfl fun w0 => ?_
  refine RN.go 10 [.own 0] fun n1 => RN.ct [1, 2] [0] (emit_any tb m e0 e1 e2 kv l A c T _ hs hz ok hkv op 0 (by omega) (by intro h; omega) (by omega)) ?_
  rintro _ ⟨l2, A3, c4, T5⟩ ⟨rfl, hs6, hz7, hl8, ok9⟩
  dsimp only at hs6 hz7 hl8 ok9
  refine RN.go 10 [.own 0] fun n10 => RN.ret [] [3, 0, 1, 2] [0] (v := .func (.func 164) #[] #[vP (n1 + 0) 0, vP (n10 + 0) 0]) (H' := (ap [((n1 + 0), .lit [vP tb 0] 138 (0, 0)), ((n10 + 0), .lit [vI (l.length : Int)] 3 (0, 0)), (tb, .lit [.slice A3 l2.length c4, .map (some m), vI e0, vI e1, vI e2] 110 (0, 0)), (m, .obj (smap kv))] [T5])) ?_
  exact ⟨(l2, A3, c4, T5, (n1 + 0), (n10 + 0)), rfl, rfl, hs6, hz7, by assumption, ok9⟩

set_option maxHeartbeats 400000 in
set_option maxRecDepth 100000 in
theorem jset_open (tb m q1 q2 b c k : Nat) (e0 e1 e2 : Int) (l rest : List Ins) (F : HL) (hc : (l ++ rest).length = c) (hk : k < l.length) (ok : OKc l) (h1 : (q1, .lit [vP tb 0] 138 (0, 0)) ∈ F) (h2 : (q2, .lit [vI (k : Int)] 3 (0, 0)) ∈ F) (h3 : (tb, .lit [vS b 0 l.length c, .map (some m), vI e0, vI e1, vI e2] 110 (0, 0)) ∈ F) : SpD Tryz.prog 164 #[vP q1 0, vP q2 0] [(b, .rows 2 c (crow (l ++ rest)) 142 (0, 0))] F (fun u H' => ∃ x : List Ins × HL, H' = ap [] [x.2] ∧ (SlIs insE 142 x.1 (some ⟨b, 0, none⟩) c x.2 ∧ x.1.length = l.length ∧ OKc x.1)) := by
  have hc2 : l.length ≤ c := by rw [← hc, List.length_append]; omega
  refine SpD.run Tryz.func164 rfl (mc h1 (mc h2 (mc h3 mn))) (A := [(b, .rows 2 c (crow (l ++ rest)) 142 (0, 0))]) (Ts := []) rfl fun w0 => ?_
  refine RN.draw [12] [] <| RD.goP [] [0, 4, 5, 1, 6, 2, 7, 3, 8, 9, 10, 11] [.ro 0, .ro 1, .ro 0, .ro 2, .ro 2, .ix k] [(k : Int) = ((k : Nat) : Int) ∧ k < l.length] <| RD.one 12 (RDO.evP [] [.row 0 k 1] [((0 + k * 2) + 1) = k * 2 + 1 ∧ k < c] fun _ => ?_)
  refine RD.fin <| RN.ret [] [0] [] (v := .tuple #[]) (H' := (ap [(b, .rows 2 c (updG (crow (l ++ rest)) k 1 (vI (l.length : Int))) 142 (0, 0))] [])) ?_
  have e_ : updG (crow (l ++ rest)) k 1 (vI (l.length : Int)) = crow (l.set k ⟨(l.getD k dIns).op, (l.length : Int)⟩ ++ rest) := by
    rw [crow_set (by rw [List.length_append]; omega), List.set_append_left _ _ hk]
    simp only [List.getD_eq_getElem?_getD, List.getElem?_append_left hk]
  rw [e_]
  exact ⟨(l.set k ⟨(l.getD k dIns).op, (l.length : Int)⟩, [(b, .rows 2 c (crow (l.set k ⟨(l.getD k dIns).op, (l.length : Int)⟩ ++ rest)) 142 (0, 0))]), rfl, SlIs.ofRows (e := insE) (by rw [List.length_append, List.length_set, ← List.length_append]; exact hc), List.length_set .., ok.setN hk (by omega)⟩

theorem jset_any (tb m q1 q2 c k : Nat) (e0 e1 e2 : Int) (l : List Ins) (A : Option Addr) (T F : HL) (hs : SlIs insE 142 l A c T) (hz : zeroOff A) (hk : k < l.length) (ok : OKc l) (h1 : (q1, .lit [vP tb 0] 138 (0, 0)) ∈ F) (h2 : (q2, .lit [vI (k : Int)] 3 (0, 0)) ∈ F) (h3 : (tb, .lit [.slice A l.length c, .map (some m), vI e0, vI e1, vI e2] 110 (0, 0)) ∈ F) :
    SpD Tryz.prog 164 #[vP q1 0, vP q2 0] (ap [] [T]) F (fun u H' => ∃ x : List Ins × HL, H' = ap [] [x.2] ∧ (SlIs insE 142 x.1 A c x.2 ∧ x.1.length = l.length ∧ OKc x.1)) := by
  obtain ⟨b, rest, rfl, rfl, hc⟩ := hs.openL hz (by decide) (by omega)
  exact jset_open tb m q1 q2 b c k e0 e1 e2 l rest F hc hk ok h1 h2 h3
end Go.Proofs.YtampdcgphdnnhaaGreatDoor
/- Contracts, printed by a program. -/
namespace Go.Proofs.YtampdcgphdnnhaaGreatDoor
set_option linter.unusedSimpArgs false
set_option linter.unusedVariables false
open Go.RowKit
set_option maxHeartbeats 1000000 in
set_option maxRecDepth 100000 in
theorem kid_node (tb m : Nat) (e0 e1 e2 : Int) (kv : List (ByteArray × Value)) (l : List Ins) (A : Option Addr) (c : Nat) (T F : HL) (hs : SlIs insE 142 l A c T) (hz : zeroOff A) (ok : OKc l) (hkv : AllInt kv) (h i : Nat) (iz : Int) (hi : iz = (i : Int)) (k n : Int) (s : ByteArray) (q N cq : Nat) (kl rest : List Nd) (hq : (q, .rows 4 N (nrow (kl ++ rest)) 82 (0, 0)) ∈ F) (hN : kl.length ≤ N) (hx : ∀ y ∈ kl, Ht h y) (hk : ∀ y ∈ kl, NdIn F y) (hl3 : kl.length ≤ 3) (ih : TrC h) (hb : l.length + (gr h) ≤ 100000000) : Sp Tryz.prog 72 #[vP tb 0, .agg #[vI k, vI n, .string s, vS q 0 kl.length cq], vI (i : Int)] (ap [(tb, .lit [.slice A l.length c, .map (some m), vI e0, vI e1, vI e2] 110 (0, 0)), (m, .obj (smap kv))] [T]) F (TrR tb m e0 e1 e2 kv l (gr h)) := by
  refine Sp.run Tryz.func72 rfl (mc hq mn) (A := [(tb, .lit [.slice A l.length c, .map (some m), vI e0, vI e1, vI e2] 110 (0, 0)), (m, .obj (smap kv))]) (Ts := [T]) rfl fun w0 => ?_
  refine RN.go 14 [.own 0] fun n1 => RN.em ((i : Int) < (kl.length : Int)) 10 (fun h2 => ?_) fun h2 => ?_
  · have hy : ((kl ++ rest).getD i dN) ∈ kl := by rw [List.getD_eq_getElem?_getD, List.getElem?_append_left (by omega), ← List.getD_eq_getElem?_getD]; exact getD_mem' (by omega)
    refine RN.goP 8 [.own 0, .ix i, .rorow 0 i 0, .rorow 0 i 1, .rorow 0 i 2, .rorow 0 i 3] [((0 + i * 4) + 3) = i * 4 + 3 ∧ i < N, ((0 + i * 4) + 2) = i * 4 + 2 ∧ i < N, ((0 + i * 4) + 1) = i * 4 + 1 ∧ i < N, (0 + i * 4) = i * 4 + 0 ∧ i < N, (i : Int) = ((i : Nat) : Int) ∧ i < kl.length] fun _ => RN.ct [1, 2] [0] (ih ((kl ++ rest).getD i dN) tb m e0 e1 e2 kv l A c T _ (hx _ hy) (hk _ hy).up hs hz ok hkv (by omega)) ?_
    rintro _ ⟨l3, A4, c5, T6⟩ ⟨hs7, hz8, hg9, hl10, ok11⟩
    dsimp only at hs7 hz8 hg9 hl10 ok11
    refine RN.go 1 [] fun _ => RN.ret [] [0, 1] [0] (v := .tuple #[]) (H' := (ap [(tb, .lit [.slice A4 l3.length c5, .map (some m), vI e0, vI e1, vI e2] 110 (0, 0)), (m, .obj (smap kv))] [T6])) ?_
    exact ⟨(l3, A4, c5, T6), rfl, hs7, hz8, (by dsimp only; omega), (by dsimp only; omega), ok11⟩
  · refine RN.go 2 [] fun _ => RN.ret [] [1, 2] [0] (v := .tuple #[]) (H' := (ap [(tb, .lit [.slice A l.length c, .map (some m), vI e0, vI e1, vI e2] 110 (0, 0)), (m, .obj (smap kv))] [T])) ?_
    exact ⟨(l, A, c, T), rfl, hs, hz, (by dsimp only; omega), (by dsimp only; omega), ok⟩

set_option maxHeartbeats 1000000 in
set_option maxRecDepth 100000 in
theorem kid_leaf (tb m : Nat) (e0 e1 e2 : Int) (kv : List (ByteArray × Value)) (l : List Ins) (A : Option Addr) (c : Nat) (T F : HL) (hs : SlIs insE 142 l A c T) (hz : zeroOff A) (ok : OKc l) (hkv : AllInt kv) (h i : Nat) (k n : Int) (s : ByteArray) (Aq : Option Addr) (cq : Nat) (hb : l.length + (gr h) ≤ 100000000) : Sp Tryz.prog 72 #[vP tb 0, .agg #[vI k, vI n, .string s, .slice Aq 0 cq], vI (i : Int)] (ap [(tb, .lit [.slice A l.length c, .map (some m), vI e0, vI e1, vI e2] 110 (0, 0)), (m, .obj (smap kv))] [T]) F (TrR tb m e0 e1 e2 kv l (gr h)) := by
  refine Sp.run Tryz.func72 rfl mn (A := [(tb, .lit [.slice A l.length c, .map (some m), vI e0, vI e1, vI e2] 110 (0, 0)), (m, .obj (smap kv))]) (Ts := [T]) rfl fun w0 => ?_
  refine RN.go 14 [.own 0] fun n1 => RN.em ((i : Int) < 0) 10 (fun h2 => ?_) fun h2 => ?_
  · (exfalso; omega)
  · refine RN.go 2 [] fun _ => RN.ret [] [1, 2] [0] (v := .tuple #[]) (H' := (ap [(tb, .lit [.slice A l.length c, .map (some m), vI e0, vI e1, vI e2] 110 (0, 0)), (m, .obj (smap kv))] [T])) ?_
    exact ⟨(l, A, c, T), rfl, hs, hz, (by dsimp only; omega), (by dsimp only; omega), ok⟩

theorem kid_any (tb m : Nat) (e0 e1 e2 : Int) (kv : List (ByteArray × Value)) (l : List Ins) (A : Option Addr) (c : Nat) (T F : HL) (hs : SlIs insE 142 l A c T) (hz : zeroOff A) (ok : OKc l) (hkv : AllInt kv) (h : Nat) (x : Nd) (hx : Ht (h + 1) x) (hN : NdIn F x) (ih : TrC h) (i : Nat) (iz : Int) (hi : iz = (i : Int)) (hb : l.length + gr h ≤ 100000000) : Sp Tryz.prog 72 #[vP tb 0, ndV x, vI iz] (ap (trH tb m e0 e1 e2 kv l.length A c) [T]) F (TrR tb m e0 e1 e2 kv l (gr h)) := by
  subst hi
  cases hN with
  | leaf k n s Aq cq => exact kid_leaf tb m e0 e1 e2 kv l A c T F hs hz ok hkv h i k n s Aq cq hb
  | node k n s q N cq kl rest hq hN hk => exact kid_node tb m e0 e1 e2 kv l A c T F hs hz ok hkv h i i rfl k n s q N cq kl rest hq hN (fun y hy => hx.kid hy) hk hx.kids3 ih hb

set_option maxHeartbeats 1000000 in
set_option maxRecDepth 100000 in
theorem name_any (tb m : Nat) (e0 e1 e2 : Int) (kv : List (ByteArray × Value)) (l : List Ins) (A : Option Addr) (c : Nat) (T F : HL) (hs : SlIs insE 142 l A c T) (hz : zeroOff A) (ok : OKc l) (hkv : AllInt kv) (h : Nat) (x : Nd) (hx : Ht (h + 1) x) (hN : NdIn F x) (ih : TrC h) (hb : l.length + (gr (h + 1)) ≤ 100000000) : Sp Tryz.prog 74 #[vP tb 0, .agg #[vI x.k, vI x.n, .string x.s, .slice x.A x.kids.length x.c]] (ap [(tb, .lit [.slice A l.length c, .map (some m), vI e0, vI e1, vI e2] 110 (0, 0)), (m, .obj (smap kv))] [T]) F (TrR tb m e0 e1 e2 kv l (gr (h + 1))) := by
  have hgr : gr (h + 1) = 3 * gr h + 5 := rfl
  refine Sp.run Tryz.func74 rfl mn (A := [(tb, .lit [.slice A l.length c, .map (some m), vI e0, vI e1, vI e2] 110 (0, 0)), (m, .obj (smap kv))]) (Ts := [T]) rfl fun w0 => ?_
  refine RN.go 18 [.own 0, .sq] fun n1 => RN.em (x.s = ⟨#[115, 101, 108, 102]⟩) 8 (fun h2 => ?_) fun h2 => ?_
  · refine RN.go 3 [] fun _ => RN.ct [1, 2] [0] (emit_any tb m e0 e1 e2 kv l A c T _ hs hz ok hkv 6 0 (by omega) (by intro h; omega) (by omega)) ?_
    rintro _ ⟨l3, A4, c5, T6⟩ ⟨rfl, hs7, hz8, hl9, ok10⟩
    dsimp only at hs7 hz8 hl9 ok10
    refine RN.go 2 [] fun _ => RN.ret [] [0, 1] [0] (v := .tuple #[]) (H' := (ap [(tb, .lit [.slice A4 l3.length c5, .map (some m), vI e0, vI e1, vI e2] 110 (0, 0)), (m, .obj (smap kv))] [T6])) ?_
    exact ⟨(l3, A4, c5, T6), rfl, hs7, hz8, (by dsimp only; omega), (by dsimp only; omega), ok10⟩
  · refine RN.go 7 [.sq] fun _ => RN.em (x.s = ⟨#[111, 116, 104, 101, 114]⟩) 12 (fun h11 => ?_) fun h11 => ?_
    · refine RN.go 3 [] fun _ => RN.ct [1, 2] [0] (emit_any tb m e0 e1 e2 kv l A c T _ hs hz ok hkv 7 0 (by omega) (by intro h; omega) (by omega)) ?_
      rintro _ ⟨l12, A13, c14, T15⟩ ⟨rfl, hs16, hz17, hl18, ok19⟩
      dsimp only at hs16 hz17 hl18 ok19
      refine RN.go 2 [] fun _ => RN.ret [] [0, 1] [0] (v := .tuple #[]) (H' := (ap [(tb, .lit [.slice A13 l12.length c14, .map (some m), vI e0, vI e1, vI e2] 110 (0, 0)), (m, .obj (smap kv))] [T15])) ?_
      exact ⟨(l12, A13, c14, T15), rfl, hs16, hz17, (by dsimp only; omega), (by dsimp only; omega), ok19⟩
    · refine RN.go 3 [] fun _ => RN.ct [1, 2] [0] (emit_any tb m e0 e1 e2 kv l A c T _ hs hz ok hkv 8 0 (by omega) (by intro h; omega) (by omega)) ?_
      rintro _ ⟨l20, A21, c22, T23⟩ ⟨rfl, hs24, hz25, hl26, ok27⟩
      dsimp only at hs24 hz25 hl26 ok27
      refine RN.go 2 [] fun _ => RN.ret [] [0, 1] [0] (v := .tuple #[]) (H' := (ap [(tb, .lit [.slice A21 l20.length c22, .map (some m), vI e0, vI e1, vI e2] 110 (0, 0)), (m, .obj (smap kv))] [T23])) ?_
      exact ⟨(l20, A21, c22, T23), rfl, hs24, hz25, (by dsimp only; omega), (by dsimp only; omega), ok27⟩

set_option maxHeartbeats 1000000 in
set_option maxRecDepth 100000 in
theorem unary_any (tb m : Nat) (e0 e1 e2 : Int) (kv : List (ByteArray × Value)) (l : List Ins) (A : Option Addr) (c : Nat) (T F : HL) (hs : SlIs insE 142 l A c T) (hz : zeroOff A) (ok : OKc l) (hkv : AllInt kv) (h : Nat) (x : Nd) (hx : Ht (h + 1) x) (hN : NdIn F x) (ih : TrC h) (hb : l.length + (gr (h + 1)) ≤ 100000000) : Sp Tryz.prog 75 #[vP tb 0, .agg #[vI x.k, vI x.n, .string x.s, .slice x.A x.kids.length x.c]] (ap [(tb, .lit [.slice A l.length c, .map (some m), vI e0, vI e1, vI e2] 110 (0, 0)), (m, .obj (smap kv))] [T]) F (TrR tb m e0 e1 e2 kv l (gr (h + 1))) := by
  have hgr : gr (h + 1) = 3 * gr h + 5 := rfl
  refine Sp.run Tryz.func75 rfl mn (A := [(tb, .lit [.slice A l.length c, .map (some m), vI e0, vI e1, vI e2] 110 (0, 0)), (m, .obj (smap kv))]) (Ts := [T]) rfl fun w0 => ?_
  refine RN.go 9 [.own 0, .own 0, .own 0, .own 0] fun n1 => RN.ct [1, 2] [0] (kid_any tb m e0 e1 e2 kv l A c T _ hs hz ok hkv h x hx hN.up ih 0 0 rfl (by omega)) ?_
  rintro _ ⟨l2, A3, c4, T5⟩ ⟨hs6, hz7, hg8, hl9, ok10⟩
  dsimp only at hs6 hz7 hg8 hl9 ok10
  refine RN.go 9 [.own 2, .sq] fun _ => RN.em (x.s = ⟨#[45]⟩) 9 (fun h11 => ?_) fun h11 => ?_
  · refine RN.go 3 [] fun _ => RN.ct [0, 1] [0] (emit_any tb m e0 e1 e2 kv l2 A3 c4 T5 _ hs6 hz7 ok10 hkv 13 0 (by omega) (by intro h; omega) (by omega)) ?_
    rintro _ ⟨l12, A13, c14, T15⟩ ⟨rfl, hs16, hz17, hl18, ok19⟩
    dsimp only at hs16 hz17 hl18 ok19
    refine RN.go 1 [] fun _ => RN.ret [] [0, 1] [0] (v := .tuple #[]) (H' := (ap [(tb, .lit [.slice A13 l12.length c14, .map (some m), vI e0, vI e1, vI e2] 110 (0, 0)), (m, .obj (smap kv))] [T15])) ?_
    exact ⟨(l12, A13, c14, T15), rfl, hs16, hz17, (by dsimp only; omega), (by dsimp only; omega), ok19⟩
  · refine RN.go 3 [] fun _ => RN.ct [0, 1] [0] (emit_any tb m e0 e1 e2 kv l2 A3 c4 T5 _ hs6 hz7 ok10 hkv 17 0 (by omega) (by intro h; omega) (by omega)) ?_
    rintro _ ⟨l20, A21, c22, T23⟩ ⟨rfl, hs24, hz25, hl26, ok27⟩
    dsimp only at hs24 hz25 hl26 ok27
    refine RN.go 1 [] fun _ => RN.ret [] [0, 1] [0] (v := .tuple #[]) (H' := (ap [(tb, .lit [.slice A21 l20.length c22, .map (some m), vI e0, vI e1, vI e2] 110 (0, 0)), (m, .obj (smap kv))] [T23])) ?_
    exact ⟨(l20, A21, c22, T23), rfl, hs24, hz25, (by dsimp only; omega), (by dsimp only; omega), ok27⟩
end Go.Proofs.YtampdcgphdnnhaaGreatDoor
