/- The plain law of MachineTouches: both lists are the same. -/
import Derived.Test.YtampdcgphdnnhaaGreatDoorT36
import Derived.Test.YtampdcgphdnnhaaGreatDoorT37
import Derived.Test.YtampdcgphdnnhaaGreatDoorT40
import Derived.Test.YtampdcgphdnnhaaGreatDoorT34
namespace Go.Proofs.YtampdcgphdnnhaaGreatDoor
set_option linter.unusedSimpArgs false
set_option linter.unusedVariables false
open Go.RowKit

theorem inc_ext : ∀ {a b : List Int}, a.Pairwise (· < ·) → b.Pairwise (· < ·) → (∀ y, y ∈ a ↔ y ∈ b) → a = b
  | [], [], _, _, _ => rfl
  | [], z :: b, _, _, h => absurd ((h z).2 List.mem_cons_self) List.not_mem_nil
  | x :: a, [], _, _, h => absurd ((h x).1 List.mem_cons_self) List.not_mem_nil
  | x :: a, z :: b, ha, hb, h => by
    rw [List.pairwise_cons] at ha hb
    have e : x = z := by
      rcases List.mem_cons.1 ((h x).1 List.mem_cons_self) with h1 | h1
      · exact h1
      · rcases List.mem_cons.1 ((h z).2 List.mem_cons_self) with h2 | h2
        · exact h2.symm
        · have := hb.1 x h1; have := ha.1 z h2; omega
    subst e
    rw [inc_ext ha.2 hb.2 fun y => ?_]
    have h1 := h y
    rw [List.mem_cons, List.mem_cons] at h1
    constructor
    · intro hy
      rcases h1.1 (.inr hy) with h2 | h2
      · have := ha.1 y hy; omega
      · exact h2
    · intro hy
      rcases h1.2 (.inr hy) with h2 | h2
      · have := hb.1 y hy; omega
      · exact h2
theorem btC_mem {S : Setup} {b y : Int} : y ∈ btC S b ↔ BdP S b y := by
  unfold btC
  split
  · rw [rg_mem]; constructor <;> (intro h; unfold BdP at *; omega)
  · constructor
    · intro h; exact absurd h List.not_mem_nil
    · intro h; unfold BdP at h; omega
abbrev HX (M : MemS) : Prop := M.get 1 = 1 ∨ M.get 1 = 2 ∨ M.get 1 = 6
abbrev PX (M : MemS) : Prop := M.get 1 = 0 ∨ M.get 1 = 1 ∨ M.get 1 = 3
theorem touL_mem {S : Setup} {M : MemS} {y : Int} : y ∈ touL S M ↔ (((0 ≤ y ∧ y < 14) ∨ (HX M ∧ (16 ≤ y ∧ y < 48))) ∨ (PX M ∧ PlP S (M.get 2) y)) ∨ ∃ b, b ∈ bodsL M ∧ BdP S b y := by
  unfold touL headL
  rw [List.mem_append, List.mem_append, List.mem_append, List.mem_flatMap]
  refine or_congr (or_congr (or_congr ?_ ?_) ?_) ?_
  · rw [rg_mem]; constructor <;> (intro h; omega)
  · by_cases h : M.get 1 = 1 ∨ M.get 1 = 2 ∨ M.get 1 = 6
    · rw [if_pos h, List.mem_append, rg_mem, rg_mem]
      exact ⟨fun h2 => ⟨h, by omega⟩, fun h2 => by have := h2.2; omega⟩
    · rw [if_neg h]
      exact ⟨fun h2 => absurd h2 List.not_mem_nil, fun h2 => absurd h2.1 h⟩
  · by_cases h : 0 ≤ playerAt S (M.get 2) ∧ (M.get 1 = 0 ∨ M.get 1 = 1 ∨ M.get 1 = 3)
    · rw [if_pos h, rg_mem]
      exact ⟨fun h2 => ⟨h.2, h.1, h2.1, by have := h2.2; omega⟩, fun h2 => ⟨h2.2.2.1, by have := h2.2.2.2; omega⟩⟩
    · rw [if_neg h]
      exact ⟨fun h2 => absurd h2 List.not_mem_nil, fun h2 => absurd ⟨h2.2.1, h2.1⟩ h⟩
  · constructor
    · rintro ⟨b, hb, hy⟩; exact ⟨b, srt_mem.1 (cmp_mem.1 hb), btC_mem.1 hy⟩
    · rintro ⟨b, hb, hy⟩; exact ⟨b, cmp_mem.2 (srt_mem.2 hb), btC_mem.2 hy⟩
theorem ex_app {a c : List Int} {f : Int → Prop} : (∃ b, b ∈ a ++ c ∧ f b) ↔ (∃ b, b ∈ a ∧ f b) ∨ ∃ b, b ∈ c ∧ f b := by
  constructor
  · rintro ⟨b, hb, hf⟩
    rcases List.mem_append.1 hb with h | h
    · exact .inl ⟨b, h, hf⟩
    · exact .inr ⟨b, h, hf⟩
  · rintro (⟨b, hb, hf⟩ | ⟨b, hb, hf⟩)
    · exact ⟨b, List.mem_append_left _ hb, hf⟩
    · exact ⟨b, List.mem_append_right _ hb, hf⟩
theorem ex_if {p : Prop} [Decidable p] {x : Int} {f : Int → Prop} : (∃ b, b ∈ (if p then [x] else []) ∧ f b) ↔ p ∧ f x := by
  by_cases h : p
  · rw [if_pos h]
    exact ⟨fun ⟨b, hb, hf⟩ => ⟨h, List.mem_singleton.1 hb ▸ hf⟩, fun h2 => ⟨x, List.mem_singleton.2 rfl, h2.2⟩⟩
  · rw [if_neg h]
    exact ⟨fun ⟨b, hb, hf⟩ => absurd hb List.not_mem_nil, fun h2 => absurd h2.1 h⟩
theorem ex_ifl {p : Prop} [Decidable p] {l : List Int} {f : Int → Prop} : (∃ b, b ∈ (if p then l else []) ∧ f b) ↔ p ∧ ∃ b, b ∈ l ∧ f b := by
  by_cases h : p
  · rw [if_pos h]
    exact ⟨fun h2 => ⟨h, h2⟩, fun h2 => h2.2⟩
  · rw [if_neg h]
    exact ⟨fun ⟨b, hb, hf⟩ => absurd hb List.not_mem_nil, fun h2 => absurd h2.1 h⟩
abbrev VX (M : MemS) (k : Int) : Prop := 0 ≤ IntKind.i64.wrap (M.get 7 - k) ∧ IntKind.i64.wrap (M.get 7 - k) < 16
theorem bods_ex {M : MemS} {f : Int → Prop} : (∃ b, b ∈ bodsL M ∧ f b) ↔ ((HX M ∧ ((VX M 1 ∧ f (M.get (16 + IntKind.i64.wrap (M.get 7 - 1)))) ∨ (VX M 2 ∧ f (M.get (16 + IntKind.i64.wrap (M.get 7 - 2)))))) ∨ ((3 ≤ M.get 1 ∧ M.get 1 ≤ 7) ∧ f (M.get 2))) ∨ ((M.get 1 = 4 ∨ M.get 1 = 5) ∧ f (M.get 3)) := by
  unfold bodsL operL opl
  rw [ex_app, ex_app, ex_ifl, ex_app, ex_if, ex_if, ex_if, ex_if]
theorem cs_get {M : MemS} (h : 48 ≤ M.cs.length) {k : Int} (hk : 0 ≤ k ∧ k < 48) : M.cs.getD k.toNat 0 = M.get k := by
  unfold MemS.get
  rw [if_pos (by omega)]
theorem BdP.rg {S : Setup} {b y : Int} (h : BdP S b y) : 48 + 4 * S.players ≤ y ∧ y < sizeOf S := by
  unfold BdP bodyAt at h
  unfold sizeOf
  split at h
  · omega
  · split at h <;> omega
theorem PlP.rg {S : Setup} {b y : Int} (h : PlP S b y) : 48 ≤ y ∧ y < 48 + 4 * S.players := by
  unfold PlP playerAt at h
  split at h
  · omega
  · split at h <;> omega
theorem reO_iff {S : Setup} {M : MemS} (h : 48 ≤ M.cs.length) {k y : Int} : ReO S M.cs k y ↔ VX M k ∧ BdP S (M.get (16 + IntKind.i64.wrap (M.get 7 - k))) y := by
  unfold ReO VX
  rw [show M.cs.getD 7 0 = M.get 7 from cs_get h (k := 7) (by omega)]
  constructor
  · rintro ⟨h1, h2⟩; exact ⟨h1, by rwa [cs_get h (by omega)] at h2⟩
  · rintro ⟨h1, h2⟩; exact ⟨h1, by rwa [cs_get h (by omega)]⟩
theorem touL_inc {S : Setup} (hp : 0 ≤ S.players) (M : MemS) : (touL S M).Pairwise (· < ·) := by
  have hb : ∀ b y, y ∈ btC S b → 48 + 4 * S.players ≤ y := fun b y h => (btC_mem.1 h).rg.1
  unfold touL
  rw [List.pairwise_append]
  refine ⟨?_, ?_, ?_⟩
  · unfold headL
    rw [List.pairwise_append, List.pairwise_append]
    refine ⟨⟨rg_inc _ _, ?_, ?_⟩, ?_, ?_⟩
    · split
      · rw [List.pairwise_append]
        exact ⟨rg_inc _ _, rg_inc _ _, fun a ha b hb => by have := rg_mem.1 ha; have := rg_mem.1 hb; omega⟩
      · exact .nil
    · intro a ha b hb
      have h1 := rg_mem.1 ha
      split at hb
      · rcases List.mem_append.1 hb with h2 | h2
        · have := rg_mem.1 h2; omega
        · have := rg_mem.1 h2; omega
      · exact absurd hb List.not_mem_nil
    · split
      · exact rg_inc _ _
      · exact .nil
    · intro a ha b hb
      have h0 : a < 48 := by
        rcases List.mem_append.1 ha with h2 | h2
        · have := rg_mem.1 h2; omega
        · split at h2
          · rcases List.mem_append.1 h2 with h3 | h3
            · have := rg_mem.1 h3; omega
            · have := rg_mem.1 h3; omega
          · exact absurd h2 List.not_mem_nil
      split at hb
      · rename_i hc
        have h1 := rg_mem.1 hb
        have h2 : PlP S (M.get 2) b := ⟨hc.1, h1.1, by have := h1.2; omega⟩
        have := h2.rg; omega
      · exact absurd hb List.not_mem_nil
  · rw [List.pairwise_flatMap]
    refine ⟨fun b _ => ?_, (cmp_inc (srt_sorted _)).imp fun {a b} hab x hx y hy => ?_⟩
    · unfold btC
      split
      · exact rg_inc _ _
      · exact .nil
    · have h1 := btC_mem.1 hx
      have h2 := btC_mem.1 hy
      unfold BdP bodyAt at h1 h2
      split at h1
      · omega
      · split at h1
        · omega
        · split at h2
          · omega
          · split at h2 <;> omega
  · intro a ha b hb2
    obtain ⟨k, _, hk⟩ := List.mem_flatMap.1 hb2
    have h1 := hb k b hk
    have h2 : a < 48 + 4 * S.players := by
      unfold headL at ha
      rcases List.mem_append.1 ha with h3 | h3
      · rcases List.mem_append.1 h3 with h4 | h4
        · have := rg_mem.1 h4; omega
        · split at h4
          · rcases List.mem_append.1 h4 with h5 | h5
            · have := rg_mem.1 h5; omega
            · have := rg_mem.1 h5; omega
          · exact absurd h4 List.not_mem_nil
      · split at h3
        · rename_i hc
          have h4 := rg_mem.1 h3
          have h5 : PlP S (M.get 2) a := ⟨hc.1, h4.1, by have := h4.2; omega⟩
          exact h5.rg.2
        · exact absurd h3 List.not_mem_nil
    omega
theorem tou_eq {S : Setup} {M : MemS} (hp : 0 ≤ S.players) (hph : 0 ≤ M.get 1 ∧ M.get 1 ≤ 7) (hlen : (M.cs.length : Int) = sizeOf S) {l : List Int} (hi : l.Pairwise (· < ·))
    (hm : ∀ y, y ∈ l ↔ (0 ≤ y ∧ y < (M.cs.length : Int)) ∧ (((reP1 S M.cs y ∨ reP2 S M.cs y) ∨ reP3 S M.cs y) ∨ reP4 S M.cs y)) : l = touL S M := by
  have h48 : 48 ≤ M.cs.length := by unfold sizeOf at hlen; omega
  refine inc_ext hi (touL_inc hp M) fun y => ?_
  rw [hm y, touL_mem, bods_ex]
  unfold reP1 reP2 reP3 reP4
  rw [show M.cs.getD 1 0 = M.get 1 from cs_get h48 (k := 1) (by omega), show M.cs.getD 2 0 = M.get 2 from cs_get h48 (k := 2) (by omega), show M.cs.getD 3 0 = M.get 3 from cs_get h48 (k := 3) (by omega), reO_iff h48, reO_iff h48]
  have hs : 48 + 4 * S.players ≤ (M.cs.length : Int) := by unfold sizeOf at hlen; omega
  constructor
  · rintro ⟨_, (((h | h) | ⟨h0, h | h | h⟩) | h) | h⟩
    · exact .inl (.inl (.inl h))
    · exact .inl (.inr h)
    · exact .inl (.inl (.inr ⟨h0, h⟩))
    · exact .inr (.inl (.inl ⟨h0, .inl h⟩))
    · exact .inr (.inl (.inl ⟨h0, .inr h⟩))
    · exact .inr (.inl (.inr ⟨⟨h.1, hph.2⟩, h.2⟩))
    · exact .inr (.inr h)
  · rintro (((h | h) | h) | ((⟨h0, h | h⟩ | h) | h))
    · exact ⟨by omega, .inl (.inl (.inl (.inl h)))⟩
    · exact ⟨by have := h.2; omega, .inl (.inl (.inr ⟨h.1, .inl h.2⟩))⟩
    · exact ⟨by have := h.2.rg; omega, .inl (.inl (.inl (.inr h)))⟩
    · exact ⟨by have := h.2.rg; omega, .inl (.inl (.inr ⟨h0, .inr (.inl h)⟩))⟩
    · exact ⟨by have := h.2.rg; omega, .inl (.inl (.inr ⟨h0, .inr (.inr h)⟩))⟩
    · exact ⟨by have := h.2.rg; omega, .inl (.inr ⟨h.1.1, h.2⟩)⟩
    · exact ⟨by have := h.2.rg; omega, .inr h⟩
end Go.Proofs.YtampdcgphdnnhaaGreatDoor
/- Contracts, printed by a program. -/
namespace Go.Proofs.YtampdcgphdnnhaaGreatDoor
set_option linter.unusedSimpArgs false
set_option linter.unusedVariables false
open Go.RowKit
set_option maxHeartbeats 1000000 in
set_option maxRecDepth 100000 in
theorem kid_node (tb m : Nat) (e0 e1 e2 : Int) (kv : List (ByteArray × Value)) (l : List Ins) (A : Option Addr) (c : Nat) (T F : HL) (hs : SlIs insE 142 l A c T) (hz : zeroOff A) (ok : OKc l) (hkv : AllInt kv) (h i : Nat) (iz : Int) (hi : iz = (i : Int)) (k n : Int) (s : ByteArray) (q N cq : Nat) (kl rest : List Nd) (hq : (q, .rows 4 N (nrow (kl ++ rest)) 82 (0, 0)) ∈ F) (hN : kl.length ≤ N) (hx : ∀ y ∈ kl, Ht h y) (hk : ∀ y ∈ kl, NdIn F y) (hl3 : kl.length ≤ 3) (ih : TrC h) (hb : l.length + (gr h) ≤ 100000000) : Sp Tryz.prog 72 #[vP tb 0, .agg #[vI k, vI n, .string s, vS q 0 kl.length cq], vI (i : Int)] (ap [(tb, .lit [.slice A l.length c, .map (some m), vI e0, vI e1, vI e2] 110 (0, 0)), (m, .obj (smap kv))] [T]) F (TrR tb m e0 e1 e2 kv l (gr h)) := by
  refine Sp.run Tryz.func72 rfl (mc hq mn) (A := [(tb, .lit [.slice A l.length c, .map (some m), vI e0, vI e1, vI e2] 110 (0, 0)), (m, .obj (smap kv))]) (Ts := [T]) rfl fun w0 => ?_
  refine RN.go 14 [.own 0] fun n1 => RN.em ((i : Int) < (kl.length : Int)) 10 (fun h2 => ?_) fun h2 => ?_
  · have hy : ((kl ++ rest).getD i dN) ∈ kl := by rw [List.getD_eq_getElem?_getD, List.getElem?_append_left (by omega), ← List.getD_eq_getElem?_getD]; exact getD_mem' (by omega)
    refine RN.goP 8 [.own 0, .ix i, .rorow 0 i 0, .rorow 0 i 1, .rorow 0 i 2, .rorow 0 i 3] [((0 + i * 4) + 3) = i * 4 + 3 ∧ i < N, ((0 + i * 4) + 2) = i * 4 + 2 ∧ i < N, ((0 + i * 4) + 1) = i * 4 + 1 ∧ i < N, (0 + i * 4) = i * 4 + 0 ∧ i < N, (i : Int) = ((i : Nat) : Int) ∧ i < kl.length] fun _ => RN.ct [1, 2] [0] (ih ((kl ++ rest).getD i dN) tb m e0 e1 e2 kv l A c T _ (hx _ hy) (hk _ hy).up hs hz ok hkv (by omega)) ?_
    rintro _ ⟨l3, A4, c5, T6⟩ ⟨hs7, hz8, hg9, hl10, ok11⟩
    dsimp only at hs7 hz8 hg9 hl10 ok11
    refine RN.go 1 [] fun _ => RN.ret [] [0, 1] [0] (v := .tuple #[]) (H' := (ap [(tb, .lit [.slice A4 l3.length c5, .map (some m), vI e0, vI e1, vI e2] 110 (0, 0)), (m, .obj (smap kv))] [T6])) ?_
    exact ⟨(l3, A4, c5, T6), rfl, hs7, hz8, (by dsimp only; omega), (by dsimp only; omega), ok11⟩
  · refine RN.go 2 [] fun _ => RN.ret [] [1, 2] [0] (v := .tuple #[]) (H' := (ap [(tb, .lit [.slice A l.length c, .map (some m), vI e0, vI e1, vI e2] 110 (0, 0)), (m, .obj (smap kv))] [T])) ?_
    exact ⟨(l, A, c, T), rfl, hs, hz, (by dsimp only; omega), (by dsimp only; omega), ok⟩

set_option maxHeartbeats 1000000 in
set_option maxRecDepth 100000 in
theorem kid_leaf (tb m : Nat) (e0 e1 e2 : Int) (kv : List (ByteArray × Value)) (l : List Ins) (A : Option Addr) (c : Nat) (T F : HL) (hs : SlIs insE 142 l A c T) (hz : zeroOff A) (ok : OKc l) (hkv : AllInt kv) (h i : Nat) (k n : Int) (s : ByteArray) (Aq : Option Addr) (cq : Nat) (hb : l.length + (gr h) ≤ 100000000) : Sp Tryz.prog 72 #[vP tb 0, .agg #[vI k, vI n, .string s, .slice Aq 0 cq], vI (i : Int)] (ap [(tb, .lit [.slice A l.length c, .map (some m), vI e0, vI e1, vI e2] 110 (0, 0)), (m, .obj (smap kv))] [T]) F (TrR tb m e0 e1 e2 kv l (gr h)) := by
  refine Sp.run Tryz.func72 rfl mn (A := [(tb, .lit [.slice A l.length c, .map (some m), vI e0, vI e1, vI e2] 110 (0, 0)), (m, .obj (smap kv))]) (Ts := [T]) rfl fun w0 => ?_
  refine RN.go 14 [.own 0] fun n1 => RN.em ((i : Int) < 0) 10 (fun h2 => ?_) fun h2 => ?_
  · (exfalso; omega)
  · refine RN.go 2 [] fun _ => RN.ret [] [1, 2] [0] (v := .tuple #[]) (H' := (ap [(tb, .lit [.slice A l.length c, .map (some m), vI e0, vI e1, vI e2] 110 (0, 0)), (m, .obj (smap kv))] [T])) ?_
    exact ⟨(l, A, c, T), rfl, hs, hz, (by dsimp only; omega), (by dsimp only; omega), ok⟩

theorem kid_any (tb m : Nat) (e0 e1 e2 : Int) (kv : List (ByteArray × Value)) (l : List Ins) (A : Option Addr) (c : Nat) (T F : HL) (hs : SlIs insE 142 l A c T) (hz : zeroOff A) (ok : OKc l) (hkv : AllInt kv) (h : Nat) (x : Nd) (hx : Ht (h + 1) x) (hN : NdIn F x) (ih : TrC h) (i : Nat) (iz : Int) (hi : iz = (i : Int)) (hb : l.length + gr h ≤ 100000000) : Sp Tryz.prog 72 #[vP tb 0, ndV x, vI iz] (ap (trH tb m e0 e1 e2 kv l.length A c) [T]) F (TrR tb m e0 e1 e2 kv l (gr h)) := by
  subst hi
  cases hN with
  | leaf k n s Aq cq => exact kid_leaf tb m e0 e1 e2 kv l A c T F hs hz ok hkv h i k n s Aq cq hb
  | node k n s q N cq kl rest hq hN hk => exact kid_node tb m e0 e1 e2 kv l A c T F hs hz ok hkv h i i rfl k n s q N cq kl rest hq hN (fun y hy => hx.kid hy) hk hx.kids3 ih hb

set_option maxHeartbeats 1000000 in
set_option maxRecDepth 100000 in
theorem name_any (tb m : Nat) (e0 e1 e2 : Int) (kv : List (ByteArray × Value)) (l : List Ins) (A : Option Addr) (c : Nat) (T F : HL) (hs : SlIs insE 142 l A c T) (hz : zeroOff A) (ok : OKc l) (hkv : AllInt kv) (h : Nat) (x : Nd) (hx : Ht (h + 1) x) (hN : NdIn F x) (ih : TrC h) (hb : l.length + (gr (h + 1)) ≤ 100000000) : Sp Tryz.prog 74 #[vP tb 0, .agg #[vI x.k, vI x.n, .string x.s, .slice x.A x.kids.length x.c]] (ap [(tb, .lit [.slice A l.length c, .map (some m), vI e0, vI e1, vI e2] 110 (0, 0)), (m, .obj (smap kv))] [T]) F (TrR tb m e0 e1 e2 kv l (gr (h + 1))) := by
  have hgr : gr (h + 1) = 3 * gr h + 5 := rfl
  refine Sp.run Tryz.func74 rfl mn (A := [(tb, .lit [.slice A l.length c, .map (some m), vI e0, vI e1, vI e2] 110 (0, 0)), (m, .obj (smap kv))]) (Ts := [T]) rfl fun w0 => ?_
  refine RN.go 18 [.own 0, .sq] fun n1 => RN.em (x.s = ⟨#[115, 101, 108, 102]⟩) 8 (fun h2 => ?_) fun h2 => ?_
  · refine RN.go 3 [] fun _ => RN.ct [1, 2] [0] (emit_any tb m e0 e1 e2 kv l A c T _ hs hz ok hkv 6 0 (by omega) (by intro h; omega) (by omega)) ?_
    rintro _ ⟨l3, A4, c5, T6⟩ ⟨rfl, hs7, hz8, hl9, ok10⟩
    dsimp only at hs7 hz8 hl9 ok10
    refine RN.go 2 [] fun _ => RN.ret [] [0, 1] [0] (v := .tuple #[]) (H' := (ap [(tb, .lit [.slice A4 l3.length c5, .map (some m), vI e0, vI e1, vI e2] 110 (0, 0)), (m, .obj (smap kv))] [T6])) ?_
    exact ⟨(l3, A4, c5, T6), rfl, hs7, hz8, (by dsimp only; omega), (by dsimp only; omega), ok10⟩
  · refine RN.go 7 [.sq] fun _ => RN.em (x.s = ⟨#[111, 116, 104, 101, 114]⟩) 12 (fun h11 => ?_) fun h11 => ?_
    · refine RN.go 3 [] fun _ => RN.ct [1, 2] [0] (emit_any tb m e0 e1 e2 kv l A c T _ hs hz ok hkv 7 0 (by omega) (by intro h; omega) (by omega)) ?_
      rintro _ ⟨l12, A13, c14, T15⟩ ⟨rfl, hs16, hz17, hl18, ok19⟩
      dsimp only at hs16 hz17 hl18 ok19
      refine RN.go 2 [] fun _ => RN.ret [] [0, 1] [0] (v := .tuple #[]) (H' := (ap [(tb, .lit [.slice A13 l12.length c14, .map (some m), vI e0, vI e1, vI e2] 110 (0, 0)), (m, .obj (smap kv))] [T15])) ?_
      exact ⟨(l12, A13, c14, T15), rfl, hs16, hz17, (by dsimp only; omega), (by dsimp only; omega), ok19⟩
    · refine RN.go 3 [] fun _ => RN.ct [1, 2] [0] (emit_any tb m e0 e1 e2 kv l A c T _ hs hz ok hkv 8 0 (by omega) (by intro h; omega) (by omega)) ?_
      rintro _ ⟨l20, A21, c22, T23⟩ ⟨rfl, hs24, hz25, hl26, ok27⟩
      dsimp only at hs24 hz25 hl26 ok27
      refine RN.go 2 [] fun _ => RN.ret [] [0, 1] [0] (v := .tuple #[]) (H' := (ap [(tb, .lit [.slice A21 l20.length c22, .map (some m), vI e0, vI e1, vI e2] 110 (0, 0)), (m, .obj (smap kv))] [T23])) ?_
      exact ⟨(l20, A21, c22, T23), rfl, hs24, hz25, (by dsimp only; omega), (by dsimp only; omega), ok27⟩

set_option maxHeartbeats 1000000 in
set_option maxRecDepth 100000 in
theorem unary_any (tb m : Nat) (e0 e1 e2 : Int) (kv : List (ByteArray × Value)) (l : List Ins) (A : Option Addr) (c : Nat) (T F : HL) (hs : SlIs insE 142 l A c T) (hz : zeroOff A) (ok : OKc l) (hkv : AllInt kv) (h : Nat) (x : Nd) (hx : Ht (h + 1) x) (hN : NdIn F x) (ih : TrC h) (hb : l.length + (gr (h + 1)) ≤ 100000000) : Sp Tryz.prog 75 #[vP tb 0, .agg #[vI x.k, vI x.n, .string x.s, .slice x.A x.kids.length x.c]] (ap [(tb, .lit [.slice A l.length c, .map (some m), vI e0, vI e1, vI e2] 110 (0, 0)), (m, .obj (smap kv))] [T]) F (TrR tb m e0 e1 e2 kv l (gr (h + 1))) := by
  have hgr : gr (h + 1) = 3 * gr h + 5 := rfl
  refine Sp.run Tryz.func75 rfl mn (A := [(tb, .lit [.slice A l.length c, .map (some m), vI e0, vI e1, vI e2] 110 (0, 0)), (m, .obj (smap kv))]) (Ts := [T]) rfl fun w0 => ?_
  refine RN.go 9 [.own 0, .own 0, .own 0, .own 0] fun n1 => RN.ct [1, 2] [0] (kid_any tb m e0 e1 e2 kv l A c T _ hs hz ok hkv h x hx hN.up ih 0 0 rfl (by omega)) ?_
  rintro _ ⟨l2, A3, c4, T5⟩ ⟨hs6, hz7, hg8, hl9, ok10⟩
  dsimp only at hs6 hz7 hg8 hl9 ok10
  refine RN.go 9 [.own 2, .sq] fun _ => RN.em (x.s = ⟨#[45]⟩) 9 (fun h11 => ?_) fun h11 => ?_
  · refine RN.go 3 [] fun _ => RN.ct [0, 1] [0] (emit_any tb m e0 e1 e2 kv l2 A3 c4 T5 _ hs6 hz7 ok10 hkv 13 0 (by omega) (by intro h; omega) (by omega)) ?_
    rintro _ ⟨l12, A13, c14, T15⟩ ⟨rfl, hs16, hz17, hl18, ok19⟩
    dsimp only at hs16 hz17 hl18 ok19
    refine RN.go 1 [] fun _ => RN.ret [] [0, 1] [0] (v := .tuple #[]) (H' := (ap [(tb, .lit [.slice A13 l12.length c14, .map (some m), vI e0, vI e1, vI e2] 110 (0, 0)), (m, .obj (smap kv))] [T15])) ?_
    exact ⟨(l12, A13, c14, T15), rfl, hs16, hz17, (by dsimp only; omega), (by dsimp only; omega), ok19⟩
  · refine RN.go 3 [] fun _ => RN.ct [0, 1] [0] (emit_any tb m e0 e1 e2 kv l2 A3 c4 T5 _ hs6 hz7 ok10 hkv 17 0 (by omega) (by intro h; omega) (by omega)) ?_
    rintro _ ⟨l20, A21, c22, T23⟩ ⟨rfl, hs24, hz25, hl26, ok27⟩
    dsimp only at hs24 hz25 hl26 ok27
    refine RN.go 1 [] fun _ => RN.ret [] [0, 1] [0] (v := .tuple #[]) (H' := (ap [(tb, .lit [.slice A21 l20.length c22, .map (some m), vI e0, vI e1, vI e2] 110 (0, 0)), (m, .obj (smap kv))] [T23])) ?_
    exact ⟨(l20, A21, c22, T23), rfl, hs24, hz25, (by dsimp only; omega), (by dsimp only; omega), ok27⟩
end Go.Proofs.YtampdcgphdnnhaaGreatDoor
