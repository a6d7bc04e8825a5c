/- Words for memory and small lemmas, over no program. -/
import Derived.WalkKit
import Derived.WalkSpells
import Derived.WalkLawsBesides
import Derived.Deep.QuietTactic
import Derived.BigQuiet
import Derived.Laws.StructEq
import Derived.Lib.Hide
namespace Go.Proofs.Ytllcankinjomaaa
set_option linter.unusedSimpArgs false
set_option linter.unusedVariables false
open Go.RowKit

/-! ### what of the memory stays -/
/-- the rows of cells whose type is in S stay as they are -/
def KT (S : TypeId → Prop) (w w' : World) : Prop := ∀ (k : Nat) (cs : Array Value) (t : TypeId) (fz : Nat × Nat), S t → w.heap[k]? = some (Obj.cells cs t fz) → w'.heap[k]? = some (Obj.cells cs t fz)
theorem lt_of_heap {w : World} {k : Nat} {o : Obj} (h : w.heap[k]? = some o) : k < w.heap.size := (Array.getElem?_eq_some_iff.1 h).1
theorem KT.refl (S : TypeId → Prop) (w : World) : KT S w w := fun _ _ _ _ _ h => h
theorem KT.trans {S : TypeId → Prop} {a b c : World} (h : KT S a b) (h' : KT S b c) : KT S a c := fun k cs t fz hs e => h' k cs t fz hs (h k cs t fz hs e)
theorem KT.mono {S S' : TypeId → Prop} {a b : World} (h : KT S a b) (hs : ∀ t, S' t → S t) : KT S' a b := fun k cs t fz ht e => h k cs t fz (hs t ht) e
theorem KT.below {S : TypeId → Prop} {w w' : World} (hb : Below w.heap.size w w') : KT S w w' := fun k _ _ _ _ e => (hb.block k (lt_of_heap e)).trans e
theorem KT.alloc {S : TypeId → Prop} {a w : World} (h : KT S a w) (o : Obj) : KT S a (w.alloc o) := fun k cs t fz hs e => by
  have h1 := h k cs t fz hs e
  rw [Below.heap_alloc w o k (lt_of_heap h1)]; exact h1
theorem KT.grown {S : TypeId → Prop} {a w w' : World} {row : Option Nat} (h : KT S a w) (hg : w.grownBy w' row) (hr : ∀ g, row = some g → ∀ cs t fz, w.heap[g]? = some (.cells cs t fz) → ¬ S t) : KT S a w' := fun k cs t fz hs e => by
  have h1 := h k cs t fz hs e
  rw [hg.block k (lt_of_heap h1) (fun e2 => hr k e2.symm cs t fz h1 hs)]; exact h1
theorem KT.setCell {S : TypeId → Prop} {a w : World} (h : KT S a w) {p : Addr} {u : Value} (hp : ∀ cs t fz, w.heap[p.block]? = some (.cells cs t fz) → ¬ S t) : KT S a (w.setCell p u) := fun k cs t fz hs e => by
  have h1 := h k cs t fz hs e
  have hk : k ≠ p.block := fun e2 => hp cs t fz (e2 ▸ h1) hs
  rw [Below.heap_setCell _ _ _ _ hk]; exact h1
theorem KT.drewN {S : TypeId → Prop} {a w : World} (h : KT S a w) (n : Nat) : KT S a (w.drewN n) := h

theorem KT.drew {S : TypeId → Prop} {a w : World} (h : KT S a w) : KT S a w.drew := h

theorem _root_.Go.RowKit.Below.drewN {B : Nat} {a w : World} (h : Below B a w) (n : Nat) : Below B a (w.drewN n) := ⟨h.os, h.tape, h.output, h.size, h.block⟩

/-! ### slices that read as lists -/
/-- A slice that reads as a list: enc gives the cells of an element, all of one size; t the rows' type. -/
def Sl {α : Type} (enc : α → List Value) (size t : Nat) (w : World) (A : Option Addr) (n : Nat) (xs : List α) : Prop :=
  n = xs.length ∧ (0 < n → ∃ b off cs fz, A = some ⟨b, off, none⟩ ∧ w.heap[b]? = some (.cells cs t fz) ∧
    ∀ i x, xs[i]? = some x → ∀ j u, (enc x)[j]? = some u → cs[off + i * size + j]? = some u)

section
variable {α : Type} {enc : α → List Value} {size t : Nat} {w w' : World} {A : Option Addr} {n : Nat} {xs : List α}
theorem Sl.len (h : Sl enc size t w A n xs) : n = xs.length := h.1
theorem Sl.nil : Sl enc size t w A 0 [] := ⟨rfl, fun h => absurd h (by omega)⟩
theorem Sl.kt {S : TypeId → Prop} (h : Sl enc size t w A n xs) (hk : KT S w w') (hs : S t) : Sl enc size t w' A n xs :=
  ⟨h.1, fun hn => by
    obtain ⟨b, off, cs, fz, rfl, hb, hc⟩ := h.2 hn
    exact ⟨b, off, cs, fz, rfl, hk _ _ _ _ hs hb, hc⟩⟩
theorem Sl.below (h : Sl enc size t w A n xs) (hb : Below w.heap.size w w') : Sl enc size t w' A n xs := h.kt (S := fun _ => True) (KT.below hb) trivial
theorem Sl.get (h : Sl enc size t w A n xs) (hn : 0 < n) : ∃ b off, A = some ⟨b, off, none⟩ ∧ b < w.heap.size ∧
    ∀ i x, xs[i]? = some x → ∀ j u, (enc x)[j]? = some u → w.cell? ⟨b, off + i * size + j, none⟩ = some u := by
  obtain ⟨b, off, cs, fz, rfl, hb, hc⟩ := h.2 hn
  exact ⟨b, off, rfl, lt_of_heap hb, fun i x hx j u hu => by rw [cell_of_row w b _ cs t fz hb]; exact hc i x hx j u hu⟩
theorem Sl.nilA (h : Sl enc size t w A n xs) (hA : A = none) : n = 0 := by
  rcases Nat.eq_zero_or_pos n with h0 | h0
  · exact h0
  · obtain ⟨b, off, cs, fz, e, _⟩ := h.2 h0
    rw [hA] at e; cases e
end

theorem Sl.take {α : Type} {enc : α → List Value} {size t : Nat} {w : World} {A : Option Addr} {n : Nat} {xs : List α} (h : Sl enc size t w A n xs) {k : Nat} (hk : k ≤ n) : Sl enc size t w A k (xs.take k) :=
  ⟨by have := h.1; rw [List.length_take]; omega, fun hn => by
    obtain ⟨b, off, cs, fz, rfl, hb, hc⟩ := h.2 (by omega)
    refine ⟨b, off, cs, fz, rfl, hb, fun i x hx => hc i x ?_⟩
    rw [List.getElem?_take] at hx
    split at hx
    · exact hx
    · cases hx⟩
/-- what the walk's rules want of Below -/
theorem bcell {B : Nat} {W w1 : World} (hb : Below B W w1) : (∀ b o, b < B → w1.cell? ⟨b, o, none⟩ = W.cell? ⟨b, o, none⟩) ∧ (∀ b o, b < B → w1.frozen? ⟨b, o, none⟩ = W.frozen? ⟨b, o, none⟩) :=
  ⟨fun b o h => hb.cell (p := ⟨b, o, none⟩) h, fun b o h => hb.frozen (p := ⟨b, o, none⟩) h⟩

theorem take_succ_some {α : Type} {l : List α} {k : Nat} {x : α} (h : l[k]? = some x) : l.take (k + 1) = l.take k ++ [x] := by
  rw [List.take_add_one, h]; rfl
theorem drop_some {α : Type} {l : List α} {k : Nat} {x : α} (h : l[k]? = some x) : l.drop k = x :: l.drop (k + 1) := by
  obtain ⟨hk, rfl⟩ := List.getElem?_eq_some_iff.1 h
  exact List.drop_eq_getElem_cons hk
theorem ret_int {k : IntKind} {a b : Int} (h : a = b) : Ending.returned (.int k a) = .returned (.int k b) := by rw [h]
theorem ret_bool {a b : Bool} (h : a = b) : Ending.returned (.bool a) = .returned (.bool b) := by rw [h]

/-! ### regions that draw, in the worlds in which all that was there still is -/
/-- the worlds that meet S -/
structure In (S : World → Prop) where
  v : World
  is : S v
abbrev Up (w : World) := In (fun w' => Below w.heap.size w w')
instance (w : World) : Nonempty (Up w) := ⟨⟨w, Below.refl _ _⟩⟩
instance : Nonempty (In (fun _ => True)) := ⟨⟨default, trivial⟩⟩
theorem Up.cell {w : World} (u : In (fun w' => Below w.heap.size w w')) (b o : Nat) (h : b < w.heap.size) : u.v.cell? ⟨b, o, none⟩ = w.cell? ⟨b, o, none⟩ := u.is.cell (p := ⟨b, o, none⟩) h
/-- a region that draws its order, whose operations read what was there and whose callees keep what was there -/
theorem wp_region_up {P : Program} {id : Nat} {Q : Exit → Act → World → Prop} {a : Act} {w : World} {l : List Oper} (hm : P.follows .mixedOrders = true) (hB : Region.lexB .any l.toArray = true)
    (h : wpQuiet P l.toArray (fun w' => ∃ u : Up w, w' = u.v) (fun a' => ∀ w', Below w.heap.size w w' → Q .normal a' w') l a) : (Code.region id l.toArray true).wp P Q a w := by
  refine wp_region_quiet (C := fun w' => ∃ u : Up w, w' = u.v) hm hB ⟨⟨{ w with drawn := w.drawn + 1 }, ⟨rfl, rfl, rfl, Nat.le_refl _, fun _ _ => rfl⟩⟩, rfl⟩ ?_
  have e : (fun a' => ∀ w', (∃ u : Up w, w' = u.v) → Q .normal a' w') = (fun a' => ∀ w', Below w.heap.size w w' → Q .normal a' w') := by
    funext a'
    refine propext ⟨fun h w' hw => h w' ⟨⟨w', hw⟩, rfl⟩, ?_⟩
    rintro h w' ⟨u, rfl⟩
    exact h _ u.is
  rw [e]
  simpa using h
/-- a callee's contract at such a region -/
theorem Calls.up {P : Program} {f : FuncId} {args : Array Value} {w : World} {u : Up w} {v : Value} (h : Calls P f args u.v fun e w' => e = .returned v ∧ Below u.v.heap.size u.v w') :
    Calls P f args u.v fun e w'' => e = .returned v ∧ ∃ u' : Up w, w'' = u'.v :=
  h.mono fun _ w'' ⟨he, hb⟩ => ⟨he, ⟨w'', u.is.trans (hb.mono u.is.size)⟩, rfl⟩
theorem Sl.up {α : Type} {enc : α → List Value} {size t : Nat} {w : World} {A : Option Addr} {n : Nat} {xs : List α} (h : Sl enc size t w A n xs) (u : Up w) : Sl enc size t u.v A n xs := h.below u.is

/-! ### rows of the call's own -/
theorem flatMap_get {α : Type} {enc : α → List Value} {size : Nat} (he : ∀ x, (enc x).length = size) : ∀ (xs : List α) (i : Nat) (x : α), xs[i]? = some x → ∀ j u, (enc x)[j]? = some u → (xs.flatMap enc)[i * size + j]? = some u
  | [], _, _, h, _, _, _ => by simp at h
  | y :: ys, 0, x, h, j, u, hu => by
    simp only [List.getElem?_cons_zero, Option.some.injEq] at h
    subst h
    rw [List.flatMap_cons, Nat.zero_mul, Nat.zero_add, List.getElem?_append_left (List.getElem?_eq_some_iff.1 hu).1]
    exact hu
  | y :: ys, i + 1, x, h, j, u, hu => by
    have hm := Nat.succ_mul i size
    simp only [Nat.succ_eq_add_one] at hm
    rw [List.flatMap_cons, List.getElem?_append_right (by rw [he]; omega), he]
    have := flatMap_get he ys i x (by simpa using h) j u hu
    rwa [show (i + 1) * size + j - size = i * size + j from by omega]
theorem flat_len {α : Type} {enc : α → List Value} {size : Nat} (he : ∀ x, (enc x).length = size) : ∀ xs : List α, (xs.flatMap enc).length = xs.length * size
  | [] => by simp
  | y :: ys => by rw [List.flatMap_cons, List.length_append, he, flat_len he ys, List.length_cons, Nat.succ_mul]; omega
theorem flat_one {α : Type} {enc : α → List Value} (he : ∀ x, ∀ u ∈ enc x, u.oneCell' = true) (xs : List α) : ∀ u ∈ xs.flatMap enc, u.oneCell' = true := by
  intro u hu
  obtain ⟨x, _, hx⟩ := List.mem_flatMap.1 hu
  exact he x u hx

theorem Sl.of_own {α : Type} {enc : α → List Value} {size : Nat} {w : World} {base : Nat} {e : TypeId} {v : Value} {n : Nat} {xs : List α} (he : ∀ x, (enc x).length = size)
    (h : w.ownsRow base e size v n (xs.flatMap enc)) (hn : n = xs.length) : ∃ A c, v = .slice A n c ∧ Sl enc size e w A n xs ∧ n ≤ c := by
  rcases h.2 with ⟨rfl, rfl⟩ | ⟨g, cap, cur, rfl, hb, hg, hnc, hcm, hcs, htake⟩
  · exact ⟨none, 0, rfl, ⟨hn, fun h => absurd h (by omega)⟩, Nat.le_refl _⟩
  · refine ⟨_, _, rfl, ⟨hn, fun _ => ⟨g, 0, cur, (0, 0), rfl, hg, fun i x hx j u hu => ?_⟩⟩, hnc⟩
    have h1 := flatMap_get he xs i x hx j u hu
    rw [← htake, List.getElem?_take] at h1
    split at h1
    · simpa using h1
    · cases h1
theorem own_below {w w' : World} {base : Nat} {e : TypeId} {size : Nat} {v : Value} {n : Nat} {xs : List Value} (h : w.ownsRow base e size v n xs) (hb : Below w.heap.size w w') : w'.ownsRow base e size v n xs :=
  h.kept (row := none) ⟨hb.os, hb.tape, hb.output, hb.size, fun k hk _ => hb.block k hk⟩ (by cases v.ownBlock <;> simp)
theorem own_kt {S : TypeId → Prop} {w w' : World} {base : Nat} {e : TypeId} {size : Nat} {v : Value} {n : Nat} {xs : List Value} (h : w.ownsRow base e size v n xs) (hk : KT S w w') (hs : S e) : w'.ownsRow base e size v n xs := by
  refine ⟨h.1, ?_⟩
  rcases h.2 with h2 | ⟨g, cap, cur, hv, hg, hh, r⟩
  · exact Or.inl h2
  · exact Or.inr ⟨g, cap, cur, hv, hg, hk _ _ _ _ hs hh, r⟩
theorem below_own {B : Nat} {W w w' : World} {base : Nat} {e : TypeId} {size : Nat} {v : Value} {n : Nat} {xs : List Value} (hb : Below B W w) (h : w.ownsRow base e size v n xs) (hg : w.grownBy w' v.ownBlock) (hB : B ≤ base) (hw : B ≤ w.heap.size) : Below B W w' :=
  hb.grown hg hw fun k hk => Nat.le_trans hB (h.lt k hk).1
theorem own_base {W : World} {base base' : Nat} {e : TypeId} {size : Nat} {v : Value} {k : Nat} {xs : List Value} (h : W.ownsRow base e size v k xs) (hb : base' ≤ base) : W.ownsRow base' e size v k xs := by
  refine ⟨h.1, ?_⟩
  rcases h.2 with h2 | ⟨g, cap, cur, hv, hg, hh, r⟩
  · exact Or.inl h2
  · exact Or.inr ⟨g, cap, cur, hv, Nat.le_trans hb hg, hh, r⟩
/-- a block that is known whole -/
theorem cell_blk {w : World} {g : Nat} {cs : Array Value} {t : TypeId} {fz : Nat × Nat} (h : w.heap[g]? = some (.cells cs t fz)) (i : Nat) : w.cell? ⟨g, i, none⟩ = cs[i]? := cell_of_row w g i cs t fz h
theorem frozen_blk {w : World} {g : Nat} {cs : Array Value} {t : TypeId} (h : w.heap[g]? = some (.cells cs t (0, 0))) (i : Nat) : w.frozen? ⟨g, i, none⟩ = false := by simp [World.frozen?, h]
/-- append onto a row of type e turns rows of type e alone -/
theorem kt_own {S : TypeId → Prop} {W w w' : World} {base : Nat} {e : TypeId} {size : Nat} {v : Value} {n : Nat} {xs : List Value} (hk : KT S W w) (h : w.ownsRow base e size v n xs) (hg : w.grownBy w' v.ownBlock) (he : ¬ S e) : KT S W w' := by
  refine hk.grown hg fun g hg' cs t fz hcs hs => ?_
  rcases h.2 with ⟨rfl, _⟩ | ⟨g', cap, cur, rfl, _, hh, _⟩
  · simp [Value.ownBlock] at hg'
  · simp only [Value.ownBlock, Option.some.injEq] at hg'
    subst hg'
    rw [hh] at hcs
    cases hcs
    exact he hs
theorem own_setCell_far {w : World} {base : Nat} {e : TypeId} {size : Nat} {v : Value} {n : Nat} {xs : List Value} (h : w.ownsRow base e size v n xs) {p : Addr} (hp : ∀ g, v.ownBlock = some g → g ≠ p.block) (u : Value) :
    (w.setCell p u).ownsRow base e size v n xs := by
  obtain ⟨h1, h2⟩ := h
  refine ⟨h1, ?_⟩
  rcases h2 with h2 | ⟨g, cap, cur, hv, hg, hh, r⟩
  · exact Or.inl h2
  · exact Or.inr ⟨g, cap, cur, hv, hg, by rw [Below.heap_setCell _ _ _ _ (hp g (by rw [hv]; rfl))]; exact hh, r⟩
/-- the new block of one element that append reads -/
theorem cells_new (w : World) (cs : List Value) (e : TypeId) : ∀ j u, cs[j]? = some u → (w.alloc (.cells cs.toArray e)).cell? ((⟨w.heap.size, 0, none⟩ : Addr).add j) = some u := by
  intro j u hu
  have hadd : (⟨w.heap.size, 0, none⟩ : Addr).add j = ⟨w.heap.size, j, none⟩ := by unfold Addr.add; split <;> simp_all
  rw [hadd, cell_of_row _ _ j cs.toArray e (0, 0) (heap_alloc_new w _)]
  simpa using hu

theorem frozen_new (w : World) (cs : Array Value) (e : TypeId) (o : Nat) : (w.alloc (.cells cs e)).frozen? ⟨w.heap.size, o, none⟩ = false := by
  unfold World.frozen?
  rw [heap_alloc_new]
  simp

/-! ### slices whose elements lead to memory -/
/-- a slice that reads as a list, an element's cells by a relation that may look at the world -/
def SlR {α : Type} (R : World → α → List Value → Prop) (size t : Nat) (w : World) (A : Option Addr) (n : Nat) (xs : List α) : Prop :=
  n = xs.length ∧ (0 < n → ∃ b off cells fz, A = some ⟨b, off, none⟩ ∧ w.heap[b]? = some (.cells cells t fz) ∧
    ∀ i x, xs[i]? = some x → ∃ cs, cs.length = size ∧ R w x cs ∧ ∀ j u, cs[j]? = some u → cells[off + i * size + j]? = some u)
def RowsR {α : Type} (R : World → α → List Value → Prop) (size : Nat) (w : World) (xs : List α) (cells : List Value) : Prop :=
  cells.length = xs.length * size ∧ ∀ i x, xs[i]? = some x → ∃ cs, cs.length = size ∧ R w x cs ∧ ∀ j u, cs[j]? = some u → cells[i * size + j]? = some u
def Stays {α : Type} (S : TypeId → Prop) (R : World → α → List Value → Prop) : Prop := ∀ w w' x cs, KT S w w' → R w x cs → R w' x cs
section
variable {α : Type} {R : World → α → List Value → Prop} {size t : Nat} {S : TypeId → Prop} {w w' : World} {A : Option Addr} {n : Nat} {xs : List α} {cells : List Value}
theorem Stays.mono {S' : TypeId → Prop} (h : Stays S R) (hs : ∀ t, S t → S' t) : Stays S' R := fun w w' x cs hk hr => h w w' x cs (hk.mono hs) hr
theorem SlR.len (h : SlR R size t w A n xs) : n = xs.length := h.1
theorem SlR.nil : SlR R size t w A 0 [] := ⟨rfl, fun h => absurd h (by omega)⟩
theorem SlR.kt (hR : Stays S R) (h : SlR R size t w A n xs) (hk : KT S w w') (hs : S t) : SlR R size t w' A n xs :=
  ⟨h.1, fun hn => by
    obtain ⟨b, off, cells, fz, rfl, hlt, hc⟩ := h.2 hn
    refine ⟨b, off, cells, fz, rfl, hk _ _ _ _ hs hlt, fun i x hx => ?_⟩
    obtain ⟨cs, h1, h2, h3⟩ := hc i x hx
    exact ⟨cs, h1, hR _ _ _ _ hk h2, h3⟩⟩
theorem SlR.below (hR : Stays S R) (h : SlR R size t w A n xs) (hb : Below w.heap.size w w') : SlR R size t w' A n xs :=
  SlR.kt (S := fun _ => True) (hR.mono fun _ _ => trivial) h (KT.below hb) trivial
theorem SlR.get (h : SlR R size t w A n xs) {k : Nat} (hk : k < n) : ∃ b off, ∃ x cs, A = some ⟨b, off, none⟩ ∧ b < w.heap.size ∧ xs[k]? = some x ∧ cs.length = size ∧ R w x cs ∧
    ∀ j u, cs[j]? = some u → w.cell? ⟨b, off + k * size + j, none⟩ = some u := by
  have hl := h.1
  obtain ⟨b, off, cells, fz, rfl, hb, hc⟩ := h.2 (by omega)
  have hx : xs[k]? = some (xs[k]'(by omega)) := List.getElem?_eq_getElem (by omega)
  obtain ⟨cs, h1, h2, h3⟩ := hc k _ hx
  exact ⟨b, off, _, cs, rfl, lt_of_heap hb, hx, h1, h2, fun j u hu => by rw [cell_of_row w b _ cells t fz hb]; exact h3 j u hu⟩
theorem SlR.nilA (h : SlR R size t w A n xs) (hA : A = none) : n = 0 := by
  rcases Nat.eq_zero_or_pos n with h0 | h0
  · exact h0
  · obtain ⟨b, off, cs, fz, e, _⟩ := h.2 h0
    rw [hA] at e; cases e
theorem RowsR.nil : RowsR R size w [] [] := ⟨by simp, fun i x h => by simp at h⟩
theorem RowsR.kt (hR : Stays S R) (h : RowsR R size w xs cells) (hk : KT S w w') : RowsR R size w' xs cells :=
  ⟨h.1, fun i x hx => by
    obtain ⟨cs, h1, h2, h3⟩ := h.2 i x hx
    exact ⟨cs, h1, hR _ _ _ _ hk h2, h3⟩⟩
theorem RowsR.snoc (h : RowsR R size w xs cells) {x : α} {cs : List Value} (hl : cs.length = size) (hr : R w x cs) : RowsR R size w (xs ++ [x]) (cells ++ cs) := by
  refine ⟨by simp [h.1, hl, Nat.add_mul], fun i y hy => ?_⟩
  by_cases hi : i < xs.length
  · rw [List.getElem?_append_left hi] at hy
    obtain ⟨cs', h1, h2, h3⟩ := h.2 i y hy
    refine ⟨cs', h1, h2, fun j u hu => ?_⟩
    have := h3 j u hu
    rw [List.getElem?_append_left (List.getElem?_eq_some_iff.1 this).1]
    exact this
  · have hi' : i = xs.length := by
      have := (List.getElem?_eq_some_iff.1 hy).1
      simp at this; omega
    subst hi'
    simp at hy
    subst hy
    refine ⟨cs, hl, hr, fun j u hu => ?_⟩
    rw [List.getElem?_append_right (by rw [h.1]; omega), h.1]
    simpa using hu
theorem SlR.of_own {base : Nat} {e : TypeId} {v : Value} (h : w.ownsRow base e size v n cells) (hr : RowsR R size w xs cells) (hn : n = xs.length) : ∃ A c, v = .slice A n c ∧ n ≤ c ∧ SlR R size e w A n xs := by
  rcases h.2 with ⟨rfl, rfl⟩ | ⟨g, cap, cur, rfl, hb, hg, hnc, hcm, hcs, htake⟩
  · exact ⟨none, 0, rfl, Nat.le_refl _, ⟨hn, fun h => absurd h (by omega)⟩⟩
  · refine ⟨_, _, rfl, hnc, ⟨hn, fun _ => ⟨g, 0, cur, (0, 0), rfl, hg, fun i x hx => ?_⟩⟩⟩
    obtain ⟨cs, h1, h2, h3⟩ := hr.2 i x hx
    refine ⟨cs, h1, h2, fun j u hu => ?_⟩
    have h4 := h3 j u hu
    rw [← htake, List.getElem?_take] at h4
    split at h4
    · simpa using h4
    · cases h4
end
/-- the relation 'a slice of a's' -/
def sliceR {α : Type} (enc : α → List Value) (size t : Nat) (w : World) (xs : List α) (cs : List Value) : Prop := ∃ A m c, cs = [.slice A m c] ∧ m ≤ c ∧ Sl enc size t w A m xs
theorem sliceR.stays {α : Type} (enc : α → List Value) (size t : Nat) {S : TypeId → Prop} (hs : S t) : Stays S (sliceR enc size t) := fun _ _ _ _ hk ⟨A, m, c, h1, h2, h3⟩ => ⟨A, m, c, h1, h2, h3.kt hk hs⟩

theorem own_slice {w : World} {base : Nat} {e : TypeId} {size : Nat} {v : Value} {n : Nat} {xs : List Value} (h : w.ownsRow base e size v n xs) : ∃ A c, v = .slice A n c := by
  rcases h.2 with ⟨rfl, rfl⟩ | ⟨g, cap, cur, rfl, _⟩
  · exact ⟨none, 0, rfl⟩
  · exact ⟨_, _, rfl⟩
/-! ### append from a source that may be nil -/
section
variable {P : Program}
theorem run_append_src (w : World) (base : Nat) (t ty e : TypeId) (i : TypeInfo) (z : Value) (size bytes : Nat) (ht : P.underlying t = some (.slice e)) (hi : P.info? e = some i) (hz : i.zero = some z)
    (hsize : i.size = size) (hby : i.bytes = bytes) (hzs : z.cells.size = size) (hsz : 0 < size)
    (v : Value) (n : Nat) (xs : List Value) (hown : w.ownsRow base e size v n xs) (A : Option Addr) (m c : Nat) (news : List Value) (hl : news.length = m * size) (hnil : A = none → m = 0)
    (hc : ∀ ad, A = some ad → 0 < m → ∀ j u, news[j]? = some u → w.cell? (ad.add j) = some u) (h1 : ∀ u ∈ news, u.oneCell' = true)
    (h63 : n + m ≤ maxLen) (hbytes : (n + m) * bytes ≤ 140737488355328) (hbase : base ≤ w.heap.size) :
    ∃ v' w', (Builtin.append_ #[t, t] ty #[v, .slice A m c]).run P w = .ok v' w' ∧ w'.ownsRow base e size v' (n + m) (xs ++ news) ∧ w.grownBy w' v.ownBlock := by
  cases A with
  | none =>
    obtain rfl := hnil rfl
    obtain rfl : news = [] := List.eq_nil_of_length_eq_zero (by simpa using hl)
    refine ⟨v, w, ?_, by simpa using hown, ⟨rfl, rfl, rfl, Nat.le_refl _, fun _ _ _ => rfl⟩⟩
    rcases hown.2 with ⟨rfl, rfl⟩ | ⟨g, cap, cur, rfl, _, _, hnc, _⟩
    · simp [Builtin.append_, run_underlying ht, sizeOf, typeInfo, hi, Builtin.lenOf, Builtin.firstCells]
    · simp [Builtin.append_, run_underlying ht, sizeOf, typeInfo, hi, Builtin.lenOf, Builtin.firstCells, hnc, storeCells]
  | some ad =>
    have hc' : ∀ j u, news[j]? = some u → w.cell? (ad.add j) = some u := by
      intro j u hu
      rcases Nat.eq_zero_or_pos m with h0 | h0
      · subst h0
        obtain rfl : news = [] := List.eq_nil_of_length_eq_zero (by simpa using hl)
        simp at hu
      · exact hc ad rfl h0 j u hu
    obtain ⟨v', w', hr, h2, h3, _⟩ := run_append_own (P := P) w base t ty e i z size bytes ht hi hz hsize hby hzs hsz v n xs hown ad m c news hl hc' h1 h63 hbytes hbase
    exact ⟨v', w', hr, h2, h3⟩

theorem wp_append_src (w : World) {o : Oper} {a : Act} {K : Act → World → Prop} {Q : Exit → Act → World → Prop} (s x : Operand) (t : TypeId)
    (ho : o.op = .call { callee := .builtin .append, args := #[s, x], argTypes := #[t, t] })
    (base : Nat) (e : TypeId) (i : TypeInfo) (z : Value) (size bytes : Nat) (ht : P.underlying t = some (.slice e)) (hi : P.info? e = some i) (hz : i.zero = some z)
    (hsize : i.size = size) (hby : i.bytes = bytes) (hzs : z.cells.size = size) (hsz : 0 < size)
    (v : Value) (n : Nat) (xs : List Value) (hs : a.eval s = v) (hown : w.ownsRow base e size v n xs)
    (A : Option Addr) (m c : Nat) (news : List Value) (hx : a.eval x = .slice A m c) (hl : news.length = m * size) (hnil : A = none → m = 0)
    (hc : ∀ ad, A = some ad → 0 < m → ∀ j u, news[j]? = some u → w.cell? (ad.add j) = some u) (h1 : ∀ u ∈ news, u.oneCell' = true)
    (h63 : n + m ≤ maxLen) (hbytes : (n + m) * bytes ≤ 140737488355328) (hbase : base ≤ w.heap.size)
    (h : ∀ A' c' w', w'.ownsRow base e size (.slice A' (n + m) c') (n + m) (xs ++ news) → w.grownBy w' v.ownBlock → K (a.put o.dst (.slice A' (n + m) c')) w') : o.wp P a w K Q := by
  obtain ⟨v', w', hr, h2, h3⟩ := run_append_src (P := P) w base t o.type e i z size bytes ht hi hz hsize hby hzs hsz v n xs hown A m c news hl hnil hc h1 h63 hbytes hbase
  unfold Oper.wp execOp
  simp only [ho, resolve, invoke, builtin, Sem.run_bind, Sem.run_pure, Result.andThen_ok, List.map_toArray, List.map_cons, List.map_nil, hs, hx, hr]
  obtain ⟨A', c', rfl⟩ := own_slice h2
  exact h A' c' w' h2 h3

theorem wpList_append_src (w : World) {ops : Array Oper} {rest : List Oper} {o : Oper} {a : Act} {Q : Exit → Act → World → Prop} (hgd : o.guard = none) (s x : Operand) (t : TypeId)
    (ho : o.op = .call { callee := .builtin .append, args := #[s, x], argTypes := #[t, t] })
    (base : Nat) (e : TypeId) (i : TypeInfo) (z : Value) (size bytes : Nat) (ht : P.underlying t = some (.slice e)) (hi : P.info? e = some i) (hz : i.zero = some z)
    (hsize : i.size = size) (hby : i.bytes = bytes) (hzs : z.cells.size = size) (hsz : 0 < size)
    (v : Value) (n : Nat) (xs : List Value) (hs : a.eval s = v) (hown : w.ownsRow base e size v n xs)
    (A : Option Addr) (m c : Nat) (news : List Value) (hx : a.eval x = .slice A m c) (hl : news.length = m * size) (hnil : A = none → m = 0)
    (hc : ∀ ad, A = some ad → 0 < m → ∀ j u, news[j]? = some u → w.cell? (ad.add j) = some u) (h1 : ∀ u ∈ news, u.oneCell' = true)
    (h63 : n + m ≤ maxLen) (hbytes : (n + m) * bytes ≤ 140737488355328) (hbase : base ≤ w.heap.size)
    (h : ∀ A' c' w', w'.ownsRow base e size (.slice A' (n + m) c') (n + m) (xs ++ news) → w.grownBy w' v.ownBlock → wpList P ops Q rest (a.put o.dst (.slice A' (n + m) c')) w') : wpList P ops Q (o :: rest) a w := by
  refine wpList_plain hgd fun _ hK => ?_
  obtain ⟨v', w', hr, h2, h3⟩ := run_append_src (P := P) w base t o.type e i z size bytes ht hi hz hsize hby hzs hsz v n xs hown A m c news hl hnil hc h1 h63 hbytes hbase
  unfold Oper.wp execOp
  simp only [ho, resolve, invoke, builtin, Sem.run_bind, Sem.run_pure, Result.andThen_ok, List.map_toArray, List.map_cons, List.map_nil, hs, hx, hr]
  obtain ⟨A', c', rfl⟩ := own_slice h2
  exact hK _ _ (h A' c' w' h2 h3)
end
/-- what append reads of a source that reads as a list -/
theorem Sl.news {α : Type} {enc : α → List Value} {size t : Nat} (he : ∀ x, (enc x).length = size) (hs : 0 < size) {w : World} {A : Option Addr} {n : Nat} {xs : List α} (h : Sl enc size t w A n xs) :
    ∀ ad, A = some ad → 0 < n → ∀ j u, (xs.flatMap enc)[j]? = some u → w.cell? (ad.add j) = some u := by
  intro ad hA hn j u hu
  obtain ⟨b, off, e, hb, hc⟩ := h.get hn
  rw [hA] at e
  obtain rfl := Option.some.inj e
  have hadd : (⟨b, off, none⟩ : Addr).add j = ⟨b, off + j, none⟩ := by unfold Addr.add; split <;> simp_all
  rw [hadd]
  have hj : j < xs.length * size := by
    have h1 := (List.getElem?_eq_some_iff.1 hu).1
    rwa [flat_len he] at h1
  have hi : j / size < xs.length := Nat.div_lt_of_lt_mul (by rwa [Nat.mul_comm])
  have hx : xs[j / size]? = some xs[j / size] := List.getElem?_eq_getElem hi
  have hl : j % size < (enc xs[j / size]).length := by rw [he]; exact Nat.mod_lt _ hs
  have hg := flatMap_get he xs _ _ hx _ _ (List.getElem?_eq_getElem hl)
  have hm : j / size * size + j % size = j := by rw [Nat.mul_comm]; exact Nat.div_add_mod j size
  rw [hm, hu] at hg
  have h2 := hc _ _ hx _ _ (List.getElem?_eq_getElem hl)
  rw [show off + j / size * size + j % size = off + j from by omega] at h2
  rw [h2, ← hg]

/-! ### ints -/
def intc (x : Int) : List Value := [.int .i64 x]
theorem intc_len (x : Int) : (intc x).length = 1 := rfl
theorem intc_one (x : Int) : ∀ u ∈ intc x, u.oneCell' = true := by intro u hu; simp [intc] at hu; subst hu; rfl
abbrev SlI (t : Nat) (w : World) (A : Option Addr) (n : Nat) (xs : List Int) : Prop := Sl intc 1 t w A n xs
theorem Sl.int {t : Nat} {w : World} {A : Option Addr} {n : Nat} {xs : List Int} (h : Sl intc 1 t w A n xs) {k : Nat} (hk : k < n) :
    ∃ b off, ∃ x : Int, A = some ⟨b, off, none⟩ ∧ b < w.heap.size ∧ xs[k]? = some x ∧ w.cell? ⟨b, off + k, none⟩ = some (.int .i64 x) := by
  have hl := h.1
  obtain ⟨b, off, rfl, hb, hc⟩ := h.get (by omega)
  have hx : xs[k]? = some (xs[k]'(by omega)) := List.getElem?_eq_getElem (by omega)
  have := hc k _ hx 0 _ rfl
  exact ⟨b, off, _, rfl, hb, hx, by simpa using this⟩
theorem SlR.slice {α : Type} {enc : α → List Value} {size t t' : Nat} {w : World} {A : Option Addr} {n : Nat} {xss : List (List α)} (h : SlR (sliceR enc size t) 1 t' w A n xss) {k : Nat} (hk : k < n) :
    ∃ b off, ∃ xs, A = some ⟨b, off, none⟩ ∧ b < w.heap.size ∧ xss[k]? = some xs ∧ ∃ A' m c', w.cell? ⟨b, off + k, none⟩ = some (.slice A' m c') ∧ m ≤ c' ∧ Sl enc size t w A' m xs := by
  obtain ⟨b, off, xs, cs, rfl, hb, hx, _, ⟨A', m, c', rfl, h1, h2⟩, hc⟩ := h.get hk
  exact ⟨b, off, xs, rfl, hb, hx, A', m, c', by simpa using hc 0 _ rfl, h1, h2⟩
end Go.Proofs.Ytllcankinjomaaa
