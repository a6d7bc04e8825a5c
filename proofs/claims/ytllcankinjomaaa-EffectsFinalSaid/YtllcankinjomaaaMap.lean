/- Maps: a map's block as a function of its keys. -/
import Derived.Test.YtllcankinjomaaaBase
import Derived.MapKept
import Derived.Maps.Own
import Derived.Maps.OwnOps
namespace Go.Proofs.Ytllcankinjomaaa
set_option linter.unusedSimpArgs false
set_option linter.unusedVariables false
open Go.RowKit Go.MapKept

/-- keys of a type: how they are found -/
structure KeyLaw {κ : Type} (P : Program) (kt : TypeId) (enc : κ → Value) : Prop where
  check : ∀ k e w, (Instr.checkKey e 10000 kt (enc k)).run P w = .ok () w
  find : ∀ k (l : List MapEntry) (ks : List κ), l.map (·.key) = ks.map enc → ∀ w, ∃ a, (Instr.findKey kt (enc k) l).run P w = .ok a w ∧
    match a with
    | none => k ∉ ks
    | some (i, v) => ks[i]? = some k ∧ ∃ e, l[i]? = some e ∧ v = e.val
  inj : ∀ k k', enc k = enc k' → k = k'
  same : ∀ k, Instr.sameBits 10000 (enc k) (enc k) = true

/-- block r of w is a map: its keys, in the order in which they lie, and what each holds -/
def MapF {κ : Type} (enc : κ → Value) (w : World) (r : Nat) (ks : List κ) (f : κ → Option Value) : Prop :=
  ∃ es clock, w.heap[r]? = some (.map es clock) ∧ Stamped es clock ∧ es.toList.map (·.key) = ks.map enc ∧
    (∀ (i : Nat) k e, ks[i]? = some k → es.toList[i]? = some e → f k = some e.val) ∧ ∀ k, k ∉ ks → f k = none

section
variable {κ : Type} {P : Program} {kt : TypeId} {enc : κ → Value} {w w' : World} {r : Nat} {ks : List κ} {f : κ → Option Value}

theorem MapF.lt (h : MapF enc w r ks f) : r < w.heap.size := by
  obtain ⟨es, clock, hb, _⟩ := h
  exact (Array.getElem?_eq_some_iff.1 hb).1
theorem MapF.kept (h : MapF enc w r ks f) (hb : w'.heap[r]? = w.heap[r]?) : MapF enc w' r ks f := by
  obtain ⟨es, clock, h1, h2⟩ := h
  exact ⟨es, clock, hb.trans h1, h2⟩
theorem MapF.below (h : MapF enc w r ks f) (hb : Below w.heap.size w w') : MapF enc w' r ks f := h.kept (hb.block r h.lt)
theorem MapF.grown {row : Option Nat} (h : MapF enc w r ks f) (hg : w.grownBy w' row) (hne : some r ≠ row) : MapF enc w' r ks f := h.kept (hg.block r h.lt hne)
theorem MapF.alloc (h : MapF enc w r ks f) (o : Obj) : MapF enc (w.alloc o) r ks f := h.kept (Below.heap_alloc w o r h.lt)
theorem MapF.drew (h : MapF enc w r ks f) : MapF enc w.drew r ks f := h
theorem MapF.drewN (h : MapF enc w r ks f) (n : Nat) : MapF enc (w.drewN n) r ks f := h
theorem MapF.setCell (h : MapF enc w r ks f) {p : Addr} (u : Value) : MapF enc (w.setCell p u) r ks f := by
  obtain ⟨es, clock, h1, h2⟩ := h
  refine ⟨es, clock, ?_, h2⟩
  unfold World.setCell
  by_cases hp : p.block = r
  · subst hp; simp [Array.getElem?_modify, h1]
  · simp only [Array.getElem?_modify, if_neg hp]; exact h1
theorem MapF.new (enc : κ → Value) (w : World) : MapF enc (w.alloc (.map #[] 0)) w.heap.size [] (fun _ => none) :=
  ⟨#[], 0, heap_alloc_new w _, stamped_empty 0, rfl, fun i k e h => by simp at h, fun _ _ => rfl⟩
theorem MapF.len (h : MapF enc w r ks f) : ∃ es clock, w.heap[r]? = some (.map es clock) ∧ es.size = ks.length := by
  obtain ⟨es, clock, h1, _, h2, _⟩ := h
  refine ⟨es, clock, h1, ?_⟩
  have := congrArg List.length h2
  simpa using this
theorem MapF.nodup (K : KeyLaw P kt enc) (h : MapF enc w r ks f) : ks.Nodup := by
  obtain ⟨es, clock, _, hst, h2, _⟩ := h
  have h3 := ((stamped_iff es clock).1 hst).2.2
  have h4 : (es.toList.map (·.key)).Nodup := List.pairwise_map.2 h3
  rw [h2] at h4
  exact (List.pairwise_map.1 h4).imp (fun hne he => hne (by rw [he]))
theorem MapF.mem (h : MapF enc w r ks f) (k : κ) : k ∈ ks ↔ f k ≠ none := by
  obtain ⟨es, clock, _, _, h2, h3, h4⟩ := h
  constructor
  · intro hk
    obtain ⟨i, hi⟩ := List.mem_iff_getElem?.1 hk
    have hl := congrArg List.length h2
    simp only [List.length_map] at hl
    have hlt := (List.getElem?_eq_some_iff.1 hi).1
    rw [h3 i k _ hi (List.getElem?_eq_getElem (by omega))]
    simp
  · intro hf
    by_cases hk : k ∈ ks
    · exact hk
    · exact absurd (h4 k hk) hf

/-- what findKey gives -/
theorem MapF.found (K : KeyLaw P kt enc) {es : Array MapEntry} {clock : Nat} (h1 : w.heap[r]? = some (.map es clock)) (h2 : es.toList.map (·.key) = ks.map enc)
    (h3 : ∀ (i : Nat) k e, ks[i]? = some k → es.toList[i]? = some e → f k = some e.val) (h4 : ∀ k, k ∉ ks → f k = none) (k : κ) (w0 : World) :
    (k ∉ ks ∧ f k = none ∧ (Instr.findKey kt (enc k) es.toList).run P w0 = .ok none w0) ∨
    ∃ i e, ks[i]? = some k ∧ es.toList[i]? = some e ∧ f k = some e.val ∧ (Instr.findKey kt (enc k) es.toList).run P w0 = .ok (some (i, e.val)) w0 := by
  obtain ⟨a, hr, ha⟩ := K.find k es.toList ks h2 w0
  cases a with
  | none => exact .inl ⟨ha, h4 k ha, hr⟩
  | some p =>
    obtain ⟨i, v⟩ := p
    obtain ⟨hi, e, he, rfl⟩ := ha
    exact .inr ⟨i, e, hi, he, h3 i k e hi he, hr⟩

theorem MapF.lookup (K : KeyLaw P kt enc) (h : MapF enc w r ks f) {t e : TypeId} (ht : P.underlying t = some (.map kt e)) {z : Value} (hz : (zeroValue e).run P w = .ok z w) (k : κ) :
    (Instr.lookup t (.map (some r)) (enc k) false).run P w = .ok ((f k).getD z) w := by
  obtain ⟨es, clock, h1, _, h2, h3, h4⟩ := h
  have hg : (getObj r).run P w = .ok (.map es clock) w := by simp [getObj, Sem.run, h1]
  unfold Instr.lookup
  rcases MapF.found K h1 h2 h3 h4 k w with ⟨_, hf, hr⟩ | ⟨i, e0, _, _, hf, hr⟩
  · simp [run_underlying ht, hg, K.check, hr, hz, hf, Result.andThen]
  · simp [run_underlying ht, hg, K.check, hr, hf, Result.andThen]


def fput [DecidableEq κ] (f : κ → Option Value) (k : κ) (v : Value) : κ → Option Value := fun k' => if k' = k then some v else f k'
def fdel [DecidableEq κ] (f : κ → Option Value) (k : κ) : κ → Option Value := fun k' => if k' = k then none else f k'
def kput [DecidableEq κ] (ks : List κ) (k : κ) : List κ := if k ∈ ks then ks else ks ++ [k]

theorem map_eraseIdx' {α β : Type} (g : α → β) (l : List α) (i : Nat) : (l.eraseIdx i).map g = (l.map g).eraseIdx i := by
  apply List.ext_getElem?
  intro j
  simp only [List.getElem?_map, List.getElem?_eraseIdx]
  split <;> rfl
theorem nodup_at {α : Type} {l : List α} (h : l.Nodup) {i j : Nat} {x : α} (hi : l[i]? = some x) (hj : l[j]? = some x) : i = j := by
  obtain ⟨hi', rfl⟩ := List.getElem?_eq_some_iff.1 hi
  obtain ⟨hj', hx⟩ := List.getElem?_eq_some_iff.1 hj
  rcases Nat.lt_trichotomy i j with h1 | h1 | h1
  · exact absurd hx.symm (List.pairwise_iff_getElem.1 h i j hi' hj' h1)
  · exact h1
  · exact absurd hx (List.pairwise_iff_getElem.1 h j i hj' hi' h1)

theorem grown_setObj {w : World} {o : Obj} : w.grownBy { w with heap := w.heap.setIfInBounds r o } (some r) :=
  ⟨rfl, rfl, rfl, by simp, fun k _ hk => by
    show (w.heap.setIfInBounds r o)[k]? = w.heap[k]?
    rw [Array.getElem?_setIfInBounds_ne (fun e => hk (by rw [e]))]⟩

/-- the entry i of key k turned -/
theorem MapF.modify [DecidableEq κ] (K : KeyLaw P kt enc) {es : Array MapEntry} {clock : Nat} (hst : Stamped es clock) (h2 : es.toList.map (·.key) = ks.map enc)
    (h3 : ∀ (i : Nat) k e, ks[i]? = some k → es.toList[i]? = some e → f k = some e.val) (h4 : ∀ k, k ∉ ks → f k = none) {i : Nat} {k : κ} (hi : ks[i]? = some k) (v : Value)
    (hb : (w'.heap)[r]? = some (.map (es.modify i fun e => { e with key := enc k, val := v }) clock)) : MapF enc w' r ks (fput f k v) := by
  have hnd : ks.Nodup := by
    have h3 := ((stamped_iff es clock).1 hst).2.2
    have h4 : (es.toList.map (·.key)).Nodup := List.pairwise_map.2 h3
    rw [h2] at h4
    exact (List.pairwise_map.1 h4).imp (fun hne he => hne (by rw [he]))
  have hkey : ∀ e, es[i]? = some e → e.key = enc k := by
    intro e he
    have := congrArg (·[i]?) h2
    simp only [List.getElem?_map, Array.getElem?_toList, he, hi, Option.map_some, Option.some.injEq] at this
    exact this
  refine ⟨_, clock, hb, stamped_modify hst i _ (fun e _ => rfl) (fun e _ he => (hkey e he).symm), ?_, ?_, ?_⟩
  · rw [← h2]
    apply List.ext_getElem?
    intro j
    simp only [List.getElem?_map, Array.getElem?_toList, Array.getElem?_modify]
    by_cases hij : i = j
    · subst hij
      simp only [if_true]
      cases he : es[i]? with
      | none => rfl
      | some e => simp [hkey e he]
    · simp [hij]
  · intro j k' e hj he
    simp only [Array.getElem?_toList, Array.getElem?_modify] at he
    unfold fput
    by_cases hij : i = j
    · subst hij
      have : k' = k := Option.some.inj (hj.symm.trans hi)
      subst this
      rw [if_pos rfl]
      simp only [if_true] at he
      cases h5 : es[i]? with
      | none => rw [h5] at he; cases he
      | some e0 => rw [h5] at he; cases he; rfl
    · rw [if_neg hij] at he
      have hne : k' ≠ k := fun e1 => hij (nodup_at hnd hi (by rw [← e1]; exact hj))
      rw [if_neg hne]
      exact h3 j k' e hj (by simpa using he)
  · intro k' hk'
    unfold fput
    rw [if_neg (fun e => hk' (by rw [e]; exact List.mem_of_getElem? hi))]
    exact h4 k' hk'

/-- a new entry -/
theorem MapF.push [DecidableEq κ] (K : KeyLaw P kt enc) {es : Array MapEntry} {clock : Nat} (hst : Stamped es clock) (h2 : es.toList.map (·.key) = ks.map enc)
    (h3 : ∀ (i : Nat) k e, ks[i]? = some k → es.toList[i]? = some e → f k = some e.val) (h4 : ∀ k, k ∉ ks → f k = none) {k : κ} (hk : k ∉ ks) (v : Value)
    (hb : (w'.heap)[r]? = some (.map (es.push { key := enc k, val := v, born := clock }) (clock + 1))) : MapF enc w' r (ks ++ [k]) (fput f k v) := by
  have hl := congrArg List.length h2
  simp only [List.length_map] at hl
  refine ⟨_, clock + 1, hb, stamped_push hst ?_, by simp [h2], ?_, ?_⟩
  · intro x hx he
    have : x.key ∈ es.toList.map (·.key) := List.mem_map_of_mem hx
    rw [h2, he] at this
    obtain ⟨k', hk', he'⟩ := List.mem_map.1 this
    exact hk (K.inj _ _ he' ▸ hk')
  · intro i k' e hi he
    unfold fput
    by_cases hlt : i < ks.length
    · rw [List.getElem?_append_left hlt] at hi
      have hne : k' ≠ k := fun e1 => hk (by rw [← e1]; exact List.mem_of_getElem? hi)
      rw [if_neg hne]
      refine h3 i k' e hi ?_
      rw [Array.toList_push, List.getElem?_append_left (by omega)] at he
      exact he
    · have h5 := (List.getElem?_eq_some_iff.1 hi).1
      simp at h5
      obtain rfl : i = ks.length := by omega
      simp at hi
      subst hi
      rw [if_pos rfl]
      rw [Array.toList_push, List.getElem?_append_right (by omega)] at he
      simp [hl] at he
      rw [← he]
  · intro k' hk'
    simp only [List.mem_append, List.mem_singleton, not_or] at hk'
    unfold fput
    rw [if_neg hk'.2]
    exact h4 k' hk'.1

theorem heap_setObj {w : World} {o o' : Obj} (hb : w.heap[r]? = some o) : ({ w with heap := w.heap.setIfInBounds r o' } : World).heap[r]? = some o' := (heap_set hb).1

theorem MapF.update [DecidableEq κ] (K : KeyLaw P kt enc) (h : MapF enc w r ks f) {t e : TypeId} (ht : P.underlying t = some (.map kt e)) (k : κ) (v : Value) :
    ∃ w', (Instr.mapUpdate t (.map (some r)) (enc k) v).run P w = .ok () w' ∧ MapF enc w' r (kput ks k) (fput f k v) ∧ w.grownBy w' (some r) := by
  obtain ⟨es, clock, h1, hst, h2, h3, h4⟩ := h
  have hg : (getObj r).run P w = .ok (.map es clock) w := by simp [getObj, Sem.run, h1]
  rcases MapF.found K h1 h2 h3 h4 k w with ⟨hk, hf, hr⟩ | ⟨i, e0, hi, he0, hf, hr⟩
  · refine ⟨{ w with heap := w.heap.setIfInBounds r (.map (es.push { key := enc k, val := v, born := clock }) (clock + 1)) }, ?_, ?_, grown_setObj⟩
    · unfold Instr.mapUpdate
      simp [run_underlying ht, hg, K.check, hr, Result.andThen, run_setObj_map _ h1]
    · unfold kput; rw [if_neg hk]
      exact MapF.push K hst h2 h3 h4 hk v (heap_setObj h1)
  · have hkeep : (Instr.keyThatStays (((es[i]?).map (·.key)).getD (enc k)) (enc k)).run P w = .ok (enc k) w := by
      have hkey : ((es[i]?).map (·.key)).getD (enc k) = enc k := by
        have := congrArg (·[i]?) h2
        simp only [List.getElem?_map, Array.getElem?_toList, hi, Option.map_some] at this
        cases h5 : es[i]? with
        | none => rfl
        | some e1 => rw [h5] at this; simpa using this
      rw [hkey]
      unfold Instr.keyThatStays
      rw [if_pos (K.same k)]
      rfl
    refine ⟨{ w with heap := w.heap.setIfInBounds r (.map (es.modify i fun e => { e with key := enc k, val := v }) clock) }, ?_, ?_, grown_setObj⟩
    · unfold Instr.mapUpdate
      simp [run_underlying ht, hg, K.check, hr, Result.andThen, hkeep, run_setObj_map _ h1]
    · unfold kput; rw [if_pos (List.mem_of_getElem? hi)]
      exact MapF.modify K hst h2 h3 h4 hi v (heap_setObj h1)

theorem MapF.keeps {es : Array MapEntry} (h2 : es.toList.map (·.key) = ks.map enc) (K : KeyLaw P kt enc) {i : Nat} {k : κ} (hi : ks[i]? = some k) (w : World) :
    (Instr.keyThatStays (((es[i]?).map (·.key)).getD (enc k)) (enc k)).run P w = .ok (enc k) w := by
  have hkey : ((es[i]?).map (·.key)).getD (enc k) = enc k := by
    have := congrArg (·[i]?) h2
    simp only [List.getElem?_map, Array.getElem?_toList, hi, Option.map_some] at this
    cases h5 : es[i]? with
    | none => rfl
    | some e1 => rw [h5] at this; simpa using this
  rw [hkey]
  unfold Instr.keyThatStays
  rw [if_pos (K.same k)]
  rfl

/-- 'delete(m, k)' -/
theorem MapF.delete [DecidableEq κ] (K : KeyLaw P kt enc) (h : MapF enc w r ks f) {t t2 ty e : TypeId} (ht : P.underlying t = some (.map kt e)) (k : κ) :
    ∃ w', (Builtin.delete_ #[t, t2] ty #[.map (some r), enc k]).run P w = .ok (.tuple #[]) w' ∧ MapF enc w' r (ks.filter (· ≠ k)) (fdel f k) ∧ w.grownBy w' (some r) := by
  have hnd := h.nodup K
  obtain ⟨es, clock, h1, hst, h2, h3, h4⟩ := h
  have hg : (getObj r).run P w = .ok (.map es clock) w := by simp [getObj, Sem.run, h1]
  rcases MapF.found K h1 h2 h3 h4 k w with ⟨hk, hf, hr⟩ | ⟨i, e0, hi, he0, hf, hr⟩
  · refine ⟨{ w with heap := w.heap.setIfInBounds r (.map es clock) }, ?_, ⟨es, clock, heap_setObj h1, hst, ?_, ?_, ?_⟩, grown_setObj⟩
    · unfold Builtin.delete_
      simp [run_underlying ht, hg, K.check, hr, Result.andThen, run_setObj_map _ h1]
    · rw [h2, List.filter_eq_self.2]
      intro a ha
      simp only [ne_eq, decide_not, Bool.not_eq_true', decide_eq_false_iff_not]
      rintro rfl; exact hk ha
    · intro i k' e' hi he
      rw [List.filter_eq_self.2] at hi
      · unfold fdel
        rw [if_neg (fun e1 => hk (by rw [← e1]; exact List.mem_of_getElem? hi))]
        exact h3 i k' e' hi he
      · intro a ha
        simp only [ne_eq, decide_not, Bool.not_eq_true', decide_eq_false_iff_not]
        rintro rfl; exact hk ha
    · intro k' hk'
      unfold fdel
      by_cases e1 : k' = k
      · rw [if_pos e1]
      · rw [if_neg e1]
        exact h4 k' (fun hm => hk' (List.mem_filter.2 ⟨hm, by simpa using e1⟩))
  · -- the filter is the list without place i
    have hlt := (List.getElem?_eq_some_iff.1 hi).1
    have hl := congrArg List.length h2
    simp only [List.length_map] at hl
    have hfil : ks.filter (· ≠ k) = ks.eraseIdx i := by
      have e1 : ks = ks.take i ++ k :: ks.drop (i + 1) := by
        conv => lhs; rw [← List.take_append_drop i ks]
        rw [drop_some hi]
      have hn2 := hnd
      rw [e1] at hn2
      rw [List.nodup_append] at hn2
      obtain ⟨ha, hb, hab⟩ := hn2
      have hb' := (List.nodup_cons.1 hb).1
      rw [List.eraseIdx_eq_take_drop_succ]
      conv => lhs; rw [e1]
      rw [List.filter_append, List.filter_cons]
      simp only [ne_eq, not_true, decide_false, Bool.false_eq_true, if_false]
      rw [List.filter_eq_self.2, List.filter_eq_self.2]
      · intro a ha'
        simp only [decide_not, Bool.not_eq_true', decide_eq_false_iff_not]
        rintro rfl; exact hb' ha'
      · intro a ha'
        simp only [decide_not, Bool.not_eq_true', decide_eq_false_iff_not]
        rintro rfl
        exact hab _ ha' _ (List.mem_cons_self) rfl
    refine ⟨{ w with heap := w.heap.setIfInBounds r (.map (es.eraseIdxIfInBounds i) clock) }, ?_, ⟨_, clock, heap_setObj h1, stamped_erase hst i, ?_, ?_, ?_⟩, grown_setObj⟩
    · unfold Builtin.delete_
      simp [run_underlying ht, hg, K.check, hr, Result.andThen, run_setObj_map _ h1]
    · rw [hfil, Array.toList_eraseIdxIfInBounds, map_eraseIdx', h2, map_eraseIdx']
    · intro j k' e' hj he
      rw [hfil] at hj
      rw [Array.toList_eraseIdxIfInBounds] at he
      have hne : k' ≠ k := by
        rintro rfl
        have hm := List.mem_of_getElem? hj
        rw [← hfil] at hm
        simpa using (List.mem_filter.1 hm).2
      unfold fdel
      rw [if_neg hne]
      rw [List.getElem?_eraseIdx] at hj he
      split at hj
      · exact h3 j k' e' hj (by simpa [*] using he)
      · exact h3 (j + 1) k' e' hj (by simpa [*] using he)
    · intro k' hk'
      unfold fdel
      by_cases e1 : k' = k
      · rw [if_pos e1]
      · rw [if_neg e1]
        exact h4 k' (fun hm => hk' (List.mem_filter.2 ⟨hm, by simpa using e1⟩))

/-- the stamp of k's entry -/
def StampOf (enc : κ → Value) (w : World) (r : Nat) (k : κ) (b : Nat) : Prop := ∃ (es : Array MapEntry) (clock i : Nat) (e : MapEntry), w.heap[r]? = some (.map es clock) ∧ es[i]? = some e ∧ e.key = enc k ∧ e.born = b

theorem MapF.entry [DecidableEq κ] (K : KeyLaw P kt enc) (h : MapF enc w r ks f) {t e : TypeId} (ht : P.underlying t = some (.map kt e)) {z : Value} (hz : ∀ w, (zeroValue e).run P w = .ok z w) (k : κ) :
    ∃ (w' : World) (b : Nat), (Instr.mapEntry t (.map (some r)) (enc k)).run P w = .ok (.tuple #[(f k).getD z, goInt b]) w' ∧ MapF enc w' r (kput ks k) (fput f k ((f k).getD z)) ∧ StampOf enc w' r k b ∧ w.grownBy w' (some r) := by
  obtain ⟨es, clock, h1, hst, h2, h3, h4⟩ := h
  have hg : (getObj r).run P w = .ok (.map es clock) w := by simp [getObj, Sem.run, h1]
  rcases MapF.found K h1 h2 h3 h4 k w with ⟨hk, hf, hr⟩ | ⟨i, e0, hi, he0, hf, hr⟩
  · refine ⟨{ w with heap := w.heap.setIfInBounds r (.map (es.push { key := enc k, val := z, born := clock }) (clock + 1)) }, clock, ?_, ?_, ?_, grown_setObj⟩
    · unfold Instr.mapEntry
      simp [run_underlying ht, hg, K.check, hr, hz, Result.andThen, run_setObj_map _ h1, hf]
    · unfold kput; rw [if_neg hk, hf]
      exact MapF.push K hst h2 h3 h4 hk z (heap_setObj h1)
    · exact ⟨_, _, es.size, { key := enc k, val := z, born := clock }, heap_setObj h1, by simp, rfl, rfl⟩
  · have he1 : es[i]? = some e0 := by simpa using he0
    refine ⟨{ w with heap := w.heap.setIfInBounds r (.map (es.modify i fun e => { e with key := enc k }) clock) }, e0.born, ?_, ?_, ?_, grown_setObj⟩
    · have hkp := MapF.keeps h2 K hi w
      rw [he1] at hkp
      simp only [Option.map_some, Option.getD_some] at hkp
      unfold Instr.mapEntry
      simp [run_underlying ht, hg, K.check, hr, Result.andThen, run_setObj_map _ h1, hf, he1, hkp]
    · unfold kput; rw [if_pos (List.mem_of_getElem? hi), hf]
      refine MapF.modify K hst h2 h3 h4 hi e0.val ?_
      show (w.heap.setIfInBounds r _)[r]? = _
      rw [(heap_set h1).1]
      congr 2
      apply Array.ext_getElem?
      intro j
      simp only [Array.getElem?_modify]
      by_cases hij : i = j
      · subst hij; simp [he1]
      · simp [hij]
    · exact ⟨_, _, i, { e0 with key := enc k }, heap_setObj h1, by simp [Array.getElem?_modify, he1], rfl, rfl⟩

theorem MapF.entryStore [DecidableEq κ] (K : KeyLaw P kt enc) (h : MapF enc w r ks f) {t : TypeId} {k : κ} {b : Nat} (hs : StampOf enc w r k b) (v : Value) :
    ∃ w', (Instr.entryStore t (.map (some r)) (goInt b) v).run P w = .ok () w' ∧ MapF enc w' r ks (fput f k v) ∧ w.grownBy w' (some r) := by
  obtain ⟨es, clock, h1, hst, h2, h3, h4⟩ := h
  obtain ⟨es', clock', i, e0, h1', hi, hkey, hb⟩ := hs
  rw [h1] at h1'
  cases h1'
  have hg : (getObj r).run P w = .ok (.map es clock) w := by simp [getObj, Sem.run, h1]
  have hfind : es.findIdx? (fun e => (e.born : Int) == (b : Int)) = some i := by
    have hnd := ((stamped_iff es clock).1 hst).2.1
    rw [Array.findIdx?_eq_some_iff_getElem]
    obtain ⟨hlt, rfl⟩ := Array.getElem?_eq_some_iff.1 hi
    refine ⟨hlt, by simp [hb], fun j hj => ?_⟩
    simp only [Bool.not_eq_true, beq_eq_false_iff_ne, ne_eq]
    intro he
    have h5 : es[j].born = es[i].born := by rw [hb]; exact_mod_cast he
    have := nodup_at hnd (i := j) (j := i) (x := es[i].born) (by rw [List.getElem?_map, Array.getElem?_toList, Array.getElem?_eq_getElem (by omega)]; simp [h5]) (by rw [List.getElem?_map, Array.getElem?_toList, Array.getElem?_eq_getElem hlt]; rfl)
    omega
  have hks : ks[i]? = some k := by
    have := congrArg (·[i]?) h2
    simp only [List.getElem?_map, Array.getElem?_toList, hi, Option.map_some] at this
    cases h5 : ks[i]? with
    | none => rw [h5] at this; cases this
    | some k' =>
      rw [h5] at this
      simp only [Option.map_some, Option.some.injEq] at this
      rw [hkey] at this
      rw [K.inj _ _ this]
  refine ⟨{ w with heap := w.heap.setIfInBounds r (.map (es.modify i fun e => { e with val := v }) clock) }, ?_, ?_, grown_setObj⟩
  · unfold Instr.entryStore
    simp [hg, asInt, asIntOf, goInt, hfind, Result.andThen, run_setObj_map _ h1]
  · refine MapF.modify K hst h2 h3 h4 hks v ?_
    show (w.heap.setIfInBounds r _)[r]? = _
    rw [(heap_set h1).1]
    congr 2
    apply Array.ext_getElem?
    intro j
    simp only [Array.getElem?_modify]
    by_cases hij : i = j
    · subst hij; simp [hi, hkey]
    · simp [hij]
end

section
variable {κ : Type} [DecidableEq κ] {P : Program} {kt : TypeId} {enc : κ → Value}
theorem find_asking (heq : ∀ k k' w, (Op.equal kt (enc k) (enc k')).run P w = .ok (decide (k = k')) w) (k : κ) : ∀ (l : List MapEntry) (ks : List κ) (i0 : Nat), l.map (·.key) = ks.map enc → ∀ w,
    ∃ a, (Instr.findAsking kt (enc k) l i0).run P w = .ok a w ∧ match a with
      | none => k ∉ ks
      | some (i, v) => ∃ j, i = i0 + j ∧ ks[j]? = some k ∧ ∃ e, l[j]? = some e ∧ v = e.val
  | [], ks, i0, h, w => by
    obtain rfl : ks = [] := by cases ks <;> simp_all
    exact ⟨none, rfl, by simp⟩
  | e :: l, [], i0, h, w => by simp at h
  | e :: l, k' :: ks, i0, h, w => by
    simp only [List.map_cons, List.cons.injEq] at h
    by_cases hk : k = k'
    · refine ⟨some (i0, e.val), ?_, 0, rfl, by simp [hk], e, rfl, rfl⟩
      unfold Instr.findAsking
      simp [h.1, heq, hk, Result.andThen]
    · obtain ⟨a, hr, ha⟩ := find_asking heq k l ks (i0 + 1) h.2 w
      refine ⟨a, ?_, ?_⟩
      · unfold Instr.findAsking
        simp [h.1, heq, hk, Result.andThen, hr]
      · cases a with
        | none => simp [hk, ha]
        | some p =>
          obtain ⟨i, v⟩ := p
          obtain ⟨j, rfl, h1, e', h2, h3⟩ := ha
          exact ⟨j + 1, by omega, by simpa using h1, e', by simpa using h2, h3⟩
end

theorem find_now_int {q : IntKind} (x : Int) : ∀ (l : List MapEntry) (ks : List Int) (i0 : Nat), l.map (·.key) = ks.map (Value.int .i64) → ∃ a, Instr.findNow (.int q) (.int .i64 x) l i0 = some a ∧ match a with
      | none => x ∉ ks
      | some (i, v) => ∃ j, i = i0 + j ∧ ks[j]? = some x ∧ ∃ e, l[j]? = some e ∧ v = e.val
  | [], ks, i0, h => by
    obtain rfl : ks = [] := by cases ks <;> simp_all
    exact ⟨none, rfl, by simp⟩
  | e :: l, [], i0, h => by simp at h
  | e :: l, k' :: ks, i0, h => by
    simp only [List.map_cons, List.cons.injEq] at h
    by_cases hk : x = k'
    · refine ⟨some (i0, e.val), ?_, 0, rfl, by simp [hk], e, rfl, rfl⟩
      simp [Instr.findNow, h.1, Instr.sameNow, hk]
    · obtain ⟨a, hr, ha⟩ := find_now_int (q := q) x l ks (i0 + 1) h.2
      refine ⟨a, ?_, ?_⟩
      · have hb : (x == k') = false := by simpa using hk
        simp [Instr.findNow, h.1, Instr.sameNow, hb, hr]
      · cases a with
        | none => simp [hk, ha]
        | some p =>
          obtain ⟨i, v⟩ := p
          obtain ⟨j, rfl, h1, e', h2, h3⟩ := ha
          exact ⟨j + 1, by omega, by simpa using h1, e', by simpa using h2, h3⟩

theorem int_key {P : Program} {kt : TypeId} (hu : P.underlying kt = some (.int .i64)) : KeyLaw P kt (Value.int .i64) where
  check k e w := run_checkKey (k := .int .i64 k) hu (show IsKey (.int .i64) (.int .i64 k) from rfl) e 9999
  find k l ks h w := by
    obtain ⟨a, hr, ha⟩ := find_now_int (q := .i64) k l ks 0 h
    refine ⟨a, run_findKey hu hr, ?_⟩
    cases a with
    | none => exact ha
    | some p =>
      obtain ⟨i, v⟩ := p
      obtain ⟨j, rfl, h1, e', h2, h3⟩ := ha
      exact ⟨by simpa using h1, e', by simpa using h2, h3⟩
  inj k k' h := by injection h
  same k := by simp [Instr.sameBits]

theorem run_makeMap_res {P : Program} {t kt e : TypeId} (ht : P.underlying t = some (.map kt e)) (k : IntKind) (n : Int) (w : World) :
    (Instr.makeMap t (some (.int k n))).run P w = .ok (.map (some w.heap.size)) (w.alloc (.map #[] 0)) := by
  unfold Instr.makeMap
  simp [run_underlying ht, asInt, asIntOf, Result.andThen]

theorem own_ne_map {κ : Type} {enc : κ → Value} {w : World} {r : Nat} {ks : List κ} {f : κ → Option Value} {base : Nat} {e : TypeId} {size : Nat} {v : Value} {n : Nat} {xs : List Value} (h : w.ownsRow base e size v n xs) (hm : MapF enc w r ks f) : some r ≠ v.ownBlock := by
  obtain ⟨es, cl, hb, _⟩ := hm
  rcases h.2 with ⟨rfl, _⟩ | ⟨g, cap, cur, rfl, _, hg, _⟩
  · simp [Value.ownBlock]
  · simp only [Value.ownBlock, ne_eq, Option.some.injEq]
    rintro rfl
    rw [hb] at hg; cases hg
end Go.Proofs.Ytllcankinjomaaa
