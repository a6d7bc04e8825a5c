/- Plain laws for EffectsFinal: what is confirmed for a tick is what was last shown for it. -/
import Derived.Test.YtllcankinjomaaaPlain5
namespace Go.Proofs.Ytllcankinjomaaa
set_option linter.unusedSimpArgs false
set_option linter.unusedVariables false
open Go.RowKit Go.MapKept Go.Maps

def upd (f : Nat → List Eff) (t : Nat) (l : List Eff) : Nat → List Eff := fun k => if k = t then l else f k
def addTo (got : Nat → List Eff) (out : List Eff) : Nat → List Eff := fun u => got u ++ out.filter (fun x => decide (x.tick = (u : Int)))
theorem addTo_nil (got : Nat → List Eff) : addTo got [] = got := by funext u; simp [addTo]
theorem addTo_snoc (got : Nat → List Eff) (out : List Eff) (x : Eff) (t : Nat) (hx : x.tick = (t : Int)) : addTo got (out ++ [x]) = upd (addTo got out) t (addTo got out t ++ [x]) := by
  funext u
  unfold addTo upd
  rw [List.filter_append]
  by_cases h : u = t
  · subst h
    rw [if_pos rfl, List.append_assoc]
    congr 2
    simp [hx]
  · rw [if_neg h]
    have : ¬ x.tick = (u : Int) := by omega
    simp [this]

/-- between two calls -/
structure FI (s : BS) (last got : Nat → List Eff) : Prop where
  b0 : 0 ≤ s.bnd ∧ s.bnd ≤ 8
  lo : ∀ t : Nat, t < 8 → (t : Int) < s.bnd → got t = last t
  hi : ∀ t : Nat, t < 8 → s.bnd ≤ (t : Int) → got t = [] ∧ last t = s.cur t
  low : ∀ k, k < s.bnd → s.cur k = []
  rng : ∀ k ∈ s.ks, 0 ≤ k ∧ k < 8
  tick : ∀ k, ∀ x ∈ s.cur k, x.tick = k
theorem FI.init : FI BS.init (fun _ => []) (fun _ => []) := ⟨by decide, fun _ _ _ => rfl, fun _ _ _ => ⟨rfl, rfl⟩, fun _ _ => rfl, fun k hk => (by cases hk), fun k x hx => by cases hx⟩
theorem FI.show {s : BS} {last got : Nat → List Eff} (h : FI s last got) {t : Int} {l : List Eff} (t0 : 0 ≤ t) (t8 : t < 8) (hl : ∀ x ∈ l, x.tick = t) (hw : wrong s.bnd t l = 0) : FI (s.show t l) (upd last t.toNat l) got := by
  have hb := (wrong_zero hw).2.2.1
  unfold BS.show
  rw [if_pos hw]
  refine ⟨h.b0, fun u hu hub => ?_, fun u hu hub => ?_, fun k hk => ?_, fun k hk => ?_, fun k x hx => ?_⟩
  · have hub' : (u : Int) < s.bnd := hub
    unfold upd
    rw [if_neg (by omega)]
    exact h.lo u hu hub'
  · have hub' : s.bnd ≤ (u : Int) := hub
    refine ⟨(h.hi u hu hub').1, ?_⟩
    show upd last t.toNat l u = curOf s.cur t l u
    unfold upd curOf
    by_cases hut : (u : Int) = t
    · rw [if_pos (by omega), if_pos hut]
    · rw [if_neg (by omega), if_neg hut]; exact (h.hi u hu hub').2
  · have hk' : k < s.bnd := hk
    show curOf s.cur t l k = []
    unfold curOf
    rw [if_neg (by omega)]; exact h.low k hk'
  · have hk' : k ∈ ksOf s.ks t l := hk
    rw [ksOf_mem] at hk'
    split at hk'
    · omega
    · exact h.rng k hk'
  · have hx' : x ∈ curOf s.cur t l k := hx
    unfold curOf at hx'
    split at hx'
    · rename_i e; rw [e]; exact hl x hx'
    · exact h.tick k x hx'
theorem filter_gath {cur : Int → List Eff} (ht : ∀ k, ∀ x ∈ cur k, x.tick = k) (u : Int) : ∀ {a : List Int}, a.Nodup → (gath cur a).filter (fun x => decide (x.tick = u)) = if u ∈ a then cur u else []
  | [], _ => by simp [gath]
  | k :: a, hn => by
    have hn' := List.nodup_cons.1 hn
    have ih := filter_gath ht u hn'.2
    have e : gath cur (k :: a) = cur k ++ gath cur a := by unfold gath; simp
    rw [e, List.filter_append, ih]
    by_cases h : u = k
    · subst h
      rw [if_neg hn'.1, if_pos (by simp), List.append_nil, List.filter_eq_self.2]
      intro x hx
      simpa using ht u x hx
    · have : (cur k).filter (fun x => decide (x.tick = u)) = [] := by
        rw [List.filter_eq_nil_iff]
        intro x hx
        have := ht k x hx
        simp; omega
      rw [this, List.nil_append]
      by_cases h2 : u ∈ a <;> simp [h, h2]
theorem FI.out {s : BS} {last got : Nat → List Eff} (h : FI s last got) (t : Int) : ∀ x ∈ s.out t, 0 ≤ x.tick ∧ x.tick < t ∧ x.tick < 8 := by
  intro x hx
  unfold BS.out confOut at hx
  split at hx
  · cases hx
  · unfold gath at hx
    obtain ⟨k, hk, hxk⟩ := List.mem_flatMap.1 hx
    have hk' := List.mem_filter.1 hk
    have h1 := h.rng k ((List.mergeSort_perm s.ks _).mem_iff.1 hk'.1)
    have h2 := h.tick k x hxk
    have h3 : k < t := by simpa using hk'.2
    omega
theorem sortI_nodup {ks : List Int} (hn : ks.Nodup) : (sortI ks).Nodup := (List.mergeSort_perm ks _).nodup_iff.2 hn
theorem FI.conf {s : BS} {last got : Nat → List Eff} (h : FI s last got) (hn : s.ks.Nodup) (hoff : ∀ k, k ∉ s.ks → s.cur k = []) {t : Int} (t0 : 0 ≤ t) (t8 : t ≤ 8) : FI (s.conf t) last (addTo got (s.out t)) := by
  have hb := h.b0
  have key : ∀ u : Nat, addTo got (s.out t) u = got u ++ if s.bnd < t ∧ (u : Int) < t then s.cur u else [] := by
    intro u
    unfold addTo BS.out confOut
    by_cases ht : t ≤ s.bnd
    · rw [if_pos ht, if_neg (by omega)]; simp
    · rw [if_neg ht, filter_gath h.tick (u : Int) ((sortI_nodup hn).filter _)]
      congr 1
      by_cases hu : (u : Int) < t
      · rw [if_pos (⟨by omega, hu⟩ : s.bnd < t ∧ (u : Int) < t)]
        by_cases hm : (u : Int) ∈ s.ks
        · rw [if_pos]
          rw [List.mem_filter]
          exact ⟨(List.mergeSort_perm s.ks _).mem_iff.2 hm, by simpa using hu⟩
        · rw [if_neg, hoff _ hm]
          intro hc
          exact hm ((List.mergeSort_perm s.ks _).mem_iff.1 (List.mem_filter.1 hc).1)
      · rw [if_neg (show ¬ (s.bnd < t ∧ (u : Int) < t) by omega), if_neg]
        intro hc
        have := (List.mem_filter.1 hc).2
        simp only [decide_eq_true_eq] at this
        omega
  refine ⟨?_, fun u hu hub => ?_, fun u hu hub => ?_, fun k hk => ?_, fun k hk => ?_, fun k x hx => ?_⟩
  · show 0 ≤ max s.bnd t ∧ max s.bnd t ≤ 8
    omega
  · have hub' : (u : Int) < max s.bnd t := hub
    rw [key u]
    by_cases h1 : (u : Int) < s.bnd
    · rw [h.lo u hu h1, h.low _ h1]; simp
    · rw [if_pos (by omega), (h.hi u hu (by omega)).1, (h.hi u hu (by omega)).2]; simp
  · have hub' : max s.bnd t ≤ (u : Int) := hub
    rw [key u, if_neg (by omega)]
    have h1 := h.hi u hu (by omega)
    refine ⟨by rw [h1.1]; rfl, ?_⟩
    show last u = confCur s.cur s.bnd t u
    unfold confCur
    split
    · exact h1.2
    · show last u = if (u : Int) < t then [] else s.cur u
      rw [if_neg (by omega)]; exact h1.2
  · have hk' : k < max s.bnd t := hk
    show confCur s.cur s.bnd t k = []
    unfold confCur
    split
    · exact h.low k (by omega)
    · show (if k < t then [] else s.cur k) = []
      split
      · rfl
      · exact h.low k (by omega)
  · have hk' : k ∈ confKs s.ks s.bnd t := hk
    unfold confKs at hk'
    split at hk'
    · exact h.rng k hk'
    · exact h.rng k (List.mem_filter.1 hk').1
  · have hx' : x ∈ confCur s.cur s.bnd t k := hx
    unfold confCur at hx'
    split at hx'
    · exact h.tick k x hx'
    · have hx2 : x ∈ (if k < t then [] else s.cur k) := hx'
      split at hx2
      · cases hx2
      · exact h.tick k x hx2
theorem FI.end_ {s : BS} {last got : Nat → List Eff} (h : FI s last got) (h8 : s.bnd = 8) : (∀ t, t < 8 → got t = last t) ∧ s.pend = [] := by
  refine ⟨fun t ht => h.lo t ht (by omega), ?_⟩
  unfold BS.pend pend gath
  rw [List.flatMap_eq_nil_iff]
  intro k hk
  have := h.rng k ((List.mergeSort_perm s.ks _).mem_iff.1 hk)
  exact h.low k (by omega)
theorem BS.show_no (s : BS) {t : Int} {l : List Eff} (h : wrong s.bnd t l ≠ 0) : s.show t l = s := by unfold BS.show; rw [if_neg h]
theorem wrong_late {bnd t : Int} {l : List Eff} (t0 : 0 ≤ t) (t1 : t < 6000) (h : t < bnd) : wrong bnd t l = 20 := by
  unfold wrong
  rw [if_neg (by omega), if_pos h]
end Go.Proofs.Ytllcankinjomaaa
