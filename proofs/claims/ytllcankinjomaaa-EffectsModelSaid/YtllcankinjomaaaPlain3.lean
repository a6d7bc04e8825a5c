/- Plain laws for EffectsModel: the reference's list of ticks and lists answers as the board's state does. -/
import Derived.Test.YtllcankinjomaaaL8
namespace Go.Proofs.Ytllcankinjomaaa
set_option linter.unusedSimpArgs false
set_option linter.unusedVariables false
open Go.RowKit Go.MapKept Go.Maps

theorem BS.show_same (s : BS) {t : Int} {l : List Eff} (h : wrong s.bnd t l ≠ 0) : s.show t l = s := by unfold BS.show; rw [if_neg h]
abbrev PS := List (Int × List Eff)
theorem gath_filter (cur : Int → List Eff) : ∀ a : List Int, gath cur (a.filter (fun k => decide (cur k ≠ []))) = gath cur a
  | [] => rfl
  | k :: a => by
    have ih := gath_filter cur a
    unfold gath at *
    by_cases h : cur k = []
    · rw [List.filter_cons, if_neg (by simp [h]), List.flatMap_cons, ih, h, List.nil_append]
    · rw [List.filter_cons, if_pos (by simp [h]), List.flatMap_cons, List.flatMap_cons, ih]
theorem sortI_of {a : List Int} (h : a.Pairwise (· ≤ ·)) : sortI a = a := by
  unfold sortI
  exact List.mergeSort_of_pairwise (h.imp (by intro a b h; simpa using h))
theorem sorted_eq {a b : List Int} (ha : a.Pairwise (· < ·)) (hb : b.Pairwise (· < ·)) (h : ∀ k, k ∈ a ↔ k ∈ b) : a = b := by
  have ha' : a.Pairwise (· ≤ ·) := ha.imp (fun h => Int.le_of_lt h)
  have hb' : b.Pairwise (· ≤ ·) := hb.imp (fun h => Int.le_of_lt h)
  have hp : a.Perm b := (List.perm_ext_iff_of_nodup (ha.imp (fun h e => by omega)) (hb.imp (fun h e => by omega))).2 h
  rw [← sortI_of ha', ← sortI_of hb']
  exact mergeSort_of_perm_i hp
theorem gath_ext {cur : Int → List Eff} {a b : List Int} (ha : a.Pairwise (· < ·)) (hb : b.Pairwise (· < ·)) (h : ∀ k, cur k ≠ [] → (k ∈ a ↔ k ∈ b)) : gath cur a = gath cur b := by
  rw [← gath_filter cur a, ← gath_filter cur b]
  congr 1
  refine sorted_eq (ha.filter _) (hb.filter _) fun k => ?_
  simp only [List.mem_filter, decide_eq_true_eq]
  constructor
  · rintro ⟨h1, h2⟩; exact ⟨(h k h2).1 h1, h2⟩
  · rintro ⟨h1, h2⟩; exact ⟨(h k h2).2 h1, h2⟩
theorem sortI_lt {ks : List Int} (hn : ks.Nodup) : (sortI ks).Pairwise (· < ·) := by
  have h1 := sortI_sorted ks
  have h2 : (sortI ks).Nodup := (List.mergeSort_perm ks _).nodup_iff.2 hn
  exact List.Pairwise.imp₂ (fun a b h1 h2 => by omega) h1 h2
theorem sortI_mem {ks : List Int} {k : Int} : k ∈ sortI ks ↔ k ∈ ks := (List.mergeSort_perm ks _).mem_iff

def look : PS → Int → List Eff
  | [], _ => []
  | p :: ps, k => if p.1 = k then p.2 else look ps k
theorem ofGo_look : ∀ (ps : PS) (k : Int), ofGo (ps.map (·.1)) (ps.map (·.2)) k = look ps k
  | [], _ => rfl
  | p :: ps, k => by simp [ofGo, look, ofGo_look ps k]
theorem look_mem : ∀ {ps : PS} {k : Int}, look ps k ≠ [] → k ∈ ps.map (·.1)
  | [], k, h => absurd rfl h
  | p :: ps, k, h => by
    unfold look at h
    split at h
    · rename_i e; simp [e]
    · simp; exact Or.inr (by simpa using look_mem h)
theorem look_off {ps : PS} {k : Int} (h : k ∉ ps.map (·.1)) : look ps k = [] := by
  by_cases e : look ps k = []
  · exact e
  · exact absurd (look_mem e) h
theorem look_in : ∀ {ps : PS} {p : Int × List Eff}, (ps.map (·.1)).Nodup → p ∈ ps → look ps p.1 = p.2
  | q :: ps, p, hn, h => by
    simp only [List.map_cons, List.nodup_cons] at hn
    unfold look
    rcases List.mem_cons.1 h with rfl | h
    · simp
    · rw [if_neg]
      · exact look_in hn.2 h
      · intro e; exact hn.1 (by rw [e]; exact List.mem_map_of_mem h)
theorem betw_gath (lo hi : Int) : ∀ (ps : PS), (ps.map (·.1)).Nodup → betw lo hi (ps.map (·.1)) (ps.map (·.2)) = gath (look ps) ((ps.map (·.1)).filter (fun t => decide (lo ≤ t ∧ t < hi)))
  | [], _ => rfl
  | p :: ps, hn => by
    have hn' := hn
    simp only [List.map_cons, List.nodup_cons] at hn
    have ih := betw_gath lo hi ps hn.2
    have he : ∀ k ∈ (ps.map (·.1)).filter (fun t => decide (lo ≤ t ∧ t < hi)), look (p :: ps) k = look ps k := by
      intro k hk
      have : k ∈ ps.map (·.1) := (List.mem_filter.1 hk).1
      show (if p.1 = k then p.2 else look ps k) = look ps k
      rw [if_neg]; intro e; exact hn.1 (e ▸ this)
    have hg : gath (look (p :: ps)) ((ps.map (·.1)).filter (fun t => decide (lo ≤ t ∧ t < hi))) = gath (look ps) ((ps.map (·.1)).filter (fun t => decide (lo ≤ t ∧ t < hi))) := by
      unfold gath
      rw [List.flatMap_def, List.flatMap_def, List.map_congr_left he]
    simp only [List.map_cons, betw, ih]
    rw [List.filter_cons]
    by_cases h : lo ≤ p.1 ∧ p.1 < hi
    · rw [if_pos h, if_pos (by simpa using h)]
      unfold gath at *
      rw [List.flatMap_cons, hg]
      simp [look]
    · rw [if_neg h, if_neg (by simpa using h), hg]; rfl

/-- a list put in its place -/
def insP (t : Int) (l : List Eff) : PS → PS
  | [] => [(t, l)]
  | p :: ps => if t ≤ p.1 then (t, l) :: (p :: ps).filter (fun q => decide (q.1 ≠ t)) else p :: insP t l ps
theorem showSt_true (t : Int) (l : List Eff) : ∀ (ps acc : PS), ps.foldl (fun s p => stepB t (stepA t l s p) p) (true, acc) = (true, acc ++ ps.filter (fun q => decide (q.1 ≠ t)))
  | [], acc => by simp
  | p :: ps, acc => by
    rw [List.foldl_cons]
    have : stepB t (stepA t l (true, acc) p) p = (true, acc ++ (if p.1 = t then [] else [p])) := by simp [stepA, stepB]
    rw [this, showSt_true t l ps]
    by_cases h : p.1 = t <;> simp [List.filter_cons, h]
theorem showSt_go (t : Int) (l : List Eff) : ∀ (ps acc : PS), (if (ps.foldl (fun s p => stepB t (stepA t l s p) p) (false, acc)).1 = true then (ps.foldl (fun s p => stepB t (stepA t l s p) p) (false, acc)).2
    else (ps.foldl (fun s p => stepB t (stepA t l s p) p) (false, acc)).2 ++ [(t, l)]) = acc ++ insP t l ps
  | [], acc => by simp [insP]
  | p :: ps, acc => by
    rw [List.foldl_cons]
    by_cases h : t ≤ p.1
    · have : stepB t (stepA t l (false, acc) p) p = (true, acc ++ [(t, l)] ++ (if p.1 = t then [] else [p])) := by simp [stepA, stepB, h]
      rw [this, showSt_true]
      simp only [if_true, insP, if_pos h]
      by_cases h2 : p.1 = t <;> simp [List.filter_cons, h2]
    · have : stepB t (stepA t l (false, acc) p) p = (false, acc ++ [p]) := by
        have h2 : p.1 ≠ t := by omega
        simp [stepA, stepB, h, h2]
      rw [this, showSt_go t l ps]
      simp [insP, h]
theorem rshow_ins (t : Int) (l : List Eff) (ps : PS) : rshow t l ps = insP t l ps := by
  have := showSt_go t l ps []
  rw [List.nil_append] at this
  unfold rshow showSt
  exact this
theorem insP_mem {t : Int} {l : List Eff} : ∀ {ps : PS} {q : Int × List Eff}, q ∈ insP t l ps → q = (t, l) ∨ q ∈ ps
  | [], q, h => by simp [insP] at h; exact .inl h
  | p :: ps, q, h => by
    unfold insP at h
    split at h
    · rcases List.mem_cons.1 h with h | h
      · exact .inl h
      · exact .inr (List.mem_filter.1 h).1
    · rcases List.mem_cons.1 h with h | h
      · exact .inr (by simp [h])
      · rcases insP_mem h with h | h
        · exact .inl h
        · exact .inr (by simp [h])
theorem insP_sorted {t : Int} {l : List Eff} : ∀ {ps : PS}, ps.Pairwise (fun a b => a.1 < b.1) → (insP t l ps).Pairwise (fun a b => a.1 < b.1)
  | [], _ => by simp [insP]
  | p :: ps, h => by
    have h' := List.pairwise_cons.1 h
    unfold insP
    split
    · rename_i ht
      refine List.pairwise_cons.2 ⟨fun q hq => ?_, h.filter _⟩
      have hq' := List.mem_filter.1 hq
      have hne : q.1 ≠ t := by simpa using hq'.2
      rcases List.mem_cons.1 hq'.1 with rfl | hq2
      · show t < q.1; omega
      · have := h'.1 q hq2; show t < q.1; omega
    · rename_i ht
      refine List.pairwise_cons.2 ⟨fun q hq => ?_, insP_sorted h'.2⟩
      rcases insP_mem hq with rfl | hq
      · show p.1 < t; omega
      · exact h'.1 q hq
theorem look_filter (t : Int) : ∀ (ps : PS) (k : Int), k ≠ t → look (ps.filter (fun q => decide (q.1 ≠ t))) k = look ps k
  | [], _, _ => rfl
  | p :: ps, k, hk => by
    rw [List.filter_cons]
    by_cases h : p.1 = t
    · rw [if_neg (by simpa using h), look_filter t ps k hk]
      show _ = (if p.1 = k then p.2 else look ps k)
      rw [if_neg (by omega)]
    · rw [if_pos (by simpa using h)]
      show (if p.1 = k then p.2 else look _ k) = (if p.1 = k then p.2 else look ps k)
      rw [look_filter t ps k hk]
theorem look_ins (t : Int) (l : List Eff) : ∀ (ps : PS) (k : Int), ps.Pairwise (fun a b => a.1 < b.1) → look (insP t l ps) k = if k = t then l else look ps k
  | [], k, _ => by
    by_cases h : k = t
    · simp [insP, look, h]
    · have : ¬ t = k := fun e => h e.symm
      simp [insP, look, h, this]
  | p :: ps, k, hs => by
    have h' := List.pairwise_cons.1 hs
    unfold insP
    split
    · show (if t = k then l else look _ k) = _
      by_cases h : k = t
      · rw [if_pos h.symm, if_pos h]
      · rw [if_neg (fun e => h e.symm), if_neg h]
        exact look_filter t (p :: ps) k h
    · rename_i ht
      show (if p.1 = k then p.2 else look (insP t l ps) k) = if k = t then l else (if p.1 = k then p.2 else look ps k)
      rw [look_ins t l ps k h'.2]
      by_cases h : k = t
      · rw [if_neg (by omega), if_pos h, if_pos h]
      · rw [if_neg h, if_neg h]
theorem insP_len (t : Int) (l : List Eff) : ∀ (ps : PS), (insP t l ps).length ≤ ps.length + 1
  | [] => by simp [insP]
  | p :: ps => by
    unfold insP
    split
    · have := List.length_filter_le (fun q : Int × List Eff => decide (q.1 ≠ t)) (p :: ps)
      simp at *; omega
    · have := insP_len t l ps
      simp; omega

/-- the reference's board answers as the program's -/
structure MInv (ps : PS) (s : BS) : Prop where
  sorted : ps.Pairwise (fun a b => a.1 < b.1)
  eq : ∀ t, s.bnd ≤ t → look ps t = s.cur t
  low : ∀ t, t < s.bnd → s.cur t = []
theorem MInv.keys {ps : PS} {s : BS} (h : MInv ps s) : (ps.map (·.1)).Pairwise (· < ·) := List.pairwise_map.2 h.sorted
theorem MInv.nodup {ps : PS} {s : BS} (h : MInv ps s) : (ps.map (·.1)).Nodup := h.keys.imp (fun h e => by omega)
theorem MInv.init : MInv [] BS.init := ⟨List.Pairwise.nil, fun _ _ => rfl, fun _ _ => rfl⟩
theorem MInv.of {ps : PS} {s : BS} (h : MInv ps s) {t : Int} (ht : s.bnd ≤ t) : ofGo (ps.map (·.1)) (ps.map (·.2)) t = s.cur t := (ofGo_look ps t).trans (h.eq t ht)
theorem MInv.show {ps : PS} {s : BS} (h : MInv ps s) {t : Int} {l : List Eff} (hw : wrong s.bnd t l = 0) : MInv (rshow t l ps) (s.show t l) := by
  have hb := (wrong_zero hw).2.2.1
  rw [rshow_ins]
  unfold BS.show
  rw [if_pos hw]
  refine ⟨insP_sorted h.sorted, fun k hk => ?_, fun k hk => ?_⟩
  · rw [look_ins t l ps k h.sorted]
    show _ = curOf s.cur t l k
    unfold curOf
    split
    · rfl
    · exact h.eq k hk
  · show curOf s.cur t l k = []
    unfold curOf
    have hk' : k < s.bnd := hk
    rw [if_neg (by omega)]
    exact h.low k hk'
theorem MInv.conf {ps : PS} {s : BS} (h : MInv ps s) (t : Int) : MInv ps (s.conf t) := by
  refine ⟨h.sorted, fun k hk => ?_, fun k hk => ?_⟩
  · have hk' : max s.bnd t ≤ k := hk
    show _ = confCur s.cur s.bnd t k
    unfold confCur
    split
    · exact h.eq k (by omega)
    · show look ps k = if k < t then [] else s.cur k
      rw [if_neg (by omega)]; exact h.eq k (by omega)
  · have hk' : k < max s.bnd t := hk
    show confCur s.cur s.bnd t k = []
    unfold confCur
    split
    · exact h.low k (by omega)
    · show (if k < t then [] else s.cur k) = []
      rw [if_pos (by omega)]
theorem MInv.betw {ps : PS} {s : BS} (h : MInv ps s) (hn : s.ks.Nodup) (hoff : ∀ k, k ∉ s.ks → s.cur k = []) (hi : Int) :
    betw s.bnd hi (ps.map (·.1)) (ps.map (·.2)) = gath s.cur ((sortI s.ks).filter (fun x => decide (x < hi))) := by
  rw [betw_gath _ _ _ h.nodup]
  have e : gath (look ps) ((ps.map (·.1)).filter (fun t => decide (s.bnd ≤ t ∧ t < hi))) = gath s.cur ((ps.map (·.1)).filter (fun t => decide (s.bnd ≤ t ∧ t < hi))) := by
    unfold gath
    rw [List.flatMap_def, List.flatMap_def]
    congr 1
    refine List.map_congr_left fun k hk => ?_
    have := (List.mem_filter.1 hk).2
    simp only [decide_eq_true_eq] at this
    exact h.eq k this.1
  rw [e]
  refine gath_ext (h.keys.filter _) ((sortI_lt hn).filter _) fun k hk => ?_
  have hb : s.bnd ≤ k := by
    by_cases h1 : k < s.bnd
    · exact absurd (h.low k h1) hk
    · omega
  have h1 : k ∈ ps.map (·.1) := look_mem (by rw [h.eq k hb]; exact hk)
  have h2 : k ∈ s.ks := by
    by_cases hm : k ∈ s.ks
    · exact hm
    · exact absurd (hoff k hm) hk
  simp only [List.mem_filter, decide_eq_true_eq, sortI_mem, h1, h2, hb, true_and]
theorem MInv.out {ps : PS} {s : BS} (h : MInv ps s) (hn : s.ks.Nodup) (hoff : ∀ k, k ∉ s.ks → s.cur k = []) (t : Int) (ht : s.bnd < t) :
    Ytllcankinjomaaa.betw s.bnd t (ps.map (·.1)) (ps.map (·.2)) = s.out t := by
  rw [h.betw hn hoff t]
  unfold BS.out confOut
  rw [if_neg (by omega)]
theorem MInv.pend {ps : PS} {s : BS} (h : MInv ps s) (hn : s.ks.Nodup) (hoff : ∀ k, k ∉ s.ks → s.cur k = []) (hr : ∀ k ∈ s.ks, k < 6000) :
    Ytllcankinjomaaa.betw s.bnd 6000 (ps.map (·.1)) (ps.map (·.2)) = s.pend := by
  rw [h.betw hn hoff 6000, List.filter_eq_self.2]
  · rfl
  · intro k hk
    have := hr k (sortI_mem.1 hk)
    simpa using this
end Go.Proofs.Ytllcankinjomaaa
