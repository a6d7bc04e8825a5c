/- Plain laws for EffectsExactlyOnce: what was shown is what was withdrawn, confirmed and is pending. -/
import Derived.Test.YtllcankinjomaaaP8
import Derived.Test.YtllcankinjomaaaL6
namespace Go.Proofs.Ytllcankinjomaaa
set_option linter.unusedSimpArgs false
set_option linter.unusedVariables false
open Go.RowKit Go.MapKept Go.Maps

theorem gath_perm (cur : Int → List Eff) {a b : List Int} (h : a.Perm b) : (gath cur a).Perm (gath cur b) := by
  unfold gath
  exact h.flatMap_right cur
theorem gath_split {cur : Int → List Eff} {ks : List Int} {t : Int} (hn : ks.Nodup) (hoff : t ∉ ks → cur t = []) : (gath cur ks).Perm (cur t ++ gath cur (ks.filter (fun k => decide (k ≠ t)))) := by
  by_cases ht : t ∈ ks
  · have h1 : ks.Perm (t :: ks.erase t) := List.perm_cons_erase ht
    have h2 : ks.erase t = ks.filter (fun k => decide (k ≠ t)) := by
      rw [hn.erase_eq_filter]
      refine List.filter_congr fun x _ => ?_
      by_cases h : x = t <;> simp [h]
    rw [h2] at h1
    exact gath_perm cur h1
  · rw [hoff ht, List.filter_eq_self.2]
    · exact List.Perm.refl _
    · intro a ha
      have : a ≠ t := fun e => ht (e ▸ ha)
      simpa using this
theorem gath_congr {cur cur' : Int → List Eff} {ks : List Int} (h : ∀ k ∈ ks, cur k = cur' k) : gath cur ks = gath cur' ks := by
  unfold gath
  rw [List.flatMap_def, List.flatMap_def, List.map_congr_left h]
theorem pend_perm (ks : List Int) (cur : Int → List Eff) : (pend ks cur).Perm (gath cur ks) := gath_perm cur (List.mergeSort_perm ks _)
/-- pending, once a list has been put in the place of another -/
theorem pend_show {ks : List Int} {cur : Int → List Eff} {t : Int} {l : List Eff} (hn : ks.Nodup) (hn' : (ksOf ks t l).Nodup) (hoff : ∀ k, k ∉ ks → cur k = []) :
    (pend (ksOf ks t l) (curOf cur t l) ++ cur t).Perm (pend ks cur ++ l) := by
  have h1 := (pend_perm ks cur).trans (gath_split hn (hoff t))
  have hoff' : t ∉ ksOf ks t l → curOf cur t l t = [] := by
    intro h
    rw [ksOf_mem, if_pos rfl] at h
    have : l = [] := Classical.byContradiction h
    unfold curOf
    rw [if_pos rfl, this]
  have h2 := (pend_perm (ksOf ks t l) (curOf cur t l)).trans (gath_split hn' hoff')
  have e1 : curOf cur t l t = l := if_pos rfl
  have e2 : ((ksOf ks t l).filter (fun k => decide (k ≠ t))).Perm (ks.filter (fun k => decide (k ≠ t))) := by
    refine (List.perm_ext_iff_of_nodup (hn'.filter _) (hn.filter _)).2 fun k => ?_
    simp only [List.mem_filter, ksOf_mem, decide_eq_true_eq]
    constructor
    · rintro ⟨h1, h2⟩; rw [if_neg h2] at h1; exact ⟨h1, h2⟩
    · rintro ⟨h1, h2⟩; rw [if_neg h2]; exact ⟨h1, h2⟩
  have e3 : (gath (curOf cur t l) ((ksOf ks t l).filter (fun k => decide (k ≠ t)))).Perm (gath cur (ks.filter (fun k => decide (k ≠ t)))) := by
    refine (gath_perm _ e2).trans ?_
    rw [gath_congr (cur' := cur)]
    intro k hk
    have := (List.mem_filter.1 hk).2
    simp only [decide_eq_true_eq] at this
    exact if_neg this
  rw [e1] at h2
  rw [List.perm_iff_count] at h1 h2 e3 ⊢
  intro a
  have := h1 a
  have := h2 a
  have := e3 a
  simp only [List.count_append] at *
  omega
theorem pend_conf {ks : List Int} {cur : Int → List Eff} {bnd t : Int} : (pend ks cur).Perm (confOut ks cur bnd t ++ pend (confKs ks bnd t) (confCur cur bnd t)) := by
  unfold confOut confKs confCur
  by_cases h : t ≤ bnd
  · simp only [if_pos h]; exact List.Perm.refl _
  · simp only [if_neg h]
    refine (pend_perm ks cur).trans ?_
    have h1 : (gath cur ((sortI ks).filter (fun x => decide (x < t)))).Perm (gath cur (ks.filter (fun x => decide (x < t)))) := gath_perm _ ((List.mergeSort_perm ks _).filter _)
    have h2 := pend_perm (ks.filter (fun x => decide (¬ x < t))) (fun k => if k < t then [] else cur k)
    have e : gath (fun k => if k < t then [] else cur k) (ks.filter (fun x => decide (¬ x < t))) = gath cur (ks.filter (fun x => decide (¬ x < t))) := by
      refine gath_congr fun k hk => ?_
      have := (List.mem_filter.1 hk).2
      simp only [decide_eq_true_eq] at this
      exact if_neg this
    rw [e] at h2
    have h3 : ks.Perm (ks.filter (fun x => decide (x < t)) ++ ks.filter (fun x => decide (¬ x < t))) := by
      have := (List.filter_append_perm (fun x => decide (x < t)) ks).symm
      refine this.trans ?_
      rw [show (fun x : Int => !decide (x < t)) = (fun x => decide (¬ x < t)) from by funext x; by_cases h : x < t <;> simp [h]]
    have h4 := gath_perm cur h3
    have h5 : gath cur (ks.filter (fun x => decide (x < t)) ++ ks.filter (fun x => decide (¬ x < t))) = gath cur (ks.filter (fun x => decide (x < t))) ++ gath cur (ks.filter (fun x => decide (¬ x < t))) := by
      unfold gath; simp
    rw [h5] at h4
    exact h4.trans (h1.symm.append h2.symm)

theorem out_small {w : World} {p r : Nat} {s : BS} (hb : BdS w p r s) (t : Int) : (s.out t).length ≤ 240000 := by
  unfold BS.out confOut
  split
  · simp
  · have h1 := flat_small (Bd.small hb) ((sortI s.ks).filter (fun x => decide (x < t)))
    have h2 := List.length_filter_le (fun x => decide (x < t)) (sortI s.ks)
    rw [sortI_len] at h2
    have := Bd.few hb
    omega
/-- what was shown is what is settled and pending -/
def XInv (s : BS) (sh se : List Eff) : Prop := sh.Perm (se ++ s.pend)
theorem XInv.init : XInv BS.init [] [] := by
  unfold XInv BS.init BS.pend pend sortI gath
  simp
theorem XInv.show {s : BS} {sh se : List Eff} {t : Int} {l : List Eff} (h : XInv s sh se) (hn : s.ks.Nodup) (hn' : (s.show t l).ks.Nodup) (hoff : ∀ k, k ∉ s.ks → s.cur k = []) :
    XInv (s.show t l) (sh ++ s.s1 t l) (se ++ s.s2 t l) := by
  unfold XInv at *
  by_cases hw : wrong s.bnd t l = 0
  · unfold BS.s1 BS.s2
    rw [if_pos hw, if_pos hw]
    have e : (s.show t l).ks = ksOf s.ks t l := by unfold BS.show; rw [if_pos hw]
    have e2 : (s.show t l).pend = pend (ksOf s.ks t l) (curOf s.cur t l) := by unfold BS.show; rw [if_pos hw]; rfl
    rw [e] at hn'
    have h2 := pend_show (t := t) (l := l) hn hn' hoff
    rw [e2]
    rw [List.perm_iff_count] at *
    intro a
    have h3 := h a
    have h4 := h2 a
    simp only [List.count_append, diff_count, BS.pend] at *
    omega
  · unfold BS.s1 BS.s2 BS.show
    rw [if_neg hw, if_neg hw, if_neg hw, List.append_nil, List.append_nil]
    exact h
theorem XInv.conf {s : BS} {sh se : List Eff} {t : Int} (h : XInv s sh se) : XInv (s.conf t) sh (se ++ s.out t) := by
  unfold XInv at *
  have h2 := pend_conf (ks := s.ks) (cur := s.cur) (bnd := s.bnd) (t := t)
  refine h.trans ?_
  rw [List.append_assoc]
  exact List.Perm.append_left se h2
theorem XInv.len {s : BS} {sh se : List Eff} (h : XInv s sh se) : sh.length = se.length + s.pend.length := by
  have := List.Perm.length_eq h
  simpa using this
theorem XInv.same {s : BS} {sh se : List Eff} (h : XInv s sh se) : sameSet sh (se ++ s.pend) = true := sameSet_perm h
end Go.Proofs.Ytllcankinjomaaa
