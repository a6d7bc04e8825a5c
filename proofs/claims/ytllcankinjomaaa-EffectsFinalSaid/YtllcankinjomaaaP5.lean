import Derived.Test.YtllcankinjomaaaP4
namespace Go.Proofs.Ytllcankinjomaaa
set_option linter.unusedSimpArgs false
set_option linter.unusedVariables false
open Go.RowKit Go.MapKept Go.Maps

abbrev nil3 (e : Int) : Value := .tuple #[.slice none 0 0, .slice none 0 0, .int .i64 e]

set_option maxHeartbeats 400000 in
theorem show_no (w : World) (p r : Nat) (ks : List Int) (cur : Int → List Eff) (bnd t : Int) (A : Option Addr) (m cap : Nat) (l : List Eff) (h : Bd w p r ks cur bnd) (hm : m ≤ 1000000) (hx : SlE w A m l) (hw : wrong bnd t l ≠ 0) :
    Calls Try.prog 17 #[.pointer (some ⟨p, 0, none⟩), .int .i64 t, .slice A m cap] w fun e w' => e = .returned (nil3 (wrong bnd t l)) ∧ Below w.heap.size w w' := by
  have HL := Lib.hid hx.len
  have c1 : w.cell? ⟨p, 1, none⟩ = some (.int .i64 bnd) := cell_blk h.blk 1
  by_cases h1 : t < 0
  · have HF : Hid (wrong bnd t l = 18) := by show _ = _; unfold wrong; rw [if_pos (Or.inl h1)]
    go_enter Try.func17, Try.ntmps17
    go_wp2
    go_ret3
    exact ⟨by rw [HF.out]; rfl, Below.refl _ _⟩
  by_cases h2 : 5999 < t
  · have HF : Hid (wrong bnd t l = 18) := by show _ = _; unfold wrong; rw [if_pos (Or.inr h2)]
    have h6 : 6000 ≤ t := by omega
    go_enter Try.func17, Try.ntmps17
    go_wp2
    go_ret3
    exact ⟨by rw [HF.out]; rfl, Below.refl _ _⟩
  have h6 : t < 6000 := by omega
  by_cases h3 : t < bnd
  · have HF : Hid (wrong bnd t l = 20) := by show _ = _; unfold wrong; rw [if_neg (by omega), if_pos h3]
    go_enter Try.func17, Try.ntmps17
    go_wp2
    go_ret3
    exact ⟨by rw [HF.out]; rfl, Below.refl _ _⟩
  by_cases h4 : 40 < m
  · have HF : Hid (wrong bnd t l = 2) := by show _ = _; unfold wrong; rw [if_neg (by omega), if_neg h3, if_pos (by have := HL.out; omega)]
    go_enter Try.func17, Try.ntmps17
    go_wp2
    go_ret3
    exact ⟨by rw [HF.out]; rfl, Below.refl _ _⟩
  have HF : Hid (wrong bnd t l = if l.all (fun x => decide (x.tick = t)) then 0 else 1) := by show _ = _; unfold wrong; rw [if_neg (by omega), if_neg h3, if_neg (by have := HL.out; omega)]
  have HW := Lib.hid hw
  clear hw
  go_enter Try.func17, Try.ntmps17
  go_wp2
  go_loopw [29] (fun i wr => ∃ k : Nat, k ≤ m ∧ i = .int .i64 k ∧ Below w.heap.size w wr ∧ Hid ((l.take k).all (fun x => decide (x.tick = t)) = true)) (fun i _ => m - (intOf i).toNat)
  case atStart => exact ⟨0, Nat.zero_le _, rfl, Below.refl _ _, by simp [Hid]⟩
  case round =>
    obtain ⟨k, hk, rfl, hbel, HA⟩ := hrel
    by_cases hlt : k < m
    · have hxr := hx.below hbel
      have hsz := hbel.size
      clear hx
      obtain ⟨b, off, x, rfl, hb, hxk, c0, -, -, -⟩ := hxr.eff hlt
      obtain ⟨b', off', x', hA', hb', hxk', d0, d1, d2, d3⟩ := hxr.eff hlt
      cases hA'
      rw [hxk] at hxk'; cases hxk'
      have HT := Lib.hid (take_succ_some hxk)
      have HK := Lib.hid hxk
      clear hxk
      by_cases hxy : x.tick = t
      · have HX := Lib.hid hxy
        have hne : (x.tick != t) = false := by simpa using hxy
        clear hxy
        go_wp2
        go_roundw
        case rel => exact ⟨k + 1, by omega, by go_num, hbel.alloc (by omega) _, by show _ = _; rw [HT.out, List.all_append, HA.out]; simp [HX.out]⟩
        case measure => simp [intOf]; omega
      · have hne : (x.tick != t) = true := by simpa using hxy
        go_wp2
        go_ret3
        refine ⟨?_, hbel.alloc (by omega) _⟩
        rw [HF.out, if_neg]
        · rfl
        intro h
        rw [List.all_eq_true] at h
        exact hxy (by simpa using h x (List.mem_of_getElem? HK.out))
    · exfalso
      have h := HA.out
      rw [List.take_of_length_le (by have := HL.out; omega)] at h
      exact HW.out (by rw [HF.out, h]; rfl)

theorem wrong_zero {bnd t : Int} {l : List Eff} (h : wrong bnd t l = 0) : 0 ≤ t ∧ t < 6000 ∧ bnd ≤ t ∧ l.length ≤ 40 ∧ ∀ x ∈ l, x.tick = t := by
  unfold wrong at h
  split at h
  · cases h
  split at h
  · cases h
  split at h
  · cases h
  split at h
  · rename_i h1 h2 h3 h4
    exact ⟨by omega, by omega, by omega, by omega, by simpa using h4⟩
  · cases h

def ksOf (ks : List Int) (t : Int) (l : List Eff) : List Int := if l = [] then ks.filter (· ≠ t) else kput ks t
def curOf (cur : Int → List Eff) (t : Int) (l : List Eff) : Int → List Eff := fun k => if k = t then l else cur k

theorem kput_mem {ks : List Int} {t k : Int} : k ∈ kput ks t ↔ k ∈ ks ∨ k = t := by
  unfold kput
  split
  · exact ⟨Or.inl, fun h => h.elim id (fun h => by subst h; assumption)⟩
  · simp

/-- a board after a Show -/
structure Shown (w wm : World) (p r : Nat) (ks : List Int) (cur : Int → List Eff) (bnd t : Int) (l : List Eff) : Prop where
  bd : Bd wm p r (ksOf ks t l) (curOf cur t l) bnd
  kept : Kept p r w wm
  row : l ≠ [] → ∃ f v, MapF (Value.int .i64) wm r (ksOf ks t l) f ∧ f t = some v ∧ wm.ownsRow w.heap.size 51 4 v l.length (l.flatMap Eff.cells)
  keepf : KeepF w wm r ks (ksOf ks t l) (· ≠ t)

theorem Bd.put {wr w2 : World} {p r : Nat} {ks : List Int} {cur : Int → List Eff} {bnd t : Int} {l : List Eff} {base : Nat} {v : Value} (h : Bd wr p r ks cur bnd) (hb2 : Below wr.heap.size wr w2)
    (hv : w2.ownsRow base 51 4 v l.length (l.flatMap Eff.cells)) (hl : l ≠ []) (t0 : 0 ≤ t) (t1 : t < 6000) (h40 : l.length ≤ 40) :
    ∃ w3, (Instr.mapUpdate 58 (.map (some r)) (.int .i64 t) v).run Try.prog w2 = .ok () w3 ∧ Bd w3 p r (ksOf ks t l) (curOf cur t l) bnd ∧ Kept p r wr w3 ∧
      (∃ f, MapF (Value.int .i64) w3 r (ksOf ks t l) f ∧ f t = some v ∧ w3.ownsRow base 51 4 v l.length (l.flatMap Eff.cells)) ∧ KeepF wr w3 r ks (ksOf ks t l) (· ≠ t) := by
  have hb := h.below hb2
  obtain ⟨f, hf, hlk⟩ := hb.map
  obtain ⟨w3, h3, hm3, hg3⟩ := hf.update (int_key Try.underlying3) (t := 58) Try.underlying58 t v
  have hkt : KT (fun t => t = 51) w2 w3 := (KT.refl _ _).grown hg3 fun g e cs ty fz h' _ => by
    cases e
    obtain ⟨es, cl, hb2, _⟩ := hf
    rw [hb2] at h'; cases h'
  have hv3 := own_kt hv hkt rfl
  have hks : ksOf ks t l = kput ks t := by unfold ksOf; rw [if_neg hl]
  obtain ⟨A, c, rfl, hsl, hc⟩ := Sl.of_own Eff.cells_len hv3 rfl
  refine ⟨w3, h3, ⟨?_, ⟨_, by rw [hks]; exact hm3, ?_⟩, ?_, ?_, ?_⟩, (Kept.of_below hb2).trans (Kept.of_grown hg3), ⟨_, by rw [hks]; exact hm3, by simp [fput], hv3⟩, fun f0 hf0 => ?_⟩
  · rw [hg3.block p hb.plt (by simpa using hb.ne)]; exact hb.blk
  · intro k hk
    unfold fput curOf
    by_cases hkt' : k = t
    · subst hkt'; exact ⟨A, _, c, by simp, hc, by simpa using hsl⟩
    · rw [hks, kput_mem] at hk
      obtain ⟨A', m', c', h1, h2, h4⟩ := hlk k (hk.resolve_right hkt')
      exact ⟨A', m', c', by simp [hkt', h1], h2, by simpa [hkt'] using h4.kt hkt rfl⟩
  · intro k hk
    rw [hks, kput_mem] at hk
    unfold curOf
    rw [if_neg (fun e => hk (Or.inr e))]
    exact h.off k (fun e => hk (Or.inl e))
  · intro k hk
    rw [hks, kput_mem] at hk
    rcases hk with hk | rfl
    · exact h.rng k hk
    · exact ⟨t0, t1⟩
  · intro k
    unfold curOf
    split
    · exact h40
    · exact h.small k
  · obtain ⟨w3', h3', hm3', -⟩ := (hf0.kept (hb2.block r h.rlt)).update (int_key Try.underlying3) (t := 58) Try.underlying58 t (Value.slice A l.length c)
    rw [h3] at h3'
    cases h3'
    exact ⟨_, by rw [hks]; exact hm3', fun k _ hk => by unfold fput; rw [if_neg hk]⟩

theorem Bd.del {wr : World} {p r : Nat} {ks : List Int} {cur : Int → List Eff} {bnd t : Int} (h : Bd wr p r ks cur bnd) :
    ∃ w3, (Builtin.delete_ #[58, 3] 0 #[.map (some r), .int .i64 t]).run Try.prog wr = .ok (.tuple #[]) w3 ∧ Bd w3 p r (ksOf ks t []) (curOf cur t []) bnd ∧ Kept p r wr w3 ∧ KeepF wr w3 r ks (ksOf ks t []) (· ≠ t) := by
  obtain ⟨f, hf, hlk⟩ := h.map
  obtain ⟨w3, h3, hm3, hg3⟩ := hf.delete (int_key Try.underlying3) (t2 := 3) (ty := 0) Try.underlying58 t
  have hkt : KT (fun t => t = 51) wr w3 := (KT.refl _ _).grown hg3 fun g e cs ty fz h' _ => by
    cases e
    obtain ⟨es, cl, hb2, _⟩ := hf
    rw [hb2] at h'; cases h'
  refine ⟨w3, h3, ⟨?_, ⟨fdel f t, hm3, ?_⟩, ?_, ?_, ?_⟩, Kept.of_grown hg3, fun f0 hf0 => ?_⟩
  · rw [hg3.block p h.plt (by simpa using h.ne)]; exact h.blk
  · intro k hk
    have hk' := List.mem_filter.1 hk
    have hne : k ≠ t := by simpa using hk'.2
    obtain ⟨A', m', c', h1, h2, h4⟩ := hlk k hk'.1
    exact ⟨A', m', c', by simp [fdel, hne, h1], h2, by simpa [curOf, hne] using h4.kt hkt rfl⟩
  · intro k hk
    unfold curOf
    by_cases hne : k = t
    · rw [if_pos hne]
    · rw [if_neg hne]
      exact h.off k (fun e => hk (List.mem_filter.2 ⟨e, by simpa using hne⟩))
  · exact fun k hk => h.rng k (List.mem_filter.1 hk).1
  · intro k
    unfold curOf
    split
    · simp
    · exact h.small k
  · obtain ⟨w3', h3', hm3', -⟩ := hf0.delete (int_key Try.underlying3) (t2 := 3) (ty := 0) Try.underlying58 t
    rw [h3] at h3'
    cases h3'
    exact ⟨fdel f0 t, hm3', fun k _ hk => by unfold fdel; rw [if_neg hk]⟩

set_option maxHeartbeats 1000000 in
set_option maxRecDepth 100000 in
theorem show_yes (w : World) (p r : Nat) (ks : List Int) (cur : Int → List Eff) (bnd t : Int) (A : Option Addr) (m cap : Nat) (l : List Eff) (h : Bd w p r ks cur bnd) (hx : SlE w A m l) (hw : wrong bnd t l = 0) :
    Calls Try.prog 17 #[.pointer (some ⟨p, 0, none⟩), .int .i64 t, .slice A m cap] w fun e w' => ∃ v1 v2 wm, e = .returned (.tuple #[v1, v2, .int .i64 0]) ∧ Shown w wm p r ks cur bnd t l ∧ Below wm.heap.size wm w' ∧
      w'.ownsRow wm.heap.size 51 4 v1 (diff l (cur t)).length ((diff l (cur t)).flatMap Eff.cells) ∧ w'.ownsRow wm.heap.size 51 4 v2 (diff (cur t) l).length ((diff (cur t) l).flatMap Eff.cells) := by
  obtain ⟨t0, t1, t2, hl40, hall⟩ := wrong_zero hw
  have HL := Lib.hid hx.len
  have hm : m ≤ 40 := by have := HL.out; omega
  have HALL : Hid (∀ x ∈ l, x.tick = t) := hall
  have c1 : w.cell? ⟨p, 1, none⟩ = some (.int .i64 bnd) := cell_blk h.blk 1
  clear hall hl40 hw
  go_enter Try.func17, Try.ntmps17
  go_wp2
  go_loopw [29] (fun i wr => ∃ k : Nat, k ≤ m ∧ i = .int .i64 k ∧ Below w.heap.size w wr) (fun i _ => m - (intOf i).toNat)
  case atStart => exact ⟨0, Nat.zero_le _, rfl, Below.refl _ _⟩
  case round =>
    obtain ⟨k, hk, rfl, hbel⟩ := hrel
    by_cases hlt : k < m
    · have hxr := hx.below hbel
      have hsz := hbel.size
      clear hx
      obtain ⟨b, off, x, rfl, hb, hxk, d0, d1, d2, d3⟩ := hxr.eff hlt
      have hxy : x.tick = t := HALL.out x (List.mem_of_getElem? hxk)
      have hne : (x.tick != t) = false := by simpa using hxy
      clear hxy hxk
      go_wp2
      go_roundw
      case rel => exact ⟨k + 1, by omega, by go_num, hbel.alloc (by omega) _⟩
      case measure => simp [intOf]; omega
    · have hxr := hx.below hbel
      have hbr := h.below hbel
      have hsz := hbel.size
      have HK0 := Lib.hid (Kept.of_below (p := p) (r := r) hbel)
      have HBL := Lib.hid hbel
      clear hx c1
      have d0 : wr.cell? ⟨p, 0, none⟩ = some (.map (some r)) := cell_blk hbr.blk 0
      obtain ⟨f, hf, hl⟩ := hbr.map
      obtain ⟨A', m', c', hfx, hmc, hsx⟩ : ∃ A' m' c', (f t).getD (.slice none 0 0) = .slice A' m' c' ∧ m' ≤ 40 ∧ SlE wr A' m' (cur t) := by
        by_cases hk : t ∈ ks
        · obtain ⟨A', m', c', h1, h2, h3⟩ := hl t hk
          exact ⟨A', m', c', by rw [h1]; rfl, by have := h3.len; have := h.small t; omega, h3⟩
        · have hn : f t = none := by
            have := (hf.mem t)
            cases hft : f t with
            | none => rfl
            | some v => exact absurd (this.2 (by rw [hft]; simp)) hk
          exact ⟨none, 0, 0, by rw [hn]; rfl, by omega, by rw [h.off t hk]; exact Sl.nil⟩
      have hLk : (Instr.lookup 58 (.map (some r)) (.int .i64 t) false).run Try.prog wr = .ok (.slice A' m' c') wr := by
        rw [hf.lookup (int_key Try.underlying3) Try.underlying58 (z := .slice none 0 0) (by kernel_rfl), hfx]
      have hpr := h.ne
      have hplt := hbr.plt
      have hrlt := hbr.rlt
      have hrun := hf.update (int_key Try.underlying3) (t := 58) Try.underlying58 t
      go_upto_if 46 with (fail)
      go_cut [11] (fun v wx => v = .slice A' m' c' ∧ Shown w wx p r ks cur bnd t l ∧ KT (fun t => t = 51) wr wx)
      case first =>
        by_cases hl0 : 0 < m
        · have hlne : l ≠ [] := fun e => by have := HL.out; rw [e] at this; simp at this; omega
          have HNE := Lib.hid hlne
          clear hlne
          go_upto_region 15 with fail
          have hU := fun (u : Up wr) => Up.cell u
          have HT0 := Lib.hid t0
          have HT1 := Lib.hid t1
          clear hf hl hrun hfx hLk
          refine wp_region_piUp [(0, 0), (1, 0), (2, 0), (3, 0), (4, 0), (5, 0), (6, 1), (7, 2)] [7] (by kernel_rfl) (by kernel_rfl) ?_
          repeat (first | (refine pi_plain (by rfl) (by rfl) (fun K hK => ?_); go_big_quiet_op; refine hK _ ?_; clear hK K) | (refine pi_free (by rfl) (by rfl) (fun K hK => ?_); go_big_quiet_op; refine hK _ ?_; clear hK K))
          refine pi_soft (by rfl) (by rfl) (fun K hK => ?_)
          go_big_op
          refine (clone_any A m cap l wr.drew (by omega) hxr).mono ?_
          rintro e w2 ⟨v, rfl, hv, hb2⟩
          have hb2' : Below wr.heap.size wr w2 := ⟨hb2.os, hb2.tape, hb2.output, hb2.size, hb2.block⟩
          refine hK _ _ hb2' ?_
          clear hK K hU
          rw [HL.out] at hv
          obtain ⟨w3, h3, hbd, hkp, ⟨f3, hf3, hft3, hv3⟩, hkf⟩ := hbr.put hb2' hv HNE.out HT0.out HT1.out (by have := HL.out; omega)
          have hSh : Shown w w3 p r ks cur bnd t l := ⟨hbd, HK0.out.trans hkp, fun _ => ⟨f3, v, hf3, hft3, own_base hv3 hsz⟩, fun f0 hf0 => hkf f0 (hf0.kept (HBL.out.block r h.rlt))⟩
          have hK51 := hkp.kt (S := fun t => t = 51) hbr (by decide)
          clear hv hb2 hb2' hbd hkp hf3 hft3 hv3 hkf
          refine pi_hard (by rfl) (by rfl) (fun K hK => ?_)
          go_big_op
          refine hK _ _ ?_
          clear hK K
          refine pi_nil ?_
          go_wp2
          go_meet
          exact ⟨rfl, hSh, hK51⟩
        · have hle : l = [] := List.eq_nil_of_length_eq_zero (by have := HL.out; omega)
          subst hle
          obtain ⟨w3, h3, hbd, hkp, hkf⟩ := hbr.del (t := t)
          have hSh : Shown w w3 p r ks cur bnd t [] := ⟨hbd, HK0.out.trans hkp, fun h => absurd rfl h, fun f0 hf0 => hkf f0 (hf0.kept (HBL.out.block r h.rlt))⟩
          have hK51 := hkp.kt (S := fun t => t = 51) hbr (by decide)
          clear hbd hkp hkf
          go_wp2
          go_meet
          exact ⟨rfl, hSh, hK51⟩
      case rest =>
        obtain ⟨rfl, hSh, hkt⟩ := hcut
        have hxc := hxr.kt hkt rfl
        have hsc := hsx.kt hkt rfl
        have HSH := Lib.hid hSh
        clear hSh hxr hsx hbr hf hl hfx hLk hrun d0
        go_wp2_with fail
        refine (pdiff_any A A' m m' l (cur t) cap c' wc (by omega) (by omega) hxc hsc).mono ?_
        rintro e w2 ⟨v1, rfl, hv1, hb1⟩
        have hxc2 := hxc.below hb1
        have hsc2 := hsc.below hb1
        clear hxc hsc
        go_wp2_with fail
        refine (pdiff_any A' A m' m (cur t) l c' cap w2 (by omega) (by omega) hsc2 hxc2).mono ?_
        rintro e w3 ⟨v2, rfl, hv2, hb2⟩
        have hv1' := own_below hv1 hb2
        clear hxc2 hsc2 hv1
        go_wp2
        go_ret3
        exact ⟨v1, v2, wc, rfl, HSH.out, hb1.trans (hb2.mono hb1.size), hv1', own_base hv2 hb1.size⟩
end Go.Proofs.Ytllcankinjomaaa
