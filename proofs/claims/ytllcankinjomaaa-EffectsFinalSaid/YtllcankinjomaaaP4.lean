import Derived.Test.YtllcankinjomaaaP3
namespace Go.Proofs.Ytllcankinjomaaa
set_option linter.unusedSimpArgs false
set_option linter.unusedVariables false
open Go.RowKit Go.MapKept Go.Maps

/-- a board: p its block, r its map's; ks the ticks that have effects -/
structure Bd (w : World) (p r : Nat) (ks : List Int) (cur : Int → List Eff) (bnd : Int) : Prop where
  blk : w.heap[p]? = some (.cells #[.map (some r), .int .i64 bnd] 60 (0, 0))
  map : ∃ f, MapF (Value.int .i64) w r ks f ∧ ∀ k ∈ ks, ∃ A m c, f k = some (.slice A m c) ∧ m ≤ c ∧ SlE w A m (cur k)
  off : ∀ k, k ∉ ks → cur k = []
  rng : ∀ k ∈ ks, 0 ≤ k ∧ k < 6000
  small : ∀ k, (cur k).length ≤ 40

/-- but for the blocks p and r all is as it was -/
structure Kept (p r : Nat) (w w' : World) : Prop where
  os : w'.os = w.os
  tape : w'.tape = w.tape
  output : w'.output = w.output
  size : w.heap.size ≤ w'.heap.size
  block : ∀ k, k < w.heap.size → k ≠ p → k ≠ r → w'.heap[k]? = w.heap[k]?
theorem Kept.refl (p r : Nat) (w : World) : Kept p r w w := ⟨rfl, rfl, rfl, Nat.le_refl _, fun _ _ _ _ => rfl⟩
theorem Kept.trans {p r : Nat} {a b c : World} (h : Kept p r a b) (h' : Kept p r b c) : Kept p r a c :=
  ⟨h'.os.trans h.os, h'.tape.trans h.tape, h'.output.trans h.output, Nat.le_trans h.size h'.size, fun k hk h1 h2 => (h'.block k (Nat.lt_of_lt_of_le hk h.size) h1 h2).trans (h.block k hk h1 h2)⟩
theorem Kept.of_below {p r : Nat} {w w' : World} (h : Below w.heap.size w w') : Kept p r w w' := ⟨h.os, h.tape, h.output, h.size, fun k hk _ _ => h.block k hk⟩
theorem Kept.of_grown {p r : Nat} {w w' : World} (h : w.grownBy w' (some r)) : Kept p r w w' := ⟨h.os, h.tape, h.output, h.size, fun k hk _ h2 => h.block k hk (by simpa using h2)⟩
theorem Kept.setCell {p r : Nat} (w : World) (i : Nat) (u : Value) : Kept p r w (w.setCell ⟨p, i, none⟩ u) :=
  ⟨rfl, rfl, rfl, by simp, fun k _ h1 _ => Below.heap_setCell _ _ _ _ h1⟩
theorem Kept.below {p r B : Nat} {w w' : World} (h : Kept p r w w') (hp : B ≤ p) (hr : B ≤ r) (hB : B ≤ w.heap.size) : Below B w w' :=
  ⟨h.os, h.tape, h.output, h.size, fun k hk => h.block k (by omega) (by omega) (by omega)⟩
theorem Kept.drewN {p r : Nat} {a w : World} (h : Kept p r a w) (n : Nat) : Kept p r a (w.drewN n) := ⟨h.os, h.tape, h.output, h.size, h.block⟩

section
variable {w w' : World} {p r : Nat} {ks : List Int} {cur : Int → List Eff} {bnd : Int}
theorem Bd.plt (h : Bd w p r ks cur bnd) : p < w.heap.size := lt_of_heap h.blk
theorem Bd.rlt (h : Bd w p r ks cur bnd) : r < w.heap.size := by obtain ⟨f, hf, _⟩ := h.map; exact hf.lt
theorem Bd.ne (h : Bd w p r ks cur bnd) : p ≠ r := by
  rintro rfl
  obtain ⟨f, ⟨es, cl, hb, _⟩, _⟩ := h.map
  rw [h.blk] at hb; cases hb
theorem Bd.keep (h : Bd w p r ks cur bnd) (hp : w'.heap[p]? = w.heap[p]?) (hr : w'.heap[r]? = w.heap[r]?) (hk : KT (fun t => t = 51) w w') : Bd w' p r ks cur bnd := by
  obtain ⟨f, hf, hl⟩ := h.map
  refine ⟨hp.trans h.blk, ⟨f, hf.kept hr, fun k hks => ?_⟩, h.off, h.rng, h.small⟩
  obtain ⟨A, m, c, h1, h2, h3⟩ := hl k hks
  exact ⟨A, m, c, h1, h2, h3.kt hk rfl⟩
theorem Bd.below (h : Bd w p r ks cur bnd) (hb : Below w.heap.size w w') : Bd w' p r ks cur bnd := h.keep (hb.block p h.plt) (hb.block r h.rlt) (KT.below hb)
theorem Kept.kt {S : TypeId → Prop} (h : Kept p r w w') (hb : Bd w p r ks cur bnd) (hS : ¬ S 60) : KT S w w' := fun k cs t fz hs e => by
  rw [h.block k (lt_of_heap e)]
  · exact e
  · rintro rfl; rw [hb.blk] at e; cases e; exact hS hs
  · rintro rfl; obtain ⟨f, ⟨es, cl, hm, _⟩, _⟩ := hb.map; rw [hm] at e; cases e
theorem nodup_le : ∀ (n : Nat) (l : List Int), l.Nodup → (∀ x ∈ l, 0 ≤ x ∧ x < n) → l.length ≤ n
  | 0, l, _, h => by
    cases l with
    | nil => simp
    | cons a l => have := h a (by simp); omega
  | n + 1, l, hn, h => by
    have h1 := nodup_le n (l.filter (· ≠ (n : Int))) (hn.filter _) (fun x hx => by
      have := List.mem_filter.1 hx
      have h2 := h x this.1
      have h3 : x ≠ (n : Int) := by simpa using this.2
      omega)
    have h2 : l.length ≤ (l.filter (· ≠ (n : Int))).length + 1 := by
      clear h h1
      induction l with
      | nil => simp
      | cons a l ih =>
        have hn' := List.nodup_cons.1 hn
        by_cases ha : a = (n : Int)
        · have : l.filter (· ≠ (n : Int)) = l := List.filter_eq_self.2 fun x hx => by
            simp only [ne_eq, decide_not, Bool.not_eq_true', decide_eq_false_iff_not]
            rintro rfl; exact hn'.1 (ha ▸ hx)
          rw [List.filter_cons_of_neg (by simp [ha]), this]; simp
        · rw [List.filter_cons_of_pos (by simpa using ha)]
          have := ih hn'.2
          simp only [List.length_cons]; omega
    omega
theorem Bd.few (h : Bd w p r ks cur bnd) : ks.length ≤ 6000 := by
  obtain ⟨f, hf, _⟩ := h.map
  exact nodup_le 6000 ks (hf.nodup (int_key Try.underlying3)) h.rng
theorem Bd.wf (h : Bd w p r ks cur bnd) : ∀ k ∈ ks, (Lit.int .i64 k).wf = true := fun k hk => by
  have := h.rng k hk
  exact WalkArith.wf_i64 (by omega)
/-- the effects of a list of ticks -/
def gath (cur : Int → List Eff) (l : List Int) : List Eff := l.flatMap cur
theorem gath_snoc (cur : Int → List Eff) (l : List Int) (x : Int) : gath cur (l ++ [x]) = gath cur l ++ cur x := by unfold gath; simp
theorem flat_small (h : ∀ k, (cur k).length ≤ 40) : ∀ l : List Int, (gath cur l).length ≤ 40 * l.length
  | [] => by simp [gath]
  | k :: l => by
    have := flat_small h l
    have := h k
    unfold gath at *
    simp only [List.flatMap_cons, List.length_append, List.length_cons]; omega
end

set_option maxHeartbeats 400000 in
theorem ticks_any (w : World) (p r : Nat) (ks : List Int) (cur : Int → List Eff) (bnd : Int) (h : Bd w p r ks cur bnd) :
    Calls Try.prog 29 #[.pointer (some ⟨p, 0, none⟩)] w fun e w' => ∃ v, e = .returned v ∧ w'.ownsRow w.heap.size 3 1 v ks.length ((sortI ks).flatMap intc) ∧ Below w.heap.size w w' := by
  have c0 : w.cell? ⟨p, 0, none⟩ = some (.map (some r)) := cell_blk h.blk 0
  go_enter Try.func29, Try.ntmps29
  go_wp2_with fail
  refine (keys_any _ _).mono ?_
  rintro e w1 ⟨rfl, rfl⟩
  go_wp2_with fail
  have hb0 := (Below.refl w.heap.size w).alloc (Nat.le_refl _) (.cells #[.map (some r)] 58)
  have h1 := h.below hb0
  obtain ⟨f, hf, _⟩ := h1.map
  refine (collect_any w.heap.size r ks f _ (by simp) (cell_blk (heap_alloc_new _ _) 0) hf h.wf (by have := h.few; omega)).mono ?_
  rintro e w1 ⟨v, ss, rfl, hperm, hv, hb1⟩
  have hlen := hperm.length_eq
  have hfew := h.few
  obtain ⟨A, c, rfl, hsl, hc⟩ := Sl.of_own intc_len hv rfl
  have hb2 : Below w.heap.size w w1 := hb0.trans (hb1.mono (by simp))
  have HL := Lib.hid hlen
  have HP := Lib.hid hperm
  generalize hN : ss.length = N at *
  clear hlen hperm hv hb1 hf h1
  go_wp2_with fail
  refine (sorted_any A N c ss w1 (by have := HL.out; omega) hsl).mono ?_
  rintro e w2 ⟨v, rfl, hv, hb3⟩
  go_wp2
  go_ret
  refine ⟨v, rfl, ?_, hb2.trans (hb3.mono hb2.size)⟩
  rw [← HL.out, show sortI ks = sortI ss from (mergeSort_of_perm_i HP.out).symm]
  exact own_base hv hb2.size

set_option maxHeartbeats 400000 in
theorem pending_prog (w : World) (p r : Nat) (ks : List Int) (cur : Int → List Eff) (bnd : Int) (h : Bd w p r ks cur bnd) :
    Calls Try.prog 21 #[.pointer (some ⟨p, 0, none⟩)] w fun e w' => ∃ v, e = .returned v ∧ w'.ownsRow w.heap.size 51 4 v (gath cur (sortI ks)).length ((gath cur (sortI ks)).flatMap Eff.cells) ∧ Below w.heap.size w w' := by
  obtain ⟨i0, hi0, hz0, hz1, hz2⟩ := info_parts info51
  have hfew := h.few
  go_enter Try.func21, Try.ntmps21
  go_wp2_with fail
  refine (ticks_any w p r ks cur bnd h).mono ?_
  rintro e w1 ⟨v, rfl, hv, hb1⟩
  obtain ⟨A, c, rfl, hsl, hc⟩ := Sl.of_own intc_len hv (sortI_len ks).symm
  have hsi := sortI_len ks
  have hmem : ∀ k, k ∈ sortI ks → k ∈ ks := fun k hk => (List.mergeSort_perm ks _).mem_iff.1 hk
  generalize hts : sortI ks = ts at *
  generalize hN : ks.length = N at *
  have HN := Lib.hid hsi
  have HM := Lib.hid hmem
  have HTS := Lib.hid hts
  clear hv hsi hmem hts
  go_wp2
  go_loopw [3, 9] (fun v i wr => ∃ k : Nat, k ≤ N ∧ i = .int .i64 k ∧ wr.ownsRow w.heap.size 51 4 v (gath cur (ts.take k)).length ((gath cur (ts.take k)).flatMap Eff.cells) ∧ Below w.heap.size w wr ∧ SlI 3 wr A N ts) (fun _ i _ => N - (intOf i).toNat)
  case atStart => exact ⟨0, Nat.zero_le _, rfl, by simpa [gath] using World.ownsRow_nil _ _ _ _, hb1, hsl⟩
  case round =>
    obtain ⟨k, hk, rfl, hown, hbel, hslr⟩ := hrel
    by_cases hlt : k < N
    · obtain ⟨b, off, x, rfl, hb, hxk, c0⟩ := hslr.int hlt
      have hbr := h.below hbel
      have d0 : wr.cell? ⟨p, 0, none⟩ = some (.map (some r)) := cell_blk hbr.blk 0
      obtain ⟨f, hf, hl⟩ := hbr.map
      have hxm := HM.out x (List.mem_of_getElem? hxk)
      obtain ⟨A', m, c', hfx, hmc, hsx⟩ := hl x hxm
      have hLk : (Instr.lookup 58 (.map (some r)) (.int .i64 x) false).run Try.prog wr = .ok (.slice A' m c') wr := by
        rw [hf.lookup (int_key Try.underlying3) Try.underlying58 (z := .slice none 0 0) (by kernel_rfl), hfx]; rfl
      have HT : Hid (gath cur (ts.take (k + 1)) = gath cur (ts.take k) ++ cur x) := by show _ = _; rw [take_succ_some hxk, gath_snoc]
      have hs1 := flat_small h.small (ts.take k)
      have hs2 := List.length_take_le k ts
      have hs3 := h.small x
      have hs4 := hsx.len
      have hsz := hbel.size
      have hlens : (gath cur (ts.take k)).length + m ≤ 1000000 := by omega
      have HS := Lib.hid hs4
      clear hf hl hfx hxk hs1 hs2 hs3 hs4 hsl
      go_wp2_with (at_builtin; refine wpList_append_src _ rfl _ _ 30 rfl w.heap.size 51 i0 _ 4 32 Try.underlying30 hi0 hz0 hz1 hz2 rfl (by decide) _ _ _ rfl hown A' m c' ((cur x).flatMap Eff.cells) rfl (by rw [flat_len Eff.cells_len, ← HS.out]) hsx.nilA (hsx.news Eff.cells_len (by decide)) (flat_one Eff.cells_one _) ?c3 ?c4 ?c5 ?_)
      case c3 => unfold maxLen; omega
      case c4 => omega
      case c5 => omega
      · intro Av cv w2 hown2 hgrow
        have hbel2 := below_own hbel hown hgrow (Nat.le_refl _) (by omega)
        have hsl2 := hslr.kt (kt_own (S := fun t => t = 3) (KT.refl _ wr) hown hgrow (by decide)) rfl
        clear hown hgrow hLk hslr d0 c0 hsx
        go_wp2
        go_roundw
        case rel => exact ⟨k + 1, by omega, by go_num, by rw [HT.out]; simpa [HS.out] using hown2, hbel2, hsl2⟩
        case measure => simp [intOf]; omega
    · go_wp2
      go_ret
      refine ⟨_, rfl, ?_, hbel⟩
      rw [List.take_of_length_le (by have := HN.out; omega), ← HTS.out] at hown
      exact hown

set_option maxHeartbeats 400000 in
theorem confirm_nop (w : World) (p r : Nat) (ks : List Int) (cur : Int → List Eff) (bnd t : Int) (h : Bd w p r ks cur bnd) (ht : t ≤ bnd) :
    Calls Try.prog 15 #[.pointer (some ⟨p, 0, none⟩), .int .i64 t] w fun e w' => e = .returned (.slice none 0 0) ∧ w = w' := by
  have c1 : w.cell? ⟨p, 1, none⟩ = some (.int .i64 bnd) := cell_blk h.blk 1
  go_enter Try.func15, Try.ntmps15
  go_wp2
  go_ret
  exact ⟨rfl, rfl⟩

theorem sortI_sorted (ks : List Int) : (sortI ks).Pairwise (· ≤ ·) := by
  have tr : ∀ a b c : Int, leI a b = true → leI b c = true → leI a c = true := fun a b c h1 h2 => by simp only [leI, decide_eq_true_eq] at *; exact Int.le_trans h1 h2
  have tot : ∀ a b : Int, (leI a b || leI b a) = true := fun a b => by simp only [leI, Bool.or_eq_true, decide_eq_true_eq]; exact Int.le_total a b
  exact (List.pairwise_mergeSort tr tot ks).imp (fun h => by simpa using h)

/-- where a sorted list is cut -/
theorem sorted_cut {ts : List Int} (hs : ts.Pairwise (· ≤ ·)) {k : Nat} {t : Int} (h1 : ∀ x ∈ ts.take k, x < t) (h2 : ∀ x, ts[k]? = some x → t ≤ x) : ts.take k = ts.filter (fun x => decide (x < t)) := by
  conv => rhs; rw [← List.take_append_drop k ts]
  rw [List.filter_append, List.filter_eq_self.2 (fun x hx => by simpa using h1 x hx)]
  have : (ts.drop k).filter (fun x => decide (x < t)) = [] := by
    rw [List.filter_eq_nil_iff]
    intro x hx
    cases hk : ts[k]? with
    | none => rw [List.drop_eq_nil_of_le (by simpa using hk)] at hx; cases hx
    | some y =>
      have hy := h2 y hk
      rw [drop_some hk] at hx
      have hp := hs.sublist (List.drop_sublist k ts)
      rw [drop_some hk] at hp
      have : y ≤ x := by
        rcases List.mem_cons.1 hx with rfl | hx'
        · exact Int.le_refl _
        · exact (List.pairwise_cons.1 hp).1 x hx'
      simp; omega
  rw [this, List.append_nil]

/-- the map's values at the keys of P stay -/
def KeepF (w w' : World) (r : Nat) (ks ks' : List Int) (P : Int → Prop) : Prop := ∀ f0, MapF (Value.int .i64) w r ks f0 → ∃ f, MapF (Value.int .i64) w' r ks' f ∧ ∀ k ∈ ks', P k → f k = f0 k
/-- the board in the midst of Confirm: the ticks of done are gone -/
structure CfInv (w wr : World) (p r : Nat) (ks : List Int) (cur : Int → List Eff) (bnd : Int) (done : List Int) : Prop where
  kept : Kept p r w wr
  blk : wr.heap[p]? = some (.cells #[.map (some r), .int .i64 bnd] 60 (0, 0))
  map : ∃ f, MapF (Value.int .i64) wr r (ks.filter (fun x => decide (x ∉ done))) f ∧ ∀ k, k ∈ ks → k ∉ done → ∃ A m c, f k = some (.slice A m c) ∧ m ≤ c ∧ SlE w A m (cur k)
  keepf : KeepF w wr r ks (ks.filter (fun x => decide (x ∉ done))) (fun _ => True)

theorem Kept.grown {p r : Nat} {a w w' : World} {row : Option Nat} (h : Kept p r a w) (hg : w.grownBy w' row) (hr : ∀ k, row = some k → a.heap.size ≤ k) : Kept p r a w' :=
  ⟨hg.os.trans h.os, hg.tape.trans h.tape, hg.output.trans h.output, Nat.le_trans h.size hg.size, fun k hk h1 h2 =>
    (hg.block k (Nat.lt_of_lt_of_le hk h.size) (fun e => by have := hr k e.symm; omega)).trans (h.block k hk h1 h2)⟩
theorem CfInv.drop {w wr : World} {p r : Nat} {ks : List Int} {cur : Int → List Eff} {bnd : Int} {done : List Int} (h : CfInv w wr p r ks cur bnd done) (hb : Bd w p r ks cur bnd) {w1 : World} (h1 : Kept p r w w1) (hp1 : w1.heap[p]? = wr.heap[p]?) (hr1 : w1.heap[r]? = wr.heap[r]?) (x : Int) :
    ∃ w2, (Builtin.delete_ #[58, 3] 0 #[.map (some r), .int .i64 x]).run Try.prog w1 = .ok (.tuple #[]) w2 ∧ CfInv w w2 p r ks cur bnd (done ++ [x]) ∧ w1.grownBy w2 (some r) := by
  obtain ⟨f, hf, hl⟩ := h.map
  obtain ⟨w2, hr2, hm2, hg2⟩ := (hf.kept hr1).delete (int_key Try.underlying3) (t2 := 3) (ty := 0) Try.underlying58 x
  have e : ks.filter (fun y => decide (y ∉ done ++ [x])) = (ks.filter (fun y => decide (y ∉ done))).filter (· ≠ x) := by
    rw [List.filter_filter]
    refine List.filter_congr fun y _ => ?_
    simp [Bool.and_comm]
  refine ⟨w2, hr2, ⟨h1.trans (Kept.of_grown hg2), ?_, ⟨fdel f x, ?_, ?_⟩, ?_⟩, hg2⟩
  · have hlt : p < w1.heap.size := lt_of_heap (hp1.trans h.blk)
    rw [hg2.block p hlt (by simpa using hb.ne), hp1]; exact h.blk
  · rw [e]; exact hm2
  · intro k hk hkd
    have h3 : k ∉ done := fun h => hkd (List.mem_append_left _ h)
    have h4 : k ≠ x := fun h => hkd (by rw [h]; simp)
    obtain ⟨A, m, c, h5, h6, h7⟩ := hl k hk h3
    exact ⟨A, m, c, by unfold fdel; rw [if_neg h4]; exact h5, h6, h7⟩
  · intro f0 hf0
    obtain ⟨f1, hf1, h3⟩ := h.keepf f0 hf0
    obtain ⟨w2', hr2', hm2', -⟩ := (hf1.kept hr1).delete (int_key Try.underlying3) (t2 := 3) (ty := 0) Try.underlying58 x
    rw [hr2] at hr2'
    cases hr2'
    refine ⟨fdel f1 x, by rw [e]; exact hm2', fun k hk _ => ?_⟩
    have h4 : k ∈ ks ∧ k ∉ done ++ [x] := by simpa using List.mem_filter.1 hk
    have h5 : k ≠ x := fun h => h4.2 (by rw [h]; simp)
    unfold fdel
    rw [if_neg h5]
    exact h3 k (List.mem_filter.2 ⟨h4.1, by simpa using fun h => h4.2 (List.mem_append_left _ h)⟩) trivial

set_option maxHeartbeats 1000000 in
theorem confirm_prog (w : World) (p r : Nat) (ks : List Int) (cur : Int → List Eff) (bnd t : Int) (h : Bd w p r ks cur bnd) (ht : bnd < t) :
    Calls Try.prog 15 #[.pointer (some ⟨p, 0, none⟩), .int .i64 t] w fun e w' => ∃ v, e = .returned v ∧
      w'.ownsRow w.heap.size 51 4 v (gath cur ((sortI ks).filter (fun x => decide (x < t)))).length ((gath cur ((sortI ks).filter (fun x => decide (x < t)))).flatMap Eff.cells) ∧
      Bd w' p r (ks.filter (fun x => decide (¬ x < t))) (fun k => if k < t then [] else cur k) t ∧ Kept p r w w' ∧ KeepF w w' r ks (ks.filter (fun x => decide (¬ x < t))) (fun _ => True) := by
  obtain ⟨i0, hi0, hz0, hz1, hz2⟩ := info_parts info51
  have hfew := h.few
  have hpr := h.ne
  have hplt := h.plt
  have hrlt := h.rlt
  have c1 : w.cell? ⟨p, 1, none⟩ = some (.int .i64 bnd) := cell_blk h.blk 1
  go_enter Try.func15, Try.ntmps15
  go_wp2_with fail
  refine (ticks_any w p r ks cur bnd h).mono ?_
  rintro e w1 ⟨v, rfl, hv, hb1⟩
  obtain ⟨A, c, rfl, hsl, hc⟩ := Sl.of_own intc_len hv (sortI_len ks).symm
  have hsi := sortI_len ks
  have hmem : ∀ k, k ∈ sortI ks ↔ k ∈ ks := fun k => (List.mergeSort_perm ks _).mem_iff
  have hsort := sortI_sorted ks
  have HTS : Hid (sortI ks = sortI ks) := rfl
  generalize hts : sortI ks = ts at hv hsl hsi hmem hsort
  generalize hN : ks.length = N at *
  have HN := Lib.hid hsi
  have HM := Lib.hid hmem
  have HS := Lib.hid hsort
  have HT := Lib.hid hts
  clear hv hsi hmem hts hsort HTS
  have hcf0 : CfInv w w1 p r ks cur bnd [] := by
    have hb := h.below hb1
    obtain ⟨f, hf, hl⟩ := hb.map
    have hr1 := hb1.block r hrlt
    obtain ⟨f0, hf0, hl0⟩ := h.map
    have e : ks.filter (fun x => decide (x ∉ ([] : List Int))) = ks := List.filter_eq_self.2 (fun _ _ => by simp)
    exact ⟨Kept.of_below hb1, hb.blk, ⟨f0, by rw [e]; exact hf0.kept hr1, fun k hk _ => hl0 k hk⟩, fun f2 hf2 => ⟨f2, by rw [e]; exact hf2.kept hr1, fun _ _ _ => rfl⟩⟩
  go_wp2
  go_loopw [5, 17] (fun v i wr => ∃ k : Nat, k ≤ N ∧ i = .int .i64 k ∧ wr.ownsRow w.heap.size 51 4 v (gath cur (ts.take k)).length ((gath cur (ts.take k)).flatMap Eff.cells) ∧ CfInv w wr p r ks cur bnd (ts.take k) ∧ SlI 3 wr A N ts ∧ Hid (∀ x ∈ ts.take k, x < t)) (fun _ i _ => N - (intOf i).toNat)
  case atStart => exact ⟨0, Nat.zero_le _, rfl, by simpa [gath] using World.ownsRow_nil _ _ _ _, hcf0, hsl, by simp [Hid]⟩
  case round =>
    obtain ⟨k, hk, rfl, hown, hcf, hslr, HLT⟩ := hrel
    have hsz := hcf.kept.size
    have d0 : wr.cell? ⟨p, 0, none⟩ = some (.map (some r)) := cell_blk hcf.blk 0
    have d1 : wr.cell? ⟨p, 1, none⟩ = some (.int .i64 bnd) := cell_blk hcf.blk 1
    have d2 : wr.frozen? ⟨p, 1, none⟩ = false := frozen_blk hcf.blk 1
    have hend : (∀ x, ts[k]? = some x → t ≤ x) → ∀ v, wr.ownsRow w.heap.size 51 4 v (gath cur (ts.take k)).length ((gath cur (ts.take k)).flatMap Eff.cells) →
        (wr.setCell ⟨p, 1, none⟩ (.int .i64 t)).ownsRow w.heap.size 51 4 v (gath cur ((sortI ks).filter (fun x => decide (x < t)))).length ((gath cur ((sortI ks).filter (fun x => decide (x < t)))).flatMap Eff.cells) ∧
        Bd (wr.setCell ⟨p, 1, none⟩ (.int .i64 t)) p r (ks.filter (fun x => decide (¬ x < t))) (fun k => if k < t then [] else cur k) t ∧ Kept p r w (wr.setCell ⟨p, 1, none⟩ (.int .i64 t)) ∧ KeepF w (wr.setCell ⟨p, 1, none⟩ (.int .i64 t)) r ks (ks.filter (fun x => decide (¬ x < t))) (fun _ => True) := by
      intro h2 v hown
      have hcut := sorted_cut HS.out HLT.out h2
      have hin : ∀ x, x ∈ ts.take k ↔ x ∈ ks ∧ x < t := fun x => by rw [hcut, List.mem_filter, HM.out x]; simp
      have e : ks.filter (fun x => decide (¬ x < t)) = ks.filter (fun x => decide (x ∉ ts.take k)) := by
        refine List.filter_congr fun x hx => ?_
        have := hin x
        by_cases hxt : x < t
        · have : x ∈ ts.take k := this.2 ⟨hx, hxt⟩
          simp [hxt, this]
        · have : x ∉ ts.take k := fun hm => hxt (this.1 hm).2
          simp [hxt, this]
      refine ⟨?_, ?_, hcf.kept.trans (Kept.setCell _ _ _), fun f0 hf0 => ?_⟩
      · rw [HT.out, ← hcut]
        exact own_setCell_ty hown hcf.blk (by decide) 1 _
      · obtain ⟨f, hf, hl⟩ := hcf.map
        refine ⟨heap_setCell_same hcf.blk _, ⟨f, ?_, ?_⟩, ?_, ?_, ?_⟩
        · rw [e]; exact hf.setCell _
        · intro x hx
          have hx' := List.mem_filter.1 hx
          have hxt : ¬ x < t := by simpa using hx'.2
          obtain ⟨A, m, c, h5, h6, h7⟩ := hl x hx'.1 (fun hm => hxt ((hin x).1 hm).2)
          refine ⟨A, m, c, h5, h6, ?_⟩
          rw [if_neg hxt]
          exact h7.kt ((hcf.kept.trans (Kept.setCell _ _ _)).kt (S := fun t => t = 51) h (by decide)) rfl
        · intro x hx
          by_cases hxt : x < t
          · simp [hxt]
          · simp only [if_neg hxt]
            exact h.off x (fun hm => hx (List.mem_filter.2 ⟨hm, by simpa using hxt⟩))
        · exact fun x hx => h.rng x (List.mem_filter.1 hx).1
        · intro x
          by_cases hxt : x < t
          · simp [hxt]
          · simp only [if_neg hxt]; exact h.small x
      · obtain ⟨f, hf, h3⟩ := hcf.keepf f0 hf0
        refine ⟨f, by rw [e]; exact hf.setCell _, fun k hk _ => h3 k (by rw [← e]; exact hk) trivial⟩
    have HE := Lib.hid hend
    clear hend
    by_cases hlt : k < N
    · obtain ⟨b, off, x, rfl, hb, hxk, c0⟩ := hslr.int hlt
      by_cases hxt : t ≤ x
      · have hE := HE.out (fun y hy => by rw [hxk] at hy; cases hy; exact hxt) u5 hown
        have HE2 := Lib.hid hE
        clear hE hxk
        go_wp2
        go_ret
        exact ⟨_, rfl, HE2.out⟩
      · have hxm := (HM.out x).1 (List.mem_of_getElem? hxk)
        obtain ⟨f, hf, hl⟩ := hcf.map
        have hnd : ts.Nodup := by
          obtain ⟨f0, hf0, _⟩ := h.map
          have := hf0.nodup (int_key Try.underlying3)
          rw [← HT.out]
          exact (List.mergeSort_perm ks _).nodup_iff.2 this
        have hnot : x ∉ ts.take k := fun hm => by
          obtain ⟨j, hj⟩ := List.mem_iff_getElem?.1 hm
          rw [List.getElem?_take] at hj
          split at hj
          · have := nodup_at hnd hj hxk; omega
          · cases hj
        obtain ⟨A', m, c', hfx, hmc, hsx0⟩ := hl x hxm hnot
        have hsx : SlE wr A' m (cur x) := hsx0.kt (hcf.kept.kt (S := fun t => t = 51) h (by decide)) rfl
        have hLk : (Instr.lookup 58 (.map (some r)) (.int .i64 x) false).run Try.prog wr = .ok (.slice A' m c') wr := by
          rw [hf.lookup (int_key Try.underlying3) Try.underlying58 (z := .slice none 0 0) (by kernel_rfl), hfx]; rfl
        have HF : Hid (gath cur (ts.take (k + 1)) = gath cur (ts.take k) ++ cur x) := by show _ = _; rw [take_succ_some hxk, gath_snoc]
        have HTK := Lib.hid (take_succ_some hxk)
        have hs1 := flat_small h.small (ts.take k)
        have hs2 := List.length_take_le k ts
        have hs3 := h.small x
        have hs4 := hsx.len
        have hlens : (gath cur (ts.take k)).length + m ≤ 1000000 := by omega
        have HSL := Lib.hid hs4
        have HX := Lib.hid hxt
        clear hf hl hfx hxk hs1 hs2 hs3 hs4 hsl hnd hnot hxm HE d1 d2
        go_wp2_with (at_builtin; refine wpList_append_src _ rfl _ _ 30 rfl w.heap.size 51 i0 _ 4 32 Try.underlying30 hi0 hz0 hz1 hz2 rfl (by decide) _ _ _ rfl hown A' m c' ((cur x).flatMap Eff.cells) rfl (by rw [flat_len Eff.cells_len, ← HSL.out]) hsx.nilA (hsx.news Eff.cells_len (by decide)) (flat_one Eff.cells_one _) (by unfold maxLen; omega) (by omega) (by omega) ?_)
        intro Av cv w2 hown2 hgrow
        have hrow : ∀ k, Value.ownBlock u5 = some k → w.heap.size ≤ k := fun k hk => (hown.lt k hk).1
        have hk2 : Kept p r w w2 := hcf.kept.grown hgrow hrow
        have hp2 : w2.heap[p]? = wr.heap[p]? := hgrow.block p (by omega) (fun e => by have := hrow p e.symm; omega)
        have hr2 : w2.heap[r]? = wr.heap[r]? := hgrow.block r (by omega) (fun e => by have := hrow r e.symm; omega)
        have hsl2 := hslr.kt (kt_own (S := fun t => t = 3) (KT.refl _ wr) hown hgrow (by decide)) rfl
        have e0 : w2.cell? ⟨p, 0, none⟩ = some (.map (some r)) := cell_blk (hp2.trans hcf.blk) 0
        obtain ⟨w3, hdel, hcf3, hg3⟩ := hcf.drop h hk2 hp2 hr2 x
        have hown3 := own_kt hown2 (S := fun t => t = 51) ((KT.refl _ _).grown hg3 fun g e cs ty fz h' _ => by
          cases e
          obtain ⟨f, ⟨es, cl, hb2, _⟩, _⟩ := hcf.map
          rw [hr2, hb2] at h'; cases h') rfl
        have hsl3 := hsl2.kt (S := fun t => t = 3) ((KT.refl _ _).grown hg3 fun g e cs ty fz h' _ => by
          cases e
          obtain ⟨f, ⟨es, cl, hb2, _⟩, _⟩ := hcf.map
          rw [hr2, hb2] at h'; cases h') rfl
        clear hown hgrow hLk hslr d0 c0 hsx hsx0 hown2 hsl2 hp2 hr2
        go_wp2
        go_roundw
        case rel => exact ⟨k + 1, by omega, by go_num, by rw [HF.out]; simpa [HSL.out] using hown3, by rw [HTK.out]; exact hcf3, hsl3, by
          show ∀ y ∈ _, y < t
          rw [HTK.out]
          intro y hy
          rcases List.mem_append.1 hy with hy | hy
          · exact HLT.out y hy
          · simp at hy; subst hy; have := HX.out; omega⟩
        case measure => simp [intOf]; omega
    · have hE := HE.out (fun y hy => by have := (List.getElem?_eq_some_iff.1 hy).1; have := HN.out; omega) u5 hown
      have HE2 := Lib.hid hE
      clear hE
      go_wp2
      go_ret
      exact ⟨_, rfl, HE2.out⟩
end Go.Proofs.Ytllcankinjomaaa
