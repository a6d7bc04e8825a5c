import Derived.Test.YtllcankinjomaaaL9
namespace Go.Proofs.Ytllcankinjomaaa
set_option linter.unusedSimpArgs false
set_option linter.unusedVariables false
open Go.RowKit Go.MapKept Go.Maps

theorem diff_count (b : List Eff) (y : Eff) : ∀ l : List Eff, (diff l b).count y = l.count y - b.count y := by
  intro l
  generalize hn : l.length = n
  induction n generalizing l with
  | zero => rw [List.eq_nil_of_length_eq_zero hn]; simp [diff, diffGo]
  | succ n ih =>
    rcases List.eq_nil_or_concat l with rfl | ⟨l', x, rfl⟩
    · simp at hn
    · simp only [List.concat_eq_append] at hn ⊢
      have := ih l' (by simpa using hn)
      rw [diff_snoc, List.count_append, List.count_append, this]
      by_cases hy : y = x
      · subst hy
        split <;> simp <;> omega
      · have hxy : ¬ x = y := fun e => hy e.symm
        split <;> simp [List.count_cons, hxy]
theorem diff_perm (x y : List Eff) : (x ++ diff y x).Perm (y ++ diff x y) := by
  rw [List.perm_iff_count]
  intro a
  rw [List.count_append, List.count_append, diff_count, diff_count]
  omega
theorem diff_lens (x y : List Eff) : x.length + (diff y x).length = y.length + (diff x y).length := by
  have := (diff_perm x y).length_eq
  simpa using this
theorem diff_apart (x y : List Eff) (a : Eff) (h : a ∈ diff y x) : (diff x y).count a = 0 := by
  have h1 := List.count_pos_iff.2 h
  rw [diff_count] at h1 ⊢
  omega
theorem diff_same {x y : List Eff} (h : x.Perm y) : diff x y = [] := by
  rw [List.eq_nil_iff_forall_not_mem]
  intro a ha
  have h1 := List.count_pos_iff.2 ha
  rw [diff_count, (List.perm_iff_count.1 h) a] at h1
  omega
theorem sameSet_perm {x y : List Eff} (h : x.Perm y) : sameSet x y = true := by
  unfold sameSet
  simp only [Bool.and_eq_true, decide_eq_true_eq, List.all_eq_true]
  exact ⟨h.length_eq, fun a _ => (List.perm_iff_count.1 h) a⟩
theorem rot_perm (y : List Eff) (k : Nat) : (y.drop k ++ y.take k).Perm y := by
  have := List.perm_append_comm (l₁ := y.drop k) (l₂ := y.take k)
  rwa [List.take_append_drop] at this
theorem Sl.drop {α : Type} {enc : α → List Value} {size t : Nat} {w : World} {b off n : Nat} {xs : List α} (h : Sl enc size t w (some ⟨b, off, none⟩) n xs) {k : Nat} (hk : k ≤ n) : Sl enc size t w (some ⟨b, off + k * size, none⟩) (n - k) (xs.drop k) :=
  ⟨by have := h.1; rw [List.length_drop]; omega, fun hn => by
    obtain ⟨b', off', cs, fz, e, hb, hc⟩ := h.2 (by omega)
    cases e
    refine ⟨b, _, cs, fz, rfl, hb, fun i x hx j u hu => ?_⟩
    have := hc (k + i) x (by rw [List.getElem?_drop] at hx; exact hx) j u hu
    rw [← this]
    congr 1
    rw [Nat.add_mul]; omega⟩

theorem Sl.drop_any {α : Type} {enc : α → List Value} {size t : Nat} {w : World} {ad : Addr} {n c : Nat} {xs : List α} (h : Sl enc size t w (some ad) n xs) {k : Nat} (hk : k ≤ n) (hc : n ≤ c) :
    Sl enc size t w (if c = k then some ad else some (ad.add (k * size))) (n - k) (xs.drop k) := by
  have hl := h.1
  by_cases h0 : n - k = 0
  · rw [h0, List.drop_eq_nil_of_le (by omega)]; exact Sl.nil
  · rw [if_neg (by omega)]
    obtain ⟨b, off, e, _⟩ := h.get (by omega)
    cases e
    have := h.drop hk
    unfold Addr.add
    by_cases hz : k * size = 0
    · rw [if_pos hz]; rw [hz] at this; exact this
    · rw [if_neg hz]; exact this

set_option maxHeartbeats 1000000 in
set_option maxRecDepth 100000 in
theorem minimal_any (tick one two turn : Int) (w : World) (h1 : -9223372036854775808 ≤ tick ∧ tick ≤ 9223372036854775807) (h2 : -9223372036854775808 ≤ one ∧ one ≤ 9223372036854775807) (h3 : -9223372036854775808 ≤ two ∧ two ≤ 9223372036854775807)
    (h4 : -9223372036854775808 ≤ turn ∧ turn ≤ 9223372036854775807) :
    Calls Try.prog 6 #[.int .i64 tick, .int .i64 one, .int .i64 two, .int .i64 turn] w fun e w' => e = .returned (.bool true) ∧ Below w.heap.size w w' := by
  obtain ⟨t0, t1⟩ := around_range tick 6000 (by omega)
  go_enter Try.func6, Try.ntmps6
  go_wp2_with fail
  refine (around_any tick 6000 w h1.1 h1.2 (by omega)).mono ?_
  rintro e w0 ⟨rfl, rfl⟩
  generalize around tick 6000 = t at *
  have hxl := listOf_len t one
  have hyl := listOf_len t two
  have hxt := listOf_tick t one
  have hyt := listOf_tick t two
  have H2 := Lib.hid h2
  have H3 := Lib.hid h3
  have H4 := Lib.hid h4
  clear h1 h2 h3 h4
  go_wp2_with fail
  refine (list_is t one w H2.out.1 H2.out.2 _ _ rfl rfl).mono ?_
  rintro e w1 ⟨A1, c1, rfl, hc1, hx1, hb1⟩
  go_wp2_with fail
  refine (list_is t two w1 H3.out.1 H3.out.2 _ _ rfl rfl).mono ?_
  rintro e w2 ⟨A2, c2, rfl, hc2, hy2, hb2⟩
  have hx2 := hx1.below hb2
  have hB2 := hb1.trans (hb2.mono hb1.size)
  clear hx1 hb1 hb2
  generalize listOf t one = x at *
  generalize listOf t two = y at *
  have HX := Lib.hid hxt
  have HY := Lib.hid hyt
  clear hxt hyt
  generalize hn1 : x.length = n1 at *
  generalize hn2 : y.length = n2 at *
  have HN1 := Lib.hid hn1
  have HN2 := Lib.hid hn2
  clear hn1 hn2
  go_wp2_with fail
  refine (new_bd w2).mono ?_
  rintro e w3 ⟨p, r, rfl, hbd, hp, hr, hb3⟩
  have hp2 : w.heap.size ≤ p := by have := hB2.size; omega
  have hr2 : w.heap.size ≤ r := by have := hB2.size; omega
  have hB3 := hB2.trans (hb3.mono hB2.size)
  have hx3 := hx2.below hb3
  have hy3 := hy2.below hb3
  clear hx2 hy2 hb3 hB2 hp hr
  have hwx := wrong_ok (bnd := 0) t0 t1 t0 (l := x) (by have := HN1.out; omega) HX.out
  have hwy := wrong_ok (bnd := 0) t0 t1 t0 (l := y) (by have := HN2.out; omega) HY.out
  have HWX := Lib.hid hwx
  have HWY := Lib.hid hwy
  clear hwx hwy
  go_wp2_with fail
  refine (show_is w3 p r _ _ 0 t A1 n1 c1 x hbd hx3 HWX.out x _ n1 _ _ _ (diff_nil x) rfl HN1.out rfl rfl rfl).mono ?_
  rintro e w4 ⟨A3, c3, A4, c4, rfl, -, -, -, -, hbd4, hkp4⟩
  have hk51 := hkp4.kt (S := fun t => t = 51) hbd (by decide)
  have hy4 := hy3.kt hk51 rfl
  have hB4 := hB3.trans (hkp4.below hp2 hr2 hB3.size)
  clear hbd hx3 hy3 hkp4 hk51 hB3
  have hcur : curOf (fun _ => []) t x t = x := if_pos rfl
  have hks := ksOf_only (ks := []) (t := t) x (by simp)
  generalize curOf (fun _ => []) t x = cur1 at *
  generalize ksOf [] t x = ks1 at *
  have HC1 := Lib.hid hcur
  have HK1 := Lib.hid hks
  clear hcur hks
  generalize (diff [] x).length = q1
  go_wp2_with fail
  refine (show_is w4 p r _ _ 0 t A2 n2 c2 y hbd4 hy4 HWY.out (diff y x) (diff x y) _ _ _ _ (by rw [HC1.out]) (by rw [HC1.out]) rfl rfl rfl rfl).mono ?_
  rintro e w5 ⟨A5, c5, A6, c6, rfl, hc5, hc6, hs5, hs6, hbd5, hkp5⟩
  have hk51 := hkp5.kt (S := fun t => t = 51) hbd4 (by decide)
  have hy5 := hy4.kt hk51 rfl
  have hB5 := hB4.trans (hkp5.below hp2 hr2 hB4.size)
  clear hbd4 hy4 hkp5 hk51 hB4
  have hcur : curOf cur1 t y t = y := if_pos rfl
  have hks := ksOf_only (ks := ks1) (t := t) y HK1.out
  generalize curOf cur1 t y = cur2 at *
  generalize ksOf ks1 t y = ks2 at *
  have HC2 := Lib.hid hcur
  have HK2 := Lib.hid hks
  clear hcur hks HC1 HK1
  have hlens := diff_lens x y
  have hap := diff_apart x y
  have hd1 := diff_len y x
  have hd2 := diff_len x y
  have e1 := HN1.out
  have e2 := HN2.out
  generalize hDY : (diff y x).length = dy at *
  generalize hDX : (diff x y).length = dx at *
  have hsum : (n1 : Int) - dx + dy = n2 := by omega
  have hne : ((n1 : Int) - dx + dy != n2) = false := by simpa using hsum
  have hdy : dy ≤ 6 := by omega
  have hdx : dx ≤ 6 := by omega
  have HAP : Hid (∀ a, a ∈ diff y x → (diff x y).count a = 0) := hap
  clear hd1 hd2 e1 e2 hDY hDX hlens hap hsum
  generalize diff y x = s at *
  generalize diff x y = v at *
  go_wp2
  go_loopw [16] (fun i wr => ∃ k : Nat, k ≤ dy ∧ i = .int .i64 k ∧ Below w5.heap.size w5 wr) (fun i _ => dy - (intOf i).toNat)
  case atStart => exact ⟨0, Nat.zero_le _, rfl, Below.refl _ _⟩
  case round =>
    obtain ⟨k, hk, rfl, hbel⟩ := hrel
    by_cases hlt : k < dy
    · have hsr := hs5.below hbel
      have hvr := hs6.below hbel
      obtain ⟨b, off, a, rfl, hb, hak, a0, a1, a2, a3⟩ := hsr.eff hlt
      have HZ := Lib.hid (HAP.out a (List.mem_of_getElem? hak))
      clear hak hs5 hs6 hy5
      go_wp2_with fail
      refine (count_any A6 dx v c6 a wr (by omega) hvr).mono ?_
      rintro e w6 ⟨rfl, hb6⟩
      rw [HZ.out]
      have hB6 := hbel.trans (hb6.mono hbel.size)
      clear a0 a1 a2 a3 hsr hvr hbel hb6
      go_wp2
      go_roundw
      case rel => exact ⟨k + 1, by omega, by go_num, hB6⟩
      case measure => simp [intOf]; omega
    · have hyr := hy5.below hbel
      have hbdr := hbd5.below hbel
      have hBr := hB5.trans (hbel.mono hB5.size)
      clear hy5 hbd5 hB5 hbel hs5 hs6
      obtain ⟨k0, k1⟩ := around_range turn (n2 + 1) (by omega)
      go_wp2_with fail
      refine (around_any turn (n2 + 1) wr H4.out.1 H4.out.2 (by omega)).mono ?_
      rintro e w6 ⟨rfl, rfl⟩
      obtain ⟨kk, hkk⟩ : ∃ kk : Nat, around turn (n2 + 1) = kk := ⟨(around turn (n2 + 1)).toNat, by omega⟩
      have hkn : kk ≤ n2 := by omega
      rw [hkk]
      clear hkk k0 k1
      go_upto_region 17 with fail
      clear hne hxl hc1 hc5 hc6 hdx hdy HAP hlt hk
      obtain ⟨i0, hi0, hz0, hz1, hz2⟩ := info_parts info51
      cases A2 with
      | none =>
        have hn20 := hyr.nilA rfl
        subst hn20
        obtain rfl : kk = 0 := by omega
        refine wp_region_pi (fun _ => True) [(0,0),(1,0),(2,0),(3,0),(4,0),(6,0),(7,0),(8,0),(5,1),(9,1),(10,2),(11,3),(12,3),(13,3),(14,3),(15,3),(16,3),(17,3)] [10] (by kernel_rfl) (by kernel_rfl) trivial ?_
        repeat (first | (refine pi_plain (by rfl) (by rfl) (fun K hK => ?_); go_big_quiet_op; refine hK _ ?_; clear hK K) | (refine pi_free (by rfl) (by rfl) (fun K hK => ?_); go_big_quiet_op; refine hK _ ?_; clear hK K))
        have hbD : Below wr.heap.size wr wr.drew := (Below.refl _ _).drew
        have hyd := hyr.below hbD
        have hbdd := hbdr.below hbD
        have hBd : Below w.heap.size w wr.drew := hBr.drew
        clear hyr hbdr hBr hbD
        generalize wr.drew = w7 at *
        have hsl1 := (show SlE w7 none 0 (y.drop 0) from ⟨by rw [List.length_drop, HN2.out], fun h => absurd h (by omega)⟩)
        have hsl2 := hyd.take hkn
        refine pi_soft (by rfl) (by rfl) (fun K hK => ?_)
        refine wp_append_src _ _ _ 30 rfl w7.heap.size 51 i0 _ 4 32 Try.underlying30 hi0 hz0 hz1 hz2 rfl (by decide) (.slice none 0 0) _ _ rfl (World.ownsRow_nil _ _ _ _) _ _ _ ((y.drop 0).flatMap Eff.cells) rfl (by rw [flat_len Eff.cells_len, ← hsl1.len]) hsl1.nilA (hsl1.news Eff.cells_len (by decide)) (flat_one Eff.cells_one _) (by unfold maxLen; omega) (by omega) (Nat.le_refl _) ?_
        intro Av cv w8 ho8 hg8
        have hb8 : Below w7.heap.size w7 w8 := below_own (Below.refl _ _) (World.ownsRow_nil w7 w7.heap.size 51 4) hg8 (Nat.le_refl _) (Nat.le_refl _)
        have hsl28 := hsl2.below hb8
        have hsz8 := hb8.size
        refine hK _ _ trivial ?_
        clear hK K hg8
        simp only [Act.put, List.setIfInBounds_toArray, List.set_cons_zero, List.set_cons_succ]
        refine pi_soft (by rfl) (by rfl) (fun K hK => ?_)
        refine wp_append_src _ _ _ 30 rfl w7.heap.size 51 i0 _ 4 32 Try.underlying30 hi0 hz0 hz1 hz2 rfl (by decide) _ _ _ rfl ho8 _ _ _ ((y.take 0).flatMap Eff.cells) rfl (by rw [flat_len Eff.cells_len, ← hsl28.len]) hsl28.nilA (hsl28.news Eff.cells_len (by decide)) (flat_one Eff.cells_one _) (by unfold maxLen; omega) (by omega) hsz8 ?_
        intro Av2 cv2 w9 ho9 hg9
        have hb9 : Below w7.heap.size w7 w9 := below_own hb8 ho8 hg9 (Nat.le_refl _) hsz8
        have hb89 : Below w7.heap.size w8 w9 := below_own (Below.refl _ _) ho8 hg9 (Nat.le_refl _) hsz8
        have hy9 := hyd.below hb9
        have hbd9 := hbdd.below hb9
        have hB9 := hBd.trans (hb9.mono hBd.size)
        have ho9' : w9.ownsRow w7.heap.size 51 4 (.slice Av2 0 cv2) 0 ((y.drop 0 ++ y.take 0).flatMap Eff.cells) := by simpa using ho9
        clear ho9 hg9 ho8 hsl28 hb9 hb8 hb89 hyd hbdd hBd hsl1 hsl2
        refine hK _ _ trivial ?_
        clear hK K
        simp only [Act.put, List.setIfInBounds_toArray, List.set_cons_zero, List.set_cons_succ]
        have hperm := rot_perm y 0
        have hlen : 0 = (y.drop 0 ++ y.take 0).length := by rw [hperm.length_eq, HN2.out]
        generalize y.drop 0 ++ y.take 0 = l at *
        have HP := Lib.hid hperm
        have HNL := Lib.hid hlen
        clear hperm hlen
        obtain ⟨A9, c9, hv9, hs9, hc9⟩ := Sl.of_own Eff.cells_len ho9' HNL.out
        cases hv9
        clear ho9'
        have HWL := Lib.hid (wrong_ok (bnd := 0) t0 t1 t0 (l := l) (by have := HNL.out; omega) (fun a ha => HY.out a (HP.out.mem_iff.1 ha)))
        refine pi_hard (by rfl) (by rfl) (fun K hK => ?_)
        go_big_op
        refine (show_is w9 p r ks2 cur2 0 t Av2 0 cv2 l hbd9 hs9 HWL.out [] [] 0 0 _ _ (by rw [HC2.out]; exact diff_same HP.out) (by rw [HC2.out]; exact diff_same HP.out.symm) rfl rfl rfl rfl).mono ?_
        rintro e w10 ⟨A10, c10, A11, c11, rfl, -, -, -, -, hbd10, hkp10⟩
        have hy10 := hy9.kt (hkp10.kt (S := fun t => t = 51) hbd9 (by decide)) rfl
        have hB10 := hB9.trans (hkp10.below hp2 hr2 hB9.size)
        have hcur : curOf cur2 t l t = l := if_pos rfl
        have hks := ksOf_only (ks := ks2) (t := t) l HK2.out
        generalize curOf cur2 t l = cur3 at *
        generalize ksOf ks2 t l = ks3 at *
        have hg := gath_one hbd10.nodup hks (fun h => hbd10.off t h)
        rw [hcur] at hg
        have HG := Lib.hid hg
        clear hcur hks hg hbd9 hs9 hy9 hB9 hkp10
        refine hK _ _ ?_
        clear hK K
        repeat (first | (refine pi_plain (by rfl) (by rfl) (fun K hK => ?_); go_big_quiet_op; refine hK _ ?_; clear hK K) | (refine pi_free (by rfl) (by rfl) (fun K hK => ?_); go_big_quiet_op; refine hK _ ?_; clear hK K))
        refine pi_nil ?_
        go_wp2_with fail
        refine (pending_is w10 p r _ _ _ hbd10 l 0 HG.out HNL.out.symm).mono ?_
        rintro e w11 ⟨A12, c12, rfl, hc12, hs11, hb11⟩
        have hy11 := hy10.below hb11
        have hB11 := hB10.trans (hb11.mono hB10.size)
        clear hbd10 hy10 hB10 hb11
        go_wp2_with fail
        refine (sameSet_is A12 _ 0 0 l y c12 c2 w11 (by omega) (by omega) hs11 hy11 true (sameSet_perm HP.out)).mono ?_
        rintro e w12 ⟨rfl, hb12⟩
        have hB12 := hB11.trans (hb12.mono hB11.size)
        clear hs11 hy11 hB11 hb12
        go_wp2_with fail
        refine (lives_any w12).mono ?_
        rintro e w13 ⟨rfl, hb13⟩
        have hB13 := hB12.trans (hb13.mono hB12.size)
        clear hB12 hb13
        go_wp2
        go_ret
        exact ⟨rfl, hB13⟩
      | some ad =>
      refine wp_region_pi (fun _ => True) [(0,0),(1,0),(2,0),(3,0),(4,0),(6,0),(7,0),(8,0),(5,1),(9,1),(10,2),(11,3),(12,3),(13,3),(14,3),(15,3),(16,3),(17,3)] [10] (by kernel_rfl) (by kernel_rfl) trivial ?_
      repeat (first | (refine pi_plain (by rfl) (by rfl) (fun K hK => ?_); go_big_quiet_op; refine hK _ ?_; clear hK K) | (refine pi_free (by rfl) (by rfl) (fun K hK => ?_); go_big_quiet_op; refine hK _ ?_; clear hK K))
      have hbD : Below wr.heap.size wr wr.drew := (Below.refl _ _).drew
      have hyd := hyr.below hbD
      have hbdd := hbdr.below hbD
      have hBd : Below w.heap.size w wr.drew := hBr.drew
      clear hyr hbdr hBr hbD
      generalize wr.drew = w7 at *
      have hsl1 := hyd.drop_any hkn hc2
      generalize (if c2 = kk then some ad else some (ad.add (kk * 4))) = AA at *
      have hsl2 := hyd.take hkn
      refine pi_soft (by rfl) (by rfl) (fun K hK => ?_)
      refine wp_append_src _ _ _ 30 rfl w7.heap.size 51 i0 _ 4 32 Try.underlying30 hi0 hz0 hz1 hz2 rfl (by decide) (.slice none 0 0) _ _ rfl (World.ownsRow_nil _ _ _ _) _ _ _ ((y.drop kk).flatMap Eff.cells) rfl (by rw [flat_len Eff.cells_len, ← hsl1.len]) hsl1.nilA (hsl1.news Eff.cells_len (by decide)) (flat_one Eff.cells_one _) (by unfold maxLen; omega) (by omega) (Nat.le_refl _) ?_
      intro Av cv w8 ho8 hg8
      have hb8 : Below w7.heap.size w7 w8 := below_own (Below.refl _ _) (World.ownsRow_nil w7 w7.heap.size 51 4) hg8 (Nat.le_refl _) (Nat.le_refl _)
      have hsl28 := hsl2.below hb8
      have hsz8 := hb8.size
      refine hK _ _ trivial ?_
      clear hK K hg8
      simp only [Act.put, List.setIfInBounds_toArray, List.set_cons_zero, List.set_cons_succ]
      refine pi_soft (by rfl) (by rfl) (fun K hK => ?_)
      refine wp_append_src _ _ _ 30 rfl w7.heap.size 51 i0 _ 4 32 Try.underlying30 hi0 hz0 hz1 hz2 rfl (by decide) _ _ _ rfl ho8 _ _ _ ((y.take kk).flatMap Eff.cells) rfl (by rw [flat_len Eff.cells_len, ← hsl28.len]) hsl28.nilA (hsl28.news Eff.cells_len (by decide)) (flat_one Eff.cells_one _) (by unfold maxLen; omega) (by omega) hsz8 ?_
      intro Av2 cv2 w9 ho9 hg9
      have hb9 : Below w7.heap.size w7 w9 := below_own hb8 ho8 hg9 (Nat.le_refl _) hsz8
      have hb89 : Below w7.heap.size w8 w9 := below_own (Below.refl _ _) ho8 hg9 (Nat.le_refl _) hsz8
      have hy9 := hyd.below hb9
      have hbd9 := hbdd.below hb9
      have hB9 := hBd.trans (hb9.mono hBd.size)
      have ho9' : w9.ownsRow w7.heap.size 51 4 (.slice Av2 (0 + (n2 - kk) + kk) cv2) (0 + (n2 - kk) + kk) ((y.drop kk ++ y.take kk).flatMap Eff.cells) := by simpa using ho9
      clear ho9 hg9 ho8 hsl28 hb9 hb8 hb89 hyd hbdd hBd hsl1 hsl2
      refine hK _ _ trivial ?_
      clear hK K
      simp only [Act.put, List.setIfInBounds_toArray, List.set_cons_zero, List.set_cons_succ]
      have hperm := rot_perm y kk
      have hlen : 0 + (n2 - kk) + kk = (y.drop kk ++ y.take kk).length := by rw [hperm.length_eq, HN2.out]; omega
      have hnn : 0 + (n2 - kk) + kk = n2 := by omega
      generalize y.drop kk ++ y.take kk = l at *
      rw [hnn] at *
      have HP := Lib.hid hperm
      have HNL := Lib.hid hlen
      clear hperm hlen hnn
      obtain ⟨A9, c9, hv9, hs9, hc9⟩ := Sl.of_own Eff.cells_len ho9' HNL.out
      cases hv9
      clear ho9'
      have HWL := Lib.hid (wrong_ok (bnd := 0) t0 t1 t0 (l := l) (by have := HNL.out; omega) (fun a ha => HY.out a (HP.out.mem_iff.1 ha)))
      refine pi_hard (by rfl) (by rfl) (fun K hK => ?_)
      go_big_op
      refine (show_is w9 p r ks2 cur2 0 t Av2 n2 cv2 l hbd9 hs9 HWL.out [] [] 0 0 _ _ (by rw [HC2.out]; exact diff_same HP.out) (by rw [HC2.out]; exact diff_same HP.out.symm) rfl rfl rfl rfl).mono ?_
      rintro e w10 ⟨A10, c10, A11, c11, rfl, -, -, -, -, hbd10, hkp10⟩
      have hy10 := hy9.kt (hkp10.kt (S := fun t => t = 51) hbd9 (by decide)) rfl
      have hB10 := hB9.trans (hkp10.below hp2 hr2 hB9.size)
      have hcur : curOf cur2 t l t = l := if_pos rfl
      have hks := ksOf_only (ks := ks2) (t := t) l HK2.out
      generalize curOf cur2 t l = cur3 at *
      generalize ksOf ks2 t l = ks3 at *
      have hg := gath_one hbd10.nodup hks (fun h => hbd10.off t h)
      rw [hcur] at hg
      have HG := Lib.hid hg
      clear hcur hks hg hbd9 hs9 hy9 hB9 hkp10
      refine hK _ _ ?_
      clear hK K
      repeat (first | (refine pi_plain (by rfl) (by rfl) (fun K hK => ?_); go_big_quiet_op; refine hK _ ?_; clear hK K) | (refine pi_free (by rfl) (by rfl) (fun K hK => ?_); go_big_quiet_op; refine hK _ ?_; clear hK K))
      refine pi_nil ?_
      go_wp2_with fail
      refine (pending_is w10 p r _ _ _ hbd10 l n2 HG.out HNL.out.symm).mono ?_
      rintro e w11 ⟨A12, c12, rfl, hc12, hs11, hb11⟩
      have hy11 := hy10.below hb11
      have hB11 := hB10.trans (hb11.mono hB10.size)
      clear hbd10 hy10 hB10 hb11
      go_wp2_with fail
      refine (sameSet_is A12 _ n2 n2 l y c12 c2 w11 (by omega) (by omega) hs11 hy11 true (sameSet_perm HP.out)).mono ?_
      rintro e w12 ⟨rfl, hb12⟩
      have hB12 := hB11.trans (hb12.mono hB11.size)
      clear hs11 hy11 hB11 hb12
      go_wp2_with fail
      refine (lives_any w12).mono ?_
      rintro e w13 ⟨rfl, hb13⟩
      have hB13 := hB12.trans (hb13.mono hB12.size)
      clear hB12 hb13
      go_wp2
      go_ret
      exact ⟨rfl, hB13⟩
end Go.Proofs.Ytllcankinjomaaa
