import Derived.Test.YtllcankinjomaaaP6
namespace Go.Proofs.Ytllcankinjomaaa
set_option linter.unusedSimpArgs false
set_option linter.unusedVariables false
open Go.RowKit Go.MapKept Go.Maps

theorem diffGo_nil : ∀ (l pre : List Eff), diffGo [] pre l = l
  | [], _ => rfl
  | x :: l, pre => by simp [diffGo, diffGo_nil l]
theorem diff_nil (l : List Eff) : diff l [] = l := diffGo_nil l []
theorem sameSet_refl (l : List Eff) : sameSet l l = true := by simp [sameSet]
theorem Bd.nodup {w : World} {p r : Nat} {ks : List Int} {cur : Int → List Eff} {bnd : Int} (h : Bd w p r ks cur bnd) : ks.Nodup := by
  obtain ⟨f, hf, _⟩ := h.map
  exact hf.nodup (int_key Try.underlying3)
theorem only_one : ∀ {ks : List Int} {t : Int}, ks.Nodup → (∀ k ∈ ks, k = t) → ks = [] ∨ ks = [t]
  | [], _, _, _ => .inl rfl
  | [a], _, _, h => by have := h a (by simp); subst this; exact .inr rfl
  | a :: b :: l, t, hn, h => by
    have h1 := h a (by simp)
    have h2 := h b (by simp)
    simp [h1, h2] at hn
theorem gath_one {ks : List Int} {cur : Int → List Eff} {t : Int} (hn : ks.Nodup) (h : ∀ k ∈ ks, k = t) (hoff : t ∉ ks → cur t = []) : gath cur (sortI ks) = cur t := by
  rcases only_one hn h with rfl | rfl
  · simp [sortI, gath, hoff]
  · simp [sortI, gath]
theorem ksOf_only {ks : List Int} {t : Int} (l : List Eff) (h : ∀ k ∈ ks, k = t) : ∀ k ∈ ksOf ks t l, k = t := by
  intro k hk
  unfold ksOf at hk
  split at hk
  · exact h k (List.mem_filter.1 hk).1
  · rw [kput_mem] at hk; exact hk.elim (h k) id
theorem mkEff_tick (t n : Int) (i : Nat) : (mkEff t n i).tick = t := rfl
theorem listOf_tick (t n : Int) : ∀ x ∈ listOf t n, x.tick = t := by
  intro x hx
  unfold listOf listTo at hx
  obtain ⟨i, _, rfl⟩ := List.mem_map.1 hx
  rfl
theorem wrong_ok {bnd t : Int} {l : List Eff} (h0 : 0 ≤ t) (h1 : t < 6000) (h2 : bnd ≤ t) (h3 : l.length ≤ 40) (h4 : ∀ x ∈ l, x.tick = t) : wrong bnd t l = 0 := by
  unfold wrong
  rw [if_neg (by omega), if_neg (by omega), if_neg (by omega), if_pos]
  simpa using h4

theorem list_is (t n : Int) (w : World) (h0 : -9223372036854775808 ≤ n) (hn : n ≤ 9223372036854775807) (l : List Eff) (m : Nat) (hl : listOf t n = l) (hm : l.length = m) :
    Calls Try.prog 24 #[.int .i64 t, .int .i64 n] w fun e w' => ∃ A c, e = .returned (.slice A m c) ∧ m ≤ c ∧ SlE w' A m l ∧ Below w.heap.size w w' := by
  subst hl hm
  refine (list_any t n w h0 hn).mono ?_
  rintro e w' ⟨v, rfl, h1, h2⟩
  obtain ⟨A1, c1, rfl, hs1, hc1⟩ := Sl.of_own Eff.cells_len h1 rfl
  exact ⟨A1, c1, rfl, hc1, hs1, h2⟩
theorem sameSet_is (A B : Option Addr) (n m : Nat) (xs ys : List Eff) (cap cap' : Nat) (w : World) (hn : n ≤ 9223372036854775807) (hm : m ≤ 9223372036854775807) (hx : SlE w A n xs) (hy : SlE w B m ys) (b : Bool) (hb : sameSet xs ys = b) :
    Calls Try.prog 26 #[.slice A n cap, .slice B m cap'] w fun e w' => e = .returned (.bool b) ∧ Below w.heap.size w w' := by
  subst hb
  exact sameSet_any A B n m xs ys cap cap' w hn hm hx hy

set_option maxHeartbeats 1000000 in
set_option maxRecDepth 100000 in
theorem rollback_any (tick one two : Int) (w : World) (h1 : -9223372036854775808 ≤ tick ∧ tick ≤ 9223372036854775807) (h2 : -9223372036854775808 ≤ one ∧ one ≤ 9223372036854775807) (h3 : -9223372036854775808 ≤ two ∧ two ≤ 9223372036854775807) :
    Calls Try.prog 9 #[.int .i64 tick, .int .i64 one, .int .i64 two] w fun e w' => e = .returned (.bool true) ∧ Below w.heap.size w w' := by
  obtain ⟨t0, t1⟩ := around_range tick 6000 (by omega)
  go_enter Try.func9, Try.ntmps9
  go_wp2_with fail
  refine (around_any tick 6000 w h1.1 h1.2 (by omega)).mono ?_
  rintro e w0 ⟨rfl, rfl⟩
  generalize around tick 6000 = t at *
  have hxl := listOf_len t one
  have hyl := listOf_len t two
  have hxt := listOf_tick t one
  have hyt := listOf_tick t two
  have H2 := Lib.hid h2
  have H3 := Lib.hid h3
  clear h1 h2 h3
  go_wp2_with fail
  refine (list_is t one w H2.out.1 H2.out.2 _ _ rfl rfl).mono ?_
  rintro e w1 ⟨A1, c1, rfl, hc1, hx1, hb1⟩
  go_wp2_with fail
  refine (list_is t two w1 H3.out.1 H3.out.2 _ _ rfl rfl).mono ?_
  rintro e w2 ⟨A2, c2, rfl, hc2, hy2, hb2⟩
  have hx2 := hx1.below hb2
  have hB2 := hb1.trans (hb2.mono hb1.size)
  clear hx1 hb1 hb2
  generalize listOf t one = x at *
  generalize listOf t two = y at *
  have HX := Lib.hid hxt
  have HY := Lib.hid hyt
  clear hxt hyt
  generalize hn1 : x.length = n1 at *
  generalize hn2 : y.length = n2 at *
  have HN1 := Lib.hid hn1
  have HN2 := Lib.hid hn2
  clear hn1 hn2
  go_wp2_with fail
  refine (new_bd w2).mono ?_
  rintro e w3 ⟨p, r, rfl, hbd, hp, hr, hb3⟩
  have hp2 : w.heap.size ≤ p := by have := hB2.size; omega
  have hr2 : w.heap.size ≤ r := by have := hB2.size; omega
  have hB3 := hB2.trans (hb3.mono hB2.size)
  have hx3 := hx2.below hb3
  have hy3 := hy2.below hb3
  clear hx2 hy2 hb3 hB2 hp hr
  have hwx := wrong_ok (bnd := 0) t0 t1 t0 (l := x) (by have := HN1.out; omega) HX.out
  have hwy := wrong_ok (bnd := 0) t0 t1 t0 (l := y) (by have := HN2.out; omega) HY.out
  have HWX := Lib.hid hwx
  have HWY := Lib.hid hwy
  clear hwx hwy
  go_wp2_with fail
  refine (show_is w3 p r _ _ 0 t A1 n1 c1 x hbd hx3 HWX.out x _ n1 _ _ _ (diff_nil x) rfl HN1.out rfl rfl rfl).mono ?_
  rintro e w4 ⟨A3, c3, A4, c4, rfl, hc3, -, hs3, -, hbd4, hkp4⟩
  have hk51 := hkp4.kt (S := fun t => t = 51) hbd (by decide)
  have hx4 := hx3.kt hk51 rfl
  have hy4 := hy3.kt hk51 rfl
  have hB4 := hB3.trans (hkp4.below hp2 hr2 hB3.size)
  clear hbd hx3 hy3 hkp4 hk51 hB3
  have hcur : curOf (fun _ => []) t x t = x := if_pos rfl
  have hks := ksOf_only (ks := []) (t := t) x (by simp)
  generalize curOf (fun _ => []) t x = cur1 at *
  generalize ksOf [] t x = ks1 at *
  have HC1 := Lib.hid hcur
  have HK1 := Lib.hid hks
  clear hcur hks
  generalize (diff [] x).length = q1
  go_wp2_with fail
  refine (show_is w4 p r _ _ 0 t A2 n2 c2 y hbd4 hy4 HWY.out (diff y x) (diff x y) _ _ _ _ (by rw [HC1.out]) (by rw [HC1.out]) rfl rfl rfl rfl).mono ?_
  rintro e w5 ⟨A5, c5, A6, c6, rfl, hc5, hc6, hs5, hs6, hbd5, hkp5⟩
  have hk51 := hkp5.kt (S := fun t => t = 51) hbd4 (by decide)
  have hx5 := hx4.kt hk51 rfl
  have hs3' := hs3.kt hk51 rfl
  have hB5 := hB4.trans (hkp5.below hp2 hr2 hB4.size)
  clear hbd4 hx4 hy4 hs3 hkp5 hk51 hB4
  have hcur : curOf cur1 t y t = y := if_pos rfl
  have hks := ksOf_only (ks := ks1) (t := t) y HK1.out
  generalize curOf cur1 t y = cur2 at *
  generalize ksOf ks1 t y = ks2 at *
  have HC2 := Lib.hid hcur
  have HK2 := Lib.hid hks
  clear hcur hks HC1 HK1
  go_wp2_with fail
  refine (show_is w5 p r _ _ 0 t A1 n1 c1 x hbd5 hx5 HWX.out (diff x y) (diff y x) _ _ _ _ (by rw [HC2.out]) (by rw [HC2.out]) rfl rfl rfl rfl).mono ?_
  rintro e w6 ⟨A7, c7, A8, c8, rfl, hc7, hc8, hs7, hs8, hbd6, hkp6⟩
  have hk51 := hkp6.kt (S := fun t => t = 51) hbd5 (by decide)
  have hx6 := hx5.kt hk51 rfl
  have hs3 := hs3'.kt hk51 rfl
  have hs5' := hs5.kt hk51 rfl
  have hs6' := hs6.kt hk51 rfl
  have hB6 := hB5.trans (hkp6.below hp2 hr2 hB5.size)
  clear hbd5 hx5 hs3' hs5 hs6 hkp6 hk51 hB5
  have hcur : curOf cur2 t x t = x := if_pos rfl
  have hks := ksOf_only (ks := ks2) (t := t) x HK2.out
  generalize curOf cur2 t x = cur3 at *
  generalize ksOf ks2 t x = ks3 at *
  have hg := gath_one hbd6.nodup hks (fun h => hbd6.off t h)
  rw [hcur] at hg
  have hout : confOut ks3 cur3 0 (t + 1) = x := by
    unfold confOut
    rw [if_neg (by omega), List.filter_eq_self.2]
    · exact hg
    · intro k hk
      have := hks k ((List.mergeSort_perm ks3 _).mem_iff.1 hk)
      simp; omega
  have HG := Lib.hid hg
  have HO := Lib.hid hout
  clear hcur hks hg hout HC2 HK2
  have hd1 := diff_len y x
  have hd2 := diff_len x y
  have e1 := HN1.out
  have e2 := HN2.out
  generalize hDY : (diff y x).length = dy at *
  generalize hDX : (diff x y).length = dx at *
  have hdy : dy ≤ 6 := by omega
  have hdx : dx ≤ 6 := by omega
  clear hd1 hd2 e1 e2 hDY hDX
  go_wp2_with fail
  refine (sameSet_is A3 A1 n1 n1 x x c3 c1 w6 (by omega) (by omega) hs3 hx6 true (sameSet_refl x)).mono ?_
  rintro e w7 ⟨rfl, hb7⟩
  have hx7 := hx6.below hb7
  have hs5'' := hs5'.below hb7
  have hs6'' := hs6'.below hb7
  have hs7' := hs7.below hb7
  have hs8' := hs8.below hb7
  have hbd7 := hbd6.below hb7
  have hB7 := hB6.trans (hb7.mono hB6.size)
  clear hx6 hs3 hs5' hs6' hs7 hs8 hbd6 hb7 hB6
  go_wp2_with fail
  refine (sameSet_is A7 A6 dx dx (diff x y) (diff x y) c7 c6 w7 (by omega) (by omega) hs7' hs6'' true (sameSet_refl _)).mono ?_
  rintro e w8 ⟨rfl, hb8⟩
  have hx8 := hx7.below hb8
  have hs5 := hs5''.below hb8
  have hs8 := hs8'.below hb8
  have hbd8 := hbd7.below hb8
  have hB8 := hB7.trans (hb8.mono hB7.size)
  clear hx7 hs5'' hs6'' hs7' hs8' hbd7 hb8 hB7
  go_wp2_with fail
  refine (sameSet_is A8 A5 dy dy (diff y x) (diff y x) c8 c5 w8 (by omega) (by omega) hs8 hs5 true (sameSet_refl _)).mono ?_
  rintro e w9 ⟨rfl, hb9⟩
  have hx9 := hx8.below hb9
  have hbd9 := hbd8.below hb9
  have hB9 := hB8.trans (hb9.mono hB8.size)
  clear hx8 hs5 hs8 hbd8 hb9 hB8
  go_wp2_with fail
  refine (pending_is w9 p r _ _ _ hbd9 x n1 HG.out HN1.out).mono ?_
  rintro e w10 ⟨A9, c9, rfl, hc9, hs9, hb10⟩
  have hx10 := hx9.below hb10
  have hbd10 := hbd9.below hb10
  have hB10 := hB9.trans (hb10.mono hB9.size)
  clear hx9 hbd9 hb10 hB9
  go_wp2_with fail
  refine (same_is A9 A1 n1 n1 x x c9 c1 w10 (by omega) (by omega) hs9 hx10 true (by simp)).mono ?_
  rintro e w11 ⟨rfl, hb11⟩
  have hx11 := hx10.below hb11
  have hbd11 := hbd10.below hb11
  have hB11 := hB10.trans (hb11.mono hB10.size)
  clear hx10 hbd10 hb11 hB10 hs9
  go_wp2_with fail
  refine (confirm_is w11 p r _ _ _ _ hbd11 x n1 _ _ _ HO.out HN1.out rfl rfl rfl).mono ?_
  rintro e w12 ⟨A10, c10, rfl, hc10, hs10, -, hkp12⟩
  have hx12 := hx11.kt (hkp12.kt (S := fun t => t = 51) hbd11 (by decide)) rfl
  have hB12 := hB11.trans (hkp12.below hp2 hr2 hB11.size)
  clear hx11 hbd11 hkp12 hB11
  go_wp2_with fail
  refine (same_is A10 A1 n1 n1 x x c10 c1 w12 (by omega) (by omega) hs10 hx12 true (by simp)).mono ?_
  rintro e w13 ⟨rfl, hb13⟩
  have hB13 := hB12.trans (hb13.mono hB12.size)
  clear hx12 hs10 hb13 hB12
  go_wp2_with fail
  refine (lives_any w13).mono ?_
  rintro e w14 ⟨rfl, hb14⟩
  have hB14 := hB13.trans (hb14.mono hB13.size)
  clear hB13 hb14
  go_wp2
  go_ret
  exact ⟨rfl, hB14⟩
end Go.Proofs.Ytllcankinjomaaa
