import Derived.Test.YtllcankinjomaaaP7
namespace Go.Proofs.Ytllcankinjomaaa
set_option linter.unusedSimpArgs false
set_option linter.unusedVariables false
open Go.RowKit Go.MapKept Go.Maps

theorem ksOf_mem {ks : List Int} {t k : Int} {l : List Eff} : k ∈ ksOf ks t l ↔ if k = t then l ≠ [] else k ∈ ks := by
  unfold ksOf
  by_cases hl : l = []
  · rw [if_pos hl, List.mem_filter]
    by_cases hk : k = t <;> simp [hk, hl]
  · rw [if_neg hl, kput_mem]
    by_cases hk : k = t <;> simp [hk, hl]
theorem pend_ext {ks ks' : List Int} {cur cur' : Int → List Eff} (hn : ks.Nodup) (hn' : ks'.Nodup) (hm : ∀ k, k ∈ ks ↔ k ∈ ks') (hc : cur = cur') : pend ks cur = pend ks' cur' := by
  subst hc
  unfold pend
  rw [show sortI ks = sortI ks' from mergeSort_of_perm_i ((List.perm_ext_iff_of_nodup hn hn').2 hm)]
theorem BS.show_bnd (s : BS) (t : Int) (l : List Eff) : (s.show t l).bnd = s.bnd := by unfold BS.show; split <;> rfl
theorem BS.show_cur (s : BS) (t k : Int) (l : List Eff) (h : k ≠ t) : (s.show t l).cur k = s.cur k := by
  unfold BS.show; split
  · simp [curOf, h]
  · rfl
theorem BS.show_s1 (s : BS) {t k : Int} (l m : List Eff) (h : k ≠ t) : (s.show t l).s1 k m = s.s1 k m := by unfold BS.s1; rw [BS.show_bnd, BS.show_cur s t k l h]
theorem BS.show_s2 (s : BS) {t k : Int} (l m : List Eff) (h : k ≠ t) : (s.show t l).s2 k m = s.s2 k m := by unfold BS.s2; rw [BS.show_bnd, BS.show_cur s t k l h]
theorem BS.show_cur2 (s : BS) {a b : Int} (l m : List Eff) (h : a ≠ b) : ((s.show a l).show b m).cur = ((s.show b m).show a l).cur := by
  funext k
  by_cases ha : k = a
  · subst ha
    rw [BS.show_cur _ _ _ _ h]
    unfold BS.show
    by_cases h1 : wrong s.bnd k l = 0 <;> by_cases h2 : wrong s.bnd b m = 0 <;> simp [h1, h2, curOf, h]
  · by_cases hb : k = b
    · subst hb
      rw [BS.show_cur _ a k l ha]
      unfold BS.show
      by_cases h1 : wrong s.bnd a l = 0 <;> by_cases h2 : wrong s.bnd k m = 0 <;> simp [h1, h2, curOf, ha]
    · rw [BS.show_cur _ _ _ _ hb, BS.show_cur _ _ _ _ ha, BS.show_cur _ _ _ _ ha, BS.show_cur _ _ _ _ hb]
theorem BS.show_ks2 (s : BS) {a b : Int} (l m : List Eff) (h : a ≠ b) (k : Int) : k ∈ ((s.show a l).show b m).ks ↔ k ∈ ((s.show b m).show a l).ks := by
  unfold BS.show
  by_cases h1 : wrong s.bnd a l = 0 <;> by_cases h2 : wrong s.bnd b m = 0 <;> simp only [h1, h2, if_true, if_false, ksOf_mem] <;> try rfl
  by_cases ha : k = a
  · subst ha; simp [h]
  · by_cases hb : k = b
    · subst hb; simp [ha]
    · simp [ha, hb]

theorem BdS.other {w w' : World} {p r p' r' : Nat} {s : BS} {s0 : BS} (h : BdS w p' r' s) (h0 : BdS w p r s0) (hk : Kept p r w w') (h1 : p' ≠ p) (h2 : p' ≠ r) (h3 : r' ≠ p) (h4 : r' ≠ r) : BdS w' p' r' s :=
  Bd.keep h (hk.block _ h.plt h1 h2) (hk.block _ h.rlt h3 h4) (hk.kt h0 (by decide))
theorem SlC.kept {w w' : World} {p r : Nat} {s0 : BS} {A : Option Addr} {n : Nat} {xs : List CallM} (h : SlC w A n xs) (h0 : BdS w p r s0) (hk : Kept p r w w') : SlC w' A n xs :=
  SlR.kt (S := fun t => t ≠ 60) (callR.stays (by decide)) h (hk.kt h0 (by simp)) (by decide)
theorem SlC.under {w w' : World} {A : Option Addr} {n : Nat} {xs : List CallM} (h : SlC w A n xs) (hb : Below w.heap.size w w') : SlC w' A n xs :=
  SlR.below (S := fun t => t ≠ 60) (callR.stays (by decide)) h hb
theorem SlE.kept {w w' : World} {p r : Nat} {s0 : BS} {A : Option Addr} {n : Nat} {xs : List Eff} (h : SlE w A n xs) (h0 : BdS w p r s0) (hk : Kept p r w w') : SlE w' A n xs :=
  h.kt (S := fun t => t = 51) (hk.kt h0 (by decide)) rfl

set_option maxHeartbeats 2000000 in
set_option maxRecDepth 100000 in
theorem commute_any {tt : TypeId} (A : Option Addr) (n cap : Nat) (xs : List Int) (sn tn one two : Int) (w : World) (hn : n ≤ 9223372036854775807) (hx : SlI tt w A n xs) (hb64 : ∀ x ∈ xs, -9223372036854775808 ≤ x ∧ x ≤ 9223372036854775807)
    (h1 : -9223372036854775808 ≤ sn ∧ sn ≤ 9223372036854775807) (h2 : -9223372036854775808 ≤ tn ∧ tn ≤ 9223372036854775807) (h3 : -9223372036854775808 ≤ one ∧ one ≤ 9223372036854775807) (h4 : -9223372036854775808 ≤ two ∧ two ≤ 9223372036854775807) :
    Calls Try.prog 8 #[.slice A n cap, .int .i64 sn, .int .i64 tn, .int .i64 one, .int .i64 two] w fun e w' => e = .returned (.bool true) ∧ Below w.heap.size w w' := by
  have H1 := Lib.hid h1
  have H2 := Lib.hid h2
  have H3 := Lib.hid h3
  have H4 := Lib.hid h4
  have HB := Lib.hid hb64
  clear h1 h2 h3 h4 hb64
  go_enter Try.func8, Try.ntmps8
  go_wp2_with fail
  refine (new_bd w).mono ?_
  rintro e w1 ⟨p, r, rfl, hbd1, hp, hr, hb1⟩
  have hx1 := hx.below hb1
  clear hx
  go_wp2_with fail
  refine (new_bd w1).mono ?_
  rintro e w2 ⟨p', r', rfl, hbd2', hp', hr', hb2⟩
  have hpp : p' ≠ p := by have := hbd1.plt; omega
  have hpr : p' ≠ r := by have := hbd1.rlt; omega
  have hrp : r' ≠ p := by have := hbd1.plt; omega
  have hrr : r' ≠ r := by have := hbd1.rlt; omega
  have hp2 : w.heap.size ≤ p' := by have := hb1.size; omega
  have hr2 : w.heap.size ≤ r' := by have := hb1.size; omega
  have hbd2 := hbd1.below hb2
  have hx2 := hx1.below hb2
  have hB2 := hb1.trans (hb2.mono hb1.size)
  clear hbd1 hx1 hb1 hb2 hp' hr'
  go_wp2_with fail
  refine (calls_is A n cap xs w2 hn hx2 HB.out _ _ rfl rfl).mono ?_
  rintro e w3 ⟨B, cc, rfl, hcc, hsc, hb3⟩
  have hbx0 : BdS w3 p r BS.init := hbd2.below hb3
  have hby0 : BdS w3 p' r' BS.init := hbd2'.below hb3
  have hB3 := hB2.trans (hb3.mono hB2.size)
  have hm30 := callsOf_len xs
  have HOK := Lib.hid (callsOf_ok xs)
  clear hbd2 hbd2' hx2 hb3 hB2
  generalize callsOf xs = cs at *
  generalize hm : cs.length = m at *
  go_wp2
  go_loopw [14] (fun i wr => ∃ k : Nat, k ≤ m ∧ i = .int .i64 k ∧ BdS wr p r (BS.init.calls (cs.take k)) ∧ BdS wr p' r' (BS.init.calls (cs.take k)) ∧ SlC wr B m cs ∧ Below w.heap.size w wr) (fun i _ => m - (intOf i).toNat)
  case atStart => exact ⟨0, Nat.zero_le _, rfl, hbx0, hby0, hsc, hB3⟩
  case round =>
    clear hsc hbx0 hby0 hB3
    obtain ⟨k, hk, rfl, hbx, hby, hsc, hbel⟩ := hrel
    have hsz := hbel.size
    by_cases hlt : k < m
    · obtain ⟨b, off, c, C, q, qc, rfl, hbl, hck, hqc, hsl, d0, d1, d2⟩ := hsc.call hlt
      have HT := Lib.hid (take_succ_some hck)
      have HCK := Lib.hid hck
      have hok := HOK.out c (List.mem_of_getElem? hck)
      obtain ⟨o0, o1, o2, -⟩ := hok
      clear hck
      have HS : Hid (BS.init.calls (cs.take (k + 1)) = (BS.init.calls (cs.take k)).call c) := by show _ = _; rw [HT.out, BS.calls_snoc]
      generalize BS.init.calls (cs.take k) = s at *
      have hq6 : q ≤ 6 := by have := hsl.len; omega
      clear o2
      cases hcf : c.conf
      · rw [hcf] at d0
        have HC : Hid (s.call c = s.show c.tick c.l) := by show _ = _; unfold BS.call; rw [hcf]; rfl
        clear hcf
        go_upto_region 12 with fail
        have hU := fun (u : Up wr) => Up.cell u
        refine wp_region_piUp [(0, 0), (1, 0), (2, 0), (3, 0), (4, 0), (5, 0), (6, 0), (7, 0), (8, 0), (9, 0), (10, 0), (11, 2)] [11] (by kernel_rfl) (by kernel_rfl) ?_
        repeat (first | (refine pi_plain (by rfl) (by rfl) (fun K hK => ?_); go_big_quiet_op; refine hK _ ?_; clear hK K))
        refine pi_hard (by rfl) (by rfl) (fun K hK => ?_)
        go_big_op
        refine (show_all wr.drew p r s c.tick C q qc c.l (Bd.below hbx (Below.refl _ _).drew) (by omega) (hsl.below (Below.refl _ _).drew) _ rfl _ _ _ _ _ rfl rfl rfl rfl rfl).mono ?_
        rintro e w4 ⟨A1, c1, A2, c2, rfl, -, -, -, -, hb4, hkp⟩
        have hkp' : Kept p r wr w4 := ⟨hkp.os, hkp.tape, hkp.output, hkp.size, hkp.block⟩
        refine hK _ _ ?_
        clear hK K hU
        refine pi_nil ?_
        have hby4 := hby.other hbx hkp' hpp hpr hrp hrr
        have hsc4 := hsc.kept hbx hkp'
        have hbel4 := hbel.trans (hkp'.below hp hr hsz)
        clear hbx hby hsc hsl hbel hkp hkp' d0 d1 d2
        obtain ⟨b', off', c', C', q', qc', hA', hbl', hck', hqc', hsl', d0, d1, d2⟩ := hsc4.call hlt
        cases hA'
        obtain rfl : c = c' := Option.some.inj (HCK.out.symm.trans hck')
        clear hck' d0
        have hq6' : q' ≤ 6 := by have := hsl'.len; have := (HOK.out c (List.mem_of_getElem? HCK.out)).2.2.1; omega
        have hsz4 := hbel4.size
        go_upto_region 13 with fail
        have hU := fun (u : Up w4) => Up.cell u
        refine wp_region_piUp [(0, 0), (1, 0), (2, 0), (3, 0), (4, 0), (5, 0), (6, 0), (7, 0), (8, 0), (9, 0), (10, 0), (11, 2)] [11] (by kernel_rfl) (by kernel_rfl) ?_
        repeat (first | (refine pi_plain (by rfl) (by rfl) (fun K hK => ?_); go_big_quiet_op; refine hK _ ?_; clear hK K))
        refine pi_hard (by rfl) (by rfl) (fun K hK => ?_)
        go_big_op
        refine (show_all w4.drew p' r' s c.tick C' q' qc' c.l (Bd.below hby4 (Below.refl _ _).drew) (by omega) (hsl'.below (Below.refl _ _).drew) _ rfl _ _ _ _ _ rfl rfl rfl rfl rfl).mono ?_
        rintro e w5 ⟨A1, c1, A2, c2, rfl, -, -, -, -, hb5, hkp⟩
        have hkp' : Kept p' r' w4 w5 := ⟨hkp.os, hkp.tape, hkp.output, hkp.size, hkp.block⟩
        refine hK _ _ ?_
        clear hK K hU
        refine pi_nil ?_
        have hb4' := BdS.other hb4 hby4 hkp' (Ne.symm hpp) (Ne.symm hrp) (Ne.symm hpr) (Ne.symm hrr)
        have hsc5 := hsc4.kept hby4 hkp'
        have hbel5 := hbel4.trans (hkp'.below hp2 hr2 hsz4)
        clear hby4 hb4 hsc4 hbel4 hkp hkp' d1 d2 hsl'
        go_wp2
        go_roundw
        case rel => exact ⟨k + 1, by omega, by go_num, by rw [HS.out, HC.out]; exact hb4', by rw [HS.out, HC.out]; exact hb5, hsc5, hbel5⟩
        case measure => simp [intOf]; omega
      · rw [hcf] at d0
        have HC : Hid (s.call c = s.conf c.tick) := by show _ = _; unfold BS.call; rw [hcf]; rfl
        clear hcf
        go_wp2_with fail
        refine (conf_all wr p r s c.tick hbx _ _ _ rfl rfl rfl).mono ?_
        rintro e w4 ⟨A1, c1, rfl, -, -, hb4, hkp'⟩
        have hby4 := hby.other hbx hkp' hpp hpr hrp hrr
        have hsc4 := hsc.kept hbx hkp'
        have hbel4 := hbel.trans (hkp'.below hp hr hsz)
        clear hbx hby hsc hsl hbel hkp' d0 d1 d2
        obtain ⟨b', off', c', C', q', qc', hA', hbl', hck', hqc', hsl', d0, d1, d2⟩ := hsc4.call hlt
        cases hA'
        obtain rfl : c = c' := Option.some.inj (HCK.out.symm.trans hck')
        clear hck' d0 d2
        have hsz4 := hbel4.size
        go_wp2_with fail
        refine (conf_all w4 p' r' s c.tick hby4 _ _ _ rfl rfl rfl).mono ?_
        rintro e w5 ⟨A2, c2, rfl, -, -, hb5, hkp'⟩
        have hb4' := BdS.other hb4 hby4 hkp' (Ne.symm hpp) (Ne.symm hrp) (Ne.symm hpr) (Ne.symm hrr)
        have hsc5 := hsc4.kept hby4 hkp'
        have hbel5 := hbel4.trans (hkp'.below hp2 hr2 hsz4)
        clear hby4 hb4 hsc4 hbel4 hkp' d1 hsl'
        go_wp2
        go_roundw
        case rel => exact ⟨k + 1, by omega, by go_num, by rw [HS.out, HC.out]; exact hb4', by rw [HS.out, HC.out]; exact hb5, hsc5, hbel5⟩
        case measure => simp [intOf]; omega
    · clear hsc
      generalize BS.init.calls (cs.take k) = s at *
      have hsm := hbx.small
      obtain ⟨a0, a1⟩ := around_range sn 9 (by omega)
      obtain ⟨b0, b1⟩ := around_range tn 8 (by omega)
      go_wp2_with (go_at_call 25; refine (around_any _ _ _ (by first | exact H1.out.1 | exact H2.out.1) (by first | exact H1.out.2 | exact H2.out.2) (by omega)).mono ?_; rintro e w' ⟨rfl, rfl⟩)
      have hab : around sn 9 ≠ (around sn 9 + 1 + around tn 8) % 9 := by omega
      have hb0 : 0 ≤ (around sn 9 + 1 + around tn 8) % 9 := by omega
      have hb1 : (around sn 9 + 1 + around tn 8) % 9 < 9 := by omega
      clear b0 b1
      generalize (around sn 9 + 1 + around tn 8) % 9 = b at *
      generalize around sn 9 = a at *
      have L1 := Lib.hid (listOf_len a one)
      have L2 := Lib.hid (listOf_len b two)
      -- x: a
      refine (list_is a one wr H3.out.1 H3.out.2 _ _ rfl rfl).mono ?_
      rintro e w4 ⟨A4, c4, rfl, -, hl4, hb4⟩
      have hbx4 : BdS w4 p r s := hbx.below hb4
      have hby4 : BdS w4 p' r' s := hby.below hb4
      have hB4 := hbel.trans (hb4.mono hsz)
      clear hbx hby hb4 hbel hsz
      go_wp2_with fail
      refine (show_all w4 p r s a A4 _ c4 (listOf a one) hbx4 (by have := L1.out; omega) hl4 _ rfl _ _ _ _ _ rfl rfl rfl rfl rfl).mono ?_
      rintro e w5 ⟨A5, c5, A5', c5', rfl, -, -, hs5, hs5', hbx5, hk5⟩
      have hby5 := hby4.other hbx4 hk5 hpp hpr hrp hrr
      have hB5 := hB4.trans (hk5.below hp hr hB4.size)
      clear hbx4 hby4 hk5 hB4 hl4
      -- x: b
      go_wp2_with fail
      refine (list_is b two w5 H4.out.1 H4.out.2 _ _ rfl rfl).mono ?_
      rintro e w6 ⟨A6, c6, rfl, -, hl6, hb6⟩
      have hbx6 : BdS w6 p r (s.show a (listOf a one)) := hbx5.below hb6
      have hby6 : BdS w6 p' r' s := hby5.below hb6
      have hs6 := hs5.below hb6
      have hs6' := hs5'.below hb6
      have hB6 := hB5.trans (hb6.mono hB5.size)
      clear hbx5 hby5 hb6 hB5 hs5 hs5'
      go_wp2_with fail
      refine (show_all w6 p r (s.show a (listOf a one)) b A6 _ c6 (listOf b two) hbx6 (by have := L2.out; omega) hl6 _ (by rw [BS.show_bnd]) _ _ _ _ _ (BS.show_s1 s _ _ (Ne.symm hab)) (BS.show_s2 s _ _ (Ne.symm hab)) rfl rfl rfl).mono ?_
      rintro e w7 ⟨A7, c7, A7', c7', rfl, -, -, ht7, ht7', hbx7, hk7⟩
      have hby7 := hby6.other hbx6 hk7 hpp hpr hrp hrr
      have hs7 := SlE.kept hs6 hbx6 hk7
      have hs7' := SlE.kept hs6' hbx6 hk7
      have hB7 := hB6.trans (hk7.below hp hr hB6.size)
      clear hbx6 hby6 hk7 hB6 hs6 hs6' hl6
      -- y: b
      go_wp2_with fail
      refine (list_is b two w7 H4.out.1 H4.out.2 _ _ rfl rfl).mono ?_
      rintro e w8 ⟨A8, c8, rfl, -, hl8, hb8⟩
      have hbx8 : BdS w8 p r ((s.show a (listOf a one)).show b (listOf b two)) := hbx7.below hb8
      have hby8 : BdS w8 p' r' s := hby7.below hb8
      have hs8 := hs7.below hb8
      have hs8' := hs7'.below hb8
      have ht8 := ht7.below hb8
      have ht8' := ht7'.below hb8
      have hB8 := hB7.trans (hb8.mono hB7.size)
      clear hbx7 hby7 hb8 hB7 hs7 hs7' ht7 ht7'
      go_wp2_with fail
      refine (show_all w8 p' r' s b A8 _ c8 (listOf b two) hby8 (by have := L2.out; omega) hl8 _ rfl _ _ _ _ _ rfl rfl rfl rfl rfl).mono ?_
      rintro e w9 ⟨A9, c9, A9', c9', rfl, -, -, hu9, hu9', hby9, hk9⟩
      have hbx9 := BdS.other hbx8 hby8 hk9 (Ne.symm hpp) (Ne.symm hrp) (Ne.symm hpr) (Ne.symm hrr)
      have hs9 := SlE.kept hs8 hby8 hk9
      have hs9' := SlE.kept hs8' hby8 hk9
      have ht9 := SlE.kept ht8 hby8 hk9
      have ht9' := SlE.kept ht8' hby8 hk9
      have hB9 := hB8.trans (hk9.below hp2 hr2 hB8.size)
      clear hbx8 hby8 hk9 hB8 hs8 hs8' ht8 ht8' hl8
      -- y: a
      go_wp2_with fail
      refine (list_is a one w9 H3.out.1 H3.out.2 _ _ rfl rfl).mono ?_
      rintro e w10 ⟨A10, c10, rfl, -, hl10, hb10⟩
      have hbx10 : BdS w10 p r ((s.show a (listOf a one)).show b (listOf b two)) := hbx9.below hb10
      have hby10 : BdS w10 p' r' (s.show b (listOf b two)) := hby9.below hb10
      have hs10 := hs9.below hb10
      have hs10' := hs9'.below hb10
      have ht10 := ht9.below hb10
      have ht10' := ht9'.below hb10
      have hu10 := hu9.below hb10
      have hu10' := hu9'.below hb10
      have hB10 := hB9.trans (hb10.mono hB9.size)
      clear hbx9 hby9 hb10 hB9 hs9 hs9' ht9 ht9' hu9 hu9'
      go_wp2_with fail
      refine (show_all w10 p' r' (s.show b (listOf b two)) a A10 _ c10 (listOf a one) hby10 (by have := L1.out; omega) hl10 _ (by rw [BS.show_bnd]) _ _ _ _ _ (BS.show_s1 s _ _ hab) (BS.show_s2 s _ _ hab) rfl rfl rfl).mono ?_
      rintro e w11 ⟨A11, c11, A11', c11', rfl, -, -, hv11, hv11', hby11, hk11⟩
      have hbx11 := BdS.other hbx10 hby10 hk11 (Ne.symm hpp) (Ne.symm hrp) (Ne.symm hpr) (Ne.symm hrr)
      have hs11 := SlE.kept hs10 hby10 hk11
      have hs11' := SlE.kept hs10' hby10 hk11
      have ht11 := SlE.kept ht10 hby10 hk11
      have ht11' := SlE.kept ht10' hby10 hk11
      have hu11 := SlE.kept hu10 hby10 hk11
      have hu11' := SlE.kept hu10' hby10 hk11
      have hB11 := hB10.trans (hk11.below hp2 hr2 hB10.size)
      clear hbx10 hby10 hk11 hB10 hs10 hs10' ht10 ht10' hu10 hu10' hl10
      have hpend : ((s.show a (listOf a one)).show b (listOf b two)).pend = ((s.show b (listOf b two)).show a (listOf a one)).pend :=
        pend_ext hbx11.nodup hby11.nodup (BS.show_ks2 s _ _ hab) (BS.show_cur2 s _ _ hab)
      have hps : ((s.show a (listOf a one)).show b (listOf b two)).pend.length ≤ 240000 := sortI_small _ _ hbx11.small hbx11.few
      have HP := Lib.hid hpend
      clear hpend
      have g1 : ∀ t l, (s.s1 t l).length ≤ l.length := fun t l => by unfold BS.s1; split <;> simp [diff_len]
      have g2 : ∀ t l, (s.s2 t l).length ≤ 40 := fun t l => by unfold BS.s2; split; exact Nat.le_trans (diff_len _ _) (hsm t); simp
      have n1 : (s.s1 a (listOf a one)).length ≤ 40 := by have := g1 a (listOf a one); have := L1.out; omega
      have n2 : (s.s1 b (listOf b two)).length ≤ 40 := by have := g1 b (listOf b two); have := L2.out; omega
      have n3 := g2 a (listOf a one)
      have n4 := g2 b (listOf b two)
      clear g1 g2 hsm
      generalize (s.show a (listOf a one)).show b (listOf b two) = sx at *
      generalize (s.show b (listOf b two)).show a (listOf a one) = sy at *
      generalize wrong s.bnd a (listOf a one) = e1 at *
      generalize wrong s.bnd b (listOf b two) = e2 at *
      generalize s.s1 a (listOf a one) = q1 at *
      generalize s.s2 a (listOf a one) = q2 at *
      generalize s.s1 b (listOf b two) = q3 at *
      generalize s.s2 b (listOf b two) = q4 at *
      generalize hn1 : q1.length = m1 at *
      generalize hn2 : q2.length = m2 at *
      generalize hn3 : q3.length = m3 at *
      generalize hn4 : q4.length = m4 at *
      clear hn1 hn2 hn3 hn4 L1 L2
      have t1 : (e1 != e1) = false := by simp
      have t2 : (e2 != e2) = false := by simp
      go_wp2_with fail
      refine (same_is A5 A11 m1 m1 q1 q1 c5 c11 w11 (by omega) (by omega) hs11 hv11 true (by simp)).mono ?_
      rintro e w12 ⟨rfl, hb12⟩
      have hbx12 : BdS w12 p r sx := hbx11.below hb12
      have hby12 : BdS w12 p' r' sy := hby11.below hb12
      have hs12' := hs11'.below hb12
      have hv12' := hv11'.below hb12
      have ht12 := ht11.below hb12
      have ht12' := ht11'.below hb12
      have hu12 := hu11.below hb12
      have hu12' := hu11'.below hb12
      have hB12 := hB11.trans (hb12.mono hB11.size)
      clear hbx11 hby11 hs11 hs11' hv11 hv11' ht11 ht11' hu11 hu11' hB11 hb12
      go_wp2_with fail
      refine (same_is A5' A11' m2 m2 q2 q2 c5' c11' w12 (by omega) (by omega) hs12' hv12' true (by simp)).mono ?_
      rintro e w13 ⟨rfl, hb13⟩
      have hbx13 : BdS w13 p r sx := hbx12.below hb13
      have hby13 : BdS w13 p' r' sy := hby12.below hb13
      have ht13 := ht12.below hb13
      have ht13' := ht12'.below hb13
      have hu13 := hu12.below hb13
      have hu13' := hu12'.below hb13
      have hB13 := hB12.trans (hb13.mono hB12.size)
      clear hbx12 hby12 hs12' hv12' ht12 ht12' hu12 hu12' hB12 hb13
      go_wp2_with fail
      refine (same_is A7 A9 m3 m3 q3 q3 c7 c9 w13 (by omega) (by omega) ht13 hu13 true (by simp)).mono ?_
      rintro e w14 ⟨rfl, hb14⟩
      have hbx14 : BdS w14 p r sx := hbx13.below hb14
      have hby14 : BdS w14 p' r' sy := hby13.below hb14
      have ht14' := ht13'.below hb14
      have hu14' := hu13'.below hb14
      have hB14 := hB13.trans (hb14.mono hB13.size)
      clear hbx13 hby13 ht13 ht13' hu13 hu13' hB13 hb14
      go_wp2_with fail
      refine (same_is A7' A9' m4 m4 q4 q4 c7' c9' w14 (by omega) (by omega) ht14' hu14' true (by simp)).mono ?_
      rintro e w15 ⟨rfl, hb15⟩
      have hbx15 : BdS w15 p r sx := hbx14.below hb15
      have hby15 : BdS w15 p' r' sy := hby14.below hb15
      have hB15 := hB14.trans (hb15.mono hB14.size)
      clear hbx14 hby14 ht14' hu14' hB14 hb15
      generalize hnp : sx.pend.length = np at *
      have HNP := Lib.hid hnp
      clear hnp
      go_wp2_with fail
      refine (pend_all w15 p r sx hbx15 sx.pend np rfl HNP.out).mono ?_
      rintro e w16 ⟨A16, c16, rfl, -, hx16, hb16⟩
      have hby16 : BdS w16 p' r' sy := hby15.below hb16
      have hB16 := hB15.trans (hb16.mono hB15.size)
      clear hbx15 hby15 hB15 hb16
      go_wp2_with fail
      refine (pend_all w16 p' r' sy hby16 sx.pend np HP.out.symm HNP.out).mono ?_
      rintro e w17 ⟨A17, c17, rfl, -, hx17, hb17⟩
      have hx17' := hx16.below hb17
      have hB17 := hB16.trans (hb17.mono hB16.size)
      clear hx16 hby16 hB16 hb17
      go_wp2_with fail
      refine (same_is A16 A17 np np sx.pend sx.pend c16 c17 w17 (by omega) (by omega) hx17' hx17 true (by simp)).mono ?_
      rintro e w18 ⟨rfl, hb18⟩
      have hB18 := hB17.trans (hb18.mono hB17.size)
      clear hx17 hx17' hB17 hb18
      go_wp2_with fail
      refine (lives_any w18).mono ?_
      rintro e w19 ⟨rfl, hb19⟩
      have hB19 := hB18.trans (hb19.mono hB18.size)
      clear hB18 hb19
      go_wp2
      go_ret
      exact ⟨rfl, hB19⟩
end Go.Proofs.Ytllcankinjomaaa
