import Derived.Test.YtllcankinjomaaaL10
import Derived.Test.YtllcankinjomaaaL8
namespace Go.Proofs.Ytllcankinjomaaa
set_option linter.unusedSimpArgs false
set_option linter.unusedVariables false
open Go.RowKit Go.MapKept Go.Maps

theorem ints_sl {w : World} {g n : Nat} (h : IntsAt w g (n * 4)) : ∃ l : List Eff, l.length = n ∧ SlE w (some ⟨g, 0, none⟩) n l := by
  obtain ⟨cs, h1, h2⟩ := h
  have hz : ∀ j, ∃ z : Int, j < n * 4 → cs[j]? = some (.int .i64 z) := fun j => by
    by_cases hj : j < n * 4
    · obtain ⟨z, hz⟩ := h2 j hj; exact ⟨z, fun _ => hz⟩
    · exact ⟨0, fun h => absurd h hj⟩
  obtain ⟨f, hf⟩ := Classical.axiomOfChoice hz
  refine ⟨(List.range n).map (fun i => ⟨f (i * 4), f (i * 4 + 1), f (i * 4 + 2), f (i * 4 + 3)⟩), by simp, by simp, fun hn => ⟨g, 0, cs, (0, 0), rfl, h1, fun i x hx j u hu => ?_⟩⟩
  rw [List.getElem?_map] at hx
  cases hr : (List.range n)[i]? with
  | none => rw [hr] at hx; cases hx
  | some i' =>
    rw [hr] at hx
    have hi := (List.getElem?_eq_some_iff.1 hr)
    obtain ⟨hlt, he⟩ := hi
    simp at hlt he
    subst he
    simp at hx
    subst hx
    have hj : j < 4 := by
      rcases Nat.lt_or_ge j 4 with h | h
      · exact h
      · rw [List.getElem?_eq_none (by simp [Eff.cells]; omega)] at hu; cases hu
    rw [show 0 + i * 4 + j = i * 4 + j by omega]
    match j, hj with
    | 0, _ => simp [Eff.cells] at hu; subst hu; exact hf (i * 4) (by omega)
    | 1, _ => simp [Eff.cells] at hu; subst hu; exact hf (i * 4 + 1) (by omega)
    | 2, _ => simp [Eff.cells] at hu; subst hu; exact hf (i * 4 + 2) (by omega)
    | 3, _ => simp [Eff.cells] at hu; subst hu; exact hf (i * 4 + 3) (by omega)

theorem BS.show_err (s : BS) {t : Int} {l : List Eff} (h : wrong s.bnd t l ≠ 0) : s.show t l = s := by unfold BS.show; rw [if_neg h]

set_option maxHeartbeats 400000 in
set_option maxRecDepth 100000 in
theorem errors_any (boundary tick many other at_ : Int) (w : World) (h1 : -9223372036854775808 ≤ boundary ∧ boundary ≤ 9223372036854775807) (h2 : -9223372036854775808 ≤ tick ∧ tick ≤ 9223372036854775807)
    (h3 : -9223372036854775808 ≤ many ∧ many ≤ 9223372036854775807) (h4 : -9223372036854775808 ≤ other ∧ other ≤ 9223372036854775807) (h5 : -9223372036854775808 ≤ at_ ∧ at_ ≤ 9223372036854775807) :
    Calls Try.prog 4 #[.int .i64 boundary, .int .i64 tick, .int .i64 many, .int .i64 other, .int .i64 at_] w fun e w' => e = .returned (.bool true) ∧ Below w.heap.size w w' := by
  have H1 := Lib.hid h1
  have H2 := Lib.hid h2
  have H3 := Lib.hid h3
  have H4 := Lib.hid h4
  have H5 := Lib.hid h5
  clear h1 h2 h3 h4 h5
  go_enter Try.func4, Try.ntmps4
  go_wp2_with fail
  refine (new_bd w).mono ?_
  rintro e w1 ⟨p, r, rfl, hbd1, hp, hr, hb1⟩
  go_wp2_with fail
  refine (list_is 9 5 w1 (by omega) (by omega) _ _ rfl rfl).mono ?_
  rintro e w2 ⟨A2, c2, rfl, -, hl2, hb2⟩
  have hbd2 : BdS w2 p r BS.init := hbd1.below hb2
  have hB2 := hb1.trans (hb2.mono hb1.size)
  have hl9 := listOf_len 9 5
  clear hbd1 hb1 hb2
  go_wp2_with fail
  refine (show_all w2 p r BS.init 9 A2 _ c2 (listOf 9 5) hbd2 (by omega) hl2 _ rfl _ _ _ _ _ rfl rfl rfl rfl rfl).mono ?_
  rintro e w3 ⟨A3, c3, A3', c3', rfl, -, -, -, -, hbd3, hk3⟩
  have hB3 := hB2.trans (hk3.below hp hr hB2.size)
  have hbn : (BS.init.show 9 (listOf 9 5)).bnd = 0 := BS.show_bnd _ _ _
  generalize BS.init.show 9 (listOf 9 5) = s0 at *
  clear hbd2 hl2 hk3 hB2 hl9
  obtain ⟨b0, b1⟩ := around_range boundary 12 (by omega)
  go_wp2_with fail
  refine (around_any boundary 12 w3 H1.out.1 H1.out.2 (by omega)).mono ?_
  rintro e w4 ⟨rfl, rfl⟩
  go_wp2_with fail
  refine (conf_all w3 p r s0 (around boundary 12) hbd3 _ _ _ rfl rfl rfl).mono ?_
  rintro e w4 ⟨A4, c4, rfl, -, -, hbd4, hk4⟩
  have hB4 := hB3.trans (hk4.below hp hr hB3.size)
  have hbn4 : (s0.conf (around boundary 12)).bnd = around boundary 12 := by show max s0.bnd _ = _; rw [hbn]; omega
  generalize s0.conf (around boundary 12) = s at *
  have HA := Lib.hid (fun w => around_any boundary 12 w H1.out.1 H1.out.2 (by omega))
  clear hbd3 hk4 hB3 hbn
  generalize around boundary 12 = b at *
  go_wp2_with fail
  refine (HA.out w4).mono ?_
  rintro e w5 ⟨rfl, rfl⟩
  obtain ⟨q0, q1⟩ := around_range tick 14 (by omega)
  obtain ⟨r0, r1⟩ := around_range tick 5 (by omega)
  go_wp2_with fail
  refine (around_any tick 14 _ H2.out.1 H2.out.2 (by omega)).mono ?_
  rintro e w5 ⟨rfl, rfl⟩
  go_wp2_with fail
  refine (around_any tick 5 _ H2.out.1 H2.out.2 (by omega)).mono ?_
  rintro e w5 ⟨rfl, rfl⟩
  generalize around tick 14 = q at *
  generalize around tick 5 = r5 at *
  have hmax : max 0 b = b := by omega
  have hb5 : Below w4.heap.size w4 ((w4.alloc (.cells #[.slice none 0 0, .slice none 0 0, .int .i64 (max 0 b)] 27)).alloc (.cells #[.int .i64 tick, .int .i64 (q - 1), .int .i64 (r5 + 5997)] 3)) := ((Below.refl _ _).alloc (Nat.le_refl _) _).alloc (by simp) _
  have hM : ((w4.alloc (.cells #[.slice none 0 0, .slice none 0 0, .int .i64 (max 0 b)] 27)).alloc (.cells #[.int .i64 tick, .int .i64 (q - 1), .int .i64 (r5 + 5997)] 3)).heap[w4.heap.size]? = some (.cells #[.slice none 0 0, .slice none 0 0, .int .i64 b] 27 (0, 0)) := by
    rw [Below.heap_alloc _ _ _ (by simp), heap_alloc_new, hmax]
  have hT : SlI 3 ((w4.alloc (.cells #[.slice none 0 0, .slice none 0 0, .int .i64 (max 0 b)] 27)).alloc (.cells #[.int .i64 tick, .int .i64 (q - 1), .int .i64 (r5 + 5997)] 3)) (some ⟨w4.heap.size + 1, 0, none⟩) 3 [tick, q - 1, r5 + 5997] := by
    refine ⟨rfl, fun _ => ⟨w4.heap.size + 1, 0, #[.int .i64 tick, .int .i64 (q - 1), .int .i64 (r5 + 5997)], (0, 0), rfl, by simpa using heap_alloc_new (w4.alloc (.cells #[.slice none 0 0, .slice none 0 0, .int .i64 (max 0 b)] 27)) (.cells #[.int .i64 tick, .int .i64 (q - 1), .int .i64 (r5 + 5997)] 3), fun i x hx j u hu => ?_⟩⟩
    have h1 := flatMap_get intc_len [tick, q - 1, r5 + 5997] i x hx j u hu
    rw [show 0 + i * 1 + j = i * 1 + j by omega]
    simpa [intc] using h1
  have hbd5 : BdS _ p r s := hbd4.below hb5
  have hB5 := hB4.trans (hb5.mono hB4.size)
  clear hbd4 hB4 hb5 hmax
  go_wp2
  generalize [tick, q - 1, r5 + 5997] = ts at *
  go_loopw [14] (fun i wr => ∃ (k : Nat) (s : BS), k ≤ 3 ∧ i = .int .i64 k ∧ BdS wr p r s ∧ s.bnd = b ∧ wr.heap[w4.heap.size]? = some (.cells #[.slice none 0 0, .slice none 0 0, .int .i64 b] 27 (0, 0)) ∧ SlI 3 wr (some ⟨w4.heap.size + 1, 0, none⟩) 3 ts ∧ Below w.heap.size w wr) (fun i _ => 3 - (intOf i).toNat)
  case atStart => exact ⟨0, s, by omega, rfl, hbd5, hbn4, hM, hT, hB5⟩
  case round =>
    clear hbd5 hbn4 hM hT hB5
    obtain ⟨k, s, hk, rfl, hbd, hbn, hM, hT, hB⟩ := hrel
    by_cases hlt : k < 3
    · have HMM := Lib.hid (fun w => around_any many 46 w H3.out.1 H3.out.2 (by omega))
      obtain ⟨m0, m1⟩ := around_range many 46 (by omega)
      generalize around many 46 = mm at *
      obtain ⟨i0, hi0, hz0, hz1, hz2⟩ := info_parts info51
      obtain ⟨bT, offT, x, hAT, hbT, hxk, c0⟩ := hT.int hlt
      cases hAT
      rw [Nat.zero_add] at c0
      have hszw := hB.size
      clear hxk
      obtain ⟨w6, rfl⟩ : ∃ w6, w6 = wr := ⟨_, rfl⟩
      go_wp2
      have hk3 : decide ((k : Int) < 3) = true := decide_eq_true (by omega)
      rw [hk3]
      clear hk3
      go_loopw [15, 16] (fun v i wq => ∃ (j : Nat) (l : List Eff), (j : Int) ≤ mm ∧ i = .int .i64 j ∧ l.length = j ∧ wq.ownsRow w6.heap.size 51 4 v j (l.flatMap Eff.cells) ∧ Below w6.heap.size w6 wq) (fun _ i _ => 46 - (intOf i).toNat)
      case atStart => exact ⟨0, [], m0, rfl, rfl, World.ownsRow_nil _ _ _ _, Below.refl _ _⟩
      case round =>
        obtain ⟨j, l, hj, rfl, hjl, hown, hbq⟩ := hrel
        have hszq := hbq.size
        by_cases hjm : (j : Int) < mm
        · have c0' := (hbq.cell (p := ⟨w4.heap.size + 1, k, none⟩) hbT).trans c0
          go_wp2_with (first
            | (go_at_call 25; refine (HMM.out _).mono ?_; rintro e w' ⟨rfl, rfl⟩)
            | (at_builtin; refine wpList_append_src _ rfl _ _ 30 rfl w6.heap.size 51 i0 _ 4 32 Try.underlying30 hi0 hz0 hz1 hz2 rfl (by decide) _ _ _ rfl (hown.alloc _) (some ⟨wr.heap.size, 0, none⟩) 1 1 (Eff.cells ⟨x, j, 0, 0⟩) rfl rfl ?c0 ?c1 (Eff.cells_one _) ?c3 ?c4 ?c5 ?_))
          case c0 => intro h; cases h
          case c1 => intro ad had _; cases had; exact cells_new wr (Eff.cells ⟨x, j, 0, 0⟩) 51
          case c3 => unfold maxLen; omega
          case c4 => omega
          case c5 => simp; omega
          · intro Av cv w7 hown7 hgrow
            have hb7 := below_own (hbq.alloc (by omega) _) (hown.alloc _) hgrow (Nat.le_refl _) (by simp; omega)
            clear hown hgrow c0'
            go_wp2
            go_roundw
            case rel => exact ⟨j + 1, l ++ [⟨x, j, 0, 0⟩], by omega, by go_num, by simp [hjl], by simpa using hown7, hb7⟩
            case measure => simp [intOf]; omega
        · obtain ⟨A, c, rfl, hc, hlo, hsl⟩ := own_LO (G := fun g => w6.heap.size ≤ g) hown hjl.symm (fun g h1 h2 => h1)
          clear hown
          have hj46 : j < 46 := by omega
          have HO := Lib.hid (fun w => around_any other 3 w H4.out.1 H4.out.2 (by omega))
          obtain ⟨z0, z1⟩ := around_range other 3 (by omega)
          generalize around other 3 = oo at *
          have hlt3 : decide ((j : Int) < mm) = false := decide_eq_false hjm
          go_wp2_with fail
          refine (HMM.out _).mono ?_
          rintro e w' ⟨rfl, rfl⟩
          go_upto_region 16 with (fail)
          go_cut [70] (fun v wx => wx = wr ∧ ∃ bb : Bool, v = .bool bb ∧ (bb = true → 0 < j))
          case first =>
            by_cases hj0 : 0 < j
            · by_cases ho : oo = 0
              · have ho' : (oo == 0) = true := by simpa using ho
                have HZ := Lib.hid ho
                clear ho
                go_wp2_with fail
                refine (HO.out _).mono ?_
                rintro e w' ⟨rfl, rfl⟩
                go_wp2
                go_meet
                exact ⟨rfl, true, rfl, fun _ => hj0⟩
              · have ho' : (oo == 0) = false := by simpa using ho
                go_wp2_with fail
                refine (HO.out _).mono ?_
                rintro e w' ⟨rfl, rfl⟩
                go_wp2
                go_meet
                exact ⟨rfl, false, rfl, fun h => by cases h⟩
            · go_wp2_with fail
              go_meet
              exact ⟨rfl, false, rfl, fun h => by cases h⟩
          case rest =>
          obtain ⟨rfl, bb, rfl, hbb⟩ := hcut
          have HBB := Lib.hid hbb
          clear hbb
          go_upto_if 70 with (fail)
          go_cut [] (fun wx => (∃ l : List Eff, l.length = j ∧ SlE wx A j l) ∧ Below w6.heap.size w6 wx)
          case first =>
            cases bb
            · go_wp2_with fail
              go_meet
              exact ⟨⟨l, hjl, hsl⟩, hbq⟩
            · have hj0 := HBB.out rfl
              obtain ⟨g, rfl, hg, hints⟩ := hlo hj0
              have HAT := Lib.hid (fun w => around_any at_ j w H5.out.1 H5.out.2 (by omega))
              obtain ⟨a0, a1⟩ := around_range at_ j (by omega)
              generalize around at_ j = ai at *
              obtain ⟨i, rfl⟩ := Int.eq_ofNat_of_zero_le a0
              obtain ⟨z, hz⟩ := hints.load (j := i * 4) (by omega)
              have hfr := hints.open_ (i * 4)
              have hiw := hints.set g (i * 4) other
              have hsl' := ints_sl hiw
              have hbel' := hbq.setCell (p := ⟨g, i * 4, none⟩) hg (.int .i64 other)
              clear hiw hints hlo hsl a0
              go_wp2_with fail
              refine (HAT.out _).mono ?_
              rintro e w' ⟨rfl, rfl⟩
              go_wp2
              go_meet
              exact ⟨hsl', hbel'⟩
          case rest =>
            obtain ⟨⟨l', hl', hs'⟩, hbc⟩ := hcut
            clear hsl hlo hjl hbq hszq l
            have hbdc := Bd.below hbd hbc
            have hTc := hT.below hbc
            have hMc := (hbc.block _ (lt_of_heap hM)).trans hM
            have hBc := hB.trans (hbc.mono hB.size)
            clear hbc c0 hbd hT hM hB HA hlt3
            have hnp := sortI_small s.ks s.cur hbdc.small hbdc.few
            have hpe : s.pend = pend s.ks s.cur := rfl
            rw [← hpe] at hnp
            clear hpe
            go_wp2_with fail
            refine (pend_all wc p r s hbdc s.pend _ rfl rfl).mono ?_
            rintro e w7 ⟨A7, c7, rfl, -, hx7, hb7⟩
            have hbd7 : BdS w7 p r s := hbdc.below hb7
            have hs7 := hs'.below hb7
            have hT7 := hTc.below hb7
            have hM7 := (hb7.block _ (lt_of_heap hMc)).trans hMc
            have hB7 := hBc.trans (hb7.mono hBc.size)
            clear hb7 hbdc hs' hTc hMc hBc
            generalize hpl : s.pend.length = np at *
            have HPL := Lib.hid hpl
            clear hpl
            obtain ⟨bT', offT', x', hAT', hbT', hxk', c0⟩ := hT7.int hlt
            cases hAT'
            rw [Nat.zero_add] at c0
            have e0 : w7.cell? ⟨w4.heap.size, 0, none⟩ = some (.slice none 0 0) := cell_blk hM7 0
            have e1 : w7.cell? ⟨w4.heap.size, 1, none⟩ = some (.slice none 0 0) := cell_blk hM7 1
            have e2 : w7.cell? ⟨w4.heap.size, 2, none⟩ = some (.int .i64 b) := cell_blk hM7 2
            have hM4 := lt_of_heap hM7
            clear hxk'
            go_upto_region 19 with fail
            have hU := fun (u : Up w7) => Up.cell u
            refine wp_region_piUp [(0, 0), (1, 0), (2, 0), (3, 0), (4, 0), (5, 0), (6, 1), (7, 0)] [] (by kernel_rfl) (by kernel_rfl) ?_
            repeat (first | (refine pi_plain (by rfl) (by rfl) (fun K hK => ?_); go_big_quiet_op; refine hK _ ?_; clear hK K))
            refine pi_soft (by rfl) (by rfl) (fun K hK => ?_)
            go_big_op
            have hbD : Below w7.heap.size w7 w7.drew := (Below.refl _ _).drew
            refine (wrong_any none none A 0 0 0 j c b x' l' w7.drew (by omega) (hs7.below hbD)).mono ?_
            rintro e w8 ⟨rfl, hb8⟩
            have hb8' : Below w7.heap.size w7 w8 := hbD.trans hb8
            refine hK _ _ hb8' ?_
            clear hK K hU
            have hU := fun (u : Up w7) => Up.cell u
            refine pi_plain (by rfl) (by rfl) (fun K hK => ?_)
            go_big_quiet_op
            refine hK _ ?_
            clear hK K hU
            refine pi_nil ?_
            have hbd8 : BdS w8 p r s := hbd7.below hb8'
            have hs8 := hs7.below hb8'
            have hx8 := hx7.below hb8'
            have hT8 := hT7.below hb8'
            have hM8 := (hb8'.block _ (lt_of_heap hM7)).trans hM7
            have hB8 := hB7.trans (hb8'.mono hB7.size)
            have c08 := (hb8'.cell (p := ⟨w4.heap.size + 1, k, none⟩) hbT').trans c0
            clear hb8 hb8' hbD hbd7 hs7 hx7 hT7 hM7 hB7 c0 e0 e1 e2
            have hw : wrong s.bnd x' l' = wrong b x' l' := by rw [hbn]
            generalize hwe : wrong b x' l' = we at *
            have HW := Lib.hid hw
            have HWE := Lib.hid hwe
            clear hw hwe
            go_wp2_with fail
            refine (show_all w8 p r s x' A j c l' hbd8 (by omega) hs8 we HW.out _ _ _ _ _ rfl rfl rfl rfl rfl).mono ?_
            rintro e w9 ⟨A1, q1, A2', q2, rfl, -, -, -, -, hbd9, hk9⟩
            have hx9 := SlE.kept hx8 hbd8 hk9
            have hT9 := hT8.kt (S := fun t => t = 3) (hk9.kt hbd8 (by decide)) rfl
            have hM9 : w9.heap[w4.heap.size]? = some (.cells #[.slice none 0 0, .slice none 0 0, .int .i64 b] 27 (0, 0)) := (hk9.kt (S := fun t => t = 27) hbd8 (by decide)) _ _ _ _ rfl hM8
            have hB9 := hB8.trans (hk9.below hp hr hB8.size)
            have hbn9 : (s.show x' l').bnd = b := by rw [BS.show_bnd]; exact hbn
            have hsn : we ≠ 0 → s.show x' l' = s := fun h => BS.show_err s (by rw [HW.out]; exact h)
            generalize s.show x' l' = sn at *
            have HSN := Lib.hid hsn
            have HBN := Lib.hid hbn9
            clear hbd8 hs8 hx8 hT8 hM8 hB8 hk9 c08 hsn hbn9
            have hne : (we != we) = false := by simp
            by_cases hwz : we = 0
            · have hwz' : (we != 0) = false := by simpa using hwz
              have HZ := Lib.hid hwz
              clear hwz
              go_wp2_with fail
              go_roundw
              case rel => exact ⟨k + 1, sn, by omega, by go_num, hbd9, HBN.out, hM9, hT9, hB9⟩
              case measure => simp [intOf]; omega
            · have hwz' : (we != 0) = true := by simpa using hwz
              have HSS := Lib.hid (HSN.out hwz)
              clear hwz
              go_wp2_with fail
              refine (pend_all w9 p r sn hbd9 s.pend np (by rw [HSS.out]) HPL.out).mono ?_
              rintro e w10 ⟨A10, c10, rfl, -, hx10, hb10⟩
              have hbd10 : BdS w10 p r sn := hbd9.below hb10
              have hx9' := hx9.below hb10
              have hT10 := hT9.below hb10
              have hM10 := (hb10.block _ (lt_of_heap hM9)).trans hM9
              have hB10 := hB9.trans (hb10.mono hB9.size)
              clear hb10 hbd9 hx9 hT9 hM9 hB9
              go_wp2_with fail
              refine (same_is A7 A10 np np s.pend s.pend c7 c10 w10 (by omega) (by omega) hx9' hx10 true (by simp)).mono ?_
              rintro e w11 ⟨rfl, hb11⟩
              have hbd11 : BdS w11 p r sn := hbd10.below hb11
              have hT11 := hT10.below hb11
              have hM11 := (hb11.block _ (lt_of_heap hM10)).trans hM10
              have hB11 := hB10.trans (hb11.mono hB10.size)
              clear hb11 hbd10 hx9' hx10 hT10 hM10 hB10
              go_wp2_with fail
              go_roundw
              case rel => exact ⟨k + 1, sn, by omega, by go_num, hbd11, HBN.out, hM11, hT11, hB11⟩
              case measure => simp [intOf]; omega
    · clear hT hM
      go_wp2_with fail
      refine (lives_any wr).mono ?_
      rintro e w9 ⟨rfl, hb9⟩
      have hB9 := hB.trans (hb9.mono hB.size)
      clear hb9 hB
      go_wp2
      go_ret
      exact ⟨rfl, hB9⟩
end Go.Proofs.Ytllcankinjomaaa
