import Derived.Test.YtllcankinjomaaaPlain5
namespace Go.Proofs.Ytllcankinjomaaa
set_option linter.unusedSimpArgs false
set_option linter.unusedVariables false
open Go.RowKit Go.MapKept Go.Maps

/-- the law's own rows and the board -/
structure XR (w3 : World) (p r : Nat) (s : BS) (sh se : List Eff) (v4 v5 : Value) (wr : World) : Prop where
  kept : Kept p r w3 wr
  bd : BdA wr p r s (fun b => v4.ownBlock = some b ∨ v5.ownBlock = some b)
  r4 : wr.ownsRow w3.heap.size 51 4 v4 sh.length (sh.flatMap Eff.cells)
  r5 : wr.ownsRow w3.heap.size 51 4 v5 se.length (se.flatMap Eff.cells)
  ne : ∀ b, v4.ownBlock = some b → v5.ownBlock ≠ some b
  plt : p < w3.heap.size
  rlt : r < w3.heap.size
section
variable {w3 wr w' : World} {p r : Nat} {s s' : BS} {sh se xs : List Eff} {v4 v5 v' : Value}
theorem XR.clear (h : XR w3 p r s sh se v4 v5 wr) {q : Nat} (hq : q < w3.heap.size) : ¬ (v4.ownBlock = some q ∨ v5.ownBlock = some q) := by
  rintro (e | e)
  · have := (h.r4.lt q e).1; omega
  · have := (h.r5.lt q e).1; omega
theorem XR.lt (h : XR w3 p r s sh se v4 v5 wr) : ∀ b, (v4.ownBlock = some b ∨ v5.ownBlock = some b) → b < wr.heap.size := by
  rintro b (e | e)
  · exact (h.r4.lt b e).2
  · exact (h.r5.lt b e).2
theorem XR.under (h : XR w3 p r s sh se v4 v5 wr) (hb : Below wr.heap.size wr w') : XR w3 p r s sh se v4 v5 w' :=
  ⟨h.kept.trans (Kept.of_below hb), h.bd.below hb (h.clear h.plt) (h.clear h.rlt), own_below h.r4 hb, own_below h.r5 hb, h.ne, h.plt, h.rlt⟩
theorem XR.board (h : XR w3 p r s sh se v4 v5 wr) (hb : BdA w' p r s' (fun b => v4.ownBlock = some b ∨ v5.ownBlock = some b)) (hk : Kept p r wr w') : XR w3 p r s' sh se v4 v5 w' :=
  ⟨h.kept.trans hk, hb, own_kt h.r4 (hk.kt (S := fun t => t = 51) h.bd.bd (by decide)) rfl, own_kt h.r5 (hk.kt (S := fun t => t = 51) h.bd.bd (by decide)) rfl, h.ne, h.plt, h.rlt⟩
theorem XR.add4 (h : XR w3 p r s sh se v4 v5 wr) (hown : w'.ownsRow w3.heap.size 51 4 v' (sh.length + xs.length) (sh.flatMap Eff.cells ++ xs.flatMap Eff.cells)) (hg : wr.grownBy w' v4.ownBlock) (hn : NewRow wr v4 v') : XR w3 p r s (sh ++ xs) se v' v5 w' := by
  have hne : ∀ b, v'.ownBlock = some b → v5.ownBlock ≠ some b := by
    intro b hb h5
    rcases hn with e | e
    · exact h.ne b (e ▸ hb) h5
    · have := e b hb; have := (h.r5.lt b h5).2; omega
  refine ⟨h.kept.grown hg (fun k hk => (h.r4.lt k hk).1), h.bd.grown (fun k hk hG => hg.block k hk (fun e => hG (.inl e.symm))) (h.clear h.plt) (h.clear h.rlt) ?_, by simpa using hown, h.r5.kept hg ?_, hne, h.plt, h.rlt⟩
  · rintro b (hb | hb) hlt
    · rcases hn with e | e
      · exact .inl (e ▸ hb)
      · have := e b hb; omega
    · exact .inr hb
  · cases h5 : v5.ownBlock with
    | none => exact .inl rfl
    | some g => exact .inr fun e => h.ne g e.symm h5
theorem XR.add5 (h : XR w3 p r s sh se v4 v5 wr) (hown : w'.ownsRow w3.heap.size 51 4 v' (se.length + xs.length) (se.flatMap Eff.cells ++ xs.flatMap Eff.cells)) (hg : wr.grownBy w' v5.ownBlock) (hn : NewRow wr v5 v') : XR w3 p r s sh (se ++ xs) v4 v' w' := by
  have hne : ∀ b, v4.ownBlock = some b → v'.ownBlock ≠ some b := by
    intro b h4 hb
    rcases hn with e | e
    · exact h.ne b h4 (e ▸ hb)
    · have := e b hb; have := (h.r4.lt b h4).2; omega
  refine ⟨h.kept.grown hg (fun k hk => (h.r5.lt k hk).1), h.bd.grown (fun k hk hG => hg.block k hk (fun e => hG (.inr e.symm))) (h.clear h.plt) (h.clear h.rlt) ?_, h.r4.kept hg ?_, by simpa using hown, hne, h.plt, h.rlt⟩
  · rintro b (hb | hb) hlt
    · exact .inl hb
    · rcases hn with e | e
      · exact .inr (e ▸ hb)
      · have := e b hb; omega
  · cases h4 : v4.ownBlock with
    | none => exact .inl rfl
    | some g => exact .inr fun e => h.ne g h4 e.symm
theorem SlC.keptBy {w3 wr : World} {p r : Nat} {s0 : BS} {A : Option Addr} {n : Nat} {xs : List CallM} (h : SlC w3 A n xs) (h0 : BdS w3 p r s0) (hk : Kept p r w3 wr) : SlC wr A n xs := SlC.kept h h0 hk
/-- a new list stays where an old row is written -/
theorem Sl.row_kept {w0 wr w' : World} {A : Option Addr} {n : Nat} {xs : List Eff} {v : Value} (h : SlE wr A n xs) (hf : Fresh w0 A) (hv : ∀ b, v.ownBlock = some b → b < w0.heap.size) (hg : wr.grownBy w' v.ownBlock) : SlE w' A n xs :=
  ⟨h.1, fun hn => by
    obtain ⟨b, off, cs, fz, rfl, hbb, hc⟩ := h.2 hn
    exact ⟨b, off, cs, fz, rfl, (hg.block b (lt_of_heap hbb) (fun e => by have := hv b e.symm; have := hf b off rfl; omega)).trans hbb, hc⟩⟩
end

set_option maxHeartbeats 1000000 in
set_option maxRecDepth 100000 in
theorem once_any {tt : TypeId} (A : Option Addr) (n cap : Nat) (xs : List Int) (w : World) (hn : n ≤ 9223372036854775807) (hx : SlI tt w A n xs) (hb64 : ∀ x ∈ xs, -9223372036854775808 ≤ x ∧ x ≤ 9223372036854775807) :
    Calls Try.prog 5 #[.slice A n cap] w fun e w' => e = .returned (.bool true) ∧ Below w.heap.size w w' := by
  have HB := Lib.hid hb64
  clear hb64
  obtain ⟨i0, hi0, hz0, hz1, hz2⟩ := info_parts info51
  go_enter Try.func5, Try.ntmps5
  go_wp2_with fail
  refine (new_bd w).mono ?_
  rintro e w1 ⟨p, r, rfl, hbd1, hp, hr, hb1⟩
  have hx1 := hx.below hb1
  clear hx
  go_wp2_with fail
  refine (calls_is A n cap xs w1 hn hx1 HB.out _ _ rfl rfl).mono ?_
  rintro e w3 ⟨B, cc, rfl, hcc, hsc, hb3⟩
  have hbx0 : BdS w3 p r BS.init := hbd1.below hb3
  have hB3 := hb1.trans (hb3.mono hb1.size)
  have hm30 := callsOf_len xs
  have HOK := Lib.hid (callsOf_ok xs)
  have hxr0 : XR w3 p r BS.init [] [] (.slice none 0 0) (.slice none 0 0) w3 := ⟨Kept.refl _ _ _, BdA.of_nil hbx0 rfl, World.ownsRow_nil _ _ _ _, World.ownsRow_nil _ _ _ _, (fun b h => by cases h), hbx0.plt, hbx0.rlt⟩
  clear hbd1 hx1 hb1 hb3
  generalize callsOf xs = cs at *
  generalize hm : cs.length = m at *
  go_wp2
  go_loopw [4, 5, 7] (fun v4 v5 i wr => ∃ (k : Nat) (sh se : List Eff), k ≤ m ∧ i = .int .i64 k ∧ XInv (BS.init.calls (cs.take k)) sh se ∧ sh.length ≤ 6 * k ∧ XR w3 p r (BS.init.calls (cs.take k)) sh se v4 v5 wr) (fun _ _ i _ => m - (intOf i).toNat)
  case atStart => exact ⟨0, [], [], Nat.zero_le _, rfl, XInv.init, Nat.le_refl _, hxr0⟩
  case round =>
    clear hxr0
    obtain ⟨k, sh, se, hk, rfl, hxi, hsh, hxr⟩ := hrel
    have HX := Lib.hid hxi
    clear hxi
    by_cases hlt : k < m
    · have hscr := SlC.keptBy hsc hbx0 hxr.kept
      obtain ⟨b, off, c, C, q, qc, rfl, hbl, hck, hqc, hsl, d0, d1, d2⟩ := hscr.call hlt
      have HT := Lib.hid (take_succ_some hck)
      have hok := HOK.out c (List.mem_of_getElem? hck)
      obtain ⟨o0, o1, o2, -⟩ := hok
      clear hck
      have HS : Hid (BS.init.calls (cs.take (k + 1)) = (BS.init.calls (cs.take k)).call c) := by show _ = _; rw [HT.out, BS.calls_snoc]
      generalize BS.init.calls (cs.take k) = s at *
      have hse := HX.out.len
      have hq6 : q ≤ 6 := by have := hsl.len; omega
      have hse6 : se.length ≤ 6 * k := by omega
      clear hse
      go_upto_if 26 with (fail)
      go_cut [4, 5] (fun v4 v5 wx => ∃ sh se : List Eff, XInv (s.call c) sh se ∧ sh.length ≤ 6 * (k + 1) ∧ XR w3 p r (s.call c) sh se v4 v5 wx)
      case first =>
        cases hcf : c.conf
        · rw [hcf] at d0
          have HC : Hid (s.call c = s.show c.tick c.l) := by show _ = _; unfold BS.call; rw [hcf]; rfl
          clear hcf
          have hd1 : (s.s1 c.tick c.l).length ≤ 6 := by
            unfold BS.s1; split
            · exact Nat.le_trans (diff_len _ _) o2
            · simp
          have hd2 : (s.s2 c.tick c.l).length ≤ 40 := by
            unfold BS.s2; split
            · exact Nat.le_trans (diff_len _ _) (Bd.small hxr.bd.bd _)
            · simp
          have HX2 := Lib.hid (fun hn' => HX.out.show (t := c.tick) (l := c.l) hxr.bd.bd.nodup hn' (fun k hk => Bd.off hxr.bd.bd k hk))
          clear o2
          go_upto_region 12 with fail
          have hU := fun (u : Up wr) => Up.cell u
          refine wp_region_piUp [(0, 0), (1, 0), (2, 0), (3, 0), (4, 0), (5, 0), (6, 0), (7, 0), (8, 0), (9, 0), (10, 0), (11, 2), (12, 3), (13, 3), (14, 3), (15, 3), (16, 3), (17, 3), (18, 3)] [11] (by kernel_rfl) (by kernel_rfl) ?_
          repeat (first | (refine pi_plain (by rfl) (by rfl) (fun K hK => ?_); go_big_quiet_op; refine hK _ ?_; clear hK K))
          refine pi_hard (by rfl) (by rfl) (fun K hK => ?_)
          go_big_op
          have hbD : Below wr.heap.size wr wr.drew := (Below.refl _ _).drew
          have hxrd := hxr.under hbD
          refine (show_av wr.drew p r s c.tick C q qc c.l _ hxrd.bd (hxrd.clear hxrd.plt) (hxrd.clear hxrd.rlt) hxrd.lt (by omega) (hsl.below hbD) _ rfl _ _ _ _ _ rfl rfl rfl rfl rfl).mono ?_
          rintro e w4 ⟨A1, c1, A2, c2, rfl, hc1, hc2, hs1, hs2, hf1, hf2, hbd4, hk4⟩
          have hxr4 := hxrd.board hbd4 hk4
          refine hK _ _ ?_
          clear hK K hU
          repeat (first | (refine pi_free (by rfl) (by rfl) (fun K hK => ?_); go_big_quiet_op; refine hK _ ?_; clear hK K))
          refine pi_nil ?_
          have HX3 := Lib.hid (HX2.out hbd4.bd.nodup)
          have hvlt : ∀ b, u5.ownBlock = some b → b < wr.drew.heap.size := fun b hb => hxrd.lt b (.inr hb)
          have hvlt4 : ∀ b, u4.ownBlock = some b → b < wr.drew.heap.size := fun b hb => hxrd.lt b (.inl hb)
          clear hbd4 hk4 hxr hxrd d0 d1 d2 hscr hsl hbl hsc hbx0 HX2 hf1 hbD
          generalize s.s1 c.tick c.l = l1 at *
          generalize s.s2 c.tick c.l = l2 at *
          generalize s.show c.tick c.l = sn at *
          have hsz := hxr4.kept.size
          go_wp2_with (at_builtin; refine wpList_append_src2 _ rfl _ _ 30 rfl w3.heap.size 51 i0 _ 4 32 Try.underlying30 hi0 hz0 hz1 hz2 rfl (by decide) _ _ _ rfl hxr4.r4 A1 _ c1 (l1.flatMap Eff.cells) rfl (flat_len Eff.cells_len l1) hs1.nilA (hs1.news Eff.cells_len (by decide)) (flat_one Eff.cells_one _) (by unfold maxLen; omega) (by omega) (by omega) ?_)
          intro Av cv w5 hown5 hgrow hnew
          have hxr5 := hxr4.add4 (xs := l1) hown5 hgrow hnew
          have hs5 := Sl.row_kept hs2 hf2 hvlt4 hgrow
          have hsz5 := hxr5.kept.size
          clear hxr4 hown5 hgrow hnew hs1 hs2 hf2 hvlt hvlt4 hsz
          go_wp2_with (at_builtin; refine wpList_append_src2 _ rfl _ _ 30 rfl w3.heap.size 51 i0 _ 4 32 Try.underlying30 hi0 hz0 hz1 hz2 rfl (by decide) _ _ _ rfl hxr5.r5 A2 _ c2 (l2.flatMap Eff.cells) rfl (flat_len Eff.cells_len l2) hs5.nilA (hs5.news Eff.cells_len (by decide)) (flat_one Eff.cells_one _) (by unfold maxLen; omega) (by omega) (by omega) ?_)
          intro Aw cw w6 hown6 hgrow hnew
          have hxr6 := hxr5.add5 (xs := l2) hown6 hgrow hnew
          clear hxr5 hown6 hgrow hnew hs5
          go_wp2
          go_meet
          exact ⟨sh ++ l1, se ++ l2, by rw [HC.out]; exact HX3.out, by rw [List.length_append]; omega, by rw [HC.out]; exact hxr6⟩
        · rw [hcf] at d0
          have HC : Hid (s.call c = s.conf c.tick) := by show _ = _; unfold BS.call; rw [hcf]; rfl
          clear hcf
          have hol := out_small hxr.bd.bd c.tick
          go_wp2_with fail
          refine (conf_av wr p r s c.tick _ hxr.bd (hxr.clear hxr.plt) (hxr.clear hxr.rlt) _ _ _ rfl rfl rfl).mono ?_
          rintro e w4 ⟨A4, c4, rfl, hc4, hs4, hf4, hbd4, hk4⟩
          have hxr4 := hxr.board hbd4 hk4
          clear hbd4 hk4 hxr d0 d1 d2 hscr hsl hf4 hbl hsc hbx0
          have HX2 := Lib.hid (HX.out.conf (t := c.tick))
          generalize s.out c.tick = out at *
          generalize s.conf c.tick = sn at *
          have hsz := hxr4.kept.size
          go_wp2_with (at_builtin; refine wpList_append_src2 _ rfl _ _ 30 rfl w3.heap.size 51 i0 _ 4 32 Try.underlying30 hi0 hz0 hz1 hz2 rfl (by decide) _ _ _ rfl hxr4.r5 A4 _ c4 (out.flatMap Eff.cells) rfl (flat_len Eff.cells_len out) hs4.nilA (hs4.news Eff.cells_len (by decide)) (flat_one Eff.cells_one _) (by unfold maxLen; omega) (by omega) (by omega) ?_)
          intro Av cv w5 hown5 hgrow hnew
          have hxr5 := hxr4.add5 (xs := out) hown5 hgrow hnew
          clear hxr4 hown5 hgrow hnew hs4
          go_wp2
          go_meet
          exact ⟨sh, se ++ out, by rw [HC.out]; exact HX2.out, by omega, by rw [HC.out]; exact hxr5⟩
      case rest =>
        obtain ⟨sh', se', hxi', hsh', hxr'⟩ := hcut
        have HXI := Lib.hid hxi'
        have hlen := hxi'.len
        have hsm := hxi'.same
        have HSM := Lib.hid hsm
        have HLEN := Lib.hid hlen
        have hse' : se'.length ≤ 180 := by omega
        have hpe : (s.call c).pend.length ≤ 180 := by omega
        have hsh2 : sh'.length ≤ 180 := by omega
        clear hxi' hlen hxr hsl d0 d1 d2 hbl hsm hscr HX
        generalize s.call c = sn at *
        obtain ⟨A4, c4, e4, hs4, hc4⟩ := Sl.of_own Eff.cells_len hxr'.r4 rfl
        obtain ⟨A5, c5, e5, hs5, hc5⟩ := Sl.of_own Eff.cells_len hxr'.r5 rfl
        subst e4 e5
        generalize hpl : sn.pend.length = np at *
        have HPL := Lib.hid hpl
        have hnil := World.ownsRow_nil wc wc.heap.size 51 4
        clear hpl
        go_wp2_with (at_builtin; refine wpList_append_src2 _ rfl _ _ 30 rfl wc.heap.size 51 i0 _ 4 32 Try.underlying30 hi0 hz0 hz1 hz2 rfl (by decide) _ _ _ rfl hnil A5 _ c5 (se'.flatMap Eff.cells) rfl (flat_len Eff.cells_len se') hs5.nilA (hs5.news Eff.cells_len (by decide)) (flat_one Eff.cells_one _) (by unfold maxLen; omega) (by omega) (by omega) ?_)
        intro Av cv w5 hown5 hgrow hnew
        clear hnew
        have hb5 : Below wc.heap.size wc w5 := below_own (Below.refl _ _) hnil hgrow (Nat.le_refl _) (Nat.le_refl _)
        have hxr5 := hxr'.under hb5
        clear hgrow hnil hs5
        go_wp2_with fail
        refine (pend_all w5 p r sn hxr5.bd.bd sn.pend np rfl HPL.out).mono ?_
        rintro e w6 ⟨A6, c6, rfl, hc6, hs6, hb6⟩
        have hxr6 := hxr5.under hb6
        have hb56 := hb5.trans (hb6.mono hb5.size)
        have hown6 := own_below hown5 hb6
        have hsz5 := hb5.size
        have hsz6 := hb6.size
        clear hxr5 hown5 hb6 hxr6
        go_wp2_with (at_builtin; refine wpList_append_src2 _ rfl _ _ 30 rfl wc.heap.size 51 i0 _ 4 32 Try.underlying30 hi0 hz0 hz1 hz2 rfl (by decide) _ _ _ rfl hown6 A6 _ c6 (sn.pend.flatMap Eff.cells) rfl (by rw [flat_len Eff.cells_len, HPL.out]) hs6.nilA (hs6.news Eff.cells_len (by decide)) (flat_one Eff.cells_one _) (by unfold maxLen; omega) (by omega) (by omega) ?_)
        intro Ax cx w7 hown7 hgrow7 hnew7
        clear hnew7
        have hb7 : Below wc.heap.size wc w7 := below_own hb56 hown6 hgrow7 (Nat.le_refl _) (by omega)
        have hxr7 := hxr'.under hb7
        have hs47 := hs4.below hb7
        rw [← List.flatMap_append] at hown7
        obtain ⟨A7, c7, e7, hs7, hc7⟩ := Sl.of_own Eff.cells_len hown7 (by rw [List.length_append, HPL.out])
        cases e7
        clear hown6 hgrow7 hb7 hb56 hb5 hxr' hs4 hs6 hown7
        have hNN : se'.length + np ≤ 1000 := by omega
        have HSH := Lib.hid hsh'
        clear hsh'
        generalize se'.length + np = N at *
        generalize hM : sh'.length = M at *
        have HM := Lib.hid hM
        clear hM
        go_wp2_with fail
        refine (sameSet_is A4 Ax M N sh' (se' ++ sn.pend) c4 cx w7 (by omega) (by omega) hs47 hs7 true HSM.out).mono ?_
        rintro e w8 ⟨rfl, hb8⟩
        have hxr8 := hxr7.under hb8
        clear hxr7 hs47 hs7 hb8
        go_wp2
        go_roundw
        case rel => exact ⟨k + 1, sh', se', by omega, by go_num, by rw [HS.out]; exact HXI.out, by rw [HM.out]; exact HSH.out, by rw [HS.out]; exact hxr8⟩
        case measure => simp [intOf]; omega
    · have hB := hB3.trans (hxr.kept.below hp hr hB3.size)
      clear hxr HX
      go_wp2_with fail
      refine (lives_any wr).mono ?_
      rintro e w9 ⟨rfl, hb9⟩
      have hB9 := hB.trans (hb9.mono hB.size)
      clear hb9 hB
      go_wp2
      go_ret
      exact ⟨rfl, hB9⟩
end Go.Proofs.Ytllcankinjomaaa
