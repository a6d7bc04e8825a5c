import Derived.Test.YtllcankinjomaaaPlain3
namespace Go.Proofs.Ytllcankinjomaaa
set_option linter.unusedSimpArgs false
set_option linter.unusedVariables false
open Go.RowKit Go.MapKept Go.Maps

/-- what holds in EffectsModel at a round's head -/
structure MR (w : World) (p r mb : Nat) (B : Option Addr) (m : Nat) (cs : List CallM) (k : Nat) (s : BS) (ps : PS) (T L : Option Addr) (n c c' : Nat) (wr : World) : Prop where
  few : ps.length ≤ k
  blk : wr.heap[mb]? = some (.cells #[.slice T n c, .slice L n c', .int .i64 s.bnd] 27 (0, 0))
  ticks : SlI 3 wr T n (ps.map (·.1))
  lists : SlL wr L n (ps.map (·.2))
  bd : BdS wr p r s
  calls : SlC wr B m cs
  below : Below w.heap.size w wr
section
variable {w : World} {p r mb : Nat} {B : Option Addr} {m : Nat} {cs : List CallM} {k : Nat} {s : BS} {ps : PS} {T L : Option Addr} {n c c' : Nat} {wr w' : World}
theorem MR.under (h : MR w p r mb B m cs k s ps T L n c c' wr) (hb : Below wr.heap.size wr w') : MR w p r mb B m cs k s ps T L n c c' w' :=
  ⟨h.few, (hb.block _ (lt_of_heap h.blk)).trans h.blk, h.ticks.below hb, SlR.below (S := fun t => t = 51) (sliceR.stays _ _ _ rfl) h.lists hb, Bd.below h.bd hb, h.calls.under hb, h.below.trans (hb.mono h.below.size)⟩
theorem MR.cnt (h : MR w p r mb B m cs k s ps T L n c c' wr) : n = ps.length := by have := h.ticks.len; simpa using this
/-- the board alone has changed -/
theorem MR.board (h : MR w p r mb B m cs k s ps T L n c c' wr) {s' : BS} (hk : Kept p r wr w') (hb : BdS w' p r s') (hn : s'.bnd = s.bnd) (hp : w.heap.size ≤ p) (hr : w.heap.size ≤ r) : MR w p r mb B m cs k s' ps T L n c c' w' :=
  ⟨h.few, by rw [hn]; exact (hk.kt (S := fun t => t = 27) h.bd (by decide)) _ _ _ _ rfl h.blk, h.ticks.kt (hk.kt (S := fun t => t = 3) h.bd (by decide)) rfl,
    SlR.kt (S := fun t => t = 51 ∨ t = 30) (sliceR.stays _ _ _ (.inl rfl)) h.lists (hk.kt h.bd (by decide)) (.inr rfl), hb, h.calls.kept h.bd hk, h.below.trans (hk.below hp hr h.below.size)⟩
theorem MR.store (h : MR w p r mb B m cs k s ps T L n c c' wr) (hmb : w.heap.size ≤ mb) (v0 v1 v2 : Value) :
    (((wr.setCell ⟨mb, 0, none⟩ v0).setCell ⟨mb, 1, none⟩ v1).setCell ⟨mb, 2, none⟩ v2).heap[mb]? = some (.cells #[v0, v1, v2] 27 (0, 0)) ∧
    KT (fun t => t ≠ 27) wr (((wr.setCell ⟨mb, 0, none⟩ v0).setCell ⟨mb, 1, none⟩ v1).setCell ⟨mb, 2, none⟩ v2) ∧
    BdS (((wr.setCell ⟨mb, 0, none⟩ v0).setCell ⟨mb, 1, none⟩ v1).setCell ⟨mb, 2, none⟩ v2) p r s ∧
    Below w.heap.size w (((wr.setCell ⟨mb, 0, none⟩ v0).setCell ⟨mb, 1, none⟩ v1).setCell ⟨mb, 2, none⟩ v2) := by
  have h0 := heap_setCell_same (i := 0) h.blk v0
  have h1 := heap_setCell_same (i := 1) h0 v1
  have h2 := heap_setCell_same (i := 2) h1 v2
  have hk : KT (fun t => t ≠ 27) wr (((wr.setCell ⟨mb, 0, none⟩ v0).setCell ⟨mb, 1, none⟩ v1).setCell ⟨mb, 2, none⟩ v2) := by
    refine (((KT.refl _ wr).setCell ?_).setCell ?_).setCell ?_
    · intro cs t fz e; have := h.blk.symm.trans e; cases this; simp
    · intro cs t fz e; have := h0.symm.trans e; cases this; simp
    · intro cs t fz e; have := h1.symm.trans e; cases this; simp
  refine ⟨by simpa using h2, hk, ?_, ?_⟩
  · have hp : p ≠ mb := by rintro rfl; have := h.blk.symm.trans h.bd.blk; simp at this
    have hr : r ≠ mb := by
      rintro rfl
      obtain ⟨f, ⟨es, cl, hb2, _⟩, _⟩ := h.bd.map
      have := h.blk.symm.trans hb2; simp at this
    refine Bd.keep h.bd ?_ ?_ (hk.mono (by intro t ht; subst ht; decide))
    · rw [Below.heap_setCell _ _ _ _ hp, Below.heap_setCell _ _ _ _ hp, Below.heap_setCell _ _ _ _ hp]
    · rw [Below.heap_setCell _ _ _ _ hr, Below.heap_setCell _ _ _ _ hr, Below.heap_setCell _ _ _ _ hr]
  · exact ((h.below.setCell (p := ⟨mb, 0, none⟩) hmb _).setCell (p := ⟨mb, 1, none⟩) hmb _).setCell (p := ⟨mb, 2, none⟩) hmb _
end
theorem out_len {w : World} {p r : Nat} {s : BS} (hb : BdS w p r s) (t : Int) : (s.out t).length ≤ 240000 := by
  unfold BS.out confOut
  split
  · simp
  · have h1 := flat_small (Bd.small hb) ((sortI s.ks).filter (fun x => decide (x < t)))
    have h2 := List.length_filter_le (fun x => decide (x < t)) (sortI s.ks)
    rw [sortI_len] at h2
    have := Bd.few hb
    omega
theorem MR.ne {w : World} {p r mb : Nat} {B : Option Addr} {m : Nat} {cs : List CallM} {k : Nat} {s : BS} {ps : PS} {T L : Option Addr} {n c c' : Nat} {wr : World} (h : MR w p r mb B m cs k s ps T L n c c' wr) {cb : Nat} {cells : Array Value} (hc : wr.heap[cb]? = some (.cells cells 32 (0, 0))) : cb ≠ mb := by
  rintro rfl
  have := h.blk.symm.trans hc
  simp at this
set_option maxHeartbeats 400000 in
theorem rconf_is (w : World) (T L : Option Addr) (n c c' : Nat) (ps : PS) (s : BS) (t : Int) (hi : MInv ps s) (hn : n ≤ 1000000) (hT : SlI 3 w T n (ps.map (·.1))) (hL : SlL w L n (ps.map (·.2))) (p r : Nat) (hb : BdS w p r s)
    (out : List Eff) (q : Nat) (ho : s.out t = out) (hq : out.length = q) (bnd' : Int) (hb' : max s.bnd t = bnd') :
    Calls Try.prog 13 #[rbv T L n c c' s.bnd, .int .i64 t] w fun e w' => ∃ A cq, e = .returned (.tuple #[rbv T L n c c' bnd', .slice A q cq]) ∧ q ≤ cq ∧ SlE w' A q out ∧ Below w.heap.size w w' := by
  subst ho hq hb'
  by_cases ht : t ≤ s.bnd
  · have ho : s.out t = [] := by unfold BS.out confOut; rw [if_pos ht]
    rw [ho, show max s.bnd t = s.bnd by omega]
    refine (confirm_no T L n c c' s.bnd t w ht).mono ?_
    rintro e w' ⟨rfl, h⟩
    exact ⟨none, 0, rfl, Nat.le_refl _, Sl.nil, h⟩
  · have ho := hi.out hb.nodup (fun k hk => Bd.off hb k hk) t (by omega)
    have hlen := out_len hb t
    refine (confirm_yes T L n c c' _ _ s.bnd t w (by omega) hn (by rw [ho]; omega) hT hL).mono ?_
    rintro e w' ⟨v, rfl, hv, h⟩
    rw [ho] at hv
    obtain ⟨A, c1, rfl, hs, hc⟩ := Sl.of_own Eff.cells_len hv rfl
    rw [show max s.bnd t = t by omega]
    exact ⟨A, c1, rfl, hc, hs, h⟩
theorem rpend_is (w : World) (T L : Option Addr) (n c c' : Nat) (ps : PS) (s : BS) (hi : MInv ps s) (hn : n ≤ 1000000) (hT : SlI 3 w T n (ps.map (·.1))) (hL : SlL w L n (ps.map (·.2))) (p r : Nat) (hb : BdS w p r s)
    (out : List Eff) (q : Nat) (ho : s.pend = out) (hq : out.length = q) (hq2 : q ≤ 1000000) :
    Calls Try.prog 22 #[rbv T L n c c' s.bnd] w fun e w' => ∃ A cq, e = .returned (.slice A q cq) ∧ q ≤ cq ∧ SlE w' A q out ∧ Below w.heap.size w w' := by
  subst ho hq
  have ho := hi.pend hb.nodup (fun k hk => Bd.off hb k hk) (fun k hk => (Bd.rng hb k hk).2)
  refine (pending_any T L n c c' _ _ s.bnd w hn (by rw [ho]; exact hq2) hT hL).mono ?_
  rintro e w' ⟨v, rfl, hv, h⟩
  rw [ho] at hv
  obtain ⟨A, c1, rfl, hs, hc⟩ := Sl.of_own Eff.cells_len hv rfl
  exact ⟨A, c1, rfl, hc, hs, h⟩

set_option maxHeartbeats 1000000 in
set_option maxRecDepth 100000 in
theorem model_any {tt : TypeId} (A : Option Addr) (n cap : Nat) (xs : List Int) (w : World) (hn : n ≤ 9223372036854775807) (hx : SlI tt w A n xs) (hb64 : ∀ x ∈ xs, -9223372036854775808 ≤ x ∧ x ≤ 9223372036854775807) :
    Calls Try.prog 3 #[.slice A n cap] w fun e w' => e = .returned (.bool true) ∧ Below w.heap.size w w' := by
  have HB := Lib.hid hb64
  clear hb64
  go_enter Try.func3, Try.ntmps3
  go_wp2_with fail
  refine (new_bd w).mono ?_
  rintro e w1 ⟨p, r, rfl, hbd1, hp, hr, hb1⟩
  have hx1 := hx.below hb1
  clear hx
  have hb2 : Below w1.heap.size w1 (w1.alloc (.cells #[.slice none 0 0, .slice none 0 0, .int .i64 0] 27)) := below_alloc _ _
  have hbd2 := hbd1.below hb2
  have hx2 := hx1.below hb2
  have hB2 := hb1.trans (hb2.mono hb1.size)
  have hM2 := heap_alloc_new w1 (.cells #[.slice none 0 0, .slice none 0 0, .int .i64 0] 27)
  have hmbw : w.heap.size ≤ w1.heap.size := hb1.size
  clear hbd1 hx1 hb1 hb2
  go_wp2_with fail
  generalize w1.alloc (.cells #[.slice none 0 0, .slice none 0 0, .int .i64 0] 27) = w2 at *
  refine (calls_is A n cap xs w2 hn hx2 HB.out _ _ rfl rfl).mono ?_
  rintro e w3 ⟨B, cc, rfl, hcc, hsc, hb3⟩
  have hbx0 : BdS w3 p r BS.init := hbd2.below hb3
  have hB3 := hB2.trans (hb3.mono hB2.size)
  have hM3 := (hb3.block _ (lt_of_heap hM2)).trans hM2
  have hm30 := callsOf_len xs
  have HOK := Lib.hid (callsOf_ok xs)
  have hmr : MR w p r w1.heap.size B _ _ 0 BS.init [] none none 0 0 0 w3 := ⟨Nat.le_refl _, hM3, Sl.nil, SlR.nil, hbx0, hsc, hB3⟩
  clear hbd2 hx2 hb3 hB2 hbx0 hB3 hM3 hM2 hsc
  generalize callsOf xs = cs at *
  generalize hm : cs.length = m at *
  go_wp2
  go_loopw [6] (fun i wr => ∃ (k : Nat) (ps : PS) (T L : Option Addr) (n c c' : Nat), k ≤ m ∧ i = .int .i64 k ∧ MInv ps (BS.init.calls (cs.take k)) ∧ MR w p r w1.heap.size B m cs k (BS.init.calls (cs.take k)) ps T L n c c' wr) (fun i _ => m - (intOf i).toNat)
  case atStart => exact ⟨0, [], none, none, 0, 0, 0, Nat.zero_le _, rfl, MInv.init, hmr⟩
  case round =>
    clear hmr
    have hmb := hmbw
    obtain ⟨k, ps, T, L, n, c1, c1', hk, rfl, hinv, hmr⟩ := hrel
    have HI := Lib.hid hinv
    clear hinv
    generalize w1.heap.size = mb at *
    by_cases hlt : k < m
    · obtain ⟨b, off, c, C, q, qc, rfl, hbl, hck, hqc, hsl, d0, d1, d2⟩ := hmr.calls.call hlt
      have HT := Lib.hid (take_succ_some hck)
      have HCK := Lib.hid hck
      have hok := HOK.out c (List.mem_of_getElem? hck)
      obtain ⟨o0, o1, o2, -⟩ := hok
      clear hck
      have HS : Hid (BS.init.calls (cs.take (k + 1)) = (BS.init.calls (cs.take k)).call c) := by show _ = _; rw [HT.out, BS.calls_snoc]
      generalize BS.init.calls (cs.take k) = s at *
      have hq6 : q ≤ 6 := by have := hsl.len; omega
      have hn30 : n ≤ 30 := by have := hmr.cnt; have := hmr.few; omega
      clear o2
      have hb4 : Below wr.heap.size wr (wr.alloc (.cells #[.bool c.conf, .int .i64 c.tick, .slice C q qc] 32)) := below_alloc _ _
      have hmr4 := hmr.under hb4
      have hsl4 := hsl.below hb4
      have hc4 := heap_alloc_new wr (.cells #[.bool c.conf, .int .i64 c.tick, .slice C q qc] 32)
      have hcb : mb < (wr.alloc (.cells #[.bool c.conf, .int .i64 c.tick, .slice C q qc] 32)).heap.size := lt_of_heap hmr4.blk
      go_upto_if 31 with (fail)
      clear hmr hsl hb4 d0 d1 d2 hbl
      generalize wr.alloc (.cells #[.bool c.conf, .int .i64 c.tick, .slice C q qc] 32) = w4 at *
      generalize wr.heap.size = cb at *
      go_cut [] (fun wx => ∃ (ps : PS) (T L : Option Addr) (n c1 c1' : Nat), MInv ps (s.call c) ∧ MR w p r mb (some ⟨b, off, none⟩) m cs (k + 1) (s.call c) ps T L n c1 c1' wx)
      case first =>
        have f0 : w4.cell? ⟨mb, 0, none⟩ = some (.slice T n c1) := cell_blk hmr4.blk 0
        have f1 : w4.cell? ⟨mb, 1, none⟩ = some (.slice L n c1') := cell_blk hmr4.blk 1
        have f2 : w4.cell? ⟨mb, 2, none⟩ = some (.int .i64 s.bnd) := cell_blk hmr4.blk 2
        have g1 : w4.cell? ⟨cb, 1, none⟩ = some (.int .i64 c.tick) := cell_blk hc4 1
        have g2 : w4.cell? ⟨cb, 2, none⟩ = some (.slice C q qc) := cell_blk hc4 2
        cases hcf : c.conf
        · have HC : Hid (s.call c = s.show c.tick c.l) := by show _ = _; unfold BS.call; rw [hcf]; rfl
          rw [hcf] at hc4
          clear hcf
          go_wp2_with fail
          refine (wrong_any T L C n c1 c1' q qc s.bnd c.tick c.l w4 (by omega) hsl4).mono ?_
          rintro e w5 ⟨rfl, hb5⟩
          have hmr5 := hmr4.under hb5
          have hc5 := (hb5.block _ (lt_of_heap hc4)).trans hc4
          have hsl5 := hsl4.below hb5
          clear f0 f1 f2 g1 g2 hmr4 hc4 hsl4 hb5
          have g1 : w5.cell? ⟨cb, 1, none⟩ = some (.int .i64 c.tick) := cell_blk hc5 1
          have g2 : w5.cell? ⟨cb, 2, none⟩ = some (.slice C q qc) := cell_blk hc5 2
          by_cases hwe : wrong s.bnd c.tick c.l = 0
          · have hs1 : s.s1 c.tick c.l = diff c.l (s.cur c.tick) := by unfold BS.s1; rw [if_pos hwe]
            have hs2 : s.s2 c.tick c.l = diff (s.cur c.tick) c.l := by unfold BS.s2; rw [if_pos hwe]
            have HS1 := Lib.hid hs1
            have HS2 := Lib.hid hs2
            have HW := Lib.hid hwe
            have HSI := Lib.hid (HI.out.show hwe)
            have HOF := Lib.hid (HI.out.of (wrong_zero hwe).2.2.1)
            have hsm := Bd.small hmr5.bd c.tick
            rw [hwe]
            have hd1 := diff_len c.l (s.cur c.tick)
            have hd2 := diff_len (s.cur c.tick) c.l
            have HQL := Lib.hid hsl5.len
            have hbnd : (s.show c.tick c.l).bnd = s.bnd := BS.show_bnd _ _ _
            have HBN := Lib.hid hbnd
            clear hs1 hs2 hwe hbnd
            go_wp2_with fail
            refine (show_all w5 p r s c.tick C q qc c.l hmr5.bd (by omega) hsl5 0 HW.out _ _ _ _ _ HS1.out HS2.out rfl rfl rfl).mono ?_
            rintro e w6 ⟨A6, c6, A6', c6', rfl, hc6, hc6', hs6, hs6', hbd6, hk6⟩
            have hmr6 := hmr5.board hk6 hbd6 HBN.out hp hr
            have hsl6 := SlE.kept hsl5 hmr5.bd hk6
            have hc6b := (hk6.kt (S := fun t => t = 32) hmr5.bd (by decide)) _ _ _ _ rfl hc5
            clear hmr5 hc5 hsl5 g1 g2 hk6 hbd6
            generalize s.show c.tick c.l = sn at *
            generalize hD1 : (diff c.l (s.cur c.tick)).length = n1 at *
            generalize hD2 : (diff (s.cur c.tick) c.l).length = n2 at *
            have HD1 := Lib.hid hD1
            have HD2 := Lib.hid hD2
            clear hD1 hD2
            have f0 : w6.cell? ⟨mb, 0, none⟩ = some (.slice T n c1) := cell_blk hmr6.blk 0
            have f1 : w6.cell? ⟨mb, 1, none⟩ = some (.slice L n c1') := cell_blk hmr6.blk 1
            have f2 : w6.cell? ⟨mb, 2, none⟩ = some (.int .i64 sn.bnd) := cell_blk hmr6.blk 2
            have g1 : w6.cell? ⟨cb, 1, none⟩ = some (.int .i64 c.tick) := cell_blk hc6b 1
            have g2 : w6.cell? ⟨cb, 2, none⟩ = some (.slice C q qc) := cell_blk hc6b 2
            have hm7 : (s.cur c.tick).length ≤ 40 := hsm
            clear hsm hd1 hd2
            go_wp2_with fail
            refine (of_any T L n c1 c1' _ _ sn.bnd c.tick w6 (by omega) hmr6.ticks hmr6.lists).mono ?_
            rintro e w7 ⟨A7, m7, c7, rfl, hc7, hs7, hb7⟩
            rw [HOF.out] at hs7
            have hm7' : m7 ≤ 40 := by have := hs7.len; omega
            have hmr7 := hmr6.under hb7
            have hsl7 := hsl6.below hb7
            have hs67 := hs6.below hb7
            have hs67' := hs6'.below hb7
            have hc7b := (hb7.block _ (lt_of_heap hc6b)).trans hc6b
            clear f0 f1 f2 g1 g2 hmr6 hsl6 hs6 hs6' hc6b hb7 hm7
            have hn1 : n1 ≤ 40 := by have := HD1.out; have := diff_len c.l (s.cur c.tick); have := HQL.out; omega
            have hn2 : n2 ≤ 40 := by have := HD2.out; have := diff_len (s.cur c.tick) c.l; have := hs7.len; omega
            have g2 : w7.cell? ⟨cb, 2, none⟩ = some (.slice C q qc) := cell_blk hc7b 2
            go_wp2_with fail
            refine (difference_any C A7 q m7 c.l (s.cur c.tick) qc c7 w7 (by omega) (by omega) (by omega) hsl7 hs7).mono ?_
            rintro e w8 ⟨v8, rfl, hv8, hb8⟩
            rw [HD1.out] at hv8
            obtain ⟨A8, c8, rfl, hs8, hc8⟩ := Sl.of_own Eff.cells_len hv8 HD1.out.symm
            have hmr8 := hmr7.under hb8
            have hsl8 := hsl7.below hb8
            have hs68 := hs67.below hb8
            have hs68' := hs67'.below hb8
            have hs78 := hs7.below hb8
            have hc8b := (hb8.block _ (lt_of_heap hc7b)).trans hc7b
            clear g2 hmr7 hsl7 hs67 hs67' hs7 hc7b hb8 hv8
            have g2 : w8.cell? ⟨cb, 2, none⟩ = some (.slice C q qc) := cell_blk hc8b 2
            go_wp2_with fail
            refine (same_is A6 A8 n1 n1 _ _ c6 c8 w8 (by omega) (by omega) hs68 hs8 true (by simp)).mono ?_
            rintro e w9 ⟨rfl, hb9⟩
            have hmr9 := hmr8.under hb9
            have hsl9 := hsl8.below hb9
            have hs69' := hs68'.below hb9
            have hs79 := hs78.below hb9
            have hc9b := (hb9.block _ (lt_of_heap hc8b)).trans hc8b
            clear g2 hmr8 hsl8 hs68 hs68' hs78 hc8b hb9 hs8
            have g2 : w9.cell? ⟨cb, 2, none⟩ = some (.slice C q qc) := cell_blk hc9b 2
            go_wp2_with fail
            refine (difference_any A7 C m7 q (s.cur c.tick) c.l c7 qc w9 (by omega) (by omega) (by omega) hs79 hsl9).mono ?_
            rintro e w10 ⟨v10, rfl, hv10, hb10⟩
            rw [HD2.out] at hv10
            obtain ⟨A10, c10, rfl, hs10, hc10⟩ := Sl.of_own Eff.cells_len hv10 HD2.out.symm
            have hmr10 := hmr9.under hb10
            have hsl10 := hsl9.below hb10
            have hs610' := hs69'.below hb10
            have hc10b := (hb10.block _ (lt_of_heap hc9b)).trans hc9b
            clear g2 hmr9 hsl9 hs69' hs79 hc9b hb10 hv10
            go_wp2_with fail
            refine (same_is A6' A10 n2 n2 _ _ c6' c10 w10 (by omega) (by omega) hs610' hs10 true (by simp)).mono ?_
            rintro e w11 ⟨rfl, hb11⟩
            have hmr11 := hmr10.under hb11
            have hsl11 := hsl10.below hb11
            have hc11b := (hb11.block _ (lt_of_heap hc10b)).trans hc10b
            clear hmr10 hsl10 hs610' hc10b hb11 hs10
            have f0 : w11.cell? ⟨mb, 0, none⟩ = some (.slice T n c1) := cell_blk hmr11.blk 0
            have f1 : w11.cell? ⟨mb, 1, none⟩ = some (.slice L n c1') := cell_blk hmr11.blk 1
            have f2 : w11.cell? ⟨mb, 2, none⟩ = some (.int .i64 sn.bnd) := cell_blk hmr11.blk 2
            have g1 : w11.cell? ⟨cb, 1, none⟩ = some (.int .i64 c.tick) := cell_blk hc11b 1
            have g2 : w11.cell? ⟨cb, 2, none⟩ = some (.slice C q qc) := cell_blk hc11b 2
            go_wp2_with fail
            refine (Ytllcankinjomaaa.show_any T L C n c1 c1' q qc ps c.l sn.bnd c.tick w11 (by omega) hqc hmr11.ticks hmr11.lists hsl11).mono ?_
            rintro e w12 ⟨T', L', n', d, d', rfl, hT', hL', hb12⟩
            have hmr12 := hmr11.under hb12
            clear f0 f1 f2 g1 g2 hmr11 hsl11 hc11b hb12
            have fr : ∀ i, w12.frozen? ⟨mb, i, none⟩ = false := fun i => frozen_blk hmr12.blk i
            have f0 : w12.cell? ⟨mb, 0, none⟩ = some (.slice T n c1) := cell_blk hmr12.blk 0
            have f1 : w12.cell? ⟨mb, 1, none⟩ = some (.slice L n c1') := cell_blk hmr12.blk 1
            have f2 : w12.cell? ⟨mb, 2, none⟩ = some (.int .i64 sn.bnd) := cell_blk hmr12.blk 2
            obtain ⟨hblk, hkt, hbd, hbel⟩ := hmr12.store hmb (.slice T' n' d) (.slice L' n' d') (.int .i64 sn.bnd)
            have hfin : MR w p r mb (some ⟨b, off, none⟩) m cs (k + 1) sn (rshow c.tick c.l ps) T' L' n' d d' (((w12.setCell ⟨mb, 0, none⟩ (.slice T' n' d)).setCell ⟨mb, 1, none⟩ (.slice L' n' d')).setCell ⟨mb, 2, none⟩ (.int .i64 sn.bnd)) :=
              ⟨by rw [rshow_ins]; have := insP_len c.tick c.l ps; have := hmr12.few; omega, hblk, hT'.kt hkt (by decide), SlR.kt (S := fun t => t ≠ 27) (sliceR.stays _ _ _ (by decide)) hL' hkt (by decide), hbd,
                SlR.kt (S := fun t => t ≠ 27) (callR.stays (by decide)) hmr12.calls hkt (by decide), hbel⟩
            clear hmr12 hblk hkt hbd hbel hT' hL'
            go_wp2
            go_meet
            exact ⟨_, _, _, _, _, _, by rw [HC.out]; exact HSI.out, by rw [HC.out]; exact hfin⟩
          · have hs1 : s.s1 c.tick c.l = [] := by unfold BS.s1; rw [if_neg hwe]
            have hs2 : s.s2 c.tick c.l = [] := by unfold BS.s2; rw [if_neg hwe]
            have hsn : s.show c.tick c.l = s := BS.show_same s hwe
            have HS1 := Lib.hid hs1
            have HS2 := Lib.hid hs2
            have HSN := Lib.hid hsn
            have hz1 : (wrong s.bnd c.tick c.l != wrong s.bnd c.tick c.l) = false := by simp
            have hz2 : (wrong s.bnd c.tick c.l != 0) = true := by simpa using hwe
            have hz3 : (wrong s.bnd c.tick c.l == 0) = false := by simpa using hwe
            clear hs1 hs2 hsn hwe
            go_wp2_with fail
            refine (show_all w5 p r s c.tick C q qc c.l hmr5.bd (by omega) hsl5 _ rfl [] [] 0 0 s HS1.out HS2.out rfl rfl HSN.out).mono ?_
            rintro e w6 ⟨A6, c6, A6', c6', rfl, -, -, -, -, hbd6, hk6⟩
            have hmr6 := hmr5.board hk6 hbd6 rfl hp hr
            clear hmr5 hc5 hsl5 g1 g2 hk6 hbd6
            generalize wrong s.bnd c.tick c.l = we at *
            go_wp2
            go_meet
            exact ⟨ps, T, L, n, c1, c1', by rw [HC.out, HSN.out]; exact HI.out, by rw [HC.out, HSN.out]; exact { hmr6 with few := by have := hmr6.few; omega }⟩
        · have HC : Hid (s.call c = s.conf c.tick) := by show _ = _; unfold BS.call; rw [hcf]; rfl
          clear hcf
          go_wp2_with fail
          refine (rconf_is w4 T L n c1 c1' ps s c.tick HI.out (by omega) hmr4.ticks hmr4.lists p r hmr4.bd _ _ rfl rfl _ rfl).mono ?_
          rintro e w5 ⟨A5, c5, rfl, hc5, hs5, hb5⟩
          have hmr5 := hmr4.under hb5
          have hc5' := (hb5.block _ (lt_of_heap hc4)).trans hc4
          clear f0 f1 f2 g1 g2
          have fr : ∀ i, w5.frozen? ⟨mb, i, none⟩ = false := fun i => frozen_blk hmr5.blk i
          have f0 : w5.cell? ⟨mb, 0, none⟩ = some (.slice T n c1) := cell_blk hmr5.blk 0
          have f1 : w5.cell? ⟨mb, 1, none⟩ = some (.slice L n c1') := cell_blk hmr5.blk 1
          have f2 : w5.cell? ⟨mb, 2, none⟩ = some (.int .i64 s.bnd) := cell_blk hmr5.blk 2
          have g1 : w5.cell? ⟨cb, 1, none⟩ = some (.int .i64 c.tick) := cell_blk hc5' 1
          have hmbl := lt_of_heap hmr5.blk
          have hcbl := lt_of_heap hc5'
          have hne := hmr5.ne hc5'
          have hol := out_len hmr5.bd c.tick
          obtain ⟨hblk, hkt, hbd, hbel⟩ := hmr5.store hmb (.slice T n c1) (.slice L n c1') (.int .i64 (max s.bnd c.tick))
          have hti := hmr5.ticks.kt hkt (by decide)
          have hli := SlR.kt (S := fun t => t ≠ 27) (sliceR.stays _ _ _ (by decide)) hmr5.lists hkt (by decide)
          have hca := SlR.kt (S := fun t => t ≠ 27) (callR.stays (by decide)) hmr5.calls hkt (by decide)
          have hs5' := hs5.kt hkt (by decide)
          have HI2 := Lib.hid (HI.out.conf c.tick)
          have hfew := hmr5.few
          clear hmr5 hmr4 hkt hs5 hsl4 hc4 hc5' hb5
          go_wp2_with fail
          generalize ((w5.setCell ⟨mb, 0, none⟩ (.slice T n c1)).setCell ⟨mb, 1, none⟩ (.slice L n c1')).setCell ⟨mb, 2, none⟩ (.int .i64 (max s.bnd c.tick)) = w6 at *
          have hb7 := below_alloc w6 (.cells #[.slice T n c1, .slice L n c1', .int .i64 (max s.bnd c.tick)] 27)
          have hbd7 : BdS (w6.alloc (.cells #[.slice T n c1, .slice L n c1', .int .i64 (max s.bnd c.tick)] 27)) p r s := Bd.below hbd hb7
          have hblk7 := (hb7.block _ (lt_of_heap hblk)).trans hblk
          have hti7 := hti.below hb7
          have hli7 := SlR.below (S := fun t => t = 51) (sliceR.stays _ _ _ rfl) hli hb7
          have hca7 := SlC.under hca hb7
          have hs7 := hs5'.below hb7
          have hbel7 := hbel.trans (hb7.mono hbel.size)
          clear hbd hblk hti hli hca hs5' hbel hb7 f0 f1 f2 g1 fr hmbl hcbl hne
          generalize w6.alloc (.cells #[.slice T n c1, .slice L n c1', .int .i64 (max s.bnd c.tick)] 27) = w7 at *
          refine (conf_all w7 p r s c.tick hbd7 _ _ _ rfl rfl rfl).mono ?_
          rintro e w8 ⟨A8, c8, rfl, hc8, hs8, hbd8, hk8⟩
          have hs5 := SlE.kept hs7 hbd7 hk8
          have hmr8 : MR w p r mb (some ⟨b, off, none⟩) m cs (k + 1) (s.conf c.tick) ps T L n c1 c1' w8 := ⟨by omega, (hk8.kt (S := fun t => t = 27) hbd7 (by decide)) _ _ _ _ rfl hblk7, hti7.kt (S := fun t => t = 3) (hk8.kt hbd7 (by decide)) rfl,
            SlR.kt (S := fun t => t = 51 ∨ t = 30) (sliceR.stays _ _ _ (.inl rfl)) hli7 (hk8.kt hbd7 (by decide)) (.inr rfl), hbd8, SlC.kept hca7 hbd7 hk8, hbel7.trans (hk8.below hp hr hbel7.size)⟩
          clear hbd7 hblk7 hti7 hli7 hca7 hs7 hbel7 hbd8 hk8
          generalize s.out c.tick = out at *
          generalize out.length = no at *
          go_wp2_with fail
          refine (same_is A8 A5 no no out out c8 c5 w8 (by omega) (by omega) hs8 hs5 true (by simp)).mono ?_
          rintro e w9 ⟨rfl, hb9⟩
          have hmr9 := hmr8.under hb9
          clear hmr8 hb9 hs8 hs5
          go_wp2
          go_meet
          exact ⟨ps, T, L, n, c1, c1', by rw [HC.out]; exact HI2.out, by rw [HC.out]; exact hmr9⟩
      case rest =>
        obtain ⟨ps', T', L', n', d, d', hi', hmr'⟩ := hcut
        have HI' := Lib.hid hi'
        clear hmr4 hsl4 hc4 hcb hi' HI
        generalize s.call c = sn at *
        have hn31 : n' ≤ 31 := by have := hmr'.cnt; have := hmr'.few; omega
        have hps : sn.pend.length ≤ 240000 := sortI_small _ _ (Bd.small hmr'.bd) (Bd.few hmr'.bd)
        generalize hpl : sn.pend.length = np at *
        have HPL := Lib.hid hpl
        clear hpl
        have f0 : wc.cell? ⟨mb, 0, none⟩ = some (.slice T' n' d) := cell_blk hmr'.blk 0
        have f1 : wc.cell? ⟨mb, 1, none⟩ = some (.slice L' n' d') := cell_blk hmr'.blk 1
        have f2 : wc.cell? ⟨mb, 2, none⟩ = some (.int .i64 sn.bnd) := cell_blk hmr'.blk 2
        have hmbl := lt_of_heap hmr'.blk
        go_upto_region 24 with fail
        have hU := fun (u : Up wc) => Up.cell u
        refine wp_region_piUp [(0, 0), (2, 0), (1, 1), (3, 1), (4, 1), (5, 0)] [] (by kernel_rfl) (by kernel_rfl) ?_
        repeat (first | (refine pi_plain (by rfl) (by rfl) (fun K hK => ?_); go_big_quiet_op; refine hK _ ?_; clear hK K))
        have hmrd := hmr'.under (Below.refl _ _).drew
        have hbD : Below wc.heap.size wc wc.drew := (Below.refl _ _).drew
        refine pi_soft (by rfl) (by rfl) (fun K hK => ?_)
        go_big_op
        refine (pend_all wc.drew p r sn hmrd.bd sn.pend np rfl HPL.out).mono ?_
        rintro e w5 ⟨A5, c5, rfl, -, hs5, hb5⟩
        have hmr5 := hmrd.under hb5
        have hbE := hbD.trans hb5
        refine hK _ _ hbE ?_
        clear hK K hb5 hmrd
        refine pi_soft (by rfl) (by rfl) (fun K hK => ?_)
        go_big_op
        refine (rpend_is w5 T' L' n' d d' ps' sn HI'.out (by omega) hmr5.ticks hmr5.lists p r hmr5.bd sn.pend np rfl HPL.out (by omega)).mono ?_
        rintro e w6 ⟨A6, c6, rfl, -, hs6, hb6⟩
        have hmr6 := hmr5.under hb6
        have hs56 := hs5.below hb6
        have hbF := hbE.trans (hb6.mono hbE.size)
        refine hK _ _ hbF ?_
        clear hK K hb6 hmr5 hs5 hbE
        refine pi_soft (by rfl) (by rfl) (fun K hK => ?_)
        go_big_op
        refine (same_is A5 A6 np np sn.pend sn.pend c5 c6 w6 (by omega) (by omega) hs56 hs6 true (by simp)).mono ?_
        rintro e w7 ⟨rfl, hb7⟩
        have hmr7 := hmr6.under hb7
        have hbG := hbF.trans (hb7.mono hbF.size)
        refine hK _ _ hbG ?_
        clear hK K hb7 hmr6 hs56 hs6 hbF hbG hbD
        repeat (first | (refine pi_plain (by rfl) (by rfl) (fun K hK => ?_); go_big_quiet_op; refine hK _ ?_; clear hK K))
        refine pi_nil ?_
        clear hU hmr' f0 f1 f2 hmbl
        go_wp2
        go_roundw
        case rel => exact ⟨k + 1, ps', T', L', n', d, d', by omega, by go_num, by rw [HS.out]; exact HI'.out, by rw [HS.out]; exact hmr7⟩
        case measure => simp [intOf]; omega
    · have hB := hmr.below
      clear hmr HI
      go_wp2_with fail
      refine (lives_any wr).mono ?_
      rintro e w9 ⟨rfl, hb9⟩
      have hB9 := hB.trans (hb9.mono hB.size)
      clear hb9 hB
      go_wp2
      go_ret
      exact ⟨rfl, hB9⟩
end Go.Proofs.Ytllcankinjomaaa
