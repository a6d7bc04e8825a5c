import Derived.Test.YtllcankinjomaaaPlain7
namespace Go.Proofs.Ytllcankinjomaaa
set_option linter.unusedSimpArgs false
set_option linter.unusedVariables false
open Go.RowKit Go.MapKept Go.Maps

/-- the law's rows and the board: w the world of the call, w4 that of the loop's start -/
structure FR (w w4 : World) (p r Lb Gb : Nat) (s : BS) (last got : Nat → List Eff) (vs : Nat → Value) (wr : World) : Prop where
  below : Below w.heap.size w wr
  kt : KT (fun t => t = 51 ∨ t = 32) w4 wr
  size : w4.heap.size ≤ wr.heap.size
  bd : BdA wr p r s (fun b => ∃ t, t < 8 ∧ (vs t).ownBlock = some b)
  lb : ∃ lc, wr.heap[Lb]? = some (.cells lc 30 (0, 0)) ∧ ∀ t, t < 8 → ∃ A m c, lc[t]? = some (.slice A m c) ∧ m ≤ c ∧ SlE w4 A m (last t)
  gb : ∃ gc, wr.heap[Gb]? = some (.cells gc 30 (0, 0)) ∧ ∀ t, t < 8 → gc[t]? = some (vs t)
  rows : ∀ t, t < 8 → wr.ownsRow w4.heap.size 51 4 (vs t) (got t).length ((got t).flatMap Eff.cells)
  ne : ∀ t u, t < 8 → u < 8 → t ≠ u → ∀ b, (vs t).ownBlock = some b → (vs u).ownBlock ≠ some b
  plt : p < w4.heap.size
  rlt : r < w4.heap.size
  pw : w.heap.size ≤ p
  rw_ : w.heap.size ≤ r
  lw : w.heap.size ≤ Lb
  gw : w.heap.size ≤ Gb
  w4w : w.heap.size ≤ w4.heap.size
  lg : Lb ≠ Gb
def updV (f : Nat → Value) (t : Nat) (v : Value) : Nat → Value := fun k => if k = t then v else f k
section
variable {w w4 wr w' : World} {G : Nat → Prop} {p r Lb Gb : Nat} {s s' : BS} {last got : Nat → List Eff} {vs : Nat → Value}
theorem FR.clear (h : FR w w4 p r Lb Gb s last got vs wr) {q : Nat} (hq : q < w4.heap.size) : ¬ (∃ t, t < 8 ∧ (vs t).ownBlock = some q) := by
  rintro ⟨t, ht, e⟩
  have := ((h.rows t ht).lt q e).1; omega
theorem FR.lt (h : FR w w4 p r Lb Gb s last got vs wr) : ∀ b, (∃ t, t < 8 ∧ (vs t).ownBlock = some b) → b < wr.heap.size := by
  rintro b ⟨t, ht, e⟩
  exact ((h.rows t ht).lt b e).2
theorem FR.under (h : FR w w4 p r Lb Gb s last got vs wr) (hb : Below wr.heap.size wr w') : FR w w4 p r Lb Gb s last got vs w' := by
  obtain ⟨lc, l1, l2⟩ := h.lb
  obtain ⟨gc, g1, g2⟩ := h.gb
  exact { h with
    below := h.below.trans (hb.mono h.below.size)
    kt := h.kt.trans (KT.below hb)
    size := Nat.le_trans h.size hb.size
    bd := h.bd.below hb (h.clear h.plt) (h.clear h.rlt)
    lb := ⟨lc, (hb.block _ (lt_of_heap l1)).trans l1, l2⟩
    gb := ⟨gc, (hb.block _ (lt_of_heap g1)).trans g1, g2⟩
    rows := fun t ht => own_below (h.rows t ht) hb }
theorem FR.board (h : FR w w4 p r Lb Gb s last got vs wr) (hb : BdA w' p r s' (fun b => ∃ t, t < 8 ∧ (vs t).ownBlock = some b)) (hk : Kept p r wr w') : FR w w4 p r Lb Gb s' last got vs w' := by
  obtain ⟨lc, l1, l2⟩ := h.lb
  obtain ⟨gc, g1, g2⟩ := h.gb
  have k30 := hk.kt (S := fun t => t = 30) h.bd.bd (by decide)
  exact { h with
    below := h.below.trans (hk.below h.pw h.rw_ h.below.size)
    kt := h.kt.trans (hk.kt h.bd.bd (by decide))
    size := Nat.le_trans h.size hk.size
    bd := hb
    lb := ⟨lc, k30 _ _ _ _ rfl l1, l2⟩
    gb := ⟨gc, k30 _ _ _ _ rfl g1, g2⟩
    rows := fun t ht => own_kt (h.rows t ht) (hk.kt (S := fun t => t = 51) h.bd.bd (by decide)) rfl }
theorem FR.pne (h : FR w w4 p r Lb Gb s last got vs wr) {q : Nat} {cs : Array Value} (hq : wr.heap[q]? = some (.cells cs 30 (0, 0))) : p ≠ q ∧ r ≠ q := by
  constructor
  · rintro rfl
    have := h.bd.bd.blk.symm.trans hq
    simp at this
  · rintro rfl
    obtain ⟨f, ⟨es, cl, hb2, _⟩, _⟩ := h.bd.bd.map
    have := hb2.symm.trans hq
    simp at this
theorem BdA.setCell (h : BdA wr p r s G) {g : Nat} {cs : Array Value} {t : TypeId} {fz : Nat × Nat} (hg : wr.heap[g]? = some (.cells cs t fz)) (ht : t ≠ 51) (hp : p ≠ g) (hr : r ≠ g) (i : Nat) (u : Value) : BdA (wr.setCell ⟨g, i, none⟩ u) p r s G := by
  have hk : KT (fun t => t = 51) wr (wr.setCell ⟨g, i, none⟩ u) := (KT.refl _ wr).setCell fun cs' t' fz' e => by rw [hg] at e; cases e; exact ht
  have hr' : (wr.setCell ⟨g, i, none⟩ u).heap[r]? = wr.heap[r]? := Below.heap_setCell _ _ _ _ hr
  refine ⟨Bd.keep h.bd (Below.heap_setCell _ _ _ _ hp) hr' hk, fun f hf => h.av f (hf.kept hr'.symm)⟩
/-- last[t] = l -/
theorem FR.setL (h : FR w w4 p r Lb Gb s last got vs wr) {t : Nat} {A : Option Addr} {m c : Nat} {l : List Eff} (hm : m ≤ c) (hs : SlE w4 A m l) : FR w w4 p r Lb Gb s (upd last t l) got vs (wr.setCell ⟨Lb, t, none⟩ (.slice A m c)) := by
  obtain ⟨lc, l1, l2⟩ := h.lb
  obtain ⟨gc, g1, g2⟩ := h.gb
  have hne := h.pne l1
  exact { h with
    below := h.below.setCell (p := ⟨Lb, t, none⟩) h.lw _
    kt := h.kt.setCell fun cs t' fz e => by have := l1.symm.trans e; cases this; decide
    size := by simpa using h.size
    bd := h.bd.setCell l1 (by decide) hne.1 hne.2 t _
    lb := ⟨_, heap_setCell_same l1 _, fun u hu => by
      obtain ⟨A', m', c', e1, e2, e3⟩ := l2 u hu
      by_cases hut : u = t
      · subst hut
        refine ⟨A, m, c, ?_, hm, by unfold upd; rw [if_pos rfl]; exact hs⟩
        have := (Array.getElem?_eq_some_iff.1 e1).1
        simp [this]
      · refine ⟨A', m', c', ?_, e2, by unfold upd; rw [if_neg hut]; exact e3⟩
        rw [Array.getElem?_setIfInBounds_ne (fun e => hut e.symm)]; exact e1⟩
    gb := ⟨gc, by rw [Below.heap_setCell _ _ _ _ (Ne.symm h.lg)]; exact g1, g2⟩
    rows := fun u hu => own_setCell_ty (h.rows u hu) l1 (by decide) t _ }
/-- got[t] = append(got[t], x): the append -/
theorem FR.app (h : FR w w4 p r Lb Gb s last got vs wr) {t : Nat} (ht : t < 8) {v' : Value} {xs : List Eff} (hown : w'.ownsRow w4.heap.size 51 4 v' ((got t).length + xs.length) ((got t).flatMap Eff.cells ++ xs.flatMap Eff.cells)) (hg : wr.grownBy w' (vs t).ownBlock) (hn : NewRow wr (vs t) v') :
    FR w w4 p r Lb Gb s last (upd got t (got t ++ xs)) (updV vs t v') (w'.setCell ⟨Gb, t, none⟩ v') := by
  obtain ⟨lc, l1, l2⟩ := h.lb
  obtain ⟨gc, g1, g2⟩ := h.gb
  have hrow : ∀ k, (vs t).ownBlock = some k → w4.heap.size ≤ k := fun k hk => ((h.rows t ht).lt k hk).1
  have hno : ∀ (q : Nat) cs ty fz, wr.heap[q]? = some (.cells cs ty fz) → ty ≠ 51 → some q ≠ (vs t).ownBlock := by
    intro q cs ty fz hq hty e
    rcases (h.rows t ht).2 with ⟨e1, _⟩ | ⟨g, cap, cur, e1, _, hh, _⟩
    · rw [e1] at e; cases e
    · rw [e1] at e; simp only [Value.ownBlock, Option.some.injEq] at e; subst e; rw [hh] at hq; cases hq; exact hty rfl
  have hlsz := lt_of_heap l1
  have hgsz := lt_of_heap g1
  have l1' : w'.heap[Lb]? = some (.cells lc 30 (0, 0)) := (hg.block _ hlsz (hno _ _ _ _ l1 (by decide))).trans l1
  have g1' : w'.heap[Gb]? = some (.cells gc 30 (0, 0)) := (hg.block _ hgsz (hno _ _ _ _ g1 (by decide))).trans g1
  have hne : ∀ u, u < 8 → u ≠ t → ∀ b, v'.ownBlock = some b → (vs u).ownBlock ≠ some b := by
    intro u hu hut b hb e
    rcases hn with e1 | e1
    · exact h.ne t u ht hu (Ne.symm hut) b (e1 ▸ hb) e
    · have := e1 b hb; have := ((h.rows u hu).lt b e).2; omega
  have hbd : BdA w' p r s (fun b => ∃ u, u < 8 ∧ (updV vs t v' u).ownBlock = some b) := by
    refine h.bd.grown (fun k hk hG => hg.block k hk (fun e => hG ⟨t, ht, e.symm⟩)) (h.clear h.plt) (h.clear h.rlt) ?_
    rintro b ⟨u, hu, e⟩ hlt
    unfold updV at e
    split at e
    · rename_i hut
      rcases hn with e1 | e1
      · exact ⟨t, ht, e1 ▸ e⟩
      · have := e1 b e; omega
    · exact ⟨u, hu, e⟩
  have hpg : p ≠ Gb ∧ r ≠ Gb := h.pne g1
  exact { h with
    below := (h.below.grown hg h.below.size (fun k hk => Nat.le_trans h.w4w (hrow k hk))).setCell (p := ⟨Gb, t, none⟩) h.gw _
    kt := fun k cs ty fz hty e => by
      have h1 := h.kt k cs ty fz hty e
      have hlt := lt_of_heap e
      have h2 : w'.heap[k]? = some (.cells cs ty fz) := (hg.block k (lt_of_heap h1) (fun e2 => by have := hrow k e2.symm; omega)).trans h1
      rw [Below.heap_setCell _ _ _ _ (fun e2 => ?_)]
      · exact h2
      · rw [e2] at h2
        have := g1'.symm.trans h2
        cases this
        revert hty; decide
    size := by have := hg.size; have := h.size; simp; omega
    bd := hbd.setCell g1' (by decide) hpg.1 hpg.2 t _
    lb := ⟨lc, by rw [Below.heap_setCell _ _ _ _ h.lg]; exact l1', l2⟩
    gb := ⟨_, heap_setCell_same g1' _, fun u hu => by
      have e1 := g2 u hu
      unfold updV
      by_cases hut : u = t
      · subst hut
        have := (Array.getElem?_eq_some_iff.1 e1).1
        rw [if_pos rfl]
        simp [this]
      · rw [if_neg hut, Array.getElem?_setIfInBounds_ne (fun e => hut e.symm)]; exact e1⟩
    rows := fun u hu => by
      unfold updV upd
      by_cases hut : u = t
      · subst hut
        rw [if_pos rfl, if_pos rfl]
        refine own_setCell_ty ?_ g1' (by decide) _ _
        simpa using hown
      · rw [if_neg hut, if_neg hut]
        refine own_setCell_ty ((h.rows u hu).kept hg ?_) g1' (by decide) _ _
        cases hb : (vs u).ownBlock with
        | none => exact .inl rfl
        | some g => exact .inr fun e => h.ne t u ht hu (Ne.symm hut) g e.symm hb
    ne := fun a b ha hb hab g hga hgb => by
      unfold updV at hga hgb
      split at hga
      · rename_i e; subst e
        rw [if_neg (fun e => hab e.symm)] at hgb
        exact hne b hb (fun e => hab e.symm) g hga hgb
      · split at hgb
        · rename_i e; subst e
          exact hne a ha hab g hgb hga
        · exact h.ne a b ha hb hab g hga hgb }
end
theorem FR.rowne {w w4 wr : World} {p r Lb Gb : Nat} {s : BS} {last got : Nat → List Eff} {vs : Nat → Value} (h : FR w w4 p r Lb Gb s last got vs wr) {t : Nat} (ht : t < 8) {q : Nat} {cs : Array Value} {ty : TypeId} {fz : Nat × Nat} (hq : wr.heap[q]? = some (.cells cs ty fz)) (hty : ty ≠ 51) : some q ≠ (vs t).ownBlock := by
  intro e
  rcases (h.rows t ht).2 with ⟨e1, _⟩ | ⟨g, cap, cur, e1, _, hh, _⟩
  · rw [e1] at e; cases e
  · rw [e1] at e; simp only [Value.ownBlock, Option.some.injEq] at e; subst e; rw [hh] at hq; cases hq; exact hty rfl
abbrev eight : Array Value := #[.slice none 0 0, .slice none 0 0, .slice none 0 0, .slice none 0 0, .slice none 0 0, .slice none 0 0, .slice none 0 0, .slice none 0 0]
theorem make8 (w : World) : (Instr.makeSlice 25 (.int .i64 8) (.int .i64 8)).run Try.prog w = .ok (.slice (some ⟨w.heap.size, 0, none⟩) 8 8) (w.alloc (.cells eight 30)) := by kernel_rfl
theorem eight_at {t : Nat} (h : t < 8) : eight[t]? = some (.slice none 0 0) := by
  match t, h with
  | 0, _ => rfl
  | 1, _ => rfl
  | 2, _ => rfl
  | 3, _ => rfl
  | 4, _ => rfl
  | 5, _ => rfl
  | 6, _ => rfl
  | 7, _ => rfl
set_option maxHeartbeats 1000000 in
set_option maxRecDepth 100000 in
theorem final_any {tt : TypeId} (A : Option Addr) (n cap : Nat) (xs : List Int) (late : Int) (w : World) (hn : n ≤ 9223372036854775807) (hx : SlI tt w A n xs) (hb64 : ∀ x ∈ xs, -9223372036854775808 ≤ x ∧ x ≤ 9223372036854775807) (hlate : -9223372036854775808 ≤ late ∧ late ≤ 9223372036854775807) :
    Calls Try.prog 7 #[.slice A n cap, .int .i64 late] w fun e w' => e = .returned (.bool true) ∧ Below w.heap.size w w' := by
  have HB := Lib.hid hb64
  have HLA := Lib.hid hlate
  clear hb64 hlate
  obtain ⟨i0, hi0, hz0, hz1, hz2⟩ := info_parts info51
  obtain ⟨i32, hi32, hz320, hz321, hz322⟩ := info_parts info32
  go_enter Try.func7, Try.ntmps7
  go_wp2_with fail
  refine (new_bd w).mono ?_
  rintro e w1 ⟨p, r, rfl, hbd1, hp, hr, hb1⟩
  have hx1 := hx.below hb1
  clear hx
  have hmk := make8
  have hb2 : Below w1.heap.size w1 ((w1.alloc (.cells eight 30)).alloc (.cells eight 30)) := ((Below.refl _ _).alloc (Nat.le_refl _) _).alloc (by simp) _
  have hbd2 := hbd1.below hb2
  have hx2 := hx1.below hb2
  have hB2 := hb1.trans (hb2.mono hb1.size)
  have hL2 : ((w1.alloc (.cells eight 30)).alloc (.cells eight 30)).heap[w1.heap.size]? = some (.cells eight 30 (0, 0)) := by rw [Below.heap_alloc _ _ _ (by simp), heap_alloc_new]
  have hG2 : ((w1.alloc (.cells eight 30)).alloc (.cells eight 30)).heap[w1.heap.size + 1]? = some (.cells eight 30 (0, 0)) := by simpa using heap_alloc_new (w1.alloc (.cells eight 30)) (.cells eight 30)
  have hlw : w.heap.size ≤ w1.heap.size := hb1.size
  have hp2 := hbd2.plt
  have hr2 := hbd2.rlt
  have hL2' := lt_of_heap hL2
  have hG2' := lt_of_heap hG2
  have hwb2 := hB2.size
  clear hbd1 hx1 hb1 hb2
  go_wp2_with fail
  clear hmk
  generalize (w1.alloc (.cells eight 30)).alloc (.cells eight 30) = w2 at *
  refine (callsT_any A n cap xs w2 hn hx2 HB.out).mono ?_
  rintro e w3 ⟨v3, cells, rfl, hv3, hrows3, hb3⟩
  have hbd3 : BdS w3 p r BS.init := hbd2.below hb3
  have hB3 := hB2.trans (hb3.mono hB2.size)
  have hL3 := (hb3.block _ (lt_of_heap hL2)).trans hL2
  have hG3 := (hb3.block _ (lt_of_heap hG2)).trans hG2
  have hm30 := callsOf_len xs
  have hok := callsOf_ok xs
  have hsz3 := hb3.size
  clear hbd2 hx2 hB2 hL2 hG2
  generalize callsOf xs = cs at *
  have hok' : ∀ c ∈ cs ++ [⟨true, 8, []⟩], 0 ≤ c.tick ∧ c.tick ≤ 8 ∧ (c.conf = false → c.tick < 8 ∧ c.l.length ≤ 6 ∧ ∀ e ∈ c.l, e.tick = c.tick) := by
    intro c hc
    rcases List.mem_append.1 hc with hc | hc
    · have := hok c hc
      exact ⟨this.1, by omega, fun _ => ⟨this.2.1, this.2.2.1, this.2.2.2⟩⟩
    · simp at hc; subst hc; exact ⟨by decide, by decide, fun h => by cases h⟩
  have HOK := Lib.hid hok'
  clear hok hok'
  have hLne : w1.heap.size ≠ w1.heap.size + 1 := by omega
  have hL2 := lt_of_heap hL3
  have hG2 := lt_of_heap hG3
  go_wp2_with (at_builtin; refine wpList_append_src _ rfl _ _ 28 rfl w2.heap.size 32 i32 _ 3 40 Try.underlying28 hi32 hz320 hz321 hz322 rfl (by decide) _ _ _ rfl (hv3.alloc _) (some ⟨w3.heap.size, 0, none⟩) 1 1 [.bool true, .int .i64 8, .slice none 0 0] rfl rfl ?c0 ?c1 ?c2 ?c3 ?c4 ?c5 ?_)
  case c0 => intro h; cases h
  case c1 => intro ad had _; cases had; exact cells_new w3 [.bool true, .int .i64 8, .slice none 0 0] 32
  case c2 => intro u hu; simp at hu; rcases hu with rfl | rfl | rfl <;> rfl
  case c3 => unfold maxLen; omega
  case c4 => omega
  case c5 => simp; omega
  intro Av cv w4 hown4 hgrow4
  have hk4 : KT (fun t => t = 51) w3 w4 := kt_own ((KT.refl _ w3).alloc _) (hv3.alloc _) hgrow4 (by decide)
  have hrows4 := RowsR.snoc (RowsR.kt (callR.stays (S := fun t => t = 51) rfl) hrows3 hk4) (x := ⟨true, 8, []⟩) (cs := [.bool true, .int .i64 8, .slice none 0 0]) rfl ⟨none, 0, 0, rfl, Nat.le_refl _, Sl.nil⟩
  have hrow : ∀ q, some q = Value.ownBlock v3 → w2.heap.size ≤ q := fun q hq => (hv3.lt q hq.symm).1
  have hblk4 : ∀ q, q < w2.heap.size → w4.heap[q]? = w3.heap[q]? := fun q hq => (hgrow4.block q (by simp; omega) (fun e => by have := hrow q e; omega)).trans (Below.heap_alloc _ _ _ (by omega))
  have hbd4 : BdS w4 p r BS.init := Bd.keep hbd3 (hblk4 p hp2) (hblk4 r hr2) hk4
  have hB4 := below_own (hB3.alloc hB3.size _) (hv3.alloc _) hgrow4 hwb2 (by have := hB3.size; simp; omega)
  have hL4 : w4.heap[w1.heap.size]? = some (.cells eight 30 (0, 0)) := (hblk4 _ hL2').trans hL3
  have hG4 : w4.heap[w1.heap.size + 1]? = some (.cells eight 30 (0, 0)) := (hblk4 _ hG2').trans hG3
  obtain ⟨B, cc, eB, hcc, hsc⟩ := SlR.of_own hown4 hrows4 (by simp)
  cases eB
  have hsc' : SlC w4 Av (cs.length + 1) (cs ++ [⟨true, 8, []⟩]) := hsc
  have hw4 := hB4.size
  have hfr : FR w w4 p r w1.heap.size (w1.heap.size + 1) BS.init (fun _ => []) (fun _ => []) (fun _ => .slice none 0 0) w4 :=
    { below := hB4, kt := KT.refl _ _, size := Nat.le_refl _, bd := BdA.of_nil hbd4 rfl, lb := ⟨_, hL4, fun t ht => ⟨none, 0, 0, eight_at ht, Nat.le_refl _, Sl.nil⟩⟩, gb := ⟨_, hG4, fun t ht => eight_at ht⟩,
      rows := fun t ht => World.ownsRow_nil _ _ _ _, ne := fun _ _ _ _ _ b h => (by cases h), plt := hbd4.plt, rlt := hbd4.rlt, pw := hp, rw_ := hr, lw := hlw, gw := by omega, w4w := hw4, lg := hLne }
  have hlast : ∃ cs0, cs ++ [⟨true, 8, []⟩] = cs0 ++ [(⟨true, 8, []⟩ : CallM)] := ⟨cs, rfl⟩
  have HLAST := Lib.hid hlast
  have hM : (cs ++ [(⟨true, 8, []⟩ : CallM)]).length = cs.length + 1 := by simp
  have HM := Lib.hid hM
  clear hbd3 hB3 hL3 hG3 hv3 hrows3 hk4 hrows4 hrow hblk4 hbd4 hB4 hL4 hG4 hown4 hgrow4 hsc hlast hM hL2 hG2 hL2' hG2' hp2 hr2 hsz3 hb3 hwb2
  generalize cs ++ [(⟨true, 8, []⟩ : CallM)] = cs' at *
  generalize hMM : cs.length + 1 = M at *
  have hM31 : M ≤ 31 := by omega
  clear hMM hm30 hi32 hz320 hz321 hz322
  generalize w1.heap.size = Lb at *
  generalize hGb : Lb + 1 = Gb at *
  clear hGb
  go_wp2
  go_loopw [9] (fun i wr => ∃ (k : Nat) (last got : Nat → List Eff) (vs : Nat → Value), k ≤ M ∧ i = .int .i64 k ∧ FI (BS.init.calls (cs'.take k)) last got ∧ (∀ t, (got t).length ≤ 240000 * k) ∧ FR w w4 p r Lb Gb (BS.init.calls (cs'.take k)) last got vs wr) (fun i _ => M - (intOf i).toNat)
  case atStart => exact ⟨0, fun _ => [], fun _ => [], fun _ => .slice none 0 0, Nat.zero_le _, rfl, FI.init, fun _ => Nat.le_refl _, hfr⟩
  case round =>
    clear hfr
    obtain ⟨k, last, got, vs, hk, rfl, hfi, hgl, hfr⟩ := hrel
    have HFI := Lib.hid hfi
    have HGL := Lib.hid hgl
    clear hfi hgl
    by_cases hlt : k < M
    · have hscr : SlC wr Av M cs' := SlR.kt (S := fun t => t = 51 ∨ t = 32) (callR.stays (.inl rfl)) hsc' hfr.kt (.inr rfl)
      obtain ⟨b, off, c, C, q, qc, rfl, hbl, hck, hqc, hsl, d0, d1, d2⟩ := hscr.call hlt
      obtain ⟨b0, off0, c0, C0, q0, qc0, eA0, hbl0, hck0, hqc0, hsl0, f0, f1, f2⟩ := hsc'.call hlt
      cases eA0
      obtain rfl : c = c0 := Option.some.inj (hck.symm.trans hck0)
      have hsame : C = C0 ∧ q = q0 ∧ qc = qc0 := by
        obtain ⟨b1, off1, cc1, fz1, e1, g1, g2⟩ := hsc'.2 (by omega)
        cases e1
        have h1 := hfr.kt _ _ _ _ (.inr rfl) g1
        rw [cell_of_row _ _ _ _ _ _ h1] at d2
        rw [cell_of_row _ _ _ _ _ _ g1] at f2
        rw [d2] at f2
        cases f2
        exact ⟨rfl, rfl, rfl⟩
      obtain ⟨rfl, rfl, rfl⟩ := hsame
      have HT := Lib.hid (take_succ_some hck)
      obtain ⟨o0, o1, o2⟩ := HOK.out c (List.mem_of_getElem? hck)
      have HO2 := Lib.hid o2
      clear hck hck0 f0 f1 f2 hbl0 hqc0 o2
      have HS : Hid (BS.init.calls (cs'.take (k + 1)) = (BS.init.calls (cs'.take k)).call c) := by show _ = _; rw [HT.out, BS.calls_snoc]
      generalize BS.init.calls (cs'.take k) = s at *
      have hb5 : Below wr.heap.size wr (wr.alloc (.cells #[.bool c.conf, .int .i64 c.tick, .slice C q qc] 32)) := below_alloc _ _
      have hfr5 := hfr.under hb5
      have hsl5 := hsl.below hb5
      have hc5 := heap_alloc_new wr (.cells #[.bool c.conf, .int .i64 c.tick, .slice C q qc] 32)
      clear hfr hsl hb5 hscr
      go_upto_if 44 with (fail)
      clear d0 d1 d2 hbl
      generalize wr.alloc (.cells #[.bool c.conf, .int .i64 c.tick, .slice C q qc] 32) = w5 at *
      generalize wr.heap.size = cb at *
      have g1 : w5.cell? ⟨cb, 1, none⟩ = some (.int .i64 c.tick) := cell_blk hc5 1
      have g2 : w5.cell? ⟨cb, 2, none⟩ = some (.slice C q qc) := cell_blk hc5 2
      cases hcf : c.conf
      · obtain ⟨o2, o3, o4⟩ := HO2.out hcf
        have HO4 := Lib.hid o4
        have HC : Hid (s.call c = s.show c.tick c.l) := by show _ = _; unfold BS.call; rw [hcf]; rfl
        have hq6 : q ≤ 6 := by have := hsl5.len; omega
        rw [hcf] at hc5
        clear hcf o3 o4
        go_wp2_with fail
        by_cases hwe : wrong s.bnd c.tick c.l = 0
        · have HW := Lib.hid hwe
          clear hwe
          refine (show_av w5 p r s c.tick C q qc c.l _ hfr5.bd (hfr5.clear hfr5.plt) (hfr5.clear hfr5.rlt) hfr5.lt (by omega) hsl5 0 HW.out _ _ _ _ _ rfl rfl rfl rfl rfl).mono ?_
          rintro e w6 ⟨A1, c1, A2, c2, rfl, -, -, -, -, -, -, hbd6, hk6⟩
          have hfr6 := hfr5.board hbd6 hk6
          have hc6 := (hk6.kt (S := fun t => t = 32) hfr5.bd.bd (by decide)) _ _ _ _ rfl hc5
          clear hbd6 hk6 hfr5 hc5 g1 g2 hsl5
          have g1 : w6.cell? ⟨cb, 1, none⟩ = some (.int .i64 c.tick) := cell_blk hc6 1
          have g2 : w6.cell? ⟨cb, 2, none⟩ = some (.slice C q qc) := cell_blk hc6 2
          obtain ⟨tn, htn⟩ := Int.eq_ofNat_of_zero_le o0
          obtain ⟨lc, l1, l2⟩ := hfr6.lb
          have h8 : tn < 8 := by omega
          obtain ⟨A9, m9, c9, l3, -, -⟩ := l2 tn h8
          have e1 : w6.cell? ⟨Lb, tn, none⟩ = some (.slice A9 m9 c9) := (cell_blk l1 tn).trans l3
          have e2 : w6.frozen? ⟨Lb, tn, none⟩ = false := frozen_blk l1 tn
          have hfr7 := hfr6.setL (t := tn) hqc hsl0
          have HFI2 := Lib.hid (HFI.out.show o0 o2 HO4.out HW.out)
          have HTN := Lib.hid htn
          rw [htn] at g1
          clear hfr6 hc6 l1 l2 l3 htn o0 o1 o2
          go_wp2
          go_roundw
          case rel => exact ⟨k + 1, upd last tn c.l, got, vs, by omega, by go_num, by rw [HS.out, HC.out]; have h := HFI2.out; rw [show c.tick.toNat = tn by rw [HTN.out]; rfl] at h; exact h, fun t => by have := HGL.out t; omega, by rw [HS.out, HC.out]; exact hfr7⟩
          case measure => simp [intOf]; omega
        · have HSN := Lib.hid (BS.show_no s hwe)
          have hz : (wrong s.bnd c.tick c.l == 0) = false := by simpa using hwe
          clear hwe
          refine (show_av w5 p r s c.tick C q qc c.l _ hfr5.bd (hfr5.clear hfr5.plt) (hfr5.clear hfr5.rlt) hfr5.lt (by omega) hsl5 _ rfl _ _ _ _ s rfl rfl rfl rfl HSN.out).mono ?_
          rintro e w6 ⟨A1, c1, A2, c2, rfl, -, -, -, -, -, -, hbd6, hk6⟩
          have hfr6 := hfr5.board hbd6 hk6
          clear hbd6 hk6 hfr5 hc5 g1 g2 hsl5
          go_wp2
          go_roundw
          case rel => exact ⟨k + 1, last, got, vs, by omega, by go_num, by rw [HS.out, HC.out, HSN.out]; exact HFI.out, fun t => by have := HGL.out t; omega, by rw [HS.out, HC.out, HSN.out]; exact hfr6⟩
          case measure => simp [intOf]; omega
      · have HC : Hid (s.call c = s.conf c.tick) := by show _ = _; unfold BS.call; rw [hcf]; rfl
        rw [hcf] at hc5
        clear hcf
        have hol := out_small hfr5.bd.bd c.tick
        have HFI2 := Lib.hid (HFI.out.conf hfr5.bd.bd.nodup (fun k hk => Bd.off hfr5.bd.bd k hk) o0 o1)
        have HFO := Lib.hid (HFI.out.out c.tick)
        go_wp2_with fail
        refine (conf_av w5 p r s c.tick _ hfr5.bd (hfr5.clear hfr5.plt) (hfr5.clear hfr5.rlt) _ _ _ rfl rfl rfl).mono ?_
        rintro e w6 ⟨A6, c6, rfl, hc6', hs6, hf6, hbd6, hk6⟩
        have hfr6 := hfr5.board hbd6 hk6
        have hc6 := (hk6.kt (S := fun t => t = 32) hfr5.bd.bd (by decide)) _ _ _ _ rfl hc5
        have hav6 : ∀ t, t < 8 → ∀ b o, (vs t).ownBlock = some b → A6 = some ⟨b, o, none⟩ → False := fun t ht b o h1 h2 => by
          have := hf6 b o h2
          have := hfr5.lt b ⟨t, ht, h1⟩
          omega
        clear hbd6 hk6 hfr5 hc5 g1 g2 hsl5 hf6
        generalize hout : s.out c.tick = out at *
        generalize hno : out.length = no at *
        have HNO := Lib.hid hno
        clear hno hout
        generalize s.conf c.tick = sn at *
        go_wp2
        go_loopw [15] (fun i wq => ∃ (j : Nat) (vs' : Nat → Value), j ≤ no ∧ i = .int .i64 j ∧ FR w w4 p r Lb Gb sn last (addTo got (out.take j)) vs' wq ∧ SlE wq A6 no out ∧
          Hid (∀ t, t < 8 → ∀ b o, (vs' t).ownBlock = some b → A6 = some ⟨b, o, none⟩ → False) ∧ wq.heap[cb]? = some (.cells #[.bool true, .int .i64 c.tick, .slice C q qc] 32 (0, 0))) (fun i _ => no - (intOf i).toNat)
        case atStart => exact ⟨0, vs, Nat.zero_le _, rfl, by rw [List.take_zero, addTo_nil]; exact hfr6, hs6, hav6, hc6⟩
        case round =>
          clear hfr6 hs6 hav6 hc6
          obtain ⟨j, vs', hj, rfl, hfq, hsq, hav, hcq⟩ := hrel
          by_cases hjn : j < no
          · obtain ⟨ob, off2, x, rfl, hbo, hxj, e0, e1, e2, e3⟩ := hsq.eff hjn
            obtain ⟨x0, x1, x2⟩ := HFO.out x (List.mem_of_getElem? hxj)
            have HTJ := Lib.hid (take_succ_some hxj)
            have hmem := List.length_take_le j out
            have hgl : ∀ t, (addTo got (out.take j) t).length ≤ 240000 * k + 240000 := fun t => by
              have h1 := HGL.out t
              have h2 := List.length_filter_le (fun x => decide (x.tick = (t : Int))) (out.take j)
              unfold addTo; rw [List.length_append]; omega
            obtain ⟨tn, htn⟩ := Int.eq_ofNat_of_zero_le x0
            have h8 : tn < 8 := by omega
            have hgt := hgl tn
            have HXT := Lib.hid htn
            rw [htn] at e0 x0 x1 x2
            have g1 : wr.cell? ⟨cb, 1, none⟩ = some (.int .i64 c.tick) := cell_blk hcq 1
            clear hxj htn hgl x0
            have y1 : decide ((tn : Int) < 0) = false := decide_eq_false (by omega)
            have y2 : decide (c.tick ≤ (tn : Int)) = false := decide_eq_false (by omega)
            have y3 : decide (7 < (tn : Int)) = false := decide_eq_false (by omega)
            go_upto_region 22 with (fail)
            obtain ⟨gc, gb1, gb2⟩ := hfq.gb
            obtain ⟨b3, off3, cs3, fz3, ea3, hob, hoc⟩ := hsq.2 (by omega)
            cases ea3
            obtain ⟨S, hS⟩ : ∃ S : World → Prop, ∀ w', S w' ↔ (w'.heap[Gb]? = wr.heap[Gb]? ∧ w'.heap[ob]? = wr.heap[ob]?) := ⟨_, fun _ => Iff.rfl⟩
            have hS0 : S wr.drew := (hS _).2 ⟨rfl, rfl⟩
            have hne : Nonempty (In S) := ⟨⟨_, hS0⟩⟩
            have HSS := Lib.hid hS
            have a0 : ∀ u : In S, u.v.cell? ⟨Gb, tn, none⟩ = some (vs' tn) := fun u => (cell_blk (((hS _).1 u.is).1.trans gb1) tn).trans (gb2 tn h8)
            have hcell : ∀ (u : In S) i, u.v.cell? ⟨ob, off2 + j * 4 + i, none⟩ = wr.cell? ⟨ob, off2 + j * 4 + i, none⟩ := fun u i => by simp only [World.cell?, ((hS _).1 u.is).2]
            have a1 : ∀ u : In S, u.v.cell? ⟨ob, off2 + j * 4, none⟩ = some (.int .i64 tn) := fun u => (hcell u 0).trans e0
            have a2 := fun u : In S => (hcell u 1).trans e1
            have a3 := fun u : In S => (hcell u 2).trans e2
            have a4 := fun u : In S => (hcell u 3).trans e3
            clear hS hcell e0 e1 e2 e3 g1
            refine wp_region_pi S [(0,0),(1,0),(2,0),(3,0),(4,0),(5,0),(6,0),(7,0),(8,0),(9,0),(10,1),(11,1),(12,0),(13,2)] [13] (by kernel_rfl) (by kernel_rfl) hS0 ?_
            repeat (first | (refine pi_plain (by rfl) (by rfl) (fun K hK => ?_); go_big_quiet_op; refine hK _ ?_; clear hK K))
            have hbD : Below wr.heap.size wr wr.drew := (Below.refl _ _).drew
            have hfd := hfq.under hbD
            have hgne : Gb < wr.heap.size := lt_of_heap gb1
            clear hfq hbD
            refine pi_soft (by rfl) (by rfl) (fun K hK => ?_)
            go_big_op
            have hbA := below_alloc wr.drew (.cells #[.int .i64 tn, .int .i64 x.index, .int .i64 x.kind, .int .i64 x.value] 51)
            have hfa := hfd.under hbA
            have hSA : S (wr.drew.alloc (.cells #[.int .i64 tn, .int .i64 x.index, .int .i64 x.kind, .int .i64 x.value] 51)) := (HSS.out _).2 ⟨Below.heap_alloc _ _ _ hgne, Below.heap_alloc _ _ _ hbo⟩
            refine hK _ _ hSA ?_
            clear hK K hfd
            refine pi_soft (by rfl) (by rfl) (fun K hK => ?_)
            refine wp_append_src2 _ (.tmp 95) (.tmp 100) 30 rfl w4.heap.size 51 i0 _ 4 32 Try.underlying30 hi0 hz0 hz1 hz2 rfl (by decide) (vs' tn) _ _ rfl (hfa.rows tn h8) (some ⟨wr.heap.size, 0, none⟩) 1 1 [.int .i64 tn, .int .i64 x.index, .int .i64 x.kind, .int .i64 x.value] rfl rfl ?c0 ?c1 ?c2 ?c3 ?c4 ?c5 ?_
            case c0 => intro h; cases h
            case c1 => intro ad had _; cases had; exact cells_new wr.drew [.int .i64 tn, .int .i64 x.index, .int .i64 x.kind, .int .i64 x.value] 51
            case c2 => intro u hu; simp at hu; rcases hu with rfl | rfl | rfl | rfl <;> rfl
            case c3 => unfold maxLen; omega
            case c4 => omega
            case c5 => exact hfa.size
            intro Ax cx wx hown hgrow hnew
            have gbA : (wr.drew.alloc (.cells #[.int .i64 tn, .int .i64 x.index, .int .i64 x.kind, .int .i64 x.value] 51)).heap[Gb]? = some (.cells gc 30 (0, 0)) := (Below.heap_alloc wr.drew _ _ hgne).trans gb1
            have obA : (wr.drew.alloc (.cells #[.int .i64 tn, .int .i64 x.index, .int .i64 x.kind, .int .i64 x.value] 51)).heap[ob]? = some (.cells cs3 51 fz3) := (Below.heap_alloc wr.drew _ _ hbo).trans hob
            have cbA : (wr.drew.alloc (.cells #[.int .i64 tn, .int .i64 x.index, .int .i64 x.kind, .int .i64 x.value] 51)).heap[cb]? = some (.cells #[.bool true, .int .i64 c.tick, .slice C q qc] 32 (0, 0)) := (Below.heap_alloc wr.drew _ _ (lt_of_heap hcq)).trans hcq
            have gbX : wx.heap[Gb]? = some (.cells gc 30 (0, 0)) := (hgrow.block Gb (lt_of_heap gbA) (hfa.rowne h8 gbA (by decide))).trans gbA
            have obX : wx.heap[ob]? = some (.cells cs3 51 fz3) := (hgrow.block ob (lt_of_heap obA) (fun e => hav.out tn h8 ob off2 e.symm rfl)).trans obA
            have cbX : wx.heap[cb]? = some (.cells #[.bool true, .int .i64 c.tick, .slice C q qc] 32 (0, 0)) := (hgrow.block cb (lt_of_heap cbA) (hfa.rowne h8 cbA (by decide))).trans cbA
            have hSX : S wx := (HSS.out _).2 ⟨gbX.trans gb1.symm, obX.trans hob.symm⟩
            have hcx : (addTo got (out.take j) tn).flatMap Eff.cells ++ [.int .i64 tn, .int .i64 x.index, .int .i64 x.kind, .int .i64 x.value] = (addTo got (out.take j) tn).flatMap Eff.cells ++ [x].flatMap Eff.cells := by
              congr 1; simp [Eff.cells, HXT.out]
            rw [hcx] at hown
            have hfin := hfa.app h8 (xs := [x]) hown hgrow hnew
            rw [← addTo_snoc got (out.take j) x tn HXT.out, ← HTJ.out] at hfin
            have hav2 : ∀ t, t < 8 → ∀ b o, (updV vs' tn (.slice Ax ((addTo got (out.take j) tn).length + 1) cx) t).ownBlock = some b → (some ⟨ob, off2, none⟩ : Option Addr) = some ⟨b, o, none⟩ → False := by
              intro t ht b o h1 h2
              unfold updV at h1
              split at h1
              · rcases hnew with e | e
                · exact hav.out tn h8 b o (e ▸ h1) h2
                · have := e b h1; simp at this; cases h2; omega
              · exact hav.out t ht b o h1 h2
            have hgo : ob ≠ Gb := by rintro rfl; have := gbX.symm.trans obX; simp at this
            have hgcb : cb ≠ Gb := by rintro rfl; have := gbX.symm.trans cbX; simp at this
            have obY : (wx.setCell ⟨Gb, tn, none⟩ (.slice Ax ((addTo got (out.take j) tn).length + 1) cx)).heap[ob]? = some (.cells cs3 51 fz3) := (Below.heap_setCell _ _ _ _ hgo).trans obX
            have cbY : (wx.setCell ⟨Gb, tn, none⟩ (.slice Ax ((addTo got (out.take j) tn).length + 1) cx)).heap[cb]? = some (.cells #[.bool true, .int .i64 c.tick, .slice C q qc] 32 (0, 0)) := (Below.heap_setCell _ _ _ _ hgcb).trans cbX
            have hsY : SlE (wx.setCell ⟨Gb, tn, none⟩ (.slice Ax ((addTo got (out.take j) tn).length + 1) cx)) (some ⟨ob, off2, none⟩) no out := ⟨hsq.1, fun _ => ⟨ob, off2, cs3, fz3, rfl, obY, hoc⟩⟩
            have k1 : wx.cell? ⟨Gb, tn, none⟩ = some (vs' tn) := (cell_blk gbX tn).trans (gb2 tn h8)
            have k2 : wx.frozen? ⟨Gb, tn, none⟩ = false := frozen_blk gbX tn
            refine hK _ _ hSX ?_
            clear hK K hown hgrow hnew hfa gbA obA cbA gbX obX cbX hcx hSX hSA hbA hsq hav hcq gb1 gb2 hob hoc hgo hgcb obY
            simp only [Act.put, List.setIfInBounds_toArray, List.set_cons_zero, List.set_cons_succ]
            refine pi_plain (by rfl) (by rfl) (fun K hK => ?_)
            go_big_quiet_op
            refine hK _ ?_
            clear hK K a0 a1 a2 a3 a4
            refine pi_hard (by rfl) (by rfl) (fun K hK => ?_)
            go_big_op
            refine hK _ _ ?_
            clear hK K
            refine pi_nil ?_
            go_wp2
            go_roundw
            case rel => exact ⟨j + 1, _, by omega, by go_num, hfin, hsY, hav2, cbY⟩
            case measure => simp [intOf]; omega
          · have hjn' : j = no := by omega
            subst hjn'
            have hfq' : FR w w4 p r Lb Gb sn last (addTo got out) vs' wr := by
              have := hfq
              rwa [List.take_of_length_le (by have := HNO.out; omega)] at this
            clear hfq
            go_wp2
            go_roundw
            case rel => exact ⟨k + 1, last, addTo got out, vs', by omega, by go_num, by rw [HS.out, HC.out]; exact HFI2.out, fun t => by
              have h1 := HGL.out t
              have h2 := List.length_filter_le (fun x => decide (x.tick = (t : Int))) out
              have := HNO.out
              unfold addTo; rw [List.length_append]; omega, by rw [HS.out, HC.out]; exact hfq'⟩
            case measure => simp [intOf]; omega
    · have hkM : k = M := by omega
      subst hkM
      have hfull : cs'.take k = cs' := List.take_of_length_le (by have := HM.out; omega)
      have h8 : (BS.init.calls cs').bnd = 8 := by
        obtain ⟨cs0, hcs0⟩ := HLAST.out
        have hb := HFI.out.b0.2
        rw [hfull] at hb
        rw [hcs0, BS.calls_snoc] at hb ⊢
        have e : ((BS.init.calls cs0).call ⟨true, 8, []⟩).bnd = max (BS.init.calls cs0).bnd 8 := by unfold BS.call; rfl
        rw [e] at hb ⊢
        omega
      rw [hfull] at hfr
      have hfi := HFI.out
      rw [hfull] at hfi
      obtain ⟨he1, he2⟩ := hfi.end_ h8
      generalize BS.init.calls cs' = s at *
      have HE1 := Lib.hid he1
      have HE2 := Lib.hid he2
      have H8 := Lib.hid h8
      have hgl := HGL.out
      have HGL2 := Lib.hid hgl
      clear he1 he2 h8 hfi hfull hgl HFI
      go_wp2
      go_loopw [17] (fun i wq => ∃ t : Nat, t ≤ 8 ∧ i = .int .i64 t ∧ FR w w4 p r Lb Gb s last got vs wq) (fun i _ => 8 - (intOf i).toNat)
      case atStart => exact ⟨0, by omega, rfl, hfr⟩
      case round =>
        clear hfr
        obtain ⟨t, ht, rfl, hfq⟩ := hrel
        by_cases ht8 : t < 8
        · obtain ⟨lc, l1, l2⟩ := hfq.lb
          obtain ⟨gc, g1, g2⟩ := hfq.gb
          obtain ⟨A7, m7, c7, l3, l4, l5⟩ := l2 t ht8
          obtain ⟨A8, c8, e8, hs8, hc8⟩ := Sl.of_own Eff.cells_len (hfq.rows t ht8) rfl
          have g3 := g2 t ht8
          rw [e8] at g3
          have hs7 : SlE wr A7 m7 (last t) := l5.kt hfq.kt (.inl rfl)
          have hgl := HGL2.out t
          have hll := HE1.out t ht8
          have hm7 := l5.len
          rw [hll] at hs8 hgl g3
          have hm7b : m7 ≤ 240000 * k := by omega
          have HM7 := Lib.hid hm7
          have x1 : wr.cell? ⟨Lb, t, none⟩ = some (.slice A7 m7 c7) := (cell_blk l1 t).trans l3
          have x2 : wr.cell? ⟨Gb, t, none⟩ = some (.slice A8 (last t).length c8) := (cell_blk g1 t).trans g3
          have y1 := lt_of_heap l1
          have y2 := lt_of_heap g1
          clear l1 l2 l3 l4 l5 g1 g2 g3 e8 hll hm7
          generalize (last t).length = n8 at *
          go_upto_region 26 with fail
          have hU := fun (u : Up wr) => Up.cell u
          refine wp_region_piUp [(0, 0), (1, 0), (2, 0), (3, 0), (4, 0), (5, 0), (6, 0), (7, 0), (8, 1), (9, 0)] [] (by kernel_rfl) (by kernel_rfl) ?_
          repeat (first | (refine pi_plain (by rfl) (by rfl) (fun K hK => ?_); go_big_quiet_op; refine hK _ ?_; clear hK K))
          have hbD : Below wr.heap.size wr wr.drew := (Below.refl _ _).drew
          refine pi_soft (by rfl) (by rfl) (fun K hK => ?_)
          go_big_op
          refine (same_is A7 A8 m7 n8 (last t) (last t) c7 c8 wr.drew (by omega) (by omega) (hs7.below hbD) (hs8.below hbD) true (by simp)).mono ?_
          rintro e w9 ⟨rfl, hb9⟩
          have hb9' := hbD.trans hb9
          have hfr9 := hfq.under hb9'
          refine hK _ _ hb9' ?_
          clear hK K hU hfq hbD hb9 hb9' hs7 hs8 x1 x2 y1 y2
          have hU := fun (u : Up wr) => Up.cell u
          refine pi_plain (by rfl) (by rfl) (fun K hK => ?_)
          go_big_quiet_op
          refine hK _ ?_
          clear hK K hU
          refine pi_nil ?_
          go_wp2
          go_roundw
          case rel => exact ⟨t + 1, by omega, by go_num, hfr9⟩
          case measure => simp [intOf]; omega
        · have hbdq : BdS wr p r s := hfq.bd.bd
          have hB := hfq.below
          clear hfq
          obtain ⟨a0, a1⟩ := around_range late 8 (by omega)
          go_wp2_with fail
          refine (around_any late 8 wr HLA.out.1 HLA.out.2 (by omega)).mono ?_
          rintro e w9 ⟨rfl, rfl⟩
          generalize around late 8 = lt at *
          have hwl := wrong_late (bnd := s.bnd) (t := lt) (l := []) a0 (by omega) (by rw [H8.out]; omega)
          have HWL := Lib.hid hwl
          have HSN := Lib.hid (BS.show_no s (t := lt) (l := []) (by rw [hwl]; decide))
          clear hwl
          go_wp2_with fail
          refine (show_all wr p r s lt none 0 0 [] hbdq (by omega) Sl.nil 20 HWL.out _ _ _ _ s rfl rfl rfl rfl HSN.out).mono ?_
          rintro e w9 ⟨A1, c1, A2, c2, rfl, -, -, -, -, hbd9, hk9⟩
          have hB9 := hB.trans (hk9.below hp hr hB.size)
          clear hbdq hB hk9
          go_wp2_with fail
          refine (pend_all w9 p r s hbd9 [] 0 HE2.out rfl).mono ?_
          rintro e w10 ⟨A10, c10, rfl, -, -, hb10⟩
          have hbd10 : BdS w10 p r s := hbd9.below hb10
          have hB10 := hB9.trans (hb10.mono hB9.size)
          clear hbd9 hB9 hb10
          have hout : s.out lt = [] := by unfold BS.out confOut; rw [if_pos (by rw [H8.out]; omega)]
          have HOUT := Lib.hid hout
          clear hout
          go_wp2_with fail
          refine (conf_all w10 p r s lt hbd10 [] 0 _ HOUT.out rfl rfl).mono ?_
          rintro e w11 ⟨A11, c11, rfl, -, -, -, hk11⟩
          have hB11 := hB10.trans (hk11.below hp hr hB10.size)
          clear hbd10 hB10 hk11
          go_wp2_with fail
          refine (lives_any w11).mono ?_
          rintro e w12 ⟨rfl, hb12⟩
          have hB12 := hB11.trans (hb12.mono hB11.size)
          clear hb12 hB11
          go_wp2
          go_ret
          exact ⟨rfl, hB12⟩
end Go.Proofs.Ytllcankinjomaaa
