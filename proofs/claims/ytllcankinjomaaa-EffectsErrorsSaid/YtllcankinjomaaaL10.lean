import Derived.Test.YtllcankinjomaaaL9
namespace Go.Proofs.Ytllcankinjomaaa
set_option linter.unusedSimpArgs false
set_option linter.unusedVariables false
open Go.RowKit Go.MapKept Go.Maps

/-- a block of effects, its first n cells ints -/
def IntsAt (w : World) (g n : Nat) : Prop := ∃ cs, w.heap[g]? = some (.cells cs 51 (0, 0)) ∧ ∀ j, j < n → ∃ z, cs[j]? = some (.int .i64 z)
theorem IntsAt.load {w : World} {g n j : Nat} (h : IntsAt w g n) (hj : j < n) : ∃ z, w.cell? ⟨g, j, none⟩ = some (.int .i64 z) := by
  obtain ⟨cs, h1, h2⟩ := h
  obtain ⟨z, hz⟩ := h2 j hj
  exact ⟨z, (cell_blk h1 j).trans hz⟩
theorem IntsAt.open_ {w : World} {g n : Nat} (h : IntsAt w g n) (j : Nat) : w.frozen? ⟨g, j, none⟩ = false := by
  obtain ⟨cs, h1, h2⟩ := h
  exact frozen_blk h1 j
theorem IntsAt.set {w : World} {g n : Nat} (h : IntsAt w g n) (g' j : Nat) (z : Int) : IntsAt (w.setCell ⟨g', j, none⟩ (.int .i64 z)) g n := by
  obtain ⟨cs, h1, h2⟩ := h
  by_cases hg : g = g'
  · subst hg
    refine ⟨_, heap_setCell_same h1 _, fun i hi => ?_⟩
    obtain ⟨y, hy⟩ := h2 i hi
    by_cases hij : j = i
    · subst hij
      have := (Array.getElem?_eq_some_iff.1 hy).1
      exact ⟨z, by simp [this]⟩
    · exact ⟨y, by rw [Array.getElem?_setIfInBounds_ne hij]; exact hy⟩
  · exact ⟨cs, by rw [Below.heap_setCell _ _ _ _ hg]; exact h1, h2⟩
theorem IntsAt.below {w w' : World} {g n : Nat} (h : IntsAt w g n) (hb : Below w.heap.size w w') : IntsAt w' g n := by
  obtain ⟨cs, h1, h2⟩ := h
  exact ⟨cs, (hb.block g (lt_of_heap h1)).trans h1, h2⟩
/-- but for G's blocks all is as it was -/
structure Mod (G : Nat → Prop) (a w : World) : Prop where
  os : w.os = a.os
  tape : w.tape = a.tape
  output : w.output = a.output
  size : w.heap.size = a.heap.size
  block : ∀ k, ¬ G k → w.heap[k]? = a.heap[k]?
theorem Mod.refl (G : Nat → Prop) (a : World) : Mod G a a := ⟨rfl, rfl, rfl, rfl, fun _ _ => rfl⟩
theorem Mod.set {G : Nat → Prop} {a w : World} (h : Mod G a w) {g : Nat} (hg : G g) (j : Nat) (u : Value) : Mod G a (w.setCell ⟨g, j, none⟩ u) :=
  ⟨h.os, h.tape, h.output, by simpa using h.size, fun k hk => (Below.heap_setCell _ _ _ _ (fun e => hk (by rw [e]; exact hg))).trans (h.block k hk)⟩
theorem Mod.below {G : Nat → Prop} {B : Nat} {a w w' : World} (h : Mod G w w') (hb : Below B a w) (hG : ∀ k, k < B → ¬ G k) : Below B a w' :=
  ⟨h.os.trans hb.os, h.tape.trans hb.tape, h.output.trans hb.output, by rw [h.size]; exact hb.size, fun k hk => (h.block k (hG k hk)).trans (hb.block k hk)⟩
theorem Mod.drewN {G : Nat → Prop} {a w : World} (h : Mod G a w) (n : Nat) : Mod G a (w.drewN n) := ⟨h.os, h.tape, h.output, h.size, h.block⟩
/-- a list that may be written: its block is one of G's -/
def LO (G : Nat → Prop) (w : World) (A : Option Addr) (n : Nat) : Prop := 0 < n → ∃ g, A = some ⟨g, 0, none⟩ ∧ G g ∧ IntsAt w g (n * 4)
theorem LO.set {G : Nat → Prop} {w : World} {A : Option Addr} {n : Nat} (h : LO G w A n) (g j : Nat) (z : Int) : LO G (w.setCell ⟨g, j, none⟩ (.int .i64 z)) A n := fun hn => by
  obtain ⟨g0, h1, h2, h3⟩ := h hn
  exact ⟨g0, h1, h2, h3.set g j z⟩
theorem LO.below {G : Nat → Prop} {w w' : World} {A : Option Addr} {n : Nat} (h : LO G w A n) (hb : Below w.heap.size w w') : LO G w' A n := fun hn => by
  obtain ⟨g0, h1, h2, h3⟩ := h hn
  exact ⟨g0, h1, h2, h3.below hb⟩
theorem own_LO {G : Nat → Prop} {w : World} {base n : Nat} {v : Value} {xs : List Eff} (h : w.ownsRow base 51 4 v n (xs.flatMap Eff.cells)) (hn : n = xs.length) (hG : ∀ g, base ≤ g → g < w.heap.size → G g) :
    ∃ A c, v = .slice A n c ∧ n ≤ c ∧ LO G w A n ∧ SlE w A n xs := by
  obtain ⟨A, c, rfl, hs, hc⟩ := Sl.of_own Eff.cells_len h hn
  refine ⟨A, c, rfl, hc, fun hn0 => ?_, hs⟩
  rcases h.2 with ⟨e1, e2⟩ | ⟨g, cap, cur, e, hb, hg, hnc, hcm, hcs, htake⟩
  · omega
  · cases e
    refine ⟨g, rfl, hG g hb (lt_of_heap hg), cur, hg, fun j hj => ?_⟩
    have h1 : (xs.flatMap Eff.cells)[j]? = cur[j]? := by rw [← htake, List.getElem?_take, if_pos hj]; simp
    have hlen : (xs.flatMap Eff.cells).length = n * 4 := by rw [flat_len Eff.cells_len, ← hn]
    have h2 : (xs.flatMap Eff.cells)[j]? = some ((xs.flatMap Eff.cells)[j]'(by omega)) := List.getElem?_eq_getElem (by omega)
    have h3 : ∃ z, (xs.flatMap Eff.cells)[j]'(by omega) = .int .i64 z := by
      have hm := List.mem_of_getElem? h2
      obtain ⟨x, _, hx⟩ := List.mem_flatMap.1 hm
      simp only [Eff.cells, List.mem_cons, List.not_mem_nil, or_false] at hx
      rcases hx with hx | hx | hx | hx <;> exact ⟨_, hx⟩
    obtain ⟨z, hz⟩ := h3
    exact ⟨z, by rw [← h1, h2, hz]⟩
theorem Shown.mod {G : Nat → Prop} {w wm w6 wr : World} {p r : Nat} {t : Int} {l : List Eff} (h : Shown w wm p r [] (fun _ => []) 0 t l) (hb : Below wm.heap.size wm w6) (hm : Mod G w6 wr) (hp : ¬ G p) (hr : ¬ G r)
    (hG : ∀ g, w.heap.size ≤ g → g < wm.heap.size → ¬ G g) : Bd wr p r (ksOf [] t l) (curOf (fun _ => []) t l) 0 := by
  have hk : ∀ k, k < wm.heap.size → ¬ G k → wr.heap[k]? = wm.heap[k]? := fun k h1 h2 => (hm.block k h2).trans (hb.block k h1)
  refine ⟨(hk p h.bd.plt hp).trans h.bd.blk, ?_, h.bd.off, h.bd.rng, h.bd.small⟩
  by_cases hl : l = []
  · obtain ⟨f, hf, _⟩ := h.bd.map
    refine ⟨f, hf.kept (hk r h.bd.rlt hr), ?_⟩
    subst hl
    intro k hkk
    simp [ksOf] at hkk
  · obtain ⟨f, v, hf, hft, hv⟩ := h.row hl
    refine ⟨f, hf.kept (hk r h.bd.rlt hr), fun k hkk => ?_⟩
    have hkt : k = t := ksOf_only (ks := []) l (by simp) k hkk
    subst hkt
    rcases hv.2 with ⟨e1, e2⟩ | ⟨g, cap, cur, e, hbg, hg, hnc, hcm, hcs, htake⟩
    · exact absurd (List.eq_nil_of_length_eq_zero e2) hl
    · subst e
      obtain ⟨A', c', e', hs, hc'⟩ := Sl.of_own Eff.cells_len hv rfl
      cases e'
      refine ⟨_, _, _, hft, hc', ?_⟩
      have e0 : curOf (fun _ => []) k l k = l := if_pos rfl
      rw [e0]
      refine ⟨rfl, fun hn => ?_⟩
      obtain ⟨b, off, cs, fz, ea, hbb, hcc⟩ := hs.2 hn
      cases ea
      exact ⟨_, _, cs, fz, rfl, (hk _ (lt_of_heap hbb) (hG _ hbg (lt_of_heap hbb))).trans hbb, hcc⟩

set_option maxHeartbeats 1000000 in
set_option maxRecDepth 100000 in
theorem ownership_any (tick one by_ : Int) (w : World) (h1 : -9223372036854775808 ≤ tick ∧ tick ≤ 9223372036854775807) (h2 : -9223372036854775808 ≤ one ∧ one ≤ 9223372036854775807) (h3 : -9223372036854775808 ≤ by_ ∧ by_ ≤ 9223372036854775807) :
    Calls Try.prog 10 #[.int .i64 tick, .int .i64 one, .int .i64 by_] w fun e w' => e = .returned (.bool true) ∧ Below w.heap.size w w' := by
  obtain ⟨t0, t1⟩ := around_range tick 6000 (by omega)
  go_enter Try.func10, Try.ntmps10
  go_wp2_with fail
  refine (around_any tick 6000 w h1.1 h1.2 (by omega)).mono ?_
  rintro e w0 ⟨rfl, rfl⟩
  generalize around tick 6000 = t at *
  have hxl := listOf_len t one
  have hxt := listOf_tick t one
  have H2 := Lib.hid h2
  clear h1 h2
  go_wp2_with fail
  refine (list_is t one w H2.out.1 H2.out.2 _ _ rfl rfl).mono ?_
  rintro e w1 ⟨A1, c1, rfl, hc1, hx1, hb1⟩
  go_wp2_with fail
  refine (list_any t one w1 H2.out.1 H2.out.2).mono ?_
  rintro e w2 ⟨v2, rfl, hv2, hb2⟩
  generalize listOf t one = x at *
  generalize hn : x.length = n at *
  have HX := Lib.hid hxt
  have HN := Lib.hid hn
  clear hxt hn
  obtain ⟨A2, c2, hv2e, hc2, hlo2, hy2⟩ := own_LO (G := fun g => w1.heap.size ≤ g ∧ g < w2.heap.size) hv2 HN.out.symm (fun g h1 h2 => ⟨h1, h2⟩)
  subst hv2e
  have hB2 : Below w1.heap.size w1 w2 := hb2
  clear hv2 hb2
  go_wp2_with fail
  refine (new_bd w2).mono ?_
  rintro e w3 ⟨p, r, rfl, hbd, hp, hr, hb3⟩
  have hB3 := hB2.trans (hb3.mono hB2.size)
  have hy3 := hy2.below hb3
  have hlo3 := hlo2.below hb3
  have hs23 := hb3.size
  have hs12 := hB2.size
  have hplt := hbd.plt
  have hrlt := hbd.rlt
  clear hb3 hB2 hy2 hlo2
  have HWX := Lib.hid (wrong_ok (bnd := 0) t0 t1 t0 (l := x) (by have := HN.out; omega) HX.out)
  go_wp2_with fail
  refine (show_yes w3 p r [] (fun _ => []) 0 t A2 n c2 x hbd hy3 HWX.out).mono ?_
  rintro e w5 ⟨v5, v5', wm, rfl, hsh, hbm, hv5, hv5'⟩
  rw [diff_nil, HN.out] at hv5
  have hs3m := hsh.kept.size
  have hsm5 := hbm.size
  obtain ⟨A5, c5, hv5e, hc5, hlo5, hy5⟩ := own_LO (G := fun g => (w1.heap.size ≤ g ∧ g < w2.heap.size) ∨ wm.heap.size ≤ g) hv5 HN.out.symm (fun g h1 h2 => Or.inr h1)
  subst hv5e
  obtain ⟨A5', c5', hv5e', -⟩ := Sl.of_own Eff.cells_len hv5' rfl
  subst hv5e'
  have hlo3' : LO (fun g => (w1.heap.size ≤ g ∧ g < w2.heap.size) ∨ wm.heap.size ≤ g) w5 A2 n := fun hn => by
    obtain ⟨g, e1, e2, cs, e3, e4⟩ := hlo3 hn
    refine ⟨g, e1, Or.inl e2, cs, ?_, e4⟩
    rw [hbm.block g (by omega), hsh.kept.block g (by omega) (by omega) (by omega)]
    exact e3
  have hB5 : Below w1.heap.size w1 w5 := (hB3.trans (hsh.kept.below (by omega) (by omega) (by omega))).trans (hbm.mono (by omega))
  have hbd5 := hsh.bd.below hbm
  have hxn : x.length = n := HN.out
  clear hv5 hv5' hy5 hlo3 hy3 hbd hB3
  generalize (diff [] x).length = q1
  go_wp2_with fail
  refine (pending_prog w5 p r _ _ 0 hbd5).mono ?_
  rintro e w6 ⟨v9, rfl, hv9, hb6⟩
  have hcur : curOf (fun _ => []) t x t = x := if_pos rfl
  have hg := gath_one hbd5.nodup (ksOf_only (ks := []) (t := t) x (by simp)) (fun h => hbd5.off t h)
  rw [hcur] at hg
  have HG := Lib.hid hg
  rw [hg, hxn] at hv9
  clear hcur hg
  obtain ⟨A9, c9, hv9e, hc9, hlo9, hy9⟩ := own_LO (G := fun g => (w1.heap.size ≤ g ∧ g < w2.heap.size) ∨ wm.heap.size ≤ g) hv9 hxn.symm (fun g h1 h2 => Or.inr (by omega))
  subst hv9e
  have hlo2 := hlo3'.below hb6
  have hlo5' := hlo5.below hb6
  have hB6 := hB5.trans (hb6.mono hB5.size)
  have hbm6 := hbm.trans (hb6.mono (by omega))
  clear hv9 hy9 hlo5 hlo3' hb6 hB5 hbm hbd5 hxn
  have hfin : ∀ wr, Mod (fun g => (w1.heap.size ≤ g ∧ g < w2.heap.size) ∨ wm.heap.size ≤ g) w6 wr → Bd wr p r (ksOf [] t x) (curOf (fun _ => []) t x) 0 ∧ SlE wr A1 n x ∧ Below w.heap.size w wr := fun wr hm => by
    have hb := hm.below hB6 (fun k hk => by omega)
    exact ⟨hsh.mod hbm6 hm (by omega) (by omega) (fun g h1 h2 => by omega), hx1.below hb, hb1.trans (hb.mono hb1.size)⟩
  have HFIN := Lib.hid hfin
  clear hfin hsh hbm6 hB6 hx1 hb1
  generalize (fun g => (w1.heap.size ≤ g ∧ g < w2.heap.size) ∨ wm.heap.size ≤ g) = G at *
  clear hs23 hs12 hs3m hsm5 hplt hrlt hp hr
  go_wp2
  go_loopw [15] (fun i wr => ∃ k : Nat, k ≤ n ∧ i = .int .i64 k ∧ Mod G w6 wr ∧ LO G wr A2 n ∧ LO G wr A5 n ∧ LO G wr A9 n) (fun i _ => n - (intOf i).toNat)
  case atStart => exact ⟨0, Nat.zero_le _, rfl, Mod.refl _ _, hlo2, hlo5', hlo9⟩
  case round =>
    clear hlo2 hlo5' hlo9
    obtain ⟨k, hk, rfl, hmod, hlo2, hlo5, hlo9⟩ := hrel
    by_cases hlt : k < n
    · obtain ⟨g, rfl, hg, hi⟩ := hlo2 (by omega)
      obtain ⟨z, hz⟩ := hi.load (j := k * 4 + 2) (by omega)
      have hfz := hi.open_ (k * 4 + 2)
      clear hi
      go_wp2
      go_roundw
      case rel => exact ⟨k + 1, by omega, by go_num, hmod.set hg _ _, hlo2.set _ _ _, hlo5.set _ _ _, hlo9.set _ _ _⟩
      case measure => simp [intOf]; omega
    · go_wp2
      go_loopw [16] (fun i wr => ∃ k : Nat, k ≤ n ∧ i = .int .i64 k ∧ Mod G w6 wr ∧ LO G wr A2 n ∧ LO G wr A5 n ∧ LO G wr A9 n) (fun i _ => n - (intOf i).toNat)
      case atStart => exact ⟨0, Nat.zero_le _, rfl, hmod, hlo2, hlo5, hlo9⟩
      case round =>
        clear hlo2 hlo5 hlo9 hmod hk hlt
        obtain ⟨k, hk, rfl, hmod, hlo2, hlo5, hlo9⟩ := hrel
        by_cases hlt : k < n
        · obtain ⟨g, rfl, hg, hi⟩ := hlo5 (by omega)
          obtain ⟨z, hz⟩ := hi.load (j := k * 4 + 3) (by omega)
          have hfz := hi.open_ (k * 4 + 3)
          clear hi
          go_wp2
          go_roundw
          case rel => exact ⟨k + 1, by omega, by go_num, hmod.set hg _ _, hlo2.set _ _ _, hlo5.set _ _ _, hlo9.set _ _ _⟩
          case measure => simp [intOf]; omega
        · go_wp2
          go_loopw [17] (fun i wr => ∃ k : Nat, k ≤ n ∧ i = .int .i64 k ∧ Mod G w6 wr ∧ LO G wr A2 n ∧ LO G wr A5 n ∧ LO G wr A9 n) (fun i _ => n - (intOf i).toNat)
          case atStart => exact ⟨0, Nat.zero_le _, rfl, hmod, hlo2, hlo5, hlo9⟩
          case round =>
            clear hlo2 hlo5 hlo9 hmod hk hlt
            obtain ⟨k, hk, rfl, hmod, hlo2, hlo5, hlo9⟩ := hrel
            by_cases hlt : k < n
            · obtain ⟨g, rfl, hg, hi⟩ := hlo9 (by omega)
              obtain ⟨z, hz⟩ := hi.load (j := k * 4 + 1) (by omega)
              have hfz := hi.open_ (k * 4 + 1)
              clear hi
              go_wp2
              go_roundw
              case rel => exact ⟨k + 1, by omega, by go_num, hmod.set hg _ _, hlo2.set _ _ _, hlo5.set _ _ _, hlo9.set _ _ _⟩
              case measure => simp [intOf]; omega
            · obtain ⟨hbd, hx, hB⟩ := HFIN.out _ hmod
              clear hmod hlo2 hlo5 hlo9 HFIN
              go_wp2_with fail
              refine (pending_is _ p r _ _ _ hbd x n HG.out HN.out).mono ?_
              rintro e w7 ⟨A7, c7, rfl, -, hx7, hb7⟩
              have hx7' := hx.below hb7
              have hB7 := hB.trans (hb7.mono hB.size)
              clear hbd hx hb7 hB
              go_wp2_with fail
              refine (same_is A7 A1 n n x x c7 c1 w7 (by omega) (by omega) hx7 hx7' true (by simp)).mono ?_
              rintro e w8 ⟨rfl, hb8⟩
              have hB8 := hB7.trans (hb8.mono hB7.size)
              clear hx7 hx7' hb8 hB7
              go_wp2_with fail
              refine (lives_any w8).mono ?_
              rintro e w9 ⟨rfl, hb9⟩
              have hB9 := hB8.trans (hb9.mono hB8.size)
              clear hb9 hB8
              go_wp2
              go_ret
              exact ⟨rfl, hB9⟩
end Go.Proofs.Ytllcankinjomaaa
