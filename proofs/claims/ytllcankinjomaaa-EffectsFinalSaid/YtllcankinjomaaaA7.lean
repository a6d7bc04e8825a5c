import Derived.Test.YtllcankinjomaaaA6
import Derived.Test.YtllcankinjomaaaReg
import Derived.Deep.DeepCutAuto
import Derived.Deep.LoopGhost
namespace Go.Proofs.Ytllcankinjomaaa
set_option linter.unusedSimpArgs false
set_option linter.unusedVariables false
open Go.RowKit

/-- one step of the reference's Show -/
def stepA (t : Int) (l : List Eff) (s : Bool × List (Int × List Eff)) (p : Int × List Eff) : Bool × List (Int × List Eff) :=
  if (!s.1 && decide (t ≤ p.1)) = true then (true, s.2 ++ [(t, l)]) else s
def stepB (t : Int) (s : Bool × List (Int × List Eff)) (p : Int × List Eff) : Bool × List (Int × List Eff) := (s.1, s.2 ++ (if p.1 = t then [] else [p]))
def showSt (t : Int) (l : List Eff) (ps : List (Int × List Eff)) : Bool × List (Int × List Eff) := ps.foldl (fun s p => stepB t (stepA t l s p) p) (false, [])
def rshow (t : Int) (l : List Eff) (ps : List (Int × List Eff)) : List (Int × List Eff) :=
  if (showSt t l ps).1 = true then (showSt t l ps).2 else (showSt t l ps).2 ++ [(t, l)]
theorem showSt_succ (t : Int) (l : List Eff) (ps : List (Int × List Eff)) (k : Nat) (p : Int × List Eff) (h : ps[k]? = some p) : showSt t l (ps.take (k + 1)) = stepB t (stepA t l (showSt t l (ps.take k)) p) p := by
  unfold showSt; rw [take_succ_some h, List.foldl_append]; rfl
theorem stepA_len (t : Int) (l : List Eff) (s : Bool × List (Int × List Eff)) (p : Int × List Eff) : (stepA t l s p).2.length ≤ s.2.length + 1 := by
  unfold stepA; split <;> simp
theorem stepB_len (t : Int) (s : Bool × List (Int × List Eff)) (p : Int × List Eff) : (stepB t s p).2.length ≤ s.2.length + 1 := by
  unfold stepB; split <;> simp
theorem showSt_len (t : Int) (l : List Eff) (ps : List (Int × List Eff)) : ∀ k, (showSt t l (ps.take k)).2.length ≤ 2 * k
  | 0 => by simp [showSt]
  | k + 1 => by
    cases h : ps[k]? with
    | none =>
      have e : ps.take (k + 1) = ps.take k := by rw [List.take_add_one, h]; simp
      rw [e]; have := showSt_len t l ps k; omega
    | some p =>
      rw [showSt_succ t l ps k p h]
      have := showSt_len t l ps k
      have := stepA_len t l (showSt t l (ps.take k)) p
      have := stepB_len t (stepA t l (showSt t l (ps.take k)) p) p
      omega

theorem info3 : (Try.prog.info? 3).map (fun i => (i.zero, i.size, i.bytes)) = some (some (.int .i64 0), 1, 8) := by kernel_rfl
theorem info30 : (Try.prog.info? 30).map (fun i => (i.zero, i.size, i.bytes)) = some (some (.slice none 0 0), 1, 24) := by kernel_rfl

/-- next, while it is built: B its block's number, less 2 -/
structure ShInv (w wr : World) (T L : Option Addr) (n c c' : Nat) (bnd : Int) (vt vl : Value) (xs : List Int) (ys : List (List Eff)) : Prop where
  below : Below w.heap.size w wr
  size : w.heap.size + 3 ≤ wr.heap.size
  b : wr.heap[w.heap.size]? = some (.cells #[.slice T n c, .slice L n c', .int .i64 bnd] 27 (0, 0))
  z : wr.heap[w.heap.size + 1]? = some (.cells #[.slice none 0 0, .slice none 0 0, .int .i64 0] 27 (0, 0))
  nx : wr.heap[w.heap.size + 1 + 1]? = some (.cells #[vt, vl, .int .i64 bnd] 27 (0, 0))
  ticks : wr.ownsRow w.heap.size 3 1 vt xs.length (xs.flatMap intc)
  lists : ∃ cells, wr.ownsRow w.heap.size 30 1 vl ys.length cells ∧ RowsR (sliceR Eff.cells 4 51) 1 wr ys cells

theorem heap_setCell_same {w : World} {g i : Nat} {cs : Array Value} {t : TypeId} {fz : Nat × Nat} (h : w.heap[g]? = some (.cells cs t fz)) (u : Value) : (w.setCell ⟨g, i, none⟩ u).heap[g]? = some (.cells (cs.setIfInBounds i u) t fz) := by
  unfold World.setCell
  simp [Array.getElem?_modify, h]

theorem own_setCell_ty {w : World} {base : Nat} {e : TypeId} {size : Nat} {v : Value} {n : Nat} {xs : List Value} (h : w.ownsRow base e size v n xs) {g : Nat} {cs : Array Value} {t : TypeId} {fz : Nat × Nat} (hg : w.heap[g]? = some (.cells cs t fz)) (ht : t ≠ e) (i : Nat) (u : Value) :
    (w.setCell ⟨g, i, none⟩ u).ownsRow base e size v n xs := by
  refine own_setCell_far h (fun g' hg' => ?_) u
  rintro rfl
  rcases h.2 with ⟨rfl, _⟩ | ⟨g2, cap, cur, rfl, _, hh, _⟩
  · simp [Value.ownBlock] at hg'
  · simp only [Value.ownBlock, Option.some.injEq] at hg'
    subst hg'
    rw [hg] at hh
    cases hh
    exact ht rfl

theorem ShInv.addT {w wr w1 w2 : World} {T L : Option Addr} {n c c' : Nat} {bnd : Int} {vt vl vt' : Value} {xs : List Int} {ys : List (List Eff)} (h : ShInv w wr T L n c c' bnd vt vl xs ys) {x : Int}
    (h1 : Below wr.heap.size wr w1) (hown : w1.ownsRow w.heap.size 3 1 vt xs.length (xs.flatMap intc)) (hown2 : w2.ownsRow w.heap.size 3 1 vt' (xs.length + 1) (xs.flatMap intc ++ [.int .i64 x])) (hgrow : w1.grownBy w2 vt.ownBlock) :
    ShInv w (w2.setCell ⟨w.heap.size + 1 + 1, 0, none⟩ vt') T L n c c' bnd vt' vl (xs ++ [x]) ys := by
  have hk1 : KT (fun t => t ≠ 3) wr w2 := kt_own (KT.below h1) hown hgrow (by simp)
  have hs1 := h1.size
  have hs2 := hgrow.size
  have hsz := h.size
  have hb2 : Below w.heap.size w w2 := below_own (h.below.trans (h1.mono (by omega))) hown hgrow (Nat.le_refl _) (by omega)
  have hnx := hk1 _ _ _ _ (by decide) h.nx
  obtain ⟨cells, ho, hr⟩ := h.lists
  have ho2 := own_kt ho hk1 (by decide)
  have hk3 : KT (fun t => t = 51) w2 (w2.setCell ⟨w.heap.size + 1 + 1, 0, none⟩ vt') := (KT.refl _ _).setCell fun cs t fz e => by
    simp only at e; rw [hnx] at e; cases e; decide
  refine ⟨hb2.setCell (p := ⟨w.heap.size + 1 + 1, 0, none⟩) (by simp <;> omega) _, by simp; omega, ?_, ?_, ?_, ?_, cells, ?_, ?_⟩
  · rw [Below.heap_setCell _ _ _ _ (by simp <;> omega)]; exact hk1 _ _ _ _ (by decide) h.b
  · rw [Below.heap_setCell _ _ _ _ (by simp <;> omega)]; exact hk1 _ _ _ _ (by decide) h.z
  · rw [heap_setCell_same hnx]; rfl
  · have := own_setCell_ty hown2 hnx (by decide) 0 vt'
    simpa [List.flatMap_append, intc] using this
  · exact own_setCell_ty ho2 hnx (by decide) 0 vt'
  · exact RowsR.kt (S := fun t => t = 51) (sliceR.stays _ _ _ rfl) hr ((hk1.mono (by intro t ht; rw [ht]; decide)).trans hk3)

theorem ShInv.addL {w wr w1 w2 : World} {T L : Option Addr} {n c c' : Nat} {bnd : Int} {vt vl vl' : Value} {xs : List Int} {ys : List (List Eff)} (h : ShInv w wr T L n c c' bnd vt vl xs ys) {y : List Eff} {cells : List Value} {cy : List Value}
    (h1 : Below wr.heap.size wr w1) (hown : w1.ownsRow w.heap.size 30 1 vl ys.length cells) (hrows : RowsR (sliceR Eff.cells 4 51) 1 wr ys cells) (hy : sliceR Eff.cells 4 51 wr y cy) (hown2 : w2.ownsRow w.heap.size 30 1 vl' (ys.length + 1) (cells ++ cy)) (hgrow : w1.grownBy w2 vl.ownBlock) :
    ShInv w (w2.setCell ⟨w.heap.size + 1 + 1, 1, none⟩ vl') T L n c c' bnd vt vl' xs (ys ++ [y]) := by
  have hk1 : KT (fun t => t ≠ 30) wr w2 := kt_own (KT.below h1) hown hgrow (by simp)
  have hs1 := h1.size
  have hs2 := hgrow.size
  have hsz := h.size
  have hb2 : Below w.heap.size w w2 := below_own (h.below.trans (h1.mono (by omega))) hown hgrow (Nat.le_refl _) (by omega)
  have hnx := hk1 _ _ _ _ (by decide) h.nx
  have ho2 := own_kt h.ticks hk1 (by decide)
  have hk3 : KT (fun t => t = 51) w2 (w2.setCell ⟨w.heap.size + 1 + 1, 1, none⟩ vl') := (KT.refl _ _).setCell fun cs t fz e => by
    simp only at e; rw [hnx] at e; cases e; decide
  have hk4 : KT (fun t => t = 51) wr (w2.setCell ⟨w.heap.size + 1 + 1, 1, none⟩ vl') := (hk1.mono (by intro t ht; rw [ht]; decide)).trans hk3
  obtain ⟨A, m, cc, rfl, hmc, hsl⟩ := hy
  refine ⟨hb2.setCell (p := ⟨w.heap.size + 1 + 1, 1, none⟩) (by simp <;> omega) _, by simp; omega, ?_, ?_, ?_, ?_, cells ++ [.slice A m cc], ?_, ?_⟩
  · rw [Below.heap_setCell _ _ _ _ (by simp <;> omega)]; exact hk1 _ _ _ _ (by decide) h.b
  · rw [Below.heap_setCell _ _ _ _ (by simp <;> omega)]; exact hk1 _ _ _ _ (by decide) h.z
  · rw [heap_setCell_same hnx]; rfl
  · exact own_setCell_ty ho2 hnx (by decide) 1 vl'
  · have := own_setCell_ty hown2 hnx (by decide) 1 vl'
    simpa using this
  · exact RowsR.snoc (RowsR.kt (S := fun t => t = 51) (sliceR.stays _ _ _ rfl) hrows hk4) rfl ⟨A, m, cc, rfl, hmc, hsl.kt hk4 rfl⟩

theorem ShInv.facts {w wr w3 : World} {T L : Option Addr} {n c c' : Nat} {bnd : Int} {vt vl : Value} {xs : List Int} {ys : List (List Eff)} (h : ShInv w wr T L n c c' bnd vt vl xs ys) (hk : KT (fun t => t = 27) wr w3) :
    w3.cell? ⟨w.heap.size, 0, none⟩ = some (.slice T n c) ∧ w3.cell? ⟨w.heap.size, 1, none⟩ = some (.slice L n c') ∧ w3.cell? ⟨w.heap.size, 2, none⟩ = some (.int .i64 bnd) ∧
    w3.cell? ⟨w.heap.size + 1 + 1, 0, none⟩ = some vt ∧ w3.cell? ⟨w.heap.size + 1 + 1, 1, none⟩ = some vl ∧ w3.cell? ⟨w.heap.size + 1 + 1, 2, none⟩ = some (.int .i64 bnd) ∧ (∀ i, w3.frozen? ⟨w.heap.size + 1 + 1, i, none⟩ = false) :=
  ⟨cell_blk (hk _ _ _ _ rfl h.b) 0, cell_blk (hk _ _ _ _ rfl h.b) 1, cell_blk (hk _ _ _ _ rfl h.b) 2, cell_blk (hk _ _ _ _ rfl h.nx) 0, cell_blk (hk _ _ _ _ rfl h.nx) 1, cell_blk (hk _ _ _ _ rfl h.nx) 2, fun i => frozen_blk (hk _ _ _ _ rfl h.nx) i⟩

theorem one_new (w : World) (u : Value) (e : TypeId) : ∀ ad, some (⟨w.heap.size, 0, none⟩ : Addr) = some ad → 0 < 1 → ∀ j u', [u][j]? = some u' → (w.alloc (.cells #[u] e)).cell? (ad.add j) = some u' := by
  intro ad had _ j u' hu
  cases had
  exact cells_new w [u] e j u' hu

theorem one_new' (w : World) (p : Addr) (u0 : Value) (u : Value) (e : TypeId) : ∀ ad, some (⟨w.heap.size, 0, none⟩ : Addr) = some ad → 0 < 1 → ∀ j u', [u][j]? = some u' → ((w.setCell p u0).alloc (.cells #[u] e)).cell? (ad.add j) = some u' := by
  intro ad had _ j u' hu
  cases had
  simpa using cells_new (w.setCell p u0) [u] e j u' hu

set_option maxHeartbeats 1000000 in
set_option maxRecDepth 100000 in
theorem show_any (T L A : Option Addr) (n c c' m cap : Nat) (ps : List (Int × List Eff)) (l : List Eff) (bnd t : Int) (w : World) (hn : n ≤ 100000) (hmc : m ≤ cap) (hT : SlI 3 w T n (ps.map (·.1))) (hL : SlL w L n (ps.map (·.2))) (hA : SlE w A m l) :
    Calls Try.prog 20 #[rbv T L n c c' bnd, .int .i64 t, .slice A m cap] w fun e w' => ∃ T' L' n' c2 c2', e = .returned (rbv T' L' n' c2 c2' bnd) ∧ SlI 3 w' T' n' ((rshow t l ps).map (·.1)) ∧ SlL w' L' n' ((rshow t l ps).map (·.2)) ∧ Below w.heap.size w w' := by
  have HL := Lib.hid hT.len
  obtain ⟨i3, hi3, hz30, hz31, hz32⟩ := info_parts info3
  obtain ⟨i30, hi30, hz300, hz301, hz302⟩ := info_parts info30
  go_enter Try.func20, Try.ntmps20
  go_wp2
  go_loopg [8, 9] n (fun g ad i wr => ∃ (k : Nat) (vt vl : Value), k ≤ n ∧ g = n - k ∧ i = .int .i64 k ∧ ad = .bool (showSt t l (ps.take k)).1 ∧
    ShInv w wr T L n c c' bnd vt vl ((showSt t l (ps.take k)).2.map (·.1)) ((showSt t l (ps.take k)).2.map (·.2)))
  case atStart =>
    refine ⟨0, .slice none 0 0, .slice none 0 0, Nat.zero_le _, rfl, rfl, rfl, ?_⟩
    have h1 := heap_alloc_new (w.alloc (.cells #[.slice T n c, .slice L n c', .int .i64 bnd] 27)) (.cells #[.slice none 0 0, .slice none 0 0, .int .i64 0] 27)
    have h2 := heap_alloc_new ((w.alloc (.cells #[.slice T n c, .slice L n c', .int .i64 bnd] 27)).alloc (.cells #[.slice none 0 0, .slice none 0 0, .int .i64 0] 27)) (.cells #[.slice none 0 0, .slice none 0 0, .int .i64 bnd] 27)
    simp only [World.size_alloc, Nat.add_assoc, Nat.reduceAdd] at h1 h2
    refine ⟨(((Below.refl _ _).alloc (Nat.le_refl _) _).alloc (by simp) _).alloc (by simp; omega) _, by simp, ?_, ?_, h2, World.ownsRow_nil _ _ _ _, [], World.ownsRow_nil _ _ _ _, RowsR.nil⟩
    · rw [Below.heap_alloc _ _ _ (by simp; omega), Below.heap_alloc _ _ _ (by simp)]; exact heap_alloc_new _ _
    · rw [Below.heap_alloc _ _ _ (by simp)]; exact h1
  case round =>
    obtain ⟨k, vt, vl, hk, rfl, rfl, rfl, hI⟩ := hrel
    by_cases hlt : k < n
    · have hbel := hI.below
      obtain ⟨b, off, x, rfl, hb, hxk, c0⟩ := hT.int hlt
      obtain ⟨b', off', y, rfl, hb', hlk, A', m', c2, c1, hmc', hsl⟩ := hL.slice hlt
      have hpk : ps[k]? = some (x, y) := by
        rw [List.getElem?_map] at hxk hlk
        cases hp : ps[k]? with
        | none => rw [hp] at hxk; cases hxk
        | some p => rw [hp] at hxk hlk; cases hxk; cases hlk; rfl
      have HS := Lib.hid (showSt_succ t l ps k _ hpk)
      have hlen := showSt_len t l ps k
      have hb2 : b < wr.heap.size := Nat.lt_of_lt_of_le hb hbel.size
      have c0' := (hbel.cell (p := ⟨b, off + k, none⟩) hb).trans c0
      clear hxk hlk hpk hT hL
      obtain ⟨d0, d1, d2, e0, e1, e2, e3⟩ := hI.facts (KT.refl _ wr)
      generalize hst : showSt t l (ps.take k) = st at *
      obtain ⟨added, acc⟩ := st
      clear hst
      simp only at hI hlen
      have hszr := hI.size
      go_upto_region 6 with fail
      go_cut [30] (fun v wx => v = .bool (!added && decide (t ≤ x)) ∧ wx = wr)
      case first =>
        cases added
        · by_cases htx : t ≤ x
          · go_wp2
            go_meet
            exact ⟨by simp [htx], rfl⟩
          · go_wp2
            go_meet
            exact ⟨by simp [htx], rfl⟩
        · go_wp2
          go_meet
          exact ⟨rfl, rfl⟩
      case rest =>
        obtain ⟨rfl, rfl⟩ := hcut
        go_upto_if 30 with (fail)
        go_cut [8] (fun ad wx => ∃ vt vl, ad = .bool (stepA t l (added, acc) (x, y)).1 ∧ ShInv w wx (some ⟨b, off, none⟩) (some ⟨b', off', none⟩) n c c' bnd vt vl ((stepA t l (added, acc) (x, y)).2.map (·.1)) ((stepA t l (added, acc) (x, y)).2.map (·.2)))
        case first =>
          cases hB : (!added && decide (t ≤ x))
          · go_wp2
            go_meet
            have hA : stepA t l (added, acc) (x, y) = (added, acc) := by unfold stepA; rw [if_neg (by simp only; rw [hB]; simp)]
            rw [hA]
            exact ⟨vt, vl, rfl, hI⟩
          · have hAA : Hid (stepA t l (added, acc) (x, y) = (true, acc ++ [(t, l)])) := by show _ = _; unfold stepA; rw [if_pos (by simpa using hB)]
            clear hB
            have hl1 : (acc.map (·.1)).length ≤ 2 * k := by simpa using hlen
            have hl2 : (acc.map (·.2)).length ≤ 2 * k := by simpa using hlen
            have hm1 : Hid ((acc ++ [(t, l)]).map (·.1) = acc.map (·.1) ++ [t]) := by simp [Hid]
            have hm2 : Hid ((acc ++ [(t, l)]).map (·.2) = acc.map (·.2) ++ [l]) := by simp [Hid]
            generalize acc.map (·.1) = xs at *
            generalize acc.map (·.2) = ys at *
            go_upto_region 7 with fail
            go_cut [8] (fun ad wx => ad = .bool added ∧ ∃ vt, ShInv w wx (some ⟨b, off, none⟩) (some ⟨b', off', none⟩) n c c' bnd vt vl (xs ++ [t]) ys)
            case first =>
              go_wp2_with (at_builtin; refine wpList_append_src _ rfl _ _ 22 rfl w.heap.size 3 i3 _ 1 8 Try.underlying22 hi3 hz30 hz31 hz32 rfl (by decide) _ _ _ rfl (hI.ticks.alloc _) (some ⟨wc.heap.size, 0, none⟩) 1 1 [.int .i64 t] rfl rfl (fun h => by cases h) (one_new _ _ _) (by intro u hu; simp at hu; subst hu; rfl) (by unfold maxLen; omega) (by omega) (by simp; omega) ?_)
              intro Av cv w1 ho1 hg1
              have hI1 := hI.addT (((Below.refl _ wc).alloc (Nat.le_refl _) _)) ((hI.ticks.alloc _)) ho1 hg1
              obtain ⟨d0, d1, d2, e0, e1, e2, e3⟩ := hI.facts ((kt_own (S := fun t => t ≠ 3) ((KT.refl _ wc).alloc _) ((hI.ticks.alloc _)) hg1 (by simp)).mono (by intro t ht; rw [ht]; decide))
              clear hI ho1 hg1
              go_wp2
              go_meet
              exact ⟨rfl, _, hI1⟩
            case rest =>
              clear hI hszr c0' d0 d1 d2 e0 e1 e2 e3 hbel hb2
              obtain ⟨rfl, vt, hI⟩ := hcut
              have hszr := hI.size
              obtain ⟨d0, d1, d2, e0, e1, e2, e3⟩ := hI.facts (KT.refl _ _)
              go_upto_region 8 with fail
              obtain ⟨cellsc, hoc, hrc⟩ := hI.lists
              go_wp2_with (at_builtin; refine wpList_append_src _ rfl _ _ 25 rfl w.heap.size 30 i30 _ 1 24 Try.underlying25 hi30 hz300 hz301 hz302 rfl (by decide) _ _ _ rfl (hoc.alloc _) (some ⟨wc.heap.size, 0, none⟩) 1 1 [.slice A m cap] rfl rfl (fun h => by cases h) (one_new _ _ _) (by intro u hu; simp at hu; subst hu; rfl) (by unfold maxLen; omega) (by omega) (by simp; omega) ?_)
              intro Av cv w1 ho1 hg1
              have hI1 := hI.addL (((Below.refl _ wc).alloc (Nat.le_refl _) _)) ((hoc.alloc _)) hrc ⟨A, m, cap, rfl, hmc, hA.below hI.below⟩ ho1 hg1
              obtain ⟨d0, d1, d2, e0, e1, e2, e3⟩ := hI.facts ((kt_own (S := fun t => t ≠ 30) ((KT.refl _ wc).alloc _) ((hoc.alloc _)) hg1 (by simp)).mono (by intro t ht; rw [ht]; decide))
              clear hI ho1 hg1
              go_wp2
              go_meet
              rw [hAA.out, hm1.out, hm2.out]
              exact ⟨vt, _, rfl, hI1⟩
        case rest =>
          clear hI hszr c0' d0 d1 d2 e0 e1 e2 e3 hbel hb2 vt vl
          obtain ⟨vt, vl, rfl, hI⟩ := hcut
          have hlenA := stepA_len t l (added, acc) (x, y)
          generalize stepA t l (added, acc) (x, y) = st1 at *
          obtain ⟨added1, acc1⟩ := st1
          simp only at hI hlenA HS
          have hl1 : (acc1.map (·.1)).length ≤ 2 * k + 1 := by simp; omega
          have hl2 : (acc1.map (·.2)).length ≤ 2 * k + 1 := by simp; omega
          have hm1 : Hid ((stepB t (added1, acc1) (x, y)).2.map (·.1) = acc1.map (·.1) ++ (if x = t then [] else [x])) := by show _ = _; unfold stepB; by_cases h : x = t <;> simp [h]
          have hm2 : Hid ((stepB t (added1, acc1) (x, y)).2.map (·.2) = acc1.map (·.2) ++ (if x = t then [] else [y])) := by show _ = _; unfold stepB; by_cases h : x = t <;> simp [h]
          have hm0 : Hid ((stepB t (added1, acc1) (x, y)).1 = added1) := rfl
          generalize acc1.map (·.1) = xs at *
          generalize acc1.map (·.2) = ys at *
          have hszr := hI.size
          have hbel := hI.below
          have hb2 : b < wc.heap.size := Nat.lt_of_lt_of_le hb hbel.size
          have hb2' : b' < wc.heap.size := Nat.lt_of_lt_of_le hb' hbel.size
          have hbn : w.heap.size < wc.heap.size := by omega
          have hbn2 : w.heap.size + 1 + 1 < wc.heap.size := by omega
          have c0' := (hbel.cell (p := ⟨b, off + k, none⟩) hb).trans c0
          have c1' := (hbel.cell (p := ⟨b', off' + k, none⟩) hb').trans c1
          obtain ⟨d0, d1, d2, e0, e1, e2, e3⟩ := hI.facts (KT.refl _ _)
          by_cases hxt : x = t
          · have hne : (x != t) = false := by simpa using hxt
            have HX := Lib.hid hxt
            clear hxt
            go_wp2
            go_roundg (n - (k + 1))
            case measure => omega
            case rel => exact ⟨k + 1, vt, vl, by omega, rfl, by go_num, by rw [HS.out, hm0.out], by rw [HS.out, hm1.out, hm2.out, if_pos HX.out, if_pos HX.out]; simpa using hI⟩
          · have hne : (x != t) = true := by simpa using hxt
            have HX := Lib.hid hxt
            clear hxt
            go_upto_region 11 with fail
            go_cut [8] (fun ad wx => ad = .bool added1 ∧ ∃ vt, ShInv w wx (some ⟨b, off, none⟩) (some ⟨b', off', none⟩) n c c' bnd vt vl (xs ++ [x]) ys)
            case first =>
              have hU := fun (u : Up wc) => Up.cell u
              refine wp_region_piUp [(0, 0), (1, 0), (2, 0), (3, 0), (4, 0), (5, 0), (6, 0), (7, 1), (8, 2), (9, 3), (10, 2)] [8, 10] (by kernel_rfl) (by kernel_rfl) ?_
              repeat (first | (refine pi_plain (by rfl) (by rfl) (fun K hK => ?_); go_big_quiet_op; refine hK _ ?_; clear hK K) | (refine pi_free (by rfl) (by rfl) (fun K hK => ?_); go_big_quiet_op; refine hK _ ?_; clear hK K))
              refine pi_soft (by rfl) (by rfl) (fun K hK => ?_)
              go_big_op
              refine hK _ _ (((Below.refl _ wc).alloc (Nat.le_refl _) _).drew) ?_
              clear hK K
              refine pi_hard (by rfl) (by rfl) (fun K hK => ?_)
              refine wp_append_src _ _ _ 22 rfl w.heap.size 3 i3 _ 1 8 Try.underlying22 hi3 hz30 hz31 hz32 rfl (by decide) vt _ _ rfl ((hI.ticks.alloc _).drew) (some ⟨wc.heap.size, 0, none⟩) 1 1 [.int .i64 x] rfl rfl (fun h => by cases h) (one_new _ _ _) (by intro u hu; simp at hu; subst hu; rfl) (by unfold maxLen; omega) (by omega) (by simp; omega) ?_
              intro Av cv w1 ho1 hg1
              have hI1 := hI.addT (((Below.refl _ wc).alloc (Nat.le_refl _) _).drew) ((hI.ticks.alloc _).drew) ho1 hg1
              obtain ⟨d0, d1, d2, e0, e1, e2, e3⟩ := hI.facts ((kt_own (S := fun t => t ≠ 3) ((KT.refl _ wc).alloc _).drew ((hI.ticks.alloc _).drew) hg1 (by simp)).mono (by intro t ht; rw [ht]; decide))
              clear hI ho1 hg1
              refine hK _ _ ?_
              clear hK K
              simp only [Act.put, List.setIfInBounds_toArray, List.set_cons_zero, List.set_cons_succ]
              refine pi_free (by rfl) (by rfl) (fun K hK => ?_)
              go_big_quiet_op
              refine hK _ ?_
              clear hK K
              refine pi_hard (by rfl) (by rfl) (fun K hK => ?_)
              go_big_op
              refine hK _ _ ?_
              clear hK K
              refine pi_nil ?_
              go_wp2
              go_meet
              exact ⟨rfl, _, hI1⟩
            case rest =>
              clear hI hszr c0' d0 d1 d2 e0 e1 e2 e3 hbel hb2 hb2' hbn hbn2 c1'
              obtain ⟨rfl, vt, hI⟩ := hcut
              have hszr := hI.size
              have hbel := hI.below
              have hb2 : b < wc.heap.size := Nat.lt_of_lt_of_le hb hbel.size
              have hb2' : b' < wc.heap.size := Nat.lt_of_lt_of_le hb' hbel.size
              have hbn : w.heap.size < wc.heap.size := by omega
              have hbn2 : w.heap.size + 1 + 1 < wc.heap.size := by omega
              have c0' := (hbel.cell (p := ⟨b, off + k, none⟩) hb).trans c0
              have c1' := (hbel.cell (p := ⟨b', off' + k, none⟩) hb').trans c1
              obtain ⟨d0, d1, d2, e0, e1, e2, e3⟩ := hI.facts (KT.refl _ _)
              have hslc := hsl.below hbel
              go_upto_region 12 with fail
              obtain ⟨cellsc, hoc, hrc⟩ := hI.lists
              have hU := fun (u : Up wc) => Up.cell u
              refine wp_region_piUp [(0, 0), (1, 0), (2, 0), (3, 0), (4, 0), (5, 0), (6, 0), (7, 1), (8, 2), (9, 3), (10, 2)] [8, 10] (by kernel_rfl) (by kernel_rfl) ?_
              repeat (first | (refine pi_plain (by rfl) (by rfl) (fun K hK => ?_); go_big_quiet_op; refine hK _ ?_; clear hK K) | (refine pi_free (by rfl) (by rfl) (fun K hK => ?_); go_big_quiet_op; refine hK _ ?_; clear hK K))
              refine pi_soft (by rfl) (by rfl) (fun K hK => ?_)
              go_big_op
              refine hK _ _ (((Below.refl _ wc).alloc (Nat.le_refl _) _).drew) ?_
              clear hK K
              refine pi_hard (by rfl) (by rfl) (fun K hK => ?_)
              refine wp_append_src _ _ _ 25 rfl w.heap.size 30 i30 _ 1 24 Try.underlying25 hi30 hz300 hz301 hz302 rfl (by decide) vl _ _ rfl ((hoc.alloc _).drew) (some ⟨wc.heap.size, 0, none⟩) 1 1 [.slice A' m' c2] rfl rfl (fun h => by cases h) (one_new _ _ _) (by intro u hu; simp at hu; subst hu; rfl) (by unfold maxLen; omega) (by omega) (by simp; omega) ?_
              intro Av cv w1 ho1 hg1
              have hI1 := hI.addL (((Below.refl _ wc).alloc (Nat.le_refl _) _).drew) ((hoc.alloc _).drew) hrc ⟨A', m', c2, rfl, hmc', hslc⟩ ho1 hg1
              obtain ⟨d0, d1, d2, e0, e1, e2, e3⟩ := hI.facts ((kt_own (S := fun t => t ≠ 30) ((KT.refl _ wc).alloc _).drew ((hoc.alloc _).drew) hg1 (by simp)).mono (by intro t ht; rw [ht]; decide))
              clear hI ho1 hg1
              refine hK _ _ ?_
              clear hK K
              simp only [Act.put, List.setIfInBounds_toArray, List.set_cons_zero, List.set_cons_succ]
              refine pi_free (by rfl) (by rfl) (fun K hK => ?_)
              go_big_quiet_op
              refine hK _ ?_
              clear hK K
              refine pi_hard (by rfl) (by rfl) (fun K hK => ?_)
              go_big_op
              refine hK _ _ ?_
              clear hK K
              refine pi_nil ?_
              go_wp2
              go_roundg (n - (k + 1))
              case measure => omega
              case rel => exact ⟨k + 1, vt, _, by omega, rfl, by go_num, by rw [HS.out, hm0.out], by rw [HS.out, hm1.out, hm2.out, if_neg HX.out, if_neg HX.out]; exact hI1⟩
    · obtain ⟨d0, d1, d2, e0, e1, e2, e3⟩ := hI.facts (KT.refl _ wr)
      have hszr := hI.size
      have hlen := showSt_len t l ps k
      have hR : Hid (rshow t l ps = if (showSt t l (ps.take k)).1 = true then (showSt t l (ps.take k)).2 else (showSt t l (ps.take k)).2 ++ [(t, l)]) := by
        have := HL.out
        simp only [List.length_map] at this
        show _ = _
        rw [List.take_of_length_le (by omega)]; rfl
      generalize hst : showSt t l (ps.take k) = st at *
      obtain ⟨added, acc⟩ := st
      clear hst
      simp only at hI hlen hR
      have hlt' : (k : Int) < n ↔ False := by simp; omega
      go_upto_if 71 with (fail)
      go_cut [8] (fun ad wx => ∃ vt vl, ShInv w wx T L n c c' bnd vt vl ((rshow t l ps).map (·.1)) ((rshow t l ps).map (·.2)))
      case first =>
        cases added
        · have hl1 : (acc.map (·.1)).length ≤ 2 * k := by simpa using hlen
          have hl2 : (acc.map (·.2)).length ≤ 2 * k := by simpa using hlen
          have hm1 : Hid ((acc ++ [(t, l)]).map (·.1) = acc.map (·.1) ++ [t]) := by simp [Hid]
          have hm2 : Hid ((acc ++ [(t, l)]).map (·.2) = acc.map (·.2) ++ [l]) := by simp [Hid]
          generalize acc.map (·.1) = xs at *
          generalize acc.map (·.2) = ys at *
          go_upto_region 14 with fail
          go_cut [8] (fun ad wx => ∃ vt, ShInv w wx T L n c c' bnd vt vl (xs ++ [t]) ys)
          case first =>
            go_wp2_with (at_builtin; refine wpList_append_src _ rfl _ _ 22 rfl w.heap.size 3 i3 _ 1 8 Try.underlying22 hi3 hz30 hz31 hz32 rfl (by decide) _ _ _ rfl (hI.ticks.alloc _) (some ⟨wr.heap.size, 0, none⟩) 1 1 [.int .i64 t] rfl rfl (fun h => by cases h) (one_new _ _ _) (by intro u hu; simp at hu; subst hu; rfl) (by unfold maxLen; omega) (by omega) (by simp; omega) ?_)
            intro Av cv w1 ho1 hg1
            have hI1 := hI.addT (((Below.refl _ wr).alloc (Nat.le_refl _) _)) ((hI.ticks.alloc _)) ho1 hg1
            obtain ⟨d0, d1, d2, e0, e1, e2, e3⟩ := hI.facts ((kt_own (S := fun t => t ≠ 3) ((KT.refl _ wr).alloc _) ((hI.ticks.alloc _)) hg1 (by simp)).mono (by intro t ht; rw [ht]; decide))
            clear hI ho1 hg1
            go_wp2
            go_meet
            exact ⟨_, hI1⟩
          case rest =>
            clear hI hszr d0 d1 d2 e0 e1 e2 e3
            obtain ⟨vt, hI⟩ := hcut
            have hszr := hI.size
            obtain ⟨d0, d1, d2, e0, e1, e2, e3⟩ := hI.facts (KT.refl _ _)
            go_upto_region 15 with fail
            obtain ⟨cellsc, hoc, hrc⟩ := hI.lists
            go_wp2_with (at_builtin; refine wpList_append_src _ rfl _ _ 25 rfl w.heap.size 30 i30 _ 1 24 Try.underlying25 hi30 hz300 hz301 hz302 rfl (by decide) _ _ _ rfl (hoc.alloc _) (some ⟨wc.heap.size, 0, none⟩) 1 1 [.slice A m cap] rfl rfl (fun h => by cases h) (one_new _ _ _) (by intro u hu; simp at hu; subst hu; rfl) (by unfold maxLen; omega) (by omega) (by simp; omega) ?_)
            intro Av cv w1 ho1 hg1
            have hI1 := hI.addL (((Below.refl _ wc).alloc (Nat.le_refl _) _)) ((hoc.alloc _)) hrc ⟨A, m, cap, rfl, hmc, hA.below hI.below⟩ ho1 hg1
            obtain ⟨d0, d1, d2, e0, e1, e2, e3⟩ := hI.facts ((kt_own (S := fun t => t ≠ 30) ((KT.refl _ wc).alloc _) ((hoc.alloc _)) hg1 (by simp)).mono (by intro t ht; rw [ht]; decide))
            clear hI ho1 hg1
            go_wp2
            go_meet
            rw [hR.out, if_neg (by simp), hm1.out, hm2.out]
            exact ⟨vt, _, hI1⟩
        · go_wp2
          go_meet
          rw [hR.out]
          exact ⟨vt, vl, hI⟩
      case rest =>
        clear hI hszr d0 d1 d2 e0 e1 e2 e3
        obtain ⟨vt, vl, hI⟩ := hcut
        have hll : ((rshow t l ps).map (·.2)).length = ((rshow t l ps).map (·.1)).length := by simp
        obtain ⟨cellsc, hoc, hrc⟩ := hI.lists
        rw [hll] at hoc
        obtain ⟨T', c2, rfl⟩ := own_slice hI.ticks
        obtain ⟨L', c2', rfl⟩ := own_slice hoc
        obtain ⟨d0, d1, d2, e0, e1, e2, e3⟩ := hI.facts (KT.refl _ _)
        have z0 : wc.cell? ⟨w.heap.size + 1, 0, none⟩ = some (.slice none 0 0) := cell_blk hI.z 0
        have z1 : wc.cell? ⟨w.heap.size + 1, 1, none⟩ = some (.slice none 0 0) := cell_blk hI.z 1
        have z2 : wc.cell? ⟨w.heap.size + 1, 2, none⟩ = some (.int .i64 0) := cell_blk hI.z 2
        have z3 : ∀ i, wc.frozen? ⟨w.heap.size + 1, i, none⟩ = false := fun i => frozen_blk hI.z i
        have hot := hI.ticks
        have hz := hI.z
        have hbel := hI.below
        have HN := Lib.hid hll
        clear hll hI
        generalize hN : ((rshow t l ps).map (·.1)).length = N at *
        have HN' := Lib.hid hN
        clear hN
        go_wp2
        have hkz : ∀ (i : Nat) (u : Value) (w0 : World) (cs : Array Value), w0.heap[w.heap.size + 1]? = some (.cells cs 27 (0, 0)) → KT (fun t => t ≠ 27) w0 (w0.setCell ⟨w.heap.size + 1, i, none⟩ u) := fun i u w0 cs h => (KT.refl _ _).setCell fun cs' t' fz e => by
          simp only at e; rw [h] at e; cases e; simp
        have h1 := heap_setCell_same (i := 0) hz (.slice T' N c2)
        have h2 := heap_setCell_same (i := 1) h1 (.slice L' N c2')
        have hK : KT (fun t => t ≠ 27) wc (((wc.setCell ⟨w.heap.size + 1, 0, none⟩ (.slice T' N c2)).setCell ⟨w.heap.size + 1, 1, none⟩ (.slice L' N c2')).setCell ⟨w.heap.size + 1, 2, none⟩ (.int .i64 bnd)) :=
          ((hkz 0 _ _ _ hz).trans (hkz 1 _ _ _ h1)).trans (hkz 2 _ _ _ h2)
        obtain ⟨_, _, he, hs1, _⟩ := Sl.of_own intc_len (own_kt hot hK (by decide)) HN'.out.symm
        cases he
        obtain ⟨_, _, he, _, hs2⟩ := SlR.of_own (own_kt hoc hK (by decide)) (RowsR.kt (S := fun t => t = 51) (sliceR.stays _ _ _ rfl) hrc (hK.mono (by intro t ht; rw [ht]; decide))) HN.out.symm
        cases he
        refine bodyPost_ret (v := rbv T' L' N c2 c2' bnd) (by simp [results, Try.results20, go_sem, e0, e1, e2, z0, z1, z2, z3]) rfl ⟨T', L', N, c2, c2', rfl, hs1, hs2, ?_⟩
        exact ((hbel.setCell (by simp) _).setCell (by simp) _).setCell (by simp) _
end Go.Proofs.Ytllcankinjomaaa
