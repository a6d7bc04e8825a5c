import Derived.Test.YtllcankinjomaaaP2
import Derived.Test.YtllcankinjomaaaSort
namespace Go.Proofs.Ytllcankinjomaaa
set_option linter.unusedSimpArgs false
set_option linter.unusedVariables false
open Go.RowKit Go.MapKept Go.WideElems Go.Maps

theorem flat_intc (xs : List Int) : xs.flatMap intc = xs.map (Value.int .i64) := by
  induction xs with
  | nil => rfl
  | cons x xs ih => simp [List.flatMap_cons, intc, ih]

set_option maxHeartbeats 400000 in
theorem cloneI_any (A : Option Addr) (n c : Nat) (xs : List Int) (w : World) (hn : n ≤ 1000000) (hx : SlI 3 w A n xs) :
    Calls Try.prog 35 #[.slice A n c] w fun e w' => ∃ v, e = .returned v ∧ w'.ownsRow w.heap.size 3 1 v n (xs.flatMap intc) ∧ Below w.heap.size w w' := by
  have HL := Lib.hid hx.len
  obtain ⟨i0, hi0, hz0, hz1, hz2⟩ := info_parts info3
  cases A with
  | none =>
    obtain rfl := hx.nilA rfl
    have hq := fun wx => Lib.run_eql_slice_nil (P := Try.prog) wx 22 3 none 0 c 0 0 Try.underlying22
    go_enter Try.func35, Try.ntmps35
    go_wp2
    go_ret
    have hx0 : xs = [] := List.eq_nil_of_length_eq_zero HL.out.symm
    rw [hx0]
    exact ⟨_, rfl, World.ownsRow_nil _ _ _ _, Below.refl _ _⟩
  | some ad =>
    have hq := fun wx => Lib.run_eql_slice_nil (P := Try.prog) wx 22 3 (some ad) n c 0 0 Try.underlying22
    go_enter Try.func35, Try.ntmps35
    have hown : (w.alloc (.cells #[] 3)).ownsRow w.heap.size 3 1 (.slice (some ⟨w.heap.size, 0, none⟩) 0 0) 0 [] := World.ownsRow_made w #[] 0 (Nat.le_refl _) (Nat.zero_le _) rfl
    have hb0 := (Below.refl w.heap.size w).alloc (Nat.le_refl _) (.cells #[] 3)
    have hx0 := hx.below hb0
    go_wp2_with (at_builtin; refine wpList_append_src _ rfl _ _ 22 rfl w.heap.size 3 i0 _ 1 8 Try.underlying22 hi0 hz0 hz1 hz2 rfl (by decide) _ _ _ rfl hown (some ad) n c (xs.flatMap intc) rfl ?c1 hx0.nilA (hx0.news intc_len (by decide)) (flat_one intc_one xs) ?c3 ?c4 ?c5 ?_)
    case c1 => rw [flat_len intc_len, ← HL.out]
    case c3 => unfold maxLen; omega
    case c4 => omega
    case c5 => simp
    · intro Av cv w2 hown2 hgrow
      have hbel2 := below_own hb0 hown hgrow (Nat.le_refl _) (by simp)
      have HB := Lib.hid hown2
      clear hown2 hown hgrow hx0
      go_wp2
      go_ret
      exact ⟨_, rfl, HB.out, hbel2⟩

def sortI (xs : List Int) : List Int := xs.mergeSort fun x y => decide (x ≤ y)
theorem sortI_len (xs : List Int) : (sortI xs).length = xs.length := List.length_mergeSort _

set_option maxHeartbeats 400000 in
theorem sorted_any (A : Option Addr) (n c : Nat) (xs : List Int) (w : World) (hn : n ≤ 1000000) (hx : SlI 3 w A n xs) :
    Calls Try.prog 32 #[.slice A n c] w fun e w' => ∃ v, e = .returned v ∧ w'.ownsRow w.heap.size 3 1 v n ((sortI xs).flatMap intc) ∧ Below w.heap.size w w' := by
  have HL := Lib.hid hx.len
  go_enter Try.func32, Try.ntmps32
  go_wp2_with fail
  refine (cloneI_any A n c xs w hn hx).mono ?_
  rintro e w1 ⟨v, rfl, hv, hb1⟩
  rcases hv.2 with ⟨rfl, rfl⟩ | ⟨g, cap, cur, rfl, hg0, hg, hnc, hcm, hcs, htake⟩
  · go_wp2_with (go_at_call 36; refine (Any.slices_Sort_int_none Try.lays189 none 0 _).mono ?_; rintro e w' ⟨rfl, rfl⟩)
    go_ret
    have hx0 : xs = [] := List.eq_nil_of_length_eq_zero HL.out.symm
    have hs0 : sortI xs = [] := by rw [hx0]; simp [sortI]
    rw [hs0]
    exact ⟨_, rfl, World.ownsRow_nil _ _ _ _, hb1⟩
  · have hl := HL.out
    subst hl
    have hH : Sort.Holds (Value.int .i64) w1 g 0 xs.toArray := holds_of_blockI hg (by rw [Nat.mul_one] at htake; rw [htake, flat_intc])
    have hsort := Try.slices_Sort_int g 0 cap xs w1 hH (lt_of_heap hg) (by omega)
    go_wp2_with (go_at_call 36; refine hsort.mono ?_; rintro e w' ⟨rfl, nn, os, rfl⟩)
    go_ret
    have hs := ownsRow_sortedI (n := nn) (os := os) (ts := sortI xs) (sortI_len xs) hg0 hg hnc hcm hcs
    have hgr := grownBy_sortedI (w := w1) (g := g) (n := nn) (os := os) (sortI xs).toArray
    refine ⟨_, rfl, by rw [flat_intc]; exact hs, hb1.grown hgr hb1.size (fun j hj => by cases hj; exact hg0)⟩

theorem keys_any (mb : Option Nat) (w : World) : Calls Try.prog 34 #[.map mb] w fun e w' => e = .returned (.func (.func 38) #[] #[.pointer (some ⟨w.heap.size, 0, none⟩)]) ∧ w' = w.alloc (.cells #[.map mb] 58) :=
  (callsIn_wide (n := 5)).1 (AnyZI.keys_in Try.keysA Fence.wide 5 trivial rfl mb w)

/-- a map of ours as the shelf reads it: an element as itself -/
def heldR (v : Value) : Option (DataW Value × List MemPlace) := some (.held v, [])
theorem MapF.owns {w : World} {b : Nat} {ks : List Int} {f : Int → Option Value} (h : MapF (Value.int .i64) w b ks f) (hk : ∀ k ∈ ks, (Lit.int .i64 k).wf = true) (hn : ks.length ≤ 1000000) :
    ∃ D0 : DataW Value, w.ownsMap Try.prog 3 heldR b ks.length D0 ∧ (intKeys D0).Perm ks ∧ Maps.size D0 = ks.length := by
  obtain ⟨es, clock, hb, hst, h2, h3, h4⟩ := h
  have hl := congrArg List.length h2
  simp only [List.length_map, Array.length_toList] at hl
  have hread : ∀ x ∈ es.toList, ∃ k ∈ ks, x.key = .int .i64 k := by
    intro x hx
    have : x.key ∈ es.toList.map (·.key) := List.mem_map_of_mem hx
    rw [h2] at this
    obtain ⟨k, hk, e⟩ := List.mem_map.1 this
    exact ⟨k, hk, e.symm⟩
  have hrd : ∀ x ∈ es.toList, ∀ k, x.key = .int .i64 k → k ∈ ks → rd Try.prog 3 heldR x = some (.int .i64 k, .held x.val) := by
    intro x _ k e hks
    unfold rd
    rw [e, keyOf_int_mk Try.underlying3 (hk k hks)]
    rfl
  refine ⟨_, ⟨es, clock, hb, ⟨by unfold maxLen; omega, hst, fun x hx => ?_⟩, by omega, rfl⟩, ?_, ?_⟩
  · obtain ⟨k, hks, e⟩ := hread x hx
    exact ⟨_, hrd x hx k e hks⟩
  · have hp := (WideShapes.sorted_perm (es.toList.map (rg Try.prog 3 heldR))).map (fun p => Go.intOf p.1)
    refine hp.trans ?_
    have : (es.toList.map (rg Try.prog 3 heldR)).map (fun p => Go.intOf p.1) = ks := by
      rw [List.map_map]
      have h5 : ks = (es.toList.map (·.key)).map (fun v => RowKit.intOf v) := by
        rw [h2, List.map_map]
        conv => lhs; rw [← List.map_id ks]
        rfl
      rw [h5, List.map_map]
      refine List.map_congr_left fun x hx => ?_
      obtain ⟨k, hks, e⟩ := hread x hx
      simp only [Function.comp, rg, hrd x hx k e hks, Option.getD_some, e]
      rfl
    rw [this]
  · rw [size_eq, length_sorted]
    simp; omega

set_option maxHeartbeats 400000 in
theorem collect_any (Bm b : Nat) (ks : List Int) (f : Int → Option Value) (w : World) (hBm : Bm < w.heap.size) (hm : w.cell? ⟨Bm, 0, none⟩ = some (.map (some b))) (hmap : MapF (Value.int .i64) w b ks f) (hk : ∀ k ∈ ks, (Lit.int .i64 k).wf = true) (hn : ks.length ≤ 1000000) :
    Calls Try.prog 33 #[.func (.func 38) #[] #[.pointer (some ⟨Bm, 0, none⟩)]] w fun e w' => ∃ (v : Value) (ss : List Int), e = .returned v ∧ ss.Perm ks ∧ w'.ownsRow w.heap.size 3 1 v ss.length (ss.flatMap intc) ∧ Below w.heap.size w w' := by
  obtain ⟨D0, hown, hperm, hsz⟩ := hmap.owns hk hn
  have hseq : SeqGives Fence.wide 3 Try.prog 38 #[.pointer (some ⟨Bm, 0, none⟩)] encZ (fun ss => ss.Perm (intKeys D0)) (Maps.size D0) w :=
    AnyZI.keys_gives (ρ := Try.keysA_ren) { Try.keysA with } Fence.wide _ trivial rfl (by omega) Bm b ks.length D0 w hBm hm hown
  have h := AnyZI.collect_in Try.collectA Fence.wide 5 trivial trivial rfl (by omega) 38 #[.pointer (some ⟨Bm, 0, none⟩)] trivial (enters_of Try.func38 (by kernel_rfl) rfl) _ _ (by unfold maxLen; omega) (by omega) w hseq
  refine ((callsIn_wide (n := 5)).1 h).mono ?_
  rintro e w' ⟨v, ss, rfl, hS, hrow, _, hb⟩
  exact ⟨v, ss, rfl, hS.trans hperm, by rw [flat_intc]; exact hrow, hb⟩
end Go.Proofs.Ytllcankinjomaaa
