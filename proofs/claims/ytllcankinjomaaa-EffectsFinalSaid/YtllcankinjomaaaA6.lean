import Derived.Test.YtllcankinjomaaaA5
namespace Go.Proofs.Ytllcankinjomaaa
set_option linter.unusedSimpArgs false
set_option linter.unusedVariables false
open Go.RowKit

abbrev rbv (T L : Option Addr) (n c c' : Nat) (bnd : Int) : Value := .agg #[.slice T n c, .slice L n c', .int .i64 bnd]

set_option maxHeartbeats 400000 in
theorem confirm_no (T L : Option Addr) (n c c' : Nat) (bnd t : Int) (w : World) (h : t ≤ bnd) :
    Calls Try.prog 13 #[rbv T L n c c' bnd, .int .i64 t] w fun e w' => e = .returned (.tuple #[rbv T L n c c' bnd, .slice none 0 0]) ∧ Below w.heap.size w w' := by
  go_enter Try.func13, Try.ntmps13
  go_wp2
  exact bodyPost_ret (v := .tuple #[rbv T L n c c' bnd, .slice none 0 0]) (by simp [results, Try.results13, go_sem]) rfl ⟨rfl, by
    first
    | exact (((Below.refl _ _).alloc (Nat.le_refl _) _).alloc (by simp) _)
    | exact ((((Below.refl _ _).alloc (Nat.le_refl _) _).alloc (by simp) _).setCell (by simp) _)⟩

set_option maxHeartbeats 400000 in
theorem confirm_yes (T L : Option Addr) (n c c' : Nat) (ts : List Int) (ls : List (List Eff)) (bnd t : Int) (w : World) (h : bnd < t) (hn : n ≤ 1000000) (hlen : (betw bnd t ts ls).length ≤ 1000000) (hT : SlI 3 w T n ts) (hL : SlL w L n ls) :
    Calls Try.prog 13 #[rbv T L n c c' bnd, .int .i64 t] w fun e w' => ∃ v, e = .returned (.tuple #[rbv T L n c c' t, v]) ∧ w'.ownsRow w.heap.size 51 4 v (betw bnd t ts ls).length ((betw bnd t ts ls).flatMap Eff.cells) ∧ Below w.heap.size w w' := by
  go_enter Try.func13, Try.ntmps13
  go_wp2_with fail
  have hb0 : Below w.heap.size w ((w.alloc (.cells #[.slice T n c, .slice L n c', .int .i64 bnd] 27)).alloc (.cells #[.slice none 0 0, .slice none 0 0, .int .i64 0] 27)) := ((Below.refl _ _).alloc (Nat.le_refl _) _).alloc (by simp) _
  refine (between_any T L n c c' ts ls bnd bnd t _ hn hlen (hT.below hb0) (SlR.below (S := fun t => t = 51) (sliceR.stays _ _ _ rfl) hL hb0)).mono ?_
  rintro e w1 ⟨v, rfl, hv, hb1⟩
  have hB : w.heap.size + 2 ≤ w1.heap.size := by simpa using hb1.size
  have k0 : w1.heap[w.heap.size]? = some (.cells #[.slice T n c, .slice L n c', .int .i64 bnd] 27 (0, 0)) := (hb1.block _ (by simp; omega)).trans ((Below.heap_alloc _ _ _ (by simp)).trans (heap_alloc_new _ _))
  have k1 : w1.heap[w.heap.size + 1]? = some (.cells #[.slice none 0 0, .slice none 0 0, .int .i64 0] 27 (0, 0)) := (hb1.block _ (by simp)).trans (by simpa using heap_alloc_new (w.alloc (.cells #[.slice T n c, .slice L n c', .int .i64 bnd] 27)) (.cells #[.slice none 0 0, .slice none 0 0, .int .i64 0] 27))
  have d0 : w1.cell? ⟨w.heap.size, 0, none⟩ = some (.slice T n c) := cell_blk k0 0
  have d1 : w1.cell? ⟨w.heap.size, 1, none⟩ = some (.slice L n c') := cell_blk k0 1
  have d2 : w1.cell? ⟨w.heap.size, 2, none⟩ = some (.int .i64 bnd) := cell_blk k0 2
  have d3 : w1.frozen? ⟨w.heap.size, 2, none⟩ = false := frozen_blk k0 2
  have e0 : w1.cell? ⟨w.heap.size + 1, 0, none⟩ = some (.slice none 0 0) := cell_blk k1 0
  have e1 : w1.cell? ⟨w.heap.size + 1, 1, none⟩ = some (.slice none 0 0) := cell_blk k1 1
  have e2 : w1.cell? ⟨w.heap.size + 1, 2, none⟩ = some (.int .i64 0) := cell_blk k1 2
  have e3 : ∀ i, w1.frozen? ⟨w.heap.size + 1, i, none⟩ = false := fun i => frozen_blk k1 i
  clear k0 k1
  go_wp2
  have hv' : w1.ownsRow (w.heap.size + 2) 51 4 v (betw bnd t ts ls).length ((betw bnd t ts ls).flatMap Eff.cells) := own_base hv (by simp)
  refine bodyPost_ret (v := .tuple #[rbv T L n c c' t, v]) (by simp [results, Try.results13, go_sem, d0, d1, d2, e0, e1, e2, e3]) rfl ⟨v, rfl, ?_, ?_⟩
  · refine own_base (ownsRow_setCell_below (ownsRow_setCell_below (ownsRow_setCell_below (ownsRow_setCell_below hv' ?_ _) ?_ _) ?_ _) ?_ _) (by omega)
    all_goals simp
  · exact ((((hb0.trans (hb1.mono (by simp; omega))).setCell (by simp) _).setCell (by simp) _).setCell (by simp) _).setCell (by simp) _
set_option maxHeartbeats 400000 in
theorem pending_any (T L : Option Addr) (n c c' : Nat) (ts : List Int) (ls : List (List Eff)) (bnd : Int) (w : World) (hn : n ≤ 1000000) (hlen : (betw bnd 6000 ts ls).length ≤ 1000000) (hT : SlI 3 w T n ts) (hL : SlL w L n ls) :
    Calls Try.prog 22 #[rbv T L n c c' bnd] w fun e w' => ∃ v, e = .returned v ∧ w'.ownsRow w.heap.size 51 4 v (betw bnd 6000 ts ls).length ((betw bnd 6000 ts ls).flatMap Eff.cells) ∧ Below w.heap.size w w' := by
  go_enter Try.func22, Try.ntmps22
  go_wp2_with fail
  have hb0 : Below w.heap.size w (w.alloc (.cells #[.slice T n c, .slice L n c', .int .i64 bnd] 27)) := (Below.refl _ _).alloc (Nat.le_refl _) _
  refine (between_any T L n c c' ts ls bnd bnd 6000 _ hn hlen (hT.below hb0) (SlR.below (S := fun t => t = 51) (sliceR.stays _ _ _ rfl) hL hb0)).mono ?_
  rintro e w1 ⟨v, rfl, hv, hb1⟩
  go_wp2
  go_ret
  exact ⟨v, rfl, own_base hv (by simp), hb0.trans (hb1.mono (by simp))⟩
end Go.Proofs.Ytllcankinjomaaa
