import Derived.Test.YtllcankinjomaaaProg
import Derived.Test.YtllcankinjomaaaBase
namespace Go.Proofs.Ytllcankinjomaaa
set_option linter.unusedSimpArgs false
set_option linter.unusedVariables false
open Go.RowKit

structure Eff where
  tick : Int
  index : Int
  kind : Int
  value : Int
deriving DecidableEq, Inhabited

def Eff.cells (e : Eff) : List Value := [.int .i64 e.tick, .int .i64 e.index, .int .i64 e.kind, .int .i64 e.value]
abbrev Eff.v (e : Eff) : Value := .agg #[.int .i64 e.tick, .int .i64 e.index, .int .i64 e.kind, .int .i64 e.value]
theorem Eff.cells_len (x : Eff) : x.cells.length = 4 := rfl
theorem Eff.cells_one (x : Eff) : ∀ u ∈ x.cells, u.oneCell' = true := by
  intro u hu; simp [Eff.cells] at hu; rcases hu with rfl | rfl | rfl | rfl <;> rfl
/-- a slice of effects -/
abbrev SlE (w : World) (A : Option Addr) (n : Nat) (xs : List Eff) : Prop := Sl Eff.cells 4 51 w A n xs
/-- a slice of slices of effects -/
abbrev SlL (w : World) (A : Option Addr) (n : Nat) (xs : List (List Eff)) : Prop := SlR (sliceR Eff.cells 4 51) 1 30 w A n xs

theorem Sl.eff {w : World} {A : Option Addr} {n : Nat} {xs : List Eff} (h : SlE w A n xs) {k : Nat} (hk : k < n) :
    ∃ b off, ∃ x : Eff, A = some ⟨b, off, none⟩ ∧ b < w.heap.size ∧ xs[k]? = some x ∧ w.cell? ⟨b, off + k * 4, none⟩ = some (.int .i64 x.tick) ∧
      w.cell? ⟨b, off + k * 4 + 1, none⟩ = some (.int .i64 x.index) ∧ w.cell? ⟨b, off + k * 4 + 2, none⟩ = some (.int .i64 x.kind) ∧ w.cell? ⟨b, off + k * 4 + 3, none⟩ = some (.int .i64 x.value) := by
  have hl := h.1
  obtain ⟨b, off, rfl, hb, hc⟩ := h.get (by omega)
  have hx : xs[k]? = some (xs[k]'(by omega)) := List.getElem?_eq_getElem (by omega)
  refine ⟨b, off, _, rfl, hb, hx, ?_⟩
  have hh := hc k _ hx
  exact ⟨hh 0 _ rfl, hh 1 _ rfl, hh 2 _ rfl, hh 3 _ rfl⟩

theorem stood51 : Try.prog.stoodInHeld 51 = false := by kernel_rfl

set_option maxHeartbeats 400000 in
theorem eql51 (x y : Eff) (w : World) : (binOp .eql 51 x.v y.v).run Try.prog w = .ok (.bool (decide (x = y))) w := by
  have hp := stood51
  obtain ⟨a0, a1, a2, a3⟩ := x
  obtain ⟨b0, b1, b2, b3⟩ := y
  go_simp
  by_cases h0 : a0 = b0 <;> by_cases h1 : a1 = b1 <;> by_cases h2 : a2 = b2 <;> by_cases h3 : a3 = b3 <;> simp [h0, h1, h2, h3]

set_option maxHeartbeats 400000 in
theorem around_pos (n m : Int) (w : World) (h0 : 0 ≤ n) (hn : n ≤ 9223372036854775807) (hm : 1 ≤ m) :
    Calls Try.prog 25 #[.int .i64 n, .int .i64 m] w fun e w' => e = .returned (.int .i64 (n % m)) ∧ w = w' := by
  go_enter Try.func25, Try.ntmps25
  go_wp2
  go_ret
  exact ⟨rfl, rfl⟩

set_option maxHeartbeats 400000 in
theorem count_any (A : Option Addr) (n : Nat) (xs : List Eff) (cap : Nat) (x : Eff) (w : World) (hn : n ≤ 9223372036854775807) (hx : SlE w A n xs) :
    Calls Try.prog 27 #[.slice A n cap, x.v] w fun e w' => e = .returned (.int .i64 (xs.count x)) ∧ Below w.heap.size w w' := by
  have HL := Lib.hid hx.len
  go_enter Try.func27, Try.ntmps27
  go_wp2
  go_loopw [5, 6] (fun s i wr => ∃ k : Nat, k ≤ n ∧ i = .int .i64 k ∧ s = .int .i64 ((xs.take k).count x) ∧ Below w.heap.size w wr ∧ 
     wr.cell? ⟨w.heap.size, 0, none⟩ = some (.int .i64 x.tick) ∧ wr.cell? ⟨w.heap.size, 1, none⟩ = some (.int .i64 x.index) ∧ wr.cell? ⟨w.heap.size, 2, none⟩ = some (.int .i64 x.kind) ∧ wr.cell? ⟨w.heap.size, 3, none⟩ = some (.int .i64 x.value)) (fun _ i _ => n - (intOf i).toNat)
  case atStart => exact ⟨0, Nat.zero_le _, rfl, rfl, (Below.refl _ _).alloc (Nat.le_refl _) _, by simp, by simp, by simp, by simp⟩
  case round =>
    obtain ⟨k, hk, rfl, rfl, hbel, d0, d1, d2, d3⟩ := hrel
    have hcnt : (xs.take k).count x ≤ k := Nat.le_trans List.count_le_length (List.length_take_le _ _)
    by_cases hlt : k < n
    · obtain ⟨b, off, y, rfl, hb, hy, c0, c1, c2, c3⟩ := hx.eff hlt
      have c0' := (hbel.cell (p := ⟨b, off + k * 4, none⟩) hb).trans c0
      have c1' := (hbel.cell (p := ⟨b, off + k * 4 + 1, none⟩) hb).trans c1
      have c2' := (hbel.cell (p := ⟨b, off + k * 4 + 2, none⟩) hb).trans c2
      have c3' := (hbel.cell (p := ⟨b, off + k * 4 + 3, none⟩) hb).trans c3
      have HT := Lib.hid (take_succ_some hy)
      clear c0 c1 c2 c3 hy hx
      have hq := fun w' => eql51 y x w'
      by_cases hxy : y = x
      · obtain rfl := hxy
        have hq' := fun w' => eql51 y y w'
        simp only [Eff.v, decide_true] at hq'
        clear hq
        go_wp2
        go_quiet (fail)
        go_wp2
        go_roundw
        case rel => exact ⟨k + 1, by omega, by go_num, by rw [HT.out]; simp, hbel.drewN _, by simpa using d0, by simpa using d1, by simpa using d2, by simpa using d3⟩
        case measure => simp [intOf]; omega
      · simp only [Eff.v, hxy, decide_false] at hq
        have HX := Lib.hid hxy
        clear hxy
        go_wp2
        go_quiet (fail)
        go_wp2
        go_roundw
        case rel => exact ⟨k + 1, by omega, by go_num, by rw [HT.out, List.count_append]; simp [List.count_cons, HX.out], hbel.drewN _, by simpa using d0, by simpa using d1, by simpa using d2, by simpa using d3⟩
        case measure => simp [intOf]; omega
    · go_wp2
      go_ret
      exact ⟨by rw [List.take_of_length_le (by have := HL.out; omega)]; rfl, hbel⟩
end Go.Proofs.Ytllcankinjomaaa
