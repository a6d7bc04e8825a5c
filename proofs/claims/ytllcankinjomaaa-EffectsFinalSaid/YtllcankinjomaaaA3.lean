import Derived.Test.YtllcankinjomaaaA2
namespace Go.Proofs.Ytllcankinjomaaa
set_option linter.unusedSimpArgs false
set_option linter.unusedVariables false
open Go.RowKit

theorem neq51 (x y : Eff) (w : World) : (binOp .neq 51 x.v y.v).run Try.prog w = .ok (.bool (!decide (x = y))) w := by
  have hp := stood51
  obtain ⟨a0, a1, a2, a3⟩ := x
  obtain ⟨b0, b1, b2, b3⟩ := y
  go_simp
  by_cases h0 : a0 = b0 <;> by_cases h1 : a1 = b1 <;> by_cases h2 : a2 = b2 <;> by_cases h3 : a3 = b3 <;> simp [h0, h1, h2, h3]

set_option maxHeartbeats 400000 in
theorem same_any (A B : Option Addr) (n m : Nat) (xs ys : List Eff) (cap cap' : Nat) (w : World) (hn : n ≤ 9223372036854775807) (hm : m ≤ 9223372036854775807) (hx : SlE w A n xs) (hy : SlE w B m ys) :
    Calls Try.prog 14 #[.slice A n cap, .slice B m cap'] w fun e w' => e = .returned (.bool (decide (xs = ys))) ∧ Below w.heap.size w w' := by
  have HL := Lib.hid hx.len
  have HL' := Lib.hid hy.len
  by_cases hnm : n = m
  · obtain rfl := hnm
    go_enter Try.func14, Try.ntmps14
    go_wp2
    go_loopw [5] (fun i wr => ∃ k : Nat, k ≤ n ∧ i = .int .i64 k ∧ Below w.heap.size w wr ∧ Hid (xs.take k = ys.take k)) (fun i _ => n - (intOf i).toNat)
    case atStart => exact ⟨0, Nat.zero_le _, rfl, Below.refl _ _, by simp [Hid]⟩
    case round =>
      obtain ⟨k, hk, rfl, hbel, HA⟩ := hrel
      by_cases hlt : k < n
      · have hxr := hx.below hbel
        have hyr := hy.below hbel
        clear hx hy
        obtain ⟨b, off, x, rfl, hb, hxk, c0, c1, c2, c3⟩ := hxr.eff hlt
        obtain ⟨b', off', y, rfl, hb', hyk, d0, d1, d2, d3⟩ := hyr.eff hlt
        have HT := Lib.hid (take_succ_some hxk)
        have HT' := Lib.hid (take_succ_some hyk)
        have HK := Lib.hid (And.intro hxk hyk)
        clear hxk hyk hxr hyr
        have hq := fun w' => neq51 x y w'
        by_cases hxy : x = y
        · obtain rfl := hxy
          simp only [Eff.v, decide_true, Bool.not_true] at hq
          go_wp2
          go_quiet (fail)
          go_wp2
          go_roundw
          case rel => exact ⟨k + 1, by omega, by go_num, hbel.drewN _, by show _ = _; rw [HT.out, HT'.out, HA.out]⟩
          case measure => simp [intOf]; omega
        · simp only [Eff.v, hxy, decide_false, Bool.not_false] at hq
          have HX := Lib.hid hxy
          clear hxy
          go_wp2
          go_quiet (fail)
          go_wp2
          go_ret
          refine ⟨?_, hbel.drewN _⟩
          refine ret_bool (a := false) (decide_eq_false ?_).symm
          rintro rfl
          have := HK.out
          exact HX.out (Option.some.inj (this.1.symm.trans this.2))
      · go_wp2
        go_ret
        refine ⟨ret_bool (a := true) (decide_eq_true ?_).symm, hbel⟩
        have h1 := HL.out; have h2 := HL'.out; have h3 := HA.out
        rw [List.take_of_length_le (by omega), List.take_of_length_le (by omega)] at h3
        exact h3
  · have HN := Lib.hid hnm
    have hne : ((n : Int) != (m : Int)) = true := by simp; omega
    clear hnm
    go_enter Try.func14, Try.ntmps14
    go_wp2
    go_ret
    refine ⟨ret_bool (a := false) (decide_eq_false ?_).symm, Below.refl _ _⟩
    rintro rfl
    have h1 := HL.out; have h2 := HL'.out; have h3 := HN.out
    omega

/-- the reference's board -/
structure RB where
  ticks : List Int
  lists : List (List Eff)
  bnd : Int

def ofGo : List Int → List (List Eff) → Int → List Eff
  | t :: ts, l :: ls, k => if t = k then l else ofGo ts ls k
  | _, _, _ => []

set_option maxHeartbeats 400000 in
theorem of_any (T L : Option Addr) (n c c' : Nat) (ts : List Int) (ls : List (List Eff)) (bnd t : Int) (w : World) (hn : n ≤ 1000000) (hT : SlI 3 w T n ts) (hL : SlL w L n ls) :
    Calls Try.prog 18 #[.agg #[.slice T n c, .slice L n c', .int .i64 bnd], .int .i64 t] w fun e w' => ∃ A m c2, e = .returned (.slice A m c2) ∧ m ≤ c2 ∧ SlE w' A m (ofGo ts ls t) ∧ Below w.heap.size w w' := by
  have HL := Lib.hid hT.len
  go_enter Try.func18, Try.ntmps18
  go_wp2
  go_loopw [5] (fun i wr => ∃ k : Nat, k ≤ n ∧ i = .int .i64 k ∧ Below w.heap.size w wr ∧ wr.cell? ⟨w.heap.size, 0, none⟩ = some (.slice T n c) ∧ wr.cell? ⟨w.heap.size, 1, none⟩ = some (.slice L n c') ∧
    Hid (ofGo (ts.drop k) (ls.drop k) t = ofGo ts ls t)) (fun i _ => n - (intOf i).toNat)
  case atStart => exact ⟨0, Nat.zero_le _, rfl, (Below.refl _ _).alloc (Nat.le_refl _) _, by simp, by simp, by simp [Hid]⟩
  case round =>
    obtain ⟨k, hk, rfl, hbel, d0, d1, HA⟩ := hrel
    by_cases hlt : k < n
    · have hTr := hT.below hbel
      have hLr := SlR.below (S := fun t => t = 51) (sliceR.stays _ _ _ rfl) hL hbel
      clear hT hL
      obtain ⟨b, off, x, rfl, hb, hxk, c0⟩ := hTr.int hlt
      obtain ⟨b', off', l, rfl, hb', hlk, A', m, c2, c1, hmc, hsl⟩ := hLr.slice hlt
      have HT := Lib.hid (drop_some hxk)
      have HT' := Lib.hid (drop_some hlk)
      clear hxk hlk
      by_cases hxy : x = t
      · obtain rfl := hxy
        go_wp2
        go_ret
        refine ⟨A', m, c2, rfl, hmc, ?_, hbel⟩
        have h := HA.out
        rw [HT.out, HT'.out, ofGo, if_pos rfl] at h
        rw [← h]; exact hsl
      · have hne : (x == t) = false := by simpa using hxy
        go_wp2
        go_roundw
        case rel => exact ⟨k + 1, by omega, by go_num, hbel, d0, d1, by
          have h := HA.out
          rw [HT.out, HT'.out, ofGo, if_neg hxy] at h
          exact h⟩
        case measure => simp [intOf]; omega
    · go_wp2
      go_ret
      refine ⟨none, 0, 0, rfl, Nat.le_refl _, ?_, hbel⟩
      have h := HA.out
      have h1 := HL.out
      have e : ts.drop k = [] := List.drop_eq_nil_of_le (by omega)
      rw [e] at h
      rw [← h]
      exact Sl.nil

/-- the first error of Show; n elements -/
def wrong (bnd t : Int) (l : List Eff) : Int :=
  if t < 0 ∨ 5999 < t then 18 else if t < bnd then 20 else if 40 < l.length then 2 else if l.all (fun x => decide (x.tick = t)) then 0 else 1
end Go.Proofs.Ytllcankinjomaaa
