import Derived.Test.YtllcankinjomaaaA3
namespace Go.Proofs.Ytllcankinjomaaa
set_option linter.unusedSimpArgs false
set_option linter.unusedVariables false
open Go.RowKit

set_option maxHeartbeats 400000 in
theorem wrong_any (T L A : Option Addr) (n c c' m cap : Nat) (bnd t : Int) (xs : List Eff) (w : World) (hm : m ≤ 1000000) (hx : SlE w A m xs) :
    Calls Try.prog 16 #[.agg #[.slice T n c, .slice L n c', .int .i64 bnd], .int .i64 t, .slice A m cap] w fun e w' => e = .returned (.int .i64 (wrong bnd t xs)) ∧ Below w.heap.size w w' := by
  have HL := Lib.hid hx.len
  have hb0 := (Below.refl w.heap.size w).alloc (Nat.le_refl _) (.cells #[.slice T n c, .slice L n c', .int .i64 bnd] 27)
  by_cases h1 : t < 0
  · have HF : Hid (wrong bnd t xs = 18) := by show _ = _; unfold wrong; rw [if_pos (Or.inl h1)]
    go_enter Try.func16, Try.ntmps16
    go_wp2
    go_ret
    exact ⟨ret_int HF.out.symm, hb0⟩
  by_cases h2 : 5999 < t
  · have HF : Hid (wrong bnd t xs = 18) := by show _ = _; unfold wrong; rw [if_pos (Or.inr h2)]
    go_enter Try.func16, Try.ntmps16
    go_wp2
    go_ret
    exact ⟨ret_int HF.out.symm, hb0⟩
  by_cases h3 : t < bnd
  · have HF : Hid (wrong bnd t xs = 20) := by show _ = _; unfold wrong; rw [if_neg (by omega), if_pos h3]
    go_enter Try.func16, Try.ntmps16
    go_wp2
    go_ret
    exact ⟨ret_int HF.out.symm, hb0⟩
  by_cases h4 : 40 < m
  · have HF : Hid (wrong bnd t xs = 2) := by show _ = _; unfold wrong; rw [if_neg (by omega), if_neg h3, if_pos (by have := HL.out; omega)]
    go_enter Try.func16, Try.ntmps16
    go_wp2
    go_ret
    exact ⟨ret_int HF.out.symm, hb0⟩
  have HF : Hid (wrong bnd t xs = if xs.all (fun x => decide (x.tick = t)) then 0 else 1) := by show _ = _; unfold wrong; rw [if_neg (by omega), if_neg h3, if_neg (by have := HL.out; omega)]
  go_enter Try.func16, Try.ntmps16
  go_wp2
  go_loopw [7] (fun i wr => ∃ k : Nat, k ≤ m ∧ i = .int .i64 k ∧ Below w.heap.size w wr ∧ Hid ((xs.take k).all (fun x => decide (x.tick = t)) = true)) (fun i _ => m - (intOf i).toNat)
  case atStart => exact ⟨0, Nat.zero_le _, rfl, hb0, by simp [Hid]⟩
  case round =>
    obtain ⟨k, hk, rfl, hbel, HA⟩ := hrel
    by_cases hlt : k < m
    · have hxr := hx.below hbel
      clear hx
      obtain ⟨b, off, x, rfl, hb, hxk, c0, -, -, -⟩ := hxr.eff hlt
      have HT := Lib.hid (take_succ_some hxk)
      have HK := Lib.hid hxk
      clear hxk
      by_cases hxy : x.tick = t
      · have HX := Lib.hid hxy
        have hne : (x.tick != t) = false := by simpa using hxy
        clear hxy
        go_wp2
        go_roundw
        case rel => exact ⟨k + 1, by omega, by go_num, hbel, by show _ = _; rw [HT.out, List.all_append, HA.out]; simp [HX.out]⟩
        case measure => simp [intOf]; omega
      · have hne : (x.tick != t) = true := by simpa using hxy
        go_wp2
        go_ret
        refine ⟨ret_int ?_, hbel⟩
        rw [HF.out, if_neg]
        intro h
        rw [List.all_eq_true] at h
        exact hxy (by simpa using h x (List.mem_of_getElem? HK.out))
    · go_wp2
      go_ret
      refine ⟨ret_int ?_, hbel⟩
      have h := HA.out
      rw [List.take_of_length_le (by have := HL.out; omega)] at h
      rw [HF.out, h]; rfl

def betw (lo hi : Int) : List Int → List (List Eff) → List Eff
  | t :: ts, l :: ls => (if lo ≤ t ∧ t < hi then l else []) ++ betw lo hi ts ls
  | _, _ => []

theorem betw_take (lo hi : Int) : ∀ (ts : List Int) (ls : List (List Eff)) (k : Nat) (t : Int) (l : List Eff), ts[k]? = some t → ls[k]? = some l →
    betw lo hi (ts.take (k + 1)) (ls.take (k + 1)) = betw lo hi (ts.take k) (ls.take k) ++ (if lo ≤ t ∧ t < hi then l else [])
  | [], _, k, t, l, h, _ => by simp at h
  | _ :: _, [], k, t, l, _, h => by simp at h
  | a :: ts, b :: ls, 0, t, l, h1, h2 => by
    simp only [List.getElem?_cons_zero, Option.some.injEq] at h1 h2
    subst h1; subst h2
    simp [betw]
  | a :: ts, b :: ls, k + 1, t, l, h1, h2 => by
    have := betw_take lo hi ts ls k t l (by simpa using h1) (by simpa using h2)
    simp only [List.take_succ_cons, betw, this, List.append_assoc]

theorem betw_take_len (lo hi : Int) : ∀ (ts : List Int) (ls : List (List Eff)) (k : Nat), (betw lo hi (ts.take k) (ls.take k)).length ≤ (betw lo hi ts ls).length
  | [], _, k => by simp [betw]
  | _ :: _, [], k => by cases k <;> simp [betw]
  | a :: ts, b :: ls, 0 => by simp [betw]
  | a :: ts, b :: ls, k + 1 => by
    have := betw_take_len lo hi ts ls k
    simp only [List.take_succ_cons, betw, List.length_append]
    omega

set_option maxHeartbeats 800000 in
theorem between_any (T L : Option Addr) (n c c' : Nat) (ts : List Int) (ls : List (List Eff)) (bnd lo hi : Int) (w : World) (hn : n ≤ 1000000) (hlen : (betw lo hi ts ls).length ≤ 1000000) (hT : SlI 3 w T n ts) (hL : SlL w L n ls) :
    Calls Try.prog 28 #[.agg #[.slice T n c, .slice L n c', .int .i64 bnd], .int .i64 lo, .int .i64 hi] w fun e w' => ∃ v, e = .returned v ∧ w'.ownsRow w.heap.size 51 4 v (betw lo hi ts ls).length ((betw lo hi ts ls).flatMap Eff.cells) ∧ Below w.heap.size w w' := by
  have HL := Lib.hid hT.len
  have HL' := Lib.hid hL.len
  obtain ⟨i0, hi0, hz0, hz1, hz2⟩ := info_parts info51
  go_enter Try.func28, Try.ntmps28
  go_wp2
  go_loopw [7, 8] (fun v i wr => ∃ k : Nat, k ≤ n ∧ i = .int .i64 k ∧ wr.ownsRow w.heap.size 51 4 v (betw lo hi (ts.take k) (ls.take k)).length ((betw lo hi (ts.take k) (ls.take k)).flatMap Eff.cells) ∧ Below w.heap.size w wr ∧
    w.heap.size < wr.heap.size ∧ wr.heap[w.heap.size]? = some (.cells #[.slice T n c, .slice L n c', .int .i64 bnd] 27 (0, 0))) (fun _ i _ => n - (intOf i).toNat)
  case atStart => exact ⟨0, Nat.zero_le _, rfl, by simpa [betw] using World.ownsRow_nil _ _ _ _, (Below.refl _ _).alloc (Nat.le_refl _) _, by simp, heap_alloc_new _ _⟩
  case round =>
    obtain ⟨k, hk, rfl, hown, hbel, hsz, hblk⟩ := hrel
    have d0 : wr.cell? ⟨w.heap.size, 0, none⟩ = some (.slice T n c) := by rw [cell_of_row _ _ _ _ _ _ hblk]; rfl
    have d1 : wr.cell? ⟨w.heap.size, 1, none⟩ = some (.slice L n c') := by rw [cell_of_row _ _ _ _ _ _ hblk]; rfl
    by_cases hlt : k < n
    · have hTr := hT.below hbel
      have hLr := SlR.below (S := fun t => t = 51) (sliceR.stays _ _ _ rfl) hL hbel
      clear hT hL
      obtain ⟨b, off, x, rfl, hb, hxk, c0⟩ := hTr.int hlt
      obtain ⟨b', off', l, rfl, hb', hlk, A', m, c2, c1, hmc, hsl⟩ := hLr.slice hlt
      have HT := Lib.hid (betw_take lo hi ts ls k x l hxk hlk)
      have hbl := betw_take_len lo hi ts ls k
      have hbl' := betw_take_len lo hi ts ls (k + 1)
      clear hxk hlk
      by_cases h1 : lo ≤ x
      · by_cases h2 : x < hi
        · have HX := Lib.hid (And.intro h1 h2)
          have hlm : (betw lo hi (ts.take k) (ls.take k)).length + m ≤ 1000000 := by
            rw [HT.out, if_pos HX.out, List.length_append, ← hsl.len] at hbl'
            omega
          clear hbl hbl'
          go_wp2_with (first
            | (at_builtin; refine wpList_append_src _ rfl _ _ 30 rfl w.heap.size 51 i0 _ 4 32 Try.underlying30 hi0 hz0 hz1 hz2 rfl (by decide) _ _ _ rfl hown A' m c2 (l.flatMap Eff.cells) rfl ?c1 hsl.nilA (hsl.news Eff.cells_len (by decide)) (flat_one Eff.cells_one l) ?c3 ?c4 ?c5 ?_)
            | go_in)
          case c1 => rw [flat_len Eff.cells_len, hsl.len]
          case c3 => unfold maxLen; omega
          case c4 => omega
          case c5 => omega
          · intro Av cv w2 hown2 hgrow
            have hbel2 := below_own hbel hown hgrow (Nat.le_refl _) (by omega)
            have hblk2 : w2.heap[w.heap.size]? = some (.cells #[.slice (some ⟨b, off, none⟩) n c, .slice (some ⟨b', off', none⟩) n c', .int .i64 bnd] 27 (0, 0)) := by
              rw [hgrow.block _ hsz ?_]
              · exact hblk
              · intro e
                rcases hown.2 with ⟨rfl, _⟩ | ⟨g, cap, cur, rfl, _, hg, _⟩
                · simp [Value.ownBlock] at e
                · simp only [Value.ownBlock, Option.some.injEq] at e
                  rw [← e, hblk] at hg
                  cases hg
            have hsz2 : w.heap.size < w2.heap.size := by have := hgrow.size; omega
            have HS := Lib.hid hsl.len
            clear hblk d0 d1 hown hgrow c0 c1 hTr hLr
            go_wp2
            go_roundw
            case rel => exact ⟨k + 1, by omega, by go_num, by rw [HT.out, if_pos HX.out]; simpa [HS.out] using hown2, hbel2, hsz2, hblk2⟩
            case measure => simp [intOf]; omega
        · have HX := Lib.hid h2
          go_wp2
          go_roundw
          case rel => exact ⟨k + 1, by omega, by go_num, by rw [HT.out, if_neg (by have := HX.out; omega)]; simpa using hown, hbel, hsz, hblk⟩
          case measure => simp [intOf]; omega
      · have HX := Lib.hid h1
        go_wp2
        go_roundw
        case rel => exact ⟨k + 1, by omega, by go_num, by rw [HT.out, if_neg (by have := HX.out; omega)]; simpa using hown, hbel, hsz, hblk⟩
        case measure => simp [intOf]; omega
    · go_wp2
      go_ret
      refine ⟨_, rfl, ?_, hbel⟩
      have h1 := HL.out; have h2 := HL'.out
      rw [List.take_of_length_le (by omega), List.take_of_length_le (by omega)] at hown
      exact hown
end Go.Proofs.Ytllcankinjomaaa
