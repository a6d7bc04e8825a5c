import Derived.Test.YtllcankinjomaaaA4
namespace Go.Proofs.Ytllcankinjomaaa
set_option linter.unusedSimpArgs false
set_option linter.unusedVariables false
open Go.RowKit

def around (n m : Int) : Int := (if n < 0 then -(n + 1) else n) % m
theorem around_range (n m : Int) (hm : 0 < m) : 0 ≤ around n m ∧ around n m < m := ⟨Int.emod_nonneg _ (by omega), Int.emod_lt_of_pos _ hm⟩
set_option maxHeartbeats 400000 in
theorem around_any (n m : Int) (w : World) (h0 : -9223372036854775808 ≤ n) (hn : n ≤ 9223372036854775807) (hm : 1 ≤ m) :
    Calls Try.prog 25 #[.int .i64 n, .int .i64 m] w fun e w' => e = .returned (.int .i64 (around n m)) ∧ w = w' := by
  by_cases h : n < 0
  · have h1 : 0 ≤ -(n + 1) := by omega
    have HF : Hid (around n m = -((n + 1).tmod m)) := by show _ = _; unfold around; rw [if_pos h, ← Int.tmod_eq_emod_of_nonneg h1, Int.neg_tmod]
    go_enter Try.func25, Try.ntmps25
    go_wp2
    go_ret
    exact ⟨ret_int HF.out.symm, rfl⟩
  · have HF : Hid (around n m = n % m) := by show _ = _; unfold around; rw [if_neg h]
    go_enter Try.func25, Try.ntmps25
    go_wp2
    go_ret
    exact ⟨ret_int HF.out.symm, rfl⟩

def mkEff (t n : Int) (i : Nat) : Eff := ⟨t, (i : Int) / 3, n / 7 ^ (i + 1) % 2, n / 7 ^ (i + 1) / 2 % 2⟩
def listTo (t n : Int) (k : Nat) : List Eff := (List.range k).map (mkEff t n)
def listOf (t n : Int) : List Eff := listTo t (around n 1000000) ((around n 1000000) % 7).toNat
theorem listTo_succ (t n : Int) (k : Nat) : listTo t n (k + 1) = listTo t n k ++ [mkEff t n k] := by simp [listTo, List.range_succ]
theorem listTo_len (t n : Int) (k : Nat) : (listTo t n k).length = k := by simp [listTo]
theorem listOf_len (t n : Int) : (listOf t n).length ≤ 6 := by
  have := around_range n 1000000 (by omega)
  rw [listOf, listTo_len]; omega

set_option maxHeartbeats 400000 in
theorem list_any (t n : Int) (w : World) (h0 : -9223372036854775808 ≤ n) (hn : n ≤ 9223372036854775807) :
    Calls Try.prog 24 #[.int .i64 t, .int .i64 n] w fun e w' => ∃ v, e = .returned v ∧ w'.ownsRow w.heap.size 51 4 v (listOf t n).length ((listOf t n).flatMap Eff.cells) ∧ Below w.heap.size w w' := by
  obtain ⟨i0, hi0, hz0, hz1, hz2⟩ := info_parts info51
  obtain ⟨hr0, hr1⟩ := around_range n 1000000 (by omega)
  have HF : Hid (listOf t n = listTo t (around n 1000000) ((around n 1000000) % 7).toNat) := rfl
  go_enter Try.func24, Try.ntmps24
  go_wp2_with (go_at_call 25; refine (around_any n 1000000 _ h0 hn (by omega)).mono ?_; rintro e w' ⟨rfl, rfl⟩)
  generalize hN : around n 1000000 = N at *
  clear hN
  go_loopw [1, 5, 7] (fun q v i wr => ∃ (k : Nat) (q' : Int), k ≤ 6 ∧ (k : Int) ≤ N % 7 ∧ i = .int .i64 k ∧ q = .int .i64 q' ∧ 0 ≤ q' ∧ q' < 1000000 ∧ Hid (q' = N / 7 ^ k) ∧ wr.ownsRow w.heap.size 51 4 v k ((listTo t N k).flatMap Eff.cells) ∧ Below w.heap.size w wr) (fun _ _ i _ => 7 - (intOf i).toNat)
  case atStart => exact ⟨0, N, by omega, by omega, rfl, rfl, by omega, by omega, by simp [Hid], World.ownsRow_nil _ _ _ _, Below.refl _ _⟩
  case round =>
    obtain ⟨k, q, hk6, hk, rfl, rfl, hq0, hq1, HQ, hown, hbel⟩ := hrel
    have hsz := hbel.size
    by_cases hlt : (k : Int) < N % 7
    · have HE : Hid (mkEff t N k = ⟨t, (k : Int) / 3, q / 7 % 2, q / 7 / 2 % 2⟩) := by
        show _ = _
        have h7 : N / 7 ^ (k + 1) = q / 7 := by rw [HQ.out, Int.pow_succ, Int.ediv_ediv_of_nonneg (by exact Int.pow_nonneg (by omega))]
        unfold mkEff; rw [h7]
      have HQ' : Hid (q / 7 = N / 7 ^ (k + 1)) := by show _ = _; rw [HQ.out, Int.pow_succ, Int.ediv_ediv_of_nonneg (by exact Int.pow_nonneg (by omega))]
      go_wp2_with (first
          | (at_builtin; refine wpList_append_own _ rfl _ _ 30 rfl w.heap.size 51 i0 _ 4 32 Try.underlying30 hi0 hz0 hz1 hz2 rfl (by decide) _ _ _ rfl (hown.alloc _) ⟨wr.heap.size, 0, none⟩ 1 1 [.int .i64 t, .int .i64 ((k : Int) / 3), .int .i64 (q / 7 % 2), .int .i64 (q / 7 / 2 % 2)] rfl rfl (cells_new _ _ _) ?c2 ?c3 ?c4 ?c5 ?_)
          | go_in)
      case c2 => intro u hu; simp at hu; rcases hu with rfl | rfl | rfl | rfl <;> rfl
      case c3 => unfold maxLen; omega
      case c4 => omega
      case c5 => simp; omega
      · intro v' w2 hown2 hgrow _
        have hbel2 := below_own (hbel.alloc hsz _) (hown.alloc _) hgrow (Nat.le_refl _) (by simp; omega)
        clear hown hgrow
        go_wp2
        go_roundw
        case rel => exact ⟨k + 1, q / 7, by omega, by omega, by go_num, rfl, by omega, by omega, HQ', by rw [listTo_succ, HE.out]; simpa [Eff.cells] using hown2, hbel2⟩
        case measure => simp [intOf]; omega
    · go_wp2
      go_ret
      refine ⟨_, rfl, ?_, hbel⟩
      have e : (N % 7).toNat = k := by omega
      rw [HF.out, e, listTo_len]
      exact hown

/-- a call of a board -/
structure CallM where
  conf : Bool
  tick : Int
  l : List Eff
def callR (w : World) (c : CallM) (cs : List Value) : Prop := ∃ A m cap, cs = [.bool c.conf, .int .i64 c.tick, .slice A m cap] ∧ m ≤ cap ∧ SlE w A m c.l
theorem callR.stays {S : TypeId → Prop} (hs : S 51) : Stays S callR := fun _ _ _ _ hk ⟨A, m, c, h1, h2, h3⟩ => ⟨A, m, c, h1, h2, h3.kt hk hs⟩
def callOf (x : Int) : CallM :=
  let n := around x 100000000
  if n % 10 = 0 then ⟨true, n / 10 % 8, []⟩ else ⟨false, n / 10 % 8, listOf (n / 10 % 8) (n / 80)⟩
def callsOf (l : List Int) : List CallM := (l.take 30).map callOf

theorem info32 : (Try.prog.info? 32).map (fun i => (i.zero, i.size, i.bytes)) = some (some (.agg #[.bool false, .int .i64 0, .slice none 0 0]), 3, 40) := by kernel_rfl

set_option maxHeartbeats 1000000 in
set_option maxHeartbeats 1000000 in
set_option maxRecDepth 100000 in
theorem calls_any (A : Option Addr) (n cap : Nat) (xs : List Int) (w : World) (hn : n ≤ 9223372036854775807) (hx : SlI 3 w A n xs) (hb64 : ∀ x ∈ xs, -9223372036854775808 ≤ x ∧ x ≤ 9223372036854775807) :
    Calls Try.prog 12 #[.slice A n cap] w fun e w' => ∃ v cells, e = .returned v ∧ w'.ownsRow w.heap.size 32 3 v (callsOf xs).length cells ∧ RowsR callR 3 w' (callsOf xs) cells ∧ Below w.heap.size w w' := by
  have HL := Lib.hid hx.len
  have HB := Lib.hid hb64
  clear hb64
  obtain ⟨i0, hi0, hz0, hz1, hz2⟩ := info_parts info32
  go_enter Try.func12, Try.ntmps12
  go_wp2
  go_loopw [3, 4] (fun v i wr => ∃ (k : Nat) (cells : List Value), k ≤ n ∧ k ≤ 30 ∧ i = .int .i64 k ∧ wr.ownsRow w.heap.size 32 3 v k cells ∧ RowsR callR 3 wr ((xs.take k).map callOf) cells ∧ Below w.heap.size w wr) (fun _ i _ => 31 - (intOf i).toNat)
  case atStart => exact ⟨0, [], Nat.zero_le _, by omega, rfl, World.ownsRow_nil _ _ _ _, RowsR.nil, Below.refl _ _⟩
  case round =>
    obtain ⟨k, cells, hk, hk30, rfl, hown, hrows, hbel⟩ := hrel
    have hsz := hbel.size
    by_cases hlt : k < n
    · by_cases hlt2 : k < 30
      · have hxr := hx.below hbel
        obtain ⟨b, off, x, rfl, hb, hxk, c0⟩ := hxr.int hlt
        obtain ⟨hx0, hx1⟩ := HB.out x (List.mem_of_getElem? hxk)
        have HT := Lib.hid (take_succ_some hxk)
        clear hxk hx
        obtain ⟨hr0, hr1⟩ := around_range x 100000000 (by omega)
        have HC : Hid (callOf x = if around x 100000000 % 10 = 0 then ⟨true, around x 100000000 / 10 % 8, []⟩ else ⟨false, around x 100000000 / 10 % 8, listOf (around x 100000000 / 10 % 8) (around x 100000000 / 80)⟩) := rfl
        have hc := fun W => around_any x 100000000 W hx0 hx1 (by omega)
        generalize hN : around x 100000000 = N at *
        clear hN
        have HCC := Lib.hid hc
        clear hc
        by_cases hz : N % 10 = 0
        · have hz' : (N % 10 == 0) = true := by simpa using hz
          rw [if_pos hz] at HC
          clear hz
          go_wp2_with (first
            | (go_at_call 25; refine (HCC.out _).mono ?_; rintro e w' ⟨rfl, rfl⟩)
            | (at_builtin; refine wpList_append_own _ rfl _ _ 28 rfl w.heap.size 32 i0 _ 3 40 Try.underlying28 hi0 hz0 hz1 hz2 rfl (by decide) _ _ _ rfl ((hown.alloc _).alloc _) ⟨wr.heap.size + 1, 0, none⟩ 1 1 [.bool true, .int .i64 (N / 10 % 8), .slice none 0 0] rfl rfl ?c1 ?c2 ?c3 ?c4 ?c5 ?_)
            | go_in)
          case c1 => simpa using cells_new (wr.alloc _) [.bool true, .int .i64 (N / 10 % 8), .slice none 0 0] 32
          case c2 => intro u hu; simp at hu; rcases hu with rfl | rfl | rfl <;> rfl
          case c3 => unfold maxLen; omega
          case c4 => omega
          case c5 => simp; omega
          · intro v' w2 hown2 hgrow _
            have hbel2 := below_own ((hbel.alloc hsz _).alloc (by simp; omega) _) ((hown.alloc _).alloc _) hgrow (Nat.le_refl _) (by simp; omega)
            have hk2 : KT (fun t => t = 51) wr w2 := kt_own (((KT.refl _ wr).alloc _).alloc _) ((hown.alloc _).alloc _) hgrow (by decide)
            have hrows2 := RowsR.snoc (RowsR.kt (callR.stays (S := fun t => t = 51) rfl) hrows hk2) (x := ⟨true, N / 10 % 8, []⟩) (cs := [.bool true, .int .i64 (N / 10 % 8), .slice none 0 0]) rfl ⟨none, 0, 0, rfl, Nat.le_refl _, Sl.nil⟩
            go_wp2
            go_roundw
            case rel => exact ⟨k + 1, _, by omega, by omega, by go_num, hown2, by rw [HT.out, List.map_append, List.map_singleton, HC.out]; exact hrows2, hbel2⟩
            case measure => simp [intOf]; omega
        · have hz' : (N % 10 == 0) = false := by simpa using hz
          rw [if_neg hz] at HC
          clear hz
          go_wp2_with (go_at_call 25; refine (HCC.out _).mono ?_; rintro e w' ⟨rfl, rfl⟩)
          refine (list_any _ _ _ (by omega) (by omega)).mono ?_
          rintro e w1 ⟨v, rfl, hv, hbv⟩
          obtain ⟨A', c', rfl, hsl, hmc⟩ := Sl.of_own Eff.cells_len hv rfl
          have hs1 : wr.heap.size + 1 ≤ w1.heap.size := by simpa using hbv.size
          have hown1 := own_below (hown.alloc (.cells #[.bool false, .int .i64 (N / 10 % 8), .slice none 0 0] 32)) hbv
          have hfar : ∀ g, Value.ownBlock u3 = some g → g ≠ wr.heap.size := fun g hg => by have := (hown.lt g hg).2; omega
          have hk1 : KT (fun t => t = 51) wr w1 := ((KT.refl _ wr).alloc _).trans (KT.below hbv)
          have hbw1 : Below w.heap.size w w1 := (hbel.alloc hsz _).trans (hbv.mono (by simp; omega))
          have d0 : w1.cell? ⟨wr.heap.size, 0, none⟩ = some (.bool false) := (hbv.cell (p := ⟨wr.heap.size, 0, none⟩) (by simp)).trans (by simp)
          have d1 : w1.cell? ⟨wr.heap.size, 1, none⟩ = some (.int .i64 (N / 10 % 8)) := (hbv.cell (p := ⟨wr.heap.size, 1, none⟩) (by simp)).trans (by simp)
          have d2 : w1.cell? ⟨wr.heap.size, 2, none⟩ = some (.slice none 0 0) := (hbv.cell (p := ⟨wr.heap.size, 2, none⟩) (by simp)).trans (by simp)
          have d3 : w1.frozen? ⟨wr.heap.size, 2, none⟩ = false := (hbv.frozen (p := ⟨wr.heap.size, 2, none⟩) (by simp)).trans (frozen_new _ _ _ _)
          have d4 : w1.heap[wr.heap.size]? = some (.cells #[.bool false, .int .i64 (N / 10 % 8), .slice none 0 0] 32 (0, 0)) := (hbv.block _ (by simp)).trans (heap_alloc_new _ _)
          have D4 := Lib.hid d4
          clear d4 hv hown hbv
          generalize hM : (listOf (N / 10 % 8) (N / 80)).length = M at *
          have hOwn : ((w1.setCell ⟨wr.heap.size, 2, none⟩ (.slice A' M c'))).ownsRow w.heap.size 32 3 u3 k cells := own_setCell_far hown1 hfar _
          have hbw2 : Below w.heap.size w (w1.setCell ⟨wr.heap.size, 2, none⟩ (.slice A' M c')) := hbw1.setCell (p := ⟨wr.heap.size, 2, none⟩) hsz _
          have hk2 : KT (fun t => t = 51) wr (w1.setCell ⟨wr.heap.size, 2, none⟩ (.slice A' M c')) := hk1.setCell fun cs t fz h => by
            have h' := D4.out; simp only at h; rw [h'] at h; cases h; decide
          have hk3 : KT (fun t => t = 51) w1 (w1.setCell ⟨wr.heap.size, 2, none⟩ (.slice A' M c')) := (KT.refl _ _).setCell fun cs t fz h => by
            have h' := D4.out; simp only at h; rw [h'] at h; cases h; decide
          clear hown1
          go_wp2_with (at_builtin; refine wpList_append_own _ rfl _ _ 28 rfl w.heap.size 32 i0 _ 3 40 Try.underlying28 hi0 hz0 hz1 hz2 rfl (by decide) _ _ _ rfl (hOwn.alloc _) ⟨w1.heap.size, 0, none⟩ 1 1 [.bool false, .int .i64 (N / 10 % 8), .slice A' M c'] rfl rfl ?c1b ?c2b ?c3b ?c4b ?c5b ?_)
          case c1b => simpa using cells_new (w1.setCell ⟨wr.heap.size, 2, none⟩ (.slice A' M c')) [.bool false, .int .i64 (N / 10 % 8), .slice A' M c'] 32
          case c2b => intro u hu; simp at hu; rcases hu with rfl | rfl | rfl <;> rfl
          case c3b => unfold maxLen; omega
          case c4b => omega
          case c5b => simp; omega
          · intro v' w2 hown2 hgrow _
            have hbel2 := below_own (hbw2.alloc (by simp; omega) _) (hOwn.alloc _) hgrow (Nat.le_refl _) (by simp; omega)
            have hk4 : KT (fun t => t = 51) wr w2 := kt_own (hk2.alloc _) (hOwn.alloc _) hgrow (by decide)
            have hk5 : KT (fun t => t = 51) w1 w2 := kt_own (hk3.alloc _) (hOwn.alloc _) hgrow (by decide)
            have hrows2 := RowsR.snoc (RowsR.kt (callR.stays (S := fun t => t = 51) rfl) hrows hk4) (x := ⟨false, N / 10 % 8, listOf (N / 10 % 8) (N / 80)⟩) (cs := [.bool false, .int .i64 (N / 10 % 8), .slice A' M c']) rfl ⟨_, _, _, rfl, hmc, hsl.kt hk5 rfl⟩
            go_wp2
            go_roundw
            case rel => exact ⟨k + 1, _, by omega, by omega, by go_num, hown2, by rw [HT.out, List.map_append, List.map_singleton, HC.out]; exact hrows2, hbel2⟩
            case measure => simp [intOf]; omega
      · go_wp2
        go_ret
        have e : (callsOf xs).length = k := by unfold callsOf; rw [List.length_map, List.length_take]; have := HL.out; omega
        refine ⟨_, cells, rfl, by rw [e]; exact hown, ?_, hbel⟩
        unfold callsOf
        obtain rfl : k = 30 := by omega
        exact hrows
    · go_wp2
      go_ret
      have hl := HL.out
      have e : (callsOf xs).length = k := by unfold callsOf; rw [List.length_map, List.length_take]; omega
      refine ⟨_, cells, rfl, by rw [e]; exact hown, ?_, hbel⟩
      unfold callsOf
      rw [List.take_of_length_le (by omega)] at hrows ⊢
      exact hrows
end Go.Proofs.Ytllcankinjomaaa
