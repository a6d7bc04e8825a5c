import Derived.Test.YtllcankinjomaaaA
namespace Go.Proofs.Ytllcankinjomaaa
set_option linter.unusedSimpArgs false
set_option linter.unusedVariables false
open Go.RowKit
def sameSet (xs ys : List Eff) : Bool := decide (xs.length = ys.length) && xs.all fun x => decide (xs.count x = ys.count x)

set_option maxHeartbeats 400000 in
theorem sameSet_any (A B : Option Addr) (n m : Nat) (xs ys : List Eff) (cap cap' : Nat) (w : World) (hn : n ≤ 9223372036854775807) (hm : m ≤ 9223372036854775807) (hx : SlE w A n xs) (hy : SlE w B m ys) :
    Calls Try.prog 26 #[.slice A n cap, .slice B m cap'] w fun e w' => e = .returned (.bool (sameSet xs ys)) ∧ Below w.heap.size w w' := by
  have HL := Lib.hid hx.len
  have HL' := Lib.hid hy.len
  by_cases hnm : n = m
  · obtain rfl := hnm
    go_enter Try.func26, Try.ntmps26
    go_wp2
    go_loopw [5] (fun i wr => ∃ k : Nat, k ≤ n ∧ i = .int .i64 k ∧ Below w.heap.size w wr ∧ (xs.take k).all (fun x => decide (xs.count x = ys.count x)) = true) (fun i _ => n - (intOf i).toNat)
    case atStart => exact ⟨0, Nat.zero_le _, rfl, Below.refl _ _, by simp⟩
    case round =>
      obtain ⟨k, hk, rfl, hbel, hall⟩ := hrel
      have HA := Lib.hid hall
      clear hall
      by_cases hlt : k < n
      · have hxr := hx.below hbel
        have hyr := hy.below hbel
        clear hx hy
        obtain ⟨b, off, x, rfl, hb, hxk, c0, c1, c2, c3⟩ := hxr.eff hlt
        have hU := fun (u : Up wr) => Up.cell u
        have HT := Lib.hid (take_succ_some hxk)
        have HK := Lib.hid hxk
        clear hxk
        by_cases hc : ((xs.count x : Int) != (ys.count x : Int)) = true
        all_goals
          (try simp only [Bool.not_eq_true] at hc)
          go_wp2
          refine wp_region_up (by kernel_rfl) (by kernel_rfl) ?_
          repeat (go_big_quiet_step (first | exact Calls.up (count_any _ _ _ _ x _ hn (hyr.up _)) | exact Calls.up (count_any _ _ _ _ x _ hn (hxr.up _))))
          refine wpQuiet_nil ?_
          rintro w1 hb1
          go_wp2
        · go_ret
          refine ⟨?_, hbel.trans (hb1.mono hbel.size)⟩
          have : sameSet xs ys = false := by
            unfold sameSet
            rw [Bool.and_eq_false_iff]
            right
            rw [List.all_eq_false]
            exact ⟨x, List.mem_of_getElem? HK.out, by simp at hc ⊢; omega⟩
          rw [this]; rfl
        · go_roundw
          case rel => exact ⟨k + 1, by omega, by go_num, hbel.trans (hb1.mono hbel.size), by rw [HT.out, List.all_append, HA.out]; simp at hc ⊢; omega⟩
          case measure => simp [intOf]; omega
      · go_wp2
        go_ret
        refine ⟨?_, hbel⟩
        have : sameSet xs ys = true := by
          have h1 := HL.out; have h2 := HL'.out
          have h3 := HA.out
          rw [List.take_of_length_le (by omega)] at h3
          unfold sameSet
          rw [h3, ← h1, ← h2]; simp
        rw [this]; rfl
  · have HN := Lib.hid hnm
    have hne : ((n : Int) != (m : Int)) = true := by simp; omega
    clear hnm
    go_enter Try.func26, Try.ntmps26
    go_wp2
    go_ret
    refine ⟨?_, Below.refl _ _⟩
    have : sameSet xs ys = false := by
      have h1 := HL.out; have h2 := HL'.out; have h3 := HN.out
      unfold sameSet
      rw [Bool.and_eq_false_iff]
      left
      simp; omega
    rw [this]; rfl

/-- a - b, what stood before being pre -/
def diffGo (b : List Eff) : List Eff → List Eff → List Eff
  | _, [] => []
  | pre, x :: r => (if b.count x ≤ pre.count x then [x] else []) ++ diffGo b (pre ++ [x]) r
def diff (a b : List Eff) : List Eff := diffGo b [] a
theorem diffGo_snoc (b : List Eff) : ∀ (l pre : List Eff) (x : Eff), diffGo b pre (l ++ [x]) = diffGo b pre l ++ (if b.count x ≤ (pre ++ l).count x then [x] else [])
  | [], pre, x => by simp [diffGo]
  | y :: l, pre, x => by
    simp only [List.cons_append, diffGo, diffGo_snoc b l (pre ++ [y]) x, List.append_assoc, List.nil_append]
theorem diff_snoc (b l : List Eff) (x : Eff) : diff (l ++ [x]) b = diff l b ++ (if b.count x ≤ l.count x then [x] else []) := by
  unfold diff; rw [diffGo_snoc]; simp
theorem diffGo_len (b : List Eff) : ∀ (l pre : List Eff), (diffGo b pre l).length ≤ l.length
  | [], pre => by simp [diffGo]
  | y :: l, pre => by
    have := diffGo_len b l (pre ++ [y])
    simp only [diffGo, List.length_append, List.length_cons]
    split <;> simp <;> omega
theorem diff_len (a b : List Eff) : (diff a b).length ≤ a.length := diffGo_len b a []

theorem info51 : (Try.prog.info? 51).map (fun i => (i.zero, i.size, i.bytes)) = some (some (.agg #[.int .i64 0, .int .i64 0, .int .i64 0, .int .i64 0]), 4, 32) := by kernel_rfl

set_option maxHeartbeats 400000 in
theorem difference_any (A B : Option Addr) (n m : Nat) (xs ys : List Eff) (cap cap' : Nat) (w : World) (hn : n ≤ 1000000) (hm : m ≤ 1000000) (hcap : n ≤ cap) (hx : SlE w A n xs) (hy : SlE w B m ys) :
    Calls Try.prog 19 #[.slice A n cap, .slice B m cap'] w fun e w' => ∃ v, e = .returned v ∧ w'.ownsRow w.heap.size 51 4 v (diff xs ys).length ((diff xs ys).flatMap Eff.cells) ∧ Below w.heap.size w w' := by
  have HL := Lib.hid hx.len
  obtain ⟨i0, hi, hz0, hz1, hz2⟩ := info_parts info51
  go_enter Try.func19, Try.ntmps19
  go_wp2
  go_loopw [5, 6] (fun v i wr => ∃ k : Nat, k ≤ n ∧ i = .int .i64 k ∧ wr.ownsRow w.heap.size 51 4 v (diff (xs.take k) ys).length ((diff (xs.take k) ys).flatMap Eff.cells) ∧ Below w.heap.size w wr) (fun _ i _ => n - (intOf i).toNat)
  case atStart => exact ⟨0, Nat.zero_le _, rfl, World.ownsRow_nil _ _ _ _, Below.refl _ _⟩
  case round =>
    obtain ⟨k, hk, rfl, hown, hbel⟩ := hrel
    by_cases hlt : k < n
    · have hxr := hx.below hbel
      have hyr := hy.below hbel
      clear hx hy
      obtain ⟨b, off, x, rfl, hb, hxk, c0, c1, c2, c3⟩ := hxr.eff hlt
      have hU := fun (u : Up wr) => Up.cell u
      have HT := Lib.hid (take_succ_some hxk)
      have HK := Lib.hid hxk
      clear hxk
      have hdl := Nat.le_trans (diff_len (xs.take k) ys) (List.length_take_le _ _)
      have hpre : SlE wr (some ⟨b, off, none⟩) k (xs.take k) := hxr.take (by omega)
      by_cases hc : ys.count x ≤ (xs.take k).count x
      all_goals
        go_wp2
        refine wp_region_up (by kernel_rfl) (by kernel_rfl) ?_
        repeat (go_big_quiet_step (first | exact Calls.up (count_any _ _ _ _ x _ (by omega) (hyr.up _)) | exact Calls.up (count_any _ _ _ _ x _ (by omega) (hpre.up _))))
        refine wpQuiet_nil ?_
        rintro w1 hb1
        have hown1 := own_below hown hb1
        have hbel1 := hbel.trans (hb1.mono hbel.size)
        have hs1 := hbel1.size
        have c0' := (hb1.cell (p := ⟨b, off + k * 4, none⟩) hb).trans c0
        have c1' := (hb1.cell (p := ⟨b, off + k * 4 + 1, none⟩) hb).trans c1
        have c2' := (hb1.cell (p := ⟨b, off + k * 4 + 2, none⟩) hb).trans c2
        have c3' := (hb1.cell (p := ⟨b, off + k * 4 + 3, none⟩) hb).trans c3
        clear c0 c1 c2 c3 hown hU
      · go_wp2_with (first
          | (at_builtin; refine wpList_append_own _ rfl _ _ 30 rfl w.heap.size 51 i0 _ 4 32 Try.underlying30 hi hz0 hz1 hz2 rfl (by decide) _ _ _ rfl (hown1.alloc _) ⟨w1.heap.size, 0, none⟩ 1 1 x.cells rfl rfl (cells_new _ _ _) (Eff.cells_one x) ?c3 ?c4 ?c5 ?_)
          | go_in)
        case c3 => unfold maxLen; omega
        case c4 => omega
        case c5 => simp; omega
        · intro v' w2 hown2 hgrow _
          have hbel2 := below_own (hbel1.alloc hs1 _) (hown1.alloc _) hgrow (Nat.le_refl _) (by simp; omega)
          go_wp2
          go_roundw
          case rel => exact ⟨k + 1, by omega, by go_num, by rw [HT.out, diff_snoc, if_pos hc]; simpa using hown2, hbel2⟩
          case measure => simp [intOf]; omega
      · go_wp2
        go_roundw
        case rel => exact ⟨k + 1, by omega, by go_num, by rw [HT.out, diff_snoc, if_neg hc]; simpa using hown1, hbel1⟩
        case measure => simp [intOf]; omega
    · go_wp2
      go_ret
      refine ⟨_, rfl, ?_, hbel⟩
      rw [List.take_of_length_le (by have := HL.out; omega)] at hown
      exact hown
end Go.Proofs.Ytllcankinjomaaa
