import Derived.Test.YtllcankinjomaaaL9
namespace Go.Proofs.Ytllcankinjomaaa
set_option linter.unusedSimpArgs false
set_option linter.unusedVariables false
open Go.RowKit Go.MapKept Go.Maps

set_option maxHeartbeats 1000000 in
set_option maxHeartbeats 1000000 in
set_option maxRecDepth 100000 in
theorem callsT_any {tt : TypeId} (A : Option Addr) (n cap : Nat) (xs : List Int) (w : World) (hn : n ≤ 9223372036854775807) (hx : SlI tt w A n xs) (hb64 : ∀ x ∈ xs, -9223372036854775808 ≤ x ∧ x ≤ 9223372036854775807) :
    Calls Try.prog 12 #[.slice A n cap] w fun e w' => ∃ v cells, e = .returned v ∧ w'.ownsRow w.heap.size 32 3 v (callsOf xs).length cells ∧ RowsR callR 3 w' (callsOf xs) cells ∧ Below w.heap.size w w' := by
  have HL := Lib.hid hx.len
  have HB := Lib.hid hb64
  clear hb64
  obtain ⟨i0, hi0, hz0, hz1, hz2⟩ := info_parts info32
  go_enter Try.func12, Try.ntmps12
  go_wp2
  go_loopw [3, 4] (fun v i wr => ∃ (k : Nat) (cells : List Value), k ≤ n ∧ k ≤ 30 ∧ i = .int .i64 k ∧ wr.ownsRow w.heap.size 32 3 v k cells ∧ RowsR callR 3 wr ((xs.take k).map callOf) cells ∧ Below w.heap.size w wr) (fun _ i _ => 31 - (intOf i).toNat)
  case atStart => exact ⟨0, [], Nat.zero_le _, by omega, rfl, World.ownsRow_nil _ _ _ _, RowsR.nil, Below.refl _ _⟩
  case round =>
    obtain ⟨k, cells, hk, hk30, rfl, hown, hrows, hbel⟩ := hrel
    have hsz := hbel.size
    by_cases hlt : k < n
    · by_cases hlt2 : k < 30
      · have hxr := hx.below hbel
        obtain ⟨b, off, x, rfl, hb, hxk, c0⟩ := hxr.int hlt
        obtain ⟨hx0, hx1⟩ := HB.out x (List.mem_of_getElem? hxk)
        have HT := Lib.hid (take_succ_some hxk)
        clear hxk hx
        obtain ⟨hr0, hr1⟩ := around_range x 100000000 (by omega)
        have HC : Hid (callOf x = if around x 100000000 % 10 = 0 then ⟨true, around x 100000000 / 10 % 8, []⟩ else ⟨false, around x 100000000 / 10 % 8, listOf (around x 100000000 / 10 % 8) (around x 100000000 / 80)⟩) := rfl
        have hc := fun W => around_any x 100000000 W hx0 hx1 (by omega)
        generalize hN : around x 100000000 = N at *
        clear hN
        have HCC := Lib.hid hc
        clear hc
        by_cases hz : N % 10 = 0
        · have hz' : (N % 10 == 0) = true := by simpa using hz
          rw [if_pos hz] at HC
          clear hz
          go_wp2_with (first
            | (go_at_call 25; refine (HCC.out _).mono ?_; rintro e w' ⟨rfl, rfl⟩)
            | (at_builtin; refine wpList_append_own _ rfl _ _ 28 rfl w.heap.size 32 i0 _ 3 40 Try.underlying28 hi0 hz0 hz1 hz2 rfl (by decide) _ _ _ rfl ((hown.alloc _).alloc _) ⟨wr.heap.size + 1, 0, none⟩ 1 1 [.bool true, .int .i64 (N / 10 % 8), .slice none 0 0] rfl rfl ?c1 ?c2 ?c3 ?c4 ?c5 ?_)
            | go_in)
          case c1 => simpa using cells_new (wr.alloc _) [.bool true, .int .i64 (N / 10 % 8), .slice none 0 0] 32
          case c2 => intro u hu; simp at hu; rcases hu with rfl | rfl | rfl <;> rfl
          case c3 => unfold maxLen; omega
          case c4 => omega
          case c5 => simp; omega
          · intro v' w2 hown2 hgrow _
            have hbel2 := below_own ((hbel.alloc hsz _).alloc (by simp; omega) _) ((hown.alloc _).alloc _) hgrow (Nat.le_refl _) (by simp; omega)
            have hk2 : KT (fun t => t = 51) wr w2 := kt_own (((KT.refl _ wr).alloc _).alloc _) ((hown.alloc _).alloc _) hgrow (by decide)
            have hrows2 := RowsR.snoc (RowsR.kt (callR.stays (S := fun t => t = 51) rfl) hrows hk2) (x := ⟨true, N / 10 % 8, []⟩) (cs := [.bool true, .int .i64 (N / 10 % 8), .slice none 0 0]) rfl ⟨none, 0, 0, rfl, Nat.le_refl _, Sl.nil⟩
            go_wp2
            go_roundw
            case rel => exact ⟨k + 1, _, by omega, by omega, by go_num, hown2, by rw [HT.out, List.map_append, List.map_singleton, HC.out]; exact hrows2, hbel2⟩
            case measure => simp [intOf]; omega
        · have hz' : (N % 10 == 0) = false := by simpa using hz
          rw [if_neg hz] at HC
          clear hz
          go_wp2_with (go_at_call 25; refine (HCC.out _).mono ?_; rintro e w' ⟨rfl, rfl⟩)
          refine (list_any _ _ _ (by omega) (by omega)).mono ?_
          rintro e w1 ⟨v, rfl, hv, hbv⟩
          obtain ⟨A', c', rfl, hsl, hmc⟩ := Sl.of_own Eff.cells_len hv rfl
          have hs1 : wr.heap.size + 1 ≤ w1.heap.size := by simpa using hbv.size
          have hown1 := own_below (hown.alloc (.cells #[.bool false, .int .i64 (N / 10 % 8), .slice none 0 0] 32)) hbv
          have hfar : ∀ g, Value.ownBlock u3 = some g → g ≠ wr.heap.size := fun g hg => by have := (hown.lt g hg).2; omega
          have hk1 : KT (fun t => t = 51) wr w1 := ((KT.refl _ wr).alloc _).trans (KT.below hbv)
          have hbw1 : Below w.heap.size w w1 := (hbel.alloc hsz _).trans (hbv.mono (by simp; omega))
          have d0 : w1.cell? ⟨wr.heap.size, 0, none⟩ = some (.bool false) := (hbv.cell (p := ⟨wr.heap.size, 0, none⟩) (by simp)).trans (by simp)
          have d1 : w1.cell? ⟨wr.heap.size, 1, none⟩ = some (.int .i64 (N / 10 % 8)) := (hbv.cell (p := ⟨wr.heap.size, 1, none⟩) (by simp)).trans (by simp)
          have d2 : w1.cell? ⟨wr.heap.size, 2, none⟩ = some (.slice none 0 0) := (hbv.cell (p := ⟨wr.heap.size, 2, none⟩) (by simp)).trans (by simp)
          have d3 : w1.frozen? ⟨wr.heap.size, 2, none⟩ = false := (hbv.frozen (p := ⟨wr.heap.size, 2, none⟩) (by simp)).trans (frozen_new _ _ _ _)
          have d4 : w1.heap[wr.heap.size]? = some (.cells #[.bool false, .int .i64 (N / 10 % 8), .slice none 0 0] 32 (0, 0)) := (hbv.block _ (by simp)).trans (heap_alloc_new _ _)
          have D4 := Lib.hid d4
          clear d4 hv hown hbv
          generalize hM : (listOf (N / 10 % 8) (N / 80)).length = M at *
          have hOwn : ((w1.setCell ⟨wr.heap.size, 2, none⟩ (.slice A' M c'))).ownsRow w.heap.size 32 3 u3 k cells := own_setCell_far hown1 hfar _
          have hbw2 : Below w.heap.size w (w1.setCell ⟨wr.heap.size, 2, none⟩ (.slice A' M c')) := hbw1.setCell (p := ⟨wr.heap.size, 2, none⟩) hsz _
          have hk2 : KT (fun t => t = 51) wr (w1.setCell ⟨wr.heap.size, 2, none⟩ (.slice A' M c')) := hk1.setCell fun cs t fz h => by
            have h' := D4.out; simp only at h; rw [h'] at h; cases h; decide
          have hk3 : KT (fun t => t = 51) w1 (w1.setCell ⟨wr.heap.size, 2, none⟩ (.slice A' M c')) := (KT.refl _ _).setCell fun cs t fz h => by
            have h' := D4.out; simp only at h; rw [h'] at h; cases h; decide
          clear hown1
          go_wp2_with (at_builtin; refine wpList_append_own _ rfl _ _ 28 rfl w.heap.size 32 i0 _ 3 40 Try.underlying28 hi0 hz0 hz1 hz2 rfl (by decide) _ _ _ rfl (hOwn.alloc _) ⟨w1.heap.size, 0, none⟩ 1 1 [.bool false, .int .i64 (N / 10 % 8), .slice A' M c'] rfl rfl ?c1b ?c2b ?c3b ?c4b ?c5b ?_)
          case c1b => simpa using cells_new (w1.setCell ⟨wr.heap.size, 2, none⟩ (.slice A' M c')) [.bool false, .int .i64 (N / 10 % 8), .slice A' M c'] 32
          case c2b => intro u hu; simp at hu; rcases hu with rfl | rfl | rfl <;> rfl
          case c3b => unfold maxLen; omega
          case c4b => omega
          case c5b => simp; omega
          · intro v' w2 hown2 hgrow _
            have hbel2 := below_own (hbw2.alloc (by simp; omega) _) (hOwn.alloc _) hgrow (Nat.le_refl _) (by simp; omega)
            have hk4 : KT (fun t => t = 51) wr w2 := kt_own (hk2.alloc _) (hOwn.alloc _) hgrow (by decide)
            have hk5 : KT (fun t => t = 51) w1 w2 := kt_own (hk3.alloc _) (hOwn.alloc _) hgrow (by decide)
            have hrows2 := RowsR.snoc (RowsR.kt (callR.stays (S := fun t => t = 51) rfl) hrows hk4) (x := ⟨false, N / 10 % 8, listOf (N / 10 % 8) (N / 80)⟩) (cs := [.bool false, .int .i64 (N / 10 % 8), .slice A' M c']) rfl ⟨_, _, _, rfl, hmc, hsl.kt hk5 rfl⟩
            go_wp2
            go_roundw
            case rel => exact ⟨k + 1, _, by omega, by omega, by go_num, hown2, by rw [HT.out, List.map_append, List.map_singleton, HC.out]; exact hrows2, hbel2⟩
            case measure => simp [intOf]; omega
      · go_wp2
        go_ret
        have e : (callsOf xs).length = k := by unfold callsOf; rw [List.length_map, List.length_take]; have := HL.out; omega
        refine ⟨_, cells, rfl, by rw [e]; exact hown, ?_, hbel⟩
        unfold callsOf
        obtain rfl : k = 30 := by omega
        exact hrows
    · go_wp2
      go_ret
      have hl := HL.out
      have e : (callsOf xs).length = k := by unfold callsOf; rw [List.length_map, List.length_take]; omega
      refine ⟨_, cells, rfl, by rw [e]; exact hown, ?_, hbel⟩
      unfold callsOf
      rw [List.take_of_length_le (by omega)] at hrows ⊢
      exact hrows

abbrev SlC (w : World) (A : Option Addr) (n : Nat) (xs : List CallM) : Prop := SlR callR 3 32 w A n xs
theorem callsOf_len (l : List Int) : (callsOf l).length ≤ 30 := by unfold callsOf; rw [List.length_map, List.length_take]; omega
theorem calls_is {tt : TypeId} (A : Option Addr) (n cap : Nat) (xs : List Int) (w : World) (hn : n ≤ 9223372036854775807) (hx : SlI tt w A n xs) (hb64 : ∀ x ∈ xs, -9223372036854775808 ≤ x ∧ x ≤ 9223372036854775807)
    (cs : List CallM) (m : Nat) (hc : callsOf xs = cs) (hm : cs.length = m) :
    Calls Try.prog 12 #[.slice A n cap] w fun e w' => ∃ B c, e = .returned (.slice B m c) ∧ m ≤ c ∧ SlC w' B m cs ∧ Below w.heap.size w w' := by
  subst hc hm
  refine (callsT_any A n cap xs w hn hx hb64).mono ?_
  rintro e w' ⟨v, cells, rfl, h1, h2, h3⟩
  obtain ⟨B, c, rfl, hc, hs⟩ := SlR.of_own h1 h2 rfl
  exact ⟨B, c, rfl, hc, hs, h3⟩
theorem SlC.call {w : World} {A : Option Addr} {n : Nat} {xs : List CallM} (h : SlC w A n xs) {k : Nat} (hk : k < n) :
    ∃ b off, ∃ x : CallM, ∃ B m c, A = some ⟨b, off, none⟩ ∧ b < w.heap.size ∧ xs[k]? = some x ∧ m ≤ c ∧ SlE w B m x.l ∧
      w.cell? ⟨b, off + k * 3, none⟩ = some (.bool x.conf) ∧ w.cell? ⟨b, off + k * 3 + 1, none⟩ = some (.int .i64 x.tick) ∧ w.cell? ⟨b, off + k * 3 + 2, none⟩ = some (.slice B m c) := by
  obtain ⟨b, off, x, cs, rfl, hb, hx, -, ⟨B, m, c, rfl, hmc, hsl⟩, hc⟩ := h.get hk
  exact ⟨b, off, x, B, m, c, rfl, hb, hx, hmc, hsl, hc 0 _ rfl, hc 1 _ rfl, hc 2 _ rfl⟩
theorem callOf_ok (x : Int) : 0 ≤ (callOf x).tick ∧ (callOf x).tick < 8 ∧ (callOf x).l.length ≤ 6 ∧ ∀ e ∈ (callOf x).l, e.tick = (callOf x).tick := by
  unfold callOf
  simp only
  generalize around x 100000000 = n
  split
  · exact ⟨by simp only; omega, by simp only; omega, by simp, by simp⟩
  · exact ⟨by simp only; omega, by simp only; omega, listOf_len _ _, listOf_tick _ _⟩
theorem callsOf_ok (l : List Int) : ∀ c ∈ callsOf l, 0 ≤ c.tick ∧ c.tick < 8 ∧ c.l.length ≤ 6 ∧ ∀ e ∈ c.l, e.tick = c.tick := by
  intro c hc
  unfold callsOf at hc
  obtain ⟨x, _, rfl⟩ := List.mem_map.1 hc
  exact callOf_ok x
/-- the board's error for a call of ours: late, or none -/
theorem wrong_call {bnd : Int} {c : CallM} (h : 0 ≤ c.tick ∧ c.tick < 8 ∧ c.l.length ≤ 6 ∧ ∀ e ∈ c.l, e.tick = c.tick) : wrong bnd c.tick c.l = if c.tick < bnd then 20 else 0 := by
  split
  · unfold wrong; rw [if_neg (by omega), if_pos (by assumption)]
  · exact wrong_ok h.1 (by omega) (by omega) (by omega) h.2.2.2

/-- a board's state: ticks, effects, boundary -/
structure BS where
  ks : List Int
  cur : Int → List Eff
  bnd : Int
abbrev BdS (w : World) (p r : Nat) (s : BS) : Prop := Bd w p r s.ks s.cur s.bnd
def BS.init : BS := ⟨[], fun _ => [], 0⟩
/-- the state behind a Show and what it gives -/
def BS.show (s : BS) (t : Int) (l : List Eff) : BS := if wrong s.bnd t l = 0 then ⟨ksOf s.ks t l, curOf s.cur t l, s.bnd⟩ else s
def BS.s1 (s : BS) (t : Int) (l : List Eff) : List Eff := if wrong s.bnd t l = 0 then diff l (s.cur t) else []
def BS.s2 (s : BS) (t : Int) (l : List Eff) : List Eff := if wrong s.bnd t l = 0 then diff (s.cur t) l else []
def BS.conf (s : BS) (t : Int) : BS := ⟨confKs s.ks s.bnd t, confCur s.cur s.bnd t, max s.bnd t⟩
def BS.out (s : BS) (t : Int) : List Eff := confOut s.ks s.cur s.bnd t
def BS.call (s : BS) (c : CallM) : BS := if c.conf then s.conf c.tick else s.show c.tick c.l
def BS.calls (s : BS) (cs : List CallM) : BS := cs.foldl BS.call s
theorem BS.calls_snoc (s : BS) (cs : List CallM) (c : CallM) : s.calls (cs ++ [c]) = (s.calls cs).call c := by simp [BS.calls]

theorem show_all (w : World) (p r : Nat) (s : BS) (t : Int) (A : Option Addr) (m cap : Nat) (l : List Eff) (h : BdS w p r s) (hm : m ≤ 1000000) (hx : SlE w A m l) (err : Int) (herr : wrong s.bnd t l = err)
    (s1 s2 : List Eff) (n1 n2 : Nat) (s' : BS) (h1 : s.s1 t l = s1) (h2 : s.s2 t l = s2) (hn1 : s1.length = n1) (hn2 : s2.length = n2) (hs : s.show t l = s') :
    Calls Try.prog 17 #[.pointer (some ⟨p, 0, none⟩), .int .i64 t, .slice A m cap] w fun e w' => ∃ A1 c1 A2 c2, e = .returned (.tuple #[.slice A1 n1 c1, .slice A2 n2 c2, .int .i64 err]) ∧
      n1 ≤ c1 ∧ n2 ≤ c2 ∧ SlE w' A1 n1 s1 ∧ SlE w' A2 n2 s2 ∧ BdS w' p r s' ∧ Kept p r w w' := by
  subst herr
  by_cases he : wrong s.bnd t l = 0
  · unfold BS.s1 at h1; unfold BS.s2 at h2; unfold BS.show at hs
    rw [if_pos he] at h1 h2 hs
    rw [he]
    subst hs
    exact show_is w p r s.ks s.cur s.bnd t A m cap l h hx he s1 s2 n1 n2 _ _ h1 h2 hn1 hn2 rfl rfl
  · unfold BS.s1 at h1; unfold BS.s2 at h2; unfold BS.show at hs
    rw [if_neg he] at h1 h2 hs
    subst h1 h2 hs hn1 hn2
    refine (show_no w p r s.ks s.cur s.bnd t A m cap l h hm hx he).mono ?_
    rintro e w' ⟨rfl, hb⟩
    exact ⟨none, 0, none, 0, rfl, Nat.le_refl _, Nat.le_refl _, Sl.nil, Sl.nil, h.below hb, Kept.of_below hb⟩
theorem conf_all (w : World) (p r : Nat) (s : BS) (t : Int) (h : BdS w p r s) (out : List Eff) (n : Nat) (s' : BS) (ho : s.out t = out) (hn : out.length = n) (hs : s.conf t = s') :
    Calls Try.prog 15 #[.pointer (some ⟨p, 0, none⟩), .int .i64 t] w fun e w' => ∃ A c, e = .returned (.slice A n c) ∧ n ≤ c ∧ SlE w' A n out ∧ BdS w' p r s' ∧ Kept p r w w' := by
  subst hs
  exact confirm_is w p r s.ks s.cur s.bnd t h out n _ _ _ ho hn rfl rfl rfl
def BS.pend (s : BS) : List Eff := Ytllcankinjomaaa.pend s.ks s.cur
theorem pend_all (w : World) (p r : Nat) (s : BS) (h : BdS w p r s) (out : List Eff) (n : Nat) (ho : s.pend = out) (hn : out.length = n) :
    Calls Try.prog 21 #[.pointer (some ⟨p, 0, none⟩)] w fun e w' => ∃ A c, e = .returned (.slice A n c) ∧ n ≤ c ∧ SlE w' A n out ∧ Below w.heap.size w w' := pending_is w p r s.ks s.cur s.bnd h out n ho hn

/-- a slice of ints among the arguments -/
theorem SlI.of_cells {w : World} {b off cap : Nat} {zs : List Int} (hc : ∀ i, i < zs.length → w.cell? ⟨b, off + i, none⟩ = some (.int .i64 (zs.getD i 0))) : ∃ tt : TypeId, SlI tt w (some ⟨b, off, none⟩) zs.length zs := by
  cases zs with
  | nil => exact ⟨0, Sl.nil⟩
  | cons z zs =>
    have h0 := hc 0 (by simp)
    cases ho : w.heap[b]? with
    | none => simp [World.cell?, ho] at h0
    | some o =>
      cases o with
      | cells cs t fz =>
        refine ⟨t, rfl, fun _ => ⟨b, off, cs, fz, rfl, ho, fun i x hx j u hu => ?_⟩⟩
        have hi : i < (z :: zs).length := (List.getElem?_eq_some_iff.1 hx).1
        have h1 := hc i hi
        rw [cell_of_row w b _ cs t fz ho] at h1
        simp only [intc] at hu
        have hj : j = 0 := by
          rcases Nat.eq_zero_or_pos j with h | h
          · exact h
          · rw [List.getElem?_eq_none (by simp; omega)] at hu; cases hu
        subst hj
        simp at hu
        subst hu
        simp only [Nat.mul_one, Nat.add_zero]
        rw [h1, List.getD_eq_getElem?_getD, hx]; rfl
      | _ => simp [World.cell?, ho] at h0
end Go.Proofs.Ytllcankinjomaaa
