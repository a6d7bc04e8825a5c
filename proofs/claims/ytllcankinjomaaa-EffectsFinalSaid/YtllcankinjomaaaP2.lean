import Derived.Test.YtllcankinjomaaaP1
import Derived.Deep.LoopGhost
import Derived.Deep.DeepCutAuto
namespace Go.Proofs.Ytllcankinjomaaa
set_option linter.unusedSimpArgs false
set_option linter.unusedVariables false
open Go.RowKit Go.MapKept

set_option maxHeartbeats 400000 in
theorem clone_any (A : Option Addr) (n c : Nat) (xs : List Eff) (w : World) (hn : n ≤ 1000000) (hx : SlE w A n xs) :
    Calls Try.prog 30 #[.slice A n c] w fun e w' => ∃ v, e = .returned v ∧ w'.ownsRow w.heap.size 51 4 v n (xs.flatMap Eff.cells) ∧ Below w.heap.size w w' := by
  have HL := Lib.hid hx.len
  obtain ⟨i0, hi0, hz0, hz1, hz2⟩ := info_parts info51
  cases A with
  | none =>
    obtain rfl := hx.nilA rfl
    have hq := fun wx => Lib.run_eql_slice_nil (P := Try.prog) wx 30 51 none 0 c 0 0 Try.underlying30
    go_enter Try.func30, Try.ntmps30
    go_wp2
    go_ret
    have hx0 : xs = [] := List.eq_nil_of_length_eq_zero HL.out.symm
    rw [hx0]
    exact ⟨_, rfl, World.ownsRow_nil _ _ _ _, Below.refl _ _⟩
  | some ad =>
    have hq := fun wx => Lib.run_eql_slice_nil (P := Try.prog) wx 30 51 (some ad) n c 0 0 Try.underlying30
    go_enter Try.func30, Try.ntmps30
    have hown : (w.alloc (.cells #[] 51)).ownsRow w.heap.size 51 4 (.slice (some ⟨w.heap.size, 0, none⟩) 0 0) 0 [] := World.ownsRow_made w #[] 0 (Nat.le_refl _) (Nat.zero_le _) rfl
    have hb0 := (Below.refl w.heap.size w).alloc (Nat.le_refl _) (.cells #[] 51)
    have hx0 := hx.below hb0
    go_wp2_with (at_builtin; refine wpList_append_src _ rfl _ _ 30 rfl w.heap.size 51 i0 _ 4 32 Try.underlying30 hi0 hz0 hz1 hz2 rfl (by decide) _ _ _ rfl hown (some ad) n c (xs.flatMap Eff.cells) rfl ?c1 hx0.nilA (hx0.news Eff.cells_len (by decide)) (flat_one Eff.cells_one xs) ?c3 ?c4 ?c5 ?_)
    case c1 => rw [flat_len Eff.cells_len, ← HL.out]
    case c3 => unfold maxLen; omega
    case c4 => omega
    case c5 => simp
    · intro Av cv w2 hown2 hgrow
      have hbel2 := below_own hb0 hown hgrow (Nat.le_refl _) (by simp)
      have HB := Lib.hid hown2
      clear hown2 hown hgrow hx0
      go_wp2
      go_ret
      exact ⟨_, rfl, HB.out, hbel2⟩

set_option maxHeartbeats 400000 in
theorem new_any (w : World) :
    Calls Try.prog 11 #[] w fun e w' => e = .returned (.pointer (some ⟨w.heap.size + 1, 0, none⟩)) ∧ w' = (w.alloc (.map #[] 0)).alloc (.cells #[.map (some w.heap.size), .int .i64 0] 60) := by
  have hmm := @run_makeMap Try.prog
  go_enter Try.func11, Try.ntmps11
  go_wp2
  go_ret
  exact ⟨by simp, rfl⟩

theorem diff_take_len (xs ys : List Eff) (k : Nat) : (diff (xs.take k) ys).length ≤ k := Nat.le_trans (diff_len _ _) (List.length_take_le _ _)

/-- what is left of the counts when l has been gone through -/
def left (ys l : List Eff) (x : Eff) : Nat := ys.count x - l.count x

set_option maxHeartbeats 1000000 in
set_option maxRecDepth 100000 in
theorem pdiff_any (A B : Option Addr) (n m : Nat) (xs ys : List Eff) (cap cap' : Nat) (w : World) (hn : n ≤ 1000000) (hm : m ≤ 1000000) (hx : SlE w A n xs) (hy : SlE w B m ys) :
    Calls Try.prog 31 #[.slice A n cap, .slice B m cap'] w fun e w' => ∃ v, e = .returned v ∧ w'.ownsRow w.heap.size 51 4 v (diff xs ys).length ((diff xs ys).flatMap Eff.cells) ∧ Below w.heap.size w w' := by
  have HL := Lib.hid hx.len
  have HL' := Lib.hid hy.len
  have hmm := fun k n wx => run_makeMap_res (P := Try.prog) Try.underlying69 k n wx
  have hzv : ∀ wx, (zeroValue 3).run Try.prog wx = .ok (.int .i64 0) wx := fun wx => by kernel_rfl
  obtain ⟨i0, hi0, hz0, hz1, hz2⟩ := info_parts info51
  go_enter Try.func31, Try.ntmps31
  go_wp2
  go_loopg [16] m (fun g i wr => ∃ (k : Nat) (ks : List Eff) (f : Eff → Option Value), k ≤ m ∧ g = m - k ∧ i = .int .i64 k ∧ MapF Eff.v wr w.heap.size ks f ∧ (∀ x, (f x).getD (.int .i64 0) = .int .i64 ((ys.take k).count x)) ∧ Below w.heap.size w wr ∧ w.heap.size < wr.heap.size)
  case atStart => exact ⟨0, [], fun _ => none, Nat.zero_le _, rfl, rfl, MapF.new _ _, fun x => by simp, (Below.refl _ _).alloc (Nat.le_refl _) _, by simp⟩
  case round =>
    obtain ⟨k, ks, f, hk, rfl, rfl, hmap, hf, hbel, hsz⟩ := hrel
    by_cases hlt : k < m
    · obtain ⟨b, off, x, rfl, hb, hxk, c0, c1, c2, c3⟩ := hy.eff hlt
      have hbr : b < wr.heap.size := by have := hbel.size; omega
      have c0' := (hbel.cell (p := ⟨b, off + k * 4, none⟩) hb).trans c0
      have c1' := (hbel.cell (p := ⟨b, off + k * 4 + 1, none⟩) hb).trans c1
      have c2' := (hbel.cell (p := ⟨b, off + k * 4 + 2, none⟩) hb).trans c2
      have c3' := (hbel.cell (p := ⟨b, off + k * 4 + 3, none⟩) hb).trans c3
      have HT := Lib.hid (take_succ_some hxk)
      have HF := Lib.hid hf
      clear c0 c1 c2 c3 hxk hf hx hy
      go_wp2
      have hmapW := hmap.alloc (.cells #[.int .i64 x.tick, .int .i64 x.index, .int .i64 x.kind, .int .i64 x.value] 51)
      have hbelW := hbel.alloc (by omega) (.cells #[.int .i64 x.tick, .int .i64 x.index, .int .i64 x.kind, .int .i64 x.value] 51)
      have hblk := heap_alloc_new wr (.cells #[.int .i64 x.tick, .int .i64 x.index, .int .i64 x.kind, .int .i64 x.value] 51)
      have hszW : wr.heap.size + 1 = (wr.alloc (.cells #[.int .i64 x.tick, .int .i64 x.index, .int .i64 x.kind, .int .i64 x.value] 51)).heap.size := by simp
      generalize hW : wr.alloc (.cells #[.int .i64 x.tick, .int .i64 x.index, .int .i64 x.kind, .int .i64 x.value] 51) = W at *
      generalize hB : wr.heap.size = Bx at *
      clear hW hmap
      have hcnt : (ys.take k).count x ≤ k := Nat.le_trans List.count_le_length (List.length_take_le _ _)
      have hFx := HF.out x
      generalize hc : (ys.take k).count x = c at *
      obtain ⟨S, hS⟩ : ∃ S : World → Prop, ∀ w', S w' ↔ ((Instr.lookup 69 (.map (some w.heap.size)) x.v false).run Try.prog w' = .ok (.int .i64 c) w' ∧ w'.heap[Bx]? = some (.cells #[.int .i64 x.tick, .int .i64 x.index, .int .i64 x.kind, .int .i64 x.value] 51 (0, 0))) := ⟨_, fun _ => Iff.rfl⟩
      have hS0 : S W.drew   := (hS _).2 ⟨by rw [hmapW.drew.lookup eff_key Try.underlying69 (hzv _), hFx], hblk⟩
      have q0 : ∀ u : In S, (Instr.lookup 69 (.map (some w.heap.size)) (.agg #[.int .i64 x.tick, .int .i64 x.index, .int .i64 x.kind, .int .i64 x.value]) false).run Try.prog u.v = .ok (.int .i64 c) u.v := fun u => ((hS _).1 u.is).1
      have q1 : ∀ u : In S, u.v.cell? ⟨Bx, 0, none⟩ = some (.int .i64 x.tick) := fun u => cell_blk ((hS _).1 u.is).2 0
      have q2 : ∀ u : In S, u.v.cell? ⟨Bx, 1, none⟩ = some (.int .i64 x.index) := fun u => cell_blk ((hS _).1 u.is).2 1
      have q3 : ∀ u : In S, u.v.cell? ⟨Bx, 2, none⟩ = some (.int .i64 x.kind) := fun u => cell_blk ((hS _).1 u.is).2 2
      have q4 : ∀ u : In S, u.v.cell? ⟨Bx, 3, none⟩ = some (.int .i64 x.value) := fun u => cell_blk ((hS _).1 u.is).2 3
      have hne : Nonempty (In S) := ⟨⟨_, hS0⟩⟩
      obtain ⟨w1, st, hr1, hm1, hst, hg1⟩ := hmapW.drew.entry eff_key Try.underlying69 hzv x
      rw [hFx] at hr1 hm1
      obtain ⟨w2, hr2, hm2, hg2⟩ := hm1.entryStore eff_key (t := 69) hst (.int .i64 ((c : Int) + 1))
      have hS1 : S w1 := by
        refine (hS _).2 ?_
        refine ⟨by rw [hm1.lookup eff_key Try.underlying69 (hzv _)]; simp [fput], ?_⟩
        rw [hg1.block Bx (by show Bx < W.heap.size; omega) (by intro e; cases e; omega)]; exact hblk
      have hbel2 : Below w.heap.size w w2 := ((hbelW.drew).grown hg1 (by show _ ≤ W.heap.size; omega) (by intro g e; cases e; exact Nat.le_refl _)).grown hg2 (by have := hg1.size; have e : W.drew.heap.size = W.heap.size := rfl; omega) (by intro g e; cases e; exact Nat.le_refl _)
      have hsz2 : w.heap.size < w2.heap.size := by have := hg1.size; have := hg2.size; have e : W.drew.heap.size = W.heap.size := rfl; omega
      have HS := Lib.hid hS
      have HSZ := Lib.hid hszW
      have HC := Lib.hid hc
      simp only [Eff.v, goInt] at hr1 hr2
      have HR1 := hr1
      clear hS hszW hc hFx hmapW
      refine wp_region_pi S [(0, 3), (1, 0), (2, 0), (3, 3), (4, 1), (5, 3), (6, 2)] [6] (by kernel_rfl) (by kernel_rfl) hS0 ?_
      repeat (first | (refine pi_plain (by rfl) (by rfl) (fun K hK => ?_); go_big_quiet_op; refine hK _ ?_; clear hK K) | (refine pi_free (by rfl) (by rfl) (fun K hK => ?_); go_big_quiet_op; refine hK _ ?_; clear hK K))
      refine pi_soft (by rfl) (by rfl) (fun K hK => ?_)
      go_big_op
      refine hK _ _ hS1 ?_
      clear hK K
      repeat (first | (refine pi_free (by rfl) (by rfl) (fun K hK => ?_); go_big_quiet_op; refine hK _ ?_; clear hK K))
      refine pi_hard (by rfl) (by rfl) (fun K hK => ?_)
      go_big_op
      refine hK _ _ ?_
      clear hK K
      refine pi_nil ?_
      go_wp2
      go_roundg (m - (k + 1))
      case measure => omega
      case rel =>
        refine ⟨k + 1, _, _, by omega, rfl, by go_num, hm2, fun y => ?_, hbel2, hsz2⟩
        rw [HT.out, List.count_append]
        unfold fput
        by_cases hyx : y = x
        · subst hyx; simp [HC.out]
        · have := HF.out y
          simp [hyx, this, List.count_cons, Ne.symm hyx]
    · go_wp2
      have hfl : ∀ x, (f x).getD (.int .i64 0) = .int .i64 (left ys (xs.take 0) x) := fun y => by
        have h1 := hf y
        rw [List.take_of_length_le (by have := HL'.out; omega)] at h1
        rw [h1]; simp [left]
      clear hf hy
      go_loopg [8, 29] n (fun g v i wr => ∃ (k : Nat) (ks : List Eff) (f : Eff → Option Value), k ≤ n ∧ g = n - k ∧ i = .int .i64 k ∧ MapF Eff.v wr w.heap.size ks f ∧ (∀ x, (f x).getD (.int .i64 0) = .int .i64 (left ys (xs.take k) x)) ∧ Below w.heap.size w wr ∧ w.heap.size < wr.heap.size ∧
        wr.ownsRow w.heap.size 51 4 v (diff (xs.take k) ys).length ((diff (xs.take k) ys).flatMap Eff.cells))
      case atStart => exact ⟨0, ks, f, Nat.zero_le _, rfl, rfl, hmap, hfl, hbel, hsz, World.ownsRow_nil _ _ _ _⟩
      case round =>
        clear hmap hfl hbel hsz hk ks f hlt
        obtain ⟨k, ks, f, hk, rfl, rfl, hmap, hf, hbel, hsz, hown⟩ := hrel
        by_cases hlt : k < n
        · obtain ⟨b, off, x, rfl, hb, hxk, c0, c1, c2, c3⟩ := hx.eff hlt
          have hbr : b < wr.heap.size := by have := hbel.size; omega
          have c0' := (hbel.cell (p := ⟨b, off + k * 4, none⟩) hb).trans c0
          have c1' := (hbel.cell (p := ⟨b, off + k * 4 + 1, none⟩) hb).trans c1
          have c2' := (hbel.cell (p := ⟨b, off + k * 4 + 2, none⟩) hb).trans c2
          have c3' := (hbel.cell (p := ⟨b, off + k * 4 + 3, none⟩) hb).trans c3
          have HT := Lib.hid (take_succ_some hxk)
          have HF := Lib.hid hf
          have hdl := diff_take_len xs ys k
          clear c0 c1 c2 c3 hxk hf hx
          go_upto_region 11 with fail
          have hownW := hown.alloc (.cells #[.int .i64 x.tick, .int .i64 x.index, .int .i64 x.kind, .int .i64 x.value] 51)
          have hmapW := hmap.alloc (.cells #[.int .i64 x.tick, .int .i64 x.index, .int .i64 x.kind, .int .i64 x.value] 51)
          have hbelW := hbel.alloc (by omega) (.cells #[.int .i64 x.tick, .int .i64 x.index, .int .i64 x.kind, .int .i64 x.value] 51)
          have hblk := heap_alloc_new wr (.cells #[.int .i64 x.tick, .int .i64 x.index, .int .i64 x.kind, .int .i64 x.value] 51)
          have hszW : wr.heap.size + 1 = (wr.alloc (.cells #[.int .i64 x.tick, .int .i64 x.index, .int .i64 x.kind, .int .i64 x.value] 51)).heap.size := by simp
          generalize hW : wr.alloc (.cells #[.int .i64 x.tick, .int .i64 x.index, .int .i64 x.kind, .int .i64 x.value] 51) = W at *
          generalize hB : wr.heap.size = Bx at *
          clear hW hmap
          have hFx := HF.out x
          have HC : Hid (left ys (xs.take k) x = ys.count x - (xs.take k).count x) := rfl
          have hcm : left ys (xs.take k) x ≤ ys.length := Nat.le_trans (Nat.sub_le _ _) List.count_le_length
          have hcm2 : left ys (xs.take k) x ≤ 1000000 := by have := HL'.out; omega
          generalize hc : left ys (xs.take k) x = c at *
          clear hown hcm hc
          have w0 : W.cell? ⟨Bx, 0, none⟩ = some (.int .i64 x.tick) := cell_blk hblk 0
          have w1 : W.cell? ⟨Bx, 1, none⟩ = some (.int .i64 x.index) := cell_blk hblk 1
          have w2 : W.cell? ⟨Bx, 2, none⟩ = some (.int .i64 x.kind) := cell_blk hblk 2
          have w3 : W.cell? ⟨Bx, 3, none⟩ = some (.int .i64 x.value) := cell_blk hblk 3
          have hLk : (Instr.lookup 69 (.map (some w.heap.size)) (.agg #[.int .i64 x.tick, .int .i64 x.index, .int .i64 x.kind, .int .i64 x.value]) false).run Try.prog W = .ok (.int .i64 c) W := by rw [hmapW.lookup eff_key Try.underlying69 (hzv _), hFx]
          by_cases hc0 : 0 < c
          · go_upto_region 12 with fail
            clear w0 w1 w2 w3
            obtain ⟨S, hS⟩ : ∃ S : World → Prop, ∀ w', S w' ↔ ((Instr.lookup 69 (.map (some w.heap.size)) x.v false).run Try.prog w' = .ok (.int .i64 c) w' ∧ w'.heap[Bx]? = some (.cells #[.int .i64 x.tick, .int .i64 x.index, .int .i64 x.kind, .int .i64 x.value] 51 (0, 0))) := ⟨_, fun _ => Iff.rfl⟩
            have hS0 : S W.drew   := (hS _).2 ⟨by rw [hmapW.drew.lookup eff_key Try.underlying69 (hzv _), hFx], hblk⟩
            have q0 : ∀ u : In S, (Instr.lookup 69 (.map (some w.heap.size)) (.agg #[.int .i64 x.tick, .int .i64 x.index, .int .i64 x.kind, .int .i64 x.value]) false).run Try.prog u.v = .ok (.int .i64 c) u.v := fun u => ((hS _).1 u.is).1
            have q1 : ∀ u : In S, u.v.cell? ⟨Bx, 0, none⟩ = some (.int .i64 x.tick) := fun u => cell_blk ((hS _).1 u.is).2 0
            have q2 : ∀ u : In S, u.v.cell? ⟨Bx, 1, none⟩ = some (.int .i64 x.index) := fun u => cell_blk ((hS _).1 u.is).2 1
            have q3 : ∀ u : In S, u.v.cell? ⟨Bx, 2, none⟩ = some (.int .i64 x.kind) := fun u => cell_blk ((hS _).1 u.is).2 2
            have q4 : ∀ u : In S, u.v.cell? ⟨Bx, 3, none⟩ = some (.int .i64 x.value) := fun u => cell_blk ((hS _).1 u.is).2 3
            have hne : Nonempty (In S) := ⟨⟨_, hS0⟩⟩
            obtain ⟨w1, st, hr1, hm1, hst, hg1⟩ := hmapW.drew.entry eff_key Try.underlying69 hzv x
            rw [hFx] at hr1 hm1
            obtain ⟨w2, hr2, hm2, hg2⟩ := hm1.entryStore eff_key (t := 69) hst (.int .i64 ((c : Int) - 1))
            have hS1 : S w1 := by
              refine (hS _).2 ?_
              refine ⟨by rw [hm1.lookup eff_key Try.underlying69 (hzv _)]; simp [fput], ?_⟩
              rw [hg1.block Bx (by show Bx < W.heap.size; omega) (by intro e; cases e; omega)]; exact hblk
            have hbel2 : Below w.heap.size w w2 := ((hbelW.drew).grown hg1 (by show _ ≤ W.heap.size; omega) (by intro g e; cases e; exact Nat.le_refl _)).grown hg2 (by have := hg1.size; have e : W.drew.heap.size = W.heap.size := rfl; omega) (by intro g e; cases e; exact Nat.le_refl _)
            have hsz2 : w.heap.size < w2.heap.size := by have := hg1.size; have := hg2.size; have e : W.drew.heap.size = W.heap.size := rfl; omega
            have HS := Lib.hid hS
            have HSZ := Lib.hid hszW
            simp only [Eff.v, goInt] at hr1 hr2
            have HR1 := hr1
            have hmapX := hmapW
            clear hS hszW hFx hmapW hLk
            refine wp_region_pi S [(0, 3), (1, 0), (2, 0), (3, 3), (4, 1), (5, 3), (6, 2)] [6] (by kernel_rfl) (by kernel_rfl) hS0 ?_
            repeat (first | (refine pi_plain (by rfl) (by rfl) (fun K hK => ?_); go_big_quiet_op; refine hK _ ?_; clear hK K) | (refine pi_free (by rfl) (by rfl) (fun K hK => ?_); go_big_quiet_op; refine hK _ ?_; clear hK K))
            refine pi_soft (by rfl) (by rfl) (fun K hK => ?_)
            go_big_op
            refine hK _ _ hS1 ?_
            clear hK K
            repeat (first | (refine pi_free (by rfl) (by rfl) (fun K hK => ?_); go_big_quiet_op; refine hK _ ?_; clear hK K))
            refine pi_hard (by rfl) (by rfl) (fun K hK => ?_)
            go_big_op
            refine hK _ _ ?_
            clear hK K
            refine pi_nil ?_
            have hkt : KT (fun t => t = 51) W.drew w2 := ((KT.refl _ _).grown hg1 (fun g e cs t fz h _ => by cases e; obtain ⟨es, cl, h', _⟩ := hm1; have h3 := MapF.drew hmapX; obtain ⟨es2, cl2, h4, _⟩ := h3; rw [h4] at h; cases h)).grown hg2 (fun g e cs t fz h _ => by cases e; obtain ⟨es, cl, h', _⟩ := hm1; rw [h'] at h; cases h)
            have hown2 : w2.ownsRow w.heap.size 51 4 u8 (diff (xs.take k) ys).length ((diff (xs.take k) ys).flatMap Eff.cells) := own_kt (hownW.drew) hkt rfl
            clear hownW hkt
            go_wp2
            go_roundg (n - (k + 1))
            case measure => omega
            case rel =>
              refine ⟨k + 1, _, _, by omega, rfl, by go_num, hm2, fun y => ?_, hbel2, hsz2, ?_⟩
              · rw [HT.out]
                have h1 := HC.out
                unfold fput left
                rw [List.count_append]
                by_cases hyx : y = x
                · subst hyx; simp; omega
                · have := HF.out y
                  unfold left at this
                  simp [hyx, this, List.count_cons, Ne.symm hyx]
              · rw [HT.out, diff_snoc, if_neg (by have := HC.out; omega), List.append_nil]
                exact hown2
          · have hcz : c = 0 := by omega
            subst hcz
            have hLk0 : (Instr.lookup 69 (.map (some w.heap.size)) (.agg #[.int .i64 x.tick, .int .i64 x.index, .int .i64 x.kind, .int .i64 x.value]) false).run Try.prog W = .ok (.int .i64 0) W := hLk
            clear hLk
            go_wp2_with (at_builtin; refine wpList_append_src _ rfl _ _ 30 rfl w.heap.size 51 i0 _ 4 32 Try.underlying30 hi0 hz0 hz1 hz2 rfl (by decide) _ _ _ rfl (hownW.alloc _) (some ⟨W.heap.size, 0, none⟩) 1 1 x.cells rfl rfl ?c0 ?c1 (Eff.cells_one x) ?c3 ?c4 ?c5 ?_)
            case c0 => intro h; cases h
            case c1 => intro ad had _; cases had; exact cells_new W x.cells 51
            case c3 => unfold maxLen; omega
            case c4 => omega
            case c5 => simp; omega
            · intro Av cv w5 hown5 hgrow
              have hbel5 := below_own (hbelW.alloc (by omega) _) (hownW.alloc _) hgrow (Nat.le_refl _) (by simp; omega)
              have hmap5 := (hmapW.alloc (.cells x.cells.toArray 51)).grown hgrow (own_ne_map hownW hmapW)
              have hsz5 : w.heap.size < w5.heap.size := by have := hgrow.size; simp at this; omega
              clear hownW hgrow hmapW hLk0
              go_wp2
              go_roundg (n - (k + 1))
              case measure => omega
              case rel =>
                refine ⟨k + 1, _, _, by omega, rfl, by go_num, hmap5, fun y => ?_, hbel5, hsz5, ?_⟩
                · rw [HT.out]
                  have h1 := HC.out
                  have := HF.out y
                  rw [this]
                  unfold left
                  rw [List.count_append]
                  by_cases hyx : y = x
                  · subst hyx; simp; omega
                  · simp [List.count_cons, Ne.symm hyx]
                · rw [HT.out, diff_snoc, if_pos (by have := HC.out; omega)]
                  simpa using hown5
        · go_wp2
          go_ret
          refine ⟨_, rfl, ?_, hbel⟩
          rw [List.take_of_length_le (by have := HL.out; omega)] at hown
          exact hown
end Go.Proofs.Ytllcankinjomaaa
