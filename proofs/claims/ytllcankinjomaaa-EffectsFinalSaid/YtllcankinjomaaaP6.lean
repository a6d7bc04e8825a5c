import Derived.Test.YtllcankinjomaaaP5
namespace Go.Proofs.Ytllcankinjomaaa
set_option linter.unusedSimpArgs false
set_option linter.unusedVariables false
open Go.RowKit Go.MapKept Go.Maps

theorem Bd.new (w : World) : Bd ((w.alloc (.map #[] 0)).alloc (.cells #[.map (some w.heap.size), .int .i64 0] 60)) (w.heap.size + 1) w.heap.size [] (fun _ => []) 0 := by
  refine ⟨?_, ⟨fun _ => none, (MapF.new _ w).alloc _, by simp⟩, fun _ _ => rfl, by simp, by simp⟩
  simpa using heap_alloc_new (w.alloc (.map #[] 0)) (.cells #[.map (some w.heap.size), .int .i64 0] 60)

theorem Sl.news_eff (w : World) (xs : List Eff) (cs : Array Value) (h : cs.toList = xs.flatMap Eff.cells) : SlE (w.alloc (.cells cs 51)) (some ⟨w.heap.size, 0, none⟩) xs.length xs := by
  refine ⟨rfl, fun _ => ⟨w.heap.size, 0, cs, (0, 0), rfl, heap_alloc_new _ _, fun i x hx j u hu => ?_⟩⟩
  have h1 := flatMap_get Eff.cells_len xs i x hx j u hu
  rw [← h] at h1
  simpa using h1

abbrev eA : Eff := ⟨3, 0, 1, 0⟩
abbrev eB : Eff := ⟨3, 0, 2, 0⟩
abbrev eC : Eff := ⟨3, 0, 3, 0⟩
structure LV (w w' : World) : Prop where
  a : w'.heap[w.heap.size]? = some (.cells #[.int .i64 3, .int .i64 0, .int .i64 1, .int .i64 0] 51 (0, 0))
  b : w'.heap[w.heap.size + 1]? = some (.cells #[.int .i64 3, .int .i64 0, .int .i64 2, .int .i64 0] 51 (0, 0))
  c : w'.heap[w.heap.size + 1 + 1]? = some (.cells #[.int .i64 3, .int .i64 0, .int .i64 3, .int .i64 0] 51 (0, 0))
  below : Below w.heap.size w w'
theorem LV.step {w w1 w2 : World} (h : LV w w1) (hk : KT (fun t => t = 51) w1 w2) (hb : Below w.heap.size w1 w2) : LV w w2 := ⟨hk _ _ _ _ rfl h.a, hk _ _ _ _ rfl h.b, hk _ _ _ _ rfl h.c, h.below.trans hb⟩
theorem LV.under {w w1 w2 : World} (h : LV w w1) (hb : Below w1.heap.size w1 w2) : LV w w2 := h.step (KT.below hb) (hb.mono h.below.size)
theorem LV.alloc {w w1 : World} (h : LV w w1) (o : Obj) : LV w (w1.alloc o) := h.step ((KT.refl _ _).alloc _) ((Below.refl _ _).alloc h.below.size _)

theorem new_bd (w : World) : Calls Try.prog 11 #[] w fun e w' => ∃ p r, e = .returned (.pointer (some ⟨p, 0, none⟩)) ∧ Bd w' p r [] (fun _ => []) 0 ∧ w.heap.size ≤ p ∧ w.heap.size ≤ r ∧ Below w.heap.size w w' := by
  refine (new_any w).mono ?_
  rintro e w' ⟨rfl, rfl⟩
  exact ⟨_, _, rfl, Bd.new w, by omega, by omega, ((Below.refl _ _).alloc (Nat.le_refl _) _).alloc (by simp) _⟩

theorem show_ok (w : World) (p r : Nat) (ks : List Int) (cur : Int → List Eff) (bnd t : Int) (A : Option Addr) (m cap : Nat) (l : List Eff) (h : Bd w p r ks cur bnd) (hx : SlE w A m l) (hw : wrong bnd t l = 0) :
    Calls Try.prog 17 #[.pointer (some ⟨p, 0, none⟩), .int .i64 t, .slice A m cap] w fun e w' => ∃ A1 c1 A2 c2, e = .returned (.tuple #[.slice A1 (diff l (cur t)).length c1, .slice A2 (diff (cur t) l).length c2, .int .i64 0]) ∧
      (diff l (cur t)).length ≤ c1 ∧ (diff (cur t) l).length ≤ c2 ∧ SlE w' A1 (diff l (cur t)).length (diff l (cur t)) ∧ SlE w' A2 (diff (cur t) l).length (diff (cur t) l) ∧ Bd w' p r (ksOf ks t l) (curOf cur t l) bnd ∧ Kept p r w w' := by
  refine (show_yes w p r ks cur bnd t A m cap l h hx hw).mono ?_
  rintro e w' ⟨v1, v2, wm, rfl, hs, hb, h1, h2⟩
  obtain ⟨A1, c1, rfl, hs1, hc1⟩ := Sl.of_own Eff.cells_len h1 rfl
  obtain ⟨A2, c2, rfl, hs2, hc2⟩ := Sl.of_own Eff.cells_len h2 rfl
  exact ⟨A1, c1, A2, c2, rfl, hc1, hc2, hs1, hs2, hs.bd.below hb, hs.kept.trans (Kept.of_below hb)⟩
/-- what Confirm gives -/
def confOut (ks : List Int) (cur : Int → List Eff) (bnd t : Int) : List Eff := if t ≤ bnd then [] else gath cur ((sortI ks).filter (fun x => decide (x < t)))
def confKs (ks : List Int) (bnd t : Int) : List Int := if t ≤ bnd then ks else ks.filter (fun x => decide (¬ x < t))
def confCur (cur : Int → List Eff) (bnd t : Int) : Int → List Eff := if t ≤ bnd then cur else fun k => if k < t then [] else cur k
theorem confirm_ok (w : World) (p r : Nat) (ks : List Int) (cur : Int → List Eff) (bnd t : Int) (h : Bd w p r ks cur bnd) :
    Calls Try.prog 15 #[.pointer (some ⟨p, 0, none⟩), .int .i64 t] w fun e w' => ∃ A c, e = .returned (.slice A (confOut ks cur bnd t).length c) ∧ (confOut ks cur bnd t).length ≤ c ∧ SlE w' A (confOut ks cur bnd t).length (confOut ks cur bnd t) ∧
      Bd w' p r (confKs ks bnd t) (confCur cur bnd t) (max bnd t) ∧ Kept p r w w' := by
  by_cases ht : t ≤ bnd
  · refine (confirm_nop w p r ks cur bnd t h ht).mono ?_
    rintro e w' ⟨rfl, rfl⟩
    rw [show confOut ks cur bnd t = [] from if_pos ht, show confKs ks bnd t = ks from if_pos ht, show confCur cur bnd t = cur from if_pos ht, show max bnd t = bnd by omega]
    exact ⟨none, 0, rfl, Nat.le_refl _, Sl.nil, h, Kept.refl _ _ _⟩
  · refine (confirm_prog w p r ks cur bnd t h (by omega)).mono ?_
    rintro e w' ⟨v, rfl, h1, h2, h3, -⟩
    obtain ⟨A1, c1, rfl, hs1, hc1⟩ := Sl.of_own Eff.cells_len h1 rfl
    rw [show confOut ks cur bnd t = _ from if_neg ht, show confKs ks bnd t = _ from if_neg ht, show confCur cur bnd t = _ from if_neg ht, show max bnd t = t by omega]
    exact ⟨A1, c1, rfl, hc1, hs1, h2, h3⟩
/-- what Pending gives -/
def pend (ks : List Int) (cur : Int → List Eff) : List Eff := gath cur (sortI ks)
theorem pending_ok (w : World) (p r : Nat) (ks : List Int) (cur : Int → List Eff) (bnd : Int) (h : Bd w p r ks cur bnd) :
    Calls Try.prog 21 #[.pointer (some ⟨p, 0, none⟩)] w fun e w' => ∃ A c, e = .returned (.slice A (pend ks cur).length c) ∧ (pend ks cur).length ≤ c ∧ SlE w' A (pend ks cur).length (pend ks cur) ∧ Below w.heap.size w w' := by
  refine (pending_prog w p r ks cur bnd h).mono ?_
  rintro e w' ⟨v, rfl, h1, h2⟩
  obtain ⟨A1, c1, rfl, hs1, hc1⟩ := Sl.of_own Eff.cells_len h1 rfl
  exact ⟨A1, c1, rfl, hc1, hs1, h2⟩
theorem sortI_small (ks : List Int) (cur : Int → List Eff) (h : ∀ k, (cur k).length ≤ 40) (hl : ks.length ≤ 6000) : (pend ks cur).length ≤ 240000 := by
  have := flat_small h (sortI ks)
  rw [sortI_len] at this
  unfold pend; omega

theorem show_is (w : World) (p r : Nat) (ks : List Int) (cur : Int → List Eff) (bnd t : Int) (A : Option Addr) (m cap : Nat) (l : List Eff) (h : Bd w p r ks cur bnd) (hx : SlE w A m l) (hw : wrong bnd t l = 0)
    (s1 s2 : List Eff) (n1 n2 : Nat) (ks' : List Int) (cur' : Int → List Eff) (h1 : diff l (cur t) = s1) (h2 : diff (cur t) l = s2) (hn1 : s1.length = n1) (hn2 : s2.length = n2) (hks : ksOf ks t l = ks') (hcur : curOf cur t l = cur') :
    Calls Try.prog 17 #[.pointer (some ⟨p, 0, none⟩), .int .i64 t, .slice A m cap] w fun e w' => ∃ A1 c1 A2 c2, e = .returned (.tuple #[.slice A1 n1 c1, .slice A2 n2 c2, .int .i64 0]) ∧
      n1 ≤ c1 ∧ n2 ≤ c2 ∧ SlE w' A1 n1 s1 ∧ SlE w' A2 n2 s2 ∧ Bd w' p r ks' cur' bnd ∧ Kept p r w w' := by
  subst h1 h2 hn1 hn2 hks hcur
  exact show_ok w p r ks cur bnd t A m cap l h hx hw
theorem confirm_is (w : World) (p r : Nat) (ks : List Int) (cur : Int → List Eff) (bnd t : Int) (h : Bd w p r ks cur bnd) (out : List Eff) (n : Nat) (ks' : List Int) (cur' : Int → List Eff) (bnd' : Int)
    (ho : confOut ks cur bnd t = out) (hn : out.length = n) (hks : confKs ks bnd t = ks') (hcur : confCur cur bnd t = cur') (hb : max bnd t = bnd') :
    Calls Try.prog 15 #[.pointer (some ⟨p, 0, none⟩), .int .i64 t] w fun e w' => ∃ A c, e = .returned (.slice A n c) ∧ n ≤ c ∧ SlE w' A n out ∧ Bd w' p r ks' cur' bnd' ∧ Kept p r w w' := by
  subst ho hn hks hcur hb
  exact confirm_ok w p r ks cur bnd t h
theorem pending_is (w : World) (p r : Nat) (ks : List Int) (cur : Int → List Eff) (bnd : Int) (h : Bd w p r ks cur bnd) (out : List Eff) (n : Nat) (ho : pend ks cur = out) (hn : out.length = n) :
    Calls Try.prog 21 #[.pointer (some ⟨p, 0, none⟩)] w fun e w' => ∃ A c, e = .returned (.slice A n c) ∧ n ≤ c ∧ SlE w' A n out ∧ Below w.heap.size w w' := by
  subst ho hn
  exact pending_ok w p r ks cur bnd h

theorem same_is (A B : Option Addr) (n m : Nat) (xs ys : List Eff) (cap cap' : Nat) (w : World) (hn : n ≤ 9223372036854775807) (hm : m ≤ 9223372036854775807) (hx : SlE w A n xs) (hy : SlE w B m ys) (b : Bool) (hb : decide (xs = ys) = b) :
    Calls Try.prog 14 #[.slice A n cap, .slice B m cap'] w fun e w' => e = .returned (.bool b) ∧ Below w.heap.size w w' := by
  subst hb
  exact same_any A B n m xs ys cap cap' w hn hm hx hy
theorem below_alloc (w : World) (o : Obj) : Below w.heap.size w (w.alloc o) := (Below.refl _ _).alloc (Nat.le_refl _) o

theorem LV.cells {w w' : World} (h : LV w w') :
    w'.cell? ⟨w.heap.size, 0, none⟩ = some (.int .i64 3) ∧ w'.cell? ⟨w.heap.size, 1, none⟩ = some (.int .i64 0) ∧ w'.cell? ⟨w.heap.size, 2, none⟩ = some (.int .i64 1) ∧ w'.cell? ⟨w.heap.size, 3, none⟩ = some (.int .i64 0) ∧
    w'.cell? ⟨w.heap.size + 1, 0, none⟩ = some (.int .i64 3) ∧ w'.cell? ⟨w.heap.size + 1, 1, none⟩ = some (.int .i64 0) ∧ w'.cell? ⟨w.heap.size + 1, 2, none⟩ = some (.int .i64 2) ∧ w'.cell? ⟨w.heap.size + 1, 3, none⟩ = some (.int .i64 0) ∧
    w'.cell? ⟨w.heap.size + 1 + 1, 0, none⟩ = some (.int .i64 3) ∧ w'.cell? ⟨w.heap.size + 1 + 1, 1, none⟩ = some (.int .i64 0) ∧ w'.cell? ⟨w.heap.size + 1 + 1, 2, none⟩ = some (.int .i64 3) ∧ w'.cell? ⟨w.heap.size + 1 + 1, 3, none⟩ = some (.int .i64 0) :=
  ⟨cell_blk h.a 0, cell_blk h.a 1, cell_blk h.a 2, cell_blk h.a 3, cell_blk h.b 0, cell_blk h.b 1, cell_blk h.b 2, cell_blk h.b 3, cell_blk h.c 0, cell_blk h.c 1, cell_blk h.c 2, cell_blk h.c 3⟩
theorem LV.start (w : World) : LV w (((w.alloc (.cells #[.int .i64 3, .int .i64 0, .int .i64 1, .int .i64 0] 51)).alloc (.cells #[.int .i64 3, .int .i64 0, .int .i64 2, .int .i64 0] 51)).alloc (.cells #[.int .i64 3, .int .i64 0, .int .i64 3, .int .i64 0] 51)) := by
  refine ⟨?_, ?_, ?_, (((Below.refl _ _).alloc (Nat.le_refl _) _).alloc (by simp) _).alloc (by simp; omega) _⟩
  · rw [Below.heap_alloc _ _ _ (by simp; omega), Below.heap_alloc _ _ _ (by simp), heap_alloc_new]
  · rw [Below.heap_alloc _ _ _ (by simp)]
    simpa using heap_alloc_new (w.alloc (.cells #[.int .i64 3, .int .i64 0, .int .i64 1, .int .i64 0] 51)) (.cells #[.int .i64 3, .int .i64 0, .int .i64 2, .int .i64 0] 51)
  · simpa using heap_alloc_new ((w.alloc (.cells #[.int .i64 3, .int .i64 0, .int .i64 1, .int .i64 0] 51)).alloc (.cells #[.int .i64 3, .int .i64 0, .int .i64 2, .int .i64 0] 51)) (.cells #[.int .i64 3, .int .i64 0, .int .i64 3, .int .i64 0] 51)

set_option maxHeartbeats 1000000 in
set_option maxRecDepth 100000 in
theorem lives_any (w : World) : Calls Try.prog 23 #[] w fun e w' => e = .returned (.bool true) ∧ Below w.heap.size w w' := by
  go_enter Try.func23, Try.ntmps23
  go_wp2_with fail
  have hL0 := LV.start w
  generalize ((w.alloc (.cells #[.int .i64 3, .int .i64 0, .int .i64 1, .int .i64 0] 51)).alloc (.cells #[.int .i64 3, .int .i64 0, .int .i64 2, .int .i64 0] 51)).alloc (.cells #[.int .i64 3, .int .i64 0, .int .i64 3, .int .i64 0] 51) = w0 at *
  refine (new_bd w0).mono ?_
  rintro e w1 ⟨p, r, rfl, hbd, hp, hr, hb1⟩
  have hL1 := hL0.under hb1
  obtain ⟨a0, a1, a2, a3, b0, b1, b2, b3, c0, c1, c2, c3⟩ := hL1.cells
  have hsz := hL0.below.size
  have hL1a := hL1.alloc (.cells #[.int .i64 3, .int .i64 0, .int .i64 1, .int .i64 0, .int .i64 3, .int .i64 0, .int .i64 1, .int .i64 0, .int .i64 3, .int .i64 0, .int .i64 2, .int .i64 0] 51)
  have hbda := hbd.below ((Below.refl _ _).alloc (Nat.le_refl _) (.cells #[.int .i64 3, .int .i64 0, .int .i64 1, .int .i64 0, .int .i64 3, .int .i64 0, .int .i64 1, .int .i64 0, .int .i64 3, .int .i64 0, .int .i64 2, .int .i64 0] 51))
  have hsla := Sl.news_eff w1 [eA, eA, eB] #[.int .i64 3, .int .i64 0, .int .i64 1, .int .i64 0, .int .i64 3, .int .i64 0, .int .i64 1, .int .i64 0, .int .i64 3, .int .i64 0, .int .i64 2, .int .i64 0] rfl
  go_wp2_with fail
  refine (show_is _ p r _ _ 0 3 _ 3 3 [eA, eA, eB] hbda hsla (by decide) [eA, eA, eB] [] 3 0 [3] _ (by decide) (by decide) rfl rfl (by decide) rfl).mono ?_
  rintro e w2 ⟨S1, k1, S2, k2, rfl, -, -, hS1, hS2, hbd2, hkp2⟩
  have hL2 := hL1a.step (hkp2.kt hbda (by decide)) (hkp2.below (by omega) (by omega) (by have := hb1.size; simp; omega))
  have hp2 : w.heap.size ≤ p := by omega
  have hr2 : w.heap.size ≤ r := by omega
  have hcur2 : curOf (fun _ => []) 3 [eA, eA, eB] 3 = [eA, eA, eB] := rfl
  generalize curOf (fun _ => []) 3 [eA, eA, eB] = cur2 at *
  have HC2 := Lib.hid hcur2
  clear hL1a hbda hsla hL0 hL1 hbd hp hr hb1 hsz a0 a1 a2 a3 b0 b1 b2 b3 c0 c1 c2 c3 hkp2 hS1 hS2 hcur2
  obtain ⟨a0, a1, a2, a3, b0, b1, b2, b3, c0, c1, c2, c3⟩ := hL2.cells
  have hsz := hL2.below.size
  go_wp2_with fail
  have hLa := hL2.alloc (.cells #[.int .i64 3, .int .i64 0, .int .i64 1, .int .i64 0, .int .i64 3, .int .i64 0, .int .i64 3, .int .i64 0] 51)
  have hba := hbd2.below ((Below.refl _ _).alloc (Nat.le_refl _) (.cells #[.int .i64 3, .int .i64 0, .int .i64 1, .int .i64 0, .int .i64 3, .int .i64 0, .int .i64 3, .int .i64 0] 51))
  have hsla := Sl.news_eff w2 [eA, eC] #[.int .i64 3, .int .i64 0, .int .i64 1, .int .i64 0, .int .i64 3, .int .i64 0, .int .i64 3, .int .i64 0] rfl
  refine (show_is _ p r _ _ 0 3 _ 2 2 [eA, eC] hba hsla (by decide) [eC] [eA, eB] 1 2 [3] _ (by rw [HC2.out]; decide) (by rw [HC2.out]; decide) rfl rfl (by decide) rfl).mono ?_
  rintro e w3 ⟨S3, k3, S4, k4, rfl, hk3, hk4, hS3, hS4, hbd3, hkp3⟩
  have hL3 := hLa.step (hkp3.kt hba (by decide)) (hkp3.below (by omega) (by omega) (by simp; omega))
  have hcur3 : curOf cur2 3 [eA, eC] 3 = [eA, eC] := rfl
  generalize curOf cur2 3 [eA, eC] = cur3 at *
  have HC3 := Lib.hid hcur3
  clear hLa hba hsla hL2 hbd2 hsz a0 a1 a2 a3 b0 b1 b2 b3 c0 c1 c2 c3 hkp3 hcur3 HC2
  have hsz := hL3.below.size
  go_upto_region 9 with fail
  obtain ⟨S, hS⟩ : ∃ S : World → Prop, ∀ w', S w' ↔ LV w w' := ⟨_, fun _ => Iff.rfl⟩
  have hS0 : S w3.drew := (hS _).2 (hL3.step (KT.refl _ _).drew (Below.refl _ _).drew)
  have hne : Nonempty (In S) := ⟨⟨_, hS0⟩⟩
  have HS := Lib.hid hS
  have hq := fun u : In S => ((hS _).1 u.is).cells
  have a0 := fun u => (hq u).1
  have a1 := fun u => (hq u).2.1
  have a2 := fun u => (hq u).2.2.1
  have a3 := fun u => (hq u).2.2.2.1
  have b0 := fun u => (hq u).2.2.2.2.1
  have b1 := fun u => (hq u).2.2.2.2.2.1
  have b2 := fun u => (hq u).2.2.2.2.2.2.1
  have b3 := fun u => (hq u).2.2.2.2.2.2.2.1
  have c0 := fun u => (hq u).2.2.2.2.2.2.2.2.1
  have c1 := fun u => (hq u).2.2.2.2.2.2.2.2.2.1
  have c2 := fun u => (hq u).2.2.2.2.2.2.2.2.2.2.1
  have c3 := fun u => (hq u).2.2.2.2.2.2.2.2.2.2.2
  clear hq hS
  refine wp_region_tree S (.chain [(0,0),(1,0),(2,0),(3,0),(4,0),(5,0),(6,0),(7,0),(8,0),(9,0),(10,0),(11,0),(12,0),(13,0),(14,0),(15,0),(16,0),(17,0),(18,0),(19,1),(20,1),(21,0),(22,0),(23,0),(24,0),(25,0),(26,1),(27,1),(28,0),(29,0),(30,0),(32,0),(33,0)] (.two 31 34 (.ofList [(34,1),(35,1),(36,0),(37,0)]) (.ofList [(31,1),(35,1),(36,0),(37,0)]))) [] (by kernel_rfl) (by kernel_rfl) hS0 ?_
  repeat (first | (refine pi_plain (by rfl) (by rfl) (fun K hK => ?_); go_big_quiet_op; refine hK _ ?_; clear hK K))
  have hbD : Below w3.heap.size w3 w3.drew := (Below.refl _ _).drew
  have hS3d := hS3.below hbD
  have hS4d := hS4.below hbD
  have hbdd := hbd3.below hbD
  have hLd := hL3.under hbD
  clear hS3 hS4 hbd3 hL3 hbD hS0 hsz
  generalize w3.drew = w4 at *
  refine pi_soft (by rfl) (by rfl) (fun K hK => ?_)
  go_big_op
  have hb1 := below_alloc w4 (.cells #[.int .i64 3, .int .i64 0, .int .i64 3, .int .i64 0] 51)
  have hsl := Sl.news_eff w4 [eC] #[.int .i64 3, .int .i64 0, .int .i64 3, .int .i64 0] rfl
  have hL5 := hLd.under hb1
  have hS3e := hS3d.below hb1
  have hS4e := hS4d.below hb1
  have hbde := hbdd.below hb1
  refine hK _ _ ((HS.out _).2 hL5) ?_
  clear hK K hb1 hS3d hS4d hbdd hLd
  refine pi_soft (by rfl) (by rfl) (fun K hK => ?_)
  go_big_op
  refine (same_is S3 (some ⟨w4.heap.size, 0, none⟩) 1 1 [eC] [eC] k3 1 _ (by omega) (by omega) hS3e hsl true (by decide)).mono ?_
  rintro e w5 ⟨rfl, hb5⟩
  have hL6 := hL5.under hb5
  have hS4f := hS4e.below hb5
  have hbdf := hbde.below hb5
  refine hK _ _ ((HS.out _).2 hL6) ?_
  clear hK K hb5 hS3e hS4e hbde hL5 hsl
  repeat (first | (refine pi_plain (by rfl) (by rfl) (fun K hK => ?_); go_big_quiet_op; refine hK _ ?_; clear hK K))
  refine pi_soft (by rfl) (by rfl) (fun K hK => ?_)
  go_big_op
  have hb1 := below_alloc w5 (.cells #[.int .i64 3, .int .i64 0, .int .i64 1, .int .i64 0, .int .i64 3, .int .i64 0, .int .i64 2, .int .i64 0] 51)
  have hsl := Sl.news_eff w5 [eA, eB] #[.int .i64 3, .int .i64 0, .int .i64 1, .int .i64 0, .int .i64 3, .int .i64 0, .int .i64 2, .int .i64 0] rfl
  have hL5 := hL6.under hb1
  have hS4e := hS4f.below hb1
  have hbde := hbdf.below hb1
  refine hK _ _ ((HS.out _).2 hL5) ?_
  clear hK K hb1 hS4f hbdf hL6
  refine pi_soft (by rfl) (by rfl) (fun K hK => ?_)
  go_big_op
  refine (same_is S4 (some ⟨w5.heap.size, 0, none⟩) 2 2 [eA, eB] [eA, eB] k4 2 _ (by omega) (by omega) hS4e hsl true (by decide)).mono ?_
  rintro e w6 ⟨rfl, hb5⟩
  have hL6 := hL5.under hb5
  have hbdf := hbde.below hb5
  refine hK _ _ ((HS.out _).2 hL6) ?_
  clear hK K hb5 hS4e hbde hL5 hsl
  repeat (first | (refine pi_plain (by rfl) (by rfl) (fun K hK => ?_); go_big_quiet_op; refine hK _ ?_; clear hK K))
  have hsz := hL6.below.size
  have hout : confOut [3] cur3 0 4 = [eA, eC] := by
    have := HC3.out
    simp [confOut, sortI, gath, this]
  have HO := Lib.hid hout
  clear hout
  refine pi_two (by rfl) (by rfl) (by rfl) (by rfl) (fun K hK => ?_) (fun K hK => ?_)
  · go_big_op
    refine (confirm_is _ p r _ _ _ _ hbdf [eA, eC] 2 _ _ _ HO.out rfl rfl rfl rfl).mono ?_
    rintro e w7 ⟨A7, k7, rfl, hk7, hs7, hbd7, hkp7⟩
    have hL7 := hL6.step (hkp7.kt hbdf (by decide)) (hkp7.below hp2 hr2 hsz)
    refine hK _ _ ((HS.out _).2 hL7) ?_
    clear hK K hbdf hL6 hbd7 hkp7
    refine pi_soft (by rfl) (by rfl) (fun K hK => ?_)
    go_big_op
    have hb1 := below_alloc w7 (.cells #[.int .i64 3, .int .i64 0, .int .i64 1, .int .i64 0, .int .i64 3, .int .i64 0, .int .i64 3, .int .i64 0] 51)
    have hsl := Sl.news_eff w7 [eA, eC] #[.int .i64 3, .int .i64 0, .int .i64 1, .int .i64 0, .int .i64 3, .int .i64 0, .int .i64 3, .int .i64 0] rfl
    have hL8 := hL7.under hb1
    have hs8 := hs7.below hb1
    refine hK _ _ ((HS.out _).2 hL8) ?_
    clear hK K hb1 hs7 hL7
    refine pi_soft (by rfl) (by rfl) (fun K hK => ?_)
    go_big_op
    refine (same_is A7 (some ⟨w7.heap.size, 0, none⟩) 2 2 [eA, eC] [eA, eC] k7 2 _ (by omega) (by omega) hs8 hsl true (by decide)).mono ?_
    rintro e w8 ⟨rfl, hb5⟩
    have hL9 := hL8.under hb5
    refine hK _ _ ((HS.out _).2 hL9) ?_
    clear hK K hb5 hL8 hs8 hsl
    repeat (first | (refine pi_plain (by rfl) (by rfl) (fun K hK => ?_); go_big_quiet_op; refine hK _ ?_; clear hK K))
    refine pi_nil ?_
    go_wp2
    go_ret
    exact ⟨rfl, hL9.below⟩
  · go_big_op
    have hb1 := below_alloc w6 (.cells #[.int .i64 3, .int .i64 0, .int .i64 1, .int .i64 0, .int .i64 3, .int .i64 0, .int .i64 3, .int .i64 0] 51)
    have hsl := Sl.news_eff w6 [eA, eC] #[.int .i64 3, .int .i64 0, .int .i64 1, .int .i64 0, .int .i64 3, .int .i64 0, .int .i64 3, .int .i64 0] rfl
    have hL7 := hL6.under hb1
    have hbdg := hbdf.below hb1
    have hsz7 := hL7.below.size
    refine hK _ _ ((HS.out _).2 hL7) ?_
    clear hK K hb1 hbdf hL6
    refine pi_soft (by rfl) (by rfl) (fun K hK => ?_)
    go_big_op
    refine (confirm_is _ p r _ _ _ _ hbdg [eA, eC] 2 _ _ _ HO.out rfl rfl rfl rfl).mono ?_
    rintro e w7 ⟨A7, k7, rfl, hk7, hs7, hbd7, hkp7⟩
    have hL8 := hL7.step (hkp7.kt hbdg (by decide)) (hkp7.below hp2 hr2 hsz7)
    have hsl8 := hsl.kt (hkp7.kt (S := fun t => t = 51) hbdg (by decide)) rfl
    refine hK _ _ ((HS.out _).2 hL8) ?_
    clear hK K hbdg hL7 hbd7 hkp7 hsl
    refine pi_soft (by rfl) (by rfl) (fun K hK => ?_)
    go_big_op
    refine (same_is A7 (some ⟨w6.heap.size, 0, none⟩) 2 2 [eA, eC] [eA, eC] k7 2 _ (by omega) (by omega) hs7 hsl8 true (by decide)).mono ?_
    rintro e w8 ⟨rfl, hb5⟩
    have hL9 := hL8.under hb5
    refine hK _ _ ((HS.out _).2 hL9) ?_
    clear hK K hb5 hL8 hs7 hsl8
    repeat (first | (refine pi_plain (by rfl) (by rfl) (fun K hK => ?_); go_big_quiet_op; refine hK _ ?_; clear hK K))
    refine pi_nil ?_
    go_wp2
    go_ret
    exact ⟨rfl, hL9.below⟩
end Go.Proofs.Ytllcankinjomaaa
