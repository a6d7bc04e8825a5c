/- Quiet: what the transitions make of it. -/
import Derived.Test.YtpkincoclhpcgaaGreatDoorGr
namespace Go.Proofs.YtpkincoclhpcgaaGreatDoor
set_option linter.unusedSimpArgs false
set_option linter.unusedVariables false
open Go.RowKit
/-- what the shapes' and positions' letters are -/
structure QD where
  x1 : Int
  x2 : Int
  x3 : Int
  A0 : Option Addr
  A1 : Option Addr
  A2 : Option Addr
  A3 : Option Addr
  c0 : Nat
  c1 : Nat
  c2 : Nat
  c3 : Nat
  b : Nat
  cap : Nat
  rest : List Bod
abbrev QD.sh (d : QD) : Nat → Shp
  | 0 => ⟨(shapeS 0).1, (shapeS 0).2, d.A0, d.c0⟩
  | 1 => ⟨(shapeS 2).1, (shapeS 2).2, d.A1, d.c1⟩
  | 2 => ⟨(shapeS 4).1, (shapeS 4).2, d.A2, d.c2⟩
  | _ => ⟨(shapeS 6).1, (shapeS 6).2, d.A3, d.c3⟩
abbrev QD.x (d : QD) : Nat → Int
  | 0 => -90000
  | 1 => d.x1
  | 2 => d.x2
  | _ => d.x3
abbrev QD.l (d : QD) : List Bod := [⟨d.sh 0, ⟨-90000, 0, 0, 0, 1024⟩, 0, 0⟩, ⟨d.sh 1, ⟨d.x1, 10, 0, 0, 1024⟩, 0, 0⟩, ⟨d.sh 2, ⟨d.x2, 20, 0, 0, 1024⟩, 0, 0⟩, ⟨d.sh 3, ⟨d.x3, 30, 0, 0, 1024⟩, 0, 0⟩]
abbrev QD.S (d : QD) (P : Int) : Setup := ⟨P, d.b, 0, 4, d.cap, d.cap, d.l ++ d.rest, ⟨-100000, -100000, 100000, 100000⟩, none, 0, 0, none, 0, 0, 0, ⟨0, 0⟩, 0, 0, 0, 2, 0⟩
abbrev QD.G (d : QD) (p : Nat) (v : Int) (c : Nat) : Gm := ⟨d.S p, none, 0, 0, -1, -1, -1, v, c, 0, p, p, p, List.replicate p dI⟩
def moveQ (t : Stp) (M : MemS) : MemS := if 0 ≤ t.j ∧ t.j < t.S.nb then (testM t M).set 3 (w64 (t.j + 1)) else moveA t ((M.set (bodyAt t.S t.i + 0) (M.get (bodyAt t.S t.i + 0))).set (bodyAt t.S t.i + 1) (M.get (bodyAt t.S t.i + 1)))
def trQ (g : Gm) (M : MemS) : MemS := if M.get 1 = 0 then inputM (g.step M) M else if M.get 1 = 1 then actM (g.step M) M else if M.get 1 = 2 then tickM (g.step M) M else if M.get 1 = 3 then forceM (g.step M) M else if M.get 1 = 4 then contactS (g.step M) M else if M.get 1 = 5 then moveQ (g.step M) M else if M.get 1 = 6 then hitM (g.step M) M else restM (g.step M) M
def runQ (g : Gm) : Nat → MemS → MemS
  | 0, M => M
  | n + 1, M => runQ g n (trQ g M)
def okQ (g : Gm) (M : MemS) : Bool := decide (0 ≤ M.get 1 ∧ M.get 1 ≤ 7) && decide (M.get 1 = 1 ∨ M.get 1 = 2 ∨ M.get 1 = 6 → M.get 3 = 0) && decide (M.get 1 = 4 → ¬ M.get 2 = M.get 3) && decide (M.get 1 = 5 → 0 ≤ M.get 2 ∧ M.get 2 < 4)
def goodQ (g : Gm) : Nat → MemS → Bool
  | 0, _ => false
  | n + 1, M => okQ g M && (if trE g M then n == 0 else goodQ g n (trQ g M))
def obsQ (g : Gm) (M : MemS) : List Int := [M.get (bodyAt g.S 0 + 0), M.get (bodyAt g.S 0 + 1), M.get (bodyAt g.S 0 + 2), M.get (bodyAt g.S 0 + 3), M.get (bodyAt g.S 1 + 0), M.get (bodyAt g.S 1 + 1), M.get (bodyAt g.S 1 + 2), M.get (bodyAt g.S 1 + 3), M.get (bodyAt g.S 2 + 0), M.get (bodyAt g.S 2 + 1), M.get (bodyAt g.S 2 + 2), M.get (bodyAt g.S 2 + 3), M.get (bodyAt g.S 3 + 0), M.get (bodyAt g.S 3 + 1), M.get (bodyAt g.S 3 + 2), M.get (bodyAt g.S 3 + 3)]
def obs0 (d : QD) : List Int := [-90000, 0, 0, 0, d.x1, 10, 0, 0, d.x2, 20, 0, 0, d.x3, 30, 0, 0]
def obsAll (g : Gm) : Nat → MemS → List (List Int)
  | 0, _ => []
  | n + 1, M => obsQ g M :: obsAll g n (trQ g M)
theorem q1_good (d : QD) (v : Int) (c : Nat) : goodQ (d.G 1 v c) 50 ⟨iniL (d.S 1) 4, [], 0⟩ = true := by kernel_rfl
theorem q2_good (d : QD) (v : Int) (c : Nat) : goodQ (d.G 2 v c) 52 ⟨iniL (d.S 2) 4, [], 0⟩ = true := by kernel_rfl
theorem q3_good (d : QD) (v : Int) (c : Nat) : goodQ (d.G 3 v c) 54 ⟨iniL (d.S 3) 4, [], 0⟩ = true := by kernel_rfl
theorem q1_obs (d : QD) (v : Int) (c : Nat) : obsAll (d.G 1 v c) 50 ⟨iniL (d.S 1) 4, [], 0⟩ = List.replicate 50 (obs0 d) := by kernel_rfl
theorem q2_obs (d : QD) (v : Int) (c : Nat) : obsAll (d.G 2 v c) 52 ⟨iniL (d.S 2) 4, [], 0⟩ = List.replicate 52 (obs0 d) := by kernel_rfl
theorem q3_obs (d : QD) (v : Int) (c : Nat) : obsAll (d.G 3 v c) 54 ⟨iniL (d.S 3) 4, [], 0⟩ = List.replicate 54 (obs0 d) := by kernel_rfl
def wasQ (d : QD) (p : Nat) (v : Int) : List Int := (((((((iniL (d.S p) 4).set 0 1).set 13 v).set (bodyAt (d.S p) 0 + 7).toNat 1).set (bodyAt (d.S p) 1 + 7).toNat 1).set (bodyAt (d.S p) 2 + 7).toNat 1).set (bodyAt (d.S p) 3 + 7).toNat 1)
theorem q1_end (d : QD) (v : Int) (c : Nat) : (runQ (d.G 1 v c) 50 ⟨iniL (d.S 1) 4, [], 0⟩).cs = wasQ d 1 v := by kernel_rfl
theorem q2_end (d : QD) (v : Int) (c : Nat) : (runQ (d.G 2 v c) 52 ⟨iniL (d.S 2) 4, [], 0⟩).cs = wasQ d 2 v := by kernel_rfl
theorem q3_end (d : QD) (v : Int) (c : Nat) : (runQ (d.G 3 v c) 54 ⟨iniL (d.S 3) 4, [], 0⟩).cs = wasQ d 3 v := by kernel_rfl
/-- the distances -/
structure QOk (d : QD) : Prop where
  a : -70000 ≤ d.x1 ∧ d.x1 + 20000 ≤ d.x2 ∧ d.x2 + 20000 ≤ d.x3 ∧ d.x3 ≤ 90000
theorem bfold_bd (pos : V2) (l : List V2) (hp : -100000 ≤ pos.x ∧ pos.x ≤ 100000) (hl : ∀ i, -1024 ≤ (l.getD i ⟨0, 0⟩).x ∧ (l.getD i ⟨0, 0⟩).x ≤ 1024) : ∀ k, pos.x - 1024 ≤ (bfold pos l k).x0 ∧ (bfold pos l k).x1 ≤ pos.x + 1024
  | 0 => by
    have h := hl 0
    simp only [bfold, vadd]
    rw [w64_id (by omega)]
    omega
  | k + 1 => by
    have h := hl (1 + k)
    have ih := bfold_bd pos l hp hl k
    have e : (vadd pos (l.getD (1 + k) ⟨0, 0⟩)).x = pos.x + (l.getD (1 + k) ⟨0, 0⟩).x := w64_id (by omega)
    simp only [bfold, bstep]
    constructor <;> split <;> omega
theorem sq_bd : ∀ i, -1024 ≤ ((shSq 512).getD i ⟨0, 0⟩).x ∧ ((shSq 512).getD i ⟨0, 0⟩).x ≤ 1024
  | 0 => by decide +kernel
  | 1 => by decide +kernel
  | 2 => by decide +kernel
  | 3 => by decide +kernel
  | i + 4 => by show -1024 ≤ (0 : Int) ∧ (0 : Int) ≤ 1024; decide
theorem bar_bd : ∀ i, -1024 ≤ ((shBar 512).getD i ⟨0, 0⟩).x ∧ ((shBar 512).getD i ⟨0, 0⟩).x ≤ 1024
  | 0 => by decide +kernel
  | 1 => by decide +kernel
  | 2 => by decide +kernel
  | 3 => by decide +kernel
  | i + 4 => by show -1024 ≤ (0 : Int) ∧ (0 : Int) ≤ 1024; decide
theorem s0 : shapeS 0 = (512, []) := by kernel_rfl
theorem s2 : shapeS 2 = (512, []) := by kernel_rfl
theorem s4 : shapeS 4 = (0, shSq 512) := by kernel_rfl
theorem s6 : shapeS 6 = (0, shBar 512) := by kernel_rfl
theorem qsh_bd (d : QD) (k : Nat) (hk : k < 4) (pos : V2) (hp : -100000 ≤ pos.x ∧ pos.x ≤ 100000) : pos.x - 1024 ≤ (bounds (d.sh k) pos).x0 ∧ (bounds (d.sh k) pos).x1 ≤ pos.x + 1024 := by
  have hk : k = 0 ∨ k = 1 ∨ k = 2 ∨ k = 3 := by omega
  rcases hk with rfl | rfl | rfl | rfl
  · simp only [QD.sh, s0, bounds, circ, if_true]
    rw [w64_id (by omega), w64_id (by omega)]; omega
  · simp only [QD.sh, s2, bounds, circ, if_true]
    rw [w64_id (by omega), w64_id (by omega)]; omega
  · simp only [QD.sh, s4, bounds, circ]
    rw [if_neg (by simp [shSq])]
    exact bfold_bd pos _ hp sq_bd _
  · simp only [QD.sh, s6, bounds, circ]
    rw [if_neg (by simp [shBar])]
    exact bfold_bd pos _ hp bar_bd _
abbrev QD.y (k : Nat) : Int := 10 * (k : Int)
theorem qsep {d : QD} (h : QOk d) (i j : Nat) (hi : i < 4) (hj : j < 4) (hij : i ≠ j) (y y' : Int) : ¬ ovl (bounds (d.sh i) ⟨d.x i, y⟩) (bounds (d.sh j) ⟨d.x j, y'⟩) := by
  have ha := h.a
  have hx : ∀ k, k < 4 → -100000 ≤ d.x k ∧ d.x k ≤ 100000 := by
    intro k hk
    have hk : k = 0 ∨ k = 1 ∨ k = 2 ∨ k = 3 := by omega
    rcases hk with rfl | rfl | rfl | rfl <;> simp only [QD.x] <;> omega
  have b1 := qsh_bd d i hi ⟨d.x i, y⟩ (hx i hi)
  have b2 := qsh_bd d j hj ⟨d.x j, y'⟩ (hx j hj)
  have hd : d.x i + 20000 ≤ d.x j ∨ d.x j + 20000 ≤ d.x i := by
    have hi : i = 0 ∨ i = 1 ∨ i = 2 ∨ i = 3 := by omega
    have hj : j = 0 ∨ j = 1 ∨ j = 2 ∨ j = 3 := by omega
    rcases hi with rfl | rfl | rfl | rfl <;> rcases hj with rfl | rfl | rfl | rfl <;> simp only [QD.x] <;> first | omega | exact absurd rfl hij
  rintro ⟨⟨o1, o2⟩, _⟩
  dsimp only at b1 b2
  omega
theorem w64_0 : w64 0 = 0 := by decide +kernel
theorem mulDiv0 (n c : Int) (hc : c = 8 ∨ c = 1024) : mulDivI 0 n c = 0 := by
  unfold mulDivI fdivI
  rw [Int.zero_mul, w64_0]
  rcases hc with rfl | rfl <;> decide +kernel
theorem after0 (pos : V2) (k : Int) (h : (-100000 ≤ pos.x ∧ pos.x ≤ 100000) ∧ -100000 ≤ pos.y ∧ pos.y ≤ 100000) : afterV pos ⟨0, 0⟩ k = pos := by
  unfold afterV vadd vmuldiv
  simp only [mulDiv0 _ _ (.inl rfl), Int.add_zero]
  rw [w64_id (by omega), w64_id (by omega)]
theorem obs_mot {d : QD} {p : Nat} {v : Int} {c : Nat} {M : MemS} (h : obsQ (d.G p v c) M = obs0 d) (k : Nat) (hk : k < 4) : motM (d.S p) M k = ⟨d.x k, 10 * (k : Int), 0, 0, 1024⟩ := by
  simp only [obsQ, obs0, List.cons.injEq, and_true] at h
  obtain ⟨h0, h1, h2, h3, h4, h5, h6, h7, h8, h9, h10, h11, h12, h13, h14, h15⟩ := h
  have hk : k = 0 ∨ k = 1 ∨ k = 2 ∨ k = 3 := by omega
  rcases hk with rfl | rfl | rfl | rfl
  · show (⟨M.get (bodyAt (d.S p) 0 + 0), M.get (bodyAt (d.S p) 0 + 1), M.get (bodyAt (d.S p) 0 + 2), M.get (bodyAt (d.S p) 0 + 3), 1024⟩ : Mot) = _
    rw [h0, h1, h2, h3]; rfl
  · show (⟨M.get (bodyAt (d.S p) 1 + 0), M.get (bodyAt (d.S p) 1 + 1), M.get (bodyAt (d.S p) 1 + 2), M.get (bodyAt (d.S p) 1 + 3), 1024⟩ : Mot) = _
    rw [h4, h5, h6, h7]; rfl
  · show (⟨M.get (bodyAt (d.S p) 2 + 0), M.get (bodyAt (d.S p) 2 + 1), M.get (bodyAt (d.S p) 2 + 2), M.get (bodyAt (d.S p) 2 + 3), 1024⟩ : Mot) = _
    rw [h8, h9, h10, h11]; rfl
  · show (⟨M.get (bodyAt (d.S p) 3 + 0), M.get (bodyAt (d.S p) 3 + 1), M.get (bodyAt (d.S p) 3 + 2), M.get (bodyAt (d.S p) 3 + 3), 1024⟩ : Mot) = _
    rw [h12, h13, h14, h15]; rfl
theorem qx_bd {d : QD} (h : QOk d) (k : Nat) (hk : k < 4) : -100000 ≤ d.x k ∧ d.x k ≤ 100000 := by
  have ha := h.a
  have hk : k = 0 ∨ k = 1 ∨ k = 2 ∨ k = 3 := by omega
  rcases hk with rfl | rfl | rfl | rfl <;> simp only [QD.x] <;> omega
theorem qbody (d : QD) (p : Nat) (k : Nat) (hk : k < 4) : ((d.S p).body k).sh = d.sh k ∧ ((d.S p).body k).mot.inv = 1024 := by
  have hk : k = 0 ∨ k = 1 ∨ k = 2 ∨ k = 3 := by omega
  rcases hk with rfl | rfl | rfl | rfl <;> exact ⟨rfl, rfl⟩
/-- one transition of a state in which all rest -/
theorem qstep {d : QD} (h : QOk d) {p : Nat} {v : Int} {c : Nat} {M : MemS} (ho : obsQ (d.G p v c) M = obs0 d) (hg : okQ (d.G p v c) M = true) : okT (d.G p v c) M ∧ trM (d.G p v c) M = trQ (d.G p v c) M := by
  simp only [okQ, Bool.and_eq_true, decide_eq_true_eq] at hg
  obtain ⟨⟨⟨g1, g2⟩, g3⟩, g4⟩ := hg
  refine ⟨⟨g1, fun e => ⟨g2 e, by show (-1 : Int) < 0; decide, by show (-1 : Int) < 0; decide, by show (-1 : Int) < 0; decide⟩, fun e a b => ?_, fun e a b cc k hk => ?_⟩, ?_⟩
  · have a' : 0 ≤ M.get 2 ∧ M.get 2 < 4 := a
    have b' : 0 ≤ M.get 3 ∧ M.get 3 < 4 := b
    have hne := g3 e
    obtain ⟨i, ei⟩ := Int.eq_ofNat_of_zero_le a'.1
    obtain ⟨j, ej⟩ := Int.eq_ofNat_of_zero_le b'.1
    show ¬ ovl (bounds ((d.S p).body (M.get 2).toNat).sh ⟨(motM (d.S p) M (M.get 2)).px, (motM (d.S p) M (M.get 2)).py⟩) (bounds ((d.S p).body (M.get 3).toNat).sh ⟨(motM (d.S p) M (M.get 3)).px, (motM (d.S p) M (M.get 3)).py⟩)
    rw [ei, ej]
    rw [obs_mot ho i (by omega), obs_mot ho j (by omega), Int.toNat_natCast, Int.toNat_natCast, (qbody d p i (by omega)).1, (qbody d p j (by omega)).1]
    exact qsep h i j (by omega) (by omega) (fun e => hne (by rw [ei, ej, e])) _ _
  · have a' : 0 ≤ M.get 2 ∧ M.get 2 < 4 := g4 e
    have b' : 0 ≤ M.get 3 ∧ M.get 3 < 4 := cc
    have hne : ¬ M.get 2 = M.get 3 := a
    obtain ⟨i, ei⟩ := Int.eq_ofNat_of_zero_le a'.1
    obtain ⟨j, ej⟩ := Int.eq_ofNat_of_zero_le b'.1
    show ¬ ovl (bounds ((d.S p).body (M.get 2).toNat).sh (afterV ⟨(motM (d.S p) M (M.get 2)).px, (motM (d.S p) M (M.get 2)).py⟩ ⟨(motM (d.S p) M (M.get 2)).vx, (motM (d.S p) M (M.get 2)).vy⟩ k)) (bounds ((d.S p).body (M.get 3).toNat).sh (afterV ⟨(motM (d.S p) M (M.get 3)).px, (motM (d.S p) M (M.get 3)).py⟩ ⟨0, 0⟩ k))
    rw [ei, ej]
    rw [obs_mot ho i (by omega), obs_mot ho j (by omega), Int.toNat_natCast, Int.toNat_natCast, (qbody d p i (by omega)).1, (qbody d p j (by omega)).1]
    have x1 := qx_bd h i (by omega)
    have x2 := qx_bd h j (by omega)
    rw [after0 _ _ ⟨x1, by show -100000 ≤ 10 * (i : Int) ∧ 10 * (i : Int) ≤ 100000; omega⟩, after0 _ _ ⟨x2, by show -100000 ≤ 10 * (j : Int) ∧ 10 * (j : Int) ≤ 100000; omega⟩]
    exact qsep h i j (by omega) (by omega) (fun e => hne (by rw [ei, ej, e])) _ _
  · by_cases e : M.get 1 = 5
    · have a' : 0 ≤ M.get 2 ∧ M.get 2 < 4 := g4 e
      obtain ⟨i, ei⟩ := Int.eq_ofNat_of_zero_le a'.1
      have hm : movP (d.S p) (M.get 2) := by
        rw [ei]
        refine ⟨⟨by omega, by show (i : Int) < 4; omega⟩, ?_⟩
        rw [Int.toNat_natCast, (qbody d p i (by omega)).2]; decide
      have hmo := obs_mot ho i (by omega)
      have x1 := qx_bd h i (by omega)
      have hp : travelP ((d.G p v c).step M) M = ⟨d.x i, 10 * (i : Int)⟩ := by
        show vadd ⟨(motM (d.S p) M (M.get 2)).px, (motM (d.S p) M (M.get 2)).py⟩ (vmuldiv ⟨(motM (d.S p) M (M.get 2)).vx, (motM (d.S p) M (M.get 2)).vy⟩ (travelF M) 1024) = _
        rw [ei, hmo]
        unfold vadd vmuldiv
        simp only [mulDiv0 _ _ (.inr rfl), Int.add_zero]
        rw [w64_id (by omega), w64_id (by omega)]
      have hc1 : clampI (d.x i) (-100000) 100000 = d.x i := by unfold clampI; rw [if_neg (by omega), if_neg (by omega)]
      have hc2 : clampI (10 * (i : Int)) (-100000) 100000 = 10 * (i : Int) := by unfold clampI; rw [if_neg (by omega), if_neg (by omega)]
      have g0 : M.get (bodyAt (d.S p) (M.get 2) + 0) = d.x i := by rw [ei]; exact congrArg Mot.px hmo
      have g1' : M.get (bodyAt (d.S p) (M.get 2) + 1) = 10 * (i : Int) := by rw [ei]; exact congrArg Mot.py hmo
      have ht : travelM ((d.G p v c).step M) M = (M.set (bodyAt (d.S p) (M.get 2) + 0) (d.x i)).set (bodyAt (d.S p) (M.get 2) + 1) (10 * (i : Int)) := by
        unfold travelM
        rw [hp]
        unfold placeM
        show (if clampI (10 * (i : Int)) (-100000) 100000 = 10 * (i : Int) then _ else _) = _
        rw [if_pos hc2]
        show (if clampI (d.x i) (-100000) 100000 = d.x i then _ else _ : MemS).set _ (clampI (10 * (i : Int)) (-100000) 100000) = _
        rw [if_pos hc1, hc2]
        show (M.set _ (clampI (d.x i) (-100000) 100000)).set _ _ = _
        rw [hc1]
      have hmv : moveM ((d.G p v c).step M) M = moveQ ((d.G p v c).step M) M := by
        unfold moveM moveQ
        rw [if_pos (show movP ((d.G p v c).step M).S ((d.G p v c).step M).i from hm), ht]
        show _ = (if _ then _ else moveA _ ((M.set (bodyAt (d.S p) (M.get 2) + 0) (M.get (bodyAt (d.S p) (M.get 2) + 0))).set (bodyAt (d.S p) (M.get 2) + 1) (M.get (bodyAt (d.S p) (M.get 2) + 1))))
        rw [g0, g1']
      simp only [trM, trQ, hmv]
    · simp only [trM, trQ, if_neg e]
theorem qrun {d : QD} (h : QOk d) {p : Nat} {v : Int} {c : Nat} : ∀ (n : Nat) (M : MemS), goodQ (d.G p v c) n M = true → obsAll (d.G p v c) n M = List.replicate n (obs0 d) → goodRun (d.G p v c) n M ∧ runM (d.G p v c) n M = runQ (d.G p v c) n M
  | 0, M, hg, ho => by simp [goodQ] at hg
  | n + 1, M, hg, ho => by
    simp only [goodQ, Bool.and_eq_true] at hg
    simp only [obsAll, List.replicate_succ, List.cons.injEq] at ho
    obtain ⟨k1, k2⟩ := qstep h ho.1 hg.1
    have hg2 := hg.2
    simp only [goodRun, runM, runQ]
    rw [k2]
    by_cases e : trE (d.G p v c) M = true
    · rw [if_pos e] at hg2
      have en : n = 0 := by simpa using hg2
      subst en
      exact ⟨⟨k1, .inl ⟨rfl, e⟩⟩, rfl⟩
    · rw [if_neg e] at hg2
      have ih := qrun h n _ hg2 ho.2
      exact ⟨⟨k1, .inr ⟨by simpa using e, ih.1⟩⟩, ih.2⟩
end Go.Proofs.YtpkincoclhpcgaaGreatDoor
