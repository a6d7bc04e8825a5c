/- Single: what the transitions make of one body. -/
import Derived.Test.YtpkincoclhpcgaaGreatDoorHe
namespace Go.Proofs.YtpkincoclhpcgaaGreatDoor
set_option linter.unusedSimpArgs false
set_option linter.unusedVariables false
open Go.RowKit
abbrev sS (S : Setup) : Setup := { S with players := 1, nb := 1 }
abbrev sG (S : Setup) (c cap : Nat) (ins : List Inp) : Gm := ⟨sS S, none, 0, 0, -1, -1, -1, 0, c, 0, 1, cap, cap, ins⟩
def placeB (b : Bool) (t : Stp) (c sp pos lo hi : Int) (M : MemS) : MemS := match b with
  | true => M.set c (clampI pos lo hi)
  | false => (M.set c (clampI pos lo hi)).set sp (w64 (0 - mulI ((M.set c (clampI pos lo hi)).get sp) t.S.rest))
theorem placeB_eq (t : Stp) (c sp pos lo hi : Int) (M : MemS) : placeM t c sp pos lo hi M = placeB (decide (clampI pos lo hi = pos)) t c sp pos lo hi M := by
  unfold placeM
  by_cases h : clampI pos lo hi = pos
  · rw [if_pos h, decide_eq_true h]; rfl
  · rw [if_neg h, decide_eq_false h]; rfl
def travelB (bx bz : Bool) (t : Stp) (M : MemS) : MemS := placeB bz t (bodyAt t.S t.i + 1) (bodyAt t.S t.i + 3) (travelP t M).y t.S.box.y0 t.S.box.y1 (placeB bx t (bodyAt t.S t.i + 0) (bodyAt t.S t.i + 2) (travelP t M).x t.S.box.x0 t.S.box.x1 M)
def forceZ (mv : Bool) (t : Stp) (M : MemS) : MemS := match mv with
  | true => (M.set (bodyAt t.S t.i + 2) (clampI (forceV t M).x (-16384) 16384)).set (bodyAt t.S t.i + 3) (clampI (forceV t M).y (-16384) 16384)
  | false => M
def moveS (mv bx bz : Bool) (t : Stp) (M : MemS) : MemS := if 0 ≤ t.j ∧ t.j < t.S.nb then M.set 3 (w64 (t.j + 1)) else moveA t (match mv with | true => travelB bx bz t M | false => M)
def trS (g : Gm) (mv bx bz : Bool) (M : MemS) : MemS := if M.get 1 = 0 then inputM (g.step M) M else if M.get 1 = 1 then actM (g.step M) M else if M.get 1 = 2 then tickM (g.step M) M else if M.get 1 = 3 then forceC (g.step M) (forceZ mv (g.step M) (forceA (g.step M) M)) else if M.get 1 = 4 then contactS (g.step M) M else if M.get 1 = 5 then moveS mv bx bz (g.step M) M else if M.get 1 = 6 then hitM (g.step M) M else restM (g.step M) M
def runS (g : Gm) (mv bx bz : Bool) : Nat → MemS → MemS
  | 0, M => M
  | n + 1, M => runS g mv bx bz n (trS g mv bx bz M)
def goodS (g : Gm) (mv bx bz : Bool) : Nat → MemS → Bool
  | 0, _ => false
  | n + 1, M => okB1 g M && decide (M.get 1 = 3 ∨ M.get 1 = 5 → M.get 2 = 0) && (n == 3 || decide (M.get 1 = 5 → M.get 3 = 0)) && (if trE g M then n == 0 else goodS g mv bx bz n (trS g mv bx bz M))
abbrev sM0 (S : Setup) : MemS := ⟨iniL (sS S) 1, [], 0⟩
theorem s_good (S : Setup) (c cap : Nat) (ins : List Inp) (mv bx bz : Bool) : goodS (sG S c cap ins) mv bx bz 11 (sM0 S) = true := by
  cases mv <;> cases bx <;> cases bz <;> kernel_rfl
def rightS (g : Gm) (mv bx bz : Bool) (M : MemS) : Prop := mv = true → bx = decide (clampI (travelP (g.step M) M).x g.S.box.x0 g.S.box.x1 = (travelP (g.step M) M).x) ∧ bz = decide (clampI (travelP (g.step M) M).y g.S.box.y0 g.S.box.y1 = (travelP (g.step M) M).y)
theorem sstep {g : Gm} (hn : g.S.nb = 1) {mv bx bz : Bool} (hmv : mv = decide (movP g.S 0)) {M : MemS} (h1 : M.get 1 = 3 ∨ M.get 1 = 5 → M.get 2 = 0) (h2 : (M.get 1 = 5 → M.get 3 = 0) ∨ rightS g mv bx bz M) : trM g M = trS g mv bx bz M := by
  unfold trM trS
  split
  · rfl
  split
  · rfl
  split
  · rfl
  split
  · next e =>
    have hi : (g.step M).i = 0 := h1 (.inl e)
    unfold forceM
    congr 1
    unfold forceB
    rw [hi]
    by_cases hm : movP g.S 0
    · rw [if_pos hm, hmv, decide_eq_true hm]
      unfold forceZ
      rw [hi]
    · rw [if_neg hm, hmv, decide_eq_false hm]
      rfl
  split
  · rfl
  split
  · next e =>
    have hi : (g.step M).i = 0 := h1 (.inr e)
    unfold moveM moveS
    by_cases hj : 0 ≤ (g.step M).j ∧ (g.step M).j < (g.step M).S.nb
    · rw [if_pos hj, if_pos hj]
      have hjn : (g.step M).j = 0 := by
        have h4 : (g.step M).j < (g.S.nb : Int) := hj.2
        rw [hn] at h4
        have := hj.1
        omega
      unfold testM
      rw [if_pos (by rw [hi, hjn])]
    · rw [if_neg hj, if_neg hj]
      congr 1
      rw [hi]
      by_cases hm : movP g.S 0
      · rw [if_pos hm]
        have hmt : mv = true := by rw [hmv, decide_eq_true hm]
        rcases h2 with h2 | h2
        · exfalso
          apply hj
          have h3 : (g.step M).j = 0 := h2 e
          rw [h3]
          exact ⟨Int.le_refl _, by show (0 : Int) < (g.S.nb : Int); rw [hn]; decide⟩
        · obtain ⟨e1, e2⟩ := h2 hmt
          rw [hmt]
          unfold travelM travelB
          rw [placeB_eq, placeB_eq, e1, e2]
      · rw [if_neg hm, hmv, decide_eq_false hm]
  split
  · rfl
  · rfl
theorem srun {g : Gm} (hn : g.S.nb = 1) (he : g.e0 < 0 ∧ g.e1 < 0 ∧ g.e2 < 0) {mv bx bz : Bool} (hmv : mv = decide (movP g.S 0)) : ∀ (n : Nat) (M : MemS), goodS g mv bx bz n M = true → (4 ≤ n → rightS g mv bx bz (runS g mv bx bz (n - 4) M)) → goodRun g n M ∧ runM g n M = runS g mv bx bz n M
  | 0, M, hg, hr => by simp [goodS] at hg
  | n + 1, M, hg, hr => by
    simp only [goodS, Bool.and_eq_true, decide_eq_true_eq, Bool.or_eq_true, beq_iff_eq] at hg
    obtain ⟨⟨⟨g1, g2⟩, g3⟩, g4⟩ := hg
    have hs : trM g M = trS g mv bx bz M := sstep hn hmv g2 (by
      rcases g3 with e | h
      · subst e
        exact .inr (hr (by omega))
      · exact .inl h)
    simp only [goodRun, runM, runS]
    rw [hs]
    have k1 := okB1_ok hn he g1
    by_cases e : trE g M = true
    · rw [if_pos e] at g4
      have en : n = 0 := by simpa using g4
      subst en
      exact ⟨⟨k1, .inl ⟨rfl, e⟩⟩, rfl⟩
    · rw [if_neg e] at g4
      have ih := srun hn he hmv n _ g4 (fun h4 => by
        have := hr (by omega)
        rwa [show n + 1 - 4 = (n - 4) + 1 by omega, runS] at this)
      exact ⟨⟨k1, .inr ⟨by simpa using e, ih.1⟩⟩, ih.2⟩
abbrev sMot (S : Setup) : Mot := ((sS S).body 0).mot
def sV (S : Setup) (i0 : Inp) : V2 := vscale (vadd (vadd ⟨(sMot S).vx, (sMot S).vy⟩ S.g) ⟨w64 (i0.dx * S.push), w64 (i0.dy * S.push)⟩) (w64 (1024 - S.drag))
def sC (S : Setup) (i0 : Inp) : V2 := ⟨clampI (sV S i0).x (-16384) 16384, clampI (sV S i0).y (-16384) 16384⟩
def sT (S : Setup) (i0 : Inp) : V2 := vadd ⟨(sMot S).px, (sMot S).py⟩ (vmuldiv (sC S i0) 1024 1024)
def sTo (S : Setup) (i0 : Inp) : V2 := vadd ⟨(sMot S).px, (sMot S).py⟩ (sC S i0)
theorem s_trav (S : Setup) (c cap : Nat) (ins : List Inp) (bx bz : Bool) : travelP ((sG S c cap ins).step (runS (sG S c cap ins) true bx bz 7 (sM0 S))) (runS (sG S c cap ins) true bx bz 7 (sM0 S)) = sT S (ins.getD 0 dI) := by
  cases bx <;> cases bz <;> kernel_rfl
theorem s_end (S : Setup) (c cap : Nat) (ins : List Inp) (bx bz : Bool) : motC (sS S) (runS (sG S c cap ins) true bx bz 11 (sM0 S)).cs 0 = ⟨clampI (sT S (ins.getD 0 dI)).x S.box.x0 S.box.x1, clampI (sT S (ins.getD 0 dI)).y S.box.y0 S.box.y1, (match bx with | true => (sC S (ins.getD 0 dI)).x | false => w64 (0 - mulI (sC S (ins.getD 0 dI)).x S.rest)), (match bz with | true => (sC S (ins.getD 0 dI)).y | false => w64 (0 - mulI (sC S (ins.getD 0 dI)).y S.rest)), (sMot S).inv⟩ := by
  cases bx <;> cases bz <;> kernel_rfl
theorem s_end0 (S : Setup) (c cap : Nat) (ins : List Inp) (bx bz : Bool) : motC (sS S) (runS (sG S c cap ins) false bx bz 11 (sM0 S)).cs 0 = sMot S := by
  cases bx <;> cases bz <;> kernel_rfl
theorem mulDiv_one {v : Int} (h : -16384 ≤ v ∧ v ≤ 16384) : mulDivI v 1024 1024 = v := by
  unfold mulDivI fdivI
  rw [w64_id (by omega), if_neg (by decide), Int.mul_tmod_left, if_neg (by omega), Int.mul_tdiv_cancel _ (by decide), w64_id (by omega)]
theorem clamp_bd (n lo hi : Int) (h : lo ≤ hi) : lo ≤ clampI n lo hi ∧ clampI n lo hi ≤ hi := by
  unfold clampI
  split
  · omega
  · split <;> omega
theorem clamp_id {n lo hi : Int} (h1 : lo ≤ n) (h2 : n ≤ hi) : clampI n lo hi = n := by
  unfold clampI
  rw [if_neg (by omega), if_neg (by omega)]
theorem sT_eq (S : Setup) (i0 : Inp) : sT S i0 = sTo S i0 := by
  unfold sT sTo vmuldiv
  have h1 := clamp_bd (sV S i0).x (-16384) 16384 (by decide)
  have h2 := clamp_bd (sV S i0).y (-16384) 16384 (by decide)
  rw [show mulDivI (sC S i0).x 1024 1024 = (sC S i0).x from mulDiv_one h1, show mulDivI (sC S i0).y 1024 1024 = (sC S i0).y from mulDiv_one h2]
/-- the tick, and where the body is then -/
theorem single_run (S : Setup) (c cap : Nat) (ins : List Inp) : ∃ M : MemS, goodRun (sG S c cap ins) 11 (sM0 S) ∧ runM (sG S c cap ins) 11 (sM0 S) = M ∧
    ((¬ (sMot S).inv > 0 ∧ motC (sS S) M.cs 0 = sMot S) ∨ ((sMot S).inv > 0 ∧ ∃ vx vy, motC (sS S) M.cs 0 = ⟨clampI (sTo S (ins.getD 0 dI)).x S.box.x0 S.box.x1, clampI (sTo S (ins.getD 0 dI)).y S.box.y0 S.box.y1, vx, vy, (sMot S).inv⟩ ∧
      (clampI (sTo S (ins.getD 0 dI)).x S.box.x0 S.box.x1 = (sTo S (ins.getD 0 dI)).x → vx = (sC S (ins.getD 0 dI)).x) ∧
      (clampI (sTo S (ins.getD 0 dI)).y S.box.y0 S.box.y1 = (sTo S (ins.getD 0 dI)).y → vy = (sC S (ins.getD 0 dI)).y))) := by
  have hn : (sG S c cap ins).S.nb = 1 := rfl
  have he : (sG S c cap ins).e0 < 0 ∧ (sG S c cap ins).e1 < 0 ∧ (sG S c cap ins).e2 < 0 := ⟨by show (-1 : Int) < 0; decide, by show (-1 : Int) < 0; decide, by show (-1 : Int) < 0; decide⟩
  by_cases hm : movP (sS S) 0
  · have hinv : (sMot S).inv > 0 := hm.2
    have hd : true = decide (movP (sG S c cap ins).S 0) := (decide_eq_true hm).symm
    generalize hx : decide (clampI (sT S (ins.getD 0 dI)).x S.box.x0 S.box.x1 = (sT S (ins.getD 0 dI)).x) = bx
    generalize hz : decide (clampI (sT S (ins.getD 0 dI)).y S.box.y0 S.box.y1 = (sT S (ins.getD 0 dI)).y) = bz
    have hr : rightS (sG S c cap ins) true bx bz (runS (sG S c cap ins) true bx bz 7 (sM0 S)) := fun _ => by
      rw [s_trav]
      exact ⟨hx.symm, hz.symm⟩
    obtain ⟨r1, r2⟩ := srun hn he hd 11 _ (s_good S c cap ins true bx bz) (fun _ => hr)
    refine ⟨_, r1, r2, .inr ⟨hinv, _, _, by rw [← sT_eq]; exact s_end S c cap ins bx bz, ?_, ?_⟩⟩
    · intro h
      rw [← sT_eq] at h
      rw [decide_eq_true h] at hx
      subst hx
      rfl
    · intro h
      rw [← sT_eq] at h
      rw [decide_eq_true h] at hz
      subst hz
      rfl
  · have hinv : ¬ (sMot S).inv > 0 := fun h => hm ⟨⟨by decide, by show (0 : Int) < ((1 : Nat) : Int); decide⟩, h⟩
    have hd : false = decide (movP (sG S c cap ins).S 0) := (decide_eq_false hm).symm
    obtain ⟨r1, r2⟩ := srun hn he hd 11 _ (s_good S c cap ins false true true) (fun _ h => by cases h)
    exact ⟨_, r1, r2, .inl ⟨hinv, s_end0 S c cap ins true true⟩⟩
end Go.Proofs.YtpkincoclhpcgaaGreatDoor
