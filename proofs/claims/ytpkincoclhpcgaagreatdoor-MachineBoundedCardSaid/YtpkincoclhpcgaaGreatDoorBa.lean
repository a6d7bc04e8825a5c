/- Bounded: what the transitions keep. -/
import Derived.Test.YtpkincoclhpcgaaGreatDoorKr
namespace Go.Proofs.YtpkincoclhpcgaaGreatDoor
set_option linter.unusedSimpArgs false
set_option linter.unusedVariables false
open Go.RowKit
/-- the numbers of a setup that the laws of motion need -/
structure SetB (S : Setup) : Prop where
  pl : 1 ≤ S.players ∧ S.players ≤ 3
  nb : 1 ≤ S.nb ∧ S.nb ≤ 5
  ro : 1 ≤ S.rounds ∧ S.rounds ≤ 3
  re : 0 ≤ S.rest ∧ S.rest ≤ 1024
  box : S.box.x0 ≤ S.box.x1 ∧ S.box.y0 ≤ S.box.y1
  bod : ∀ k, k < S.nb → 0 ≤ (S.body k).mot.inv ∧ (-1048576 ≤ (S.body k).mot.px ∧ (S.body k).mot.px ≤ 1048576) ∧ (-1048576 ≤ (S.body k).mot.py ∧ (S.body k).mot.py ≤ 1048576) ∧ (-16384 ≤ (S.body k).mot.vx ∧ (S.body k).mot.vx ≤ 16384) ∧ (-16384 ≤ (S.body k).mot.vy ∧ (S.body k).mot.vy ≤ 16384)
-- cells
theorem set_len (M : MemS) (i v : Int) : (M.set i v).cs.length = M.cs.length := by
  unfold MemS.set; split <;> simp
theorem get_ne {M : MemS} {i v j : Int} (h : j ≠ i) : (M.set i v).get j = M.get j := by
  unfold MemS.set
  split
  · next hi =>
    unfold MemS.get
    simp only [List.length_set]
    split
    · next hj =>
      rw [List.getD_eq_getElem?_getD, List.getD_eq_getElem?_getD, List.getElem?_set_ne (by omega)]
    · rfl
  · rfl
theorem get_eq {M : MemS} {i v : Int} (h : 0 ≤ i ∧ i < M.cs.length) : (M.set i v).get i = v := by
  unfold MemS.set
  rw [if_pos h]
  unfold MemS.get
  simp only [List.length_set]
  rw [if_pos h, List.getD_eq_getElem?_getD, List.getElem?_set_self (by omega)]
  rfl
theorem get_lo {M : MemS} {i v : Int} (j : Int) (h0 : 0 ≤ i) (h1 : i < 48) (hl : 48 ≤ M.cs.length) : (M.set i v).get j = if j = i then v else M.get j := by
  by_cases e : j = i
  · rw [if_pos e, e, get_eq (by omega)]
  · rw [if_neg e, get_ne e]
theorem bodyAt_eq {S : Setup} {k : Int} (h0 : 0 ≤ k) (h1 : k < S.nb) : bodyAt S k = 48 + 4 * S.players + 8 * k := by
  unfold bodyAt; rw [if_neg (by omega), if_neg (by omega)]
theorem motM_ne {S : Setup} {M : MemS} {i v k : Int} (h : ∀ c, 0 ≤ c → c < 4 → i ≠ bodyAt S k + c) : motM S (M.set i v) k = motM S M k := by
  unfold motM
  rw [get_ne (h 0 (by omega) (by omega)).symm, get_ne (h 1 (by omega) (by omega)).symm, get_ne (h 2 (by omega) (by omega)).symm, get_ne (h 3 (by omega) (by omega)).symm]
/-- the bodies' motions are the same -/
structure Sm (S : Setup) (M M' : MemS) : Prop where
  len : M'.cs.length = M.cs.length
  mot : ∀ k : Int, 0 ≤ k → k < S.nb → motM S M' k = motM S M k
theorem Sm.refl {S : Setup} {M : MemS} : Sm S M M := ⟨rfl, fun _ _ _ => rfl⟩
theorem Sm.trans {S : Setup} {A B C : MemS} (h : Sm S A B) (h' : Sm S B C) : Sm S A C := ⟨h'.len.trans h.len, fun k h0 h1 => (h'.mot k h0 h1).trans (h.mot k h0 h1)⟩
theorem Sm.low {S : Setup} {A M : MemS} (h : Sm S A M) (hp : 0 ≤ S.players) {i v : Int} (hi : i < 48 + 4 * S.players) : Sm S A (M.set i v) := by
  refine h.trans ⟨set_len _ _ _, fun k h0 h1 => motM_ne fun c c0 c4 => ?_⟩
  rw [bodyAt_eq h0 h1]; omega
theorem Sm.hi {S : Setup} {A M : MemS} (h : Sm S A M) {k c v : Int} (h0 : 0 ≤ k) (h1 : k < S.nb) (c0 : 4 ≤ c) (c8 : c < 8) : Sm S A (M.set (bodyAt S k + c) v) := by
  refine h.trans ⟨set_len _ _ _, fun k' h0' h1' => motM_ne fun c' c0' c4' => ?_⟩
  rw [bodyAt_eq h0 h1, bodyAt_eq h0' h1']; omega
theorem Sm.beg {S : Setup} {A M : MemS} (h : Sm S A M) (hp : 0 ≤ S.players) (t : Stp) (a b : Int) : Sm S A (beginM t a b M) := by
  unfold beginM
  exact ((h.low hp (by omega)).low hp (by omega)).low hp (by omega)
/-- the counters are the same -/
def Ct (M M' : MemS) : Prop := ∀ j : Int, 1 ≤ j → j ≤ 4 → M'.get j = M.get j
theorem Ct.refl {M : MemS} : Ct M M := fun _ _ _ => rfl
theorem Ct.set {A M : MemS} (h : Ct A M) {i v : Int} (hi : i < 1 ∨ 4 < i) : Ct A (M.set i v) := fun j h1 h4 => (get_ne (by omega)).trans (h j h1 h4)
/-- a body's motion is allowed -/
def BI (S : Setup) (k : Int) (m : Mot) : Prop := ((S.body k.toNat).mot.inv = 0 → m = (S.body k.toNat).mot) ∧ (0 < (S.body k.toNat).mot.inv → (-16384 ≤ m.vx ∧ m.vx ≤ 16384) ∧ (-16384 ≤ m.vy ∧ m.vy ≤ 16384))
structure Bd (S : Setup) (M : MemS) : Prop where
  len : (M.cs.length : Int) = sizeOf S
  bod : ∀ k : Int, 0 ≤ k → k < S.nb → BI S k (motM S M k)
theorem Bd.sm {S : Setup} {M M' : MemS} (h : Bd S M) (s : Sm S M M') : Bd S M' := ⟨by rw [s.len]; exact h.len, fun k h0 h1 => by rw [s.mot k h0 h1]; exact h.bod k h0 h1⟩
def InB (S : Setup) (M : MemS) (n : Int) : Prop := ∀ k : Int, 0 ≤ k → k < n → k < S.nb → 0 < (S.body k.toNat).mot.inv → (S.box.x0 ≤ (motM S M k).px ∧ (motM S M k).px ≤ S.box.x1) ∧ (S.box.y0 ≤ (motM S M k).py ∧ (motM S M k).py ≤ S.box.y1)
theorem InB.sm {S : Setup} {M M' : MemS} {n : Int} (h : InB S M n) (s : Sm S M M') : InB S M' n := fun k h0 h1 h2 h3 => by rw [s.mot k h0 h2]; exact h k h0 h1 h2 h3
theorem InB.le {S : Setup} {M : MemS} {n n' : Int} (h : InB S M n) (hn : n' ≤ n) : InB S M n' := fun k h0 h1 h2 h3 => h k h0 (by omega) h2 h3
-- a movable body's cells
theorem Bd.vel {S : Setup} {M : MemS} (h : Bd S M) {k c v : Int} (hm : movP S k) (hc : 0 ≤ c ∧ c < 4) (hv : 2 ≤ c → -16384 ≤ v ∧ v ≤ 16384) : Bd S (M.set (bodyAt S k + c) v) := by
  refine ⟨by rw [set_len]; exact h.len, fun k' h0 h1 => ?_⟩
  by_cases e : k' = k
  · subst e
    have hb := h.bod k' h0 h1
    refine ⟨fun e => absurd hm.2 (by rw [e]; decide), fun hi => ?_⟩
    obtain ⟨b1, b2⟩ := hb.2 hi
    have hl := h.len
    have hr : 0 ≤ bodyAt S k' + c ∧ bodyAt S k' + c < M.cs.length ∨ ¬ (0 ≤ bodyAt S k' + c ∧ bodyAt S k' + c < M.cs.length) := Decidable.em _
    have g : ∀ d, (M.set (bodyAt S k' + c) v).get (bodyAt S k' + d) = M.get (bodyAt S k' + d) ∨ (d = c ∧ (M.set (bodyAt S k' + c) v).get (bodyAt S k' + d) = v) := by
      intro d
      by_cases ed : d = c
      · subst ed
        rcases hr with hr | hr
        · exact .inr ⟨rfl, get_eq hr⟩
        · left; unfold MemS.set; rw [if_neg hr]
      · exact .inl (get_ne (by omega))
    have g2 := g 2
    have g3 := g 3
    unfold motM at b1 b2 ⊢
    dsimp only at b1 b2 ⊢
    constructor
    · rcases g2 with g2 | ⟨ec, g2⟩ <;> rw [g2]
      · exact b1
      · exact hv (by omega)
    · rcases g3 with g3 | ⟨ec, g3⟩ <;> rw [g3]
      · exact b2
      · exact hv (by omega)
  · rw [motM_ne fun c' c0 c4 => ?_]
    · exact h.bod k' h0 h1
    · rw [bodyAt_eq hm.1.1 hm.1.2, bodyAt_eq h0 h1]; omega
theorem clamp_bd (n lo hi : Int) (h : lo ≤ hi) : lo ≤ clampI n lo hi ∧ clampI n lo hi ≤ hi := by
  unfold clampI
  split
  · omega
  · split <;> omega
theorem clamp_id {n lo hi : Int} (h1 : lo ≤ n) (h2 : n ≤ hi) : clampI n lo hi = n := by
  unfold clampI
  rw [if_neg (by omega), if_neg (by omega)]
theorem fdiv_bd {x : Int} (h : -16777216 ≤ x ∧ x ≤ 16777216) : -16384 ≤ fdivI x 1024 ∧ fdivI x 1024 ≤ 16384 := by
  unfold fdivI
  rw [if_neg (by decide)]
  by_cases hx : 0 ≤ x
  · rw [Int.tdiv_eq_ediv_of_nonneg hx, Int.tmod_eq_emod_of_nonneg hx, if_neg (by omega), w64_id (by omega)]
    omega
  · obtain ⟨y, e⟩ : ∃ y, x = -y := ⟨-x, by omega⟩
    subst e
    rw [Int.neg_tdiv, Int.neg_tmod, Int.tdiv_eq_ediv_of_nonneg (by omega), Int.tmod_eq_emod_of_nonneg (by omega), show w64 (-(y / 1024)) = -(y / 1024) from w64_id (by omega)]
    split
    · rw [w64_id (by omega)]; omega
    · omega
theorem mul_bd2 {v r : Int} (hv : -16384 ≤ v ∧ v ≤ 16384) (hr : 0 ≤ r ∧ r ≤ 1024) : -16777216 ≤ v * r ∧ v * r ≤ 16777216 := by
  have h1 : v * r ≤ 16384 * r := Int.mul_le_mul_of_nonneg_right hv.2 hr.1
  have h2 : -16384 * r ≤ v * r := Int.mul_le_mul_of_nonneg_right hv.1 hr.1
  omega
theorem mulI_bd {v r : Int} (hv : -16384 ≤ v ∧ v ≤ 16384) (hr : 0 ≤ r ∧ r ≤ 1024) : -16384 ≤ mulI v r ∧ mulI v r ≤ 16384 := by
  have := mul_bd2 hv hr
  unfold mulI
  rw [w64_id (by omega)]
  exact fdiv_bd this
theorem back_bd {v r : Int} (hv : -16384 ≤ v ∧ v ≤ 16384) (hr : 0 ≤ r ∧ r ≤ 1024) : -16384 ≤ w64 (0 - mulI v r) ∧ w64 (0 - mulI v r) ≤ 16384 := by
  have := mulI_bd hv hr
  rw [w64_id (by omega)]
  omega
theorem Bd.spd {S : Setup} (hB : SetB S) {M : MemS} (h : Bd S M) {k : Int} (h0 : 0 ≤ k) (h1 : k < S.nb) : (-16384 ≤ (motM S M k).vx ∧ (motM S M k).vx ≤ 16384) ∧ (-16384 ≤ (motM S M k).vy ∧ (motM S M k).vy ≤ 16384) := by
  have hb := h.bod k h0 h1
  have hs := hB.bod k.toNat (by omega)
  rcases Int.lt_or_eq_of_le hs.1 with hi | hi
  · exact hb.2 hi
  · rw [hb.1 hi.symm]
    exact ⟨hs.2.2.2.1, hs.2.2.2.2⟩
theorem Bd.place {S : Setup} (hB : SetB S) {M : MemS} (h : Bd S M) {t : Stp} (ht : t.S = S) {k c : Int} (hm : movP S k) (hc : c = 0 ∨ c = 1) (pos lo hi : Int) : Bd S (placeM t (bodyAt S k + c) (bodyAt S k + (c + 2)) pos lo hi M) := by
  have h1 : Bd S (M.set (bodyAt S k + c) (clampI pos lo hi)) := h.vel hm (by omega) (fun h => by omega)
  unfold placeM
  split
  · exact h1
  · refine h1.vel hm (by omega) fun _ => back_bd ?_ (by rw [ht]; exact hB.re)
    have := h1.spd hB hm.1.1 hm.1.2
    unfold motM at this
    dsimp only at this
    rcases hc with rfl | rfl
    · exact this.1
    · exact this.2
theorem body_in {S : Setup} {M : MemS} (hp : 0 ≤ S.players) (hl : (M.cs.length : Int) = sizeOf S) {k c : Int} (h0 : 0 ≤ k) (h1 : k < S.nb) (hc : 0 ≤ c ∧ c < 8) : 0 ≤ bodyAt S k + c ∧ bodyAt S k + c < M.cs.length := by
  rw [hl, bodyAt_eq h0 h1]; unfold sizeOf; omega
/-- what a place does to the motions -/
theorem place_get {S : Setup} {M : MemS} (t : Stp) {k c : Int} (hc : c = 0 ∨ c = 1) (hr : 0 ≤ bodyAt S k + c ∧ bodyAt S k + c < M.cs.length) (pos lo hi : Int) : (placeM t (bodyAt S k + c) (bodyAt S k + (c + 2)) pos lo hi M).get (bodyAt S k + c) = clampI pos lo hi := by
  unfold placeM
  split
  · exact get_eq hr
  · rw [get_ne (by omega), get_eq hr]
theorem place_ne {S : Setup} {M : MemS} (t : Stp) {k c j : Int} (h1 : j ≠ bodyAt S k + c) (h2 : j ≠ bodyAt S k + (c + 2)) (pos lo hi : Int) : (placeM t (bodyAt S k + c) (bodyAt S k + (c + 2)) pos lo hi M).get j = M.get j := by
  unfold placeM
  split
  · exact get_ne h1
  · rw [get_ne h2, get_ne h1]
theorem place_len (t : Stp) (a b c d e : Int) (M : MemS) : (placeM t a b c d e M).cs.length = M.cs.length := by
  unfold placeM; split <;> simp only [set_len]
theorem Ct.place {A M : MemS} (h : Ct A M) (t : Stp) {a b : Int} (ha : 4 < a) (hb : 4 < b) (c d e : Int) : Ct A (placeM t a b c d e M) := by
  unfold placeM
  split
  · exact h.set (.inr ha)
  · exact (h.set (.inr ha)).set (.inr hb)
theorem travel_ok {S : Setup} (hB : SetB S) {M : MemS} (h : Bd S M) {t : Stp} (ht : t.S = S) (hm : movP S t.i) : Bd S (travelM t M) ∧ Ct M (travelM t M) ∧ (∀ n, n = t.i → InB S M n → InB S (travelM t M) (n + 1)) := by
  have hp : 0 ≤ S.players := by have := hB.pl; omega
  have hb := bodyAt_eq hm.1.1 hm.1.2
  have hm0 := hm.1.1
  unfold travelM
  rw [ht]
  have p1 := h.place hB ht hm (.inl rfl) (travelP t M).x S.box.x0 S.box.x1
  have p2 := p1.place hB ht hm (.inr rfl) (travelP t M).y S.box.y0 S.box.y1
  refine ⟨p2, ((Ct.refl).place t (by omega) (by omega) _ _ _).place t (by omega) (by omega) _ _ _, fun n en hn k h0 h1 h2 h3 => ?_⟩
  subst en
  by_cases e : k = t.i
  · subst e
    have r0 := body_in (M := M) hp h.len h0 h2 (c := 0) (by omega)
    have r1 := body_in (M := placeM t (bodyAt S t.i + 0) (bodyAt S t.i + (0 + 2)) (travelP t M).x S.box.x0 S.box.x1 M) hp p1.len h0 h2 (c := 1) (by omega)
    have e0 := place_get (S := S) (M := M) t (k := t.i) (c := 0) (.inl rfl) r0 (travelP t M).x S.box.x0 S.box.x1
    have e1 := place_get (S := S) t (k := t.i) (c := 1) (.inr rfl) r1 (travelP t M).y S.box.y0 S.box.y1
    unfold motM
    dsimp only
    constructor
    · have := place_ne (S := S) (M := placeM t (bodyAt S t.i + 0) (bodyAt S t.i + (0 + 2)) (travelP t M).x S.box.x0 S.box.x1 M) t (k := t.i) (c := 1) (j := bodyAt S t.i + 0) (by omega) (by omega) (travelP t M).y S.box.y0 S.box.y1
      rw [e0] at this
      rw [show (1 : Int) + 2 = 3 from rfl, show (0 : Int) + 2 = 2 from rfl] at this
      rw [this]
      exact clamp_bd _ _ _ hB.box.1
    · rw [show (1 : Int) + 2 = 3 from rfl, show (0 : Int) + 2 = 2 from rfl] at e1
      rw [e1]
      exact clamp_bd _ _ _ hB.box.2
  · have hk := bodyAt_eq h0 h2
    have e2 : ∀ c, 0 ≤ c → c < 4 → (placeM t (bodyAt S t.i + 1) (bodyAt S t.i + (1 + 2)) (travelP t M).y S.box.y0 S.box.y1 (placeM t (bodyAt S t.i + 0) (bodyAt S t.i + (0 + 2)) (travelP t M).x S.box.x0 S.box.x1 M)).get (bodyAt S k + c) = M.get (bodyAt S k + c) := by
      intro c c0 c4
      rw [place_ne t (by omega) (by omega), place_ne t (by omega) (by omega)]
    have e3 := e2 0 (by omega) (by omega)
    have e4 := e2 1 (by omega) (by omega)
    have := hn k h0 (by omega) h2 h3
    unfold motM at this ⊢
    dsimp only at this ⊢
    rw [show (1 : Int) + 2 = 3 from rfl, show (0 : Int) + 2 = 2 from rfl] at e3 e4
    rw [e3, e4]
    exact this
-- the contact
theorem mulI_zero (x : Int) : mulI x 0 = 0 := by
  unfold mulI
  rw [Int.mul_zero]
  decide
theorem mulDivI_zero (x t : Int) : mulDivI x 0 t = 0 := by
  unfold mulDivI fdivI
  rw [Int.mul_zero, show w64 0 = 0 by decide, Int.zero_tdiv, Int.zero_tmod]
  split
  · rfl
  · rw [if_neg (by omega)]; decide
theorem vscale_zero (n : V2) : vscale n 0 = ⟨0, 0⟩ := by
  unfold vscale
  rw [mulI_zero, mulI_zero]
theorem limM_bd (m : Mot) : (-16384 ≤ (limM m).vx ∧ (limM m).vx ≤ 16384) ∧ (-16384 ≤ (limM m).vy ∧ (limM m).vy ≤ 16384) := by
  have e : w64 (0 - 16384) = -16384 := by decide
  unfold limM clampV
  dsimp only
  rw [e]
  exact ⟨clamp_bd _ _ _ (by decide), clamp_bd _ _ _ (by decide)⟩
/-- a motion within the limits -/
def Sml (m : Mot) : Prop := (-1048576 ≤ m.px ∧ m.px ≤ 1048576) ∧ (-1048576 ≤ m.py ∧ m.py ≤ 1048576) ∧ (-16384 ≤ m.vx ∧ m.vx ≤ 16384) ∧ (-16384 ≤ m.vy ∧ m.vy ≤ 16384)
theorem limM_id {m : Mot} (h : Sml m) : limM m = m := by
  obtain ⟨h1, h2, h3, h4⟩ := h
  have e : w64 (0 - 16384) = -16384 := by decide
  have e2 : w64 (0 - 1048576) = -1048576 := by decide
  unfold limM clampV
  dsimp only
  rw [e, e2, clamp_id h1.1 h1.2, clamp_id h2.1 h2.2, clamp_id h3.1 h3.2, clamp_id h4.1 h4.2]
theorem rsA_zero {a b : Mot} (c : Con) (r : Int) (ha : a.inv = 0) (h : Sml a) : rsA a b c r = a := by
  obtain ⟨h1, h2, h3, h4⟩ := h
  unfold rsA
  split
  · rw [ha, mulI_zero, vscale_zero]
    unfold slowM vsub
    dsimp only
    rw [w64_id (by omega), w64_id (by omega), Int.sub_zero, Int.sub_zero]
  · rfl
theorem rsB_zero {a b : Mot} (c : Con) (r : Int) (hb : b.inv = 0) (h : Sml b) : rsB a b c r = b := by
  obtain ⟨h1, h2, h3, h4⟩ := h
  unfold rsB
  split
  · rw [hb, mulI_zero, vscale_zero]
    unfold speedM vadd
    dsimp only
    rw [w64_id (by omega), w64_id (by omega), Int.add_zero, Int.add_zero]
  · rfl
theorem resolve_a0 {a b : Mot} (c : Con) (r : Int) (ha : a.inv = 0) (h : Sml a) : (resolveS a b c r).1 = a := by
  have hs := h
  obtain ⟨h1, h2, h3, h4⟩ := h
  unfold resolveS
  split
  · rfl
  · dsimp only
    rw [rsA_zero c r ha hs, ha, mulDivI_zero, vscale_zero]
    unfold retM' vsub
    dsimp only
    rw [w64_id (by omega), w64_id (by omega), Int.sub_zero, Int.sub_zero]
    exact limM_id hs
theorem resolve_b0 {a b : Mot} (c : Con) (r : Int) (hb : b.inv = 0) (h : Sml b) : (resolveS a b c r).2 = b := by
  have hs := h
  obtain ⟨h1, h2, h3, h4⟩ := h
  unfold resolveS
  split
  · rfl
  · dsimp only
    rw [rsB_zero c r hb hs, hb, mulDivI_zero, vscale_zero]
    unfold advM vadd
    dsimp only
    rw [w64_id (by omega), w64_id (by omega), Int.add_zero, Int.add_zero]
    exact limM_id hs
def Spd (m : Mot) : Prop := (-16384 ≤ m.vx ∧ m.vx ≤ 16384) ∧ (-16384 ≤ m.vy ∧ m.vy ≤ 16384)
theorem resolve_a {a b : Mot} (c : Con) (r : Int) (h : Spd a) : Spd (resolveS a b c r).1 := by
  unfold resolveS
  split
  · exact h
  · exact limM_bd _
theorem resolve_b {a b : Mot} (c : Con) (r : Int) (h : Spd b) : Spd (resolveS a b c r).2 := by
  unfold resolveS
  split
  · exact h
  · exact limM_bd _
theorem Bd.sml {S : Setup} (hB : SetB S) {k : Int} (h0 : 0 ≤ k) (h1 : k < S.nb) : Sml (S.body k.toNat).mot := (hB.bod k.toNat (by omega)).2
theorem Bd.setMot {S : Setup} (hB : SetB S) {M : MemS} (h : Bd S M) (t : Stp) (ht : t.S = S) {k : Int} (h0 : 0 ≤ k) (h1 : k < S.nb) {m : Mot} (hm : BI S k ⟨m.px, m.py, m.vx, m.vy, (S.body k.toNat).mot.inv⟩) : Bd S (setMotM t k m M) := by
  have hp : 0 ≤ S.players := by have := hB.pl; omega
  have hl := h.len
  have r0 := body_in hp hl h0 h1 (c := 0) (by omega)
  have r1 := body_in hp hl h0 h1 (c := 1) (by omega)
  have r2 := body_in hp hl h0 h1 (c := 2) (by omega)
  have r3 := body_in hp hl h0 h1 (c := 3) (by omega)
  unfold setMotM
  rw [ht]
  refine ⟨by simp only [set_len]; exact hl, fun k' h0' h1' => ?_⟩
  by_cases e : k' = k
  · subst e
    have e : motM S ((((M.set (bodyAt S k' + 0) m.px).set (bodyAt S k' + 1) m.py).set (bodyAt S k' + 2) m.vx).set (bodyAt S k' + 3) m.vy) k' = ⟨m.px, m.py, m.vx, m.vy, (S.body k'.toNat).mot.inv⟩ := by
      unfold motM
      congr 1
      · rw [get_ne (by omega), get_ne (by omega), get_ne (by omega), get_eq r0]
      · rw [get_ne (by omega), get_ne (by omega), get_eq (by rw [set_len]; exact r1)]
      · rw [get_ne (by omega), get_eq (by rw [set_len, set_len]; exact r2)]
      · rw [get_eq (by rw [set_len, set_len, set_len]; exact r3)]
    rw [e]
    exact hm
  · have hk := bodyAt_eq h0 h1
    have hk' := bodyAt_eq h0' h1'
    rw [motM_ne (fun c _ _ => by omega), motM_ne (fun c _ _ => by omega), motM_ne (fun c _ _ => by omega), motM_ne (fun c _ _ => by omega)]
    exact h.bod k' h0' h1'
theorem Ct.setMot {A M : MemS} (h : Ct A M) (t : Stp) {k : Int} (hk : 4 < bodyAt t.S k) (m : Mot) : Ct A (setMotM t k m M) := by
  unfold setMotM
  exact (((h.set (.inr (by omega))).set (.inr (by omega))).set (.inr (by omega))).set (.inr (by omega))
theorem touch_ok {S : Setup} (hB : SetB S) {M : MemS} (h : Bd S M) {t : Stp} (ht : t.S = S) : Bd S (touchF t M) ∧ Ct M (touchF t M) := by
  have hp : 0 ≤ S.players := by have := hB.pl; omega
  unfold touchF
  by_cases hi : 0 ≤ t.i ∧ t.i < t.S.nb
  case neg => rw [if_neg hi]; exact ⟨h, .refl⟩
  rw [if_pos hi]
  by_cases hj : 0 ≤ t.j ∧ t.j < t.S.nb
  case neg => rw [if_neg hj]; exact ⟨h, .refl⟩
  rw [if_pos hj]
  by_cases hc : (colT t M).2 = true
  case neg => rw [if_neg hc]; exact ⟨h, .refl⟩
  rw [if_pos hc]
  unfold touchSet
  subst ht
  have ei := bodyAt_eq hi.1 hi.2
  have ej := bodyAt_eq hj.1 hj.2
  have ai := h.bod t.i hi.1 hi.2
  have aj := h.bod t.j hj.1 hj.2
  have si := h.spd hB hi.1 hi.2
  have sj := h.spd hB hj.1 hj.2
  have h1 : Bd t.S (setMotM t t.i (resT t M).1 M) := by
    refine h.setMot hB t rfl hi.1 hi.2 ⟨fun e => ?_, fun e => ?_⟩
    · have hm := ai.1 e
      have : (resT t M).1 = motM t.S M t.i := resolve_a0 _ _ (by rw [hm]; exact e) (by rw [hm]; exact Bd.sml hB hi.1 hi.2)
      rw [this, hm]
    · exact resolve_a (a := motM t.S M t.i) _ _ si
  have h2 : Bd t.S (setMotM t t.j (resT t M).2 (setMotM t t.i (resT t M).1 M)) := by
    refine h1.setMot hB t rfl hj.1 hj.2 ⟨fun e => ?_, fun e => ?_⟩
    · have hm := aj.1 e
      have : (resT t M).2 = motM t.S M t.j := resolve_b0 _ _ (by rw [hm]; exact e) (by rw [hm]; exact Bd.sml hB hj.1 hj.2)
      rw [this, hm]
    · exact resolve_b (b := motM t.S M t.j) _ _ sj
  have s1 := (Sm.refl (S := t.S) (M := setMotM t t.j (resT t M).2 (setMotM t t.i (resT t M).1 M))).hi hi.1 hi.2 (c := 6) (v := w64 (t.j + 1)) (by omega) (by omega)
  have s2 := s1.hi hj.1 hj.2 (c := 6) (v := w64 (t.i + 1)) (by omega) (by omega)
  refine ⟨h2.sm s2, ?_⟩
  exact ((((Ct.refl).setMot t (by omega) _).setMot t (by omega) _).set (.inr (by omega))).set (.inr (by omega))
-- the tick
def CtI (S : Setup) (p i j r : Int) : Prop :=
  (p = 0 ∧ 0 ≤ i ∧ i < S.players) ∨ (p = 1 ∧ 0 ≤ i ∧ i ≤ S.players ∧ j = 0) ∨ (p = 2 ∧ j = 0) ∨ (p = 3 ∧ 0 ≤ i ∧ i < S.nb) ∨
  (p = 4 ∧ 0 ≤ i ∧ i < 5 ∧ 1 ≤ j ∧ j < 5 ∧ 0 ≤ r ∧ r ≤ S.rounds ∧ (2 ≤ S.nb → i < j ∧ j < S.nb)) ∨
  (p = 5 ∧ 0 ≤ i ∧ i < S.nb ∧ 0 ≤ j ∧ j ≤ S.nb) ∨ (p = 6 ∧ 0 ≤ i ∧ i ≤ S.nb ∧ j = 0) ∨ (p = 7 ∧ 0 ≤ i ∧ i < S.nb)
/-- the transitions that are left, at most -/
def lf (p i j r : Int) : Int := if p = 0 then 159 - i else if p = 1 then 155 - i else if p = 2 then 151 else if p = 3 then 150 - i else if p = 4 then 25 * (3 - r) - (5 * i + j) + 70 else if p = 5 then (5 - i) * 6 - j + 11 else if p = 6 then 11 - i else 5 - i
structure TI (S : Setup) (M : MemS) : Prop where
  bd : Bd S M
  ct : CtI S (M.get 1) (M.get 2) (M.get 3) (M.get 4)
  i5 : M.get 1 = 5 → InB S M (M.get 2)
  i6 : 6 ≤ M.get 1 → InB S M S.nb
/-- between ticks -/
structure TE (S : Setup) (M : MemS) : Prop where
  bd : Bd S M
  z : ∀ j : Int, 1 ≤ j → j ≤ 10 → M.get j = 0
def lfM (M : MemS) : Int := lf (M.get 1) (M.get 2) (M.get 3) (M.get 4)
theorem len48 {S : Setup} (hp : 0 ≤ S.players) {M : MemS} (h : Bd S M) : 48 ≤ M.cs.length := by
  have := h.len
  unfold sizeOf at this
  omega
/-- what a transition comes to -/
structure Go1 (S : Setup) (M M' : MemS) : Prop where
  ti : TI S M'
  lt : lfM M' < lfM M
theorem mk1 {S : Setup} {M M' : MemS} {p i j r p' i' j' r' : Int} (e1 : M.get 1 = p) (e2 : M.get 2 = i) (e3 : M.get 3 = j) (e4 : M.get 4 = r) (f1 : M'.get 1 = p') (f2 : M'.get 2 = i') (f3 : M'.get 3 = j') (f4 : M'.get 4 = r') (hb : Bd S M') (hc : CtI S p' i' j' r') (h5 : p' = 5 → InB S M' i') (h6 : 6 ≤ p' → InB S M' S.nb) (hl : lf p' i' j' r' < lf p i j r) : Go1 S M M' :=
  ⟨⟨hb, by rw [f1, f2, f3, f4]; exact hc, by rw [f1, f2]; exact h5, by rw [f1]; exact h6⟩, by unfold lfM; rw [e1, e2, e3, e4, f1, f2, f3, f4]; exact hl⟩
theorem beg_get {M : MemS} (h : 48 ≤ M.cs.length) (t : Stp) (a b j : Int) : (beginM t a b M).get j = if j = 3 then b else if j = 2 then 0 else if j = 1 then a else M.get j := by
  unfold beginM
  rw [get_lo _ (by omega) (by omega) (by simp only [set_len]; exact h), get_lo _ (by omega) (by omega) (by simp only [set_len]; exact h), get_lo _ (by omega) (by omega) h]
theorem set2_get {M : MemS} (h : 48 ≤ M.cs.length) (v j : Int) : (M.set 2 v).get j = if j = 2 then v else M.get j := get_lo _ (by omega) (by omega) h
theorem inAB_sm {S : Setup} (hp : 0 ≤ S.players) {t : Stp} (ht : t.S = S) (M : MemS) : Sm S M (inputB t (inputA t M)) ∧ Ct M (inputB t (inputA t M)) := by
  subst ht
  have ha : Sm t.S M (inputA t M) ∧ Ct M (inputA t M) := by
    unfold inputA
    split
    · exact ⟨((Sm.refl).low hp (by omega)).low hp (by omega), ((Ct.refl).set (by omega)).set (by omega)⟩
    · exact ⟨.refl, .refl⟩
  unfold inputB
  split
  · next hb =>
    have e : playerAt t.S t.i = 48 + 4 * t.i ∧ 0 ≤ t.i ∧ t.i < t.S.players := by
      unfold playerAt at hb ⊢
      split at hb
      · omega
      · split at hb
        · omega
        · rw [if_neg (by assumption), if_neg (by assumption)]; omega
    split
    · exact ⟨((ha.1.low hp (by omega)).low hp (by omega)).low hp (by omega), ((ha.2.set (by omega)).set (by omega)).set (by omega)⟩
    · exact ha
  · exact ha
theorem ct48 {M M' : MemS} (h : Ct M M') : M'.get 1 = M.get 1 ∧ M'.get 2 = M.get 2 ∧ M'.get 3 = M.get 3 ∧ M'.get 4 = M.get 4 := ⟨h 1 (by omega) (by omega), h 2 (by omega) (by omega), h 3 (by omega) (by omega), h 4 (by omega) (by omega)⟩
theorem st0 {S : Setup} (hB : SetB S) {g : Gm} (hg : g.S = S) {M : MemS} (h : TI S M) (hp : M.get 1 = 0) : Go1 S M (inputM (g.step M) M) := by
  have hpl := hB.pl
  have hnb := hB.nb
  have hc : 0 ≤ M.get 2 ∧ M.get 2 < S.players := by rcases h.ct with h | h | h | h | h | h | h | h <;> omega
  obtain ⟨sm, ct⟩ := inAB_sm (t := g.step M) (by omega) hg M
  obtain ⟨c1, c2, c3, c4⟩ := ct48 ct
  unfold inputM inputC
  generalize inputB (g.step M) (inputA (g.step M) M) = M1 at *
  have hb := h.bd.sm sm
  have hl := len48 (by omega) hb
  show Go1 S M (if w64 (M.get 2 + 1) < g.S.players then M1.set 2 (w64 (M.get 2 + 1)) else _)
  rw [w64_id (by omega), hg]
  split
  · refine mk1 hp rfl rfl rfl (p' := 0) (i' := M.get 2 + 1) (j' := M.get 3) (r' := M.get 4) ?_ ?_ ?_ ?_ (hb.sm ((Sm.refl).low (by omega) (by omega))) (.inl ⟨rfl, by omega, by omega⟩) (by omega) (by omega) ?_
    · rw [set2_get hl, if_neg (by decide), c1, hp]
    · rw [set2_get hl, if_pos rfl]
    · rw [set2_get hl, if_neg (by decide), c3]
    · rw [set2_get hl, if_neg (by decide), c4]
    · show 159 - (M.get 2 + 1) < 159 - M.get 2
      omega
  · refine mk1 hp rfl rfl rfl (p' := 1) (i' := 0) (j' := 0) (r' := M.get 4) ?_ ?_ ?_ ?_ (hb.sm ((Sm.refl).beg (by omega) _ _ _)) (.inr (.inl ⟨rfl, by omega, by omega, rfl⟩)) (by omega) (by omega) ?_
    · rw [beg_get hl]; rfl
    · rw [beg_get hl]; rfl
    · rw [beg_get hl]; rfl
    · rw [beg_get hl, if_neg (by decide), if_neg (by decide), if_neg (by decide), c4]
    · show 155 - (0 : Int) < 159 - M.get 2
      omega
theorem playerAt_neg {S : Setup} {k : Int} (h0 : 0 ≤ k) : playerAt S k < 0 ↔ S.players ≤ k := by
  unfold playerAt
  rw [if_neg (by omega)]
  split <;> omega
theorem bodyAt_neg {S : Setup} {k : Int} (h0 : 0 ≤ k) (hp : 0 ≤ S.players) : bodyAt S k < 0 ↔ (S.nb : Int) ≤ k := by
  unfold bodyAt
  rw [if_neg (by omega)]
  split <;> omega
theorem st1 {S : Setup} (hB : SetB S) {g : Gm} (hg : g.S = S) {M : MemS} (h : TI S M) (hp : M.get 1 = 1) : Go1 S M (actM (g.step M) M) ∧ M.get 3 = 0 := by
  have hpl := hB.pl
  have hnb := hB.nb
  have hc : 0 ≤ M.get 2 ∧ M.get 2 ≤ S.players ∧ M.get 3 = 0 := by rcases h.ct with h | h | h | h | h | h | h | h <;> omega
  have hl := len48 (by omega) h.bd
  refine ⟨?_, hc.2.2⟩
  unfold actM
  show Go1 S M (if playerAt g.S (M.get 2) < 0 then _ else M.set 2 (w64 (M.get 2 + 1)))
  rw [w64_id (by omega), hg]
  split
  · refine mk1 hp rfl rfl rfl (p' := 2) (i' := 0) (j' := 0) (r' := M.get 4) ?_ ?_ ?_ ?_ (h.bd.sm ((Sm.refl).beg (by omega) _ _ _)) (.inr (.inr (.inl ⟨rfl, rfl⟩))) (by omega) (by omega) ?_
    · rw [beg_get hl]; rfl
    · rw [beg_get hl]; rfl
    · rw [beg_get hl]; rfl
    · rw [beg_get hl]; rfl
    · show 151 < 155 - M.get 2
      omega
  · next hn =>
    rw [playerAt_neg hc.1] at hn
    refine mk1 hp rfl rfl rfl (p' := 1) (i' := M.get 2 + 1) (j' := 0) (r' := M.get 4) ?_ ?_ ?_ ?_ (h.bd.sm ((Sm.refl).low (by omega) (by omega))) (.inr (.inl ⟨rfl, by omega, by omega, rfl⟩)) (by omega) (by omega) ?_
    · rw [set2_get hl, if_neg (by decide), hp]
    · rw [set2_get hl, if_pos rfl]
    · rw [set2_get hl, if_neg (by decide)]; exact hc.2.2
    · rw [set2_get hl, if_neg (by decide)]
    · show 155 - (M.get 2 + 1) < 155 - M.get 2
      omega
theorem st2 {S : Setup} (hB : SetB S) {g : Gm} (hg : g.S = S) {M : MemS} (h : TI S M) (hp : M.get 1 = 2) : Go1 S M (tickM (g.step M) M) ∧ M.get 3 = 0 := by
  have hpl := hB.pl
  have hnb := hB.nb
  have hc : M.get 3 = 0 := by rcases h.ct with h | h | h | h | h | h | h | h <;> omega
  have hl := len48 (by omega) h.bd
  refine ⟨?_, hc⟩
  unfold tickM
  refine mk1 hp rfl rfl rfl (p' := 3) (i' := 0) (j' := 0) (r' := M.get 4) ?_ ?_ ?_ ?_ (h.bd.sm ((Sm.refl).beg (by omega) _ _ _)) (.inr (.inr (.inr (.inl ⟨rfl, by omega, by omega⟩)))) (by omega) (by omega) ?_
  · rw [beg_get hl]; rfl
  · rw [beg_get hl]; rfl
  · rw [beg_get hl]; rfl
  · rw [beg_get hl]; rfl
  · show 150 - (0 : Int) < 151
    omega
theorem force_ok {S : Setup} (hB : SetB S) {t : Stp} (ht : t.S = S) {M : MemS} (h : Bd S M) (h0 : 0 ≤ t.i) (h1 : t.i < S.nb) : Bd S (forceB t (forceA t M)) ∧ Ct M (forceB t (forceA t M)) := by
  have hpl := hB.pl
  subst ht
  have eb := bodyAt_eq h0 h1
  have ha : Bd t.S (forceA t M) ∧ Ct M (forceA t M) := by
    unfold forceA
    split
    · exact ⟨h.sm ((Sm.refl).hi h0 h1 (by omega) (by omega)), (Ct.refl).set (by omega)⟩
    · exact ⟨h, .refl⟩
  unfold forceB
  split
  · next hm => exact ⟨(ha.1.vel hm (by omega) (fun _ => clamp_bd _ _ _ (by decide))).vel hm (by omega) (fun _ => clamp_bd _ _ _ (by decide)), (ha.2.set (by omega)).set (by omega)⟩
  · exact ha
theorem st3 {S : Setup} (hB : SetB S) {g : Gm} (hg : g.S = S) {M : MemS} (h : TI S M) (hp : M.get 1 = 3) : Go1 S M (forceM (g.step M) M) := by
  have hpl := hB.pl
  have hnb := hB.nb
  have hro := hB.ro
  have hc : 0 ≤ M.get 2 ∧ M.get 2 < S.nb := by rcases h.ct with h | h | h | h | h | h | h | h <;> omega
  obtain ⟨hb, ct⟩ := force_ok hB (t := g.step M) hg h.bd hc.1 hc.2
  obtain ⟨c1, c2, c3, c4⟩ := ct48 ct
  unfold forceM forceC
  generalize forceB (g.step M) (forceA (g.step M) M) = M1 at *
  have hl := len48 (by omega) hb
  show Go1 S M (if w64 (M.get 2 + 1) < g.S.nb then M1.set 2 (w64 (M.get 2 + 1)) else _)
  rw [w64_id (by omega), hg]
  split
  · refine mk1 hp rfl rfl rfl (p' := 3) (i' := M.get 2 + 1) (j' := M.get 3) (r' := M.get 4) ?_ ?_ ?_ ?_ (hb.sm ((Sm.refl).low (by omega) (by omega))) (.inr (.inr (.inr (.inl ⟨rfl, by omega, by omega⟩)))) (by omega) (by omega) ?_
    · rw [set2_get hl, if_neg (by decide), c1, hp]
    · rw [set2_get hl, if_pos rfl]
    · rw [set2_get hl, if_neg (by decide), c3]
    · rw [set2_get hl, if_neg (by decide), c4]
    · show 150 - (M.get 2 + 1) < 150 - M.get 2
      omega
  · have hl2 : 48 ≤ (beginM (g.step M) 4 1 M1).cs.length := by unfold beginM; simp only [set_len]; exact hl
    refine mk1 hp rfl rfl rfl (p' := 4) (i' := 0) (j' := 1) (r' := 0) ?_ ?_ ?_ ?_ (hb.sm (((Sm.refl).beg (by omega) _ _ _).low (by omega) (by omega))) (.inr (.inr (.inr (.inr (.inl ⟨rfl, by omega, by omega, by omega, by omega, by omega, by omega, by omega⟩))))) (by omega) (by omega) ?_
    · rw [get_lo _ (by omega) (by omega) hl2, beg_get hl]; rfl
    · rw [get_lo _ (by omega) (by omega) hl2, beg_get hl]; rfl
    · rw [get_lo _ (by omega) (by omega) hl2, beg_get hl]; rfl
    · rw [get_lo _ (by omega) (by omega) hl2]; rfl
    · show 25 * (3 - (0 : Int)) - (5 * 0 + 1) + 70 < 150 - M.get 2
      omega
theorem beg5 {S : Setup} (hB : SetB S) {M M1 : MemS} (t : Stp) (hp : M.get 1 = 4) (hb : Bd S M1) (hl3 : 41 < lf 4 (M.get 2) (M.get 3) (M.get 4)) : Go1 S M ((beginM t 5 0 M1).set 5 1024) := by
  have hpl := hB.pl
  have hnb := hB.nb
  have hl := len48 (by omega) hb
  have hl2 : 48 ≤ (beginM t 5 0 M1).cs.length := by unfold beginM; simp only [set_len]; exact hl
  refine mk1 hp rfl rfl rfl (p' := 5) (i' := 0) (j' := 0) (r' := M1.get 4) ?_ ?_ ?_ ?_ (hb.sm (((Sm.refl).beg (by omega) _ _ _).low (by omega) (by omega))) (.inr (.inr (.inr (.inr (.inr (.inl ⟨rfl, by omega, by omega, by omega, by omega⟩)))))) (fun _ k h0 h1 => by omega) (by omega) ?_
  · rw [get_lo _ (by omega) (by omega) hl2, beg_get hl]; rfl
  · rw [get_lo _ (by omega) (by omega) hl2, beg_get hl]; rfl
  · rw [get_lo _ (by omega) (by omega) hl2, beg_get hl]; rfl
  · rw [get_lo _ (by omega) (by omega) hl2, beg_get hl]; rfl
  · show (5 - (0 : Int)) * 6 - 0 + 11 < _
    omega
theorem st4 {S : Setup} (hB : SetB S) {g : Gm} (hg : g.S = S) {M : MemS} (h : TI S M) (hp : M.get 1 = 4) : Go1 S M (contactF (g.step M) M) := by
  have hpl := hB.pl
  have hnb := hB.nb
  have hro := hB.ro
  have hc : 0 ≤ M.get 2 ∧ M.get 2 < 5 ∧ 1 ≤ M.get 3 ∧ M.get 3 < 5 ∧ 0 ≤ M.get 4 ∧ M.get 4 ≤ S.rounds ∧ (2 ≤ S.nb → M.get 2 < M.get 3 ∧ M.get 3 < S.nb) := by rcases h.ct with h | h | h | h | h | h | h | h <;> omega
  have hlf : lf 4 (M.get 2) (M.get 3) (M.get 4) = 25 * (3 - M.get 4) - (5 * M.get 2 + M.get 3) + 70 := rfl
  obtain ⟨hb, ct⟩ := touch_ok hB h.bd (t := g.step M) hg
  obtain ⟨c1, c2, c3, c4⟩ := ct48 ct
  unfold contactF
  show Go1 S M (if (g.S.nb : Int) < 2 then _ else if M.get 4 ≥ g.S.rounds then _ else _)
  split
  · exact beg5 hB _ hp h.bd (by omega)
  split
  · exact beg5 hB _ hp h.bd (by omega)
  · next hn hr =>
    rw [hg] at hn hr
    show Go1 S M ((((touchF (g.step M) M).set 4 (nextI (M.get 2) (M.get 3) g.S.nb (M.get 4)).1).set 2 (nextI (M.get 2) (M.get 3) g.S.nb (M.get 4)).2.1).set 3 (nextI (M.get 2) (M.get 3) g.S.nb (M.get 4)).2.2)
    generalize touchF (g.step M) M = M1 at *
    rw [hg]
    have hl := len48 (by omega) hb
    have key : ∃ i' j' r', nextI (M.get 2) (M.get 3) S.nb (M.get 4) = (r', i', j') ∧ (0 ≤ i' ∧ i' < j' ∧ j' < S.nb ∧ 0 ≤ r' ∧ r' ≤ S.rounds) ∧ lf 4 i' j' r' < lf 4 (M.get 2) (M.get 3) (M.get 4) := by
      unfold nextI
      rw [w64_id (by omega), w64_id (by omega), w64_id (by omega), w64_id (by omega)]
      split
      · exact ⟨_, _, _, rfl, by omega, by show 25 * (3 - M.get 4) - (5 * M.get 2 + (M.get 3 + 1)) + 70 < _; omega⟩
      split
      · exact ⟨_, _, _, rfl, by omega, by show 25 * (3 - M.get 4) - (5 * (M.get 2 + 1) + (M.get 2 + 2)) + 70 < _; omega⟩
      · exact ⟨_, _, _, rfl, by omega, by show 25 * (3 - (M.get 4 + 1)) - (5 * 0 + 1) + 70 < _; omega⟩
    obtain ⟨i', j', r', e, h1, h2⟩ := key
    rw [e]
    refine mk1 hp rfl rfl rfl (p' := 4) (i' := i') (j' := j') (r' := r') ?_ ?_ ?_ ?_ (hb.sm ((((Sm.refl).low (by omega) (by omega)).low (by omega) (by omega)).low (by omega) (by omega))) (.inr (.inr (.inr (.inr (.inl ⟨rfl, by omega, by omega, by omega, by omega, by omega, by omega, by omega⟩))))) (by omega) (by omega) h2
    · rw [get_ne (by decide), get_ne (by decide), get_ne (by decide), c1, hp]
    · rw [get_ne (by decide), get_eq (by simp only [set_len]; omega)]
    · rw [get_eq (by simp only [set_len]; omega)]
    · rw [get_ne (by decide), get_ne (by decide), get_eq (by omega)]
theorem test_sm {S : Setup} (hp : 0 ≤ S.players) (t : Stp) (M : MemS) : Sm S M (testF t M) ∧ Ct M (testF t M) := by
  unfold testF
  split
  · exact ⟨.refl, .refl⟩
  split
  · split
    · exact ⟨(Sm.refl).low hp (by omega), (Ct.refl).set (by omega)⟩
    · exact ⟨.refl, .refl⟩
  · exact ⟨.refl, .refl⟩
theorem st5 {S : Setup} (hB : SetB S) {g : Gm} (hg : g.S = S) {M : MemS} (h : TI S M) (hp : M.get 1 = 5) : Go1 S M (moveF (g.step M) M) := by
  have hpl := hB.pl
  have hnb := hB.nb
  have hc : 0 ≤ M.get 2 ∧ M.get 2 < S.nb ∧ 0 ≤ M.get 3 ∧ M.get 3 ≤ S.nb := by rcases h.ct with h | h | h | h | h | h | h | h <;> omega
  have hin := h.i5 hp
  have hlf : lf 5 (M.get 2) (M.get 3) (M.get 4) = (5 - M.get 2) * 6 - M.get 3 + 11 := rfl
  unfold moveF
  show Go1 S M (if 0 ≤ M.get 3 ∧ M.get 3 < g.S.nb then (testF (g.step M) M).set 3 (w64 (M.get 3 + 1)) else _)
  rw [w64_id (by omega), hg]
  split
  · obtain ⟨sm, ct⟩ := test_sm (S := S) (by omega) (g.step M) M
    obtain ⟨c1, c2, c3, c4⟩ := ct48 ct
    generalize testF (g.step M) M = M1 at *
    have hb := h.bd.sm sm
    have hl := len48 (by omega) hb
    have sm2 := sm.low (by omega) (i := 3) (v := M.get 3 + 1) (by omega)
    refine mk1 hp rfl rfl rfl (p' := 5) (i' := M.get 2) (j' := M.get 3 + 1) (r' := M.get 4) ?_ ?_ ?_ ?_ (h.bd.sm sm2) (.inr (.inr (.inr (.inr (.inr (.inl ⟨rfl, by omega, by omega, by omega, by omega⟩)))))) (fun _ => hin.sm sm2) (by omega) ?_
    · rw [get_ne (by decide), c1, hp]
    · rw [get_ne (by decide), c2]
    · rw [get_eq (by omega)]
    · rw [get_ne (by decide), c4]
    · show (5 - M.get 2) * 6 - (M.get 3 + 1) + 11 < _
      omega
  · have key : ∃ M1, (if movP S (M.get 2) then travelM (g.step M) M else M) = M1 ∧ Bd S M1 ∧ Ct M M1 ∧ InB S M1 (M.get 2 + 1) := by
      split
      · next hm =>
        obtain ⟨a, b, c⟩ := travel_ok hB h.bd (t := g.step M) hg hm
        exact ⟨_, rfl, a, b, c _ rfl hin⟩
      · next hm =>
        refine ⟨_, rfl, h.bd, .refl, fun k h0 h1 h2 h3 => ?_⟩
        by_cases e : k = M.get 2
        · subst e
          exact absurd ⟨⟨h0, h2⟩, h3⟩ hm
        · exact hin k h0 (by omega) h2 h3
    obtain ⟨M1, e, hb, ct, hi⟩ := key
    have e2 : (if movP (g.step M).S (g.step M).i then travelM (g.step M) M else M) = M1 := by
      show (if movP g.S (M.get 2) then travelM (g.step M) M else M) = M1
      rw [hg]; exact e
    rw [e2]
    obtain ⟨c1, c2, c3, c4⟩ := ct48 ct
    have hl := len48 (by omega) hb
    unfold moveA
    show Go1 S M (if w64 (M.get 2 + 1) < g.S.nb then ((M1.set 2 (w64 (M.get 2 + 1))).set 3 0).set 5 1024 else _)
    rw [w64_id (by omega), hg]
    split
    · have sm2 := (((Sm.refl (S := S) (M := M1)).low (by omega) (i := 2) (v := M.get 2 + 1) (by omega)).low (by omega) (i := 3) (v := 0) (by omega)).low (by omega) (i := 5) (v := 1024) (by omega)
      refine mk1 hp rfl rfl rfl (p' := 5) (i' := M.get 2 + 1) (j' := 0) (r' := M.get 4) ?_ ?_ ?_ ?_ (hb.sm sm2) (.inr (.inr (.inr (.inr (.inr (.inl ⟨rfl, by omega, by omega, by omega, by omega⟩)))))) (fun _ => hi.sm sm2) (by omega) ?_
      · rw [get_ne (by decide), get_ne (by decide), get_ne (by decide), c1, hp]
      · rw [get_ne (by decide), get_ne (by decide), get_eq (by omega)]
      · rw [get_ne (by decide), get_eq (by simp only [set_len]; omega)]
      · rw [get_ne (by decide), get_ne (by decide), get_ne (by decide), c4]
      · show (5 - (M.get 2 + 1)) * 6 - 0 + 11 < _
        omega
    · have sm2 := ((Sm.refl (S := S) (M := M1)).beg (by omega) (g.step M) 6 0).low (by omega) (i := 5) (v := 0) (by omega)
      refine mk1 hp rfl rfl rfl (p' := 6) (i' := 0) (j' := 0) (r' := M1.get 4) ?_ ?_ ?_ ?_ (hb.sm sm2) (.inr (.inr (.inr (.inr (.inr (.inr (.inl ⟨rfl, by omega, by omega, rfl⟩))))))) (by omega) (fun _ => (hi.le (by omega)).sm sm2) ?_
      · rw [get_ne (by decide), beg_get hl]; rfl
      · rw [get_ne (by decide), beg_get hl]; rfl
      · rw [get_ne (by decide), beg_get hl]; rfl
      · rw [get_ne (by decide), beg_get hl]; rfl
      · show 11 - (0 : Int) < _
        omega
theorem st6 {S : Setup} (hB : SetB S) {g : Gm} (hg : g.S = S) {M : MemS} (h : TI S M) (hp : M.get 1 = 6) : Go1 S M (hitM (g.step M) M) ∧ M.get 3 = 0 := by
  have hpl := hB.pl
  have hnb := hB.nb
  have hc : 0 ≤ M.get 2 ∧ M.get 2 ≤ S.nb ∧ M.get 3 = 0 := by rcases h.ct with h | h | h | h | h | h | h | h <;> omega
  have hin := h.i6 (by omega)
  have hl := len48 (by omega) h.bd
  refine ⟨?_, hc.2.2⟩
  unfold hitM
  show Go1 S M (if bodyAt g.S (M.get 2) < 0 then _ else M.set 2 (w64 (M.get 2 + 1)))
  rw [w64_id (by omega), hg]
  split
  · have sm2 := (Sm.refl (S := S) (M := M)).beg (by omega) (g.step M) 7 0
    refine mk1 hp rfl rfl rfl (p' := 7) (i' := 0) (j' := 0) (r' := M.get 4) ?_ ?_ ?_ ?_ (h.bd.sm sm2) (.inr (.inr (.inr (.inr (.inr (.inr (.inr ⟨rfl, by omega, by omega⟩))))))) (by omega) (fun _ => hin.sm sm2) ?_
    · rw [beg_get hl]; rfl
    · rw [beg_get hl]; rfl
    · rw [beg_get hl]; rfl
    · rw [beg_get hl]; rfl
    · show 5 - (0 : Int) < 11 - M.get 2
      omega
  · next hn =>
    rw [bodyAt_neg hc.1 (by omega)] at hn
    have sm2 := (Sm.refl (S := S) (M := M)).low (by omega) (i := 2) (v := M.get 2 + 1) (by omega)
    refine mk1 hp rfl rfl rfl (p' := 6) (i' := M.get 2 + 1) (j' := 0) (r' := M.get 4) ?_ ?_ ?_ ?_ (h.bd.sm sm2) (.inr (.inr (.inr (.inr (.inr (.inr (.inl ⟨rfl, by omega, by omega, rfl⟩))))))) (by omega) (fun _ => hin.sm sm2) ?_
    · rw [set2_get hl, if_neg (by decide), hp]
    · rw [set2_get hl, if_pos rfl]
    · rw [set2_get hl, if_neg (by decide)]; exact hc.2.2
    · rw [set2_get hl, if_neg (by decide)]
    · show 11 - (M.get 2 + 1) < 11 - M.get 2
      omega
theorem zeroTo_len (M : MemS) : ∀ n, (zeroTo M n).cs.length = M.cs.length
  | 0 => rfl
  | n + 1 => by rw [zeroTo, set_len, zeroTo_len M n]
theorem zeroTo_get {M : MemS} (hl : 48 ≤ M.cs.length) : ∀ n : Nat, n ≤ 10 → ∀ j : Int, 1 ≤ j → j ≤ n → (zeroTo M n).get j = 0
  | 0, _, j, h1, h2 => by omega
  | n + 1, hn, j, h1, h2 => by
    rw [zeroTo, get_lo _ (by omega) (by omega) (by rw [zeroTo_len]; exact hl)]
    split
    · rfl
    · exact zeroTo_get hl n (by omega) j h1 (by omega)
theorem zeroTo_sm {S : Setup} (hp : 0 ≤ S.players) (M : MemS) : ∀ n : Nat, n ≤ 10 → Sm S M (zeroTo M n)
  | 0, _ => .refl
  | n + 1, hn => by
    rw [zeroTo]
    exact (zeroTo_sm hp M n (by omega)).low hp (by omega)
theorem st7 {S : Setup} (hB : SetB S) {g : Gm} (hg : g.S = S) {M : MemS} (h : TI S M) (hp : M.get 1 = 7) : (trE g M = true ∧ TE S (restM (g.step M) M) ∧ InB S (restM (g.step M) M) S.nb) ∨ (trE g M = false ∧ Go1 S M (restM (g.step M) M)) := by
  have hpl := hB.pl
  have hnb := hB.nb
  have hc : 0 ≤ M.get 2 ∧ M.get 2 < S.nb := by rcases h.ct with h | h | h | h | h | h | h | h <;> omega
  have hin := h.i6 (by omega)
  have key : Sm S M (restA (g.step M) M) ∧ Ct M (restA (g.step M) M) := by
    unfold restA
    have eb := bodyAt_eq hc.1 hc.2
    have eg : bodyAt (g.step M).S (g.step M).i = bodyAt S (M.get 2) := by rw [← hg]
    rw [eg]
    split
    · exact ⟨(Sm.refl).hi hc.1 hc.2 (by omega) (by omega), (Ct.refl).set (by omega)⟩
    · exact ⟨.refl, .refl⟩
  obtain ⟨sm, ct⟩ := key
  obtain ⟨c1, c2, c3, c4⟩ := ct48 ct
  unfold restM restC trE restB
  rw [if_pos hp]
  generalize restA (g.step M) M = M1 at *
  have hb := h.bd.sm sm
  have hl := len48 (by omega) hb
  show ((if w64 (M.get 2 + 1) < g.S.nb then false else true) = true ∧ TE S (if w64 (M.get 2 + 1) < g.S.nb then M1.set 2 (w64 (M.get 2 + 1)) else _) ∧ InB S (if w64 (M.get 2 + 1) < g.S.nb then M1.set 2 (w64 (M.get 2 + 1)) else _) S.nb) ∨ ((if w64 (M.get 2 + 1) < g.S.nb then false else true) = false ∧ Go1 S M (if w64 (M.get 2 + 1) < g.S.nb then M1.set 2 (w64 (M.get 2 + 1)) else _))
  rw [w64_id (by omega), hg]
  by_cases hn : M.get 2 + 1 < S.nb
  · simp only [if_pos hn]
    refine .inr ⟨by first | rfl | trivial, ?_⟩
    have sm2 := sm.low (by omega) (i := 2) (v := M.get 2 + 1) (by omega)
    refine mk1 hp rfl rfl rfl (p' := 7) (i' := M.get 2 + 1) (j' := M.get 3) (r' := M.get 4) ?_ ?_ ?_ ?_ (h.bd.sm sm2) (.inr (.inr (.inr (.inr (.inr (.inr (.inr ⟨rfl, by omega, by omega⟩))))))) (by omega) (fun _ => hin.sm sm2) ?_
    · rw [set2_get hl, if_neg (by decide), c1, hp]
    · rw [set2_get hl, if_pos rfl]
    · rw [set2_get hl, if_neg (by decide), c3]
    · rw [set2_get hl, if_neg (by decide), c4]
    · show 5 - (M.get 2 + 1) < 5 - M.get 2
      omega
  · simp only [if_neg hn]
    refine .inl ⟨by first | rfl | trivial, ?_⟩
    have sm2 := (sm.low (by omega) (i := 0) (v := w64 (M1.get 0 + 1)) (by omega)).trans (zeroTo_sm (by omega) _ 10 (by omega))
    exact ⟨⟨h.bd.sm sm2, zeroTo_get (by rw [set_len]; exact hl) 10 (by omega)⟩, hin.sm sm2⟩
theorem stepB {S : Setup} (hB : SetB S) {g : Gm} (hg : g.S = S) (he : g.e0 < 0 ∧ g.e1 < 0 ∧ g.e2 < 0) {M : MemS} (h : TI S M) : okT g M ∧ ((trE g M = true ∧ TE S (trM g M) ∧ InB S (trM g M) S.nb) ∨ (trE g M = false ∧ Go1 S M (trM g M))) := by
  have hp : 0 ≤ M.get 1 ∧ M.get 1 ≤ 7 := by rcases h.ct with h | h | h | h | h | h | h | h <;> omega
  have hE : M.get 1 ≠ 7 → trE g M = false := fun h => by unfold trE; rw [if_neg h]
  by_cases e : M.get 1 = 0
  · exact ⟨⟨hp, fun h => by omega⟩, .inr ⟨hE (by omega), by unfold trM; rw [if_pos e]; exact st0 hB hg h e⟩⟩
  by_cases e1 : M.get 1 = 1
  · have := st1 hB hg h e1
    exact ⟨⟨hp, fun _ => ⟨this.2, he⟩⟩, .inr ⟨hE (by omega), by unfold trM; rw [if_neg e, if_pos e1]; exact this.1⟩⟩
  by_cases e2 : M.get 1 = 2
  · have := st2 hB hg h e2
    exact ⟨⟨hp, fun _ => ⟨this.2, he⟩⟩, .inr ⟨hE (by omega), by unfold trM; rw [if_neg e, if_neg e1, if_pos e2]; exact this.1⟩⟩
  by_cases e3 : M.get 1 = 3
  · exact ⟨⟨hp, fun h => by omega⟩, .inr ⟨hE (by omega), by unfold trM; rw [if_neg e, if_neg e1, if_neg e2, if_pos e3]; exact st3 hB hg h e3⟩⟩
  by_cases e4 : M.get 1 = 4
  · exact ⟨⟨hp, fun h => by omega⟩, .inr ⟨hE (by omega), by unfold trM; rw [if_neg e, if_neg e1, if_neg e2, if_neg e3, if_pos e4]; exact st4 hB hg h e4⟩⟩
  by_cases e5 : M.get 1 = 5
  · exact ⟨⟨hp, fun h => by omega⟩, .inr ⟨hE (by omega), by unfold trM; rw [if_neg e, if_neg e1, if_neg e2, if_neg e3, if_neg e4, if_pos e5]; exact st5 hB hg h e5⟩⟩
  by_cases e6 : M.get 1 = 6
  · have := st6 hB hg h e6
    exact ⟨⟨hp, fun _ => ⟨this.2, he⟩⟩, .inr ⟨hE (by omega), by unfold trM; rw [if_neg e, if_neg e1, if_neg e2, if_neg e3, if_neg e4, if_neg e5, if_pos e6]; exact this.1⟩⟩
  have e7 : M.get 1 = 7 := by omega
  refine ⟨⟨hp, fun h => by omega⟩, ?_⟩
  have : trM g M = restM (g.step M) M := by unfold trM; rw [if_neg e, if_neg e1, if_neg e2, if_neg e3, if_neg e4, if_neg e5, if_neg e6]
  rw [this]
  exact st7 hB hg h e7
theorem lf_pos {S : Setup} (hB : SetB S) {M : MemS} (h : TI S M) : 0 ≤ lfM M := by
  have hpl := hB.pl
  have hnb := hB.nb
  have hro := hB.ro
  unfold lfM
  rcases h.ct with h | h | h | h | h | h | h | h <;> (rw [h.1]; unfold lf)
  · rw [if_pos rfl]; omega
  · rw [if_neg (by decide), if_pos rfl]; omega
  · rw [if_neg (by decide), if_neg (by decide), if_pos rfl]; omega
  · rw [if_neg (by decide), if_neg (by decide), if_neg (by decide), if_pos rfl]; omega
  · rw [if_neg (by decide), if_neg (by decide), if_neg (by decide), if_neg (by decide), if_pos rfl]; omega
  · rw [if_neg (by decide), if_neg (by decide), if_neg (by decide), if_neg (by decide), if_neg (by decide), if_pos rfl]; omega
  · rw [if_neg (by decide), if_neg (by decide), if_neg (by decide), if_neg (by decide), if_neg (by decide), if_neg (by decide), if_pos rfl]; omega
  · rw [if_neg (by decide), if_neg (by decide), if_neg (by decide), if_neg (by decide), if_neg (by decide), if_neg (by decide), if_neg (by decide)]; omega
theorem runB {S : Setup} (hB : SetB S) {g : Gm} (hg : g.S = S) (he : g.e0 < 0 ∧ g.e1 < 0 ∧ g.e2 < 0) (n : Nat) : ∀ (M : MemS), TI S M → lfM M ≤ n → ∃ m : Nat, m ≤ n ∧ goodRun g (m + 1) M ∧ TE S (runM g (m + 1) M) ∧ InB S (runM g (m + 1) M) S.nb := by
  induction n with
  | zero =>
    intro M h hl
    obtain ⟨ok, ⟨e, h1, h2⟩ | ⟨e, h1, h2⟩⟩ := stepB hB hg he h
    · exact ⟨0, Nat.zero_le _, ⟨ok, .inl ⟨rfl, e⟩⟩, h1, h2⟩
    · have := lf_pos hB h1
      omega
  | succ n ih =>
    intro M h hl
    obtain ⟨ok, ⟨e, h1, h2⟩ | ⟨e, h1, h2⟩⟩ := stepB hB hg he h
    · exact ⟨0, Nat.zero_le _, ⟨ok, .inl ⟨rfl, e⟩⟩, h1, h2⟩
    · obtain ⟨m, hm, hg1, hg2⟩ := ih _ h1 (by omega)
      exact ⟨m + 1, by omega, ⟨ok, .inr ⟨e, hg1⟩⟩, by rw [runM]; exact hg2⟩
theorem TE.ti {S : Setup} (hB : SetB S) {M : MemS} (h : TE S M) : TI S M ∧ lfM M = 159 := by
  have h1 := h.z 1 (by omega) (by omega)
  have h2 := h.z 2 (by omega) (by omega)
  have h3 := h.z 3 (by omega) (by omega)
  have h4 := h.z 4 (by omega) (by omega)
  have hpl := hB.pl
  refine ⟨⟨h.bd, by rw [h1, h2, h3, h4]; exact .inl ⟨rfl, by omega, by omega⟩, fun e => by omega, fun e => by omega⟩, ?_⟩
  unfold lfM
  rw [h1, h2, h3, h4]
  rfl
/-- a tick -/
theorem tickB {S : Setup} (hB : SetB S) {g : Gm} (hg : g.S = S) (he : g.e0 < 0 ∧ g.e1 < 0 ∧ g.e2 < 0) {M : MemS} (h : TE S M) : ∃ m : Nat, m ≤ 159 ∧ goodRun g (m + 1) M ∧ TE S (runM g (m + 1) M) ∧ InB S (runM g (m + 1) M) S.nb := by
  obtain ⟨h1, h2⟩ := h.ti hB
  exact runB hB hg he 159 M h1 (by omega)
end Go.Proofs.YtpkincoclhpcgaaGreatDoor
