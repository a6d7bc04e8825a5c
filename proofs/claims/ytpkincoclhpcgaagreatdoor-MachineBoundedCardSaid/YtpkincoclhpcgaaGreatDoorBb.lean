/- Bounded: the generated setup, the bound, the first memory, what a motion is after a tick. -/
import Derived.Test.YtpkincoclhpcgaaGreatDoorBa
namespace Go.Proofs.YtpkincoclhpcgaaGreatDoor
set_option linter.unusedSimpArgs false
set_option linter.unusedVariables false
open Go.RowKit
def bndN (p n r f : Int) : Int := IntKind.i64.wrap ((IntKind.i64.wrap ((IntKind.i64.wrap ((IntKind.i64.wrap ((IntKind.i64.wrap (p + (IntKind.i64.wrap ((IntKind.i64.wrap ((IntKind.i64.wrap (p + 1)) + n)) * (IntKind.i64.wrap (f + 3)))))) + (IntKind.i64.wrap (2 * n)))) + 3)) + (IntKind.i64.wrap ((IntKind.i64.wrap ((IntKind.i64.wrap (r * n)) * (IntKind.i64.wrap (n - 1)))).tdiv 2)))) + (IntKind.i64.wrap (n * (IntKind.i64.wrap (n + 1)))))
theorem boundI_eq (S : Setup) : boundI S = bndN S.players S.nb S.rounds S.fuel := rfl
theorem bound_bd {S : Setup} (hB : SetB S) (hf : S.fuel = 60) : 197 ≤ boundI S ∧ boundI S ≤ 1000000 := by
  have hp := hB.pl
  have hn := hB.nb
  have hr := hB.ro
  rw [boundI_eq, hf]
  have key : ∀ p : Fin 3, ∀ n : Fin 5, ∀ r : Fin 3, 197 ≤ bndN ((p.1 + 1 : Nat) : Int) ((n.1 + 1 : Nat) : Int) ((r.1 + 1 : Nat) : Int) 60 ∧ bndN ((p.1 + 1 : Nat) : Int) ((n.1 + 1 : Nat) : Int) ((r.1 + 1 : Nat) : Int) 60 ≤ 1000000 := by decide +kernel
  have := key ⟨S.players.toNat - 1, by omega⟩ ⟨S.nb - 1, by omega⟩ ⟨S.rounds.toNat - 1, by omega⟩
  dsimp only at this
  rwa [show ((S.players.toNat - 1 + 1 : Nat) : Int) = S.players by omega, show S.nb - 1 + 1 = S.nb by omega, show ((S.rounds.toNat - 1 + 1 : Nat) : Int) = S.rounds by omega] at this
theorem invs_bd (k : Nat) (h : k < 5) : 0 ≤ ([1024, 1024, 512, 2048, 0] : List Int).getD k 0 := by
  have : ∀ k < 5, 0 ≤ ([1024, 1024, 512, 2048, 0] : List Int).getD k 0 := by decide +kernel
  exact this k h
theorem setB {xs : List Int} {F : HL} {A : Option Addr} {n : Nat} (hl : ArgL F A n xs) {S : Setup} {T : HL} (h : SetG xs S T) : SetB S := by
  have h1 := sCnt_bd hl
  have h2 := sPl_bd hl
  have hn := h.nb
  have k2 := kv_bd hl 2
  obtain ⟨e1, e2, e3, e4, e5, e6, e7, e8⟩ := h.nums
  refine ⟨by rw [h.pl]; exact h2, by omega, by rw [e7]; omega, by rw [e6]; omega, by rw [e1]; exact ⟨by show (-12000 : Int) ≤ 12000; decide, by show (-9000 : Int) ≤ 9000; decide⟩, fun k hk => ?_⟩
  obtain ⟨A', c, e⟩ := h.bod k hk
  rw [e]
  have m1 := kv_bd hl (4 + 2 * k)
  have m2 := kv_bd hl (5 + 2 * k)
  unfold bodyG bN bM
  dsimp only
  refine ⟨invs_bd _ (by omega), ?_⟩
  omega
-- the first memory
theorem getD_set_ne {l : List Int} {i j : Nat} {v : Int} (h : i ≠ j) : (l.set i v).getD j 0 = l.getD j 0 := by
  rw [List.getD_eq_getElem?_getD, List.getD_eq_getElem?_getD, List.getElem?_set_ne h]
theorem getD_set_eq {l : List Int} {i : Nat} {v : Int} (h : i < l.length) : (l.set i v).getD i 0 = v := by
  rw [List.getD_eq_getElem?_getD, List.getElem?_set_self h]; rfl
theorem iniL_low {S : Setup} (hp : 0 ≤ S.players) {j : Nat} (hj : j < 48) : ∀ i, i ≤ S.nb → (iniL S i).getD j 0 = 0
  | 0, _ => by
    rw [iniL, List.getD_eq_getElem?_getD, List.getElem?_replicate]
    split <;> rfl
  | i + 1, hi => by
    have hb := bodyAt_eq (S := S) (k := (i : Int)) (by omega) (by omega)
    rw [iniL, getD_set_ne (by omega), getD_set_ne (by omega), getD_set_ne (by omega), getD_set_ne (by omega), getD_set_ne (by omega), getD_set_ne (by omega)]
    exact iniL_low hp hj i (by omega)
theorem iniL_mot {S : Setup} (hp : 0 ≤ S.players) {k : Nat} (hk : k < S.nb) : ∀ i, k < i → i ≤ S.nb → motC S (iniL S i) k = (S.body k).mot
  | 0, h, _ => absurd h (Nat.not_lt_zero _)
  | i + 1, h, hi => by
    have hb := bodyAt_eq (S := S) (k := (i : Int)) (by omega) (by omega)
    have hb' := bodyAt_eq (S := S) (k := (k : Int)) (by omega) (by omega)
    by_cases e : k = i
    · subst e
      have hz : (sizeOf S).toNat = 48 + 4 * S.players.toNat + 8 * S.nb := by unfold sizeOf; omega
      unfold motC
      rw [iniL]
      have l : (iniL S k).length = 48 + 4 * S.players.toNat + 8 * S.nb := by rw [iniL_len, hz]
      have z0 : (bodyAt S k).toNat = 48 + 4 * S.players.toNat + 8 * k := by omega
      have z1 : (bodyAt S k + 1).toNat = 48 + 4 * S.players.toNat + 8 * k + 1 := by omega
      have z2 : (bodyAt S k + 2).toNat = 48 + 4 * S.players.toNat + 8 * k + 2 := by omega
      have z3 : (bodyAt S k + 3).toNat = 48 + 4 * S.players.toNat + 8 * k + 3 := by omega
      have z4 : (bodyAt S k + 4).toNat = 48 + 4 * S.players.toNat + 8 * k + 4 := by omega
      have z5 : (bodyAt S k + 5).toNat = 48 + 4 * S.players.toNat + 8 * k + 5 := by omega
      rw [z0, z1, z2, z3, z4, z5]
      congr 1
      · rw [getD_set_ne (by omega), getD_set_ne (by omega), getD_set_ne (by omega), getD_set_ne (by omega), getD_set_ne (by omega), getD_set_eq (by omega)]
      · rw [getD_set_ne (by omega), getD_set_ne (by omega), getD_set_ne (by omega), getD_set_ne (by omega), getD_set_eq (by simp only [List.length_set]; omega)]
      · rw [getD_set_ne (by omega), getD_set_ne (by omega), getD_set_ne (by omega), getD_set_eq (by simp only [List.length_set]; omega)]
      · rw [getD_set_ne (by omega), getD_set_ne (by omega), getD_set_eq (by simp only [List.length_set]; omega)]
    · have ih := iniL_mot hp hk i (by omega) (by omega)
      rw [← ih]
      unfold motC
      rw [iniL]
      congr 1
      · rw [getD_set_ne (by omega), getD_set_ne (by omega), getD_set_ne (by omega), getD_set_ne (by omega), getD_set_ne (by omega), getD_set_ne (by omega)]
      · rw [getD_set_ne (by omega), getD_set_ne (by omega), getD_set_ne (by omega), getD_set_ne (by omega), getD_set_ne (by omega), getD_set_ne (by omega)]
      · rw [getD_set_ne (by omega), getD_set_ne (by omega), getD_set_ne (by omega), getD_set_ne (by omega), getD_set_ne (by omega), getD_set_ne (by omega)]
      · rw [getD_set_ne (by omega), getD_set_ne (by omega), getD_set_ne (by omega), getD_set_ne (by omega), getD_set_ne (by omega), getD_set_ne (by omega)]
theorem motC_eq {S : Setup} (hp : 0 ≤ S.players) {M : MemS} (hl : (M.cs.length : Int) = sizeOf S) {k : Nat} (hk : k < S.nb) : motC S M.cs k = motM S M (k : Int) := by
  have hb := bodyAt_eq (S := S) (k := (k : Int)) (by omega) (by omega)
  have r : ∀ c : Nat, c < 4 → M.get (bodyAt S k + c) = M.cs.getD ((bodyAt S k).toNat + c) 0 := fun c hc => by
    have := body_in (S := S) (M := M) hp hl (k := (k : Int)) (c := c) (by omega) (by omega) (by omega)
    unfold MemS.get
    rw [if_pos this]
    congr 1
    omega
  have r0 := r 0 (by omega)
  have r1 := r 1 (by omega)
  have r2 := r 2 (by omega)
  have r3 := r 3 (by omega)
  unfold motC motM
  rw [Int.toNat_natCast]
  congr 1
  · exact r0.symm
  · exact r1.symm
  · exact r2.symm
  · exact r3.symm
theorem ini_te {S : Setup} (hB : SetB S) : TE S ⟨iniL S S.nb, [], 0⟩ := by
  have hp := hB.pl
  have hl : ((⟨iniL S S.nb, [], 0⟩ : MemS).cs.length : Int) = sizeOf S := by
    show ((iniL S S.nb).length : Int) = _
    rw [iniL_len]
    unfold sizeOf
    omega
  refine ⟨⟨hl, fun k h0 h1 => ?_⟩, fun j h1 h2 => ?_⟩
  · obtain ⟨n, rfl⟩ : ∃ n : Nat, k = n := ⟨k.toNat, by omega⟩
    rw [← motC_eq (by omega) hl (by omega), iniL_mot (by omega) (by omega) S.nb (by omega) (Nat.le_refl _)]
    have hs := hB.bod n (by omega)
    exact ⟨fun _ => by rw [Int.toNat_natCast], fun _ => by exact ⟨hs.2.2.2.1, hs.2.2.2.2⟩⟩
  · unfold MemS.get
    split
    · exact iniL_low (by omega) (by omega) _ (Nat.le_refl _)
    · rfl
theorem mot_ok {S : Setup} (hB : SetB S) {M : MemS} (h : TE S M) (hi : InB S M S.nb) {k : Nat} (hk : k < S.nb) : ∃ m, motC S M.cs k = m ∧ (((S.body k).mot.inv = 0 ∧ m = (S.body k).mot) ∨ (0 < m.inv ∧ (S.box.x0 ≤ m.px ∧ m.px ≤ S.box.x1) ∧ (S.box.y0 ≤ m.py ∧ m.py ≤ S.box.y1) ∧ absI m.vx ≤ 16384 ∧ absI m.vy ≤ 16384)) := by
  have hp := hB.pl
  refine ⟨_, rfl, ?_⟩
  rw [motC_eq (by omega) h.bd.len hk]
  have hb := h.bd.bod k (by omega) (by omega)
  have hs := hB.bod k hk
  rw [show (S.body k) = S.body ((k : Int)).toNat by rw [Int.toNat_natCast]] at hs ⊢
  have ab : ∀ v : Int, -16384 ≤ v ∧ v ≤ 16384 → absI v ≤ 16384 := fun v hv => by
    unfold absI
    split
    · rw [w64_id (by omega)]; omega
    · omega
  rcases Int.lt_or_eq_of_le hs.1 with hv | hv
  · right
    have h2 := hi k (by omega) (by omega) (by omega) hv
    have h3 := hb.2 hv
    exact ⟨hv, h2.1, h2.2, ab _ h3.1, ab _ h3.2⟩
  · left
    exact ⟨hv.symm, hb.1 hv.symm⟩
end Go.Proofs.YtpkincoclhpcgaaGreatDoor
