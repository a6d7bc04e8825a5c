/- Contracts, printed by a program. -/
import Derived.Test.YtampdcgphdnnhaaGreatDoorT28
namespace Go.Proofs.YtampdcgphdnnhaaGreatDoor
set_option linter.unusedSimpArgs false
set_option linter.unusedVariables false
open Go.RowKit
def rowN (pl : Int) (xs : List Int) (t : Int) (q : Nat) : Int := if xs.length > 0 then around (xs.getD ((t * pl + (q : Int)) % (xs.length : Int)).toNat 0) 1000000 else 0
def rowOf (n : Int) : Inp := ⟨n % 3 - 1, n / 3 % 3 - 1, if n / 9 % 3 = 0 then n / 27 % 4 else 0⟩
def rowI (pl : Int) (xs : List Int) (t : Int) (q : Nat) : Inp := rowOf (rowN pl xs t q)
def rowL (pl : Int) (xs : List Int) (t : Int) (n : Nat) : List Inp := (List.range n).map (rowI pl xs t)
theorem rowL_len (pl : Int) (xs : List Int) (t : Int) (n : Nat) : (rowL pl xs t n).length = n := by simp [rowL]
theorem rowL_succ (pl : Int) (xs : List Int) (t : Int) (n : Nat) : rowL pl xs t (n + 1) = rowL pl xs t n ++ [rowI pl xs t n] := by simp [rowL, List.range_succ]
theorem rowL_get {pl : Int} {xs : List Int} {t : Int} {n i : Nat} (h : i < n) : (rowL pl xs t n).getD i dI = rowI pl xs t i := by simp [rowL, h]
theorem rowN_bd {F : HL} {A : Option Addr} {n : Nat} {xs : List Int} (h : ArgL F A n xs) (pl t : Int) (q : Nat) : 0 ≤ rowN pl xs t q ∧ rowN pl xs t q < 1000000 := by
  unfold rowN
  split
  · next hi =>
    rw [h.len] at hi
    have h1 := Int.emod_nonneg (t * pl + (q : Int)) (show (n : Int) ≠ 0 by omega)
    have h2 := Int.emod_lt_of_pos (t * pl + (q : Int)) (show (0 : Int) < n by omega)
    rw [h.len]
    obtain ⟨_, _, _, _, _, _, _, _, _, _, hr⟩ := h.at (k := ((t * pl + (q : Int)) % (n : Int)).toNat) (by omega)
    exact around_bd hr 1000000 (by decide)
  · omega

set_option maxHeartbeats 1000000 in
set_option maxRecDepth 100000 in
theorem row_any (S : Setup) (A : Option Addr) (n cap : Nat) (xs : List Int) (t : Int) (F : HL) (hl : ArgL F A n xs) (hn : n ≤ 9223372036854775807) (hp : 0 ≤ S.players ∧ S.players ≤ 1000000) (ht : 0 ≤ t ∧ t ≤ 1000000) : Sp Tryz.prog 15 #[(Setup.v S), .slice A n cap, vI t] [] F (fun u H' => ∃ x : Option Addr × Nat × HL, H' = ap [] [x.2.2] ∧ (u = .slice x.1 S.players.toNat x.2.1 ∧ SlIs inpE 57 (rowL S.players xs t S.players.toNat) x.1 x.2.1 x.2.2 ∧ zeroOff x.1)) := by
  have hm : 0 ≤ t * S.players ∧ t * S.players ≤ 1000000000000 := ⟨Int.mul_nonneg ht.1 hp.1, Int.le_trans (Int.mul_le_mul ht.2 hp.2 hp.1 (by decide)) (by decide)⟩
  refine Sp.run Tryz.func15 rfl mn (A := []) (Ts := []) rfl fun w0 => ?_
  refine RN.go 18 [] fun n1 => RN.nt <| RN.loop (σ := Nat × Option Addr × Nat × HL) (fun ⟨q, A_, c_, T_⟩ => ⟨[(1, .slice A n cap), (2, vI t), (3, vP (n1 + 0) 0), (7, .slice A_ q c_), (8, vI (q : Int))], [((n1 + 0), .lit (Setup.l S) 31 (0, 0))], [T_], (q : Int) ≤ S.players ∧ SlIs inpE 57 (rowL S.players xs t q) A_ c_ T_ ∧ zeroOff A_, S.players.toNat - q⟩) (0, none, 0, []) [0] [0] (⟨by show (0 : Int) ≤ _; omega, SlIs.nil _ _, trivial⟩) ?_
  rintro ⟨q, A_, c_, T_⟩ ⟨hi_, hs_, hz_⟩ mt3
  refine RN.go 9 [.own 0] fun _ => RN.em ((q : Int) < S.players) 14 (fun h4 => ?_) fun h4 => ?_
  · refine RN.go 18 [] fun _ => RN.em ((n : Int) > 0) 19 (fun h5 => ?_) fun h5 => ?_
    · refine RN.goP 12 [.own 0, .nw, .nw, .nw] [0 ≤ (t * S.players) + (q : Int) ∧ (0 : Int) < (n : Int) ∧ (t * S.players) + (q : Int) ≤ 9223372036854775807, I64 ((t * S.players) + (q : Int)), I64 (t * S.players)] fun _ => ?_
      have hix1 := Int.emod_nonneg (t * S.players + (q : Int)) (show (n : Int) ≠ 0 by omega)
      have hix2 := Int.emod_lt_of_pos (t * S.players + (q : Int)) (show (0 : Int) < n by omega)
      obtain ⟨qx6, ox6, Nx6, gx6, tyx6, fzx6, hAx6, hqx6, hox6, hgx6, hrx6⟩ := hl.at (k := ((t * S.players + (q : Int)) % (n : Int)).toNat) (by omega)
      refine RN.sv 20 (congrArg (fun v_ => (.slice v_ n cap : Value)) hAx6) <| RN.ro (fun _ => (mc hqx6 mn)) <| RN.goP 2 [.ix ((((t * S.players) + (q : Int)) % (n : Int)).toNat), .rorow 0 (ox6 + ((((t * S.players) + (q : Int)) % (n : Int)).toNat)) 0] [(ox6 + ((((t * S.players) + (q : Int)) % (n : Int)).toNat) * 1) = (ox6 + ((((t * S.players) + (q : Int)) % (n : Int)).toNat)) * 1 + 0 ∧ (ox6 + ((((t * S.players) + (q : Int)) % (n : Int)).toNat)) < Nx6, ((t * S.players) + (q : Int)) % (n : Int) = (((((t * S.players) + (q : Int)) % (n : Int)).toNat : Nat) : Int) ∧ (((t * S.players) + (q : Int)) % (n : Int)).toNat < n] fun _ => RN.sv 31 (congrArg (fun v_ => (v_ : Value)) hgx6) <| RN.cp (around_any (xs.getD (((t * S.players + (q : Int)) % (n : Int)).toNat) 0) 1000000 (by decide) _) ?_
      have hA7 := around_bd (n := xs.getD (((t * S.players + (q : Int)) % (n : Int)).toNat) 0) hrx6 1000000 (by decide)
      refine RN.go 4 [] fun _ => RN.goP 22 [.nw, .nw, .nw, .nw, .nw, .own 0, .own 0, .own 0, .nw, .nw] [0 ≤ (around (xs.getD (((t * S.players + (q : Int)) % (n : Int)).toNat) 0) 1000000) / 9 ∧ (0 : Int) < 3 ∧ (around (xs.getD (((t * S.players + (q : Int)) % (n : Int)).toNat) 0) 1000000) / 9 ≤ 9223372036854775807, 0 ≤ around (xs.getD (((t * S.players + (q : Int)) % (n : Int)).toNat) 0) 1000000 ∧ (0 : Int) < 9 ∧ around (xs.getD (((t * S.players + (q : Int)) % (n : Int)).toNat) 0) 1000000 ≤ 9223372036854775807, I64 ((((around (xs.getD (((t * S.players + (q : Int)) % (n : Int)).toNat) 0) 1000000) / 3) % 3) - 1), 0 ≤ (around (xs.getD (((t * S.players + (q : Int)) % (n : Int)).toNat) 0) 1000000) / 3 ∧ (0 : Int) < 3 ∧ (around (xs.getD (((t * S.players + (q : Int)) % (n : Int)).toNat) 0) 1000000) / 3 ≤ 9223372036854775807, 0 ≤ around (xs.getD (((t * S.players + (q : Int)) % (n : Int)).toNat) 0) 1000000 ∧ (0 : Int) < 3 ∧ around (xs.getD (((t * S.players + (q : Int)) % (n : Int)).toNat) 0) 1000000 ≤ 9223372036854775807, I64 (((around (xs.getD (((t * S.players + (q : Int)) % (n : Int)).toNat) 0) 1000000) % 3) - 1), 0 ≤ around (xs.getD (((t * S.players + (q : Int)) % (n : Int)).toNat) 0) 1000000 ∧ (0 : Int) < 3 ∧ around (xs.getD (((t * S.players + (q : Int)) % (n : Int)).toNat) 0) 1000000 ≤ 9223372036854775807] fun n8 => RN.em (((around (xs.getD (((t * S.players + (q : Int)) % (n : Int)).toNat) 0) 1000000) / 9) % 3 = 0) 44 (fun h9 => ?_) fun h9 => ?_
      · refine RN.goP 13 [.nw, .nw, .own 0, .own 0, .own 0, .own 0] [0 ≤ (around (xs.getD (((t * S.players + (q : Int)) % (n : Int)).toNat) 0) 1000000) / 27 ∧ (0 : Int) < 4 ∧ (around (xs.getD (((t * S.players + (q : Int)) % (n : Int)).toNat) 0) 1000000) / 27 ≤ 9223372036854775807, 0 ≤ around (xs.getD (((t * S.players + (q : Int)) % (n : Int)).toNat) 0) 1000000 ∧ (0 : Int) < 27 ∧ around (xs.getD (((t * S.players + (q : Int)) % (n : Int)).toNat) 0) 1000000 ≤ 9223372036854775807] fun n10 => ?_
        have he_ : rowI S.players xs t q = (⟨((around (xs.getD (((t * S.players + (q : Int)) % (n : Int)).toNat) 0) 1000000) % 3) - 1, (((around (xs.getD (((t * S.players + (q : Int)) % (n : Int)).toNat) 0) 1000000) / 3) % 3) - 1, ((around (xs.getD (((t * S.players + (q : Int)) % (n : Int)).toNat) 0) 1000000) / 27) % 4⟩ : Inp) := by
          unfold rowI
          rw [show rowN S.players xs t q = around (xs.getD (((t * S.players + (q : Int)) % (n : Int)).toNat) 0) 1000000 from by unfold rowN; rw [hl.len]; rw [if_pos (by omega)]]
          first | rfl | (unfold rowOf; simp only [if_pos h9])
        refine RN.app inpEOk (rowL S.players xs t q) [(⟨((around (xs.getD (((t * S.players + (q : Int)) % (n : Int)).toNat) 0) 1000000) % 3) - 1, (((around (xs.getD (((t * S.players + (q : Int)) % (n : Int)).toNat) 0) 1000000) / 3) % 3) - 1, ((around (xs.getD (((t * S.players + (q : Int)) % (n : Int)).toNat) 0) 1000000) / 27) % 4⟩ : Inp)] 0 0 (rowL_len _ _ _ _).symm hs_ (by rw [rowL_len]; show q + 1 ≤ 100000000; omega) ?_
        rintro A11 c12 T13 ⟨hs14, hz15⟩
        refine RN.goP 9 [.nw] [I64 ((q : Int) + 1)] fun _ => ?_
        have hz2 := hz15 hz_
        refine mt3 (q + 1, A11, c12, T13) [2] [0] ?_
        try dsimp only
        refine ⟨⟨by omega, ?_, hz2⟩, by omega⟩
        rw [rowL_succ, he_]
        exact hs14
      · refine RN.go 7 [.own 0, .own 0, .own 0] fun n16 => ?_
        have he_ : rowI S.players xs t q = (⟨((around (xs.getD (((t * S.players + (q : Int)) % (n : Int)).toNat) 0) 1000000) % 3) - 1, (((around (xs.getD (((t * S.players + (q : Int)) % (n : Int)).toNat) 0) 1000000) / 3) % 3) - 1, 0⟩ : Inp) := by
          unfold rowI
          rw [show rowN S.players xs t q = around (xs.getD (((t * S.players + (q : Int)) % (n : Int)).toNat) 0) 1000000 from by unfold rowN; rw [hl.len]; rw [if_pos (by omega)]]
          first | rfl | (unfold rowOf; simp only [if_neg h9])
        refine RN.app inpEOk (rowL S.players xs t q) [(⟨((around (xs.getD (((t * S.players + (q : Int)) % (n : Int)).toNat) 0) 1000000) % 3) - 1, (((around (xs.getD (((t * S.players + (q : Int)) % (n : Int)).toNat) 0) 1000000) / 3) % 3) - 1, 0⟩ : Inp)] 0 0 (rowL_len _ _ _ _).symm hs_ (by rw [rowL_len]; show q + 1 ≤ 100000000; omega) ?_
        rintro A17 c18 T19 ⟨hs20, hz21⟩
        refine RN.goP 9 [.nw] [I64 ((q : Int) + 1)] fun _ => ?_
        have hz2 := hz21 hz_
        refine mt3 (q + 1, A17, c18, T19) [2] [0] ?_
        try dsimp only
        refine ⟨⟨by omega, ?_, hz2⟩, by omega⟩
        rw [rowL_succ, he_]
        exact hs20
    · refine RN.go 4 [] fun _ => RN.go 35 (ow 0 7) fun n22 => ?_
      have he_ : rowI S.players xs t q = (⟨(-1), (-1), 0⟩ : Inp) := by
        unfold rowI
        rw [show rowN S.players xs t q = 0 from by unfold rowN; rw [hl.len]; rw [if_neg (by omega)]]
        rfl
      refine RN.app inpEOk (rowL S.players xs t q) [(⟨(-1), (-1), 0⟩ : Inp)] 0 0 (rowL_len _ _ _ _).symm hs_ (by rw [rowL_len]; show q + 1 ≤ 100000000; omega) ?_
      rintro A23 c24 T25 ⟨hs26, hz27⟩
      refine RN.goP 9 [.nw] [I64 ((q : Int) + 1)] fun _ => ?_
      have hz2 := hz27 hz_
      refine mt3 (q + 1, A23, c24, T25) [2] [0] ?_
      try dsimp only
      refine ⟨⟨by omega, ?_, hz2⟩, by omega⟩
      rw [rowL_succ, he_]
      exact hs26
  · refine RN.go 12 [] fun _ => RN.ret [] [] [0] (v := .slice A_ q c_) (H' := (ap [] [T_])) ?_
    have ei : q = S.players.toNat := by omega
    subst ei
    exact ⟨(A_, c_, T_), rfl, rfl, hs_, hz_⟩
end Go.Proofs.YtampdcgphdnnhaaGreatDoor
/- Contracts, printed by a program. -/
namespace Go.Proofs.YtampdcgphdnnhaaGreatDoor
set_option linter.unusedSimpArgs false
set_option linter.unusedVariables false
open Go.RowKit
theorem newn_any (q : Nat) (cs : List Int) (n k cap : Nat) (F : HL) (hn : cs.length = n) (hq : (q, .rows 1 n (irow cs) 3 (0, 0)) ∈ F) (hc : n ≤ 1000000) (hk : k ≤ 100000000) (hcap : n ≤ cap) : Sp Tryz.prog 10 #[vS q 0 n cap] (ap [] []) F (fun u H' => ∃ x : Nat × HL, H' = ap [] [x.2] ∧ (u = vP x.1 0 ∧ MemH x.1 ⟨cs, [], 0⟩ k x.2)) := by
  subst hn
  exact new_any q cs k cap F hq hc hk hcap
theorem rinit_ap (S : Setup) (F : HL) (hS : SetIn F S) : Sp Tryz.prog 11 #[Setup.v S] (ap [] []) F (fun u H' => ∃ q, H' = ap [(q, .rows 1 (sizeOf S).toNat (irow (iniL S S.nb)) 3 (0, 0))] [] ∧ u = vS q 0 (sizeOf S).toNat (sizeOf S).toNat) := rinit_any S F hS

abbrev livB : Bod := ⟨⟨5, [], none, 0⟩, ⟨0, 0, 0, 0, 1024⟩, 0, 0⟩
abbrev livS (b : Nat) : Setup := ⟨1, b, 0, 1, 1, 1, [livB], ⟨0, 0, 0, 0⟩, none, 0, 0, none, 0, 0, 0, ⟨0, 0⟩, 0, 0, 0, 1, 0⟩
abbrev livG (b c : Nat) : Gm := ⟨livS b, none, 0, 0, -1, -1, -1, 0, c, 0, 1, 1, 1, [dI], []⟩
def goodB (g : Gm) : Nat → MemS → Bool
  | 0, _ => false
  | n + 1, M => decide (phOk M) && (if trE g M then n == 0 else goodB g n (trM g M))
theorem goodB_ok {g : Gm} : ∀ (n : Nat) (M : MemS), goodB g n M = true → goodRun g n M
  | 0, M, h => by simp [goodB] at h
  | n + 1, M, h => by
    simp only [goodB, Bool.and_eq_true] at h
    refine ⟨of_decide_eq_true h.1, ?_⟩
    have h2 := h.2
    by_cases e : trE g M = true
    · rw [if_pos e] at h2
      exact .inl ⟨by simpa using h2, e⟩
    · rw [if_neg e] at h2
      exact .inr ⟨by simpa using e, goodB_ok n _ h2⟩
theorem liv_good (b c : Nat) : goodB (livG b c) 11 ⟨iniL (livS b) 1, [], 0⟩ = true := by kernel_rfl
theorem liv_tick (b c : Nat) : (runM (livG b c) 11 ⟨iniL (livS b) 1, [], 0⟩).get 0 = 1 := by kernel_rfl
theorem liv_still (b c : Nat) : (runM (livG b c) 11 ⟨iniL (livS b) 1, [], 0⟩).get (bodyAt (livS b) 0 + 7) = 1 := by kernel_rfl
theorem liv_setN (b : Nat) : SetN (livS b) := ⟨⟨by show (0 : Int) ≤ 1; decide, by show (1 : Int) ≤ 1000000; decide⟩, Nat.le_of_ble_eq_true rfl⟩
theorem liv_set {b : Nat} {F : HL} (h : (b, .rows 9 1 (brow [livB]) 76 (0, 0)) ∈ F) : SetIn F (livS b) :=
  ⟨liv_setN b, h, Nat.le_of_ble_eq_true rfl, fun k hk => by
    obtain rfl : k = 0 := by simp only at hk; omega
    exact .circle _ _ _⟩

set_option maxHeartbeats 1000000 in
set_option maxRecDepth 100000 in
theorem lives_any (F : HL) (hE : EffIn F) : Sp Tryz.prog 17 #[] [] F (fun u H' => u = .bool true ∧ H' = []) := by
  refine Sp.run Tryz.func17 rfl mn (A := []) (Ts := []) rfl fun w0 => ?_
  refine RN.go 18 (ow 0 16) fun n1 => RN.dn 1 (.rows 9 1 (brow [livB]) 76 (0, 0)) <| RN.go 1 (ow 0 16) fun _ => RN.ct (Hp := []) (Tp := []) [] [] (rinit_ap (livS (n1 + 0)) _ (liv_set (in_ap 1))) ?_
  rintro _ q2 rfl
  refine RN.ct (Hp := []) (Tp := []) [] [] (newn_any q2 (iniL (livS (n1 + 0)) ((livS (n1 + 0))).nb) ((sizeOf (livS (n1 + 0))).toNat) 100000000 ((sizeOf (livS (n1 + 0))).toNat) _ (iniL_len _ _) (in_ap 0) (Nat.le_of_ble_eq_true rfl) (by decide) (Nat.le_refl _)) ?_
  rintro _ ⟨mb, T⟩ ⟨rfl, hM⟩
  dsimp only at hM
  refine RN.go 14 [] fun _ => RN.draw [5] [] <| RD.go [] [0, 1, 3] (ow 1 16) <| RD.cp [] 2 (fun X_ => (none_any _)) <| RD.one 4 (RDO.ev [] [] fun n4 => ?_)
  refine RD.dn 0 (.rows 3 1 (inrow [dI]) 57 (0, 0)) <| RD.one 5 (RDO.ct [] [] [0] (count_any (livG (n1 + 0) (n4 + 0)) mb ⟨(iniL (livS (n1 + 0)) ((livS (n1 + 0))).nb), [], 0⟩ 0 10 50 T _ (hM.weak (by decide)) ⟨liv_set (in_ap 3), in_ap 0, ⟨Nat.le_of_ble_eq_true rfl, Nat.le_of_ble_eq_true rfl⟩, ro_ap hE, .nil _⟩ rfl (goodB_ok _ _ (liv_good _ _)) (by omega) (by omega)) ?_)
  rintro _ ⟨T5, A7, c8, E9⟩ ⟨hM6, hs10, rfl⟩
  dsimp only at hM6 hs10
  refine RD.go [] [6, 7, 8, 9, 10] [] <| RD.fin <| RN.go 7 [] fun _ => RN.cp (get_lit 0 (liv_tick _ _) hM6 (sub_ap 0)) <| RN.go 5 (ow 2 16) fun _ => RN.cp (rbody_any (livS (n1 + 0)) 0 _ (liv_setN (n1 + 0))) ?_
  have hb11 := bodyAt_bd (liv_setN (n1 + 0)) 0
  refine RN.goP 1 [.nw] [I64 ((bodyAt (livS (n1 + 0)) 0) + 7)] fun _ => RN.cp (get_lit ((bodyAt (livS (n1 + 0)) 0) + 7) (liv_still _ _) hM6 (sub_ap 0)) <| RN.go 5 [] fun _ => ?_
  exact RN.ret [] [] [] ⟨rfl, rfl⟩
end Go.Proofs.YtampdcgphdnnhaaGreatDoor
/- Contracts, printed by a program. -/
namespace Go.Proofs.YtampdcgphdnnhaaGreatDoor
set_option linter.unusedSimpArgs false
set_option linter.unusedVariables false
open Go.RowKit
/-- the generator's numbers lie among the others -/
inductive GIn (F : HL) : Option Addr → Nat → Prop
  | zero (A : Option Addr) : GIn F A 0
  | cells (q N n : Nat) (ys : List Int) (hq : (q, .rows 1 N (rowE intE ys) 3 (0, 0)) ∈ F) (hn : n ≤ N) (hb : ∀ k, k < n → i64r (ys.getD k 0)) : GIn F (some ⟨q, 0, none⟩) n
theorem GIn.up {F X : HL} {A : Option Addr} {n : Nat} (h : GIn F A n) : GIn (X ++ F) A n := by
  cases h with
  | zero => exact .zero _
  | cells q N n ys hq hn hb => exact .cells q N n ys (List.mem_append_right _ hq) hn hb
theorem tmod_bd {x m : Int} (h : 0 ≤ x) (hm : 0 < m) : 0 ≤ x.tmod m ∧ x.tmod m < m := ⟨Int.tmod_nonneg _ h, Int.tmod_lt_of_pos _ hm⟩

set_option maxHeartbeats 400000 in
set_option maxRecDepth 100000 in
theorem pick_z (g c i n : Nat) (A : Option Addr) (most : Int) (hm : 0 < most) (hi : i = n) (hn : n ≤ 60) (F : HL) : Sp Tryz.prog 54 #[vP g 0, vI most] [(g, .lit [.slice A n c, vI (i : Int)] 120 (0, 0))] F (fun u H' => ∃ x : Nat × Nat, H' = ap [(g, .lit [.slice A n c, vI (x.2 : Int)] 120 (0, 0))] [] ∧ (u = vI (x.1 : Int) ∧ (x.1 : Int) < most ∧ x.2 ≤ n)) := by
  refine Sp.run Tryz.func54 rfl mn (A := [(g, .lit [.slice A n c, vI (i : Int)] 120 (0, 0))]) (Ts := []) rfl fun w0 => ?_
  refine RN.go 7 [] fun _ => RN.draw [] [] <| RD.go [] [0, 4, 1, 5, 2, 6, 3, 7, 8, 9] [.own 0, .own 0] <| RD.fin <| RN.go 1 [] fun _ => RN.em ((i : Int) ≥ (n : Int)) 15 (fun h1 => ?_) fun h1 => ?_
  · refine RN.go 6 [] fun _ => RN.ret [] [0] [] (v := vI 0) (H' := [(g, .lit [.slice A n c, vI (i : Int)] 120 (0, 0))]) ?_
    exact ⟨(0, i), rfl, rfl, hm, by omega⟩
  · exact absurd (show (i : Int) ≥ (n : Int) by omega) h1

set_option maxHeartbeats 400000 in
set_option maxRecDepth 100000 in
theorem pick_s (g q c i n N : Nat) (ys : List Int) (most : Int) (hm : 0 < most) (hi : i ≤ n) (hn : n ≤ 60) (F : HL) (hq : (q, .rows 1 N (rowE intE ys) 3 (0, 0)) ∈ F) (hN : n ≤ N) (hb : ∀ k, k < n → i64r (ys.getD k 0)) : Sp Tryz.prog 54 #[vP g 0, vI most] [(g, .lit [vS q 0 n c, vI (i : Int)] 120 (0, 0))] F (fun u H' => ∃ x : Nat × Nat, H' = ap [(g, .lit [.slice (some ⟨q, 0, none⟩) n c, vI (x.2 : Int)] 120 (0, 0))] [] ∧ (u = vI (x.1 : Int) ∧ (x.1 : Int) < most ∧ x.2 ≤ n)) := by
  refine Sp.run Tryz.func54 rfl (mc hq mn) (A := [(g, .lit [vS q 0 n c, vI (i : Int)] 120 (0, 0))]) (Ts := []) rfl fun w0 => ?_
  refine RN.go 7 [] fun _ => RN.draw [] [] <| RD.go [] [0, 4, 1, 5, 2, 6, 3, 7, 8, 9] [.own 0, .own 0] <| RD.fin <| RN.go 1 [] fun _ => RN.em ((i : Int) ≥ (n : Int)) 15 (fun h1 => ?_) fun h1 => ?_
  · refine RN.go 6 [] fun _ => RN.ret [] [0] [] (v := vI 0) (H' := [(g, .lit [vS q 0 n c, vI (i : Int)] 120 (0, 0))]) ?_
    exact ⟨(0, i), rfl, rfl, hm, by omega⟩
  · refine RN.go 4 [] fun _ => RN.draw [] [] <| RD.goP [] [0, 4, 1, 5, 2, 6, 3, 7, 8, 9] [.own 0, .own 0, .ix i, .rorow 0 i 0] [(0 + i * 1) = i * 1 + 0 ∧ i < N, (i : Int) = ((i : Nat) : Int) ∧ i < n] <| RD.cp [] 10 (fun X_ => (around_any (ys.getD i 0) 1000000 (by decide) _)) ?_
    have hA2 := around_bd (n := ys.getD i 0) (hb i (by omega)) 1000000 (by decide)
    refine RD.go [] [11] [] <| RD.fin <| RN.goP 21 [.own 0, .nw, .own 0, .dv] [most ≠ 0, I64 ((i : Int) + 1)] fun _ => RN.ret [] [0] [] (v := vI ((around (ys.getD i 0) 1000000).tmod most)) (H' := [(g, .lit [vS q 0 n c, vI ((i : Int) + 1)] 120 (0, 0))]) ?_
    have hz := tmod_bd hA2.1 hm
    obtain ⟨z, hzz⟩ := Int.eq_ofNat_of_zero_le hz.1
    have hz2 := hz.2
    rw [hzz] at hz2 ⊢
    exact ⟨(z, i + 1), rfl, rfl, hz2, by omega⟩

theorem pick_any (g c i n : Nat) (A : Option Addr) (most : Int) (hm : 0 < most) (hi : i ≤ n) (hn : n ≤ 60) (F : HL) (hG : GIn F A n) : Sp Tryz.prog 54 #[vP g 0, vI most] (ap [(g, .lit [.slice A n c, vI (i : Int)] 120 (0, 0))] []) F (fun u H' => ∃ x : Nat × Nat, H' = ap [(g, .lit [.slice A n c, vI (x.2 : Int)] 120 (0, 0))] [] ∧ (u = vI (x.1 : Int) ∧ (x.1 : Int) < most ∧ x.2 ≤ n)) := by
  cases hG with
  | zero => exact pick_z g c i 0 A most hm (by omega) hn F
  | cells q N n ys hq hN hb => exact pick_s g q c i n N ys most hm hi hn F hq hN hb
/-- a node of a program's tree, with its place in the memory -/
inductive Nd
  | mk (k n : Int) (s : ByteArray) (A : Option Addr) (c : Nat) (kids : List Nd)
def Nd.k : Nd → Int | .mk k _ _ _ _ _ => k
def Nd.n : Nd → Int | .mk _ n _ _ _ _ => n
def Nd.s : Nd → ByteArray | .mk _ _ s _ _ _ => s
def Nd.A : Nd → Option Addr | .mk _ _ _ A _ _ => A
def Nd.c : Nd → Nat | .mk _ _ _ _ c _ => c
def Nd.kids : Nd → List Nd | .mk _ _ _ _ _ l => l
abbrev dN : Nd := .mk 0 0 ⟨#[]⟩ none 0 []

def ndE : Enc Nd := ⟨4, fun p k => match k with | 0 => vI p.k | 1 => vI p.n | 2 => .string p.s | _ => .slice p.A p.kids.length p.c, dN⟩
noncomputable def ndEI : TypeInfo := match Tryz.prog.info? 82 with | some i => i | none => ⟨.bool, "", 0, 0, false, 0, 0, none, false, #[]⟩
noncomputable def ndEZ : Value := match ndEI.zero with | some z => z | none => .bool false
theorem ndEOk : EncOk ndE Tryz.prog 82 ndEI ndEZ where
  info := by kernel_rfl
  zero := by kernel_rfl
  size := by kernel_rfl
  zsize := by kernel_rfl
  zcell := fun k hk => by
    have h : ∀ k < 4, ndEZ.cells[k]? = some (ndE.cell ndE.dflt k) := by intro k hk; (iterate 4 (rcases k with _ | k; · kernel_rfl)); omega
    exact h k hk
  one := fun x k => by unfold ndE; dsimp only; split <;> rfl
  bytes := Nat.le_of_ble_eq_true (by kernel_rfl)

abbrev nrow (l : List Nd) : Nat → Nat → Value := rowE ndE l
abbrev ndV (x : Nd) : Value := .agg #[vI x.k, vI x.n, .string x.s, .slice x.A x.kids.length x.c]
/-- a node's descendants lie among the others -/
inductive NdIn (F : HL) : Nd → Prop
  | leaf (k n : Int) (s : ByteArray) (A : Option Addr) (c : Nat) : NdIn F (.mk k n s A c [])
  | node (k n : Int) (s : ByteArray) (q N c : Nat) (l rest : List Nd) (hq : (q, .rows 4 N (nrow (l ++ rest)) 82 (0, 0)) ∈ F) (hN : l.length ≤ N) (hk : ∀ x ∈ l, NdIn F x) : NdIn F (.mk k n s (some ⟨q, 0, none⟩) c l)
theorem NdIn.mono {F F' : HL} {x : Nd} (h : NdIn F x) (hs : ∀ y ∈ F, y ∈ F') : NdIn F' x := by
  induction h with
  | leaf k n s A c => exact .leaf k n s A c
  | node k n s q N c l rest hq hN hk ih => exact .node k n s q N c l rest (hs _ hq) hN ih
def NdH (x : Nd) (T : HL) : Prop := ∀ F, (∀ y ∈ T, y ∈ F) → NdIn F x
def strow (l : List ByteArray) : Nat → Nat → Value := fun i _ => .string (l.getD i ⟨#[]⟩)
theorem getD_mem' {α : Type} {l : List α} {i : Nat} {d : α} (h : i < l.length) : l.getD i d ∈ l := by
  rw [List.getD_eq_getElem?_getD, List.getElem?_eq_getElem h]; exact List.getElem_mem h
end Go.Proofs.YtampdcgphdnnhaaGreatDoor
/- Contracts, printed by a program. -/
namespace Go.Proofs.YtampdcgphdnnhaaGreatDoor
set_option linter.unusedSimpArgs false
set_option linter.unusedVariables false
open Go.RowKit
set_option maxHeartbeats 400000 in
set_option maxRecDepth 100000 in
theorem one_any (k : Int) (s : ByteArray) (x : Nd) (F : HL) : Sp Tryz.prog 117 #[vI k, .string s, .agg #[vI x.k, vI x.n, .string x.s, .slice x.A x.kids.length x.c]] [] F (fun u H' => ∃ q, H' = ap [(q, .rows 4 1 (nrow [x]) 82 (0, 0))] [] ∧ u = .agg #[vI k, vI 0, .string s, .slice (some ⟨q, 0, none⟩) 1 1]) := by
  refine Sp.run Tryz.func117 rfl mn (A := []) (Ts := []) rfl fun w0 => ?_
  refine RN.go 16 (ow 1 8) fun n1 => RN.dn 0 (.rows 4 1 (nrow [x]) 82 (0, 0)) <| RN.ret [.own 1, .own 1, .own 1, .own 1] [0] [] (v := .agg #[vI k, vI 0, .string s, vS (n1 + 2) 0 1 1]) (H' := [((n1 + 2), .rows 4 1 (nrow [x]) 82 (0, 0))]) ?_
  exact ⟨_, rfl, rfl⟩

set_option maxHeartbeats 400000 in
set_option maxRecDepth 100000 in
theorem two_any (k : Int) (s : ByteArray) (x y : Nd) (F : HL) : Sp Tryz.prog 119 #[vI k, .string s, .agg #[vI x.k, vI x.n, .string x.s, .slice x.A x.kids.length x.c], .agg #[vI y.k, vI y.n, .string y.s, .slice y.A y.kids.length y.c]] [] F (fun u H' => ∃ q, H' = ap [(q, .rows 4 2 (nrow [x, y]) 82 (0, 0))] [] ∧ u = .agg #[vI k, vI 0, .string s, .slice (some ⟨q, 0, none⟩) 2 2]) := by
  refine Sp.run Tryz.func119 rfl mn (A := []) (Ts := []) rfl fun w0 => ?_
  refine RN.go 18 ([.own 2, .own 2, .own 2, .own 2] ++ ow 1 8) fun n1 => RN.dn 0 (.rows 4 2 (nrow [x, y]) 82 (0, 0)) <| RN.ret [.own 1, .own 1, .own 1, .own 1] [0] [] (v := .agg #[vI k, vI 0, .string s, vS (n1 + 3) 0 2 2]) (H' := [((n1 + 3), .rows 4 2 (nrow [x, y]) 82 (0, 0))]) ?_
  exact ⟨_, rfl, rfl⟩
end Go.Proofs.YtampdcgphdnnhaaGreatDoor
