/- Contracts, printed by a program. -/
import Derived.Test.YtpkincoclhpcgaaGreatDoorKp
namespace Go.Proofs.YtpkincoclhpcgaaGreatDoor
set_option linter.unusedSimpArgs false
set_option linter.unusedVariables false
open Go.RowKit
def rowN (pl : Int) (xs : List Int) (t : Int) (q : Nat) : Int := if xs.length > 0 then around (xs.getD ((t * pl + (q : Int)) % (xs.length : Int)).toNat 0) 1000000 else 0
def rowOf (n : Int) : Inp := ⟨n % 3 - 1, n / 3 % 3 - 1, if n / 9 % 3 = 0 then n / 27 % 4 else 0⟩
def rowI (pl : Int) (xs : List Int) (t : Int) (q : Nat) : Inp := rowOf (rowN pl xs t q)
def rowL (pl : Int) (xs : List Int) (t : Int) (n : Nat) : List Inp := (List.range n).map (rowI pl xs t)
theorem rowL_len (pl : Int) (xs : List Int) (t : Int) (n : Nat) : (rowL pl xs t n).length = n := by simp [rowL]
theorem rowL_succ (pl : Int) (xs : List Int) (t : Int) (n : Nat) : rowL pl xs t (n + 1) = rowL pl xs t n ++ [rowI pl xs t n] := by simp [rowL, List.range_succ]
theorem rowL_get {pl : Int} {xs : List Int} {t : Int} {n i : Nat} (h : i < n) : (rowL pl xs t n).getD i dI = rowI pl xs t i := by simp [rowL, h]
theorem rowN_bd {F : HL} {A : Option Addr} {n : Nat} {xs : List Int} (h : ArgL F A n xs) (pl t : Int) (q : Nat) : 0 ≤ rowN pl xs t q ∧ rowN pl xs t q < 1000000 := by
  unfold rowN
  split
  · next hi =>
    rw [h.len] at hi
    have h1 := Int.emod_nonneg (t * pl + (q : Int)) (show (n : Int) ≠ 0 by omega)
    have h2 := Int.emod_lt_of_pos (t * pl + (q : Int)) (show (0 : Int) < n by omega)
    rw [h.len]
    obtain ⟨_, _, _, _, _, _, _, _, _, _, hr⟩ := h.at (k := ((t * pl + (q : Int)) % (n : Int)).toNat) (by omega)
    exact around_bd hr 1000000 (by decide)
  · omega

set_option maxHeartbeats 1000000 in
set_option maxRecDepth 100000 in
theorem row_any (S : Setup) (A : Option Addr) (n cap : Nat) (xs : List Int) (t : Int) (F : HL) (hl : ArgL F A n xs) (hn : n ≤ 9223372036854775807) (hp : 0 ≤ S.players ∧ S.players ≤ 1000000) (ht : 0 ≤ t ∧ t ≤ 1000000) : Sp Tryz.prog 19 #[(Setup.v S), .slice A n cap, vI t] [] F (fun u H' => ∃ x : Option Addr × Nat × HL, H' = ap [] [x.2.2] ∧ (u = .slice x.1 S.players.toNat x.2.1 ∧ SlIs inpE 70 (rowL S.players xs t S.players.toNat) x.1 x.2.1 x.2.2 ∧ zeroOff x.1)) := by
  have hm : 0 ≤ t * S.players ∧ t * S.players ≤ 1000000000000 := ⟨Int.mul_nonneg ht.1 hp.1, Int.le_trans (Int.mul_le_mul ht.2 hp.2 hp.1 (by decide)) (by decide)⟩
  refine Sp.of_body Tryz.func19 rfl rfl rfl [(0, (Setup.v S)), (1, .slice A n cap), (2, vI t)] rfl ?_
  intro w0
  refine TR.convH (ap [] []) rfl ?_
  refine TR.seq ?_
  refine TR.reg ?_
  let z1 : Nat × Value := (1, .slice A n cap)
  refine TL.seg 2 [] [] [1, 2, 3] (fun n1 => [z1, (2, vI t), (3, vP (n1 + 0) 0)]) (fun n1 => (ap [((n1 + 0), .lit (Setup.l S) 32 (0, 0))] [])) (fun n1 => []) (fun n1 => []) (fun _ => by kernel_rfl) mn (fun n1 => an) ?_
  intro n1
  refine TL.fin (by kernel_rfl) ?_
  refine EX.next ?_
  refine TR.seq ?_
  refine TR.reg ?_
  let z2 : Nat × Value := (3, vP (n1 + 0) 0)
  let z3 : Nat × Value := (7, .slice none 0 0)
  let z4 : Nat × Blk := ((n1 + 0), .lit (Setup.l S) 32 (0, 0))
  refine TL.seg0 1 [] [] [1, 2, 3, 7] [z1, (2, vI t), z2, z3] (ap [z4] []) [] [] (fun _ => by kernel_rfl) mn an ?_
  refine TL.fin (by kernel_rfl) ?_
  refine EX.next ?_
  refine TR.seq ?_
  refine TR.seq ?_
  refine TR.reg ?_
  refine TL.seg0 1 [] [] [1, 2, 3, 7, 8] [z1, (2, vI t), z2, z3, (8, vI 0)] (ap [z4] []) [] [] (fun _ => by kernel_rfl) mn an ?_
  refine TL.fin (by kernel_rfl) ?_
  refine EX.next ?_
  refine TR.block ?_
  refine TR.convH (ap [z4] [([] : HL)]) rfl ?_
  refine TR.loop (A := [z4]) (Ts := [([] : HL)]) (σ := Nat × Option Addr × Nat × HL) (fun (x : Nat × Option Addr × Nat × HL) => match x with | ⟨q, A_, c_, T_⟩ => [z1, (2, vI t), z2, (7, .slice A_ q c_), (8, vI (q : Int))]) (fun (x : Nat × Option Addr × Nat × HL) => match x with | ⟨q, A_, c_, T_⟩ => ap [z4] [T_]) (fun (x : Nat × Option Addr × Nat × HL) => match x with | ⟨q, A_, c_, T_⟩ => (q : Int) ≤ S.players ∧ SlIs inpE 70 (rowL S.players xs t q) A_ c_ T_ ∧ zeroOff A_) (fun (x : Nat × Option Addr × Nat × HL) => match x with | ⟨q, A_, c_, T_⟩ => S.players.toNat - q) (0, none, 0, []) (⟨by show (0 : Int) ≤ _; omega, SlIs.nil _ _, trivial⟩) [1, 2, 3, 7, 8] (by kernel_rfl) [0] [] [0] [] (by kernel_rfl) (by kernel_rfl) (by kernel_rfl) ?_
  rintro ⟨q, A_, c_, T_⟩ ⟨hi_, hs_, hz_⟩
  refine TR.seq ?_
  refine TR.seq ?_
  refine TR.reg ?_
  let z5 : Nat × Value := (7, .slice A_ q c_)
  let z6 : Nat × Value := (8, vI (q : Int))
  refine TL.seg0 4 [] [.own 0] [1, 2, 3, 7, 8, 14] [z1, (2, vI t), z2, z5, z6, (14, .bool (decide ((q : Int) < S.players)))] (ap [z4] [T_]) [(n1 + 0)] [] (fun _ => by kernel_rfl) mn an ?_
  refine TL.fin (by kernel_rfl) ?_
  refine EX.next ?_
  rcases Decidable.em ((q : Int) < S.players) with h3 | h3
  · refine TR.yes (b := decide ((q : Int) < S.players)) (by kernel_rfl) (by kernel_rfl) (decide_eq_true h3) ?_
    refine TR.skip ?_
    refine EX.next ?_
    refine TR.seq ?_
    refine TR.block ?_
    refine TR.seq ?_
    refine TR.reg ?_
    refine TL.seg0 1 [] [] [1, 2, 3, 7, 8, 9] [z1, (2, vI t), z2, z5, z6, (9, vI 0)] (ap [z4] [T_]) [] [] (fun _ => by kernel_rfl) mn an ?_
    refine TL.fin (by kernel_rfl) ?_
    refine EX.next ?_
    refine TR.seq ?_
    refine TR.seq ?_
    refine TR.reg ?_
    refine TL.seg0 3 [] [] [1, 2, 3, 7, 8, 9, 19] [z1, (2, vI t), z2, z5, z6, (9, vI 0), (19, .bool (decide ((n : Int) > 0)))] (ap [z4] [T_]) [] [] (fun _ => by kernel_rfl) mn an ?_
    refine TL.fin (by kernel_rfl) ?_
    refine EX.next ?_
    rcases Decidable.em ((n : Int) > 0) with h4 | h4
    · refine TR.yes (b := decide ((n : Int) > 0)) (by kernel_rfl) (by kernel_rfl) (decide_eq_true h4) ?_
      refine TR.reg ?_
      let z7 := (t * S.players) + (q : Int)
      let z8 : Nat × Value := (29, vI (z7 % (n : Int)))
      refine TL.seg0 10 [] [.own 0, .nw, .nw, .nw] [1, 2, 3, 7, 8, 9, 20, 29] [z1, (2, vI t), z2, z5, z6, (9, vI 0), (20, .slice A n cap), z8] (ap [z4] [T_]) [(n1 + 0)] [0 ≤ (t * S.players) + (q : Int) ∧ (0 : Int) < (n : Int) ∧ (t * S.players) + (q : Int) ≤ 9223372036854775807, -9223372036854775808 ≤ (t * S.players) + (q : Int) ∧ (t * S.players) + (q : Int) ≤ 9223372036854775807, -9223372036854775808 ≤ t * S.players ∧ t * S.players ≤ 9223372036854775807] (fun _ => by kernel_rfl) mn (ac ⟨by omega, by omega, by omega⟩ (ac ⟨by omega, by omega⟩ (ac ⟨by omega, by omega⟩ an))) ?_
      have hix1 := Int.emod_nonneg (t * S.players + (q : Int)) (show (n : Int) ≠ 0 by omega)
      have hix2 := Int.emod_lt_of_pos (t * S.players + (q : Int)) (show (0 : Int) < n by omega)
      obtain ⟨qx5, ox5, Nx5, gx5, tyx5, fzx5, hAx5, hqx5, hox5, hgx5, hrx5⟩ := hl.at (k := ((t * S.players + (q : Int)) % (n : Int)).toNat) (by omega)
      refine TL.conv [z1, (2, vI t), z2, z5, z6, (9, vI 0), (20, vS qx5 ox5 n cap), z8] (congrArg (fun v_ => [z1, (2, vI t), z2, z5, z6, (9, vI 0), (20, .slice v_ n cap), z8]) hAx5) ?_
      let z9 := ox5 + ((z7 % (n : Int)).toNat)
      refine TL.seg0 2 [(qx5, .rows 1 Nx5 gx5 tyx5 fzx5)] [.ix ((z7 % (n : Int)).toNat), .rorow 0 z9 0] [1, 2, 3, 7, 8, 9, 31] [z1, (2, vI t), z2, z5, z6, (9, vI 0), (31, gx5 z9 0)] (ap [z4] [T_]) [qx5] [(ox5 + ((((t * S.players) + (q : Int)) % (n : Int)).toNat) * 1) = (ox5 + ((((t * S.players) + (q : Int)) % (n : Int)).toNat)) * 1 + 0 ∧ (ox5 + ((((t * S.players) + (q : Int)) % (n : Int)).toNat)) < Nx5, ((t * S.players) + (q : Int)) % (n : Int) = (((((t * S.players) + (q : Int)) % (n : Int)).toNat : Nat) : Int) ∧ (((t * S.players) + (q : Int)) % (n : Int)).toNat < n] (fun _ => by kernel_rfl) (mc hqx5 mn) (ac ⟨by omega, by omega⟩ (ac ⟨by omega, by omega⟩ an)) ?_
      let z10 := t * S.players + (q : Int)
      refine TL.conv [z1, (2, vI t), z2, z5, z6, (9, vI 0), (31, vI (xs.getD ((z10 % (n : Int)).toNat) 0))] (congrArg (fun v_ => [z1, (2, vI t), z2, z5, z6, (9, vI 0), (31, v_)]) hgx5) ?_
      let z11 := around (xs.getD ((z10 % (n : Int)).toNat) 0) 1000000
      refine TL.callp (dst := (some 32)) (f := 6) (args := #[vI (xs.getD ((z10 % (n : Int)).toNat) 0), vI 1000000]) (H1 := (ap [z4] [T_])) (E := []) (Ob := []) [] [] [1, 2, 3, 7, 8, 9, 32] (vI z11) [z1, (2, vI t), z2, z5, z6, (9, vI 0), (32, vI z11)] (fun _ => by kernel_rfl) mn an (around_any (xs.getD ((z10 % (n : Int)).toNat) 0) 1000000 (by decide) _) (by kernel_rfl) ?_
      have hA6 := around_bd (n := xs.getD (((t * S.players + (q : Int)) % (n : Int)).toNat) 0) hrx5 1000000 (by decide)
      let z12 : Nat × Value := (9, vI z11)
      refine TL.seg0 1 [] [] [1, 2, 3, 7, 8, 9] [z1, (2, vI t), z2, z5, z6, z12] (ap [z4] [T_]) [] [] (fun _ => by kernel_rfl) mn an ?_
      refine TL.fin (by kernel_rfl) ?_
      refine EX.next ?_
      refine TR.seq ?_
      refine TR.reg ?_
      let z13 := (z11 % 3) - 1
      let z14 := ((z11 / 3) % 3) - 1
      let z15 : List Value := [vI z13, vI z14, vI 0]
      refine TL.seg 10 [] [.nw, .nw, .nw, .nw, .nw, .own 0, .own 0, .own 0] [1, 2, 3, 7, 8, 9, 10] (fun n7 => [z1, (2, vI t), z2, z5, z6, z12, (10, vP (n7 + 0) 0)]) (fun n7 => (ap [((n7 + 0), .lit z15 70 (0, 0)), z4] [T_])) (fun n7 => [(n7 + 0), (n7 + 0), (n7 + 0)]) (fun n7 => [-9223372036854775808 ≤ (((around (xs.getD (((t * S.players + (q : Int)) % (n : Int)).toNat) 0) 1000000) / 3) % 3) - 1 ∧ (((around (xs.getD (((t * S.players + (q : Int)) % (n : Int)).toNat) 0) 1000000) / 3) % 3) - 1 ≤ 9223372036854775807, 0 ≤ (around (xs.getD (((t * S.players + (q : Int)) % (n : Int)).toNat) 0) 1000000) / 3 ∧ (0 : Int) < 3 ∧ (around (xs.getD (((t * S.players + (q : Int)) % (n : Int)).toNat) 0) 1000000) / 3 ≤ 9223372036854775807, 0 ≤ around (xs.getD (((t * S.players + (q : Int)) % (n : Int)).toNat) 0) 1000000 ∧ (0 : Int) < 3 ∧ around (xs.getD (((t * S.players + (q : Int)) % (n : Int)).toNat) 0) 1000000 ≤ 9223372036854775807, -9223372036854775808 ≤ ((around (xs.getD (((t * S.players + (q : Int)) % (n : Int)).toNat) 0) 1000000) % 3) - 1 ∧ ((around (xs.getD (((t * S.players + (q : Int)) % (n : Int)).toNat) 0) 1000000) % 3) - 1 ≤ 9223372036854775807, 0 ≤ around (xs.getD (((t * S.players + (q : Int)) % (n : Int)).toNat) 0) 1000000 ∧ (0 : Int) < 3 ∧ around (xs.getD (((t * S.players + (q : Int)) % (n : Int)).toNat) 0) 1000000 ≤ 9223372036854775807]) (fun _ => by kernel_rfl) mn (fun n7 => (ac ⟨by omega, by omega⟩ (ac ⟨by omega, by omega, by omega⟩ (ac ⟨by omega, by omega, by omega⟩ (ac ⟨by omega, by omega⟩ (ac ⟨by omega, by omega, by omega⟩ an)))))) ?_
      intro n7
      refine TL.fin (by kernel_rfl) ?_
      refine EX.next ?_
      refine TR.seq ?_
      refine TR.seq ?_
      refine TR.reg ?_
      let z16 : Nat × Value := (10, vP (n7 + 0) 0)
      let z17 : Nat × Blk := ((n7 + 0), .lit z15 70 (0, 0))
      refine TL.seg0 4 [] [.nw, .nw] [1, 2, 3, 7, 8, 9, 10, 44] [z1, (2, vI t), z2, z5, z6, z12, z16, (44, .bool (decide ((z11 / 9) % 3 = 0)))] (ap [z17, z4] [T_]) [] [0 ≤ (around (xs.getD (((t * S.players + (q : Int)) % (n : Int)).toNat) 0) 1000000) / 9 ∧ (0 : Int) < 3 ∧ (around (xs.getD (((t * S.players + (q : Int)) % (n : Int)).toNat) 0) 1000000) / 9 ≤ 9223372036854775807, 0 ≤ around (xs.getD (((t * S.players + (q : Int)) % (n : Int)).toNat) 0) 1000000 ∧ (0 : Int) < 9 ∧ around (xs.getD (((t * S.players + (q : Int)) % (n : Int)).toNat) 0) 1000000 ≤ 9223372036854775807] (fun _ => by kernel_rfl) mn (ac ⟨by omega, by omega, by omega⟩ (ac ⟨by omega, by omega, by omega⟩ an)) ?_
      refine TL.fin (by kernel_rfl) ?_
      refine EX.next ?_
      rcases Decidable.em (((around (xs.getD (((t * S.players + (q : Int)) % (n : Int)).toNat) 0) 1000000) / 9) % 3 = 0) with h8 | h8
      · refine TR.yes (b := decide ((z11 / 9) % 3 = 0)) (by kernel_rfl) (by kernel_rfl) (decide_eq_true h8) ?_
        refine TR.reg ?_
        let z18 : List Value := [vI z13, vI z14, vI ((z11 / 27) % 4)]
        let z19 : Nat × Blk := ((n7 + 0), .lit z18 70 (0, 0))
        refine TL.seg0 5 [] [.nw, .nw, .own 0] [1, 2, 3, 7, 8, 10] [z1, (2, vI t), z2, z5, z6, z16] (ap [z19, z4] [T_]) [(n7 + 0)] [0 ≤ (around (xs.getD (((t * S.players + (q : Int)) % (n : Int)).toNat) 0) 1000000) / 27 ∧ (0 : Int) < 4 ∧ (around (xs.getD (((t * S.players + (q : Int)) % (n : Int)).toNat) 0) 1000000) / 27 ≤ 9223372036854775807, 0 ≤ around (xs.getD (((t * S.players + (q : Int)) % (n : Int)).toNat) 0) 1000000 ∧ (0 : Int) < 27 ∧ around (xs.getD (((t * S.players + (q : Int)) % (n : Int)).toNat) 0) 1000000 ≤ 9223372036854775807] (fun _ => by kernel_rfl) mn (ac ⟨by omega, by omega, by omega⟩ (ac ⟨by omega, by omega, by omega⟩ an)) ?_
        refine TL.fin (by kernel_rfl) ?_
        refine EX.next ?_
        refine TR.reg ?_
        refine TL.seg 3 [] [.own 0, .own 0, .own 0] [1, 2, 3, 7, 8, 49, 51] (fun n9 => [z1, (2, vI t), z2, z5, z6, (49, .slice A_ q c_), (51, vS (n9 + 0) 0 1 1)]) (fun n9 => (ap [((n9 + 0), .lit z18 70 (0, 0)), z19, z4] [T_])) (fun n9 => [(n7 + 0), (n7 + 0), (n7 + 0)]) (fun n9 => []) (fun _ => by kernel_rfl) mn (fun n9 => an) ?_
        intro n9
        have he_ : rowI S.players xs t q = (⟨((around (xs.getD (((t * S.players + (q : Int)) % (n : Int)).toNat) 0) 1000000) % 3) - 1, (((around (xs.getD (((t * S.players + (q : Int)) % (n : Int)).toNat) 0) 1000000) / 3) % 3) - 1, ((around (xs.getD (((t * S.players + (q : Int)) % (n : Int)).toNat) 0) 1000000) / 27) % 4⟩ : Inp) := by
          unfold rowI
          rw [show rowN S.players xs t q = around (xs.getD (((t * S.players + (q : Int)) % (n : Int)).toNat) 0) 1000000 from by unfold rowN; rw [hl.len]; rw [if_pos (by omega)]]
          first | rfl | (unfold rowOf; simp only [if_pos h8])
        let z20 := (⟨(z11 % 3) - 1, ((z11 / 3) % 3) - 1, (z11 / 27) % 4⟩ : Inp)
        let z21 : Nat × Blk := ((n9 + 0), .lit z18 70 (0, 0))
        refine TL.app (e := inpE) (P := Tryz.prog) (tx := 46) inpEOk (o := _) (a1 := (.tmp 49)) (a2 := (.tmp 51)) rfl rfl rfl rfl (rowL S.players xs t q) [z20] (A := A_) (cap := c_) (n := q) T_ [z21, z19, z4] [T_] [] [] (by kernel_rfl) (by kernel_rfl) (rowL_len _ _ _ _).symm (by kernel_rfl) rfl ⟨0, rfl, by kernel_rfl⟩ (by kernel_rfl) hs_ (fun w hR => src_lit inpEOk rfl (src := [z20]) (c := 1) 0 rfl hR) (by rw [rowL_len]; show q + 1 ≤ 100000000; omega) [1, 2, 3, 7, 8, 52] (fun v_ => [z1, (2, vI t), z2, z5, z6, (52, v_)]) (fun _ => by kernel_rfl) ?_
        rintro A10 c11 T12 ⟨hs13, hz14⟩
        let z22 : Nat × Value := (7, .slice A10 (q + 1) c11)
        refine TL.seg0 1 [] [] [1, 2, 3, 7, 8] [z1, (2, vI t), z2, z22, z6] (ap [z21, z19, z4] [T12]) [] [] (fun _ => by kernel_rfl) mn an ?_
        refine TL.fin (by kernel_rfl) ?_
        refine EX.inn ?_
        refine EX.next ?_
        refine TR.reg ?_
        refine TL.seg0 3 [] [.nw] [1, 2, 3, 7, 8] [z1, (2, vI t), z2, z22, (8, vI ((q : Int) + 1))] (ap [z21, z19, z4] [T12]) [] [-9223372036854775808 ≤ (q : Int) + 1 ∧ (q : Int) + 1 ≤ 9223372036854775807] (fun _ => by kernel_rfl) mn (ac ⟨by omega, by omega⟩ an) ?_
        refine TL.fin (by kernel_rfl) ?_
        have hz2 := hz14 hz_
        refine EX.meet (A := [z21, z19, z4]) (Ts := [T12]) (q + 1, A10, c11, T12) ?_ [1, 2, 3, 7, 8] (by kernel_rfl) [2] [0, 1] [0] [] (by kernel_rfl) (by kernel_rfl) (by kernel_rfl)
        try dsimp only
        refine ⟨⟨by omega, ?_, hz2⟩, by omega⟩
        rw [rowL_succ, he_]
        exact hs13
      · refine TR.no (b := decide ((z11 / 9) % 3 = 0)) (by kernel_rfl) (by kernel_rfl) (decide_eq_false h8) ?_
        refine TR.skip ?_
        refine EX.next ?_
        refine TR.reg ?_
        refine TL.seg 3 [] [.own 0, .own 0, .own 0] [1, 2, 3, 7, 8, 49, 51] (fun n15 => [z1, (2, vI t), z2, z5, z6, (49, .slice A_ q c_), (51, vS (n15 + 0) 0 1 1)]) (fun n15 => (ap [((n15 + 0), .lit z15 70 (0, 0)), z17, z4] [T_])) (fun n15 => [(n7 + 0), (n7 + 0), (n7 + 0)]) (fun n15 => []) (fun _ => by kernel_rfl) mn (fun n15 => an) ?_
        intro n15
        have he_ : rowI S.players xs t q = (⟨((around (xs.getD (((t * S.players + (q : Int)) % (n : Int)).toNat) 0) 1000000) % 3) - 1, (((around (xs.getD (((t * S.players + (q : Int)) % (n : Int)).toNat) 0) 1000000) / 3) % 3) - 1, 0⟩ : Inp) := by
          unfold rowI
          rw [show rowN S.players xs t q = around (xs.getD (((t * S.players + (q : Int)) % (n : Int)).toNat) 0) 1000000 from by unfold rowN; rw [hl.len]; rw [if_pos (by omega)]]
          first | rfl | (unfold rowOf; simp only [if_neg h8])
        let z23 := (⟨(z11 % 3) - 1, ((z11 / 3) % 3) - 1, 0⟩ : Inp)
        let z24 : Nat × Blk := ((n15 + 0), .lit z15 70 (0, 0))
        refine TL.app (e := inpE) (P := Tryz.prog) (tx := 46) inpEOk (o := _) (a1 := (.tmp 49)) (a2 := (.tmp 51)) rfl rfl rfl rfl (rowL S.players xs t q) [z23] (A := A_) (cap := c_) (n := q) T_ [z24, z17, z4] [T_] [] [] (by kernel_rfl) (by kernel_rfl) (rowL_len _ _ _ _).symm (by kernel_rfl) rfl ⟨0, rfl, by kernel_rfl⟩ (by kernel_rfl) hs_ (fun w hR => src_lit inpEOk rfl (src := [z23]) (c := 1) 0 rfl hR) (by rw [rowL_len]; show q + 1 ≤ 100000000; omega) [1, 2, 3, 7, 8, 52] (fun v_ => [z1, (2, vI t), z2, z5, z6, (52, v_)]) (fun _ => by kernel_rfl) ?_
        rintro A16 c17 T18 ⟨hs19, hz20⟩
        let z25 : Nat × Value := (7, .slice A16 (q + 1) c17)
        refine TL.seg0 1 [] [] [1, 2, 3, 7, 8] [z1, (2, vI t), z2, z25, z6] (ap [z24, z17, z4] [T18]) [] [] (fun _ => by kernel_rfl) mn an ?_
        refine TL.fin (by kernel_rfl) ?_
        refine EX.inn ?_
        refine EX.next ?_
        refine TR.reg ?_
        refine TL.seg0 3 [] [.nw] [1, 2, 3, 7, 8] [z1, (2, vI t), z2, z25, (8, vI ((q : Int) + 1))] (ap [z24, z17, z4] [T18]) [] [-9223372036854775808 ≤ (q : Int) + 1 ∧ (q : Int) + 1 ≤ 9223372036854775807] (fun _ => by kernel_rfl) mn (ac ⟨by omega, by omega⟩ an) ?_
        refine TL.fin (by kernel_rfl) ?_
        have hz2 := hz20 hz_
        refine EX.meet (A := [z24, z17, z4]) (Ts := [T18]) (q + 1, A16, c17, T18) ?_ [1, 2, 3, 7, 8] (by kernel_rfl) [2] [0, 1] [0] [] (by kernel_rfl) (by kernel_rfl) (by kernel_rfl)
        try dsimp only
        refine ⟨⟨by omega, ?_, hz2⟩, by omega⟩
        rw [rowL_succ, he_]
        exact hs19
    · refine TR.no (b := decide ((n : Int) > 0)) (by kernel_rfl) (by kernel_rfl) (decide_eq_false h4) ?_
      refine TR.skip ?_
      refine EX.next ?_
      refine TR.seq ?_
      refine TR.reg ?_
      refine TL.seg 10 [] [.own 0, .own 0, .own 0] [1, 2, 3, 7, 8, 9, 10] (fun n21 => [z1, (2, vI t), z2, z5, z6, (9, vI 0), (10, vP (n21 + 0) 0)]) (fun n21 => (ap [((n21 + 0), .lit [vI (-1), vI (-1), vI 0] 70 (0, 0)), z4] [T_])) (fun n21 => [(n21 + 0), (n21 + 0), (n21 + 0)]) (fun n21 => []) (fun _ => by kernel_rfl) mn (fun n21 => an) ?_
      intro n21
      refine TL.fin (by kernel_rfl) ?_
      refine EX.next ?_
      refine TR.seq ?_
      refine TR.seq ?_
      refine TR.reg ?_
      let z26 : Nat × Value := (10, vP (n21 + 0) 0)
      let z27 : Nat × Blk := ((n21 + 0), .lit [vI (-1), vI (-1), vI 0] 70 (0, 0))
      refine TL.seg0 4 [] [] [1, 2, 3, 7, 8, 9, 10, 44] [z1, (2, vI t), z2, z5, z6, (9, vI 0), z26, (44, .bool true)] (ap [z27, z4] [T_]) [] [] (fun _ => by kernel_rfl) mn an ?_
      refine TL.fin (by kernel_rfl) ?_
      refine EX.next ?_
      refine TR.yes (by kernel_rfl) (by kernel_rfl) (rfl : true = true) ?_
      refine TR.reg ?_
      refine TL.seg0 5 [] [.own 0] [1, 2, 3, 7, 8, 10] [z1, (2, vI t), z2, z5, z6, z26] (ap [z27, z4] [T_]) [(n21 + 0)] [] (fun _ => by kernel_rfl) mn an ?_
      refine TL.fin (by kernel_rfl) ?_
      refine EX.next ?_
      refine TR.reg ?_
      refine TL.seg 3 [] [.own 0, .own 0, .own 0] [1, 2, 3, 7, 8, 49, 51] (fun n22 => [z1, (2, vI t), z2, z5, z6, (49, .slice A_ q c_), (51, vS (n22 + 0) 0 1 1)]) (fun n22 => (ap [((n22 + 0), .lit [vI (-1), vI (-1), vI 0] 70 (0, 0)), z27, z4] [T_])) (fun n22 => [(n21 + 0), (n21 + 0), (n21 + 0)]) (fun n22 => []) (fun _ => by kernel_rfl) mn (fun n22 => an) ?_
      intro n22
      have he_ : rowI S.players xs t q = (⟨(-1), (-1), 0⟩ : Inp) := by
        unfold rowI
        rw [show rowN S.players xs t q = 0 from by unfold rowN; rw [hl.len]; rw [if_neg (by omega)]]
        rfl
      let z28 := (⟨(-1), (-1), 0⟩ : Inp)
      let z29 : Nat × Blk := ((n22 + 0), .lit [vI (-1), vI (-1), vI 0] 70 (0, 0))
      refine TL.app (e := inpE) (P := Tryz.prog) (tx := 46) inpEOk (o := _) (a1 := (.tmp 49)) (a2 := (.tmp 51)) rfl rfl rfl rfl (rowL S.players xs t q) [z28] (A := A_) (cap := c_) (n := q) T_ [z29, z27, z4] [T_] [] [] (by kernel_rfl) (by kernel_rfl) (rowL_len _ _ _ _).symm (by kernel_rfl) rfl ⟨0, rfl, by kernel_rfl⟩ (by kernel_rfl) hs_ (fun w hR => src_lit inpEOk rfl (src := [z28]) (c := 1) 0 rfl hR) (by rw [rowL_len]; show q + 1 ≤ 100000000; omega) [1, 2, 3, 7, 8, 52] (fun v_ => [z1, (2, vI t), z2, z5, z6, (52, v_)]) (fun _ => by kernel_rfl) ?_
      rintro A23 c24 T25 ⟨hs26, hz27⟩
      let z30 : Nat × Value := (7, .slice A23 (q + 1) c24)
      refine TL.seg0 1 [] [] [1, 2, 3, 7, 8] [z1, (2, vI t), z2, z30, z6] (ap [z29, z27, z4] [T25]) [] [] (fun _ => by kernel_rfl) mn an ?_
      refine TL.fin (by kernel_rfl) ?_
      refine EX.inn ?_
      refine EX.next ?_
      refine TR.reg ?_
      refine TL.seg0 3 [] [.nw] [1, 2, 3, 7, 8] [z1, (2, vI t), z2, z30, (8, vI ((q : Int) + 1))] (ap [z29, z27, z4] [T25]) [] [-9223372036854775808 ≤ (q : Int) + 1 ∧ (q : Int) + 1 ≤ 9223372036854775807] (fun _ => by kernel_rfl) mn (ac ⟨by omega, by omega⟩ an) ?_
      refine TL.fin (by kernel_rfl) ?_
      have hz2 := hz27 hz_
      refine EX.meet (A := [z29, z27, z4]) (Ts := [T25]) (q + 1, A23, c24, T25) ?_ [1, 2, 3, 7, 8] (by kernel_rfl) [2] [0, 1] [0] [] (by kernel_rfl) (by kernel_rfl) (by kernel_rfl)
      try dsimp only
      refine ⟨⟨by omega, ?_, hz2⟩, by omega⟩
      rw [rowL_succ, he_]
      exact hs26
  · refine TR.no (b := decide ((q : Int) < S.players)) (by kernel_rfl) (by kernel_rfl) (decide_eq_false h3) ?_
    refine TR.exit ?_
    refine EX.thn (by simp) ?_
    refine EX.thn (by simp) ?_
    refine EX.hit ?_
    refine EX.next ?_
    refine TR.seq ?_
    refine TR.reg ?_
    refine TL.seg0 2 [] [] [6] [(6, .slice A_ q c_)] (ap [z4] [T_]) [] [] (fun _ => by kernel_rfl) mn an ?_
    refine TL.fin (by kernel_rfl) ?_
    refine EX.next ?_
    refine TR.ret (A := [z4]) (Ts := [T_]) (by exact fun _ _ h => h) rfl rfl [] [] (.slice A_ q c_) [] [] (fun _ => by kernel_rfl) mn an [] [0] [0] [] (ap [] [T_]) (by kernel_rfl) (by kernel_rfl) (by kernel_rfl) ?_
    have ei : q = S.players.toNat := by omega
    subst ei
    exact ⟨(A_, c_, T_), rfl, rfl, hs_, hz_⟩
end Go.Proofs.YtpkincoclhpcgaaGreatDoor
