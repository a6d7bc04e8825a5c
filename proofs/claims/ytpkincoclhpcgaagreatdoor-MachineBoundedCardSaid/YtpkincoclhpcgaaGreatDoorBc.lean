/- Contracts, printed by a program. -/
import Derived.Test.YtpkincoclhpcgaaGreatDoorBb
namespace Go.Proofs.YtpkincoclhpcgaaGreatDoor
set_option linter.unusedSimpArgs false
set_option linter.unusedVariables false
open Go.RowKit
theorem lmot_lit (S : Setup) (q n cap : Nat) (cs : List Int) (i : Nat) (m : Mot) (F : HL) (e : motC S cs i = m) (hS : SetIn F S) (hq : (q, .rows 1 n (irow cs) 3 (0, 0)) ∈ F) (hi : i < S.nb) (hn : (sizeOf S).toNat ≤ n) (hc : n ≤ cap) (hn2 : n ≤ 100000000) : Sp Tryz.prog 20 #[Setup.v S, vS q 0 n cap, vI i] [] F (fun u H' => u = .agg #[vI m.px, vI m.py, vI m.vx, vI m.vy, vI m.inv] ∧ H' = []) := by
  subst e
  exact lmot_any S q n cap cs i F hS hq hi hn hc hn2
theorem cells_ap (mb : Nat) (M : MemS) (k : Nat) (T F : HL) (hM : MemH mb M k T) (hT : ∀ x ∈ T, x ∈ F) : Sp Tryz.prog 10 #[vP mb 0] (ap [] []) F (fun u H' => ∃ q, H' = ap [(q, .rows 1 M.cs.length (irow M.cs) 3 (0, 0))] [] ∧ u = vS q 0 M.cs.length M.cs.length) := cells_any mb M k T F hM hT

theorem row_blk (S : Setup) (A : Option Addr) (n cap : Nat) (xs : List Int) (t : Int) (F : HL) (hl : ArgL F A n xs) (hn : n ≤ 9223372036854775807) (hp : 1 ≤ S.players ∧ S.players ≤ 1000000) (ht : 0 ≤ t ∧ t ≤ 1000000) : Sp Tryz.prog 19 #[Setup.v S, .slice A n cap, vI t] (ap [] []) F (fun u H' => ∃ x : Nat × Nat × List Inp, H' = ap [(x.1, .rows 3 x.2.1 (inrow x.2.2) 70 (0, 0))] [] ∧ (u = vS x.1 0 S.players.toNat x.2.1 ∧ S.players.toNat ≤ x.2.1 ∧ ∀ i, i < S.players.toNat → x.2.2.getD i dI = rowI S.players xs t i)) := by
  refine (row_any S A n cap xs t F hl hn (by omega) ht).mono fun u H' h => ?_
  obtain ⟨⟨Ai, ci, Ti⟩, rfl, rfl, hsi, hzi⟩ := h
  dsimp only at hsi hzi
  obtain ⟨ib, irest, rfl, rfl, hic⟩ := hsi.open0 hzi (by decide) (by rw [rowL_len]; omega)
  rw [rowL_len] at hic
  exact ⟨(ib, ci, rowL S.players xs t S.players.toNat ++ irest), by simp; rfl, rfl, hic, fun i hi => by
    rw [List.getD_eq_getElem?_getD, List.getElem?_append_left (by rw [rowL_len]; exact hi), ← List.getD_eq_getElem?_getD, rowL_get hi]⟩

set_option maxHeartbeats 4000000 in
set_option maxRecDepth 100000 in
theorem bounded_any (A A2 : Option Addr) (n cap n2 cap2 : Nat) (xs ys : List Int) (ticks : Int) (F : HL) (hl : ArgL F A n xs) (hn : n ≤ 9223372036854775807) (hl2 : ArgL F A2 n2 ys) (hn2 : n2 ≤ 9223372036854775807) (hticks : i64r ticks) : Sp Tryz.prog 4 #[.slice A n cap, .slice A2 n2 cap2, vI ticks] [] F (fun u H' => u = .bool true ∧ H' = []) := by
  refine Sp.of_body Tryz.func4 rfl rfl rfl [(0, .slice A n cap), (1, .slice A2 n2 cap2), (2, vI ticks)] rfl ?_
  intro w0
  refine TR.convH (ap [] []) rfl ?_
  refine TR.seq ?_
  refine TR.reg ?_
  let z1 : Nat × Value := (1, .slice A2 n2 cap2)
  refine TL.seg0 1 [] [] [0, 1, 2] [(0, .slice A n cap), z1, (2, vI ticks)] (ap [] []) [] [] (fun _ => by kernel_rfl) mn an ?_
  refine TL.fin (by kernel_rfl) ?_
  refine EX.next ?_
  refine TR.seq ?_
  refine TR.reg ?_
  refine TL.seg0 1 [] [] [1, 2, 14] [z1, (2, vI ticks), (14, .slice A n cap)] (ap [] []) [] [] (fun _ => by kernel_rfl) mn an ?_
  refine TL.callT (τ := Setup × HL) [] [] (dst := (some 15)) (f := 17) (args := #[.slice A n cap]) (A := []) (Ts := []) (E := []) (Ob := []) [] [] [] [] [1, 2, 15] [] [] [] [] (fun x => [(x.1.bb, .rows 9 x.1.bR (brow x.1.bods) 40 (0, 0))]) (fun x => [x.2]) (fun v x => v = Setup.v x.1 ∧ SetG xs x.1 x.2) (fun v_ => [z1, (2, vI ticks), (15, v_)]) (fun _ => by kernel_rfl) mn an (by kernel_rfl) (by kernel_rfl) (by kernel_rfl) (by kernel_rfl) (by kernel_rfl) (by kernel_rfl) (fun _ => by kernel_rfl) (setup_any A n cap xs _ hl.up hn) ?_
  rintro _ ⟨S, TS⟩ ⟨rfl, hG⟩
  dsimp only at hG
  let z2 : Nat × Blk := (S.bb, .rows 9 S.bR (brow S.bods) 40 (0, 0))
  refine TL.seg 2 [] [.own 0, .own 0, .own 0, .own 0, .own 0, .own 0, .own 0, .own 0, .own 0, .own 0, .own 0, .own 0, .own 0, .own 0, .own 0, .own 0] [1, 2, 7] (fun n1 => [z1, (2, vI ticks), (7, vP (n1 + 0) 0)]) (fun n1 => (ap [((n1 + 0), .lit (Setup.l S) 32 (0, 0)), z2] [TS])) (fun n1 => [(n1 + 0), (n1 + 0), (n1 + 0), (n1 + 0), (n1 + 0), (n1 + 0), (n1 + 0), (n1 + 0), (n1 + 0), (n1 + 0), (n1 + 0), (n1 + 0), (n1 + 0), (n1 + 0), (n1 + 0), (n1 + 0)]) (fun n1 => []) (fun _ => by kernel_rfl) mn (fun n1 => an) ?_
  intro n1
  refine TL.fin (by kernel_rfl) ?_
  refine EX.next ?_
  refine TR.seq ?_
  have hB := setB hl hG
  have hpl := hB.pl
  have hnb := hB.nb
  have hcp := hG.cap
  have hrm := hG.room
  have hbd := bound_bd hB hG.nums.2.2.2.2.2.2.2
  have hsz : (sizeOf S).toNat ≤ 1000000 := by unfold sizeOf; omega
  refine TR.reg ?_
  let z3 : Nat × Value := (7, vP (n1 + 0) 0)
  let z4 : Nat × Blk := ((n1 + 0), .lit (Setup.l S) 32 (0, 0))
  refine TL.seg0 1 [] [.own 0, .own 0, .own 0, .own 0, .own 0, .own 0, .own 0, .own 0, .own 0, .own 0, .own 0, .own 0, .own 0, .own 0, .own 0, .own 0] [1, 2, 7, 16] [z1, (2, vI ticks), z3, (16, (Setup.v S))] (ap [z4, z2] [TS]) [(n1 + 0), (n1 + 0), (n1 + 0), (n1 + 0), (n1 + 0), (n1 + 0), (n1 + 0), (n1 + 0), (n1 + 0), (n1 + 0), (n1 + 0), (n1 + 0), (n1 + 0), (n1 + 0), (n1 + 0), (n1 + 0)] [] (fun _ => by kernel_rfl) mn an ?_
  let z5 := irow (iniL S S.nb)
  refine TL.callT (τ := Nat) [] [] (dst := (some 17)) (f := 9) (args := #[(Setup.v S)]) (A := [z4, z2]) (Ts := [TS]) (E := []) (Ob := []) [] [0, 1] [] [0] [1, 2, 7, 17] [] [z4, z2] [] [TS] (fun q => [(q, .rows 1 ((sizeOf S).toNat) z5 3 (0, 0))]) (fun _ => []) (fun v q => v = vS q 0 (sizeOf S).toNat (sizeOf S).toNat) (fun v_ => [z1, (2, vI ticks), z3, (17, v_)]) (fun _ => by kernel_rfl) mn an (by kernel_rfl) (by kernel_rfl) (by kernel_rfl) (by kernel_rfl) (by kernel_rfl) (by kernel_rfl) (fun _ => by kernel_rfl) (rinit_ap S _ (hG.sin _ (in_ap 1 rfl) (sub_ap 0 rfl))) ?_
  rintro _ q2 rfl
  let z6 : Nat × Blk := (q2, .rows 1 ((sizeOf S).toNat) z5 3 (0, 0))
  refine TL.callT (τ := Nat × HL) [] [] (dst := (some 18)) (f := 8) (args := #[vS q2 0 ((sizeOf S).toNat) ((sizeOf S).toNat)]) (A := [z6, z4, z2]) (Ts := [TS]) (E := []) (Ob := []) [] [0, 1, 2] [] [0] [1, 2, 7, 18] [] [z6, z4, z2] [] [TS] (fun _ => []) (fun x => [x.2]) (fun v x => v = vP x.1 0 ∧ MemH x.1 ⟨(iniL S S.nb), [], 0⟩ 100000000 x.2) (fun v_ => [z1, (2, vI ticks), z3, (18, v_)]) (fun _ => by kernel_rfl) mn an (by kernel_rfl) (by kernel_rfl) (by kernel_rfl) (by kernel_rfl) (by kernel_rfl) (by kernel_rfl) (fun _ => by kernel_rfl) (newn_any q2 (iniL S S.nb) ((sizeOf S).toNat) 100000000 ((sizeOf S).toNat) _ (iniL_len _ _) (in_ap 0 rfl) hsz (by decide) (Nat.le_refl _)) ?_
  rintro _ ⟨mb, T⟩ ⟨rfl, hM⟩
  dsimp only at hM
  refine TL.seg0 1 [] [] [1, 2, 7, 8] [z1, (2, vI ticks), z3, (8, vP mb 0)] (ap [z6, z4, z2] [T, TS]) [] [] (fun _ => by kernel_rfl) mn an ?_
  refine TL.fin (by kernel_rfl) ?_
  refine EX.next ?_
  refine TR.seq ?_
  refine TR.seq ?_
  refine TR.reg ?_
  refine TL.seg0 2 [] [] [1, 2, 7, 8, 20] [z1, (2, vI ticks), z3, (8, vP mb 0), (20, .bool false)] (ap [z6, z4, z2] [T, TS]) [] [] (fun _ => by kernel_rfl) mn an ?_
  refine TL.fin (by kernel_rfl) ?_
  refine EX.next ?_
  refine TR.no (by kernel_rfl) (by kernel_rfl) (rfl : false = false) ?_
  refine TR.skip ?_
  refine EX.next ?_
  refine TR.seq ?_
  refine TR.seq ?_
  refine TR.reg ?_
  refine TL.seg0 1 [] [] [1, 2, 7, 8, 9] [z1, (2, vI ticks), z3, (8, vP mb 0), (9, vI 0)] (ap [z6, z4, z2] [T, TS]) [] [] (fun _ => by kernel_rfl) mn an ?_
  refine TL.fin (by kernel_rfl) ?_
  refine EX.next ?_
  refine TR.block ?_
  refine TR.loop (A := [z6, z4, z2]) (Ts := [T, TS]) (σ := Nat × MemS × HL) (fun (x : Nat × MemS × HL) => match x with | ⟨t, M_, T_⟩ => [z1, (2, vI ticks), z3, (8, vP mb 0), (9, vI (t : Int))]) (fun (x : Nat × MemS × HL) => match x with | ⟨t, M_, T_⟩ => ap [z6, z4, z2] [T_, TS]) (fun (x : Nat × MemS × HL) => match x with | ⟨t, M_, T_⟩ => t ≤ 7 ∧ TE S M_ ∧ MemH mb M_ (3200 * (7 - t)) T_) (fun (x : Nat × MemS × HL) => match x with | ⟨t, M_, T_⟩ => 7 - t) (0, ⟨(iniL S S.nb), [], 0⟩, T) (⟨by omega, ini_te hB, hM.weak (by omega)⟩) [1, 2, 7, 8, 9] (by kernel_rfl) [0, 1, 2] [] [0, 1] [] (by kernel_rfl) (by kernel_rfl) (by kernel_rfl) ?_
  rintro ⟨t, M_, T_⟩ ⟨ht_, hte, hM_⟩
  refine TR.seq ?_
  refine TR.seq ?_
  refine TR.reg ?_
  let z7 : Nat × Value := (9, vI (t : Int))
  let z8 : Nat × Value := (21, vI (t : Int))
  refine TL.seg0 2 [] [] [1, 2, 7, 8, 9, 21, 22] [z1, (2, vI ticks), z3, (8, vP mb 0), z7, z8, (22, vI ticks)] (ap [z6, z4, z2] [T_, TS]) [] [] (fun _ => by kernel_rfl) mn an ?_
  let z9 := around ticks 7
  refine TL.callp (dst := (some 23)) (f := 6) (args := #[vI ticks, vI 7]) (H1 := (ap [z6, z4, z2] [T_, TS])) (E := []) (Ob := []) [] [] [1, 2, 7, 8, 9, 21, 23] (vI z9) [z1, (2, vI ticks), z3, (8, vP mb 0), z7, z8, (23, vI z9)] (fun _ => by kernel_rfl) mn an (around_any ticks 7 (by decide) _) (by kernel_rfl) ?_
  have hA4 := around_bd (n := ticks) hticks 7 (by decide)
  refine TL.seg0 1 [] [] [1, 2, 7, 8, 9, 24] [z1, (2, vI ticks), z3, (8, vP mb 0), z7, (24, .bool (decide ((t : Int) < around ticks 7)))] (ap [z6, z4, z2] [T_, TS]) [] [] (fun _ => by kernel_rfl) mn an ?_
  refine TL.fin (by kernel_rfl) ?_
  refine EX.next ?_
  rcases Decidable.em ((t : Int) < around ticks 7) with h5 | h5
  · refine TR.yes (b := decide ((t : Int) < around ticks 7)) (by kernel_rfl) (by kernel_rfl) (decide_eq_true h5) ?_
    refine TR.skip ?_
    refine EX.next ?_
    refine TR.seq ?_
    refine TR.block ?_
    refine TR.seq ?_
    refine TR.draw [9] [] rfl (by kernel_rfl) ?_
    let z10 : Nat × Value := (32, .slice A2 n2 cap2)
    let z11 : Nat × Value := (33, vI (t : Int))
    refine TD.vals [] (by kernel_rfl) [0, 1, 3, 4, 5, 7] [] [.own 1, .own 1, .own 1, .own 1, .own 1, .own 1, .own 1, .own 1, .own 1, .own 1, .own 1, .own 1, .own 1, .own 1, .own 1, .own 1, .own 1, .own 1, .own 1, .own 1, .own 1, .own 1, .own 1, .own 1, .own 1, .own 1, .own 1, .own 1, .own 1, .own 1, .own 1, .own 1, .own 1, .own 1, .own 1, .own 1, .own 1, .own 1, .own 1, .own 1, .own 1, .own 1, .own 1, .own 1, .own 1, .own 1, .own 1, .own 1] [1, 2, 7, 8, 9, 28, 29, 31, 32, 33, 35] [true, true, false, true, true, true, false, true, false, false, false, false, false, false, false] [z1, (2, vI ticks), z3, (8, vP mb 0), z7, (28, vP mb 0), (29, (Setup.v S)), (31, (Setup.v S)), z10, z11, (35, (Setup.v S))] [(n1 + 0), (n1 + 0), (n1 + 0), (n1 + 0), (n1 + 0), (n1 + 0), (n1 + 0), (n1 + 0), (n1 + 0), (n1 + 0), (n1 + 0), (n1 + 0), (n1 + 0), (n1 + 0), (n1 + 0), (n1 + 0), (n1 + 0), (n1 + 0), (n1 + 0), (n1 + 0), (n1 + 0), (n1 + 0), (n1 + 0), (n1 + 0), (n1 + 0), (n1 + 0), (n1 + 0), (n1 + 0), (n1 + 0), (n1 + 0), (n1 + 0), (n1 + 0), (n1 + 0), (n1 + 0), (n1 + 0), (n1 + 0), (n1 + 0), (n1 + 0), (n1 + 0), (n1 + 0), (n1 + 0), (n1 + 0), (n1 + 0), (n1 + 0), (n1 + 0), (n1 + 0), (n1 + 0), (n1 + 0)] [] (by kernel_rfl) (by kernel_rfl) mn an 9 rfl ?_
    let z12 : Nat × Value := (30, .agg #[.slice none 0 0, vI (-1), vI (-1), vI (-1)])
    refine TD.callv [] (by kernel_rfl) 2 [] [] (dst := (some 30)) (f := 13) (args := #[]) (E := []) (Ob := []) [1, 2, 7, 8, 9, 28, 29, 30, 31, 32, 33, 35] (.agg #[.slice none 0 0, vI (-1), vI (-1), vI (-1)]) [z1, (2, vI ticks), z3, (8, vP mb 0), z7, (28, vP mb 0), (29, (Setup.v S)), z12, (31, (Setup.v S)), z10, z11, (35, (Setup.v S))] (by kernel_rfl) (by kernel_rfl) (by kernel_rfl) mn an (fun X_ => (none_any _)) (by kernel_rfl) 8 rfl ?_
    refine TD.one 6 (by kernel_rfl) 7 rfl fun a_ hF_ hcl_ => ?_
    refine OPJ.callT (τ := Nat × Nat × List Inp) [] [] (dst := (some 34)) (f := 19) (args := #[(Setup.v S), .slice A2 n2 cap2, vI (t : Int)]) (A := [z6, z4, z2]) (Ts := [T_, TS]) (E := []) (Ob := []) [] [0, 1, 2] [] [0, 1] [1, 2, 7, 8, 9, 28, 29, 30, 34, 35] [] [z6, z4, z2] [] [T_, TS] (fun x => [(x.1, .rows 3 x.2.1 (inrow x.2.2) 70 (0, 0))]) (fun _ => []) (fun v x => v = vS x.1 0 S.players.toNat x.2.1 ∧ S.players.toNat ≤ x.2.1 ∧ ∀ i, i < S.players.toNat → x.2.2.getD i dI = rowI S.players ys (t : Int) i) (fun v_ => [z1, (2, vI ticks), z3, (8, vP mb 0), z7, (28, vP mb 0), (29, (Setup.v S)), z12, (34, v_), (35, (Setup.v S))]) (fun _ => by kernel_rfl) mn an (by kernel_rfl) (by kernel_rfl) (by kernel_rfl) (by kernel_rfl) (by kernel_rfl) (by kernel_rfl) (fun _ => by kernel_rfl) [] (.inr (by decide)) (.inr fun x => ⟨[(x.1, .rows 3 x.2.1 (inrow x.2.2) 70 (0, 0))], rfl⟩) (row_blk S A2 n2 cap2 ys (t : Int) _ hl2.up hn2 (by omega) (by omega)) ?_ hF_ hcl_
    rintro _ ⟨ib, ci, ins⟩ ⟨rfl, hic1, hins⟩
    dsimp only at hic1 hins
    obtain ⟨m, hm, hgood, hte2, hin2⟩ := tickB hB (g := (⟨S, none, 0, 0, -1, -1, -1, 0, ib, 0, S.players.toNat, ci, ci, ins⟩ : Gm)) rfl ⟨by show (-1 : Int) < 0; decide, by show (-1 : Int) < 0; decide, by show (-1 : Int) < 0; decide⟩ hte
    refine TD.callv [] (by kernel_rfl) 8 [] [] (dst := (some 36)) (f := 11) (args := #[(Setup.v S)]) (E := []) (Ob := []) [1, 2, 7, 8, 9, 28, 29, 30, 34, 36] (vI (boundI S)) [z1, (2, vI ticks), z3, (8, vP mb 0), z7, (28, vP mb 0), (29, (Setup.v S)), z12, (34, vS ib 0 S.players.toNat ci), (36, vI (boundI S))] (by kernel_rfl) (by kernel_rfl) (by kernel_rfl) mn an (fun X_ => (bound_any S _)) (by kernel_rfl) 6 rfl ?_
    refine TD.one 9 (by kernel_rfl) 5 rfl fun a_ hF_ hcl_ => ?_
    let z13 : Nat × Blk := (ib, .rows 3 ci (inrow ins) 70 (0, 0))
    let z14 := (⟨S, none, 0, 0, -1, -1, -1, 0, ib, 0, S.players.toNat, ci, ci, ins⟩ : Gm)
    let z15 := 3200 * (6 - t)
    refine OPJ.callT (τ := HL) [] [] (dst := (some 37)) (f := 18) (args := #[vP mb 0, (Setup.v S), .agg #[.slice none 0 0, vI (-1), vI (-1), vI (-1)], vS ib 0 S.players.toNat ci, vI (boundI S)]) (A := [z13, z6, z4, z2]) (Ts := [T_, TS]) (E := []) (Ob := []) [] [0, 1, 2, 3] [0] [1] [1, 2, 7, 8, 9, 37] [] [z13, z6, z4, z2] [T_] [TS] (fun _ => []) (fun x => [x]) (fun v x => MemH mb (runM z14 (m + 1) M_) z15 x ∧ v = .tuple #[vI ((m + 1 : Nat) : Int), .slice none 0 0]) (fun v_ => [z1, (2, vI ticks), z3, (8, vP mb 0), z7, (37, v_)]) (fun _ => by kernel_rfl) mn an (by kernel_rfl) (by kernel_rfl) (by kernel_rfl) (by kernel_rfl) (by kernel_rfl) (by kernel_rfl) (fun _ => by kernel_rfl) [] (.inl (by kernel_rfl)) (.inl (by decide)) (count_any z14 mb M_ z15 m (boundI S) T_ _ (hM_.weak (by omega)) ⟨(hG.sin _ (in_ap 3 rfl) (sub_ap 0 rfl)), in_ap 0 rfl, by show 0 + S.players.toNat ≤ ci ∧ S.players.toNat ≤ 1000000; omega⟩ rfl hgood (by omega) (by omega)) ?_ hF_ hcl_
    rintro _ T6 ⟨hM7, rfl⟩
    generalize runM (⟨S, none, 0, 0, -1, -1, -1, 0, ib, 0, S.players.toNat, ci, ci, ins⟩ : Gm) (m + 1) M_ = M2 at *
    refine TD.vals [] (by kernel_rfl) [10, 11, 12, 13, 14] [] [] [1, 2, 7, 8, 9, 10] [true, true, true, true, true, true, true, true, true, true, true, true, true, true, true] [z1, (2, vI ticks), z3, (8, vP mb 0), z7, (10, vI ((m + 1 : Nat) : Int))] [] [] (by kernel_rfl) (by kernel_rfl) mn an 0 rfl ?_
    refine TD.fin (by kernel_rfl) (EX.np ?_)
    refine EX.next ?_
    refine TR.seq ?_
    refine TR.seq ?_
    refine TR.reg ?_
    let z16 : Nat × Value := (40, vI ((m + 1 : Nat) : Int))
    let z17 : Nat × Blk := (ib, .rows 3 ci (inrow ins) 70 (0, 0))
    let z18 : Nat × Blk := (q2, .rows 1 ((sizeOf S).toNat) (irow (iniL S S.nb)) 3 (0, 0))
    let z19 : Nat × Blk := ((n1 + 0), .lit (Setup.l S) 32 (0, 0))
    let z20 : Nat × Blk := (S.bb, .rows 9 S.bR (brow S.bods) 40 (0, 0))
    refine TL.seg0 2 [] [.own 2, .own 2, .own 2, .own 2, .own 2, .own 2, .own 2, .own 2, .own 2, .own 2, .own 2, .own 2, .own 2, .own 2, .own 2, .own 2] [1, 2, 7, 8, 9, 40, 41] [z1, (2, vI ticks), z3, (8, vP mb 0), z7, z16, (41, (Setup.v S))] (ap [z17, z18, z19, z20] [T6, TS]) [(n1 + 0), (n1 + 0), (n1 + 0), (n1 + 0), (n1 + 0), (n1 + 0), (n1 + 0), (n1 + 0), (n1 + 0), (n1 + 0), (n1 + 0), (n1 + 0), (n1 + 0), (n1 + 0), (n1 + 0), (n1 + 0)] [] (fun _ => by kernel_rfl) mn an ?_
    refine TL.callp (dst := (some 42)) (f := 11) (args := #[(Setup.v S)]) (H1 := (ap [z17, z18, z19, z20] [T6, TS])) (E := []) (Ob := []) [] [] [1, 2, 7, 8, 9, 40, 42] (vI (boundI S)) [z1, (2, vI ticks), z3, (8, vP mb 0), z7, z16, (42, vI (boundI S))] (fun _ => by kernel_rfl) mn an (bound_any S _) (by kernel_rfl) ?_
    refine TL.seg0 1 [] [] [1, 2, 7, 8, 9, 43] [z1, (2, vI ticks), z3, (8, vP mb 0), z7, (43, .bool (decide (((m + 1 : Nat) : Int) > boundI S)))] (ap [z17, z18, z19, z20] [T6, TS]) [] [] (fun _ => by kernel_rfl) mn an ?_
    refine TL.fin (by kernel_rfl) ?_
    refine EX.next ?_
    rcases Decidable.em (((m + 1 : Nat) : Int) > boundI S) with h8 | h8
    · (exfalso; omega)
    · refine TR.no (b := decide (((m + 1 : Nat) : Int) > boundI S)) (by kernel_rfl) (by kernel_rfl) (decide_eq_false h8) ?_
      refine TR.skip ?_
      refine EX.next ?_
      refine TR.seq ?_
      refine TR.reg ?_
      refine TL.seg0 1 [] [] [1, 2, 7, 8, 9, 12] [z1, (2, vI ticks), z3, (8, vP mb 0), z7, (12, vI 0)] (ap [z17, z18, z19, z20] [T6, TS]) [] [] (fun _ => by kernel_rfl) mn an ?_
      refine TL.fin (by kernel_rfl) ?_
      refine EX.next ?_
      refine TR.block ?_
      refine TR.loop (A := [z17, z18, z19, z20]) (Ts := [T6, TS]) (σ := Nat) (fun (i : Nat) => [z1, (2, vI ticks), z3, (8, vP mb 0), z7, (12, vI (i : Int))]) (fun (i : Nat) => ap [z17, z18, z19, z20] [T6, TS]) (fun (i : Nat) => i ≤ S.nb) (fun (i : Nat) => S.nb - i) 0 (Nat.zero_le _) [1, 2, 7, 8, 9, 12] (by kernel_rfl) [0, 1, 2, 3] [] [0, 1] [] (by kernel_rfl) (by kernel_rfl) (by kernel_rfl) ?_
      rintro i hI9
      refine TR.seq ?_
      refine TR.seq ?_
      refine TR.reg ?_
      let z21 : Nat × Value := (12, vI (i : Int))
      refine TL.seg0 5 [] [.own 2] [1, 2, 7, 8, 9, 12, 48] [z1, (2, vI ticks), z3, (8, vP mb 0), z7, z21, (48, .bool (decide ((i : Int) < (S.nb : Int))))] (ap [z17, z18, z19, z20] [T6, TS]) [(n1 + 0)] [] (fun _ => by kernel_rfl) mn an ?_
      refine TL.fin (by kernel_rfl) ?_
      refine EX.next ?_
      rcases Decidable.em ((i : Int) < (S.nb : Int)) with h10 | h10
      · refine TR.yes (b := decide ((i : Int) < (S.nb : Int))) (by kernel_rfl) (by kernel_rfl) (decide_eq_true h10) ?_
        refine TR.skip ?_
        refine EX.next ?_
        refine TR.seq ?_
        refine TR.block ?_
        refine TR.seq ?_
        obtain ⟨m2, em, ⟨hv, rfl⟩ | ⟨hv, hbx, hby, hsx, hsy⟩⟩ := mot_ok hB hte2 hin2 (k := i) (by omega)
        · have hv : (S.bods.getD (S.bo + i) dB).mot.inv = 0 := hv
          refine TR.draw [6] [] rfl (by kernel_rfl) ?_
          let z22 : Nat × Value := (54, vI (i : Int))
          refine TD.vals [] (by kernel_rfl) [0, 1, 3] [] [.own 2, .own 2, .own 2, .own 2, .own 2, .own 2, .own 2, .own 2, .own 2, .own 2, .own 2, .own 2, .own 2, .own 2, .own 2, .own 2] [1, 2, 7, 8, 9, 12, 51, 52, 54] [true, true, false, true, false, false, false] [z1, (2, vI ticks), z3, (8, vP mb 0), z7, z21, (51, (Setup.v S)), (52, vP mb 0), z22] [(n1 + 0), (n1 + 0), (n1 + 0), (n1 + 0), (n1 + 0), (n1 + 0), (n1 + 0), (n1 + 0), (n1 + 0), (n1 + 0), (n1 + 0), (n1 + 0), (n1 + 0), (n1 + 0), (n1 + 0), (n1 + 0)] [] (by kernel_rfl) (by kernel_rfl) mn an 4 rfl ?_
          refine TD.two 2 5 (by kernel_rfl) 3 rfl (fun a_ hF_ hcl_ => ?_) (fun a_ hF_ hcl_ => ?_)
          · let z23 := irow (M2).cs
            refine OPJ.callT (τ := Nat) [] [] (dst := (some 53)) (f := 10) (args := #[vP mb 0]) (A := [z17, z18, z19, z20]) (Ts := [T6, TS]) (E := []) (Ob := []) [] [0, 1, 2, 3] [] [0, 1] [1, 2, 7, 8, 9, 12, 51, 53, 54] [] [z17, z18, z19, z20] [] [T6, TS] (fun q => [(q, .rows 1 ((M2).cs.length) z23 3 (0, 0))]) (fun _ => []) (fun v q => v = vS q 0 (M2).cs.length (M2).cs.length) (fun v_ => [z1, (2, vI ticks), z3, (8, vP mb 0), z7, z21, (51, (Setup.v S)), (53, v_), z22]) (fun _ => by kernel_rfl) mn an (by kernel_rfl) (by kernel_rfl) (by kernel_rfl) (by kernel_rfl) (by kernel_rfl) (by kernel_rfl) (fun _ => by kernel_rfl) [] (.inr (by decide)) (.inr fun q => ⟨[(q, .rows 1 ((M2).cs.length) z23 3 (0, 0))], rfl⟩) (cells_ap mb M2 _ T6 _ hM7 (sub_ap 0 rfl)) ?_ hF_ hcl_
            rintro _ q11 rfl
            let z24 : Nat × Value := (55, .agg #[vI (((S.bods.getD (S.bo + i) dB).mot).px), vI (((S.bods.getD (S.bo + i) dB).mot).py), vI (((S.bods.getD (S.bo + i) dB).mot).vx), vI (((S.bods.getD (S.bo + i) dB).mot).vy), vI (((S.bods.getD (S.bo + i) dB).mot).inv)])
            refine TD.callv [] (by kernel_rfl) 4 [] [] (dst := (some 55)) (f := 20) (args := #[(Setup.v S), vS q11 0 ((M2).cs.length) ((M2).cs.length), vI (i : Int)]) (E := []) (Ob := []) [1, 2, 7, 8, 9, 12, 55] (.agg #[vI (((S.bods.getD (S.bo + i) dB).mot).px), vI (((S.bods.getD (S.bo + i) dB).mot).py), vI (((S.bods.getD (S.bo + i) dB).mot).vx), vI (((S.bods.getD (S.bo + i) dB).mot).vy), vI (((S.bods.getD (S.bo + i) dB).mot).inv)]) [z1, (2, vI ticks), z3, (8, vP mb 0), z7, z21, z24] (by kernel_rfl) (by kernel_rfl) (by kernel_rfl) mn an (fun X_ => (lmot_lit S q11 (M2).cs.length (M2).cs.length (M2).cs i ((S.bods.getD (S.bo + i) dB).mot) _ em (hG.sin _ (in_apX 4 rfl) (sub_apX 1 rfl)) (in_apX 0 rfl) (by omega) (by have := hte2.bd.len; omega) (Nat.le_refl _) (by have := hte2.bd.len; omega))) (by kernel_rfl) 2 rfl ?_
            refine TD.one 5 (by kernel_rfl) 1 rfl fun a_ hF_ hcl_ => ?_
            let z25 : Nat × Blk := (q11, .rows 1 ((M2).cs.length) z23 3 (0, 0))
            refine OPJ.ev [] [] [1, 2, 7, 8, 9, 12, 13, 55] (fun n12 => [z1, (2, vI ticks), z3, (8, vP mb 0), z7, z21, (13, vP (n12 + 0) 0), z24]) (fun n12 => (ap [((n12 + 0), .lit [vI 0, vI 0, vI 0, vI 0, vI 0] 38 (0, 0)), z25, z17, z18, z19, z20] [T6, TS])) (fun n12 => []) (fun n12 => []) (fun _ => by kernel_rfl) mn (fun n12 => an) (.inr ⟨by decide, fun n12 => ⟨[((n12 + 0), .lit [vI 0, vI 0, vI 0, vI 0, vI 0] 38 (0, 0))], rfl⟩⟩) (.inr fun n12 => ⟨[((n12 + 0), .lit [vI 0, vI 0, vI 0, vI 0, vI 0] 38 (0, 0))], rfl⟩) (fun n12 => ?_) hF_ hcl_
            refine TD.one 6 (by kernel_rfl) 0 rfl fun a_ hF_ hcl_ => ?_
            let z26 : Nat × Value := (13, vP (n12 + 0) 0)
            let z27 : Nat × Blk := ((n12 + 0), .lit [vI (((S.bods.getD (S.bo + i) dB).mot).px), vI (((S.bods.getD (S.bo + i) dB).mot).py), vI (((S.bods.getD (S.bo + i) dB).mot).vx), vI (((S.bods.getD (S.bo + i) dB).mot).vy), vI (((S.bods.getD (S.bo + i) dB).mot).inv)] 38 (0, 0))
            refine OPJ.ev [] [.own 0, .own 0, .own 0, .own 0, .own 0] [1, 2, 7, 8, 9, 12, 13] (fun _ => [z1, (2, vI ticks), z3, (8, vP mb 0), z7, z21, z26]) (fun _ => (ap [z27, z25, z17, z18, z19, z20] [T6, TS])) (fun _ => [(n12 + 0), (n12 + 0), (n12 + 0), (n12 + 0), (n12 + 0)]) (fun _ => []) (fun _ => by kernel_rfl) mn (fun _ => an) (.inl ⟨[], fun _ => by kernel_rfl⟩) (.inl (by decide)) (fun _ => ?_) hF_ hcl_
            refine TD.fin (by kernel_rfl) (EX.np ?_)
            refine EX.next ?_
            refine TR.seq ?_
            refine TR.seq ?_
            refine TR.reg ?_
            refine TL.seg0 3 [] [.own 0] [1, 2, 7, 8, 9, 12, 13, 58] [z1, (2, vI ticks), z3, (8, vP mb 0), z7, z21, z26, (58, .bool (decide (((S.bods.getD (S.bo + i) dB).mot).inv = 0)))] (ap [z27, z25, z17, z18, z19, z20] [T6, TS]) [(n12 + 0)] [] (fun _ => by kernel_rfl) mn an ?_
            refine TL.fin (by kernel_rfl) ?_
            refine EX.next ?_
            rcases Decidable.em (((S.bods.getD (S.bo + i) dB).mot).inv = 0) with h13 | h13
            · refine TR.yes (b := decide (((S.bods.getD (S.bo + i) dB).mot).inv = 0)) (by kernel_rfl) (by kernel_rfl) (decide_eq_true h13) ?_
              refine TR.seq ?_
              refine TR.seq ?_
              refine TR.draw [] [] rfl (by kernel_rfl) ?_
              refine TD.vals [] (by kernel_rfl) [0, 1, 3, 2, 4, 5, 6, 7] [] [.own 0, .own 0, .own 0, .own 0, .own 0, .own 4, .ix i, .row 5 (S.bo + i) 2, .row 5 (S.bo + i) 3, .row 5 (S.bo + i) 4, .row 5 (S.bo + i) 5, .row 5 (S.bo + i) 6, .sq] [1, 2, 7, 8, 9, 12, 66] [true, true, true, true, true, true, true, true] [z1, (2, vI ticks), z3, (8, vP mb 0), z7, z21, (66, .bool (!((decide (((S.bods.getD (S.bo + i) dB).mot).px = (S.bods.getD (S.bo + i) dB).mot.px) && (decide (((S.bods.getD (S.bo + i) dB).mot).py = (S.bods.getD (S.bo + i) dB).mot.py) && true)) && ((decide (((S.bods.getD (S.bo + i) dB).mot).vx = (S.bods.getD (S.bo + i) dB).mot.vx) && (decide (((S.bods.getD (S.bo + i) dB).mot).vy = (S.bods.getD (S.bo + i) dB).mot.vy) && true)) && (decide (((S.bods.getD (S.bo + i) dB).mot).inv = (S.bods.getD (S.bo + i) dB).mot.inv) && true)))))] [S.bb, S.bb, S.bb, S.bb, S.bb, (n1 + 0), (n12 + 0), (n12 + 0), (n12 + 0), (n12 + 0), (n12 + 0)] [((S.bo * 9 + i * 9) + 6) = (S.bo + i) * 9 + 6 ∧ (S.bo + i) < S.bR, ((S.bo * 9 + i * 9) + 5) = (S.bo + i) * 9 + 5 ∧ (S.bo + i) < S.bR, ((S.bo * 9 + i * 9) + 4) = (S.bo + i) * 9 + 4 ∧ (S.bo + i) < S.bR, ((S.bo * 9 + i * 9) + 3) = (S.bo + i) * 9 + 3 ∧ (S.bo + i) < S.bR, ((S.bo * 9 + i * 9) + 2) = (S.bo + i) * 9 + 2 ∧ (S.bo + i) < S.bR, (i : Int) = ((i : Nat) : Int) ∧ i < S.nb] (by kernel_rfl) (by kernel_rfl) mn (ac ⟨by omega, by omega⟩ (ac ⟨by omega, by omega⟩ (ac ⟨by omega, by omega⟩ (ac ⟨by omega, by omega⟩ (ac ⟨by omega, by omega⟩ (ac ⟨by omega, by omega⟩ an)))))) 0 rfl ?_
              refine TD.fin (by kernel_rfl) (EX.np ?_)
              refine EX.next ?_
              rcases Decidable.em ((((decide (((S.bods.getD (S.bo + i) dB).mot).px = (S.bods.getD (S.bo + i) dB).mot.px) && (decide (((S.bods.getD (S.bo + i) dB).mot).py = (S.bods.getD (S.bo + i) dB).mot.py) && true)) && ((decide (((S.bods.getD (S.bo + i) dB).mot).vx = (S.bods.getD (S.bo + i) dB).mot.vx) && (decide (((S.bods.getD (S.bo + i) dB).mot).vy = (S.bods.getD (S.bo + i) dB).mot.vy) && true)) && (decide (((S.bods.getD (S.bo + i) dB).mot).inv = (S.bods.getD (S.bo + i) dB).mot.inv) && true)))) = true) with h14 | h14
              · refine TR.no (b := !((decide (((S.bods.getD (S.bo + i) dB).mot).px = (S.bods.getD (S.bo + i) dB).mot.px) && (decide (((S.bods.getD (S.bo + i) dB).mot).py = (S.bods.getD (S.bo + i) dB).mot.py) && true)) && ((decide (((S.bods.getD (S.bo + i) dB).mot).vx = (S.bods.getD (S.bo + i) dB).mot.vx) && (decide (((S.bods.getD (S.bo + i) dB).mot).vy = (S.bods.getD (S.bo + i) dB).mot.vy) && true)) && (decide (((S.bods.getD (S.bo + i) dB).mot).inv = (S.bods.getD (S.bo + i) dB).mot.inv) && true)))) (by kernel_rfl) (by kernel_rfl) (by rw [h14]; rfl) ?_
                refine TR.skip ?_
                refine EX.next ?_
                refine TR.exit ?_
                refine EX.thn (by simp) ?_
                refine EX.hit ?_
                refine EX.next ?_
                refine TR.reg ?_
                refine TL.seg0 3 [] [.nw] [1, 2, 7, 8, 9, 12] [z1, (2, vI ticks), z3, (8, vP mb 0), z7, (12, vI ((i : Int) + 1))] (ap [z27, z25, z17, z18, z19, z20] [T6, TS]) [] [-9223372036854775808 ≤ (i : Int) + 1 ∧ (i : Int) + 1 ≤ 9223372036854775807] (fun _ => by kernel_rfl) mn (ac ⟨by omega, by omega⟩ an) ?_
                refine TL.fin (by kernel_rfl) ?_
                refine EX.meet (A := [z27, z25, z17, z18, z19, z20]) (Ts := [T6, TS]) (i + 1) ?_ [1, 2, 7, 8, 9, 12] (by kernel_rfl) [2, 3, 4, 5] [0, 1] [0, 1] [] (by kernel_rfl) (by kernel_rfl) (by kernel_rfl)
                try dsimp only
                exact ⟨by omega, by omega⟩
              · exact absurd (by simp) h14
            · exact absurd hv h13
          · refine OPJ.ev [] [] [1, 2, 7, 8, 9, 12, 13, 51, 52, 54] (fun n15 => [z1, (2, vI ticks), z3, (8, vP mb 0), z7, z21, (13, vP (n15 + 0) 0), (51, (Setup.v S)), (52, vP mb 0), z22]) (fun n15 => (ap [((n15 + 0), .lit [vI 0, vI 0, vI 0, vI 0, vI 0] 38 (0, 0)), z17, z18, z19, z20] [T6, TS])) (fun n15 => []) (fun n15 => []) (fun _ => by kernel_rfl) mn (fun n15 => an) (.inr ⟨by decide, fun n15 => ⟨[((n15 + 0), .lit [vI 0, vI 0, vI 0, vI 0, vI 0] 38 (0, 0))], rfl⟩⟩) (.inr fun n15 => ⟨[((n15 + 0), .lit [vI 0, vI 0, vI 0, vI 0, vI 0] 38 (0, 0))], rfl⟩) (fun n15 => ?_) hF_ hcl_
            refine TD.one 2 (by kernel_rfl) 2 rfl fun a_ hF_ hcl_ => ?_
            let z28 : Nat × Blk := ((n15 + 0), .lit [vI 0, vI 0, vI 0, vI 0, vI 0] 38 (0, 0))
            let z29 := irow (M2).cs
            let z30 : Nat × Value := (13, vP (n15 + 0) 0)
            refine OPJ.callT (τ := Nat) [] [] (dst := (some 53)) (f := 10) (args := #[vP mb 0]) (A := [z28, z17, z18, z19, z20]) (Ts := [T6, TS]) (E := []) (Ob := []) [] [0, 1, 2, 3, 4] [] [0, 1] [1, 2, 7, 8, 9, 12, 13, 51, 53, 54] [] [z28, z17, z18, z19, z20] [] [T6, TS] (fun q => [(q, .rows 1 ((M2).cs.length) z29 3 (0, 0))]) (fun _ => []) (fun v q => v = vS q 0 (M2).cs.length (M2).cs.length) (fun v_ => [z1, (2, vI ticks), z3, (8, vP mb 0), z7, z21, z30, (51, (Setup.v S)), (53, v_), z22]) (fun _ => by kernel_rfl) mn an (by kernel_rfl) (by kernel_rfl) (by kernel_rfl) (by kernel_rfl) (by kernel_rfl) (by kernel_rfl) (fun _ => by kernel_rfl) [] (.inr (by decide)) (.inr fun q => ⟨[(q, .rows 1 ((M2).cs.length) z29 3 (0, 0))], rfl⟩) (cells_ap mb M2 _ T6 _ hM7 (sub_ap 0 rfl)) ?_ hF_ hcl_
            rintro _ q16 rfl
            refine TD.callv [] (by kernel_rfl) 4 [] [] (dst := (some 55)) (f := 20) (args := #[(Setup.v S), vS q16 0 ((M2).cs.length) ((M2).cs.length), vI (i : Int)]) (E := []) (Ob := []) [1, 2, 7, 8, 9, 12, 13, 55] (.agg #[vI (((S.bods.getD (S.bo + i) dB).mot).px), vI (((S.bods.getD (S.bo + i) dB).mot).py), vI (((S.bods.getD (S.bo + i) dB).mot).vx), vI (((S.bods.getD (S.bo + i) dB).mot).vy), vI (((S.bods.getD (S.bo + i) dB).mot).inv)]) [z1, (2, vI ticks), z3, (8, vP mb 0), z7, z21, z30, (55, .agg #[vI (((S.bods.getD (S.bo + i) dB).mot).px), vI (((S.bods.getD (S.bo + i) dB).mot).py), vI (((S.bods.getD (S.bo + i) dB).mot).vx), vI (((S.bods.getD (S.bo + i) dB).mot).vy), vI (((S.bods.getD (S.bo + i) dB).mot).inv)])] (by kernel_rfl) (by kernel_rfl) (by kernel_rfl) mn an (fun X_ => (lmot_lit S q16 (M2).cs.length (M2).cs.length (M2).cs i ((S.bods.getD (S.bo + i) dB).mot) _ em (hG.sin _ (in_apX 5 rfl) (sub_apX 1 rfl)) (in_apX 0 rfl) (by omega) (by have := hte2.bd.len; omega) (Nat.le_refl _) (by have := hte2.bd.len; omega))) (by kernel_rfl) 1 rfl ?_
            refine TD.one 6 (by kernel_rfl) 0 rfl fun a_ hF_ hcl_ => ?_
            let z31 : Nat × Blk := (q16, .rows 1 ((M2).cs.length) z29 3 (0, 0))
            let z32 : Nat × Blk := ((n15 + 0), .lit [vI (((S.bods.getD (S.bo + i) dB).mot).px), vI (((S.bods.getD (S.bo + i) dB).mot).py), vI (((S.bods.getD (S.bo + i) dB).mot).vx), vI (((S.bods.getD (S.bo + i) dB).mot).vy), vI (((S.bods.getD (S.bo + i) dB).mot).inv)] 38 (0, 0))
            refine OPJ.ev [] [.own 1, .own 1, .own 1, .own 1, .own 1] [1, 2, 7, 8, 9, 12, 13] (fun _ => [z1, (2, vI ticks), z3, (8, vP mb 0), z7, z21, z30]) (fun _ => (ap [z31, z32, z17, z18, z19, z20] [T6, TS])) (fun _ => [(n15 + 0), (n15 + 0), (n15 + 0), (n15 + 0), (n15 + 0)]) (fun _ => []) (fun _ => by kernel_rfl) mn (fun _ => an) (.inl ⟨[], fun _ => by kernel_rfl⟩) (.inl (by decide)) (fun _ => ?_) hF_ hcl_
            refine TD.fin (by kernel_rfl) (EX.np ?_)
            refine EX.next ?_
            refine TR.seq ?_
            refine TR.seq ?_
            refine TR.reg ?_
            refine TL.seg0 3 [] [.own 1] [1, 2, 7, 8, 9, 12, 13, 58] [z1, (2, vI ticks), z3, (8, vP mb 0), z7, z21, z30, (58, .bool (decide (((S.bods.getD (S.bo + i) dB).mot).inv = 0)))] (ap [z31, z32, z17, z18, z19, z20] [T6, TS]) [(n15 + 0)] [] (fun _ => by kernel_rfl) mn an ?_
            refine TL.fin (by kernel_rfl) ?_
            refine EX.next ?_
            rcases Decidable.em (((S.bods.getD (S.bo + i) dB).mot).inv = 0) with h17 | h17
            · refine TR.yes (b := decide (((S.bods.getD (S.bo + i) dB).mot).inv = 0)) (by kernel_rfl) (by kernel_rfl) (decide_eq_true h17) ?_
              refine TR.seq ?_
              refine TR.seq ?_
              refine TR.draw [] [] rfl (by kernel_rfl) ?_
              refine TD.vals [] (by kernel_rfl) [0, 1, 3, 2, 4, 5, 6, 7] [] [.own 1, .own 1, .own 1, .own 1, .own 1, .own 4, .ix i, .row 5 (S.bo + i) 2, .row 5 (S.bo + i) 3, .row 5 (S.bo + i) 4, .row 5 (S.bo + i) 5, .row 5 (S.bo + i) 6, .sq] [1, 2, 7, 8, 9, 12, 66] [true, true, true, true, true, true, true, true] [z1, (2, vI ticks), z3, (8, vP mb 0), z7, z21, (66, .bool (!((decide (((S.bods.getD (S.bo + i) dB).mot).px = (S.bods.getD (S.bo + i) dB).mot.px) && (decide (((S.bods.getD (S.bo + i) dB).mot).py = (S.bods.getD (S.bo + i) dB).mot.py) && true)) && ((decide (((S.bods.getD (S.bo + i) dB).mot).vx = (S.bods.getD (S.bo + i) dB).mot.vx) && (decide (((S.bods.getD (S.bo + i) dB).mot).vy = (S.bods.getD (S.bo + i) dB).mot.vy) && true)) && (decide (((S.bods.getD (S.bo + i) dB).mot).inv = (S.bods.getD (S.bo + i) dB).mot.inv) && true)))))] [S.bb, S.bb, S.bb, S.bb, S.bb, (n1 + 0), (n15 + 0), (n15 + 0), (n15 + 0), (n15 + 0), (n15 + 0)] [((S.bo * 9 + i * 9) + 6) = (S.bo + i) * 9 + 6 ∧ (S.bo + i) < S.bR, ((S.bo * 9 + i * 9) + 5) = (S.bo + i) * 9 + 5 ∧ (S.bo + i) < S.bR, ((S.bo * 9 + i * 9) + 4) = (S.bo + i) * 9 + 4 ∧ (S.bo + i) < S.bR, ((S.bo * 9 + i * 9) + 3) = (S.bo + i) * 9 + 3 ∧ (S.bo + i) < S.bR, ((S.bo * 9 + i * 9) + 2) = (S.bo + i) * 9 + 2 ∧ (S.bo + i) < S.bR, (i : Int) = ((i : Nat) : Int) ∧ i < S.nb] (by kernel_rfl) (by kernel_rfl) mn (ac ⟨by omega, by omega⟩ (ac ⟨by omega, by omega⟩ (ac ⟨by omega, by omega⟩ (ac ⟨by omega, by omega⟩ (ac ⟨by omega, by omega⟩ (ac ⟨by omega, by omega⟩ an)))))) 0 rfl ?_
              refine TD.fin (by kernel_rfl) (EX.np ?_)
              refine EX.next ?_
              rcases Decidable.em ((((decide (((S.bods.getD (S.bo + i) dB).mot).px = (S.bods.getD (S.bo + i) dB).mot.px) && (decide (((S.bods.getD (S.bo + i) dB).mot).py = (S.bods.getD (S.bo + i) dB).mot.py) && true)) && ((decide (((S.bods.getD (S.bo + i) dB).mot).vx = (S.bods.getD (S.bo + i) dB).mot.vx) && (decide (((S.bods.getD (S.bo + i) dB).mot).vy = (S.bods.getD (S.bo + i) dB).mot.vy) && true)) && (decide (((S.bods.getD (S.bo + i) dB).mot).inv = (S.bods.getD (S.bo + i) dB).mot.inv) && true)))) = true) with h18 | h18
              · refine TR.no (b := !((decide (((S.bods.getD (S.bo + i) dB).mot).px = (S.bods.getD (S.bo + i) dB).mot.px) && (decide (((S.bods.getD (S.bo + i) dB).mot).py = (S.bods.getD (S.bo + i) dB).mot.py) && true)) && ((decide (((S.bods.getD (S.bo + i) dB).mot).vx = (S.bods.getD (S.bo + i) dB).mot.vx) && (decide (((S.bods.getD (S.bo + i) dB).mot).vy = (S.bods.getD (S.bo + i) dB).mot.vy) && true)) && (decide (((S.bods.getD (S.bo + i) dB).mot).inv = (S.bods.getD (S.bo + i) dB).mot.inv) && true)))) (by kernel_rfl) (by kernel_rfl) (by rw [h18]; rfl) ?_
                refine TR.skip ?_
                refine EX.next ?_
                refine TR.exit ?_
                refine EX.thn (by simp) ?_
                refine EX.hit ?_
                refine EX.next ?_
                refine TR.reg ?_
                refine TL.seg0 3 [] [.nw] [1, 2, 7, 8, 9, 12] [z1, (2, vI ticks), z3, (8, vP mb 0), z7, (12, vI ((i : Int) + 1))] (ap [z31, z32, z17, z18, z19, z20] [T6, TS]) [] [-9223372036854775808 ≤ (i : Int) + 1 ∧ (i : Int) + 1 ≤ 9223372036854775807] (fun _ => by kernel_rfl) mn (ac ⟨by omega, by omega⟩ an) ?_
                refine TL.fin (by kernel_rfl) ?_
                refine EX.meet (A := [z31, z32, z17, z18, z19, z20]) (Ts := [T6, TS]) (i + 1) ?_ [1, 2, 7, 8, 9, 12] (by kernel_rfl) [2, 3, 4, 5] [0, 1] [0, 1] [] (by kernel_rfl) (by kernel_rfl) (by kernel_rfl)
                try dsimp only
                exact ⟨by omega, by omega⟩
              · exact absurd (by simp) h18
            · exact absurd hv h17
        · refine TR.draw [6] [] rfl (by kernel_rfl) ?_
          let z33 : Nat × Value := (54, vI (i : Int))
          refine TD.vals [] (by kernel_rfl) [0, 1, 3] [] [.own 2, .own 2, .own 2, .own 2, .own 2, .own 2, .own 2, .own 2, .own 2, .own 2, .own 2, .own 2, .own 2, .own 2, .own 2, .own 2] [1, 2, 7, 8, 9, 12, 51, 52, 54] [true, true, false, true, false, false, false] [z1, (2, vI ticks), z3, (8, vP mb 0), z7, z21, (51, (Setup.v S)), (52, vP mb 0), z33] [(n1 + 0), (n1 + 0), (n1 + 0), (n1 + 0), (n1 + 0), (n1 + 0), (n1 + 0), (n1 + 0), (n1 + 0), (n1 + 0), (n1 + 0), (n1 + 0), (n1 + 0), (n1 + 0), (n1 + 0), (n1 + 0)] [] (by kernel_rfl) (by kernel_rfl) mn an 4 rfl ?_
          refine TD.two 2 5 (by kernel_rfl) 3 rfl (fun a_ hF_ hcl_ => ?_) (fun a_ hF_ hcl_ => ?_)
          · let z34 := irow (M2).cs
            refine OPJ.callT (τ := Nat) [] [] (dst := (some 53)) (f := 10) (args := #[vP mb 0]) (A := [z17, z18, z19, z20]) (Ts := [T6, TS]) (E := []) (Ob := []) [] [0, 1, 2, 3] [] [0, 1] [1, 2, 7, 8, 9, 12, 51, 53, 54] [] [z17, z18, z19, z20] [] [T6, TS] (fun q => [(q, .rows 1 ((M2).cs.length) z34 3 (0, 0))]) (fun _ => []) (fun v q => v = vS q 0 (M2).cs.length (M2).cs.length) (fun v_ => [z1, (2, vI ticks), z3, (8, vP mb 0), z7, z21, (51, (Setup.v S)), (53, v_), z33]) (fun _ => by kernel_rfl) mn an (by kernel_rfl) (by kernel_rfl) (by kernel_rfl) (by kernel_rfl) (by kernel_rfl) (by kernel_rfl) (fun _ => by kernel_rfl) [] (.inr (by decide)) (.inr fun q => ⟨[(q, .rows 1 ((M2).cs.length) z34 3 (0, 0))], rfl⟩) (cells_ap mb M2 _ T6 _ hM7 (sub_ap 0 rfl)) ?_ hF_ hcl_
            rintro _ q19 rfl
            let z35 : Nat × Value := (55, .agg #[vI m2.px, vI m2.py, vI m2.vx, vI m2.vy, vI m2.inv])
            refine TD.callv [] (by kernel_rfl) 4 [] [] (dst := (some 55)) (f := 20) (args := #[(Setup.v S), vS q19 0 ((M2).cs.length) ((M2).cs.length), vI (i : Int)]) (E := []) (Ob := []) [1, 2, 7, 8, 9, 12, 55] (.agg #[vI m2.px, vI m2.py, vI m2.vx, vI m2.vy, vI m2.inv]) [z1, (2, vI ticks), z3, (8, vP mb 0), z7, z21, z35] (by kernel_rfl) (by kernel_rfl) (by kernel_rfl) mn an (fun X_ => (lmot_lit S q19 (M2).cs.length (M2).cs.length (M2).cs i m2 _ em (hG.sin _ (in_apX 4 rfl) (sub_apX 1 rfl)) (in_apX 0 rfl) (by omega) (by have := hte2.bd.len; omega) (Nat.le_refl _) (by have := hte2.bd.len; omega))) (by kernel_rfl) 2 rfl ?_
            refine TD.one 5 (by kernel_rfl) 1 rfl fun a_ hF_ hcl_ => ?_
            let z36 : Nat × Blk := (q19, .rows 1 ((M2).cs.length) z34 3 (0, 0))
            refine OPJ.ev [] [] [1, 2, 7, 8, 9, 12, 13, 55] (fun n20 => [z1, (2, vI ticks), z3, (8, vP mb 0), z7, z21, (13, vP (n20 + 0) 0), z35]) (fun n20 => (ap [((n20 + 0), .lit [vI 0, vI 0, vI 0, vI 0, vI 0] 38 (0, 0)), z36, z17, z18, z19, z20] [T6, TS])) (fun n20 => []) (fun n20 => []) (fun _ => by kernel_rfl) mn (fun n20 => an) (.inr ⟨by decide, fun n20 => ⟨[((n20 + 0), .lit [vI 0, vI 0, vI 0, vI 0, vI 0] 38 (0, 0))], rfl⟩⟩) (.inr fun n20 => ⟨[((n20 + 0), .lit [vI 0, vI 0, vI 0, vI 0, vI 0] 38 (0, 0))], rfl⟩) (fun n20 => ?_) hF_ hcl_
            refine TD.one 6 (by kernel_rfl) 0 rfl fun a_ hF_ hcl_ => ?_
            let z37 : Nat × Value := (13, vP (n20 + 0) 0)
            let z38 : Nat × Blk := ((n20 + 0), .lit [vI m2.px, vI m2.py, vI m2.vx, vI m2.vy, vI m2.inv] 38 (0, 0))
            refine OPJ.ev [] [.own 0, .own 0, .own 0, .own 0, .own 0] [1, 2, 7, 8, 9, 12, 13] (fun _ => [z1, (2, vI ticks), z3, (8, vP mb 0), z7, z21, z37]) (fun _ => (ap [z38, z36, z17, z18, z19, z20] [T6, TS])) (fun _ => [(n20 + 0), (n20 + 0), (n20 + 0), (n20 + 0), (n20 + 0)]) (fun _ => []) (fun _ => by kernel_rfl) mn (fun _ => an) (.inl ⟨[], fun _ => by kernel_rfl⟩) (.inl (by decide)) (fun _ => ?_) hF_ hcl_
            refine TD.fin (by kernel_rfl) (EX.np ?_)
            refine EX.next ?_
            refine TR.seq ?_
            refine TR.seq ?_
            refine TR.reg ?_
            refine TL.seg0 3 [] [.own 0] [1, 2, 7, 8, 9, 12, 13, 58] [z1, (2, vI ticks), z3, (8, vP mb 0), z7, z21, z37, (58, .bool (decide (m2.inv = 0)))] (ap [z38, z36, z17, z18, z19, z20] [T6, TS]) [(n20 + 0)] [] (fun _ => by kernel_rfl) mn an ?_
            refine TL.fin (by kernel_rfl) ?_
            refine EX.next ?_
            rcases Decidable.em (m2.inv = 0) with h21 | h21
            · (exfalso; omega)
            · refine TR.no (b := decide (m2.inv = 0)) (by kernel_rfl) (by kernel_rfl) (decide_eq_false h21) ?_
              refine TR.skip ?_
              refine EX.next ?_
              refine TR.seq ?_
              refine TR.seq ?_
              refine TR.reg ?_
              rcases Decidable.em (m2.px < S.box.x0) with h22 | h22
              · (exfalso; omega)
              · rcases Decidable.em (m2.px > S.box.x1) with h23 | h23
                · (exfalso; omega)
                · rcases Decidable.em (m2.py < S.box.y0) with h24 | h24
                  · (exfalso; omega)
                  · refine TL.seg0 34 [] [.own 0, .own 4, .gd false, .gd false, .gd false, .own 0, .gd false, .gd false, .gd false, .own 4, .gd false, .gd false, .gd false, .gd false, .gd false, .own 0, .gd false, .gd false, .gd false, .own 4, .gd false, .gd false, .gd false, .gd false, .gd false, .own 0, .gd false, .gd false, .gd false, .own 4, .gd false, .gd false] [1, 2, 7, 8, 9, 12, 13, 100] [z1, (2, vI ticks), z3, (8, vP mb 0), z7, z21, z37, (100, .bool (decide (m2.py > S.box.y1)))] (ap [z38, z36, z17, z18, z19, z20] [T6, TS]) [(n1 + 0), (n20 + 0), (n1 + 0), (n20 + 0), (n1 + 0), (n20 + 0), (n1 + 0), (n20 + 0)] [(decide (m2.py < S.box.y0)) = false, (decide (m2.py < S.box.y0)) = false, (decide (m2.py < S.box.y0)) = false, (decide (m2.py < S.box.y0)) = false, (decide (m2.py < S.box.y0)) = false, (decide (m2.py < S.box.y0)) = false, (decide (m2.py < S.box.y0)) = false, (decide (m2.py < S.box.y0)) = false, (decide (m2.px > S.box.x1)) = false, (decide (m2.px > S.box.x1)) = false, (decide (m2.px > S.box.x1)) = false, (decide (m2.px > S.box.x1)) = false, (decide (m2.px > S.box.x1)) = false, (decide (m2.px > S.box.x1)) = false, (decide (m2.px > S.box.x1)) = false, (decide (m2.px > S.box.x1)) = false, (decide (m2.px < S.box.x0)) = false, (decide (m2.px < S.box.x0)) = false, (decide (m2.px < S.box.x0)) = false, (decide (m2.px < S.box.x0)) = false, (decide (m2.px < S.box.x0)) = false, (decide (m2.px < S.box.x0)) = false, (decide (m2.px < S.box.x0)) = false, (decide (m2.px < S.box.x0)) = false] (fun _ => by kernel_rfl) mn (ac (decide_eq_false h24) (ac (decide_eq_false h24) (ac (decide_eq_false h24) (ac (decide_eq_false h24) (ac (decide_eq_false h24) (ac (decide_eq_false h24) (ac (decide_eq_false h24) (ac (decide_eq_false h24) (ac (decide_eq_false h23) (ac (decide_eq_false h23) (ac (decide_eq_false h23) (ac (decide_eq_false h23) (ac (decide_eq_false h23) (ac (decide_eq_false h23) (ac (decide_eq_false h23) (ac (decide_eq_false h23) (ac (decide_eq_false h22) (ac (decide_eq_false h22) (ac (decide_eq_false h22) (ac (decide_eq_false h22) (ac (decide_eq_false h22) (ac (decide_eq_false h22) (ac (decide_eq_false h22) (ac (decide_eq_false h22) an)))))))))))))))))))))))) ?_
                    refine TL.fin (by kernel_rfl) ?_
                    refine EX.next ?_
                    rcases Decidable.em (m2.py > S.box.y1) with h25 | h25
                    · (exfalso; omega)
                    · refine TR.no (b := decide (m2.py > S.box.y1)) (by kernel_rfl) (by kernel_rfl) (decide_eq_false h25) ?_
                      refine TR.skip ?_
                      refine EX.next ?_
                      refine TR.seq ?_
                      refine TR.reg ?_
                      refine TL.seg0 3 [] [.own 0] [1, 2, 7, 8, 9, 12, 13, 103] [z1, (2, vI ticks), z3, (8, vP mb 0), z7, z21, z37, (103, vI m2.vx)] (ap [z38, z36, z17, z18, z19, z20] [T6, TS]) [(n20 + 0)] [] (fun _ => by kernel_rfl) mn an ?_
                      refine TL.callp (dst := (some 104)) (f := 21) (args := #[vI m2.vx]) (H1 := (ap [z38, z36, z17, z18, z19, z20] [T6, TS])) (E := []) (Ob := []) [] [] [1, 2, 7, 8, 9, 12, 13, 104] (vI (absI m2.vx)) [z1, (2, vI ticks), z3, (8, vP mb 0), z7, z21, z37, (104, vI (absI m2.vx))] (fun _ => by kernel_rfl) mn an (abs_any m2.vx  _) (by kernel_rfl) ?_
                      rcases Decidable.em (absI m2.vx > 16384) with h26 | h26
                      · (exfalso; omega)
                      · let z39 : Nat × Value := (106, .bool (decide (absI m2.vx > 16384)))
                        refine TL.seg0 5 [] [.gd false, .gd false, .gd false, .own 0] [1, 2, 7, 8, 9, 12, 106, 109] [z1, (2, vI ticks), z3, (8, vP mb 0), z7, z21, z39, (109, vI m2.vy)] (ap [z38, z36, z17, z18, z19, z20] [T6, TS]) [(n20 + 0)] [(decide (absI m2.vx > 16384)) = false, (decide (absI m2.vx > 16384)) = false, (decide (absI m2.vx > 16384)) = false] (fun _ => by kernel_rfl) mn (ac (decide_eq_false h26) (ac (decide_eq_false h26) (ac (decide_eq_false h26) an))) ?_
                        refine TL.callp (dst := (some 110)) (f := 21) (args := #[vI m2.vy]) (H1 := (ap [z38, z36, z17, z18, z19, z20] [T6, TS])) (E := []) (Ob := [(decide (absI m2.vx > 16384)) = false]) [] [.gd false] [1, 2, 7, 8, 9, 12, 106, 110] (vI (absI m2.vy)) [z1, (2, vI ticks), z3, (8, vP mb 0), z7, z21, z39, (110, vI (absI m2.vy))] (fun _ => by kernel_rfl) mn (ac (decide_eq_false h26) an) (abs_any m2.vy  _) (by kernel_rfl) ?_
                        refine TL.seg0 2 [] [.gd false, .gd false] [1, 2, 7, 8, 9, 12, 112] [z1, (2, vI ticks), z3, (8, vP mb 0), z7, z21, (112, .bool (decide (absI m2.vy > 16384)))] (ap [z38, z36, z17, z18, z19, z20] [T6, TS]) [] [(decide (absI m2.vx > 16384)) = false, (decide (absI m2.vx > 16384)) = false] (fun _ => by kernel_rfl) mn (ac (decide_eq_false h26) (ac (decide_eq_false h26) an)) ?_
                        refine TL.fin (by kernel_rfl) ?_
                        refine EX.next ?_
                        rcases Decidable.em (absI m2.vy > 16384) with h27 | h27
                        · (exfalso; omega)
                        · refine TR.no (b := decide (absI m2.vy > 16384)) (by kernel_rfl) (by kernel_rfl) (decide_eq_false h27) ?_
                          refine TR.skip ?_
                          refine EX.inn ?_
                          refine EX.next ?_
                          refine TR.reg ?_
                          refine TL.seg0 3 [] [.nw] [1, 2, 7, 8, 9, 12] [z1, (2, vI ticks), z3, (8, vP mb 0), z7, (12, vI ((i : Int) + 1))] (ap [z38, z36, z17, z18, z19, z20] [T6, TS]) [] [-9223372036854775808 ≤ (i : Int) + 1 ∧ (i : Int) + 1 ≤ 9223372036854775807] (fun _ => by kernel_rfl) mn (ac ⟨by omega, by omega⟩ an) ?_
                          refine TL.fin (by kernel_rfl) ?_
                          refine EX.meet (A := [z38, z36, z17, z18, z19, z20]) (Ts := [T6, TS]) (i + 1) ?_ [1, 2, 7, 8, 9, 12] (by kernel_rfl) [2, 3, 4, 5] [0, 1] [0, 1] [] (by kernel_rfl) (by kernel_rfl) (by kernel_rfl)
                          try dsimp only
                          exact ⟨by omega, by omega⟩
          · refine OPJ.ev [] [] [1, 2, 7, 8, 9, 12, 13, 51, 52, 54] (fun n28 => [z1, (2, vI ticks), z3, (8, vP mb 0), z7, z21, (13, vP (n28 + 0) 0), (51, (Setup.v S)), (52, vP mb 0), z33]) (fun n28 => (ap [((n28 + 0), .lit [vI 0, vI 0, vI 0, vI 0, vI 0] 38 (0, 0)), z17, z18, z19, z20] [T6, TS])) (fun n28 => []) (fun n28 => []) (fun _ => by kernel_rfl) mn (fun n28 => an) (.inr ⟨by decide, fun n28 => ⟨[((n28 + 0), .lit [vI 0, vI 0, vI 0, vI 0, vI 0] 38 (0, 0))], rfl⟩⟩) (.inr fun n28 => ⟨[((n28 + 0), .lit [vI 0, vI 0, vI 0, vI 0, vI 0] 38 (0, 0))], rfl⟩) (fun n28 => ?_) hF_ hcl_
            refine TD.one 2 (by kernel_rfl) 2 rfl fun a_ hF_ hcl_ => ?_
            let z40 : Nat × Blk := ((n28 + 0), .lit [vI 0, vI 0, vI 0, vI 0, vI 0] 38 (0, 0))
            let z41 := irow (M2).cs
            let z42 : Nat × Value := (13, vP (n28 + 0) 0)
            refine OPJ.callT (τ := Nat) [] [] (dst := (some 53)) (f := 10) (args := #[vP mb 0]) (A := [z40, z17, z18, z19, z20]) (Ts := [T6, TS]) (E := []) (Ob := []) [] [0, 1, 2, 3, 4] [] [0, 1] [1, 2, 7, 8, 9, 12, 13, 51, 53, 54] [] [z40, z17, z18, z19, z20] [] [T6, TS] (fun q => [(q, .rows 1 ((M2).cs.length) z41 3 (0, 0))]) (fun _ => []) (fun v q => v = vS q 0 (M2).cs.length (M2).cs.length) (fun v_ => [z1, (2, vI ticks), z3, (8, vP mb 0), z7, z21, z42, (51, (Setup.v S)), (53, v_), z33]) (fun _ => by kernel_rfl) mn an (by kernel_rfl) (by kernel_rfl) (by kernel_rfl) (by kernel_rfl) (by kernel_rfl) (by kernel_rfl) (fun _ => by kernel_rfl) [] (.inr (by decide)) (.inr fun q => ⟨[(q, .rows 1 ((M2).cs.length) z41 3 (0, 0))], rfl⟩) (cells_ap mb M2 _ T6 _ hM7 (sub_ap 0 rfl)) ?_ hF_ hcl_
            rintro _ q29 rfl
            refine TD.callv [] (by kernel_rfl) 4 [] [] (dst := (some 55)) (f := 20) (args := #[(Setup.v S), vS q29 0 ((M2).cs.length) ((M2).cs.length), vI (i : Int)]) (E := []) (Ob := []) [1, 2, 7, 8, 9, 12, 13, 55] (.agg #[vI m2.px, vI m2.py, vI m2.vx, vI m2.vy, vI m2.inv]) [z1, (2, vI ticks), z3, (8, vP mb 0), z7, z21, z42, (55, .agg #[vI m2.px, vI m2.py, vI m2.vx, vI m2.vy, vI m2.inv])] (by kernel_rfl) (by kernel_rfl) (by kernel_rfl) mn an (fun X_ => (lmot_lit S q29 (M2).cs.length (M2).cs.length (M2).cs i m2 _ em (hG.sin _ (in_apX 5 rfl) (sub_apX 1 rfl)) (in_apX 0 rfl) (by omega) (by have := hte2.bd.len; omega) (Nat.le_refl _) (by have := hte2.bd.len; omega))) (by kernel_rfl) 1 rfl ?_
            refine TD.one 6 (by kernel_rfl) 0 rfl fun a_ hF_ hcl_ => ?_
            let z43 : Nat × Blk := (q29, .rows 1 ((M2).cs.length) z41 3 (0, 0))
            let z44 : Nat × Blk := ((n28 + 0), .lit [vI m2.px, vI m2.py, vI m2.vx, vI m2.vy, vI m2.inv] 38 (0, 0))
            refine OPJ.ev [] [.own 1, .own 1, .own 1, .own 1, .own 1] [1, 2, 7, 8, 9, 12, 13] (fun _ => [z1, (2, vI ticks), z3, (8, vP mb 0), z7, z21, z42]) (fun _ => (ap [z43, z44, z17, z18, z19, z20] [T6, TS])) (fun _ => [(n28 + 0), (n28 + 0), (n28 + 0), (n28 + 0), (n28 + 0)]) (fun _ => []) (fun _ => by kernel_rfl) mn (fun _ => an) (.inl ⟨[], fun _ => by kernel_rfl⟩) (.inl (by decide)) (fun _ => ?_) hF_ hcl_
            refine TD.fin (by kernel_rfl) (EX.np ?_)
            refine EX.next ?_
            refine TR.seq ?_
            refine TR.seq ?_
            refine TR.reg ?_
            refine TL.seg0 3 [] [.own 1] [1, 2, 7, 8, 9, 12, 13, 58] [z1, (2, vI ticks), z3, (8, vP mb 0), z7, z21, z42, (58, .bool (decide (m2.inv = 0)))] (ap [z43, z44, z17, z18, z19, z20] [T6, TS]) [(n28 + 0)] [] (fun _ => by kernel_rfl) mn an ?_
            refine TL.fin (by kernel_rfl) ?_
            refine EX.next ?_
            rcases Decidable.em (m2.inv = 0) with h30 | h30
            · (exfalso; omega)
            · refine TR.no (b := decide (m2.inv = 0)) (by kernel_rfl) (by kernel_rfl) (decide_eq_false h30) ?_
              refine TR.skip ?_
              refine EX.next ?_
              refine TR.seq ?_
              refine TR.seq ?_
              refine TR.reg ?_
              rcases Decidable.em (m2.px < S.box.x0) with h31 | h31
              · (exfalso; omega)
              · rcases Decidable.em (m2.px > S.box.x1) with h32 | h32
                · (exfalso; omega)
                · rcases Decidable.em (m2.py < S.box.y0) with h33 | h33
                  · (exfalso; omega)
                  · refine TL.seg0 34 [] [.own 1, .own 4, .gd false, .gd false, .gd false, .own 1, .gd false, .gd false, .gd false, .own 4, .gd false, .gd false, .gd false, .gd false, .gd false, .own 1, .gd false, .gd false, .gd false, .own 4, .gd false, .gd false, .gd false, .gd false, .gd false, .own 1, .gd false, .gd false, .gd false, .own 4, .gd false, .gd false] [1, 2, 7, 8, 9, 12, 13, 100] [z1, (2, vI ticks), z3, (8, vP mb 0), z7, z21, z42, (100, .bool (decide (m2.py > S.box.y1)))] (ap [z43, z44, z17, z18, z19, z20] [T6, TS]) [(n1 + 0), (n28 + 0), (n1 + 0), (n28 + 0), (n1 + 0), (n28 + 0), (n1 + 0), (n28 + 0)] [(decide (m2.py < S.box.y0)) = false, (decide (m2.py < S.box.y0)) = false, (decide (m2.py < S.box.y0)) = false, (decide (m2.py < S.box.y0)) = false, (decide (m2.py < S.box.y0)) = false, (decide (m2.py < S.box.y0)) = false, (decide (m2.py < S.box.y0)) = false, (decide (m2.py < S.box.y0)) = false, (decide (m2.px > S.box.x1)) = false, (decide (m2.px > S.box.x1)) = false, (decide (m2.px > S.box.x1)) = false, (decide (m2.px > S.box.x1)) = false, (decide (m2.px > S.box.x1)) = false, (decide (m2.px > S.box.x1)) = false, (decide (m2.px > S.box.x1)) = false, (decide (m2.px > S.box.x1)) = false, (decide (m2.px < S.box.x0)) = false, (decide (m2.px < S.box.x0)) = false, (decide (m2.px < S.box.x0)) = false, (decide (m2.px < S.box.x0)) = false, (decide (m2.px < S.box.x0)) = false, (decide (m2.px < S.box.x0)) = false, (decide (m2.px < S.box.x0)) = false, (decide (m2.px < S.box.x0)) = false] (fun _ => by kernel_rfl) mn (ac (decide_eq_false h33) (ac (decide_eq_false h33) (ac (decide_eq_false h33) (ac (decide_eq_false h33) (ac (decide_eq_false h33) (ac (decide_eq_false h33) (ac (decide_eq_false h33) (ac (decide_eq_false h33) (ac (decide_eq_false h32) (ac (decide_eq_false h32) (ac (decide_eq_false h32) (ac (decide_eq_false h32) (ac (decide_eq_false h32) (ac (decide_eq_false h32) (ac (decide_eq_false h32) (ac (decide_eq_false h32) (ac (decide_eq_false h31) (ac (decide_eq_false h31) (ac (decide_eq_false h31) (ac (decide_eq_false h31) (ac (decide_eq_false h31) (ac (decide_eq_false h31) (ac (decide_eq_false h31) (ac (decide_eq_false h31) an)))))))))))))))))))))))) ?_
                    refine TL.fin (by kernel_rfl) ?_
                    refine EX.next ?_
                    rcases Decidable.em (m2.py > S.box.y1) with h34 | h34
                    · (exfalso; omega)
                    · refine TR.no (b := decide (m2.py > S.box.y1)) (by kernel_rfl) (by kernel_rfl) (decide_eq_false h34) ?_
                      refine TR.skip ?_
                      refine EX.next ?_
                      refine TR.seq ?_
                      refine TR.reg ?_
                      refine TL.seg0 3 [] [.own 1] [1, 2, 7, 8, 9, 12, 13, 103] [z1, (2, vI ticks), z3, (8, vP mb 0), z7, z21, z42, (103, vI m2.vx)] (ap [z43, z44, z17, z18, z19, z20] [T6, TS]) [(n28 + 0)] [] (fun _ => by kernel_rfl) mn an ?_
                      refine TL.callp (dst := (some 104)) (f := 21) (args := #[vI m2.vx]) (H1 := (ap [z43, z44, z17, z18, z19, z20] [T6, TS])) (E := []) (Ob := []) [] [] [1, 2, 7, 8, 9, 12, 13, 104] (vI (absI m2.vx)) [z1, (2, vI ticks), z3, (8, vP mb 0), z7, z21, z42, (104, vI (absI m2.vx))] (fun _ => by kernel_rfl) mn an (abs_any m2.vx  _) (by kernel_rfl) ?_
                      rcases Decidable.em (absI m2.vx > 16384) with h35 | h35
                      · (exfalso; omega)
                      · let z45 : Nat × Value := (106, .bool (decide (absI m2.vx > 16384)))
                        refine TL.seg0 5 [] [.gd false, .gd false, .gd false, .own 1] [1, 2, 7, 8, 9, 12, 106, 109] [z1, (2, vI ticks), z3, (8, vP mb 0), z7, z21, z45, (109, vI m2.vy)] (ap [z43, z44, z17, z18, z19, z20] [T6, TS]) [(n28 + 0)] [(decide (absI m2.vx > 16384)) = false, (decide (absI m2.vx > 16384)) = false, (decide (absI m2.vx > 16384)) = false] (fun _ => by kernel_rfl) mn (ac (decide_eq_false h35) (ac (decide_eq_false h35) (ac (decide_eq_false h35) an))) ?_
                        refine TL.callp (dst := (some 110)) (f := 21) (args := #[vI m2.vy]) (H1 := (ap [z43, z44, z17, z18, z19, z20] [T6, TS])) (E := []) (Ob := [(decide (absI m2.vx > 16384)) = false]) [] [.gd false] [1, 2, 7, 8, 9, 12, 106, 110] (vI (absI m2.vy)) [z1, (2, vI ticks), z3, (8, vP mb 0), z7, z21, z45, (110, vI (absI m2.vy))] (fun _ => by kernel_rfl) mn (ac (decide_eq_false h35) an) (abs_any m2.vy  _) (by kernel_rfl) ?_
                        refine TL.seg0 2 [] [.gd false, .gd false] [1, 2, 7, 8, 9, 12, 112] [z1, (2, vI ticks), z3, (8, vP mb 0), z7, z21, (112, .bool (decide (absI m2.vy > 16384)))] (ap [z43, z44, z17, z18, z19, z20] [T6, TS]) [] [(decide (absI m2.vx > 16384)) = false, (decide (absI m2.vx > 16384)) = false] (fun _ => by kernel_rfl) mn (ac (decide_eq_false h35) (ac (decide_eq_false h35) an)) ?_
                        refine TL.fin (by kernel_rfl) ?_
                        refine EX.next ?_
                        rcases Decidable.em (absI m2.vy > 16384) with h36 | h36
                        · (exfalso; omega)
                        · refine TR.no (b := decide (absI m2.vy > 16384)) (by kernel_rfl) (by kernel_rfl) (decide_eq_false h36) ?_
                          refine TR.skip ?_
                          refine EX.inn ?_
                          refine EX.next ?_
                          refine TR.reg ?_
                          refine TL.seg0 3 [] [.nw] [1, 2, 7, 8, 9, 12] [z1, (2, vI ticks), z3, (8, vP mb 0), z7, (12, vI ((i : Int) + 1))] (ap [z43, z44, z17, z18, z19, z20] [T6, TS]) [] [-9223372036854775808 ≤ (i : Int) + 1 ∧ (i : Int) + 1 ≤ 9223372036854775807] (fun _ => by kernel_rfl) mn (ac ⟨by omega, by omega⟩ an) ?_
                          refine TL.fin (by kernel_rfl) ?_
                          refine EX.meet (A := [z43, z44, z17, z18, z19, z20]) (Ts := [T6, TS]) (i + 1) ?_ [1, 2, 7, 8, 9, 12] (by kernel_rfl) [2, 3, 4, 5] [0, 1] [0, 1] [] (by kernel_rfl) (by kernel_rfl) (by kernel_rfl)
                          try dsimp only
                          exact ⟨by omega, by omega⟩
      · refine TR.no (b := decide ((i : Int) < (S.nb : Int))) (by kernel_rfl) (by kernel_rfl) (decide_eq_false h10) ?_
        refine TR.exit ?_
        refine EX.thn (by simp) ?_
        refine EX.thn (by simp) ?_
        refine EX.hit ?_
        refine EX.inn ?_
        refine EX.next ?_
        refine TR.reg ?_
        refine TL.seg0 3 [] [.nw] [1, 2, 7, 8, 9] [z1, (2, vI ticks), z3, (8, vP mb 0), (9, vI ((t : Int) + 1))] (ap [z17, z18, z19, z20] [T6, TS]) [] [-9223372036854775808 ≤ (t : Int) + 1 ∧ (t : Int) + 1 ≤ 9223372036854775807] (fun _ => by kernel_rfl) mn (ac ⟨by omega, by omega⟩ an) ?_
        refine TL.fin (by kernel_rfl) ?_
        refine EX.meet (A := [z17, z18, z19, z20]) (Ts := [T6, TS]) (t + 1, M2, T6) ?_ [1, 2, 7, 8, 9] (by kernel_rfl) [1, 2, 3] [0] [0, 1] [] (by kernel_rfl) (by kernel_rfl) (by kernel_rfl)
        try dsimp only
        refine ⟨⟨by omega, hte2, hM7.weak (by omega)⟩, by omega⟩
  · refine TR.no (b := decide ((t : Int) < around ticks 7)) (by kernel_rfl) (by kernel_rfl) (decide_eq_false h5) ?_
    refine TR.exit ?_
    refine EX.thn (by simp) ?_
    refine EX.thn (by simp) ?_
    refine EX.hit ?_
    refine EX.next ?_
    refine TR.seq ?_
    refine TR.reg ?_
    let z46 : Nat × Blk := (q2, .rows 1 ((sizeOf S).toNat) (irow (iniL S S.nb)) 3 (0, 0))
    let z47 : Nat × Blk := ((n1 + 0), .lit (Setup.l S) 32 (0, 0))
    let z48 : Nat × Blk := (S.bb, .rows 9 S.bR (brow S.bods) 40 (0, 0))
    refine TL.callp (dst := (some 113)) (f := 16) (args := #[]) (H1 := (ap [z46, z47, z48] [T_, TS])) (E := []) (Ob := []) [] [] [113] (.bool true) [(113, .bool true)] (fun _ => by kernel_rfl) mn an (lives_any _) (by kernel_rfl) ?_
    refine TL.seg0 1 [] [] [6] [(6, .bool true)] (ap [z46, z47, z48] [T_, TS]) [] [] (fun _ => by kernel_rfl) mn an ?_
    refine TL.fin (by kernel_rfl) ?_
    refine EX.next ?_
    refine TR.ret (A := [z46, z47, z48]) (Ts := [T_, TS]) (by exact fun _ _ h => h) rfl rfl [] [] (.bool true) [] [] (fun _ => by kernel_rfl) mn an [] [0, 1, 2] [] [0, 1] [] (by kernel_rfl) (by kernel_rfl) (by kernel_rfl) ?_
    exact ⟨rfl, rfl⟩
end Go.Proofs.YtpkincoclhpcgaaGreatDoor
