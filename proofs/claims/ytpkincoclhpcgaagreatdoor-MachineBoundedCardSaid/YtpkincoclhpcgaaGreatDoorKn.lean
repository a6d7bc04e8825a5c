/- Contracts, printed by a program. -/
import Derived.Test.YtpkincoclhpcgaaGreatDoorKm
namespace Go.Proofs.YtpkincoclhpcgaaGreatDoor
set_option linter.unusedSimpArgs false
set_option linter.unusedVariables false
open Go.RowKit
theorem newn_any (q : Nat) (cs : List Int) (n k cap : Nat) (F : HL) (hn : cs.length = n) (hq : (q, .rows 1 n (irow cs) 3 (0, 0)) ∈ F) (hc : n ≤ 1000000) (hk : k ≤ 100000000) (hcap : n ≤ cap) : Sp Tryz.prog 8 #[vS q 0 n cap] (ap [] []) F (fun u H' => ∃ x : Nat × HL, H' = ap [] [x.2] ∧ (u = vP x.1 0 ∧ MemH x.1 ⟨cs, [], 0⟩ k x.2)) := by
  subst hn
  exact new_any q cs k cap F hq hc hk hcap
theorem rinit_ap (S : Setup) (F : HL) (hS : SetIn F S) : Sp Tryz.prog 9 #[Setup.v S] (ap [] []) F (fun u H' => ∃ q, H' = ap [(q, .rows 1 (sizeOf S).toNat (irow (iniL S S.nb)) 3 (0, 0))] [] ∧ u = vS q 0 (sizeOf S).toNat (sizeOf S).toNat) := rinit_any S F hS

abbrev livB : Bod := ⟨⟨5, [], none, 0⟩, ⟨0, 0, 0, 0, 1024⟩, 0, 0⟩
abbrev livS (b : Nat) : Setup := ⟨1, b, 0, 1, 1, 1, [livB], ⟨0, 0, 0, 0⟩, none, 0, 0, none, 0, 0, 0, ⟨0, 0⟩, 0, 0, 0, 1, 0⟩
abbrev livG (b c : Nat) : Gm := ⟨livS b, none, 0, 0, -1, -1, -1, 0, c, 0, 1, 1, 1, [dI]⟩
def okB1 (g : Gm) (M : MemS) : Bool := decide (0 ≤ M.get 1 ∧ M.get 1 ≤ 7) && decide (M.get 1 = 1 ∨ M.get 1 = 2 ∨ M.get 1 = 6 → M.get 3 = 0) && decide (M.get 1 = 4 → 1 ≤ M.get 3)
theorem okB1_ok {g : Gm} {M : MemS} (hn : g.S.nb = 1) (he : g.e0 < 0 ∧ g.e1 < 0 ∧ g.e2 < 0) (h : okB1 g M = true) : okT g M := by
  simp only [okB1, Bool.and_eq_true, decide_eq_true_eq] at h
  obtain ⟨⟨h1, h2⟩, h3⟩ := h
  exact ⟨h1, fun e => ⟨h2 e, he⟩⟩
def goodB1 (g : Gm) : Nat → MemS → Bool
  | 0, _ => false
  | n + 1, M => okB1 g M && (if trE g M then n == 0 else goodB1 g n (trM g M))
theorem goodB1_ok {g : Gm} (hn : g.S.nb = 1) (he : g.e0 < 0 ∧ g.e1 < 0 ∧ g.e2 < 0) : ∀ (n : Nat) (M : MemS), goodB1 g n M = true → goodRun g n M
  | 0, M, h => by simp [goodB1] at h
  | n + 1, M, h => by
    simp only [goodB1, Bool.and_eq_true] at h
    refine ⟨okB1_ok hn he h.1, ?_⟩
    have h2 := h.2
    by_cases e : trE g M = true
    · rw [if_pos e] at h2
      exact .inl ⟨by simpa using h2, e⟩
    · rw [if_neg e] at h2
      exact .inr ⟨by simpa using e, goodB1_ok hn he n _ h2⟩
theorem liv_good (b c : Nat) : goodB1 (livG b c) 11 ⟨iniL (livS b) 1, [], 0⟩ = true := by kernel_rfl
theorem liv_tick (b c : Nat) : (runM (livG b c) 11 ⟨iniL (livS b) 1, [], 0⟩).get 0 = 1 := by kernel_rfl
theorem liv_still (b c : Nat) : (runM (livG b c) 11 ⟨iniL (livS b) 1, [], 0⟩).get (bodyAt (livS b) 0 + 7) = 1 := by kernel_rfl
theorem liv_setN (b : Nat) : SetN (livS b) := ⟨⟨by show (0 : Int) ≤ 1; decide, by show (1 : Int) ≤ 1000000; decide⟩, Nat.le_of_ble_eq_true rfl⟩
theorem liv_set {b : Nat} {F : HL} (h : (b, .rows 9 1 (brow [livB]) 40 (0, 0)) ∈ F) : SetIn F (livS b) :=
  ⟨liv_setN b, h, Nat.le_of_ble_eq_true rfl, fun k hk => by
    obtain rfl : k = 0 := by simp only at hk; omega
    exact .circle _ _ _⟩

set_option maxHeartbeats 1000000 in
set_option maxRecDepth 100000 in
theorem lives_any (F : HL) : Sp Tryz.prog 16 #[] [] F (fun u H' => u = .bool true ∧ H' = []) := by
  refine Sp.of_body Tryz.func16 rfl rfl rfl [] rfl ?_
  intro w0
  refine TR.convH (ap [] []) rfl ?_
  refine TR.seq ?_
  refine TR.reg ?_
  refine TL.seg0 1 [] [] [] [] (ap [] []) [] [] (fun _ => by kernel_rfl) mn an ?_
  refine TL.fin (by kernel_rfl) ?_
  refine EX.next ?_
  refine TR.seq ?_
  refine TR.reg ?_
  refine TL.seg 7 [] [.own 0, .own 0, .own 0, .own 0, .own 0, .own 0, .own 0, .own 0, .own 0, .own 0, .own 0, .own 0, .own 0, .own 0, .own 0, .own 0] [1] (fun n1 => [(1, vP (n1 + 1) 0)]) (fun n1 => (ap [((n1 + 1), .lit [vI 1, vS (n1 + 0) 0 1 1, vI 0, vI 0, vI 0, vI 0, .slice none 0 0, .slice none 0 0, vI 0, vI 0, vI 0, vI 0, vI 0, vI 0, vI 1, vI 0] 32 (0, 0)), ((n1 + 0), .lit [vI 5, .slice none 0 0, vI 0, vI 0, vI 0, vI 0, vI 1024, vI 0, vI 0] 40 (0, 0))] [])) (fun n1 => [(n1 + 1), (n1 + 1), (n1 + 1), (n1 + 1), (n1 + 1), (n1 + 1), (n1 + 1), (n1 + 1), (n1 + 1), (n1 + 1), (n1 + 1), (n1 + 1), (n1 + 1), (n1 + 1), (n1 + 1), (n1 + 1)]) (fun n1 => []) (fun _ => by kernel_rfl) mn (fun n1 => an) ?_
  intro n1
  refine TL.fin (by kernel_rfl) ?_
  refine EX.next ?_
  refine TR.seq ?_
  refine TR.reg ?_
  let z1 : Nat × Blk := ((n1 + 1), .lit [vI 1, vS (n1 + 0) 0 1 1, vI 0, vI 0, vI 0, vI 0, .slice none 0 0, .slice none 0 0, vI 0, vI 0, vI 0, vI 0, vI 0, vI 0, vI 1, vI 0] 32 (0, 0))
  let z2 : Nat × Blk := ((n1 + 0), .rows 9 1 (brow [livB]) 40 (0, 0))
  refine TL.den [z1, z2] (by kernel_rfl) ?_
  let z3 : Nat × Value := (1, vP (n1 + 1) 0)
  refine TL.seg0 1 [] [.own 0, .own 0, .own 0, .own 0, .own 0, .own 0, .own 0, .own 0, .own 0, .own 0, .own 0, .own 0, .own 0, .own 0, .own 0, .own 0] [1, 10] [z3, (10, .agg #[vI 1, vS (n1 + 0) 0 1 1, vI 0, vI 0, vI 0, vI 0, .slice none 0 0, .slice none 0 0, vI 0, vI 0, vI 0, vI 0, vI 0, vI 0, vI 1, vI 0])] (ap [z1, z2] []) [(n1 + 1), (n1 + 1), (n1 + 1), (n1 + 1), (n1 + 1), (n1 + 1), (n1 + 1), (n1 + 1), (n1 + 1), (n1 + 1), (n1 + 1), (n1 + 1), (n1 + 1), (n1 + 1), (n1 + 1), (n1 + 1)] [] (fun _ => by kernel_rfl) mn an ?_
  refine TL.callT (τ := Nat) [] [] (dst := (some 11)) (f := 9) (args := #[.agg #[vI 1, vS (n1 + 0) 0 1 1, vI 0, vI 0, vI 0, vI 0, .slice none 0 0, .slice none 0 0, vI 0, vI 0, vI 0, vI 0, vI 0, vI 0, vI 1, vI 0]]) (A := [z1, z2]) (Ts := []) (E := []) (Ob := []) [] [0, 1] [] [] [1, 11] [] [z1, z2] [] [] (fun q => [(q, .rows 1 ((sizeOf (livS (n1 + 0))).toNat) (irow (iniL (livS (n1 + 0)) ((livS (n1 + 0))).nb)) 3 (0, 0))]) (fun _ => []) (fun v q => v = vS q 0 (sizeOf (livS (n1 + 0))).toNat (sizeOf (livS (n1 + 0))).toNat) (fun v_ => [z3, (11, v_)]) (fun _ => by kernel_rfl) mn an (by kernel_rfl) (by kernel_rfl) (by kernel_rfl) (by kernel_rfl) (by kernel_rfl) (by kernel_rfl) (fun _ => by kernel_rfl) (rinit_ap (livS (n1 + 0)) _ (liv_set (in_ap 1 rfl))) ?_
  rintro _ q2 rfl
  let z4 : Nat × Blk := (q2, .rows 1 ((sizeOf (livS (n1 + 0))).toNat) (irow (iniL (livS (n1 + 0)) ((livS (n1 + 0))).nb)) 3 (0, 0))
  refine TL.callT (τ := Nat × HL) [] [] (dst := (some 12)) (f := 8) (args := #[vS q2 0 ((sizeOf (livS (n1 + 0))).toNat) ((sizeOf (livS (n1 + 0))).toNat)]) (A := [z4, z1, z2]) (Ts := []) (E := []) (Ob := []) [] [0, 1, 2] [] [] [1, 12] [] [z4, z1, z2] [] [] (fun _ => []) (fun x => [x.2]) (fun v x => v = vP x.1 0 ∧ MemH x.1 ⟨(iniL (livS (n1 + 0)) ((livS (n1 + 0))).nb), [], 0⟩ 100000000 x.2) (fun v_ => [z3, (12, v_)]) (fun _ => by kernel_rfl) mn an (by kernel_rfl) (by kernel_rfl) (by kernel_rfl) (by kernel_rfl) (by kernel_rfl) (by kernel_rfl) (fun _ => by kernel_rfl) (newn_any q2 (iniL (livS (n1 + 0)) ((livS (n1 + 0))).nb) ((sizeOf (livS (n1 + 0))).toNat) 100000000 ((sizeOf (livS (n1 + 0))).toNat) _ (iniL_len _ _) (in_ap 0 rfl) (Nat.le_of_ble_eq_true rfl) (by decide) (Nat.le_refl _)) ?_
  rintro _ ⟨mb, T⟩ ⟨rfl, hM⟩
  dsimp only at hM
  refine TL.seg0 1 [] [] [1, 2] [z3, (2, vP mb 0)] (ap [z4, z1, z2] [T]) [] [] (fun _ => by kernel_rfl) mn an ?_
  refine TL.fin (by kernel_rfl) ?_
  refine EX.next ?_
  refine TR.seq ?_
  refine TR.seq ?_
  refine TR.reg ?_
  refine TL.seg0 2 [] [] [1, 2, 14] [z3, (2, vP mb 0), (14, .bool false)] (ap [z4, z1, z2] [T]) [] [] (fun _ => by kernel_rfl) mn an ?_
  refine TL.fin (by kernel_rfl) ?_
  refine EX.next ?_
  refine TR.no (by kernel_rfl) (by kernel_rfl) (rfl : false = false) ?_
  refine TR.skip ?_
  refine EX.next ?_
  refine TR.seq ?_
  refine TR.draw [5] [] rfl (by kernel_rfl) ?_
  let z5 : Nat × Value := (17, .agg #[vI 1, vS (n1 + 0) 0 1 1, vI 0, vI 0, vI 0, vI 0, .slice none 0 0, .slice none 0 0, vI 0, vI 0, vI 0, vI 0, vI 0, vI 0, vI 1, vI 0])
  let z6 : Nat × Value := (19, .agg #[vI 0, vI 0, vI 0])
  refine TD.vals [] (by kernel_rfl) [0, 1, 3] [] [.own 1, .own 1, .own 1, .own 1, .own 1, .own 1, .own 1, .own 1, .own 1, .own 1, .own 1, .own 1, .own 1, .own 1, .own 1, .own 1] [1, 2, 16, 17, 19] [true, true, false, true, false, false, false, false, false, false, false] [z3, (2, vP mb 0), (16, vP mb 0), z5, z6] [(n1 + 1), (n1 + 1), (n1 + 1), (n1 + 1), (n1 + 1), (n1 + 1), (n1 + 1), (n1 + 1), (n1 + 1), (n1 + 1), (n1 + 1), (n1 + 1), (n1 + 1), (n1 + 1), (n1 + 1), (n1 + 1)] [] (by kernel_rfl) (by kernel_rfl) mn an 8 rfl ?_
  let z7 : Nat × Value := (18, .agg #[.slice none 0 0, vI (-1), vI (-1), vI (-1)])
  refine TD.callv [] (by kernel_rfl) 2 [] [] (dst := (some 18)) (f := 13) (args := #[]) (E := []) (Ob := []) [1, 2, 16, 17, 18, 19] (.agg #[.slice none 0 0, vI (-1), vI (-1), vI (-1)]) [z3, (2, vP mb 0), (16, vP mb 0), z5, z7, z6] (by kernel_rfl) (by kernel_rfl) (by kernel_rfl) mn an (fun X_ => (none_any _)) (by kernel_rfl) 7 rfl ?_
  refine TD.one 4 (by kernel_rfl) 6 rfl fun a_ hF_ hcl_ => ?_
  refine OPJ.ev [] [] [1, 2, 16, 17, 18, 20] (fun n4 => [z3, (2, vP mb 0), (16, vP mb 0), z5, z7, (20, vS (n4 + 0) 0 1 1)]) (fun n4 => (ap [((n4 + 0), .lit [vI 0, vI 0, vI 0] 70 (0, 0)), z4, z1, z2] [T])) (fun n4 => []) (fun n4 => []) (fun _ => by kernel_rfl) mn (fun n4 => an) (.inr ⟨by decide, fun n4 => ⟨[((n4 + 0), .lit [vI 0, vI 0, vI 0] 70 (0, 0))], rfl⟩⟩) (.inr fun n4 => ⟨[((n4 + 0), .lit [vI 0, vI 0, vI 0] 70 (0, 0))], rfl⟩) (fun n4 => ?_) hF_ hcl_
  let z8 : Nat × Blk := ((n4 + 0), .rows 3 1 (inrow [dI]) 70 (0, 0))
  refine TD.den [z8, z4, z1, z2] (by kernel_rfl) ?_
  refine TD.one 5 (by kernel_rfl) 5 rfl fun a_ hF_ hcl_ => ?_
  refine OPJ.callT (τ := HL) [] [] (dst := (some 21)) (f := 18) (args := #[vP mb 0, .agg #[vI 1, vS (n1 + 0) 0 1 1, vI 0, vI 0, vI 0, vI 0, .slice none 0 0, .slice none 0 0, vI 0, vI 0, vI 0, vI 0, vI 0, vI 0, vI 1, vI 0], .agg #[.slice none 0 0, vI (-1), vI (-1), vI (-1)], vS (n4 + 0) 0 1 1, vI 50]) (A := [z8, z4, z1, z2]) (Ts := [T]) (E := []) (Ob := []) [] [0, 1, 2, 3] [0] [] [1, 2, 21] [] [z8, z4, z1, z2] [T] [] (fun _ => []) (fun x => [x]) (fun v x => MemH mb (runM (livG (n1 + 0) (n4 + 0)) 11 (⟨(iniL (livS (n1 + 0)) ((livS (n1 + 0))).nb), [], 0⟩)) 0 x ∧ v = .tuple #[vI 11, .slice none 0 0]) (fun v_ => [z3, (2, vP mb 0), (21, v_)]) (fun _ => by kernel_rfl) mn an (by kernel_rfl) (by kernel_rfl) (by kernel_rfl) (by kernel_rfl) (by kernel_rfl) (by kernel_rfl) (fun _ => by kernel_rfl) [] (.inl (by kernel_rfl)) (.inl (by decide)) (count_any (livG (n1 + 0) (n4 + 0)) mb ⟨(iniL (livS (n1 + 0)) ((livS (n1 + 0))).nb), [], 0⟩ 0 10 50 T _ (hM.weak (by decide)) ⟨liv_set (in_ap 3 rfl), in_ap 0 rfl, Nat.le_of_ble_eq_true rfl, Nat.le_of_ble_eq_true rfl⟩ rfl (goodB1_ok rfl ⟨by show (-1 : Int) < 0; decide, by show (-1 : Int) < 0; decide, by show (-1 : Int) < 0; decide⟩ _ _ (liv_good _ _)) (by omega) (by omega)) ?_ hF_ hcl_
  rintro _ T5 ⟨hM6, rfl⟩
  refine TD.vals [] (by kernel_rfl) [6, 7, 8, 9, 10] [] [] [1, 2, 3] [true, true, true, true, true, true, true, true, true, true, true] [z3, (2, vP mb 0), (3, vI 11)] [] [] (by kernel_rfl) (by kernel_rfl) mn an 0 rfl ?_
  refine TD.fin (by kernel_rfl) (EX.np ?_)
  refine EX.next ?_
  refine TR.seq ?_
  refine TR.reg ?_
  let z9 : Nat × Value := (26, .bool true)
  refine TL.seg0 4 [] [] [1, 2, 26, 27] [z3, (2, vP mb 0), z9, (27, vP mb 0)] (ap [z8, z4, z1, z2] [T5]) [] [] (fun _ => by kernel_rfl) mn an ?_
  refine TL.callp (dst := (some 28)) (f := 28) (args := #[vP mb 0, vI 0]) (H1 := (ap [z8, z4, z1, z2] [T5])) (E := []) (Ob := []) [] [] [1, 2, 26, 28] (vI 1) [z3, (2, vP mb 0), z9, (28, vI 1)] (fun _ => by kernel_rfl) mn an (get_lit 0 (liv_tick _ _) hM6 (sub_ap 0 rfl)) (by kernel_rfl) ?_
  let z10 : Nat × Value := (31, .bool true)
  refine TL.seg0 5 [] [.own 2, .own 2, .own 2, .own 2, .own 2, .own 2, .own 2, .own 2, .own 2, .own 2, .own 2, .own 2, .own 2, .own 2, .own 2, .own 2] [31, 32, 33] [z10, (32, vP mb 0), (33, .agg #[vI 1, vS (n1 + 0) 0 1 1, vI 0, vI 0, vI 0, vI 0, .slice none 0 0, .slice none 0 0, vI 0, vI 0, vI 0, vI 0, vI 0, vI 0, vI 1, vI 0])] (ap [z8, z4, z1, z2] [T5]) [(n1 + 1), (n1 + 1), (n1 + 1), (n1 + 1), (n1 + 1), (n1 + 1), (n1 + 1), (n1 + 1), (n1 + 1), (n1 + 1), (n1 + 1), (n1 + 1), (n1 + 1), (n1 + 1), (n1 + 1), (n1 + 1)] [] (fun _ => by kernel_rfl) mn an ?_
  refine TL.callp (dst := (some 34)) (f := 14) (args := #[.agg #[vI 1, vS (n1 + 0) 0 1 1, vI 0, vI 0, vI 0, vI 0, .slice none 0 0, .slice none 0 0, vI 0, vI 0, vI 0, vI 0, vI 0, vI 0, vI 1, vI 0], vI 0]) (H1 := (ap [z8, z4, z1, z2] [T5])) (E := []) (Ob := []) [] [] [31, 32, 34] (vI (bodyAt (livS (n1 + 0)) 0)) [z10, (32, vP mb 0), (34, vI (bodyAt (livS (n1 + 0)) 0))] (fun _ => by kernel_rfl) mn an (rbody_any (livS (n1 + 0)) 0 _ (liv_setN (n1 + 0))) (by kernel_rfl) ?_
  have hb7 := bodyAt_bd (liv_setN (n1 + 0)) 0
  refine TL.seg0 1 [] [.nw] [31, 32, 35] [z10, (32, vP mb 0), (35, vI ((bodyAt (livS (n1 + 0)) 0) + 7))] (ap [z8, z4, z1, z2] [T5]) [] [-9223372036854775808 ≤ (bodyAt (livS (n1 + 0)) 0) + 7 ∧ (bodyAt (livS (n1 + 0)) 0) + 7 ≤ 9223372036854775807] (fun _ => by kernel_rfl) mn (ac ⟨by omega, by omega⟩ an) ?_
  refine TL.callp (dst := (some 36)) (f := 28) (args := #[vP mb 0, vI ((bodyAt (livS (n1 + 0)) 0) + 7)]) (H1 := (ap [z8, z4, z1, z2] [T5])) (E := []) (Ob := []) [] [] [31, 36] (vI 1) [z10, (36, vI 1)] (fun _ => by kernel_rfl) mn an (get_lit ((bodyAt (livS (n1 + 0)) 0) + 7) (liv_still _ _) hM6 (sub_ap 0 rfl)) (by kernel_rfl) ?_
  refine TL.seg0 3 [] [] [0] [(0, .bool true)] (ap [z8, z4, z1, z2] [T5]) [] [] (fun _ => by kernel_rfl) mn an ?_
  refine TL.fin (by kernel_rfl) ?_
  refine EX.next ?_
  refine TR.ret (A := [z8, z4, z1, z2]) (Ts := [T5]) (by exact fun _ _ h => h) rfl rfl [] [] (.bool true) [] [] (fun _ => by kernel_rfl) mn an [] [0, 1, 2, 3] [] [0] [] (by kernel_rfl) (by kernel_rfl) (by kernel_rfl) ?_
  exact ⟨rfl, rfl⟩
end Go.Proofs.YtpkincoclhpcgaaGreatDoor
