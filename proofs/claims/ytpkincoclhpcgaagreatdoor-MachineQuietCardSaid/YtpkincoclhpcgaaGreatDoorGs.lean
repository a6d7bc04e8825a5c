/- Contracts, printed by a program. -/
import Derived.Test.YtpkincoclhpcgaaGreatDoorQa
namespace Go.Proofs.YtpkincoclhpcgaaGreatDoor
set_option linter.unusedSimpArgs false
set_option linter.unusedVariables false
open Go.RowKit
theorem lit_p {f : FuncId} {args : Array Value} {F : HL} {a b : Int} (e : a = b) (h : Sp Tryz.prog f args [] F (fun u H' => u = vI a ∧ H' = [])) : Sp Tryz.prog f args [] F (fun u H' => u = vI b ∧ H' = []) := e ▸ h
abbrev i64r (n : Int) : Prop := -9223372036854775808 ≤ n ∧ n ≤ 9223372036854775807
theorem around_bd {n : Int} (hn : i64r n) (most : Int) (h : 0 < most) : 0 ≤ around n most ∧ around n most < most := by
  unfold around
  have hx : 0 ≤ (if n < 0 then w64 (0 - w64 (n + 1)) else n) := by
    split
    · rw [w64_id (x := n + 1) (by omega), w64_id (by omega)]; omega
    · omega
  exact ⟨Int.tmod_nonneg _ hx, Int.tmod_lt_of_pos _ h⟩
theorem qsetN (d : QD) (p : Nat) (hp : p ≤ 1000000 := by decide) : SetN (d.S p) := ⟨by show 0 ≤ (p : Int) ∧ (p : Int) ≤ 1000000; omega, by show 4 ≤ 1000000; decide⟩
theorem same_n {qa qb ca cb na nb : Nat} {xs : List Int} {F : HL} (ha : (qa, .rows 1 na (irow xs) 3 (0, 0)) ∈ F) (hb : (qb, .rows 1 nb (irow xs) 3 (0, 0)) ∈ F) (h1 : xs.length = na) (h2 : xs.length = nb) (hn : xs.length ≤ 1000000) : Sp Tryz.prog 15 #[vS qa 0 na ca, vS qb 0 nb cb] [] F (fun u H' => u = .bool true ∧ H' = []) := by
  subst h1; subst h2
  exact same_yes qa qb ca cb xs F ha hb hn
theorem qset {d : QD} {p : Nat} {F : HL} (hp : p ≤ 1000000) (hb : (d.b, .rows 9 d.cap (brow (d.l ++ d.rest)) 40 (0, 0)) ∈ F) (hc : 4 ≤ d.cap) (h0 : ShIn F (d.sh 0)) (h1 : ShIn F (d.sh 1)) (h2 : ShIn F (d.sh 2)) (h3 : ShIn F (d.sh 3)) : SetIn F (d.S p) :=
  ⟨⟨by show 0 ≤ (p : Int) ∧ (p : Int) ≤ 1000000; omega, by show 4 ≤ 1000000; decide⟩, hb, by show 0 + 4 ≤ d.cap; omega, fun k hk => by
    have hk' : k < 4 := hk
    have hk : k = 0 ∨ k = 1 ∨ k = 2 ∨ k = 3 := by omega
    rcases hk with rfl | rfl | rfl | rfl
    · exact h0
    · exact h1
    · exact h2
    · exact h3⟩

set_option maxHeartbeats 2000000 in
set_option maxRecDepth 100000 in
theorem quiet1 (players f0 f1 f2 version : Int) (F : HL) (hf : i64r f0 ∧ i64r f1 ∧ i64r f2) (hv : i64r version) (hp : around players 3 = 0) : Sp Tryz.prog 3 #[vI players, .agg #[vI f0, vI f1, vI f2], vI version] [] F (fun u H' => u = .bool true ∧ H' = []) := by
  refine Sp.of_body Tryz.func3 rfl rfl rfl [(0, vI players), (1, .agg #[vI f0, vI f1, vI f2]), (2, vI version)] rfl ?_
  intro w0
  refine TR.convH (ap [] []) rfl ?_
  refine TR.seq ?_
  refine TR.reg ?_
  let z1 : Nat × Value := (2, vI version)
  let z2 : Nat × Value := (6, .bool false)
  refine TL.seg 2 [] [] [0, 2, 4, 6] (fun n1 => [(0, vI players), z1, (4, vP (n1 + 0) 0), z2]) (fun n1 => (ap [((n1 + 0), .lit [vI f0, vI f1, vI f2] 22 (0, 0))] [])) (fun n1 => []) (fun n1 => []) (fun _ => by kernel_rfl) mn (fun n1 => an) ?_
  intro n1
  refine TL.fin (by kernel_rfl) ?_
  refine EX.next ?_
  refine TR.seq ?_
  refine TR.reg ?_
  let z3 : Nat × Value := (4, vP (n1 + 0) 0)
  let z4 : Nat × Blk := ((n1 + 0), .lit [vI f0, vI f1, vI f2] 22 (0, 0))
  refine TL.seg0 1 [] [] [2, 4, 6, 19] [z1, z3, z2, (19, vI players)] (ap [z4] []) [] [] (fun _ => by kernel_rfl) mn an ?_
  refine TL.callp (dst := (some 20)) (f := 6) (args := #[vI players, vI 3]) (H1 := (ap [z4] [])) (E := []) (Ob := []) [] [] [2, 4, 6, 20] (vI 0) [z1, z3, z2, (20, vI 0)] (fun _ => by kernel_rfl) mn an (lit_p hp (around_any players 3 (by decide) _)) (by kernel_rfl) ?_
  let z5 : List Value := [vI 1, .slice none 0 0, vI (-100000), vI (-100000), vI 100000, vI 100000, .slice none 0 0, .slice none 0 0, vI 0, vI 0, vI 0, vI 0, vI 0, vI 0, vI 2, vI 0]
  refine TL.seg 5 [] [.own 0, .own 0, .own 0, .own 0, .own 0, .own 0, .own 0, .own 0, .own 0, .own 0, .own 0, .own 0, .own 0, .own 0, .own 0, .own 0] [2, 4, 6, 7] (fun n2 => [z1, z3, z2, (7, vP (n2 + 0) 0)]) (fun n2 => (ap [((n2 + 0), .lit z5 32 (0, 0)), z4] [])) (fun n2 => [(n2 + 0), (n2 + 0), (n2 + 0), (n2 + 0), (n2 + 0), (n2 + 0), (n2 + 0), (n2 + 0), (n2 + 0), (n2 + 0), (n2 + 0), (n2 + 0), (n2 + 0), (n2 + 0), (n2 + 0), (n2 + 0)]) (fun n2 => []) (fun _ => by kernel_rfl) mn (fun n2 => an) ?_
  intro n2
  refine TL.fin (by kernel_rfl) ?_
  refine EX.next ?_
  refine TR.seq ?_
  refine TR.reg ?_
  let z6 : Nat × Value := (7, vP (n2 + 0) 0)
  let z7 : Nat × Value := (8, vI (-90000))
  let z8 : Nat × Blk := ((n2 + 0), .lit z5 32 (0, 0))
  refine TL.seg0 1 [] [] [2, 4, 6, 7, 8] [z1, z3, z2, z6, z7] (ap [z8, z4] []) [] [] (fun _ => by kernel_rfl) mn an ?_
  refine TL.fin (by kernel_rfl) ?_
  refine EX.next ?_
  refine TR.seq ?_
  refine TR.seq ?_
  refine TR.reg ?_
  refine TL.seg0 1 [] [] [2, 4, 6, 7, 8, 9] [z1, z3, z2, z6, z7, (9, vI 0)] (ap [z8, z4] []) [] [] (fun _ => by kernel_rfl) mn an ?_
  refine TL.fin (by kernel_rfl) ?_
  refine EX.next ?_
  refine TR.block ?_
  refine TR.rounds 4 ?_
  refine TR.seq ?_
  refine TR.seq ?_
  refine TR.reg ?_
  let z9 : Nat × Value := (25, .bool true)
  refine TL.seg0 2 [] [] [2, 4, 6, 7, 8, 9, 24, 25] [z1, z3, z2, z6, z7, (9, vI 0), (24, vI 0), z9] (ap [z8, z4] []) [] [] (fun _ => by kernel_rfl) mn an ?_
  refine TL.fin (by kernel_rfl) ?_
  refine EX.next ?_
  refine TR.yes (by kernel_rfl) (by kernel_rfl) (rfl : true = true) ?_
  refine TR.skip ?_
  refine EX.next ?_
  refine TR.seq ?_
  refine TR.block ?_
  refine TR.seq ?_
  refine TR.draw [12, 14] [] rfl (by kernel_rfl) ?_
  let z10 : Nat × Value := (28, vP (n2 + 0) 1)
  let z11 : Nat × Value := (29, .slice none 0 0)
  let z12 : Nat × Value := (33, vI (-90000))
  let z13 : Nat × Value := (36, .agg #[vI (-90000), vI 0])
  let z14 : Nat × Value := (37, .agg #[vI (-90000), vI 0, vI 0, vI 0, vI 1024])
  refine TD.vals [] (by kernel_rfl) [0, 2, 5, 6, 1, 3, 7, 8, 9] [] [.own 0] [2, 4, 6, 7, 8, 9, 24, 25, 28, 29, 30, 31, 33, 34, 35, 36, 37] [true, true, true, true, false, true, true, true, true, true, false, false, false, false, false] [z1, z3, z2, z6, z7, (9, vI 0), (24, vI 0), z9, z10, z11, (30, vI 0), (31, vI 0), z12, (34, vI 0), (35, vI 0), z13, z14] [(n2 + 0)] [] (by kernel_rfl) (by kernel_rfl) mn an 6 rfl ?_
  refine TD.one 4 (by kernel_rfl) 5 rfl fun a_ hF_ hcl_ => ?_
  refine OPJ.callT (τ := Option Addr × Nat × HL) [] [] (dst := (some 32)) (f := 7) (args := #[vI 0]) (A := [z8, z4]) (Ts := []) (E := []) (Ob := []) [] [0, 1] [] [] [2, 4, 6, 7, 8, 9, 24, 25, 28, 29, 30, 31, 32, 33, 34, 35, 36, 37] [] [z8, z4] [] [] (fun x => x.2.2) (fun _ => []) (fun v x => v = shV ⟨(shapeS 0).1, (shapeS 0).2, x.1, x.2.1⟩ ∧ ShH ⟨(shapeS 0).1, (shapeS 0).2, x.1, x.2.1⟩ x.2.2) (fun v_ => [z1, z3, z2, z6, z7, (9, vI 0), (24, vI 0), z9, z10, z11, (30, vI 0), (31, vI 0), (32, v_), z12, (34, vI 0), (35, vI 0), z13, z14]) (fun _ => by kernel_rfl) mn an (by kernel_rfl) (by kernel_rfl) (by kernel_rfl) (by kernel_rfl) (by kernel_rfl) (by kernel_rfl) (fun _ => by kernel_rfl) [] (.inr (by decide)) (.inr fun x => ⟨x.2.2, by simp [List.append_assoc]⟩) ((shapeOf_any 0 _).mono fun u H_ h => by obtain ⟨x, e, h⟩ := h; exact ⟨x, by rw [e]; simp, h⟩) ?_ hF_ hcl_
  rintro _ ⟨A3, c4, T5⟩ ⟨rfl, hsh6⟩
  dsimp only at hsh6
  refine TD.tail (T := T5) ?_
  let z15 : Nat × Value := (32, .agg #[vI ((shapeS 0).1), .slice A3 ((shapeS 0).2.length) c4])
  let z16 : Nat × Value := (38, .agg #[vI ((shapeS 0).1), .slice A3 ((shapeS 0).2.length) c4, vI (-90000), vI 0, vI 0, vI 0, vI 1024, vI 0, vI 0])
  refine TD.vals [] (by kernel_rfl) [10] [] [] [2, 4, 6, 7, 8, 9, 24, 25, 28, 29, 30, 31, 32, 33, 34, 35, 36, 37, 38] [true, true, true, true, true, true, true, true, true, true, true, false, false, false, false] [z1, z3, z2, z6, z7, (9, vI 0), (24, vI 0), z9, z10, z11, (30, vI 0), (31, vI 0), z15, z12, (34, vI 0), (35, vI 0), z13, z14, z16] [] [] (by kernel_rfl) (by kernel_rfl) mn an 4 rfl ?_
  refine TD.one 11 (by kernel_rfl) 3 rfl fun a_ hF_ hcl_ => ?_
  let z17 : List Value := [vI ((shapeS 0).1), .slice A3 ((shapeS 0).2.length) c4, vI (-90000), vI 0, vI 0, vI 0, vI 1024, vI 0, vI 0]
  refine OPJ.ev [] [] [2, 4, 6, 7, 8, 9, 24, 25, 28, 29, 30, 31, 32, 33, 34, 35, 36, 37, 38, 39] (fun n7 => [z1, z3, z2, z6, z7, (9, vI 0), (24, vI 0), z9, z10, z11, (30, vI 0), (31, vI 0), z15, z12, (34, vI 0), (35, vI 0), z13, z14, z16, (39, vS (n7 + 0) 0 1 1)]) (fun n7 => (ap [((n7 + 0), .lit z17 40 (0, 0)), z8, z4] [T5])) (fun n7 => []) (fun n7 => []) (fun _ => by kernel_rfl) mn (fun n7 => an) (.inr ⟨by decide, fun n7 => ⟨[((n7 + 0), .lit z17 40 (0, 0))], rfl⟩⟩) (.inr fun n7 => ⟨[((n7 + 0), .lit z17 40 (0, 0))], rfl⟩) (fun n7 => ?_) hF_ hcl_
  let z18 : Nat × Blk := ((n7 + 0), .lit z17 40 (0, 0))
  refine TD.convH (ap [z18, z8, z4] [([] : HL), T5]) rfl ?_
  refine TD.one 12 (by kernel_rfl) 2 rfl fun a_ hF_ hcl_ => ?_
  let z19 := (⟨⟨(shapeS 0).1, (shapeS 0).2, A3, c4⟩, ⟨(-90000), 0, 0, 0, 1024⟩, 0, 0⟩ : Bod)
  let z20 : Nat × Value := (39, vS (n7 + 0) 0 1 1)
  refine OPJ.app (e := bodE) (P := Tryz.prog) (tx := 26) bodEOk (o := _) (a1 := (.tmp 29)) (a2 := (.tmp 39)) rfl rfl rfl rfl ([] : List Bod) [z19] (A := none) (cap := 0) (n := 0) ([] : HL) [z18, z8, z4] [([] : HL), T5] [1] [T5] (by kernel_rfl) (by kernel_rfl) rfl (by kernel_rfl) rfl ⟨0, rfl, by kernel_rfl⟩ (by kernel_rfl) (SlIs.nil _ _) (fun w hR => src_lit bodEOk rfl (src := [z19]) (c := 1) 0 rfl hR) (Nat.le_of_ble_eq_true rfl) [2, 4, 6, 7, 8, 9, 24, 25, 28, 29, 30, 31, 32, 33, 34, 35, 36, 37, 38, 39, 40] (fun v_ => [z1, z3, z2, z6, z7, (9, vI 0), (24, vI 0), z9, z10, z11, (30, vI 0), (31, vI 0), z15, z12, (34, vI 0), (35, vI 0), z13, z14, z16, z20, (40, v_)]) (fun _ => by kernel_rfl) [] (by kernel_rfl) (by decide) ?_ hF_ hcl_
  rintro A8 c9 T10 ⟨hs11, hz12⟩
  have hs11z : zeroOff A8 := hz12 trivial
  let z21 : Nat × Value := (40, .slice A8 1 c9)
  let z22 : Nat × Value := (41, vP (n2 + 0) 1)
  refine TD.vals [] (by kernel_rfl) [13] [] [] [2, 4, 6, 7, 8, 9, 24, 25, 28, 29, 30, 31, 32, 33, 34, 35, 36, 37, 38, 39, 40, 41] [true, true, true, true, true, true, true, true, true, true, true, true, true, true, false] [z1, z3, z2, z6, z7, (9, vI 0), (24, vI 0), z9, z10, z11, (30, vI 0), (31, vI 0), z15, z12, (34, vI 0), (35, vI 0), z13, z14, z16, z20, z21, z22] [] [] (by kernel_rfl) (by kernel_rfl) mn an 1 rfl ?_
  refine TD.one 14 (by kernel_rfl) 0 rfl fun a_ hF_ hcl_ => ?_
  let z23 : Nat × Blk := ((n2 + 0), .lit [vI 1, .slice A8 1 c9, vI (-100000), vI (-100000), vI 100000, vI 100000, .slice none 0 0, .slice none 0 0, vI 0, vI 0, vI 0, vI 0, vI 0, vI 0, vI 2, vI 0] 32 (0, 0))
  refine OPJ.ev [] [.own 1] [2, 4, 6, 7, 8, 9, 24, 25, 28, 29, 30, 31, 32, 33, 34, 35, 36, 37, 38, 39, 40, 41] (fun _ => [z1, z3, z2, z6, z7, (9, vI 0), (24, vI 0), z9, z10, z11, (30, vI 0), (31, vI 0), z15, z12, (34, vI 0), (35, vI 0), z13, z14, z16, z20, z21, z22]) (fun _ => (ap [z18, z23, z4] [T10, T5])) (fun _ => [(n2 + 0)]) (fun _ => []) (fun _ => by kernel_rfl) mn (fun _ => an) (.inl ⟨[], fun _ => by kernel_rfl⟩) (.inl (by decide)) (fun _ => ?_) hF_ hcl_
  refine TD.fin (by kernel_rfl) (EX.np ?_)
  refine EX.next ?_
  refine TR.seq ?_
  refine TR.reg ?_
  let z24 : Nat × Value := (43, .bool true)
  refine TL.seg0 2 [] [] [2, 4, 6, 7, 8, 9, 24, 25, 28, 29, 30, 31, 32, 33, 34, 35, 36, 37, 38, 39, 40, 41, 42, 43] [z1, z3, z2, z6, z7, (9, vI 0), (24, vI 0), z9, z10, z11, (30, vI 0), (31, vI 0), z15, z12, (34, vI 0), (35, vI 0), z13, z14, z16, z20, z21, z22, (42, vI 0), z24] (ap [z18, z23, z4] [T10, T5]) [] [] (fun _ => by kernel_rfl) mn an ?_
  refine TL.fin (by kernel_rfl) ?_
  refine EX.next ?_
  refine TR.yes (by kernel_rfl) (by kernel_rfl) (rfl : true = true) ?_
  refine TR.reg ?_
  let z25 : Nat × Value := (44, vI (-90000))
  let z26 : Nat × Value := (45, vI (-70000))
  let z27 : Nat × Value := (47, vP (n1 + 0) 0)
  refine TL.seg0 5 [] [.own 2] [2, 4, 6, 7, 8, 9, 24, 25, 28, 29, 30, 31, 32, 33, 34, 35, 36, 37, 38, 39, 40, 41, 42, 43, 44, 45, 46, 47, 48] [z1, z3, z2, z6, z7, (9, vI 0), (24, vI 0), z9, z10, z11, (30, vI 0), (31, vI 0), z15, z12, (34, vI 0), (35, vI 0), z13, z14, z16, z20, z21, z22, (42, vI 0), z24, z25, z26, (46, vI 0), z27, (48, vI f0)] (ap [z18, z23, z4] [T10, T5]) [(n1 + 0)] [] (fun _ => by kernel_rfl) mn an ?_
  let z28 := around f0 30000
  let z29 : Nat × Value := (49, vI z28)
  refine TL.callp (dst := (some 49)) (f := 6) (args := #[vI f0, vI 30000]) (H1 := (ap [z18, z23, z4] [T10, T5])) (E := []) (Ob := []) [] [] [2, 4, 6, 7, 8, 9, 24, 25, 28, 29, 30, 31, 32, 33, 34, 35, 36, 37, 38, 39, 40, 41, 42, 43, 44, 45, 46, 47, 48, 49] (vI z28) [z1, z3, z2, z6, z7, (9, vI 0), (24, vI 0), z9, z10, z11, (30, vI 0), (31, vI 0), z15, z12, (34, vI 0), (35, vI 0), z13, z14, z16, z20, z21, z22, (42, vI 0), z24, z25, z26, (46, vI 0), z27, (48, vI f0), z29] (fun _ => by kernel_rfl) mn an (around_any f0 30000 (by decide) _) (by kernel_rfl) ?_
  have hA13 := around_bd (n := f0) hf.1 30000 (by decide)
  let z30 := (-70000) + z28
  let z31 : Nat × Value := (8, vI z30)
  let z32 : Nat × Value := (50, vI z30)
  refine TL.seg0 2 [] [.nw] [2, 4, 6, 7, 8, 9, 24, 25, 28, 29, 30, 31, 32, 33, 34, 35, 36, 37, 38, 39, 40, 41, 42, 43, 44, 45, 46, 47, 48, 49, 50] [z1, z3, z2, z6, z31, (9, vI 0), (24, vI 0), z9, z10, z11, (30, vI 0), (31, vI 0), z15, z12, (34, vI 0), (35, vI 0), z13, z14, z16, z20, z21, z22, (42, vI 0), z24, z25, z26, (46, vI 0), z27, (48, vI f0), z29, z32] (ap [z18, z23, z4] [T10, T5]) [] [-9223372036854775808 ≤ (-70000) + (around f0 30000) ∧ (-70000) + (around f0 30000) ≤ 9223372036854775807] (fun _ => by kernel_rfl) mn (ac ⟨by omega, by omega⟩ an) ?_
  refine TL.fin (by kernel_rfl) ?_
  refine EX.inn ?_
  refine EX.next ?_
  refine TR.reg ?_
  refine TL.seg0 3 [] [] [2, 4, 6, 7, 8, 9, 24, 25, 26, 27, 28, 29, 30, 31, 32, 33, 34, 35, 36, 37, 38, 39, 40, 41, 42, 43, 44, 45, 46, 47, 48, 49, 50] [z1, z3, z2, z6, z31, (9, vI 1), (24, vI 0), z9, (26, vI 0), (27, vI 1), z10, z11, (30, vI 0), (31, vI 0), z15, z12, (34, vI 0), (35, vI 0), z13, z14, z16, z20, z21, z22, (42, vI 0), z24, z25, z26, (46, vI 0), z27, (48, vI f0), z29, z32] (ap [z18, z23, z4] [T10, T5]) [] [] (fun _ => by kernel_rfl) mn an ?_
  refine TL.fin (by kernel_rfl) ?_
  refine EX.round ?_
  refine TR.seq ?_
  refine TR.seq ?_
  refine TR.reg ?_
  refine TL.seg0 2 [] [] [2, 4, 6, 7, 8, 9, 24, 25, 26, 27, 28, 29, 30, 31, 32, 33, 34, 35, 36, 37, 38, 39, 40, 41, 42, 43, 44, 45, 46, 47, 48, 49, 50] [z1, z3, z2, z6, z31, (9, vI 1), (24, vI 1), z9, (26, vI 0), (27, vI 1), z10, z11, (30, vI 0), (31, vI 0), z15, z12, (34, vI 0), (35, vI 0), z13, z14, z16, z20, z21, z22, (42, vI 0), z24, z25, z26, (46, vI 0), z27, (48, vI f0), z29, z32] (ap [z18, z23, z4] [T10, T5]) [] [] (fun _ => by kernel_rfl) mn an ?_
  refine TL.fin (by kernel_rfl) ?_
  refine EX.next ?_
  refine TR.yes (by kernel_rfl) (by kernel_rfl) (rfl : true = true) ?_
  refine TR.skip ?_
  refine EX.next ?_
  refine TR.seq ?_
  refine TR.block ?_
  refine TR.seq ?_
  refine TR.draw [12, 14] [] rfl (by kernel_rfl) ?_
  let z33 : Nat × Value := (29, .slice A8 1 c9)
  let z34 : Nat × Value := (33, vI z30)
  let z35 : Nat × Value := (36, .agg #[vI z30, vI 10])
  let z36 : Nat × Value := (37, .agg #[vI z30, vI 10, vI 0, vI 0, vI 1024])
  refine TD.vals [] (by kernel_rfl) [0, 2, 5, 6, 1, 3, 7, 8, 9] [] [.own 1] [2, 4, 6, 7, 8, 9, 24, 25, 26, 27, 28, 29, 30, 31, 32, 33, 34, 35, 36, 37, 38, 39, 40, 41, 42, 43, 44, 45, 46, 47, 48, 49, 50] [true, true, true, true, false, true, true, true, true, true, false, false, false, false, false] [z1, z3, z2, z6, z31, (9, vI 1), (24, vI 1), z9, (26, vI 0), (27, vI 1), z10, z33, (30, vI 1), (31, vI 2), z15, z34, (34, vI 1), (35, vI 10), z35, z36, z16, z20, z21, z22, (42, vI 0), z24, z25, z26, (46, vI 0), z27, (48, vI f0), z29, z32] [(n2 + 0)] [] (by kernel_rfl) (by kernel_rfl) mn an 6 rfl ?_
  refine TD.one 4 (by kernel_rfl) 5 rfl fun a_ hF_ hcl_ => ?_
  refine OPJ.callT (τ := Option Addr × Nat × HL) [] [] (dst := (some 32)) (f := 7) (args := #[vI 2]) (A := [z18, z23, z4]) (Ts := [T10, T5]) (E := []) (Ob := []) [] [0, 1, 2] [] [0, 1] [2, 4, 6, 7, 8, 9, 24, 25, 26, 27, 28, 29, 30, 31, 32, 33, 34, 35, 36, 37, 38, 39, 40, 41, 42, 43, 44, 45, 46, 47, 48, 49, 50] [] [z18, z23, z4] [] [T10, T5] (fun x => x.2.2) (fun _ => []) (fun v x => v = shV ⟨(shapeS 2).1, (shapeS 2).2, x.1, x.2.1⟩ ∧ ShH ⟨(shapeS 2).1, (shapeS 2).2, x.1, x.2.1⟩ x.2.2) (fun v_ => [z1, z3, z2, z6, z31, (9, vI 1), (24, vI 1), z9, (26, vI 0), (27, vI 1), z10, z33, (30, vI 1), (31, vI 2), (32, v_), z34, (34, vI 1), (35, vI 10), z35, z36, z16, z20, z21, z22, (42, vI 0), z24, z25, z26, (46, vI 0), z27, (48, vI f0), z29, z32]) (fun _ => by kernel_rfl) mn an (by kernel_rfl) (by kernel_rfl) (by kernel_rfl) (by kernel_rfl) (by kernel_rfl) (by kernel_rfl) (fun _ => by kernel_rfl) [] (.inr (by decide)) (.inr fun x => ⟨x.2.2, by simp [List.append_assoc]⟩) ((shapeOf_any 2 _).mono fun u H_ h => by obtain ⟨x, e, h⟩ := h; exact ⟨x, by rw [e]; simp, h⟩) ?_ hF_ hcl_
  rintro _ ⟨A14, c15, T16⟩ ⟨rfl, hsh17⟩
  dsimp only at hsh17
  refine TD.tail (T := T16) ?_
  let z37 : Nat × Value := (32, .agg #[vI ((shapeS 2).1), .slice A14 ((shapeS 2).2.length) c15])
  let z38 : Nat × Value := (38, .agg #[vI ((shapeS 2).1), .slice A14 ((shapeS 2).2.length) c15, vI z30, vI 10, vI 0, vI 0, vI 1024, vI 0, vI 0])
  refine TD.vals [] (by kernel_rfl) [10] [] [] [2, 4, 6, 7, 8, 9, 24, 25, 26, 27, 28, 29, 30, 31, 32, 33, 34, 35, 36, 37, 38, 39, 40, 41, 42, 43, 44, 45, 46, 47, 48, 49, 50] [true, true, true, true, true, true, true, true, true, true, true, false, false, false, false] [z1, z3, z2, z6, z31, (9, vI 1), (24, vI 1), z9, (26, vI 0), (27, vI 1), z10, z33, (30, vI 1), (31, vI 2), z37, z34, (34, vI 1), (35, vI 10), z35, z36, z38, z20, z21, z22, (42, vI 0), z24, z25, z26, (46, vI 0), z27, (48, vI f0), z29, z32] [] [] (by kernel_rfl) (by kernel_rfl) mn an 4 rfl ?_
  refine TD.one 11 (by kernel_rfl) 3 rfl fun a_ hF_ hcl_ => ?_
  let z39 : List Value := [vI ((shapeS 2).1), .slice A14 ((shapeS 2).2.length) c15, vI z30, vI 10, vI 0, vI 0, vI 1024, vI 0, vI 0]
  refine OPJ.ev [] [] [2, 4, 6, 7, 8, 9, 24, 25, 26, 27, 28, 29, 30, 31, 32, 33, 34, 35, 36, 37, 38, 39, 40, 41, 42, 43, 44, 45, 46, 47, 48, 49, 50] (fun n18 => [z1, z3, z2, z6, z31, (9, vI 1), (24, vI 1), z9, (26, vI 0), (27, vI 1), z10, z33, (30, vI 1), (31, vI 2), z37, z34, (34, vI 1), (35, vI 10), z35, z36, z38, (39, vS (n18 + 0) 0 1 1), z21, z22, (42, vI 0), z24, z25, z26, (46, vI 0), z27, (48, vI f0), z29, z32]) (fun n18 => (ap [((n18 + 0), .lit z39 40 (0, 0)), z18, z23, z4] [T16, T10, T5])) (fun n18 => []) (fun n18 => []) (fun _ => by kernel_rfl) mn (fun n18 => an) (.inr ⟨by decide, fun n18 => ⟨[((n18 + 0), .lit z39 40 (0, 0))], rfl⟩⟩) (.inr fun n18 => ⟨[((n18 + 0), .lit z39 40 (0, 0))], rfl⟩) (fun n18 => ?_) hF_ hcl_
  refine TD.one 12 (by kernel_rfl) 2 rfl fun a_ hF_ hcl_ => ?_
  let z40 := (⟨⟨(shapeS 2).1, (shapeS 2).2, A14, c15⟩, ⟨(-70000) + z28, 10, 0, 0, 1024⟩, 0, 0⟩ : Bod)
  let z41 : Nat × Blk := ((n18 + 0), .lit z39 40 (0, 0))
  let z42 : Nat × Value := (39, vS (n18 + 0) 0 1 1)
  refine OPJ.app (e := bodE) (P := Tryz.prog) (tx := 26) bodEOk (o := _) (a1 := (.tmp 29)) (a2 := (.tmp 39)) rfl rfl rfl rfl ([z19] : List Bod) [z40] (A := A8) (cap := c9) (n := 1) T10 [z41, z18, z23, z4] [T16, T10, T5] [0, 2] [T16, T5] (by kernel_rfl) (by kernel_rfl) rfl (by kernel_rfl) rfl ⟨1, rfl, by kernel_rfl⟩ (by kernel_rfl) hs11 (fun w hR => src_lit bodEOk rfl (src := [z40]) (c := 1) 0 rfl hR) (Nat.le_of_ble_eq_true rfl) [2, 4, 6, 7, 8, 9, 24, 25, 26, 27, 28, 29, 30, 31, 32, 33, 34, 35, 36, 37, 38, 39, 40, 41, 42, 43, 44, 45, 46, 47, 48, 49, 50] (fun v_ => [z1, z3, z2, z6, z31, (9, vI 1), (24, vI 1), z9, (26, vI 0), (27, vI 1), z10, z33, (30, vI 1), (31, vI 2), z37, z34, (34, vI 1), (35, vI 10), z35, z36, z38, z42, (40, v_), z22, (42, vI 0), z24, z25, z26, (46, vI 0), z27, (48, vI f0), z29, z32]) (fun _ => by kernel_rfl) [] (by kernel_rfl) (by decide) ?_ hF_ hcl_
  rintro A19 c20 T21 ⟨hs22, hz23⟩
  have hs22z : zeroOff A19 := hz23 hs11z
  let z43 : Nat × Value := (40, .slice A19 2 c20)
  refine TD.vals [] (by kernel_rfl) [13] [] [] [2, 4, 6, 7, 8, 9, 24, 25, 26, 27, 28, 29, 30, 31, 32, 33, 34, 35, 36, 37, 38, 39, 40, 41, 42, 43, 44, 45, 46, 47, 48, 49, 50] [true, true, true, true, true, true, true, true, true, true, true, true, true, true, false] [z1, z3, z2, z6, z31, (9, vI 1), (24, vI 1), z9, (26, vI 0), (27, vI 1), z10, z33, (30, vI 1), (31, vI 2), z37, z34, (34, vI 1), (35, vI 10), z35, z36, z38, z42, z43, z22, (42, vI 0), z24, z25, z26, (46, vI 0), z27, (48, vI f0), z29, z32] [] [] (by kernel_rfl) (by kernel_rfl) mn an 1 rfl ?_
  refine TD.one 14 (by kernel_rfl) 0 rfl fun a_ hF_ hcl_ => ?_
  let z44 : Nat × Blk := ((n2 + 0), .lit [vI 1, .slice A19 2 c20, vI (-100000), vI (-100000), vI 100000, vI 100000, .slice none 0 0, .slice none 0 0, vI 0, vI 0, vI 0, vI 0, vI 0, vI 0, vI 2, vI 0] 32 (0, 0))
  refine OPJ.ev [] [.own 2] [2, 4, 6, 7, 8, 9, 24, 25, 26, 27, 28, 29, 30, 31, 32, 33, 34, 35, 36, 37, 38, 39, 40, 41, 42, 43, 44, 45, 46, 47, 48, 49, 50] (fun _ => [z1, z3, z2, z6, z31, (9, vI 1), (24, vI 1), z9, (26, vI 0), (27, vI 1), z10, z33, (30, vI 1), (31, vI 2), z37, z34, (34, vI 1), (35, vI 10), z35, z36, z38, z42, z43, z22, (42, vI 0), z24, z25, z26, (46, vI 0), z27, (48, vI f0), z29, z32]) (fun _ => (ap [z41, z18, z44, z4] [T21, T16, T5])) (fun _ => [(n2 + 0)]) (fun _ => []) (fun _ => by kernel_rfl) mn (fun _ => an) (.inl ⟨[], fun _ => by kernel_rfl⟩) (.inl (by decide)) (fun _ => ?_) hF_ hcl_
  refine TD.fin (by kernel_rfl) (EX.np ?_)
  refine EX.next ?_
  refine TR.seq ?_
  refine TR.reg ?_
  refine TL.seg0 2 [] [] [2, 4, 6, 7, 8, 9, 24, 25, 26, 27, 28, 29, 30, 31, 32, 33, 34, 35, 36, 37, 38, 39, 40, 41, 42, 43, 44, 45, 46, 47, 48, 49, 50] [z1, z3, z2, z6, z31, (9, vI 1), (24, vI 1), z9, (26, vI 0), (27, vI 1), z10, z33, (30, vI 1), (31, vI 2), z37, z34, (34, vI 1), (35, vI 10), z35, z36, z38, z42, z43, z22, (42, vI 1), z24, z25, z26, (46, vI 0), z27, (48, vI f0), z29, z32] (ap [z41, z18, z44, z4] [T21, T16, T5]) [] [] (fun _ => by kernel_rfl) mn an ?_
  refine TL.fin (by kernel_rfl) ?_
  refine EX.next ?_
  refine TR.yes (by kernel_rfl) (by kernel_rfl) (rfl : true = true) ?_
  refine TR.reg ?_
  let z45 : Nat × Value := (44, vI z30)
  let z46 := z30 + 20000
  let z47 : Nat × Value := (45, vI z46)
  let z48 : Nat × Value := (47, vP (n1 + 0) 1)
  refine TL.seg0 5 [] [.nw, .own 3] [2, 4, 6, 7, 8, 9, 24, 25, 26, 27, 28, 29, 30, 31, 32, 33, 34, 35, 36, 37, 38, 39, 40, 41, 42, 43, 44, 45, 46, 47, 48, 49, 50] [z1, z3, z2, z6, z31, (9, vI 1), (24, vI 1), z9, (26, vI 0), (27, vI 1), z10, z33, (30, vI 1), (31, vI 2), z37, z34, (34, vI 1), (35, vI 10), z35, z36, z38, z42, z43, z22, (42, vI 1), z24, z45, z47, (46, vI 1), z48, (48, vI f1), z29, z32] (ap [z41, z18, z44, z4] [T21, T16, T5]) [(n1 + 0)] [-9223372036854775808 ≤ ((-70000) + (around f0 30000)) + 20000 ∧ ((-70000) + (around f0 30000)) + 20000 ≤ 9223372036854775807] (fun _ => by kernel_rfl) mn (ac ⟨by omega, by omega⟩ an) ?_
  let z49 := around f1 30000
  let z50 : Nat × Value := (49, vI z49)
  refine TL.callp (dst := (some 49)) (f := 6) (args := #[vI f1, vI 30000]) (H1 := (ap [z41, z18, z44, z4] [T21, T16, T5])) (E := []) (Ob := []) [] [] [2, 4, 6, 7, 8, 9, 24, 25, 26, 27, 28, 29, 30, 31, 32, 33, 34, 35, 36, 37, 38, 39, 40, 41, 42, 43, 44, 45, 46, 47, 48, 49, 50] (vI z49) [z1, z3, z2, z6, z31, (9, vI 1), (24, vI 1), z9, (26, vI 0), (27, vI 1), z10, z33, (30, vI 1), (31, vI 2), z37, z34, (34, vI 1), (35, vI 10), z35, z36, z38, z42, z43, z22, (42, vI 1), z24, z45, z47, (46, vI 1), z48, (48, vI f1), z50, z32] (fun _ => by kernel_rfl) mn an (around_any f1 30000 (by decide) _) (by kernel_rfl) ?_
  have hA24 := around_bd (n := f1) hf.2.1 30000 (by decide)
  let z51 := z46 + z49
  let z52 : Nat × Value := (8, vI z51)
  let z53 : Nat × Value := (50, vI z51)
  refine TL.seg0 2 [] [.nw] [2, 4, 6, 7, 8, 9, 24, 25, 26, 27, 28, 29, 30, 31, 32, 33, 34, 35, 36, 37, 38, 39, 40, 41, 42, 43, 44, 45, 46, 47, 48, 49, 50] [z1, z3, z2, z6, z52, (9, vI 1), (24, vI 1), z9, (26, vI 0), (27, vI 1), z10, z33, (30, vI 1), (31, vI 2), z37, z34, (34, vI 1), (35, vI 10), z35, z36, z38, z42, z43, z22, (42, vI 1), z24, z45, z47, (46, vI 1), z48, (48, vI f1), z50, z53] (ap [z41, z18, z44, z4] [T21, T16, T5]) [] [-9223372036854775808 ≤ (((-70000) + (around f0 30000)) + 20000) + (around f1 30000) ∧ (((-70000) + (around f0 30000)) + 20000) + (around f1 30000) ≤ 9223372036854775807] (fun _ => by kernel_rfl) mn (ac ⟨by omega, by omega⟩ an) ?_
  refine TL.fin (by kernel_rfl) ?_
  refine EX.inn ?_
  refine EX.next ?_
  refine TR.reg ?_
  refine TL.seg0 3 [] [] [2, 4, 6, 7, 8, 9, 24, 25, 26, 27, 28, 29, 30, 31, 32, 33, 34, 35, 36, 37, 38, 39, 40, 41, 42, 43, 44, 45, 46, 47, 48, 49, 50] [z1, z3, z2, z6, z52, (9, vI 2), (24, vI 1), z9, (26, vI 1), (27, vI 2), z10, z33, (30, vI 1), (31, vI 2), z37, z34, (34, vI 1), (35, vI 10), z35, z36, z38, z42, z43, z22, (42, vI 1), z24, z45, z47, (46, vI 1), z48, (48, vI f1), z50, z53] (ap [z41, z18, z44, z4] [T21, T16, T5]) [] [] (fun _ => by kernel_rfl) mn an ?_
  refine TL.fin (by kernel_rfl) ?_
  refine EX.round ?_
  refine TR.seq ?_
  refine TR.seq ?_
  refine TR.reg ?_
  refine TL.seg0 2 [] [] [2, 4, 6, 7, 8, 9, 24, 25, 26, 27, 28, 29, 30, 31, 32, 33, 34, 35, 36, 37, 38, 39, 40, 41, 42, 43, 44, 45, 46, 47, 48, 49, 50] [z1, z3, z2, z6, z52, (9, vI 2), (24, vI 2), z9, (26, vI 1), (27, vI 2), z10, z33, (30, vI 1), (31, vI 2), z37, z34, (34, vI 1), (35, vI 10), z35, z36, z38, z42, z43, z22, (42, vI 1), z24, z45, z47, (46, vI 1), z48, (48, vI f1), z50, z53] (ap [z41, z18, z44, z4] [T21, T16, T5]) [] [] (fun _ => by kernel_rfl) mn an ?_
  refine TL.fin (by kernel_rfl) ?_
  refine EX.next ?_
  refine TR.yes (by kernel_rfl) (by kernel_rfl) (rfl : true = true) ?_
  refine TR.skip ?_
  refine EX.next ?_
  refine TR.seq ?_
  refine TR.block ?_
  refine TR.seq ?_
  refine TR.draw [12, 14] [] rfl (by kernel_rfl) ?_
  let z54 : Nat × Value := (29, .slice A19 2 c20)
  let z55 : Nat × Value := (33, vI z51)
  let z56 : Nat × Value := (36, .agg #[vI z51, vI 20])
  let z57 : Nat × Value := (37, .agg #[vI z51, vI 20, vI 0, vI 0, vI 1024])
  refine TD.vals [] (by kernel_rfl) [0, 2, 5, 6, 1, 3, 7, 8, 9] [] [.own 2] [2, 4, 6, 7, 8, 9, 24, 25, 26, 27, 28, 29, 30, 31, 32, 33, 34, 35, 36, 37, 38, 39, 40, 41, 42, 43, 44, 45, 46, 47, 48, 49, 50] [true, true, true, true, false, true, true, true, true, true, false, false, false, false, false] [z1, z3, z2, z6, z52, (9, vI 2), (24, vI 2), z9, (26, vI 1), (27, vI 2), z10, z54, (30, vI 2), (31, vI 4), z37, z55, (34, vI 2), (35, vI 20), z56, z57, z38, z42, z43, z22, (42, vI 1), z24, z45, z47, (46, vI 1), z48, (48, vI f1), z50, z53] [(n2 + 0)] [] (by kernel_rfl) (by kernel_rfl) mn an 6 rfl ?_
  refine TD.one 4 (by kernel_rfl) 5 rfl fun a_ hF_ hcl_ => ?_
  refine OPJ.callT (τ := Option Addr × Nat × HL) [] [] (dst := (some 32)) (f := 7) (args := #[vI 4]) (A := [z41, z18, z44, z4]) (Ts := [T21, T16, T5]) (E := []) (Ob := []) [] [0, 1, 2, 3] [] [0, 1, 2] [2, 4, 6, 7, 8, 9, 24, 25, 26, 27, 28, 29, 30, 31, 32, 33, 34, 35, 36, 37, 38, 39, 40, 41, 42, 43, 44, 45, 46, 47, 48, 49, 50] [] [z41, z18, z44, z4] [] [T21, T16, T5] (fun x => x.2.2) (fun _ => []) (fun v x => v = shV ⟨(shapeS 4).1, (shapeS 4).2, x.1, x.2.1⟩ ∧ ShH ⟨(shapeS 4).1, (shapeS 4).2, x.1, x.2.1⟩ x.2.2) (fun v_ => [z1, z3, z2, z6, z52, (9, vI 2), (24, vI 2), z9, (26, vI 1), (27, vI 2), z10, z54, (30, vI 2), (31, vI 4), (32, v_), z55, (34, vI 2), (35, vI 20), z56, z57, z38, z42, z43, z22, (42, vI 1), z24, z45, z47, (46, vI 1), z48, (48, vI f1), z50, z53]) (fun _ => by kernel_rfl) mn an (by kernel_rfl) (by kernel_rfl) (by kernel_rfl) (by kernel_rfl) (by kernel_rfl) (by kernel_rfl) (fun _ => by kernel_rfl) [] (.inr (by decide)) (.inr fun x => ⟨x.2.2, by simp [List.append_assoc]⟩) ((shapeOf_any 4 _).mono fun u H_ h => by obtain ⟨x, e, h⟩ := h; exact ⟨x, by rw [e]; simp, h⟩) ?_ hF_ hcl_
  rintro _ ⟨A25, c26, T27⟩ ⟨rfl, hsh28⟩
  dsimp only at hsh28
  refine TD.tail (T := T27) ?_
  let z58 : Nat × Value := (32, .agg #[vI ((shapeS 4).1), .slice A25 ((shapeS 4).2.length) c26])
  let z59 : Nat × Value := (38, .agg #[vI ((shapeS 4).1), .slice A25 ((shapeS 4).2.length) c26, vI z51, vI 20, vI 0, vI 0, vI 1024, vI 0, vI 0])
  refine TD.vals [] (by kernel_rfl) [10] [] [] [2, 4, 6, 7, 8, 9, 24, 25, 26, 27, 28, 29, 30, 31, 32, 33, 34, 35, 36, 37, 38, 39, 40, 41, 42, 43, 44, 45, 46, 47, 48, 49, 50] [true, true, true, true, true, true, true, true, true, true, true, false, false, false, false] [z1, z3, z2, z6, z52, (9, vI 2), (24, vI 2), z9, (26, vI 1), (27, vI 2), z10, z54, (30, vI 2), (31, vI 4), z58, z55, (34, vI 2), (35, vI 20), z56, z57, z59, z42, z43, z22, (42, vI 1), z24, z45, z47, (46, vI 1), z48, (48, vI f1), z50, z53] [] [] (by kernel_rfl) (by kernel_rfl) mn an 4 rfl ?_
  refine TD.one 11 (by kernel_rfl) 3 rfl fun a_ hF_ hcl_ => ?_
  let z60 : List Value := [vI ((shapeS 4).1), .slice A25 ((shapeS 4).2.length) c26, vI z51, vI 20, vI 0, vI 0, vI 1024, vI 0, vI 0]
  refine OPJ.ev [] [] [2, 4, 6, 7, 8, 9, 24, 25, 26, 27, 28, 29, 30, 31, 32, 33, 34, 35, 36, 37, 38, 39, 40, 41, 42, 43, 44, 45, 46, 47, 48, 49, 50] (fun n29 => [z1, z3, z2, z6, z52, (9, vI 2), (24, vI 2), z9, (26, vI 1), (27, vI 2), z10, z54, (30, vI 2), (31, vI 4), z58, z55, (34, vI 2), (35, vI 20), z56, z57, z59, (39, vS (n29 + 0) 0 1 1), z43, z22, (42, vI 1), z24, z45, z47, (46, vI 1), z48, (48, vI f1), z50, z53]) (fun n29 => (ap [((n29 + 0), .lit z60 40 (0, 0)), z41, z18, z44, z4] [T27, T21, T16, T5])) (fun n29 => []) (fun n29 => []) (fun _ => by kernel_rfl) mn (fun n29 => an) (.inr ⟨by decide, fun n29 => ⟨[((n29 + 0), .lit z60 40 (0, 0))], rfl⟩⟩) (.inr fun n29 => ⟨[((n29 + 0), .lit z60 40 (0, 0))], rfl⟩) (fun n29 => ?_) hF_ hcl_
  refine TD.one 12 (by kernel_rfl) 2 rfl fun a_ hF_ hcl_ => ?_
  let z61 := (⟨⟨(shapeS 4).1, (shapeS 4).2, A25, c26⟩, ⟨z46 + z49, 20, 0, 0, 1024⟩, 0, 0⟩ : Bod)
  let z62 : Nat × Blk := ((n29 + 0), .lit z60 40 (0, 0))
  let z63 : Nat × Value := (39, vS (n29 + 0) 0 1 1)
  refine OPJ.app (e := bodE) (P := Tryz.prog) (tx := 26) bodEOk (o := _) (a1 := (.tmp 29)) (a2 := (.tmp 39)) rfl rfl rfl rfl ([z19, z40] : List Bod) [z61] (A := A19) (cap := c20) (n := 2) T21 [z62, z41, z18, z44, z4] [T27, T21, T16, T5] [0, 2, 3] [T27, T16, T5] (by kernel_rfl) (by kernel_rfl) rfl (by kernel_rfl) rfl ⟨1, rfl, by kernel_rfl⟩ (by kernel_rfl) hs22 (fun w hR => src_lit bodEOk rfl (src := [z61]) (c := 1) 0 rfl hR) (Nat.le_of_ble_eq_true rfl) [2, 4, 6, 7, 8, 9, 24, 25, 26, 27, 28, 29, 30, 31, 32, 33, 34, 35, 36, 37, 38, 39, 40, 41, 42, 43, 44, 45, 46, 47, 48, 49, 50] (fun v_ => [z1, z3, z2, z6, z52, (9, vI 2), (24, vI 2), z9, (26, vI 1), (27, vI 2), z10, z54, (30, vI 2), (31, vI 4), z58, z55, (34, vI 2), (35, vI 20), z56, z57, z59, z63, (40, v_), z22, (42, vI 1), z24, z45, z47, (46, vI 1), z48, (48, vI f1), z50, z53]) (fun _ => by kernel_rfl) [] (by kernel_rfl) (by decide) ?_ hF_ hcl_
  rintro A30 c31 T32 ⟨hs33, hz34⟩
  have hs33z : zeroOff A30 := hz34 hs22z
  let z64 : Nat × Value := (40, .slice A30 3 c31)
  refine TD.vals [] (by kernel_rfl) [13] [] [] [2, 4, 6, 7, 8, 9, 24, 25, 26, 27, 28, 29, 30, 31, 32, 33, 34, 35, 36, 37, 38, 39, 40, 41, 42, 43, 44, 45, 46, 47, 48, 49, 50] [true, true, true, true, true, true, true, true, true, true, true, true, true, true, false] [z1, z3, z2, z6, z52, (9, vI 2), (24, vI 2), z9, (26, vI 1), (27, vI 2), z10, z54, (30, vI 2), (31, vI 4), z58, z55, (34, vI 2), (35, vI 20), z56, z57, z59, z63, z64, z22, (42, vI 1), z24, z45, z47, (46, vI 1), z48, (48, vI f1), z50, z53] [] [] (by kernel_rfl) (by kernel_rfl) mn an 1 rfl ?_
  refine TD.one 14 (by kernel_rfl) 0 rfl fun a_ hF_ hcl_ => ?_
  let z65 : Nat × Blk := ((n2 + 0), .lit [vI 1, .slice A30 3 c31, vI (-100000), vI (-100000), vI 100000, vI 100000, .slice none 0 0, .slice none 0 0, vI 0, vI 0, vI 0, vI 0, vI 0, vI 0, vI 2, vI 0] 32 (0, 0))
  refine OPJ.ev [] [.own 3] [2, 4, 6, 7, 8, 9, 24, 25, 26, 27, 28, 29, 30, 31, 32, 33, 34, 35, 36, 37, 38, 39, 40, 41, 42, 43, 44, 45, 46, 47, 48, 49, 50] (fun _ => [z1, z3, z2, z6, z52, (9, vI 2), (24, vI 2), z9, (26, vI 1), (27, vI 2), z10, z54, (30, vI 2), (31, vI 4), z58, z55, (34, vI 2), (35, vI 20), z56, z57, z59, z63, z64, z22, (42, vI 1), z24, z45, z47, (46, vI 1), z48, (48, vI f1), z50, z53]) (fun _ => (ap [z62, z41, z18, z65, z4] [T32, T27, T16, T5])) (fun _ => [(n2 + 0)]) (fun _ => []) (fun _ => by kernel_rfl) mn (fun _ => an) (.inl ⟨[], fun _ => by kernel_rfl⟩) (.inl (by decide)) (fun _ => ?_) hF_ hcl_
  refine TD.fin (by kernel_rfl) (EX.np ?_)
  refine EX.next ?_
  refine TR.seq ?_
  refine TR.reg ?_
  refine TL.seg0 2 [] [] [2, 4, 6, 7, 8, 9, 24, 25, 26, 27, 28, 29, 30, 31, 32, 33, 34, 35, 36, 37, 38, 39, 40, 41, 42, 43, 44, 45, 46, 47, 48, 49, 50] [z1, z3, z2, z6, z52, (9, vI 2), (24, vI 2), z9, (26, vI 1), (27, vI 2), z10, z54, (30, vI 2), (31, vI 4), z58, z55, (34, vI 2), (35, vI 20), z56, z57, z59, z63, z64, z22, (42, vI 2), z24, z45, z47, (46, vI 1), z48, (48, vI f1), z50, z53] (ap [z62, z41, z18, z65, z4] [T32, T27, T16, T5]) [] [] (fun _ => by kernel_rfl) mn an ?_
  refine TL.fin (by kernel_rfl) ?_
  refine EX.next ?_
  refine TR.yes (by kernel_rfl) (by kernel_rfl) (rfl : true = true) ?_
  refine TR.reg ?_
  let z66 : Nat × Value := (44, vI z51)
  let z67 := z51 + 20000
  let z68 : Nat × Value := (45, vI z67)
  let z69 : Nat × Value := (47, vP (n1 + 0) 2)
  refine TL.seg0 5 [] [.nw, .own 4] [2, 4, 6, 7, 8, 9, 24, 25, 26, 27, 28, 29, 30, 31, 32, 33, 34, 35, 36, 37, 38, 39, 40, 41, 42, 43, 44, 45, 46, 47, 48, 49, 50] [z1, z3, z2, z6, z52, (9, vI 2), (24, vI 2), z9, (26, vI 1), (27, vI 2), z10, z54, (30, vI 2), (31, vI 4), z58, z55, (34, vI 2), (35, vI 20), z56, z57, z59, z63, z64, z22, (42, vI 2), z24, z66, z68, (46, vI 2), z69, (48, vI f2), z50, z53] (ap [z62, z41, z18, z65, z4] [T32, T27, T16, T5]) [(n1 + 0)] [-9223372036854775808 ≤ ((((-70000) + (around f0 30000)) + 20000) + (around f1 30000)) + 20000 ∧ ((((-70000) + (around f0 30000)) + 20000) + (around f1 30000)) + 20000 ≤ 9223372036854775807] (fun _ => by kernel_rfl) mn (ac ⟨by omega, by omega⟩ an) ?_
  let z70 := around f2 30000
  let z71 : Nat × Value := (49, vI z70)
  refine TL.callp (dst := (some 49)) (f := 6) (args := #[vI f2, vI 30000]) (H1 := (ap [z62, z41, z18, z65, z4] [T32, T27, T16, T5])) (E := []) (Ob := []) [] [] [2, 4, 6, 7, 8, 9, 24, 25, 26, 27, 28, 29, 30, 31, 32, 33, 34, 35, 36, 37, 38, 39, 40, 41, 42, 43, 44, 45, 46, 47, 48, 49, 50] (vI z70) [z1, z3, z2, z6, z52, (9, vI 2), (24, vI 2), z9, (26, vI 1), (27, vI 2), z10, z54, (30, vI 2), (31, vI 4), z58, z55, (34, vI 2), (35, vI 20), z56, z57, z59, z63, z64, z22, (42, vI 2), z24, z66, z68, (46, vI 2), z69, (48, vI f2), z71, z53] (fun _ => by kernel_rfl) mn an (around_any f2 30000 (by decide) _) (by kernel_rfl) ?_
  have hA35 := around_bd (n := f2) hf.2.2 30000 (by decide)
  let z72 := z67 + z70
  let z73 : Nat × Value := (8, vI z72)
  let z74 : Nat × Value := (50, vI z72)
  refine TL.seg0 2 [] [.nw] [2, 4, 6, 7, 8, 9, 24, 25, 26, 27, 28, 29, 30, 31, 32, 33, 34, 35, 36, 37, 38, 39, 40, 41, 42, 43, 44, 45, 46, 47, 48, 49, 50] [z1, z3, z2, z6, z73, (9, vI 2), (24, vI 2), z9, (26, vI 1), (27, vI 2), z10, z54, (30, vI 2), (31, vI 4), z58, z55, (34, vI 2), (35, vI 20), z56, z57, z59, z63, z64, z22, (42, vI 2), z24, z66, z68, (46, vI 2), z69, (48, vI f2), z71, z74] (ap [z62, z41, z18, z65, z4] [T32, T27, T16, T5]) [] [-9223372036854775808 ≤ (((((-70000) + (around f0 30000)) + 20000) + (around f1 30000)) + 20000) + (around f2 30000) ∧ (((((-70000) + (around f0 30000)) + 20000) + (around f1 30000)) + 20000) + (around f2 30000) ≤ 9223372036854775807] (fun _ => by kernel_rfl) mn (ac ⟨by omega, by omega⟩ an) ?_
  refine TL.fin (by kernel_rfl) ?_
  refine EX.inn ?_
  refine EX.next ?_
  refine TR.reg ?_
  refine TL.seg0 3 [] [] [2, 4, 6, 7, 8, 9, 24, 25, 26, 27, 28, 29, 30, 31, 32, 33, 34, 35, 36, 37, 38, 39, 40, 41, 42, 43, 44, 45, 46, 47, 48, 49, 50] [z1, z3, z2, z6, z73, (9, vI 3), (24, vI 2), z9, (26, vI 2), (27, vI 3), z10, z54, (30, vI 2), (31, vI 4), z58, z55, (34, vI 2), (35, vI 20), z56, z57, z59, z63, z64, z22, (42, vI 2), z24, z66, z68, (46, vI 2), z69, (48, vI f2), z71, z74] (ap [z62, z41, z18, z65, z4] [T32, T27, T16, T5]) [] [] (fun _ => by kernel_rfl) mn an ?_
  refine TL.fin (by kernel_rfl) ?_
  refine EX.round ?_
  refine TR.seq ?_
  refine TR.seq ?_
  refine TR.reg ?_
  refine TL.seg0 2 [] [] [2, 4, 6, 7, 8, 9, 24, 25, 26, 27, 28, 29, 30, 31, 32, 33, 34, 35, 36, 37, 38, 39, 40, 41, 42, 43, 44, 45, 46, 47, 48, 49, 50] [z1, z3, z2, z6, z73, (9, vI 3), (24, vI 3), z9, (26, vI 2), (27, vI 3), z10, z54, (30, vI 2), (31, vI 4), z58, z55, (34, vI 2), (35, vI 20), z56, z57, z59, z63, z64, z22, (42, vI 2), z24, z66, z68, (46, vI 2), z69, (48, vI f2), z71, z74] (ap [z62, z41, z18, z65, z4] [T32, T27, T16, T5]) [] [] (fun _ => by kernel_rfl) mn an ?_
  refine TL.fin (by kernel_rfl) ?_
  refine EX.next ?_
  refine TR.yes (by kernel_rfl) (by kernel_rfl) (rfl : true = true) ?_
  refine TR.skip ?_
  refine EX.next ?_
  refine TR.seq ?_
  refine TR.block ?_
  refine TR.seq ?_
  refine TR.draw [12, 14] [] rfl (by kernel_rfl) ?_
  let z75 : Nat × Value := (29, .slice A30 3 c31)
  let z76 : Nat × Value := (33, vI z72)
  let z77 : Nat × Value := (36, .agg #[vI z72, vI 30])
  let z78 : Nat × Value := (37, .agg #[vI z72, vI 30, vI 0, vI 0, vI 1024])
  refine TD.vals [] (by kernel_rfl) [0, 2, 5, 6, 1, 3, 7, 8, 9] [] [.own 3] [2, 4, 6, 7, 8, 9, 24, 25, 26, 27, 28, 29, 30, 31, 32, 33, 34, 35, 36, 37, 38, 39, 40, 41, 42, 43, 44, 45, 46, 47, 48, 49, 50] [true, true, true, true, false, true, true, true, true, true, false, false, false, false, false] [z1, z3, z2, z6, z73, (9, vI 3), (24, vI 3), z9, (26, vI 2), (27, vI 3), z10, z75, (30, vI 3), (31, vI 6), z58, z76, (34, vI 3), (35, vI 30), z77, z78, z59, z63, z64, z22, (42, vI 2), z24, z66, z68, (46, vI 2), z69, (48, vI f2), z71, z74] [(n2 + 0)] [] (by kernel_rfl) (by kernel_rfl) mn an 6 rfl ?_
  refine TD.one 4 (by kernel_rfl) 5 rfl fun a_ hF_ hcl_ => ?_
  refine OPJ.callT (τ := Option Addr × Nat × HL) [] [] (dst := (some 32)) (f := 7) (args := #[vI 6]) (A := [z62, z41, z18, z65, z4]) (Ts := [T32, T27, T16, T5]) (E := []) (Ob := []) [] [0, 1, 2, 3, 4] [] [0, 1, 2, 3] [2, 4, 6, 7, 8, 9, 24, 25, 26, 27, 28, 29, 30, 31, 32, 33, 34, 35, 36, 37, 38, 39, 40, 41, 42, 43, 44, 45, 46, 47, 48, 49, 50] [] [z62, z41, z18, z65, z4] [] [T32, T27, T16, T5] (fun x => x.2.2) (fun _ => []) (fun v x => v = shV ⟨(shapeS 6).1, (shapeS 6).2, x.1, x.2.1⟩ ∧ ShH ⟨(shapeS 6).1, (shapeS 6).2, x.1, x.2.1⟩ x.2.2) (fun v_ => [z1, z3, z2, z6, z73, (9, vI 3), (24, vI 3), z9, (26, vI 2), (27, vI 3), z10, z75, (30, vI 3), (31, vI 6), (32, v_), z76, (34, vI 3), (35, vI 30), z77, z78, z59, z63, z64, z22, (42, vI 2), z24, z66, z68, (46, vI 2), z69, (48, vI f2), z71, z74]) (fun _ => by kernel_rfl) mn an (by kernel_rfl) (by kernel_rfl) (by kernel_rfl) (by kernel_rfl) (by kernel_rfl) (by kernel_rfl) (fun _ => by kernel_rfl) [] (.inr (by decide)) (.inr fun x => ⟨x.2.2, by simp [List.append_assoc]⟩) ((shapeOf_any 6 _).mono fun u H_ h => by obtain ⟨x, e, h⟩ := h; exact ⟨x, by rw [e]; simp, h⟩) ?_ hF_ hcl_
  rintro _ ⟨A36, c37, T38⟩ ⟨rfl, hsh39⟩
  dsimp only at hsh39
  refine TD.tail (T := T38) ?_
  let z79 : Nat × Value := (32, .agg #[vI ((shapeS 6).1), .slice A36 ((shapeS 6).2.length) c37])
  let z80 : Nat × Value := (38, .agg #[vI ((shapeS 6).1), .slice A36 ((shapeS 6).2.length) c37, vI z72, vI 30, vI 0, vI 0, vI 1024, vI 0, vI 0])
  refine TD.vals [] (by kernel_rfl) [10] [] [] [2, 4, 6, 7, 8, 9, 24, 25, 26, 27, 28, 29, 30, 31, 32, 33, 34, 35, 36, 37, 38, 39, 40, 41, 42, 43, 44, 45, 46, 47, 48, 49, 50] [true, true, true, true, true, true, true, true, true, true, true, false, false, false, false] [z1, z3, z2, z6, z73, (9, vI 3), (24, vI 3), z9, (26, vI 2), (27, vI 3), z10, z75, (30, vI 3), (31, vI 6), z79, z76, (34, vI 3), (35, vI 30), z77, z78, z80, z63, z64, z22, (42, vI 2), z24, z66, z68, (46, vI 2), z69, (48, vI f2), z71, z74] [] [] (by kernel_rfl) (by kernel_rfl) mn an 4 rfl ?_
  refine TD.one 11 (by kernel_rfl) 3 rfl fun a_ hF_ hcl_ => ?_
  let z81 : List Value := [vI ((shapeS 6).1), .slice A36 ((shapeS 6).2.length) c37, vI z72, vI 30, vI 0, vI 0, vI 1024, vI 0, vI 0]
  refine OPJ.ev [] [] [2, 4, 6, 7, 8, 9, 24, 25, 26, 27, 28, 29, 30, 31, 32, 33, 34, 35, 36, 37, 38, 39, 40, 41, 42, 43, 44, 45, 46, 47, 48, 49, 50] (fun n40 => [z1, z3, z2, z6, z73, (9, vI 3), (24, vI 3), z9, (26, vI 2), (27, vI 3), z10, z75, (30, vI 3), (31, vI 6), z79, z76, (34, vI 3), (35, vI 30), z77, z78, z80, (39, vS (n40 + 0) 0 1 1), z64, z22, (42, vI 2), z24, z66, z68, (46, vI 2), z69, (48, vI f2), z71, z74]) (fun n40 => (ap [((n40 + 0), .lit z81 40 (0, 0)), z62, z41, z18, z65, z4] [T38, T32, T27, T16, T5])) (fun n40 => []) (fun n40 => []) (fun _ => by kernel_rfl) mn (fun n40 => an) (.inr ⟨by decide, fun n40 => ⟨[((n40 + 0), .lit z81 40 (0, 0))], rfl⟩⟩) (.inr fun n40 => ⟨[((n40 + 0), .lit z81 40 (0, 0))], rfl⟩) (fun n40 => ?_) hF_ hcl_
  refine TD.one 12 (by kernel_rfl) 2 rfl fun a_ hF_ hcl_ => ?_
  let z82 := (⟨⟨(shapeS 6).1, (shapeS 6).2, A36, c37⟩, ⟨z67 + z70, 30, 0, 0, 1024⟩, 0, 0⟩ : Bod)
  let z83 : Nat × Blk := ((n40 + 0), .lit z81 40 (0, 0))
  let z84 : Nat × Value := (39, vS (n40 + 0) 0 1 1)
  refine OPJ.app (e := bodE) (P := Tryz.prog) (tx := 26) bodEOk (o := _) (a1 := (.tmp 29)) (a2 := (.tmp 39)) rfl rfl rfl rfl ([z19, z40, z61] : List Bod) [z82] (A := A30) (cap := c31) (n := 3) T32 [z83, z62, z41, z18, z65, z4] [T38, T32, T27, T16, T5] [0, 2, 3, 4] [T38, T27, T16, T5] (by kernel_rfl) (by kernel_rfl) rfl (by kernel_rfl) rfl ⟨1, rfl, by kernel_rfl⟩ (by kernel_rfl) hs33 (fun w hR => src_lit bodEOk rfl (src := [z82]) (c := 1) 0 rfl hR) (Nat.le_of_ble_eq_true rfl) [2, 4, 6, 7, 8, 9, 24, 25, 26, 27, 28, 29, 30, 31, 32, 33, 34, 35, 36, 37, 38, 39, 40, 41, 42, 43, 44, 45, 46, 47, 48, 49, 50] (fun v_ => [z1, z3, z2, z6, z73, (9, vI 3), (24, vI 3), z9, (26, vI 2), (27, vI 3), z10, z75, (30, vI 3), (31, vI 6), z79, z76, (34, vI 3), (35, vI 30), z77, z78, z80, z84, (40, v_), z22, (42, vI 2), z24, z66, z68, (46, vI 2), z69, (48, vI f2), z71, z74]) (fun _ => by kernel_rfl) [] (by kernel_rfl) (by decide) ?_ hF_ hcl_
  rintro A41 c42 T43 ⟨hs44, hz45⟩
  have hs44z : zeroOff A41 := hz45 hs33z
  let z85 : Nat × Value := (40, .slice A41 4 c42)
  refine TD.vals [] (by kernel_rfl) [13] [] [] [2, 4, 6, 7, 8, 9, 24, 25, 26, 27, 28, 29, 30, 31, 32, 33, 34, 35, 36, 37, 38, 39, 40, 41, 42, 43, 44, 45, 46, 47, 48, 49, 50] [true, true, true, true, true, true, true, true, true, true, true, true, true, true, false] [z1, z3, z2, z6, z73, (9, vI 3), (24, vI 3), z9, (26, vI 2), (27, vI 3), z10, z75, (30, vI 3), (31, vI 6), z79, z76, (34, vI 3), (35, vI 30), z77, z78, z80, z84, z85, z22, (42, vI 2), z24, z66, z68, (46, vI 2), z69, (48, vI f2), z71, z74] [] [] (by kernel_rfl) (by kernel_rfl) mn an 1 rfl ?_
  refine TD.one 14 (by kernel_rfl) 0 rfl fun a_ hF_ hcl_ => ?_
  let z86 : Nat × Blk := ((n2 + 0), .lit [vI 1, .slice A41 4 c42, vI (-100000), vI (-100000), vI 100000, vI 100000, .slice none 0 0, .slice none 0 0, vI 0, vI 0, vI 0, vI 0, vI 0, vI 0, vI 2, vI 0] 32 (0, 0))
  refine OPJ.ev [] [.own 4] [2, 4, 6, 7, 8, 9, 24, 25, 26, 27, 28, 29, 30, 31, 32, 33, 34, 35, 36, 37, 38, 39, 40, 41, 42, 43, 44, 45, 46, 47, 48, 49, 50] (fun _ => [z1, z3, z2, z6, z73, (9, vI 3), (24, vI 3), z9, (26, vI 2), (27, vI 3), z10, z75, (30, vI 3), (31, vI 6), z79, z76, (34, vI 3), (35, vI 30), z77, z78, z80, z84, z85, z22, (42, vI 2), z24, z66, z68, (46, vI 2), z69, (48, vI f2), z71, z74]) (fun _ => (ap [z83, z62, z41, z18, z86, z4] [T43, T38, T27, T16, T5])) (fun _ => [(n2 + 0)]) (fun _ => []) (fun _ => by kernel_rfl) mn (fun _ => an) (.inl ⟨[], fun _ => by kernel_rfl⟩) (.inl (by decide)) (fun _ => ?_) hF_ hcl_
  refine TD.fin (by kernel_rfl) (EX.np ?_)
  refine EX.next ?_
  refine TR.seq ?_
  refine TR.reg ?_
  let z87 : Nat × Value := (43, .bool false)
  refine TL.seg0 2 [] [] [2, 4, 6, 7, 8, 9, 24, 25, 26, 27, 28, 29, 30, 31, 32, 33, 34, 35, 36, 37, 38, 39, 40, 41, 42, 43, 44, 45, 46, 47, 48, 49, 50] [z1, z3, z2, z6, z73, (9, vI 3), (24, vI 3), z9, (26, vI 2), (27, vI 3), z10, z75, (30, vI 3), (31, vI 6), z79, z76, (34, vI 3), (35, vI 30), z77, z78, z80, z84, z85, z22, (42, vI 3), z87, z66, z68, (46, vI 2), z69, (48, vI f2), z71, z74] (ap [z83, z62, z41, z18, z86, z4] [T43, T38, T27, T16, T5]) [] [] (fun _ => by kernel_rfl) mn an ?_
  refine TL.fin (by kernel_rfl) ?_
  refine EX.next ?_
  refine TR.no (by kernel_rfl) (by kernel_rfl) (rfl : false = false) ?_
  refine TR.skip ?_
  refine EX.inn ?_
  refine EX.next ?_
  refine TR.reg ?_
  refine TL.seg0 3 [] [] [2, 4, 6, 7, 8, 9, 24, 25, 26, 27, 28, 29, 30, 31, 32, 33, 34, 35, 36, 37, 38, 39, 40, 41, 42, 43, 44, 45, 46, 47, 48, 49, 50] [z1, z3, z2, z6, z73, (9, vI 4), (24, vI 3), z9, (26, vI 3), (27, vI 4), z10, z75, (30, vI 3), (31, vI 6), z79, z76, (34, vI 3), (35, vI 30), z77, z78, z80, z84, z85, z22, (42, vI 3), z87, z66, z68, (46, vI 2), z69, (48, vI f2), z71, z74] (ap [z83, z62, z41, z18, z86, z4] [T43, T38, T27, T16, T5]) [] [] (fun _ => by kernel_rfl) mn an ?_
  refine TL.fin (by kernel_rfl) ?_
  refine EX.round ?_
  refine TR.seq ?_
  refine TR.seq ?_
  refine TR.reg ?_
  refine TL.seg0 2 [] [] [2, 4, 6, 7, 8, 9, 24, 25, 26, 27, 28, 29, 30, 31, 32, 33, 34, 35, 36, 37, 38, 39, 40, 41, 42, 43, 44, 45, 46, 47, 48, 49, 50] [z1, z3, z2, z6, z73, (9, vI 4), (24, vI 4), (25, .bool false), (26, vI 3), (27, vI 4), z10, z75, (30, vI 3), (31, vI 6), z79, z76, (34, vI 3), (35, vI 30), z77, z78, z80, z84, z85, z22, (42, vI 3), z87, z66, z68, (46, vI 2), z69, (48, vI f2), z71, z74] (ap [z83, z62, z41, z18, z86, z4] [T43, T38, T27, T16, T5]) [] [] (fun _ => by kernel_rfl) mn an ?_
  refine TL.fin (by kernel_rfl) ?_
  refine EX.next ?_
  refine TR.no (by kernel_rfl) (by kernel_rfl) (rfl : false = false) ?_
  refine TR.exit ?_
  refine EX.thn (by simp) ?_
  refine EX.thn (by simp) ?_
  refine EX.hit ?_
  refine EX.next ?_
  refine TR.seq ?_
  refine TR.reg ?_
  obtain ⟨bb, rest, rfl, rfl, hcap⟩ := hs44.open0 hs44z (by decide) (Nat.le_of_ble_eq_true rfl)
  have hcap4 : 4 ≤ c42 := hcap
  refine TL.openT [1, 2, 3, 4] 0 (by kernel_rfl) rfl rfl ?_
  have hq : QOk (⟨(-70000) + (around f0 30000), (((-70000) + (around f0 30000)) + 20000) + (around f1 30000), (((((-70000) + (around f0 30000)) + 20000) + (around f1 30000)) + 20000) + (around f2 30000), A3, A14, A25, A36, c4, c15, c26, c37, bb, c42, rest⟩ : QD) := ⟨by dsimp only; omega⟩
  let z88 := (⟨(-70000) + z28, z46 + z49, z67 + z70, A3, A14, A25, A36, c4, c15, c26, c37, bb, c42, rest⟩ : QD)
  let z89 : Nat × Blk := (bb, .rows 9 c42 (brow ((z88).l ++ (z88).rest)) 40 (0, 0))
  let z90 : Nat × Blk := ((n2 + 0), .lit [vI 1, vS bb 0 4 c42, vI (-100000), vI (-100000), vI 100000, vI 100000, .slice none 0 0, .slice none 0 0, vI 0, vI 0, vI 0, vI 0, vI 0, vI 0, vI 2, vI 0] 32 (0, 0))
  refine TL.seg0 1 [] [.own 5, .own 5, .own 5, .own 5, .own 5, .own 5, .own 5, .own 5, .own 5, .own 5, .own 5, .own 5, .own 5, .own 5, .own 5, .own 5] [2, 6, 7, 51] [z1, z2, z6, (51, .agg #[vI 1, vS bb 0 4 c42, vI (-100000), vI (-100000), vI 100000, vI 100000, .slice none 0 0, .slice none 0 0, vI 0, vI 0, vI 0, vI 0, vI 0, vI 0, vI 2, vI 0])] (ap [z89, z83, z62, z41, z18, z90, z4] [T38, T27, T16, T5]) [(n2 + 0), (n2 + 0), (n2 + 0), (n2 + 0), (n2 + 0), (n2 + 0), (n2 + 0), (n2 + 0), (n2 + 0), (n2 + 0), (n2 + 0), (n2 + 0), (n2 + 0), (n2 + 0), (n2 + 0), (n2 + 0)] [] (fun _ => by kernel_rfl) mn an ?_
  let z91 := QD.S z88 1
  let z92 := sizeOf z91
  let z93 := iniL z91 (z91).nb
  let z94 := irow z93
  refine TL.callT (τ := Nat) [] [] (dst := (some 52)) (f := 9) (args := #[.agg #[vI 1, vS bb 0 4 c42, vI (-100000), vI (-100000), vI 100000, vI 100000, .slice none 0 0, .slice none 0 0, vI 0, vI 0, vI 0, vI 0, vI 0, vI 0, vI 2, vI 0]]) (A := [z89, z83, z62, z41, z18, z90, z4]) (Ts := [T38, T27, T16, T5]) (E := []) (Ob := []) [] [0, 1, 2, 3, 4, 5, 6] [] [0, 1, 2, 3] [2, 6, 7, 52] [] [z89, z83, z62, z41, z18, z90, z4] [] [T38, T27, T16, T5] (fun q => [(q, .rows 1 (z92.toNat) z94 3 (0, 0))]) (fun _ => []) (fun v q => v = vS q 0 z92.toNat z92.toNat) (fun v_ => [z1, z2, z6, (52, v_)]) (fun _ => by kernel_rfl) mn an (by kernel_rfl) (by kernel_rfl) (by kernel_rfl) (by kernel_rfl) (by kernel_rfl) (by kernel_rfl) (fun _ => by kernel_rfl) (rinit_ap z91 _ (qset (d := z88) (p := 1) (by decide) (in_ap 0 rfl) hcap4 (hsh6 _ (sub_ap 3 rfl)) (hsh17 _ (sub_ap 2 rfl)) (hsh28 _ (sub_ap 1 rfl)) (hsh39 _ (sub_ap 0 rfl)))) ?_
  rintro _ q46 rfl
  let z95 : Nat × Blk := (q46, .rows 1 (z92.toNat) z94 3 (0, 0))
  refine TL.callT (τ := Nat × HL) [] [] (dst := (some 53)) (f := 8) (args := #[vS q46 0 (z92.toNat) (z92.toNat)]) (A := [z95, z89, z83, z62, z41, z18, z90, z4]) (Ts := [T38, T27, T16, T5]) (E := []) (Ob := []) [] [0, 1, 2, 3, 4, 5, 6, 7] [] [0, 1, 2, 3] [2, 6, 7, 53] [] [z95, z89, z83, z62, z41, z18, z90, z4] [] [T38, T27, T16, T5] (fun _ => []) (fun x => [x.2]) (fun v x => v = vP x.1 0 ∧ MemH x.1 ⟨z93, [], 0⟩ 100000000 x.2) (fun v_ => [z1, z2, z6, (53, v_)]) (fun _ => by kernel_rfl) mn an (by kernel_rfl) (by kernel_rfl) (by kernel_rfl) (by kernel_rfl) (by kernel_rfl) (by kernel_rfl) (fun _ => by kernel_rfl) (newn_any q46 z93 (z92.toNat) 100000000 (z92.toNat) _ (iniL_len _ _) (in_ap 0 rfl) (by show 84 ≤ 1000000; decide) (by decide) (Nat.le_refl _)) ?_
  rintro _ ⟨mb, T⟩ ⟨rfl, hM⟩
  dsimp only at hM
  refine TL.seg0 1 [] [] [2, 6, 7, 10] [z1, z2, z6, (10, vP mb 0)] (ap [z95, z89, z83, z62, z41, z18, z90, z4] [T, T38, T27, T16, T5]) [] [] (fun _ => by kernel_rfl) mn an ?_
  refine TL.fin (by kernel_rfl) ?_
  refine EX.next ?_
  refine TR.seq ?_
  refine TR.seq ?_
  refine TR.reg ?_
  refine TL.seg0 2 [] [] [2, 6, 7, 10, 55] [z1, z2, z6, (10, vP mb 0), (55, .bool false)] (ap [z95, z89, z83, z62, z41, z18, z90, z4] [T, T38, T27, T16, T5]) [] [] (fun _ => by kernel_rfl) mn an ?_
  refine TL.fin (by kernel_rfl) ?_
  refine EX.next ?_
  refine TR.no (by kernel_rfl) (by kernel_rfl) (rfl : false = false) ?_
  refine TR.skip ?_
  refine EX.next ?_
  refine TR.seq ?_
  refine TR.reg ?_
  refine TL.seg0 1 [] [] [6, 7, 10, 56] [z2, z6, (10, vP mb 0), (56, vI version)] (ap [z95, z89, z83, z62, z41, z18, z90, z4] [T, T38, T27, T16, T5]) [] [] (fun _ => by kernel_rfl) mn an ?_
  let z96 := around version 9
  refine TL.callp (dst := (some 57)) (f := 6) (args := #[vI version, vI 9]) (H1 := (ap [z95, z89, z83, z62, z41, z18, z90, z4] [T, T38, T27, T16, T5])) (E := []) (Ob := []) [] [] [6, 7, 10, 57] (vI z96) [z2, z6, (10, vP mb 0), (57, vI z96)] (fun _ => by kernel_rfl) mn an (around_any version 9 (by decide) _) (by kernel_rfl) ?_
  have hA47 := around_bd (n := version) hv 9 (by decide)
  let z97 : Nat × Value := (11, vI z96)
  refine TL.seg0 1 [] [] [6, 7, 10, 11] [z2, z6, (10, vP mb 0), z97] (ap [z95, z89, z83, z62, z41, z18, z90, z4] [T, T38, T27, T16, T5]) [] [] (fun _ => by kernel_rfl) mn an ?_
  refine TL.fin (by kernel_rfl) ?_
  refine EX.next ?_
  refine TR.seq ?_
  refine TR.reg ?_
  refine TL.seg0 1 [] [] [6, 7, 10, 11, 58] [z2, z6, (10, vP mb 0), z97, (58, vP mb 0)] (ap [z95, z89, z83, z62, z41, z18, z90, z4] [T, T38, T27, T16, T5]) [] [] (fun _ => by kernel_rfl) mn an ?_
  let z98 := (⟨z93, [], 0⟩ : MemS)
  let z99 := irow (z98).cs
  refine TL.callT (τ := Nat) [] [] (dst := (some 59)) (f := 10) (args := #[vP mb 0]) (A := [z95, z89, z83, z62, z41, z18, z90, z4]) (Ts := [T, T38, T27, T16, T5]) (E := []) (Ob := []) [] [0, 1, 2, 3, 4, 5, 6, 7] [] [0, 1, 2, 3, 4] [6, 7, 10, 11, 59] [] [z95, z89, z83, z62, z41, z18, z90, z4] [] [T, T38, T27, T16, T5] (fun q => [(q, .rows 1 ((z98).cs.length) z99 3 (0, 0))]) (fun _ => []) (fun v q => v = vS q 0 (z98).cs.length (z98).cs.length) (fun v_ => [z2, z6, (10, vP mb 0), z97, (59, v_)]) (fun _ => by kernel_rfl) mn an (by kernel_rfl) (by kernel_rfl) (by kernel_rfl) (by kernel_rfl) (by kernel_rfl) (by kernel_rfl) (fun _ => by kernel_rfl) (cells_any mb (⟨z93, [], 0⟩) _ T _ hM (sub_ap 0 rfl)) ?_
  rintro _ q48 rfl
  have hl : ((⟨(iniL (QD.S (⟨(-70000) + (around f0 30000), (((-70000) + (around f0 30000)) + 20000) + (around f1 30000), (((((-70000) + (around f0 30000)) + 20000) + (around f1 30000)) + 20000) + (around f2 30000), A3, A14, A25, A36, c4, c15, c26, c37, bb, c42, rest⟩ : QD) 1) ((QD.S (⟨(-70000) + (around f0 30000), (((-70000) + (around f0 30000)) + 20000) + (around f1 30000), (((((-70000) + (around f0 30000)) + 20000) + (around f1 30000)) + 20000) + (around f2 30000), A3, A14, A25, A36, c4, c15, c26, c37, bb, c42, rest⟩ : QD) 1)).nb), [], 0⟩ : MemS)).cs.length = 84 := by kernel_rfl
  let z100 : Nat × Value := (12, vS q48 0 ((z98).cs.length) ((z98).cs.length))
  let z101 : Nat × Blk := (q48, .rows 1 ((z98).cs.length) z99 3 (0, 0))
  refine TL.seg0 1 [] [] [6, 7, 10, 11, 12] [z2, z6, (10, vP mb 0), z97, z100] (ap [z101, z95, z89, z83, z62, z41, z18, z90, z4] [T, T38, T27, T16, T5]) [] [] (fun _ => by kernel_rfl) mn an ?_
  refine TL.fin (by kernel_rfl) ?_
  refine EX.next ?_
  refine TR.seq ?_
  refine TR.reg ?_
  refine TL.seg 4 [] [.own 7] [6, 7, 10, 11, 12, 13] (fun n49 => [z2, z6, (10, vP mb 0), z97, z100, (13, vS (n49 + 0) 0 1 1)]) (fun n49 => (ap [((n49 + 0), .lit [vI 0, vI 0, vI 0] 70 (0, 0)), z101, z95, z89, z83, z62, z41, z18, z90, z4] [T, T38, T27, T16, T5])) (fun n49 => [(n2 + 0)]) (fun n49 => []) (fun _ => by kernel_rfl) mn (fun n49 => an) ?_
  intro n49
  refine TL.fin (by kernel_rfl) ?_
  refine EX.next ?_
  refine TR.seq ?_
  refine TR.seq ?_
  refine TR.reg ?_
  let z102 : Nat × Blk := ((n49 + 0), .rows 3 1 (inrow (List.replicate 1 dI)) 70 (0, 0))
  refine TL.den [z102, z101, z95, z89, z83, z62, z41, z18, z90, z4] (by kernel_rfl) ?_
  have hrun := qrun hq (p := 1) (v := around version 9) (c := (n49 + 0)) 50 (⟨iniL (QD.S (⟨(-70000) + (around f0 30000), (((-70000) + (around f0 30000)) + 20000) + (around f1 30000), (((((-70000) + (around f0 30000)) + 20000) + (around f1 30000)) + 20000) + (around f2 30000), A3, A14, A25, A36, c4, c15, c26, c37, bb, c42, rest⟩ : QD) 1) 4, [], 0⟩ : MemS) (q1_good _ _ _) (q1_obs _ _ _)
  let z103 : Nat × Value := (13, vS (n49 + 0) 0 1 1)
  refine TL.seg0 1 [] [.own 8, .own 8, .own 8, .own 8, .own 8, .own 8, .own 8, .own 8, .own 8, .own 8, .own 8, .own 8, .own 8, .own 8, .own 8, .own 8] [6, 7, 10, 11, 12, 13, 63] [z2, z6, (10, vP mb 0), z97, z100, z103, (63, .agg #[vI 1, vS bb 0 4 c42, vI (-100000), vI (-100000), vI 100000, vI 100000, .slice none 0 0, .slice none 0 0, vI 0, vI 0, vI 0, vI 0, vI 0, vI 0, vI 2, vI 0])] (ap [z102, z101, z95, z89, z83, z62, z41, z18, z90, z4] [T, T38, T27, T16, T5]) [(n2 + 0), (n2 + 0), (n2 + 0), (n2 + 0), (n2 + 0), (n2 + 0), (n2 + 0), (n2 + 0), (n2 + 0), (n2 + 0), (n2 + 0), (n2 + 0), (n2 + 0), (n2 + 0), (n2 + 0), (n2 + 0)] [] (fun _ => by kernel_rfl) mn an ?_
  refine TL.callp (dst := (some 64)) (f := 11) (args := #[.agg #[vI 1, vS bb 0 4 c42, vI (-100000), vI (-100000), vI 100000, vI 100000, .slice none 0 0, .slice none 0 0, vI 0, vI 0, vI 0, vI 0, vI 0, vI 0, vI 2, vI 0]]) (H1 := (ap [z102, z101, z95, z89, z83, z62, z41, z18, z90, z4] [T, T38, T27, T16, T5])) (E := []) (Ob := []) [] [] [6, 7, 10, 11, 12, 13, 64] (vI 62) [z2, z6, (10, vP mb 0), z97, z100, z103, (64, vI 62)] (fun _ => by kernel_rfl) mn an (lit_p (by kernel_rfl) (bound_any z91 _)) (by kernel_rfl) ?_
  refine TL.seg0 1 [] [] [6, 7, 10, 11, 12, 13, 14] [z2, z6, (10, vP mb 0), z97, z100, z103, (14, vI 62)] (ap [z102, z101, z95, z89, z83, z62, z41, z18, z90, z4] [T, T38, T27, T16, T5]) [] [] (fun _ => by kernel_rfl) mn an ?_
  refine TL.fin (by kernel_rfl) ?_
  refine EX.next ?_
  refine TR.block ?_
  let z104 := QD.G z88 1 z96 (n49 + 0)
  refine TR.loop (A := [z102, (q48, .rows 1 (((⟨z93, [], 0⟩ : MemS)).cs.length) (irow ((⟨z93, [], 0⟩ : MemS)).cs) 3 (0, 0)), z95, z89, z83, z62, z41, z18, z90, z4]) (Ts := [T, T38, T27, T16, T5]) (σ := Nat × Int × MemS × HL) (fun (x : Nat × Int × MemS × HL) => match x with | ⟨r, kk, M_, T_⟩ => [z2, z6, (10, vP mb 0), z97, (12, vS q48 0 (((⟨z93, [], 0⟩ : MemS)).cs.length) (((⟨z93, [], 0⟩ : MemS)).cs.length)), z103, (14, vI kk)]) (fun (x : Nat × Int × MemS × HL) => match x with | ⟨r, kk, M_, T_⟩ => ap [z102, (q48, .rows 1 (((⟨z93, [], 0⟩ : MemS)).cs.length) (irow ((⟨z93, [], 0⟩ : MemS)).cs) 3 (0, 0)), z95, z89, z83, z62, z41, z18, z90, z4] [T_, T38, T27, T16, T5]) (fun (x : Nat × Int × MemS × HL) => match x with | ⟨r, kk, M_, T_⟩ => (kk = 13 + (r : Int) ∧ r < 50) ∧ goodRun z104 (r + 1) M_ ∧ runM z104 (r + 1) M_ = runM z104 50 (⟨iniL z91 4, [], 0⟩ : MemS) ∧ MemH mb M_ (20 * r + 20) T_) (fun (x : Nat × Int × MemS × HL) => match x with | ⟨r, kk, M_, T_⟩ => r) (49, 62, (⟨iniL z91 4, [], 0⟩ : MemS), T) (⟨⟨by decide, by decide⟩, hrun.1, rfl, hM.weak (by decide)⟩) [6, 7, 10, 11, 12, 13, 14] (by kernel_rfl) [0, 1, 2, 3, 4, 5, 6, 7, 8, 9] [] [0, 1, 2, 3, 4] [] (by kernel_rfl) (by kernel_rfl) (by kernel_rfl) ?_
  rintro ⟨r, kk, M_, T_⟩ ⟨hd_, hgood_, hrun_, hM_⟩
  refine TR.seq ?_
  refine TR.seq ?_
  refine TR.reg ?_
  refine TL.seg0 2 [] [] [6, 7, 10, 11, 12, 13, 14, 66] [z2, z6, (10, vP mb 0), z97, z100, z103, (14, vI kk), (66, .bool (decide (kk > 0)))] (ap [z102, z101, z95, z89, z83, z62, z41, z18, z90, z4] [T_, T38, T27, T16, T5]) [] [] (fun _ => by kernel_rfl) mn an ?_
  refine TL.fin (by kernel_rfl) ?_
  refine EX.next ?_
  rcases Decidable.em (kk > 0) with h51 | h51
  · refine TR.yes (b := decide (kk > 0)) (by kernel_rfl) (by kernel_rfl) (decide_eq_true h51) ?_
    refine TR.skip ?_
    refine EX.next ?_
    refine TR.seq ?_
    refine TR.block ?_
    refine TR.seq ?_
    refine TR.draw [6, 13] [] rfl (by kernel_rfl) ?_
    let z105 : Nat × Value := (71, .iface 41 (vP mb 0))
    let z106 : Nat × Value := (72, .agg #[vI 1, vS bb 0 4 c42, vI (-100000), vI (-100000), vI 100000, vI 100000, .slice none 0 0, .slice none 0 0, vI 0, vI 0, vI 0, vI 0, vI 0, vI 0, vI 2, vI 0])
    let z107 : Nat × Value := (74, vI z96)
    let z108 : Nat × Value := (75, vS (n49 + 0) 0 1 1)
    refine TD.vals [] (by kernel_rfl) [0, 2, 4, 5, 1] [] [.own 8, .own 8, .own 8, .own 8, .own 8, .own 8, .own 8, .own 8, .own 8, .own 8, .own 8, .own 8, .own 8, .own 8, .own 8, .own 8] [6, 7, 10, 11, 12, 13, 14, 71, 72, 74, 75] [true, true, true, false, true, true, false, false, false, false, false, false, false, false, false] [z2, z6, (10, vP mb 0), z97, z100, z103, (14, vI kk), z105, z106, z107, z108] [(n2 + 0), (n2 + 0), (n2 + 0), (n2 + 0), (n2 + 0), (n2 + 0), (n2 + 0), (n2 + 0), (n2 + 0), (n2 + 0), (n2 + 0), (n2 + 0), (n2 + 0), (n2 + 0), (n2 + 0), (n2 + 0)] [] (by kernel_rfl) (by kernel_rfl) mn an 10 rfl ?_
    let z109 : Nat × Value := (73, .agg #[.slice none 0 0, vI (-1), vI (-1), vI (-1)])
    refine TD.callv [] (by kernel_rfl) 3 [] [] (dst := (some 73)) (f := 13) (args := #[]) (E := []) (Ob := []) [6, 7, 10, 11, 12, 13, 14, 71, 72, 73, 74, 75] (.agg #[.slice none 0 0, vI (-1), vI (-1), vI (-1)]) [z2, z6, (10, vP mb 0), z97, z100, z103, (14, vI kk), z105, z106, z109, z107, z108] (by kernel_rfl) (by kernel_rfl) (by kernel_rfl) mn an (fun X_ => (none_any _)) (by kernel_rfl) 9 rfl ?_
    refine TD.two 6 11 (by kernel_rfl) 8 rfl (fun a_ hF_ hcl_ => ?_) (fun a_ hF_ hcl_ => ?_)
    · let z110 := trM z104 M_
      let z111 := trE z104 M_
      refine OPJ.callT (τ := HL) [] [] (dst := (some 76)) (f := 12) (args := #[.iface 41 (vP mb 0), .agg #[vI 1, vS bb 0 4 c42, vI (-100000), vI (-100000), vI 100000, vI 100000, .slice none 0 0, .slice none 0 0, vI 0, vI 0, vI 0, vI 0, vI 0, vI 0, vI 2, vI 0], .agg #[.slice none 0 0, vI (-1), vI (-1), vI (-1)], vI z96, vS (n49 + 0) 0 1 1]) (A := [z102, z101, z95, z89, z83, z62, z41, z18, z90, z4]) (Ts := [T_, T38, T27, T16, T5]) (E := []) (Ob := []) [] [0, 1, 2, 3, 4, 5, 6, 7, 8, 9] [0] [1, 2, 3, 4] [6, 7, 10, 11, 12, 13, 14, 76] [] [z102, z101, z95, z89, z83, z62, z41, z18, z90, z4] [T_] [T38, T27, T16, T5] (fun _ => []) (fun x => [x]) (fun v x => MemH mb z110 (20 * r) x ∧ v = .tuple #[.bool z111, .agg #[vI 0, vI 0, vI 0, vI 0], .bool false]) (fun v_ => [z2, z6, (10, vP mb 0), z97, z100, z103, (14, vI kk), (76, v_)]) (fun _ => by kernel_rfl) mn an (by kernel_rfl) (by kernel_rfl) (by kernel_rfl) (by kernel_rfl) (by kernel_rfl) (by kernel_rfl) (fun _ => by kernel_rfl) [] (.inl (by kernel_rfl)) (.inl (by decide)) (trans_any z104 mb M_ (20 * r) T_ _ hM_ ⟨(qset (d := z88) (p := 1) (by decide) (in_ap 3 rfl) hcap4 (hsh6 _ (sub_ap 3 rfl)) (hsh17 _ (sub_ap 2 rfl)) (hsh28 _ (sub_ap 1 rfl)) (hsh39 _ (sub_ap 0 rfl))), in_ap 0 rfl, Nat.le_of_ble_eq_true rfl, Nat.le_of_ble_eq_true rfl⟩ hgood_.1 z96 rfl) ?_ hF_ hcl_
      rintro _ T52 ⟨hM53, rfl⟩
      let z112 : Nat × Value := (77, .bool z111)
      let z113 : Nat × Value := (78, .agg #[vI 0, vI 0, vI 0, vI 0])
      let z114 : Nat × Value := (79, .bool false)
      refine TD.vals [] (by kernel_rfl) [7, 8, 9, 10] [] [] [6, 7, 10, 11, 12, 13, 14, 77, 78, 79] [true, true, true, true, true, true, true, true, true, true, true, false, false, false, false] [z2, z6, (10, vP mb 0), z97, z100, z103, (14, vI kk), z112, z113, z114] [] [] (by kernel_rfl) (by kernel_rfl) mn an 4 rfl ?_
      refine TD.one 11 (by kernel_rfl) 3 rfl fun a_ hF_ hcl_ => ?_
      refine OPJ.ev [] [] [6, 7, 10, 11, 12, 13, 14, 16, 77, 78, 79] (fun n54 => [z2, z6, (10, vP mb 0), z97, z100, z103, (14, vI kk), (16, vP (n54 + 0) 0), z112, z113, z114]) (fun n54 => (ap [((n54 + 0), .lit [vI 0, vI 0, vI 0, vI 0] 49 (0, 0)), z102, z101, z95, z89, z83, z62, z41, z18, z90, z4] [T52, T38, T27, T16, T5])) (fun n54 => []) (fun n54 => []) (fun _ => by kernel_rfl) mn (fun n54 => an) (.inr ⟨by decide, fun n54 => ⟨[((n54 + 0), .lit [vI 0, vI 0, vI 0, vI 0] 49 (0, 0))], rfl⟩⟩) (.inr fun n54 => ⟨[((n54 + 0), .lit [vI 0, vI 0, vI 0, vI 0] 49 (0, 0))], rfl⟩) (fun n54 => ?_) hF_ hcl_
      let z115 : Nat × Value := (15, .bool z111)
      refine TD.vals [] (by kernel_rfl) [12] [] [] [6, 7, 10, 11, 12, 13, 14, 15, 16, 78, 79] [true, true, true, true, true, true, true, true, true, true, true, true, true, false, false] [z2, z6, (10, vP mb 0), z97, z100, z103, (14, vI kk), z115, (16, vP (n54 + 0) 0), z113, z114] [] [] (by kernel_rfl) (by kernel_rfl) mn an 2 rfl ?_
      refine TD.one 13 (by kernel_rfl) 1 rfl fun a_ hF_ hcl_ => ?_
      let z116 : Nat × Blk := ((n54 + 0), .lit [vI 0, vI 0, vI 0, vI 0] 49 (0, 0))
      refine OPJ.ev [] [.own 0, .own 0, .own 0, .own 0] [6, 7, 10, 11, 12, 13, 14, 15, 79] (fun _ => [z2, z6, (10, vP mb 0), z97, z100, z103, (14, vI kk), z115, z114]) (fun _ => (ap [z116, z102, z101, z95, z89, z83, z62, z41, z18, z90, z4] [T52, T38, T27, T16, T5])) (fun _ => [(n54 + 0), (n54 + 0), (n54 + 0), (n54 + 0)]) (fun _ => []) (fun _ => by kernel_rfl) mn (fun _ => an) (.inl ⟨[], fun _ => by kernel_rfl⟩) (.inl (by decide)) (fun _ => ?_) hF_ hcl_
      refine TD.vals [] (by kernel_rfl) [14] [] [] [6, 7, 10, 11, 12, 13, 14, 15] [true, true, true, true, true, true, true, true, true, true, true, true, true, true, true] [z2, z6, (10, vP mb 0), z97, z100, z103, (14, vI kk), z115] [] [] (by kernel_rfl) (by kernel_rfl) mn an 0 rfl ?_
      refine TD.fin (by kernel_rfl) (EX.np ?_)
      refine EX.next ?_
      refine TR.seq ?_
      refine TR.reg ?_
      refine TL.seg0 1 [] [] [6, 7, 10, 11, 12, 13, 14, 80] [z2, z6, (10, vP mb 0), z97, z100, z103, (14, vI kk), (80, .bool z111)] (ap [z116, z102, z101, z95, z89, z83, z62, z41, z18, z90, z4] [T52, T38, T27, T16, T5]) [] [] (fun _ => by kernel_rfl) mn an ?_
      refine TL.fin (by kernel_rfl) ?_
      refine EX.next ?_
      rcases Decidable.em ((trE (QD.G (⟨(-70000) + (around f0 30000), (((-70000) + (around f0 30000)) + 20000) + (around f1 30000), (((((-70000) + (around f0 30000)) + 20000) + (around f1 30000)) + 20000) + (around f2 30000), A3, A14, A25, A36, c4, c15, c26, c37, bb, c42, rest⟩ : QD) 1 (around version 9) (n49 + 0)) M_) = true) with h55 | h55
      · refine TR.yes (b := trE z104 M_) (by kernel_rfl) (by kernel_rfl) h55 ?_
        refine TR.seq ?_
        refine TR.reg ?_
        let z117 := updG z99 0 0 (vI 1)
        refine TL.seg0 3 [] [.ix 0, .row 2 0 0] [6, 7, 10, 11, 12, 13, 14] [z2, z6, (10, vP mb 0), z97, z100, z103, (14, vI kk)] (ap [z116, z102, (q48, .rows 1 ((z98).cs.length) z117 3 (0, 0)), z95, z89, z83, z62, z41, z18, z90, z4] [T52, T38, T27, T16, T5]) [q48] [(0 + 0 * 1) = 0 * 1 + 0 ∧ 0 < (((⟨(iniL (QD.S (⟨(-70000) + (around f0 30000), (((-70000) + (around f0 30000)) + 20000) + (around f1 30000), (((((-70000) + (around f0 30000)) + 20000) + (around f1 30000)) + 20000) + (around f2 30000), A3, A14, A25, A36, c4, c15, c26, c37, bb, c42, rest⟩ : QD) 1) ((QD.S (⟨(-70000) + (around f0 30000), (((-70000) + (around f0 30000)) + 20000) + (around f1 30000), (((((-70000) + (around f0 30000)) + 20000) + (around f1 30000)) + 20000) + (around f2 30000), A3, A14, A25, A36, c4, c15, c26, c37, bb, c42, rest⟩ : QD) 1)).nb), [], 0⟩ : MemS)).cs.length), 0 = ((0 : Nat) : Int) ∧ 0 < (((⟨(iniL (QD.S (⟨(-70000) + (around f0 30000), (((-70000) + (around f0 30000)) + 20000) + (around f1 30000), (((((-70000) + (around f0 30000)) + 20000) + (around f1 30000)) + 20000) + (around f2 30000), A3, A14, A25, A36, c4, c15, c26, c37, bb, c42, rest⟩ : QD) 1) ((QD.S (⟨(-70000) + (around f0 30000), (((-70000) + (around f0 30000)) + 20000) + (around f1 30000), (((((-70000) + (around f0 30000)) + 20000) + (around f1 30000)) + 20000) + (around f2 30000), A3, A14, A25, A36, c4, c15, c26, c37, bb, c42, rest⟩ : QD) 1)).nb), [], 0⟩ : MemS)).cs.length)] (fun _ => by kernel_rfl) mn (ac ⟨by omega, by omega⟩ (ac ⟨by omega, by omega⟩ an)) ?_
        refine TL.fin (by kernel_rfl) ?_
        refine EX.next ?_
        refine TR.seq ?_
        refine TR.reg ?_
        let z118 := updG z117 13 0 (vI z96)
        let z119 : Nat × Blk := (q48, .rows 1 ((z98).cs.length) z118 3 (0, 0))
        refine TL.seg0 4 [] [.ix 13, .row 2 13 0] [6, 7, 10, 11, 12, 13, 14] [z2, z6, (10, vP mb 0), z97, z100, z103, (14, vI kk)] (ap [z116, z102, z119, z95, z89, z83, z62, z41, z18, z90, z4] [T52, T38, T27, T16, T5]) [q48] [(0 + 13 * 1) = 13 * 1 + 0 ∧ 13 < (((⟨(iniL (QD.S (⟨(-70000) + (around f0 30000), (((-70000) + (around f0 30000)) + 20000) + (around f1 30000), (((((-70000) + (around f0 30000)) + 20000) + (around f1 30000)) + 20000) + (around f2 30000), A3, A14, A25, A36, c4, c15, c26, c37, bb, c42, rest⟩ : QD) 1) ((QD.S (⟨(-70000) + (around f0 30000), (((-70000) + (around f0 30000)) + 20000) + (around f1 30000), (((((-70000) + (around f0 30000)) + 20000) + (around f1 30000)) + 20000) + (around f2 30000), A3, A14, A25, A36, c4, c15, c26, c37, bb, c42, rest⟩ : QD) 1)).nb), [], 0⟩ : MemS)).cs.length), 13 = ((13 : Nat) : Int) ∧ 13 < (((⟨(iniL (QD.S (⟨(-70000) + (around f0 30000), (((-70000) + (around f0 30000)) + 20000) + (around f1 30000), (((((-70000) + (around f0 30000)) + 20000) + (around f1 30000)) + 20000) + (around f2 30000), A3, A14, A25, A36, c4, c15, c26, c37, bb, c42, rest⟩ : QD) 1) ((QD.S (⟨(-70000) + (around f0 30000), (((-70000) + (around f0 30000)) + 20000) + (around f1 30000), (((((-70000) + (around f0 30000)) + 20000) + (around f1 30000)) + 20000) + (around f2 30000), A3, A14, A25, A36, c4, c15, c26, c37, bb, c42, rest⟩ : QD) 1)).nb), [], 0⟩ : MemS)).cs.length)] (fun _ => by kernel_rfl) mn (ac ⟨by omega, by omega⟩ (ac ⟨by omega, by omega⟩ an)) ?_
        refine TL.fin (by kernel_rfl) ?_
        refine EX.next ?_
        refine TR.seq ?_
        refine TR.seq ?_
        refine TR.reg ?_
        refine TL.seg0 1 [] [] [6, 7, 10, 11, 12, 13, 14, 18] [z2, z6, (10, vP mb 0), z97, z100, z103, (14, vI kk), (18, vI 0)] (ap [z116, z102, z119, z95, z89, z83, z62, z41, z18, z90, z4] [T52, T38, T27, T16, T5]) [] [] (fun _ => by kernel_rfl) mn an ?_
        refine TL.fin (by kernel_rfl) ?_
        refine EX.next ?_
        refine TR.block ?_
        refine TR.rounds 4 ?_
        refine TR.seq ?_
        refine TR.seq ?_
        refine TR.reg ?_
        let z120 : Nat × Value := (87, .bool true)
        refine TL.seg0 2 [] [] [6, 7, 10, 11, 12, 13, 14, 18, 86, 87] [z2, z6, (10, vP mb 0), z97, z100, z103, (14, vI kk), (18, vI 0), (86, vI 0), z120] (ap [z116, z102, z119, z95, z89, z83, z62, z41, z18, z90, z4] [T52, T38, T27, T16, T5]) [] [] (fun _ => by kernel_rfl) mn an ?_
        refine TL.fin (by kernel_rfl) ?_
        refine EX.next ?_
        refine TR.yes (by kernel_rfl) (by kernel_rfl) (rfl : true = true) ?_
        refine TR.skip ?_
        refine EX.next ?_
        refine TR.seq ?_
        refine TR.block ?_
        refine TR.reg ?_
        let z121 : Nat × Value := (90, vS q48 0 ((z98).cs.length) ((z98).cs.length))
        let z122 : Nat × Value := (91, .agg #[vI 1, vS bb 0 4 c42, vI (-100000), vI (-100000), vI 100000, vI 100000, .slice none 0 0, .slice none 0 0, vI 0, vI 0, vI 0, vI 0, vI 0, vI 0, vI 2, vI 0])
        refine TL.seg0 3 [] [.own 9, .own 9, .own 9, .own 9, .own 9, .own 9, .own 9, .own 9, .own 9, .own 9, .own 9, .own 9, .own 9, .own 9, .own 9, .own 9] [6, 7, 10, 11, 12, 13, 14, 18, 86, 87, 90, 91, 92] [z2, z6, (10, vP mb 0), z97, z100, z103, (14, vI kk), (18, vI 0), (86, vI 0), z120, z121, z122, (92, vI 0)] (ap [z116, z102, z119, z95, z89, z83, z62, z41, z18, z90, z4] [T52, T38, T27, T16, T5]) [(n2 + 0), (n2 + 0), (n2 + 0), (n2 + 0), (n2 + 0), (n2 + 0), (n2 + 0), (n2 + 0), (n2 + 0), (n2 + 0), (n2 + 0), (n2 + 0), (n2 + 0), (n2 + 0), (n2 + 0), (n2 + 0)] [] (fun _ => by kernel_rfl) mn an ?_
        refine TL.callp (dst := (some 93)) (f := 14) (args := #[.agg #[vI 1, vS bb 0 4 c42, vI (-100000), vI (-100000), vI 100000, vI 100000, .slice none 0 0, .slice none 0 0, vI 0, vI 0, vI 0, vI 0, vI 0, vI 0, vI 2, vI 0], vI 0]) (H1 := (ap [z116, z102, z119, z95, z89, z83, z62, z41, z18, z90, z4] [T52, T38, T27, T16, T5])) (E := []) (Ob := []) [] [] [6, 7, 10, 11, 12, 13, 14, 18, 86, 87, 90, 91, 92, 93] (vI 52) [z2, z6, (10, vP mb 0), z97, z100, z103, (14, vI kk), (18, vI 0), (86, vI 0), z120, z121, z122, (92, vI 0), (93, vI 52)] (fun _ => by kernel_rfl) mn an (lit_p (by kernel_rfl) (rbody_any z91 0 _ (qsetN z88 1))) (by kernel_rfl) ?_
        let z123 : Nat × Value := (95, vP q48 (0 + 59 * 1))
        let z124 := updG z118 59 0 (vI 1)
        let z125 : Nat × Blk := (q48, .rows 1 ((z98).cs.length) z124 3 (0, 0))
        refine TL.seg0 3 [] [.ix 59, .row 2 59 0] [6, 7, 10, 11, 12, 13, 14, 18, 86, 87, 90, 91, 92, 93, 94, 95] [z2, z6, (10, vP mb 0), z97, z100, z103, (14, vI kk), (18, vI 0), (86, vI 0), z120, z121, z122, (92, vI 0), (93, vI 52), (94, vI 59), z123] (ap [z116, z102, z125, z95, z89, z83, z62, z41, z18, z90, z4] [T52, T38, T27, T16, T5]) [q48] [(0 + 59 * 1) = 59 * 1 + 0 ∧ 59 < (((⟨(iniL (QD.S (⟨(-70000) + (around f0 30000), (((-70000) + (around f0 30000)) + 20000) + (around f1 30000), (((((-70000) + (around f0 30000)) + 20000) + (around f1 30000)) + 20000) + (around f2 30000), A3, A14, A25, A36, c4, c15, c26, c37, bb, c42, rest⟩ : QD) 1) ((QD.S (⟨(-70000) + (around f0 30000), (((-70000) + (around f0 30000)) + 20000) + (around f1 30000), (((((-70000) + (around f0 30000)) + 20000) + (around f1 30000)) + 20000) + (around f2 30000), A3, A14, A25, A36, c4, c15, c26, c37, bb, c42, rest⟩ : QD) 1)).nb), [], 0⟩ : MemS)).cs.length), 59 = ((59 : Nat) : Int) ∧ 59 < (((⟨(iniL (QD.S (⟨(-70000) + (around f0 30000), (((-70000) + (around f0 30000)) + 20000) + (around f1 30000), (((((-70000) + (around f0 30000)) + 20000) + (around f1 30000)) + 20000) + (around f2 30000), A3, A14, A25, A36, c4, c15, c26, c37, bb, c42, rest⟩ : QD) 1) ((QD.S (⟨(-70000) + (around f0 30000), (((-70000) + (around f0 30000)) + 20000) + (around f1 30000), (((((-70000) + (around f0 30000)) + 20000) + (around f1 30000)) + 20000) + (around f2 30000), A3, A14, A25, A36, c4, c15, c26, c37, bb, c42, rest⟩ : QD) 1)).nb), [], 0⟩ : MemS)).cs.length)] (fun _ => by kernel_rfl) mn (ac ⟨by omega, by omega⟩ (ac ⟨by omega, by omega⟩ an)) ?_
        refine TL.fin (by kernel_rfl) ?_
        refine EX.inn ?_
        refine EX.next ?_
        refine TR.reg ?_
        refine TL.seg0 3 [] [] [6, 7, 10, 11, 12, 13, 14, 18, 86, 87, 88, 89, 90, 91, 92, 93, 94, 95] [z2, z6, (10, vP mb 0), z97, z100, z103, (14, vI kk), (18, vI 1), (86, vI 0), z120, (88, vI 0), (89, vI 1), z121, z122, (92, vI 0), (93, vI 52), (94, vI 59), z123] (ap [z116, z102, z125, z95, z89, z83, z62, z41, z18, z90, z4] [T52, T38, T27, T16, T5]) [] [] (fun _ => by kernel_rfl) mn an ?_
        refine TL.fin (by kernel_rfl) ?_
        refine EX.round ?_
        refine TR.seq ?_
        refine TR.seq ?_
        refine TR.reg ?_
        refine TL.seg0 2 [] [] [6, 7, 10, 11, 12, 13, 14, 18, 86, 87, 88, 89, 90, 91, 92, 93, 94, 95] [z2, z6, (10, vP mb 0), z97, z100, z103, (14, vI kk), (18, vI 1), (86, vI 1), z120, (88, vI 0), (89, vI 1), z121, z122, (92, vI 0), (93, vI 52), (94, vI 59), z123] (ap [z116, z102, z125, z95, z89, z83, z62, z41, z18, z90, z4] [T52, T38, T27, T16, T5]) [] [] (fun _ => by kernel_rfl) mn an ?_
        refine TL.fin (by kernel_rfl) ?_
        refine EX.next ?_
        refine TR.yes (by kernel_rfl) (by kernel_rfl) (rfl : true = true) ?_
        refine TR.skip ?_
        refine EX.next ?_
        refine TR.seq ?_
        refine TR.block ?_
        refine TR.reg ?_
        refine TL.seg0 3 [] [.own 9, .own 9, .own 9, .own 9, .own 9, .own 9, .own 9, .own 9, .own 9, .own 9, .own 9, .own 9, .own 9, .own 9, .own 9, .own 9] [6, 7, 10, 11, 12, 13, 14, 18, 86, 87, 88, 89, 90, 91, 92, 93, 94, 95] [z2, z6, (10, vP mb 0), z97, z100, z103, (14, vI kk), (18, vI 1), (86, vI 1), z120, (88, vI 0), (89, vI 1), z121, z122, (92, vI 1), (93, vI 52), (94, vI 59), z123] (ap [z116, z102, z125, z95, z89, z83, z62, z41, z18, z90, z4] [T52, T38, T27, T16, T5]) [(n2 + 0), (n2 + 0), (n2 + 0), (n2 + 0), (n2 + 0), (n2 + 0), (n2 + 0), (n2 + 0), (n2 + 0), (n2 + 0), (n2 + 0), (n2 + 0), (n2 + 0), (n2 + 0), (n2 + 0), (n2 + 0)] [] (fun _ => by kernel_rfl) mn an ?_
        refine TL.callp (dst := (some 93)) (f := 14) (args := #[.agg #[vI 1, vS bb 0 4 c42, vI (-100000), vI (-100000), vI 100000, vI 100000, .slice none 0 0, .slice none 0 0, vI 0, vI 0, vI 0, vI 0, vI 0, vI 0, vI 2, vI 0], vI 1]) (H1 := (ap [z116, z102, z125, z95, z89, z83, z62, z41, z18, z90, z4] [T52, T38, T27, T16, T5])) (E := []) (Ob := []) [] [] [6, 7, 10, 11, 12, 13, 14, 18, 86, 87, 88, 89, 90, 91, 92, 93, 94, 95] (vI 60) [z2, z6, (10, vP mb 0), z97, z100, z103, (14, vI kk), (18, vI 1), (86, vI 1), z120, (88, vI 0), (89, vI 1), z121, z122, (92, vI 1), (93, vI 60), (94, vI 59), z123] (fun _ => by kernel_rfl) mn an (lit_p (by kernel_rfl) (rbody_any z91 1 _ (qsetN z88 1))) (by kernel_rfl) ?_
        let z126 : Nat × Value := (95, vP q48 (0 + 67 * 1))
        let z127 := updG z124 67 0 (vI 1)
        let z128 : Nat × Blk := (q48, .rows 1 ((z98).cs.length) z127 3 (0, 0))
        refine TL.seg0 3 [] [.ix 67, .row 2 67 0] [6, 7, 10, 11, 12, 13, 14, 18, 86, 87, 88, 89, 90, 91, 92, 93, 94, 95] [z2, z6, (10, vP mb 0), z97, z100, z103, (14, vI kk), (18, vI 1), (86, vI 1), z120, (88, vI 0), (89, vI 1), z121, z122, (92, vI 1), (93, vI 60), (94, vI 67), z126] (ap [z116, z102, z128, z95, z89, z83, z62, z41, z18, z90, z4] [T52, T38, T27, T16, T5]) [q48] [(0 + 67 * 1) = 67 * 1 + 0 ∧ 67 < (((⟨(iniL (QD.S (⟨(-70000) + (around f0 30000), (((-70000) + (around f0 30000)) + 20000) + (around f1 30000), (((((-70000) + (around f0 30000)) + 20000) + (around f1 30000)) + 20000) + (around f2 30000), A3, A14, A25, A36, c4, c15, c26, c37, bb, c42, rest⟩ : QD) 1) ((QD.S (⟨(-70000) + (around f0 30000), (((-70000) + (around f0 30000)) + 20000) + (around f1 30000), (((((-70000) + (around f0 30000)) + 20000) + (around f1 30000)) + 20000) + (around f2 30000), A3, A14, A25, A36, c4, c15, c26, c37, bb, c42, rest⟩ : QD) 1)).nb), [], 0⟩ : MemS)).cs.length), 67 = ((67 : Nat) : Int) ∧ 67 < (((⟨(iniL (QD.S (⟨(-70000) + (around f0 30000), (((-70000) + (around f0 30000)) + 20000) + (around f1 30000), (((((-70000) + (around f0 30000)) + 20000) + (around f1 30000)) + 20000) + (around f2 30000), A3, A14, A25, A36, c4, c15, c26, c37, bb, c42, rest⟩ : QD) 1) ((QD.S (⟨(-70000) + (around f0 30000), (((-70000) + (around f0 30000)) + 20000) + (around f1 30000), (((((-70000) + (around f0 30000)) + 20000) + (around f1 30000)) + 20000) + (around f2 30000), A3, A14, A25, A36, c4, c15, c26, c37, bb, c42, rest⟩ : QD) 1)).nb), [], 0⟩ : MemS)).cs.length)] (fun _ => by kernel_rfl) mn (ac ⟨by omega, by omega⟩ (ac ⟨by omega, by omega⟩ an)) ?_
        refine TL.fin (by kernel_rfl) ?_
        refine EX.inn ?_
        refine EX.next ?_
        refine TR.reg ?_
        refine TL.seg0 3 [] [] [6, 7, 10, 11, 12, 13, 14, 18, 86, 87, 88, 89, 90, 91, 92, 93, 94, 95] [z2, z6, (10, vP mb 0), z97, z100, z103, (14, vI kk), (18, vI 2), (86, vI 1), z120, (88, vI 1), (89, vI 2), z121, z122, (92, vI 1), (93, vI 60), (94, vI 67), z126] (ap [z116, z102, z128, z95, z89, z83, z62, z41, z18, z90, z4] [T52, T38, T27, T16, T5]) [] [] (fun _ => by kernel_rfl) mn an ?_
        refine TL.fin (by kernel_rfl) ?_
        refine EX.round ?_
        refine TR.seq ?_
        refine TR.seq ?_
        refine TR.reg ?_
        refine TL.seg0 2 [] [] [6, 7, 10, 11, 12, 13, 14, 18, 86, 87, 88, 89, 90, 91, 92, 93, 94, 95] [z2, z6, (10, vP mb 0), z97, z100, z103, (14, vI kk), (18, vI 2), (86, vI 2), z120, (88, vI 1), (89, vI 2), z121, z122, (92, vI 1), (93, vI 60), (94, vI 67), z126] (ap [z116, z102, z128, z95, z89, z83, z62, z41, z18, z90, z4] [T52, T38, T27, T16, T5]) [] [] (fun _ => by kernel_rfl) mn an ?_
        refine TL.fin (by kernel_rfl) ?_
        refine EX.next ?_
        refine TR.yes (by kernel_rfl) (by kernel_rfl) (rfl : true = true) ?_
        refine TR.skip ?_
        refine EX.next ?_
        refine TR.seq ?_
        refine TR.block ?_
        refine TR.reg ?_
        refine TL.seg0 3 [] [.own 9, .own 9, .own 9, .own 9, .own 9, .own 9, .own 9, .own 9, .own 9, .own 9, .own 9, .own 9, .own 9, .own 9, .own 9, .own 9] [6, 7, 10, 11, 12, 13, 14, 18, 86, 87, 88, 89, 90, 91, 92, 93, 94, 95] [z2, z6, (10, vP mb 0), z97, z100, z103, (14, vI kk), (18, vI 2), (86, vI 2), z120, (88, vI 1), (89, vI 2), z121, z122, (92, vI 2), (93, vI 60), (94, vI 67), z126] (ap [z116, z102, z128, z95, z89, z83, z62, z41, z18, z90, z4] [T52, T38, T27, T16, T5]) [(n2 + 0), (n2 + 0), (n2 + 0), (n2 + 0), (n2 + 0), (n2 + 0), (n2 + 0), (n2 + 0), (n2 + 0), (n2 + 0), (n2 + 0), (n2 + 0), (n2 + 0), (n2 + 0), (n2 + 0), (n2 + 0)] [] (fun _ => by kernel_rfl) mn an ?_
        refine TL.callp (dst := (some 93)) (f := 14) (args := #[.agg #[vI 1, vS bb 0 4 c42, vI (-100000), vI (-100000), vI 100000, vI 100000, .slice none 0 0, .slice none 0 0, vI 0, vI 0, vI 0, vI 0, vI 0, vI 0, vI 2, vI 0], vI 2]) (H1 := (ap [z116, z102, z128, z95, z89, z83, z62, z41, z18, z90, z4] [T52, T38, T27, T16, T5])) (E := []) (Ob := []) [] [] [6, 7, 10, 11, 12, 13, 14, 18, 86, 87, 88, 89, 90, 91, 92, 93, 94, 95] (vI 68) [z2, z6, (10, vP mb 0), z97, z100, z103, (14, vI kk), (18, vI 2), (86, vI 2), z120, (88, vI 1), (89, vI 2), z121, z122, (92, vI 2), (93, vI 68), (94, vI 67), z126] (fun _ => by kernel_rfl) mn an (lit_p (by kernel_rfl) (rbody_any z91 2 _ (qsetN z88 1))) (by kernel_rfl) ?_
        let z129 : Nat × Value := (95, vP q48 (0 + 75 * 1))
        let z130 := updG z127 75 0 (vI 1)
        let z131 : Nat × Blk := (q48, .rows 1 ((z98).cs.length) z130 3 (0, 0))
        refine TL.seg0 3 [] [.ix 75, .row 2 75 0] [6, 7, 10, 11, 12, 13, 14, 18, 86, 87, 88, 89, 90, 91, 92, 93, 94, 95] [z2, z6, (10, vP mb 0), z97, z100, z103, (14, vI kk), (18, vI 2), (86, vI 2), z120, (88, vI 1), (89, vI 2), z121, z122, (92, vI 2), (93, vI 68), (94, vI 75), z129] (ap [z116, z102, z131, z95, z89, z83, z62, z41, z18, z90, z4] [T52, T38, T27, T16, T5]) [q48] [(0 + 75 * 1) = 75 * 1 + 0 ∧ 75 < (((⟨(iniL (QD.S (⟨(-70000) + (around f0 30000), (((-70000) + (around f0 30000)) + 20000) + (around f1 30000), (((((-70000) + (around f0 30000)) + 20000) + (around f1 30000)) + 20000) + (around f2 30000), A3, A14, A25, A36, c4, c15, c26, c37, bb, c42, rest⟩ : QD) 1) ((QD.S (⟨(-70000) + (around f0 30000), (((-70000) + (around f0 30000)) + 20000) + (around f1 30000), (((((-70000) + (around f0 30000)) + 20000) + (around f1 30000)) + 20000) + (around f2 30000), A3, A14, A25, A36, c4, c15, c26, c37, bb, c42, rest⟩ : QD) 1)).nb), [], 0⟩ : MemS)).cs.length), 75 = ((75 : Nat) : Int) ∧ 75 < (((⟨(iniL (QD.S (⟨(-70000) + (around f0 30000), (((-70000) + (around f0 30000)) + 20000) + (around f1 30000), (((((-70000) + (around f0 30000)) + 20000) + (around f1 30000)) + 20000) + (around f2 30000), A3, A14, A25, A36, c4, c15, c26, c37, bb, c42, rest⟩ : QD) 1) ((QD.S (⟨(-70000) + (around f0 30000), (((-70000) + (around f0 30000)) + 20000) + (around f1 30000), (((((-70000) + (around f0 30000)) + 20000) + (around f1 30000)) + 20000) + (around f2 30000), A3, A14, A25, A36, c4, c15, c26, c37, bb, c42, rest⟩ : QD) 1)).nb), [], 0⟩ : MemS)).cs.length)] (fun _ => by kernel_rfl) mn (ac ⟨by omega, by omega⟩ (ac ⟨by omega, by omega⟩ an)) ?_
        refine TL.fin (by kernel_rfl) ?_
        refine EX.inn ?_
        refine EX.next ?_
        refine TR.reg ?_
        refine TL.seg0 3 [] [] [6, 7, 10, 11, 12, 13, 14, 18, 86, 87, 88, 89, 90, 91, 92, 93, 94, 95] [z2, z6, (10, vP mb 0), z97, z100, z103, (14, vI kk), (18, vI 3), (86, vI 2), z120, (88, vI 2), (89, vI 3), z121, z122, (92, vI 2), (93, vI 68), (94, vI 75), z129] (ap [z116, z102, z131, z95, z89, z83, z62, z41, z18, z90, z4] [T52, T38, T27, T16, T5]) [] [] (fun _ => by kernel_rfl) mn an ?_
        refine TL.fin (by kernel_rfl) ?_
        refine EX.round ?_
        refine TR.seq ?_
        refine TR.seq ?_
        refine TR.reg ?_
        refine TL.seg0 2 [] [] [6, 7, 10, 11, 12, 13, 14, 18, 86, 87, 88, 89, 90, 91, 92, 93, 94, 95] [z2, z6, (10, vP mb 0), z97, z100, z103, (14, vI kk), (18, vI 3), (86, vI 3), z120, (88, vI 2), (89, vI 3), z121, z122, (92, vI 2), (93, vI 68), (94, vI 75), z129] (ap [z116, z102, z131, z95, z89, z83, z62, z41, z18, z90, z4] [T52, T38, T27, T16, T5]) [] [] (fun _ => by kernel_rfl) mn an ?_
        refine TL.fin (by kernel_rfl) ?_
        refine EX.next ?_
        refine TR.yes (by kernel_rfl) (by kernel_rfl) (rfl : true = true) ?_
        refine TR.skip ?_
        refine EX.next ?_
        refine TR.seq ?_
        refine TR.block ?_
        refine TR.reg ?_
        refine TL.seg0 3 [] [.own 9, .own 9, .own 9, .own 9, .own 9, .own 9, .own 9, .own 9, .own 9, .own 9, .own 9, .own 9, .own 9, .own 9, .own 9, .own 9] [6, 7, 10, 11, 12, 13, 14, 18, 86, 87, 88, 89, 90, 91, 92, 93, 94, 95] [z2, z6, (10, vP mb 0), z97, z100, z103, (14, vI kk), (18, vI 3), (86, vI 3), z120, (88, vI 2), (89, vI 3), z121, z122, (92, vI 3), (93, vI 68), (94, vI 75), z129] (ap [z116, z102, z131, z95, z89, z83, z62, z41, z18, z90, z4] [T52, T38, T27, T16, T5]) [(n2 + 0), (n2 + 0), (n2 + 0), (n2 + 0), (n2 + 0), (n2 + 0), (n2 + 0), (n2 + 0), (n2 + 0), (n2 + 0), (n2 + 0), (n2 + 0), (n2 + 0), (n2 + 0), (n2 + 0), (n2 + 0)] [] (fun _ => by kernel_rfl) mn an ?_
        refine TL.callp (dst := (some 93)) (f := 14) (args := #[.agg #[vI 1, vS bb 0 4 c42, vI (-100000), vI (-100000), vI 100000, vI 100000, .slice none 0 0, .slice none 0 0, vI 0, vI 0, vI 0, vI 0, vI 0, vI 0, vI 2, vI 0], vI 3]) (H1 := (ap [z116, z102, z131, z95, z89, z83, z62, z41, z18, z90, z4] [T52, T38, T27, T16, T5])) (E := []) (Ob := []) [] [] [6, 7, 10, 11, 12, 13, 14, 18, 86, 87, 88, 89, 90, 91, 92, 93, 94, 95] (vI 76) [z2, z6, (10, vP mb 0), z97, z100, z103, (14, vI kk), (18, vI 3), (86, vI 3), z120, (88, vI 2), (89, vI 3), z121, z122, (92, vI 3), (93, vI 76), (94, vI 75), z129] (fun _ => by kernel_rfl) mn an (lit_p (by kernel_rfl) (rbody_any z91 3 _ (qsetN z88 1))) (by kernel_rfl) ?_
        let z132 : Nat × Value := (95, vP q48 (0 + 83 * 1))
        let z133 : Nat × Blk := (q48, .rows 1 ((z98).cs.length) (updG z130 83 0 (vI 1)) 3 (0, 0))
        refine TL.seg0 3 [] [.ix 83, .row 2 83 0] [6, 7, 10, 11, 12, 13, 14, 18, 86, 87, 88, 89, 90, 91, 92, 93, 94, 95] [z2, z6, (10, vP mb 0), z97, z100, z103, (14, vI kk), (18, vI 3), (86, vI 3), z120, (88, vI 2), (89, vI 3), z121, z122, (92, vI 3), (93, vI 76), (94, vI 83), z132] (ap [z116, z102, z133, z95, z89, z83, z62, z41, z18, z90, z4] [T52, T38, T27, T16, T5]) [q48] [(0 + 83 * 1) = 83 * 1 + 0 ∧ 83 < (((⟨(iniL (QD.S (⟨(-70000) + (around f0 30000), (((-70000) + (around f0 30000)) + 20000) + (around f1 30000), (((((-70000) + (around f0 30000)) + 20000) + (around f1 30000)) + 20000) + (around f2 30000), A3, A14, A25, A36, c4, c15, c26, c37, bb, c42, rest⟩ : QD) 1) ((QD.S (⟨(-70000) + (around f0 30000), (((-70000) + (around f0 30000)) + 20000) + (around f1 30000), (((((-70000) + (around f0 30000)) + 20000) + (around f1 30000)) + 20000) + (around f2 30000), A3, A14, A25, A36, c4, c15, c26, c37, bb, c42, rest⟩ : QD) 1)).nb), [], 0⟩ : MemS)).cs.length), 83 = ((83 : Nat) : Int) ∧ 83 < (((⟨(iniL (QD.S (⟨(-70000) + (around f0 30000), (((-70000) + (around f0 30000)) + 20000) + (around f1 30000), (((((-70000) + (around f0 30000)) + 20000) + (around f1 30000)) + 20000) + (around f2 30000), A3, A14, A25, A36, c4, c15, c26, c37, bb, c42, rest⟩ : QD) 1) ((QD.S (⟨(-70000) + (around f0 30000), (((-70000) + (around f0 30000)) + 20000) + (around f1 30000), (((((-70000) + (around f0 30000)) + 20000) + (around f1 30000)) + 20000) + (around f2 30000), A3, A14, A25, A36, c4, c15, c26, c37, bb, c42, rest⟩ : QD) 1)).nb), [], 0⟩ : MemS)).cs.length)] (fun _ => by kernel_rfl) mn (ac ⟨by omega, by omega⟩ (ac ⟨by omega, by omega⟩ an)) ?_
        refine TL.fin (by kernel_rfl) ?_
        refine EX.inn ?_
        refine EX.next ?_
        refine TR.reg ?_
        refine TL.seg0 3 [] [] [6, 7, 10, 11, 12, 13, 14, 18, 86, 87, 88, 89, 90, 91, 92, 93, 94, 95] [z2, z6, (10, vP mb 0), z97, z100, z103, (14, vI kk), (18, vI 4), (86, vI 3), z120, (88, vI 3), (89, vI 4), z121, z122, (92, vI 3), (93, vI 76), (94, vI 83), z132] (ap [z116, z102, z133, z95, z89, z83, z62, z41, z18, z90, z4] [T52, T38, T27, T16, T5]) [] [] (fun _ => by kernel_rfl) mn an ?_
        refine TL.fin (by kernel_rfl) ?_
        refine EX.round ?_
        refine TR.seq ?_
        refine TR.seq ?_
        refine TR.reg ?_
        refine TL.seg0 2 [] [] [6, 7, 10, 11, 12, 13, 14, 18, 86, 87, 88, 89, 90, 91, 92, 93, 94, 95] [z2, z6, (10, vP mb 0), z97, z100, z103, (14, vI kk), (18, vI 4), (86, vI 4), (87, .bool false), (88, vI 3), (89, vI 4), z121, z122, (92, vI 3), (93, vI 76), (94, vI 83), z132] (ap [z116, z102, z133, z95, z89, z83, z62, z41, z18, z90, z4] [T52, T38, T27, T16, T5]) [] [] (fun _ => by kernel_rfl) mn an ?_
        refine TL.fin (by kernel_rfl) ?_
        refine EX.next ?_
        refine TR.no (by kernel_rfl) (by kernel_rfl) (rfl : false = false) ?_
        refine TR.exit ?_
        refine EX.thn (by simp) ?_
        refine EX.thn (by simp) ?_
        refine EX.hit ?_
        refine EX.next ?_
        refine TR.seq ?_
        refine TR.reg ?_
        refine TL.seg0 1 [] [] [6, 7, 10, 11, 12, 13, 14, 96] [z2, z6, (10, vP mb 0), z97, z100, z103, (14, vI kk), (96, vP mb 0)] (ap [z116, z102, z133, z95, z89, z83, z62, z41, z18, z90, z4] [T52, T38, T27, T16, T5]) [] [] (fun _ => by kernel_rfl) mn an ?_
        let z134 := irow ((z110 : MemS)).cs
        refine TL.callT (τ := Nat) [] [] (dst := (some 97)) (f := 10) (args := #[vP mb 0]) (A := [z116, z102, z133, z95, z89, z83, z62, z41, z18, z90, z4]) (Ts := [T52, T38, T27, T16, T5]) (E := []) (Ob := []) [] [0, 1, 2, 3, 4, 5, 6, 7, 8, 9, 10] [] [0, 1, 2, 3, 4] [6, 7, 10, 11, 12, 13, 14, 97] [] [z116, z102, z133, z95, z89, z83, z62, z41, z18, z90, z4] [] [T52, T38, T27, T16, T5] (fun q => [(q, .rows 1 (((z110 : MemS)).cs.length) z134 3 (0, 0))]) (fun _ => []) (fun v q => v = vS q 0 ((z110 : MemS)).cs.length ((z110 : MemS)).cs.length) (fun v_ => [z2, z6, (10, vP mb 0), z97, z100, z103, (14, vI kk), (97, v_)]) (fun _ => by kernel_rfl) mn an (by kernel_rfl) (by kernel_rfl) (by kernel_rfl) (by kernel_rfl) (by kernel_rfl) (by kernel_rfl) (fun _ => by kernel_rfl) (cells_any mb z110 _ T52 _ hM53 (sub_ap 0 rfl)) ?_
        rintro _ q56 rfl
        let z135 : Nat × Blk := (q56, .rows 1 (((z110 : MemS)).cs.length) z134 3 (0, 0))
        refine TL.seg0 1 [] [] [6, 7, 10, 11, 12, 13, 14, 97, 98] [z2, z6, (10, vP mb 0), z97, z100, z103, (14, vI kk), (97, vS q56 0 (((z110 : MemS)).cs.length) (((z110 : MemS)).cs.length)), (98, vS q48 0 ((z98).cs.length) ((z98).cs.length))] (ap [z135, z116, z102, z133, z95, z89, z83, z62, z41, z18, z90, z4] [T52, T38, T27, T16, T5]) [] [] (fun _ => by kernel_rfl) mn an ?_
        have er : r = 0 := by
          rcases hgood_.2 with ⟨e, _⟩ | ⟨e, _⟩
          · exact e
          · have hh : trE (QD.G (⟨(-70000) + (around f0 30000), (((-70000) + (around f0 30000)) + 20000) + (around f1 30000), (((((-70000) + (around f0 30000)) + 20000) + (around f1 30000)) + 20000) + (around f2 30000), A3, A14, A25, A36, c4, c15, c26, c37, bb, c42, rest⟩ : QD) 1 (around version 9) (n49 + 0)) M_ = true := by assumption
            rw [e] at hh; cases hh
        subst er
        have hE : (((trM (QD.G (⟨(-70000) + (around f0 30000), (((-70000) + (around f0 30000)) + 20000) + (around f1 30000), (((((-70000) + (around f0 30000)) + 20000) + (around f1 30000)) + 20000) + (around f2 30000), A3, A14, A25, A36, c4, c15, c26, c37, bb, c42, rest⟩ : QD) 1 (around version 9) (n49 + 0)) M_) : MemS)).cs = (wasQ (⟨(-70000) + (around f0 30000), (((-70000) + (around f0 30000)) + 20000) + (around f1 30000), (((((-70000) + (around f0 30000)) + 20000) + (around f1 30000)) + 20000) + (around f2 30000), A3, A14, A25, A36, c4, c15, c26, c37, bb, c42, rest⟩ : QD) 1 (around version 9)) := by
          have h1 : trM (QD.G (⟨(-70000) + (around f0 30000), (((-70000) + (around f0 30000)) + 20000) + (around f1 30000), (((((-70000) + (around f0 30000)) + 20000) + (around f1 30000)) + 20000) + (around f2 30000), A3, A14, A25, A36, c4, c15, c26, c37, bb, c42, rest⟩ : QD) 1 (around version 9) (n49 + 0)) M_ = runM (QD.G (⟨(-70000) + (around f0 30000), (((-70000) + (around f0 30000)) + 20000) + (around f1 30000), (((((-70000) + (around f0 30000)) + 20000) + (around f1 30000)) + 20000) + (around f2 30000), A3, A14, A25, A36, c4, c15, c26, c37, bb, c42, rest⟩ : QD) 1 (around version 9) (n49 + 0)) 50 (⟨iniL (QD.S (⟨(-70000) + (around f0 30000), (((-70000) + (around f0 30000)) + 20000) + (around f1 30000), (((((-70000) + (around f0 30000)) + 20000) + (around f1 30000)) + 20000) + (around f2 30000), A3, A14, A25, A36, c4, c15, c26, c37, bb, c42, rest⟩ : QD) 1) 4, [], 0⟩ : MemS) := hrun_
          show (trM (QD.G (⟨(-70000) + (around f0 30000), (((-70000) + (around f0 30000)) + 20000) + (around f1 30000), (((((-70000) + (around f0 30000)) + 20000) + (around f1 30000)) + 20000) + (around f2 30000), A3, A14, A25, A36, c4, c15, c26, c37, bb, c42, rest⟩ : QD) 1 (around version 9) (n49 + 0)) M_).cs = _
          rw [h1, hrun.2]
          exact q1_end _ _ _
        have hW : (updG (updG (updG (updG (updG (updG (irow ((⟨(iniL (QD.S (⟨(-70000) + (around f0 30000), (((-70000) + (around f0 30000)) + 20000) + (around f1 30000), (((((-70000) + (around f0 30000)) + 20000) + (around f1 30000)) + 20000) + (around f2 30000), A3, A14, A25, A36, c4, c15, c26, c37, bb, c42, rest⟩ : QD) 1) ((QD.S (⟨(-70000) + (around f0 30000), (((-70000) + (around f0 30000)) + 20000) + (around f1 30000), (((((-70000) + (around f0 30000)) + 20000) + (around f1 30000)) + 20000) + (around f2 30000), A3, A14, A25, A36, c4, c15, c26, c37, bb, c42, rest⟩ : QD) 1)).nb), [], 0⟩ : MemS)).cs) 0 0 (vI 1)) 13 0 (vI (around version 9))) 59 0 (vI 1)) 67 0 (vI 1)) 75 0 (vI 1)) 83 0 (vI 1)) = irow (wasQ (⟨(-70000) + (around f0 30000), (((-70000) + (around f0 30000)) + 20000) + (around f1 30000), (((((-70000) + (around f0 30000)) + 20000) + (around f1 30000)) + 20000) + (around f2 30000), A3, A14, A25, A36, c4, c15, c26, c37, bb, c42, rest⟩ : QD) 1 (around version 9)) := by
          rw [irow_set, irow_set, irow_set, irow_set, irow_set, irow_set]
          · kernel_rfl
          all_goals exact Nat.lt_of_lt_of_eq (m := 84) (by decide) (by kernel_rfl)
        have hL : (wasQ (⟨(-70000) + (around f0 30000), (((-70000) + (around f0 30000)) + 20000) + (around f1 30000), (((((-70000) + (around f0 30000)) + 20000) + (around f1 30000)) + 20000) + (around f2 30000), A3, A14, A25, A36, c4, c15, c26, c37, bb, c42, rest⟩ : QD) 1 (around version 9)).length = 84 := by kernel_rfl
        let z136 := irow (wasQ z88 1 z96)
        let z137 : Nat × Blk := (q56, .rows 1 (((z110 : MemS)).cs.length) z136 3 (0, 0))
        let z138 : Nat × Blk := (q48, .rows 1 ((z98).cs.length) z136 3 (0, 0))
        refine TL.convH (ap [z137, z116, z102, z138, z95, z89, z83, z62, z41, z18, z90, z4] [T52, T38, T27, T16, T5]) ((congrArg (fun g_ => (ap [z135, z116, z102, (q48, .rows 1 ((z98).cs.length) g_ 3 (0, 0)), z95, z89, z83, z62, z41, z18, z90, z4] [T52, T38, T27, T16, T5])) hW).trans (congrArg (fun c_ => (ap [(q56, .rows 1 (((z110 : MemS)).cs.length) (irow c_) 3 (0, 0)), z116, z102, z138, z95, z89, z83, z62, z41, z18, z90, z4] [T52, T38, T27, T16, T5])) hE)) ?_
        have hn2 : (wasQ (⟨(-70000) + (around f0 30000), (((-70000) + (around f0 30000)) + 20000) + (around f1 30000), (((((-70000) + (around f0 30000)) + 20000) + (around f1 30000)) + 20000) + (around f2 30000), A3, A14, A25, A36, c4, c15, c26, c37, bb, c42, rest⟩ : QD) 1 (around version 9)).length = (((trM (QD.G (⟨(-70000) + (around f0 30000), (((-70000) + (around f0 30000)) + 20000) + (around f1 30000), (((((-70000) + (around f0 30000)) + 20000) + (around f1 30000)) + 20000) + (around f2 30000), A3, A14, A25, A36, c4, c15, c26, c37, bb, c42, rest⟩ : QD) 1 (around version 9) (n49 + 0)) M_) : MemS)).cs.length := by rw [hE]
        have hn1 : (wasQ (⟨(-70000) + (around f0 30000), (((-70000) + (around f0 30000)) + 20000) + (around f1 30000), (((((-70000) + (around f0 30000)) + 20000) + (around f1 30000)) + 20000) + (around f2 30000), A3, A14, A25, A36, c4, c15, c26, c37, bb, c42, rest⟩ : QD) 1 (around version 9)).length = ((⟨(iniL (QD.S (⟨(-70000) + (around f0 30000), (((-70000) + (around f0 30000)) + 20000) + (around f1 30000), (((((-70000) + (around f0 30000)) + 20000) + (around f1 30000)) + 20000) + (around f2 30000), A3, A14, A25, A36, c4, c15, c26, c37, bb, c42, rest⟩ : QD) 1) ((QD.S (⟨(-70000) + (around f0 30000), (((-70000) + (around f0 30000)) + 20000) + (around f1 30000), (((((-70000) + (around f0 30000)) + 20000) + (around f1 30000)) + 20000) + (around f2 30000), A3, A14, A25, A36, c4, c15, c26, c37, bb, c42, rest⟩ : QD) 1)).nb), [], 0⟩ : MemS)).cs.length := by rw [hL, hl]
        have hn0 : (wasQ (⟨(-70000) + (around f0 30000), (((-70000) + (around f0 30000)) + 20000) + (around f1 30000), (((((-70000) + (around f0 30000)) + 20000) + (around f1 30000)) + 20000) + (around f2 30000), A3, A14, A25, A36, c4, c15, c26, c37, bb, c42, rest⟩ : QD) 1 (around version 9)).length ≤ 1000000 := by rw [hL]; decide
        refine TL.callp (dst := (some 99)) (f := 15) (args := #[vS q56 0 (((z110 : MemS)).cs.length) (((z110 : MemS)).cs.length), vS q48 0 ((z98).cs.length) ((z98).cs.length)]) (H1 := (ap [z137, z116, z102, z138, z95, z89, z83, z62, z41, z18, z90, z4] [T52, T38, T27, T16, T5])) (E := []) (Ob := []) [] [] [6, 7, 10, 11, 12, 13, 14, 99] (.bool true) [z2, z6, (10, vP mb 0), z97, z100, z103, (14, vI kk), (99, .bool true)] (fun _ => by kernel_rfl) mn an (same_n (in_ap 0 rfl) (in_ap 3 rfl) hn2 hn1 hn0) (by kernel_rfl) ?_
        let z139 : Nat × Value := (100, .bool true)
        refine TL.seg0 1 [] [] [6, 7, 10, 11, 12, 13, 14, 100] [z2, z6, (10, vP mb 0), z97, z100, z103, (14, vI kk), z139] (ap [z137, z116, z102, z138, z95, z89, z83, z62, z41, z18, z90, z4] [T52, T38, T27, T16, T5]) [] [] (fun _ => by kernel_rfl) mn an ?_
        refine TL.callp (dst := (some 101)) (f := 16) (args := #[]) (H1 := (ap [z137, z116, z102, z138, z95, z89, z83, z62, z41, z18, z90, z4] [T52, T38, T27, T16, T5])) (E := []) (Ob := []) [] [] [6, 7, 10, 11, 12, 13, 14, 100, 101] (.bool true) [z2, z6, (10, vP mb 0), z97, z100, z103, (14, vI kk), z139, (101, .bool true)] (fun _ => by kernel_rfl) mn an (lives_any _) (by kernel_rfl) ?_
        refine TL.seg0 2 [] [] [6, 7, 10, 11, 12, 13, 14] [(6, .bool true), z6, (10, vP mb 0), z97, z100, z103, (14, vI kk)] (ap [z137, z116, z102, z138, z95, z89, z83, z62, z41, z18, z90, z4] [T52, T38, T27, T16, T5]) [] [] (fun _ => by kernel_rfl) mn an ?_
        refine TL.fin (by kernel_rfl) ?_
        refine EX.next ?_
        refine TR.ret (A := [z137, z116, z102, z138, z95, z89, z83, z62, z41, z18, z90, z4]) (Ts := [T52, T38, T27, T16, T5]) (by exact fun _ _ h => h) rfl rfl [] [] (.bool true) [] [] (fun _ => by kernel_rfl) mn an [] [0, 1, 2, 3, 4, 5, 6, 7, 8, 9, 10, 11] [] [0, 1, 2, 3, 4] [] (by kernel_rfl) (by kernel_rfl) (by kernel_rfl) ?_
        exact ⟨rfl, rfl⟩
      · refine TR.no (b := trE z104 M_) (by kernel_rfl) (by kernel_rfl) (Bool.eq_false_iff.2 h55) ?_
        refine TR.skip ?_
        refine EX.inn ?_
        refine EX.next ?_
        refine TR.reg ?_
        refine TL.seg0 3 [] [.nw] [6, 7, 10, 11, 12, 13, 14] [z2, z6, (10, vP mb 0), z97, z100, z103, (14, vI (kk - 1))] (ap [z116, z102, z101, z95, z89, z83, z62, z41, z18, z90, z4] [T52, T38, T27, T16, T5]) [] [-9223372036854775808 ≤ kk - 1 ∧ kk - 1 ≤ 9223372036854775807] (fun _ => by kernel_rfl) mn (ac ⟨by omega, by omega⟩ an) ?_
        refine TL.fin (by kernel_rfl) ?_
        have hg2 := hgood_.2
        rcases hg2 with ⟨_, e_⟩ | ⟨_, hg2⟩
        · exact absurd e_ (by assumption)
        rcases r with _ | r
        · exact hg2.elim
        refine EX.meet (A := [z116, z102, z101, z95, z89, z83, z62, z41, z18, z90, z4]) (Ts := [T52, T38, T27, T16, T5]) (r, kk - 1, trM z104 M_, T52) ?_ [6, 7, 10, 11, 12, 13, 14] (by kernel_rfl) [1, 2, 3, 4, 5, 6, 7, 8, 9, 10] [0] [0, 1, 2, 3, 4] [] (by kernel_rfl) (by kernel_rfl) (by kernel_rfl)
        try dsimp only
        exact ⟨⟨by omega, hg2, hrun_, hM53.weak (by omega)⟩, by omega⟩
    · refine OPJ.ev [] [] [6, 7, 10, 11, 12, 13, 14, 16, 71, 72, 73, 74, 75] (fun n57 => [z2, z6, (10, vP mb 0), z97, z100, z103, (14, vI kk), (16, vP (n57 + 0) 0), z105, z106, z109, z107, z108]) (fun n57 => (ap [((n57 + 0), .lit [vI 0, vI 0, vI 0, vI 0] 49 (0, 0)), z102, z101, z95, z89, z83, z62, z41, z18, z90, z4] [T_, T38, T27, T16, T5])) (fun n57 => []) (fun n57 => []) (fun _ => by kernel_rfl) mn (fun n57 => an) (.inr ⟨by decide, fun n57 => ⟨[((n57 + 0), .lit [vI 0, vI 0, vI 0, vI 0] 49 (0, 0))], rfl⟩⟩) (.inr fun n57 => ⟨[((n57 + 0), .lit [vI 0, vI 0, vI 0, vI 0] 49 (0, 0))], rfl⟩) (fun n57 => ?_) hF_ hcl_
      refine TD.one 6 (by kernel_rfl) 7 rfl fun a_ hF_ hcl_ => ?_
      let z140 : Nat × Blk := ((n57 + 0), .lit [vI 0, vI 0, vI 0, vI 0] 49 (0, 0))
      let z141 := trM z104 M_
      let z142 := trE z104 M_
      let z143 : Nat × Value := (16, vP (n57 + 0) 0)
      refine OPJ.callT (τ := HL) [] [] (dst := (some 76)) (f := 12) (args := #[.iface 41 (vP mb 0), .agg #[vI 1, vS bb 0 4 c42, vI (-100000), vI (-100000), vI 100000, vI 100000, .slice none 0 0, .slice none 0 0, vI 0, vI 0, vI 0, vI 0, vI 0, vI 0, vI 2, vI 0], .agg #[.slice none 0 0, vI (-1), vI (-1), vI (-1)], vI z96, vS (n49 + 0) 0 1 1]) (A := [z140, z102, z101, z95, z89, z83, z62, z41, z18, z90, z4]) (Ts := [T_, T38, T27, T16, T5]) (E := []) (Ob := []) [] [0, 1, 2, 3, 4, 5, 6, 7, 8, 9, 10] [0] [1, 2, 3, 4] [6, 7, 10, 11, 12, 13, 14, 16, 76] [] [z140, z102, z101, z95, z89, z83, z62, z41, z18, z90, z4] [T_] [T38, T27, T16, T5] (fun _ => []) (fun x => [x]) (fun v x => MemH mb z141 (20 * r) x ∧ v = .tuple #[.bool z142, .agg #[vI 0, vI 0, vI 0, vI 0], .bool false]) (fun v_ => [z2, z6, (10, vP mb 0), z97, z100, z103, (14, vI kk), z143, (76, v_)]) (fun _ => by kernel_rfl) mn an (by kernel_rfl) (by kernel_rfl) (by kernel_rfl) (by kernel_rfl) (by kernel_rfl) (by kernel_rfl) (fun _ => by kernel_rfl) [] (.inl (by kernel_rfl)) (.inl (by decide)) (trans_any z104 mb M_ (20 * r) T_ _ hM_ ⟨(qset (d := z88) (p := 1) (by decide) (in_ap 4 rfl) hcap4 (hsh6 _ (sub_ap 3 rfl)) (hsh17 _ (sub_ap 2 rfl)) (hsh28 _ (sub_ap 1 rfl)) (hsh39 _ (sub_ap 0 rfl))), in_ap 1 rfl, Nat.le_of_ble_eq_true rfl, Nat.le_of_ble_eq_true rfl⟩ hgood_.1 z96 rfl) ?_ hF_ hcl_
      rintro _ T58 ⟨hM59, rfl⟩
      let z144 : Nat × Value := (15, .bool z142)
      let z145 : Nat × Value := (79, .bool false)
      refine TD.vals [] (by kernel_rfl) [7, 8, 9, 10, 12] [] [] [6, 7, 10, 11, 12, 13, 14, 15, 16, 78, 79] [true, true, true, true, true, true, true, true, true, true, true, true, true, false, false] [z2, z6, (10, vP mb 0), z97, z100, z103, (14, vI kk), z144, z143, (78, .agg #[vI 0, vI 0, vI 0, vI 0]), z145] [] [] (by kernel_rfl) (by kernel_rfl) mn an 2 rfl ?_
      refine TD.one 13 (by kernel_rfl) 1 rfl fun a_ hF_ hcl_ => ?_
      refine OPJ.ev [] [.own 0, .own 0, .own 0, .own 0] [6, 7, 10, 11, 12, 13, 14, 15, 79] (fun _ => [z2, z6, (10, vP mb 0), z97, z100, z103, (14, vI kk), z144, z145]) (fun _ => (ap [z140, z102, z101, z95, z89, z83, z62, z41, z18, z90, z4] [T58, T38, T27, T16, T5])) (fun _ => [(n57 + 0), (n57 + 0), (n57 + 0), (n57 + 0)]) (fun _ => []) (fun _ => by kernel_rfl) mn (fun _ => an) (.inl ⟨[], fun _ => by kernel_rfl⟩) (.inl (by decide)) (fun _ => ?_) hF_ hcl_
      refine TD.vals [] (by kernel_rfl) [14] [] [] [6, 7, 10, 11, 12, 13, 14, 15] [true, true, true, true, true, true, true, true, true, true, true, true, true, true, true] [z2, z6, (10, vP mb 0), z97, z100, z103, (14, vI kk), z144] [] [] (by kernel_rfl) (by kernel_rfl) mn an 0 rfl ?_
      refine TD.fin (by kernel_rfl) (EX.np ?_)
      refine EX.next ?_
      refine TR.seq ?_
      refine TR.reg ?_
      refine TL.seg0 1 [] [] [6, 7, 10, 11, 12, 13, 14, 80] [z2, z6, (10, vP mb 0), z97, z100, z103, (14, vI kk), (80, .bool z142)] (ap [z140, z102, z101, z95, z89, z83, z62, z41, z18, z90, z4] [T58, T38, T27, T16, T5]) [] [] (fun _ => by kernel_rfl) mn an ?_
      refine TL.fin (by kernel_rfl) ?_
      refine EX.next ?_
      rcases Decidable.em ((trE (QD.G (⟨(-70000) + (around f0 30000), (((-70000) + (around f0 30000)) + 20000) + (around f1 30000), (((((-70000) + (around f0 30000)) + 20000) + (around f1 30000)) + 20000) + (around f2 30000), A3, A14, A25, A36, c4, c15, c26, c37, bb, c42, rest⟩ : QD) 1 (around version 9) (n49 + 0)) M_) = true) with h60 | h60
      · refine TR.yes (b := trE z104 M_) (by kernel_rfl) (by kernel_rfl) h60 ?_
        refine TR.seq ?_
        refine TR.reg ?_
        let z146 := updG z99 0 0 (vI 1)
        refine TL.seg0 3 [] [.ix 0, .row 2 0 0] [6, 7, 10, 11, 12, 13, 14] [z2, z6, (10, vP mb 0), z97, z100, z103, (14, vI kk)] (ap [z140, z102, (q48, .rows 1 ((z98).cs.length) z146 3 (0, 0)), z95, z89, z83, z62, z41, z18, z90, z4] [T58, T38, T27, T16, T5]) [q48] [(0 + 0 * 1) = 0 * 1 + 0 ∧ 0 < (((⟨(iniL (QD.S (⟨(-70000) + (around f0 30000), (((-70000) + (around f0 30000)) + 20000) + (around f1 30000), (((((-70000) + (around f0 30000)) + 20000) + (around f1 30000)) + 20000) + (around f2 30000), A3, A14, A25, A36, c4, c15, c26, c37, bb, c42, rest⟩ : QD) 1) ((QD.S (⟨(-70000) + (around f0 30000), (((-70000) + (around f0 30000)) + 20000) + (around f1 30000), (((((-70000) + (around f0 30000)) + 20000) + (around f1 30000)) + 20000) + (around f2 30000), A3, A14, A25, A36, c4, c15, c26, c37, bb, c42, rest⟩ : QD) 1)).nb), [], 0⟩ : MemS)).cs.length), 0 = ((0 : Nat) : Int) ∧ 0 < (((⟨(iniL (QD.S (⟨(-70000) + (around f0 30000), (((-70000) + (around f0 30000)) + 20000) + (around f1 30000), (((((-70000) + (around f0 30000)) + 20000) + (around f1 30000)) + 20000) + (around f2 30000), A3, A14, A25, A36, c4, c15, c26, c37, bb, c42, rest⟩ : QD) 1) ((QD.S (⟨(-70000) + (around f0 30000), (((-70000) + (around f0 30000)) + 20000) + (around f1 30000), (((((-70000) + (around f0 30000)) + 20000) + (around f1 30000)) + 20000) + (around f2 30000), A3, A14, A25, A36, c4, c15, c26, c37, bb, c42, rest⟩ : QD) 1)).nb), [], 0⟩ : MemS)).cs.length)] (fun _ => by kernel_rfl) mn (ac ⟨by omega, by omega⟩ (ac ⟨by omega, by omega⟩ an)) ?_
        refine TL.fin (by kernel_rfl) ?_
        refine EX.next ?_
        refine TR.seq ?_
        refine TR.reg ?_
        let z147 := updG z146 13 0 (vI z96)
        let z148 : Nat × Blk := (q48, .rows 1 ((z98).cs.length) z147 3 (0, 0))
        refine TL.seg0 4 [] [.ix 13, .row 2 13 0] [6, 7, 10, 11, 12, 13, 14] [z2, z6, (10, vP mb 0), z97, z100, z103, (14, vI kk)] (ap [z140, z102, z148, z95, z89, z83, z62, z41, z18, z90, z4] [T58, T38, T27, T16, T5]) [q48] [(0 + 13 * 1) = 13 * 1 + 0 ∧ 13 < (((⟨(iniL (QD.S (⟨(-70000) + (around f0 30000), (((-70000) + (around f0 30000)) + 20000) + (around f1 30000), (((((-70000) + (around f0 30000)) + 20000) + (around f1 30000)) + 20000) + (around f2 30000), A3, A14, A25, A36, c4, c15, c26, c37, bb, c42, rest⟩ : QD) 1) ((QD.S (⟨(-70000) + (around f0 30000), (((-70000) + (around f0 30000)) + 20000) + (around f1 30000), (((((-70000) + (around f0 30000)) + 20000) + (around f1 30000)) + 20000) + (around f2 30000), A3, A14, A25, A36, c4, c15, c26, c37, bb, c42, rest⟩ : QD) 1)).nb), [], 0⟩ : MemS)).cs.length), 13 = ((13 : Nat) : Int) ∧ 13 < (((⟨(iniL (QD.S (⟨(-70000) + (around f0 30000), (((-70000) + (around f0 30000)) + 20000) + (around f1 30000), (((((-70000) + (around f0 30000)) + 20000) + (around f1 30000)) + 20000) + (around f2 30000), A3, A14, A25, A36, c4, c15, c26, c37, bb, c42, rest⟩ : QD) 1) ((QD.S (⟨(-70000) + (around f0 30000), (((-70000) + (around f0 30000)) + 20000) + (around f1 30000), (((((-70000) + (around f0 30000)) + 20000) + (around f1 30000)) + 20000) + (around f2 30000), A3, A14, A25, A36, c4, c15, c26, c37, bb, c42, rest⟩ : QD) 1)).nb), [], 0⟩ : MemS)).cs.length)] (fun _ => by kernel_rfl) mn (ac ⟨by omega, by omega⟩ (ac ⟨by omega, by omega⟩ an)) ?_
        refine TL.fin (by kernel_rfl) ?_
        refine EX.next ?_
        refine TR.seq ?_
        refine TR.seq ?_
        refine TR.reg ?_
        refine TL.seg0 1 [] [] [6, 7, 10, 11, 12, 13, 14, 18] [z2, z6, (10, vP mb 0), z97, z100, z103, (14, vI kk), (18, vI 0)] (ap [z140, z102, z148, z95, z89, z83, z62, z41, z18, z90, z4] [T58, T38, T27, T16, T5]) [] [] (fun _ => by kernel_rfl) mn an ?_
        refine TL.fin (by kernel_rfl) ?_
        refine EX.next ?_
        refine TR.block ?_
        refine TR.rounds 4 ?_
        refine TR.seq ?_
        refine TR.seq ?_
        refine TR.reg ?_
        let z149 : Nat × Value := (87, .bool true)
        refine TL.seg0 2 [] [] [6, 7, 10, 11, 12, 13, 14, 18, 86, 87] [z2, z6, (10, vP mb 0), z97, z100, z103, (14, vI kk), (18, vI 0), (86, vI 0), z149] (ap [z140, z102, z148, z95, z89, z83, z62, z41, z18, z90, z4] [T58, T38, T27, T16, T5]) [] [] (fun _ => by kernel_rfl) mn an ?_
        refine TL.fin (by kernel_rfl) ?_
        refine EX.next ?_
        refine TR.yes (by kernel_rfl) (by kernel_rfl) (rfl : true = true) ?_
        refine TR.skip ?_
        refine EX.next ?_
        refine TR.seq ?_
        refine TR.block ?_
        refine TR.reg ?_
        let z150 : Nat × Value := (90, vS q48 0 ((z98).cs.length) ((z98).cs.length))
        let z151 : Nat × Value := (91, .agg #[vI 1, vS bb 0 4 c42, vI (-100000), vI (-100000), vI 100000, vI 100000, .slice none 0 0, .slice none 0 0, vI 0, vI 0, vI 0, vI 0, vI 0, vI 0, vI 2, vI 0])
        refine TL.seg0 3 [] [.own 9, .own 9, .own 9, .own 9, .own 9, .own 9, .own 9, .own 9, .own 9, .own 9, .own 9, .own 9, .own 9, .own 9, .own 9, .own 9] [6, 7, 10, 11, 12, 13, 14, 18, 86, 87, 90, 91, 92] [z2, z6, (10, vP mb 0), z97, z100, z103, (14, vI kk), (18, vI 0), (86, vI 0), z149, z150, z151, (92, vI 0)] (ap [z140, z102, z148, z95, z89, z83, z62, z41, z18, z90, z4] [T58, T38, T27, T16, T5]) [(n2 + 0), (n2 + 0), (n2 + 0), (n2 + 0), (n2 + 0), (n2 + 0), (n2 + 0), (n2 + 0), (n2 + 0), (n2 + 0), (n2 + 0), (n2 + 0), (n2 + 0), (n2 + 0), (n2 + 0), (n2 + 0)] [] (fun _ => by kernel_rfl) mn an ?_
        refine TL.callp (dst := (some 93)) (f := 14) (args := #[.agg #[vI 1, vS bb 0 4 c42, vI (-100000), vI (-100000), vI 100000, vI 100000, .slice none 0 0, .slice none 0 0, vI 0, vI 0, vI 0, vI 0, vI 0, vI 0, vI 2, vI 0], vI 0]) (H1 := (ap [z140, z102, z148, z95, z89, z83, z62, z41, z18, z90, z4] [T58, T38, T27, T16, T5])) (E := []) (Ob := []) [] [] [6, 7, 10, 11, 12, 13, 14, 18, 86, 87, 90, 91, 92, 93] (vI 52) [z2, z6, (10, vP mb 0), z97, z100, z103, (14, vI kk), (18, vI 0), (86, vI 0), z149, z150, z151, (92, vI 0), (93, vI 52)] (fun _ => by kernel_rfl) mn an (lit_p (by kernel_rfl) (rbody_any z91 0 _ (qsetN z88 1))) (by kernel_rfl) ?_
        let z152 : Nat × Value := (95, vP q48 (0 + 59 * 1))
        let z153 := updG z147 59 0 (vI 1)
        let z154 : Nat × Blk := (q48, .rows 1 ((z98).cs.length) z153 3 (0, 0))
        refine TL.seg0 3 [] [.ix 59, .row 2 59 0] [6, 7, 10, 11, 12, 13, 14, 18, 86, 87, 90, 91, 92, 93, 94, 95] [z2, z6, (10, vP mb 0), z97, z100, z103, (14, vI kk), (18, vI 0), (86, vI 0), z149, z150, z151, (92, vI 0), (93, vI 52), (94, vI 59), z152] (ap [z140, z102, z154, z95, z89, z83, z62, z41, z18, z90, z4] [T58, T38, T27, T16, T5]) [q48] [(0 + 59 * 1) = 59 * 1 + 0 ∧ 59 < (((⟨(iniL (QD.S (⟨(-70000) + (around f0 30000), (((-70000) + (around f0 30000)) + 20000) + (around f1 30000), (((((-70000) + (around f0 30000)) + 20000) + (around f1 30000)) + 20000) + (around f2 30000), A3, A14, A25, A36, c4, c15, c26, c37, bb, c42, rest⟩ : QD) 1) ((QD.S (⟨(-70000) + (around f0 30000), (((-70000) + (around f0 30000)) + 20000) + (around f1 30000), (((((-70000) + (around f0 30000)) + 20000) + (around f1 30000)) + 20000) + (around f2 30000), A3, A14, A25, A36, c4, c15, c26, c37, bb, c42, rest⟩ : QD) 1)).nb), [], 0⟩ : MemS)).cs.length), 59 = ((59 : Nat) : Int) ∧ 59 < (((⟨(iniL (QD.S (⟨(-70000) + (around f0 30000), (((-70000) + (around f0 30000)) + 20000) + (around f1 30000), (((((-70000) + (around f0 30000)) + 20000) + (around f1 30000)) + 20000) + (around f2 30000), A3, A14, A25, A36, c4, c15, c26, c37, bb, c42, rest⟩ : QD) 1) ((QD.S (⟨(-70000) + (around f0 30000), (((-70000) + (around f0 30000)) + 20000) + (around f1 30000), (((((-70000) + (around f0 30000)) + 20000) + (around f1 30000)) + 20000) + (around f2 30000), A3, A14, A25, A36, c4, c15, c26, c37, bb, c42, rest⟩ : QD) 1)).nb), [], 0⟩ : MemS)).cs.length)] (fun _ => by kernel_rfl) mn (ac ⟨by omega, by omega⟩ (ac ⟨by omega, by omega⟩ an)) ?_
        refine TL.fin (by kernel_rfl) ?_
        refine EX.inn ?_
        refine EX.next ?_
        refine TR.reg ?_
        refine TL.seg0 3 [] [] [6, 7, 10, 11, 12, 13, 14, 18, 86, 87, 88, 89, 90, 91, 92, 93, 94, 95] [z2, z6, (10, vP mb 0), z97, z100, z103, (14, vI kk), (18, vI 1), (86, vI 0), z149, (88, vI 0), (89, vI 1), z150, z151, (92, vI 0), (93, vI 52), (94, vI 59), z152] (ap [z140, z102, z154, z95, z89, z83, z62, z41, z18, z90, z4] [T58, T38, T27, T16, T5]) [] [] (fun _ => by kernel_rfl) mn an ?_
        refine TL.fin (by kernel_rfl) ?_
        refine EX.round ?_
        refine TR.seq ?_
        refine TR.seq ?_
        refine TR.reg ?_
        refine TL.seg0 2 [] [] [6, 7, 10, 11, 12, 13, 14, 18, 86, 87, 88, 89, 90, 91, 92, 93, 94, 95] [z2, z6, (10, vP mb 0), z97, z100, z103, (14, vI kk), (18, vI 1), (86, vI 1), z149, (88, vI 0), (89, vI 1), z150, z151, (92, vI 0), (93, vI 52), (94, vI 59), z152] (ap [z140, z102, z154, z95, z89, z83, z62, z41, z18, z90, z4] [T58, T38, T27, T16, T5]) [] [] (fun _ => by kernel_rfl) mn an ?_
        refine TL.fin (by kernel_rfl) ?_
        refine EX.next ?_
        refine TR.yes (by kernel_rfl) (by kernel_rfl) (rfl : true = true) ?_
        refine TR.skip ?_
        refine EX.next ?_
        refine TR.seq ?_
        refine TR.block ?_
        refine TR.reg ?_
        refine TL.seg0 3 [] [.own 9, .own 9, .own 9, .own 9, .own 9, .own 9, .own 9, .own 9, .own 9, .own 9, .own 9, .own 9, .own 9, .own 9, .own 9, .own 9] [6, 7, 10, 11, 12, 13, 14, 18, 86, 87, 88, 89, 90, 91, 92, 93, 94, 95] [z2, z6, (10, vP mb 0), z97, z100, z103, (14, vI kk), (18, vI 1), (86, vI 1), z149, (88, vI 0), (89, vI 1), z150, z151, (92, vI 1), (93, vI 52), (94, vI 59), z152] (ap [z140, z102, z154, z95, z89, z83, z62, z41, z18, z90, z4] [T58, T38, T27, T16, T5]) [(n2 + 0), (n2 + 0), (n2 + 0), (n2 + 0), (n2 + 0), (n2 + 0), (n2 + 0), (n2 + 0), (n2 + 0), (n2 + 0), (n2 + 0), (n2 + 0), (n2 + 0), (n2 + 0), (n2 + 0), (n2 + 0)] [] (fun _ => by kernel_rfl) mn an ?_
        refine TL.callp (dst := (some 93)) (f := 14) (args := #[.agg #[vI 1, vS bb 0 4 c42, vI (-100000), vI (-100000), vI 100000, vI 100000, .slice none 0 0, .slice none 0 0, vI 0, vI 0, vI 0, vI 0, vI 0, vI 0, vI 2, vI 0], vI 1]) (H1 := (ap [z140, z102, z154, z95, z89, z83, z62, z41, z18, z90, z4] [T58, T38, T27, T16, T5])) (E := []) (Ob := []) [] [] [6, 7, 10, 11, 12, 13, 14, 18, 86, 87, 88, 89, 90, 91, 92, 93, 94, 95] (vI 60) [z2, z6, (10, vP mb 0), z97, z100, z103, (14, vI kk), (18, vI 1), (86, vI 1), z149, (88, vI 0), (89, vI 1), z150, z151, (92, vI 1), (93, vI 60), (94, vI 59), z152] (fun _ => by kernel_rfl) mn an (lit_p (by kernel_rfl) (rbody_any z91 1 _ (qsetN z88 1))) (by kernel_rfl) ?_
        let z155 : Nat × Value := (95, vP q48 (0 + 67 * 1))
        let z156 := updG z153 67 0 (vI 1)
        let z157 : Nat × Blk := (q48, .rows 1 ((z98).cs.length) z156 3 (0, 0))
        refine TL.seg0 3 [] [.ix 67, .row 2 67 0] [6, 7, 10, 11, 12, 13, 14, 18, 86, 87, 88, 89, 90, 91, 92, 93, 94, 95] [z2, z6, (10, vP mb 0), z97, z100, z103, (14, vI kk), (18, vI 1), (86, vI 1), z149, (88, vI 0), (89, vI 1), z150, z151, (92, vI 1), (93, vI 60), (94, vI 67), z155] (ap [z140, z102, z157, z95, z89, z83, z62, z41, z18, z90, z4] [T58, T38, T27, T16, T5]) [q48] [(0 + 67 * 1) = 67 * 1 + 0 ∧ 67 < (((⟨(iniL (QD.S (⟨(-70000) + (around f0 30000), (((-70000) + (around f0 30000)) + 20000) + (around f1 30000), (((((-70000) + (around f0 30000)) + 20000) + (around f1 30000)) + 20000) + (around f2 30000), A3, A14, A25, A36, c4, c15, c26, c37, bb, c42, rest⟩ : QD) 1) ((QD.S (⟨(-70000) + (around f0 30000), (((-70000) + (around f0 30000)) + 20000) + (around f1 30000), (((((-70000) + (around f0 30000)) + 20000) + (around f1 30000)) + 20000) + (around f2 30000), A3, A14, A25, A36, c4, c15, c26, c37, bb, c42, rest⟩ : QD) 1)).nb), [], 0⟩ : MemS)).cs.length), 67 = ((67 : Nat) : Int) ∧ 67 < (((⟨(iniL (QD.S (⟨(-70000) + (around f0 30000), (((-70000) + (around f0 30000)) + 20000) + (around f1 30000), (((((-70000) + (around f0 30000)) + 20000) + (around f1 30000)) + 20000) + (around f2 30000), A3, A14, A25, A36, c4, c15, c26, c37, bb, c42, rest⟩ : QD) 1) ((QD.S (⟨(-70000) + (around f0 30000), (((-70000) + (around f0 30000)) + 20000) + (around f1 30000), (((((-70000) + (around f0 30000)) + 20000) + (around f1 30000)) + 20000) + (around f2 30000), A3, A14, A25, A36, c4, c15, c26, c37, bb, c42, rest⟩ : QD) 1)).nb), [], 0⟩ : MemS)).cs.length)] (fun _ => by kernel_rfl) mn (ac ⟨by omega, by omega⟩ (ac ⟨by omega, by omega⟩ an)) ?_
        refine TL.fin (by kernel_rfl) ?_
        refine EX.inn ?_
        refine EX.next ?_
        refine TR.reg ?_
        refine TL.seg0 3 [] [] [6, 7, 10, 11, 12, 13, 14, 18, 86, 87, 88, 89, 90, 91, 92, 93, 94, 95] [z2, z6, (10, vP mb 0), z97, z100, z103, (14, vI kk), (18, vI 2), (86, vI 1), z149, (88, vI 1), (89, vI 2), z150, z151, (92, vI 1), (93, vI 60), (94, vI 67), z155] (ap [z140, z102, z157, z95, z89, z83, z62, z41, z18, z90, z4] [T58, T38, T27, T16, T5]) [] [] (fun _ => by kernel_rfl) mn an ?_
        refine TL.fin (by kernel_rfl) ?_
        refine EX.round ?_
        refine TR.seq ?_
        refine TR.seq ?_
        refine TR.reg ?_
        refine TL.seg0 2 [] [] [6, 7, 10, 11, 12, 13, 14, 18, 86, 87, 88, 89, 90, 91, 92, 93, 94, 95] [z2, z6, (10, vP mb 0), z97, z100, z103, (14, vI kk), (18, vI 2), (86, vI 2), z149, (88, vI 1), (89, vI 2), z150, z151, (92, vI 1), (93, vI 60), (94, vI 67), z155] (ap [z140, z102, z157, z95, z89, z83, z62, z41, z18, z90, z4] [T58, T38, T27, T16, T5]) [] [] (fun _ => by kernel_rfl) mn an ?_
        refine TL.fin (by kernel_rfl) ?_
        refine EX.next ?_
        refine TR.yes (by kernel_rfl) (by kernel_rfl) (rfl : true = true) ?_
        refine TR.skip ?_
        refine EX.next ?_
        refine TR.seq ?_
        refine TR.block ?_
        refine TR.reg ?_
        refine TL.seg0 3 [] [.own 9, .own 9, .own 9, .own 9, .own 9, .own 9, .own 9, .own 9, .own 9, .own 9, .own 9, .own 9, .own 9, .own 9, .own 9, .own 9] [6, 7, 10, 11, 12, 13, 14, 18, 86, 87, 88, 89, 90, 91, 92, 93, 94, 95] [z2, z6, (10, vP mb 0), z97, z100, z103, (14, vI kk), (18, vI 2), (86, vI 2), z149, (88, vI 1), (89, vI 2), z150, z151, (92, vI 2), (93, vI 60), (94, vI 67), z155] (ap [z140, z102, z157, z95, z89, z83, z62, z41, z18, z90, z4] [T58, T38, T27, T16, T5]) [(n2 + 0), (n2 + 0), (n2 + 0), (n2 + 0), (n2 + 0), (n2 + 0), (n2 + 0), (n2 + 0), (n2 + 0), (n2 + 0), (n2 + 0), (n2 + 0), (n2 + 0), (n2 + 0), (n2 + 0), (n2 + 0)] [] (fun _ => by kernel_rfl) mn an ?_
        refine TL.callp (dst := (some 93)) (f := 14) (args := #[.agg #[vI 1, vS bb 0 4 c42, vI (-100000), vI (-100000), vI 100000, vI 100000, .slice none 0 0, .slice none 0 0, vI 0, vI 0, vI 0, vI 0, vI 0, vI 0, vI 2, vI 0], vI 2]) (H1 := (ap [z140, z102, z157, z95, z89, z83, z62, z41, z18, z90, z4] [T58, T38, T27, T16, T5])) (E := []) (Ob := []) [] [] [6, 7, 10, 11, 12, 13, 14, 18, 86, 87, 88, 89, 90, 91, 92, 93, 94, 95] (vI 68) [z2, z6, (10, vP mb 0), z97, z100, z103, (14, vI kk), (18, vI 2), (86, vI 2), z149, (88, vI 1), (89, vI 2), z150, z151, (92, vI 2), (93, vI 68), (94, vI 67), z155] (fun _ => by kernel_rfl) mn an (lit_p (by kernel_rfl) (rbody_any z91 2 _ (qsetN z88 1))) (by kernel_rfl) ?_
        let z158 : Nat × Value := (95, vP q48 (0 + 75 * 1))
        let z159 := updG z156 75 0 (vI 1)
        let z160 : Nat × Blk := (q48, .rows 1 ((z98).cs.length) z159 3 (0, 0))
        refine TL.seg0 3 [] [.ix 75, .row 2 75 0] [6, 7, 10, 11, 12, 13, 14, 18, 86, 87, 88, 89, 90, 91, 92, 93, 94, 95] [z2, z6, (10, vP mb 0), z97, z100, z103, (14, vI kk), (18, vI 2), (86, vI 2), z149, (88, vI 1), (89, vI 2), z150, z151, (92, vI 2), (93, vI 68), (94, vI 75), z158] (ap [z140, z102, z160, z95, z89, z83, z62, z41, z18, z90, z4] [T58, T38, T27, T16, T5]) [q48] [(0 + 75 * 1) = 75 * 1 + 0 ∧ 75 < (((⟨(iniL (QD.S (⟨(-70000) + (around f0 30000), (((-70000) + (around f0 30000)) + 20000) + (around f1 30000), (((((-70000) + (around f0 30000)) + 20000) + (around f1 30000)) + 20000) + (around f2 30000), A3, A14, A25, A36, c4, c15, c26, c37, bb, c42, rest⟩ : QD) 1) ((QD.S (⟨(-70000) + (around f0 30000), (((-70000) + (around f0 30000)) + 20000) + (around f1 30000), (((((-70000) + (around f0 30000)) + 20000) + (around f1 30000)) + 20000) + (around f2 30000), A3, A14, A25, A36, c4, c15, c26, c37, bb, c42, rest⟩ : QD) 1)).nb), [], 0⟩ : MemS)).cs.length), 75 = ((75 : Nat) : Int) ∧ 75 < (((⟨(iniL (QD.S (⟨(-70000) + (around f0 30000), (((-70000) + (around f0 30000)) + 20000) + (around f1 30000), (((((-70000) + (around f0 30000)) + 20000) + (around f1 30000)) + 20000) + (around f2 30000), A3, A14, A25, A36, c4, c15, c26, c37, bb, c42, rest⟩ : QD) 1) ((QD.S (⟨(-70000) + (around f0 30000), (((-70000) + (around f0 30000)) + 20000) + (around f1 30000), (((((-70000) + (around f0 30000)) + 20000) + (around f1 30000)) + 20000) + (around f2 30000), A3, A14, A25, A36, c4, c15, c26, c37, bb, c42, rest⟩ : QD) 1)).nb), [], 0⟩ : MemS)).cs.length)] (fun _ => by kernel_rfl) mn (ac ⟨by omega, by omega⟩ (ac ⟨by omega, by omega⟩ an)) ?_
        refine TL.fin (by kernel_rfl) ?_
        refine EX.inn ?_
        refine EX.next ?_
        refine TR.reg ?_
        refine TL.seg0 3 [] [] [6, 7, 10, 11, 12, 13, 14, 18, 86, 87, 88, 89, 90, 91, 92, 93, 94, 95] [z2, z6, (10, vP mb 0), z97, z100, z103, (14, vI kk), (18, vI 3), (86, vI 2), z149, (88, vI 2), (89, vI 3), z150, z151, (92, vI 2), (93, vI 68), (94, vI 75), z158] (ap [z140, z102, z160, z95, z89, z83, z62, z41, z18, z90, z4] [T58, T38, T27, T16, T5]) [] [] (fun _ => by kernel_rfl) mn an ?_
        refine TL.fin (by kernel_rfl) ?_
        refine EX.round ?_
        refine TR.seq ?_
        refine TR.seq ?_
        refine TR.reg ?_
        refine TL.seg0 2 [] [] [6, 7, 10, 11, 12, 13, 14, 18, 86, 87, 88, 89, 90, 91, 92, 93, 94, 95] [z2, z6, (10, vP mb 0), z97, z100, z103, (14, vI kk), (18, vI 3), (86, vI 3), z149, (88, vI 2), (89, vI 3), z150, z151, (92, vI 2), (93, vI 68), (94, vI 75), z158] (ap [z140, z102, z160, z95, z89, z83, z62, z41, z18, z90, z4] [T58, T38, T27, T16, T5]) [] [] (fun _ => by kernel_rfl) mn an ?_
        refine TL.fin (by kernel_rfl) ?_
        refine EX.next ?_
        refine TR.yes (by kernel_rfl) (by kernel_rfl) (rfl : true = true) ?_
        refine TR.skip ?_
        refine EX.next ?_
        refine TR.seq ?_
        refine TR.block ?_
        refine TR.reg ?_
        refine TL.seg0 3 [] [.own 9, .own 9, .own 9, .own 9, .own 9, .own 9, .own 9, .own 9, .own 9, .own 9, .own 9, .own 9, .own 9, .own 9, .own 9, .own 9] [6, 7, 10, 11, 12, 13, 14, 18, 86, 87, 88, 89, 90, 91, 92, 93, 94, 95] [z2, z6, (10, vP mb 0), z97, z100, z103, (14, vI kk), (18, vI 3), (86, vI 3), z149, (88, vI 2), (89, vI 3), z150, z151, (92, vI 3), (93, vI 68), (94, vI 75), z158] (ap [z140, z102, z160, z95, z89, z83, z62, z41, z18, z90, z4] [T58, T38, T27, T16, T5]) [(n2 + 0), (n2 + 0), (n2 + 0), (n2 + 0), (n2 + 0), (n2 + 0), (n2 + 0), (n2 + 0), (n2 + 0), (n2 + 0), (n2 + 0), (n2 + 0), (n2 + 0), (n2 + 0), (n2 + 0), (n2 + 0)] [] (fun _ => by kernel_rfl) mn an ?_
        refine TL.callp (dst := (some 93)) (f := 14) (args := #[.agg #[vI 1, vS bb 0 4 c42, vI (-100000), vI (-100000), vI 100000, vI 100000, .slice none 0 0, .slice none 0 0, vI 0, vI 0, vI 0, vI 0, vI 0, vI 0, vI 2, vI 0], vI 3]) (H1 := (ap [z140, z102, z160, z95, z89, z83, z62, z41, z18, z90, z4] [T58, T38, T27, T16, T5])) (E := []) (Ob := []) [] [] [6, 7, 10, 11, 12, 13, 14, 18, 86, 87, 88, 89, 90, 91, 92, 93, 94, 95] (vI 76) [z2, z6, (10, vP mb 0), z97, z100, z103, (14, vI kk), (18, vI 3), (86, vI 3), z149, (88, vI 2), (89, vI 3), z150, z151, (92, vI 3), (93, vI 76), (94, vI 75), z158] (fun _ => by kernel_rfl) mn an (lit_p (by kernel_rfl) (rbody_any z91 3 _ (qsetN z88 1))) (by kernel_rfl) ?_
        let z161 : Nat × Value := (95, vP q48 (0 + 83 * 1))
        let z162 : Nat × Blk := (q48, .rows 1 ((z98).cs.length) (updG z159 83 0 (vI 1)) 3 (0, 0))
        refine TL.seg0 3 [] [.ix 83, .row 2 83 0] [6, 7, 10, 11, 12, 13, 14, 18, 86, 87, 88, 89, 90, 91, 92, 93, 94, 95] [z2, z6, (10, vP mb 0), z97, z100, z103, (14, vI kk), (18, vI 3), (86, vI 3), z149, (88, vI 2), (89, vI 3), z150, z151, (92, vI 3), (93, vI 76), (94, vI 83), z161] (ap [z140, z102, z162, z95, z89, z83, z62, z41, z18, z90, z4] [T58, T38, T27, T16, T5]) [q48] [(0 + 83 * 1) = 83 * 1 + 0 ∧ 83 < (((⟨(iniL (QD.S (⟨(-70000) + (around f0 30000), (((-70000) + (around f0 30000)) + 20000) + (around f1 30000), (((((-70000) + (around f0 30000)) + 20000) + (around f1 30000)) + 20000) + (around f2 30000), A3, A14, A25, A36, c4, c15, c26, c37, bb, c42, rest⟩ : QD) 1) ((QD.S (⟨(-70000) + (around f0 30000), (((-70000) + (around f0 30000)) + 20000) + (around f1 30000), (((((-70000) + (around f0 30000)) + 20000) + (around f1 30000)) + 20000) + (around f2 30000), A3, A14, A25, A36, c4, c15, c26, c37, bb, c42, rest⟩ : QD) 1)).nb), [], 0⟩ : MemS)).cs.length), 83 = ((83 : Nat) : Int) ∧ 83 < (((⟨(iniL (QD.S (⟨(-70000) + (around f0 30000), (((-70000) + (around f0 30000)) + 20000) + (around f1 30000), (((((-70000) + (around f0 30000)) + 20000) + (around f1 30000)) + 20000) + (around f2 30000), A3, A14, A25, A36, c4, c15, c26, c37, bb, c42, rest⟩ : QD) 1) ((QD.S (⟨(-70000) + (around f0 30000), (((-70000) + (around f0 30000)) + 20000) + (around f1 30000), (((((-70000) + (around f0 30000)) + 20000) + (around f1 30000)) + 20000) + (around f2 30000), A3, A14, A25, A36, c4, c15, c26, c37, bb, c42, rest⟩ : QD) 1)).nb), [], 0⟩ : MemS)).cs.length)] (fun _ => by kernel_rfl) mn (ac ⟨by omega, by omega⟩ (ac ⟨by omega, by omega⟩ an)) ?_
        refine TL.fin (by kernel_rfl) ?_
        refine EX.inn ?_
        refine EX.next ?_
        refine TR.reg ?_
        refine TL.seg0 3 [] [] [6, 7, 10, 11, 12, 13, 14, 18, 86, 87, 88, 89, 90, 91, 92, 93, 94, 95] [z2, z6, (10, vP mb 0), z97, z100, z103, (14, vI kk), (18, vI 4), (86, vI 3), z149, (88, vI 3), (89, vI 4), z150, z151, (92, vI 3), (93, vI 76), (94, vI 83), z161] (ap [z140, z102, z162, z95, z89, z83, z62, z41, z18, z90, z4] [T58, T38, T27, T16, T5]) [] [] (fun _ => by kernel_rfl) mn an ?_
        refine TL.fin (by kernel_rfl) ?_
        refine EX.round ?_
        refine TR.seq ?_
        refine TR.seq ?_
        refine TR.reg ?_
        refine TL.seg0 2 [] [] [6, 7, 10, 11, 12, 13, 14, 18, 86, 87, 88, 89, 90, 91, 92, 93, 94, 95] [z2, z6, (10, vP mb 0), z97, z100, z103, (14, vI kk), (18, vI 4), (86, vI 4), (87, .bool false), (88, vI 3), (89, vI 4), z150, z151, (92, vI 3), (93, vI 76), (94, vI 83), z161] (ap [z140, z102, z162, z95, z89, z83, z62, z41, z18, z90, z4] [T58, T38, T27, T16, T5]) [] [] (fun _ => by kernel_rfl) mn an ?_
        refine TL.fin (by kernel_rfl) ?_
        refine EX.next ?_
        refine TR.no (by kernel_rfl) (by kernel_rfl) (rfl : false = false) ?_
        refine TR.exit ?_
        refine EX.thn (by simp) ?_
        refine EX.thn (by simp) ?_
        refine EX.hit ?_
        refine EX.next ?_
        refine TR.seq ?_
        refine TR.reg ?_
        refine TL.seg0 1 [] [] [6, 7, 10, 11, 12, 13, 14, 96] [z2, z6, (10, vP mb 0), z97, z100, z103, (14, vI kk), (96, vP mb 0)] (ap [z140, z102, z162, z95, z89, z83, z62, z41, z18, z90, z4] [T58, T38, T27, T16, T5]) [] [] (fun _ => by kernel_rfl) mn an ?_
        let z163 := irow ((z141 : MemS)).cs
        refine TL.callT (τ := Nat) [] [] (dst := (some 97)) (f := 10) (args := #[vP mb 0]) (A := [z140, z102, z162, z95, z89, z83, z62, z41, z18, z90, z4]) (Ts := [T58, T38, T27, T16, T5]) (E := []) (Ob := []) [] [0, 1, 2, 3, 4, 5, 6, 7, 8, 9, 10] [] [0, 1, 2, 3, 4] [6, 7, 10, 11, 12, 13, 14, 97] [] [z140, z102, z162, z95, z89, z83, z62, z41, z18, z90, z4] [] [T58, T38, T27, T16, T5] (fun q => [(q, .rows 1 (((z141 : MemS)).cs.length) z163 3 (0, 0))]) (fun _ => []) (fun v q => v = vS q 0 ((z141 : MemS)).cs.length ((z141 : MemS)).cs.length) (fun v_ => [z2, z6, (10, vP mb 0), z97, z100, z103, (14, vI kk), (97, v_)]) (fun _ => by kernel_rfl) mn an (by kernel_rfl) (by kernel_rfl) (by kernel_rfl) (by kernel_rfl) (by kernel_rfl) (by kernel_rfl) (fun _ => by kernel_rfl) (cells_any mb z141 _ T58 _ hM59 (sub_ap 0 rfl)) ?_
        rintro _ q61 rfl
        let z164 : Nat × Blk := (q61, .rows 1 (((z141 : MemS)).cs.length) z163 3 (0, 0))
        refine TL.seg0 1 [] [] [6, 7, 10, 11, 12, 13, 14, 97, 98] [z2, z6, (10, vP mb 0), z97, z100, z103, (14, vI kk), (97, vS q61 0 (((z141 : MemS)).cs.length) (((z141 : MemS)).cs.length)), (98, vS q48 0 ((z98).cs.length) ((z98).cs.length))] (ap [z164, z140, z102, z162, z95, z89, z83, z62, z41, z18, z90, z4] [T58, T38, T27, T16, T5]) [] [] (fun _ => by kernel_rfl) mn an ?_
        have er : r = 0 := by
          rcases hgood_.2 with ⟨e, _⟩ | ⟨e, _⟩
          · exact e
          · have hh : trE (QD.G (⟨(-70000) + (around f0 30000), (((-70000) + (around f0 30000)) + 20000) + (around f1 30000), (((((-70000) + (around f0 30000)) + 20000) + (around f1 30000)) + 20000) + (around f2 30000), A3, A14, A25, A36, c4, c15, c26, c37, bb, c42, rest⟩ : QD) 1 (around version 9) (n49 + 0)) M_ = true := by assumption
            rw [e] at hh; cases hh
        subst er
        have hE : (((trM (QD.G (⟨(-70000) + (around f0 30000), (((-70000) + (around f0 30000)) + 20000) + (around f1 30000), (((((-70000) + (around f0 30000)) + 20000) + (around f1 30000)) + 20000) + (around f2 30000), A3, A14, A25, A36, c4, c15, c26, c37, bb, c42, rest⟩ : QD) 1 (around version 9) (n49 + 0)) M_) : MemS)).cs = (wasQ (⟨(-70000) + (around f0 30000), (((-70000) + (around f0 30000)) + 20000) + (around f1 30000), (((((-70000) + (around f0 30000)) + 20000) + (around f1 30000)) + 20000) + (around f2 30000), A3, A14, A25, A36, c4, c15, c26, c37, bb, c42, rest⟩ : QD) 1 (around version 9)) := by
          have h1 : trM (QD.G (⟨(-70000) + (around f0 30000), (((-70000) + (around f0 30000)) + 20000) + (around f1 30000), (((((-70000) + (around f0 30000)) + 20000) + (around f1 30000)) + 20000) + (around f2 30000), A3, A14, A25, A36, c4, c15, c26, c37, bb, c42, rest⟩ : QD) 1 (around version 9) (n49 + 0)) M_ = runM (QD.G (⟨(-70000) + (around f0 30000), (((-70000) + (around f0 30000)) + 20000) + (around f1 30000), (((((-70000) + (around f0 30000)) + 20000) + (around f1 30000)) + 20000) + (around f2 30000), A3, A14, A25, A36, c4, c15, c26, c37, bb, c42, rest⟩ : QD) 1 (around version 9) (n49 + 0)) 50 (⟨iniL (QD.S (⟨(-70000) + (around f0 30000), (((-70000) + (around f0 30000)) + 20000) + (around f1 30000), (((((-70000) + (around f0 30000)) + 20000) + (around f1 30000)) + 20000) + (around f2 30000), A3, A14, A25, A36, c4, c15, c26, c37, bb, c42, rest⟩ : QD) 1) 4, [], 0⟩ : MemS) := hrun_
          show (trM (QD.G (⟨(-70000) + (around f0 30000), (((-70000) + (around f0 30000)) + 20000) + (around f1 30000), (((((-70000) + (around f0 30000)) + 20000) + (around f1 30000)) + 20000) + (around f2 30000), A3, A14, A25, A36, c4, c15, c26, c37, bb, c42, rest⟩ : QD) 1 (around version 9) (n49 + 0)) M_).cs = _
          rw [h1, hrun.2]
          exact q1_end _ _ _
        have hW : (updG (updG (updG (updG (updG (updG (irow ((⟨(iniL (QD.S (⟨(-70000) + (around f0 30000), (((-70000) + (around f0 30000)) + 20000) + (around f1 30000), (((((-70000) + (around f0 30000)) + 20000) + (around f1 30000)) + 20000) + (around f2 30000), A3, A14, A25, A36, c4, c15, c26, c37, bb, c42, rest⟩ : QD) 1) ((QD.S (⟨(-70000) + (around f0 30000), (((-70000) + (around f0 30000)) + 20000) + (around f1 30000), (((((-70000) + (around f0 30000)) + 20000) + (around f1 30000)) + 20000) + (around f2 30000), A3, A14, A25, A36, c4, c15, c26, c37, bb, c42, rest⟩ : QD) 1)).nb), [], 0⟩ : MemS)).cs) 0 0 (vI 1)) 13 0 (vI (around version 9))) 59 0 (vI 1)) 67 0 (vI 1)) 75 0 (vI 1)) 83 0 (vI 1)) = irow (wasQ (⟨(-70000) + (around f0 30000), (((-70000) + (around f0 30000)) + 20000) + (around f1 30000), (((((-70000) + (around f0 30000)) + 20000) + (around f1 30000)) + 20000) + (around f2 30000), A3, A14, A25, A36, c4, c15, c26, c37, bb, c42, rest⟩ : QD) 1 (around version 9)) := by
          rw [irow_set, irow_set, irow_set, irow_set, irow_set, irow_set]
          · kernel_rfl
          all_goals exact Nat.lt_of_lt_of_eq (m := 84) (by decide) (by kernel_rfl)
        have hL : (wasQ (⟨(-70000) + (around f0 30000), (((-70000) + (around f0 30000)) + 20000) + (around f1 30000), (((((-70000) + (around f0 30000)) + 20000) + (around f1 30000)) + 20000) + (around f2 30000), A3, A14, A25, A36, c4, c15, c26, c37, bb, c42, rest⟩ : QD) 1 (around version 9)).length = 84 := by kernel_rfl
        let z165 := irow (wasQ z88 1 z96)
        let z166 : Nat × Blk := (q61, .rows 1 (((z141 : MemS)).cs.length) z165 3 (0, 0))
        let z167 : Nat × Blk := (q48, .rows 1 ((z98).cs.length) z165 3 (0, 0))
        refine TL.convH (ap [z166, z140, z102, z167, z95, z89, z83, z62, z41, z18, z90, z4] [T58, T38, T27, T16, T5]) ((congrArg (fun g_ => (ap [z164, z140, z102, (q48, .rows 1 ((z98).cs.length) g_ 3 (0, 0)), z95, z89, z83, z62, z41, z18, z90, z4] [T58, T38, T27, T16, T5])) hW).trans (congrArg (fun c_ => (ap [(q61, .rows 1 (((z141 : MemS)).cs.length) (irow c_) 3 (0, 0)), z140, z102, z167, z95, z89, z83, z62, z41, z18, z90, z4] [T58, T38, T27, T16, T5])) hE)) ?_
        have hn2 : (wasQ (⟨(-70000) + (around f0 30000), (((-70000) + (around f0 30000)) + 20000) + (around f1 30000), (((((-70000) + (around f0 30000)) + 20000) + (around f1 30000)) + 20000) + (around f2 30000), A3, A14, A25, A36, c4, c15, c26, c37, bb, c42, rest⟩ : QD) 1 (around version 9)).length = (((trM (QD.G (⟨(-70000) + (around f0 30000), (((-70000) + (around f0 30000)) + 20000) + (around f1 30000), (((((-70000) + (around f0 30000)) + 20000) + (around f1 30000)) + 20000) + (around f2 30000), A3, A14, A25, A36, c4, c15, c26, c37, bb, c42, rest⟩ : QD) 1 (around version 9) (n49 + 0)) M_) : MemS)).cs.length := by rw [hE]
        have hn1 : (wasQ (⟨(-70000) + (around f0 30000), (((-70000) + (around f0 30000)) + 20000) + (around f1 30000), (((((-70000) + (around f0 30000)) + 20000) + (around f1 30000)) + 20000) + (around f2 30000), A3, A14, A25, A36, c4, c15, c26, c37, bb, c42, rest⟩ : QD) 1 (around version 9)).length = ((⟨(iniL (QD.S (⟨(-70000) + (around f0 30000), (((-70000) + (around f0 30000)) + 20000) + (around f1 30000), (((((-70000) + (around f0 30000)) + 20000) + (around f1 30000)) + 20000) + (around f2 30000), A3, A14, A25, A36, c4, c15, c26, c37, bb, c42, rest⟩ : QD) 1) ((QD.S (⟨(-70000) + (around f0 30000), (((-70000) + (around f0 30000)) + 20000) + (around f1 30000), (((((-70000) + (around f0 30000)) + 20000) + (around f1 30000)) + 20000) + (around f2 30000), A3, A14, A25, A36, c4, c15, c26, c37, bb, c42, rest⟩ : QD) 1)).nb), [], 0⟩ : MemS)).cs.length := by rw [hL, hl]
        have hn0 : (wasQ (⟨(-70000) + (around f0 30000), (((-70000) + (around f0 30000)) + 20000) + (around f1 30000), (((((-70000) + (around f0 30000)) + 20000) + (around f1 30000)) + 20000) + (around f2 30000), A3, A14, A25, A36, c4, c15, c26, c37, bb, c42, rest⟩ : QD) 1 (around version 9)).length ≤ 1000000 := by rw [hL]; decide
        refine TL.callp (dst := (some 99)) (f := 15) (args := #[vS q61 0 (((z141 : MemS)).cs.length) (((z141 : MemS)).cs.length), vS q48 0 ((z98).cs.length) ((z98).cs.length)]) (H1 := (ap [z166, z140, z102, z167, z95, z89, z83, z62, z41, z18, z90, z4] [T58, T38, T27, T16, T5])) (E := []) (Ob := []) [] [] [6, 7, 10, 11, 12, 13, 14, 99] (.bool true) [z2, z6, (10, vP mb 0), z97, z100, z103, (14, vI kk), (99, .bool true)] (fun _ => by kernel_rfl) mn an (same_n (in_ap 0 rfl) (in_ap 3 rfl) hn2 hn1 hn0) (by kernel_rfl) ?_
        let z168 : Nat × Value := (100, .bool true)
        refine TL.seg0 1 [] [] [6, 7, 10, 11, 12, 13, 14, 100] [z2, z6, (10, vP mb 0), z97, z100, z103, (14, vI kk), z168] (ap [z166, z140, z102, z167, z95, z89, z83, z62, z41, z18, z90, z4] [T58, T38, T27, T16, T5]) [] [] (fun _ => by kernel_rfl) mn an ?_
        refine TL.callp (dst := (some 101)) (f := 16) (args := #[]) (H1 := (ap [z166, z140, z102, z167, z95, z89, z83, z62, z41, z18, z90, z4] [T58, T38, T27, T16, T5])) (E := []) (Ob := []) [] [] [6, 7, 10, 11, 12, 13, 14, 100, 101] (.bool true) [z2, z6, (10, vP mb 0), z97, z100, z103, (14, vI kk), z168, (101, .bool true)] (fun _ => by kernel_rfl) mn an (lives_any _) (by kernel_rfl) ?_
        refine TL.seg0 2 [] [] [6, 7, 10, 11, 12, 13, 14] [(6, .bool true), z6, (10, vP mb 0), z97, z100, z103, (14, vI kk)] (ap [z166, z140, z102, z167, z95, z89, z83, z62, z41, z18, z90, z4] [T58, T38, T27, T16, T5]) [] [] (fun _ => by kernel_rfl) mn an ?_
        refine TL.fin (by kernel_rfl) ?_
        refine EX.next ?_
        refine TR.ret (A := [z166, z140, z102, z167, z95, z89, z83, z62, z41, z18, z90, z4]) (Ts := [T58, T38, T27, T16, T5]) (by exact fun _ _ h => h) rfl rfl [] [] (.bool true) [] [] (fun _ => by kernel_rfl) mn an [] [0, 1, 2, 3, 4, 5, 6, 7, 8, 9, 10, 11] [] [0, 1, 2, 3, 4] [] (by kernel_rfl) (by kernel_rfl) (by kernel_rfl) ?_
        exact ⟨rfl, rfl⟩
      · refine TR.no (b := trE z104 M_) (by kernel_rfl) (by kernel_rfl) (Bool.eq_false_iff.2 h60) ?_
        refine TR.skip ?_
        refine EX.inn ?_
        refine EX.next ?_
        refine TR.reg ?_
        refine TL.seg0 3 [] [.nw] [6, 7, 10, 11, 12, 13, 14] [z2, z6, (10, vP mb 0), z97, z100, z103, (14, vI (kk - 1))] (ap [z140, z102, z101, z95, z89, z83, z62, z41, z18, z90, z4] [T58, T38, T27, T16, T5]) [] [-9223372036854775808 ≤ kk - 1 ∧ kk - 1 ≤ 9223372036854775807] (fun _ => by kernel_rfl) mn (ac ⟨by omega, by omega⟩ an) ?_
        refine TL.fin (by kernel_rfl) ?_
        have hg2 := hgood_.2
        rcases hg2 with ⟨_, e_⟩ | ⟨_, hg2⟩
        · exact absurd e_ (by assumption)
        rcases r with _ | r
        · exact hg2.elim
        refine EX.meet (A := [z140, z102, z101, z95, z89, z83, z62, z41, z18, z90, z4]) (Ts := [T58, T38, T27, T16, T5]) (r, kk - 1, trM z104 M_, T58) ?_ [6, 7, 10, 11, 12, 13, 14] (by kernel_rfl) [1, 2, 3, 4, 5, 6, 7, 8, 9, 10] [0] [0, 1, 2, 3, 4] [] (by kernel_rfl) (by kernel_rfl) (by kernel_rfl)
        try dsimp only
        exact ⟨⟨by omega, hg2, hrun_, hM59.weak (by omega)⟩, by omega⟩
  · (exfalso; omega)
end Go.Proofs.YtpkincoclhpcgaaGreatDoor
