/- Contracts, printed by a program. -/
import Derived.Test.YtampdcgphdnnhaaGreatDoorT35
namespace Go.Proofs.YtampdcgphdnnhaaGreatDoor
set_option linter.unusedSimpArgs false
set_option linter.unusedVariables false
open Go.RowKit
set_option maxHeartbeats 1000000 in
set_option maxRecDepth 100000 in
theorem add_any (l : List Int) (A : Option Addr) (c : Nat) (T : HL) (n0 : Int) (n : Nat) (F : HL) (hs : SlIs intE 3 l A c T) (hz : zeroOff A) (hl : l.length ≤ 1000) (hn0 : -1000 ≤ n0 ∧ n0 ≤ 2000000000) (hn : n ≤ 100) : Sp Tryz.prog 45 #[.slice A l.length c, vI n0, vI (n : Int)] (ap [] [T]) F (fun u H' => ∃ x : List Int × Option Addr × Nat × HL, H' = ap [] [x.2.2.2] ∧ (u = .slice x.2.1 x.1.length x.2.2.1 ∧ SlIs intE 3 x.1 x.2.1 x.2.2.1 x.2.2.2 ∧ zeroOff x.2.1 ∧ x.1.length ≤ l.length + n ∧ ∀ y, y ∈ x.1 ↔ y ∈ l ∨ (0 ≤ n0 ∧ n0 ≤ y ∧ y < n0 + (n : Int)))) := by
  refine Sp.run Tryz.func45 rfl mn (A := []) (Ts := [T]) rfl fun w0 => ?_
  refine RN.go 12 [] fun _ => RN.loop (σ := Nat × List Int × Option Addr × Nat × HL) (fun ⟨k, l_, A_, c_, T_⟩ => ⟨[(0, .slice A_ l_.length c_), (1, vI n0), (2, vI (n : Int)), (7, vI (k : Int))], [], [T_], k ≤ n ∧ (k = 0 ∨ 0 ≤ n0) ∧ SlIs intE 3 l_ A_ c_ T_ ∧ zeroOff A_ ∧ l_.length ≤ l.length + k ∧ ∀ y, y ∈ l_ ↔ y ∈ l ∨ (0 ≤ n0 ∧ n0 ≤ y ∧ y < n0 + (k : Int)), n - k⟩) (0, l, A, c, T) [] [0] (⟨Nat.zero_le _, .inl rfl, hs, hz, Nat.le_refl _, fun y => ⟨.inl, fun h => h.elim id fun h => by omega⟩⟩) ?_
  rintro ⟨k, l_, A_, c_, T_⟩ ⟨hk_, h0_, hs_, hz_, hl_, hm_⟩ mt2
  refine RN.go 7 [] fun _ => RN.em ((k : Int) < (n : Int)) 11 (fun h3 => ?_) fun h3 => ?_
  · refine RN.go 5 [] fun _ => RN.em (n0 ≥ 0) 14 (fun h4 => ?_) fun h4 => ?_
    · refine RN.goP 11 [.nw] [I64 (n0 + (k : Int))] fun _ => RN.cp (hasI_any (n0 + (k : Int)) _ hs_ hz_ (by omega) (sub_ap 0)) <| RN.go 3 [] fun _ => RN.en (n0 + (k : Int) ∈ l_) 22 (fun h5 => ?_) fun h5 => ?_
      · refine RN.goP 9 [.nw] [I64 ((k : Int) + 1)] fun _ => ?_
        refine mt2 (k + 1, l_, A_, c_, T_) [] [0] ?_
        try dsimp only
        refine ⟨⟨by omega, .inr (by omega), hs_, hz_, by omega, fun y => ?_⟩, by omega⟩
        rw [hm_ y]
        constructor
        · rintro (h | h)
          · exact .inl h
          · exact .inr (by omega)
        · rintro (h | h)
          · exact .inl h
          · by_cases e : y = n0 + (k : Int)
            · rw [e, ← hm_]; exact h5
            · exact .inr (by omega)
      · refine RN.goP 7 [.nw] [I64 (n0 + (k : Int))] fun n6 => RN.app intEOk l_ [n0 + (k : Int)] 0 0 rfl hs_ (by show l_.length + 1 ≤ 100000000; omega) ?_
        rintro A7 c8 T9 ⟨hs10, hz11⟩
        refine RN.sv 28 (congrArg (fun v_ => (.slice A7 v_ c8 : Value)) (show l_.length + [n0 + (k : Int)].length = (l_ ++ [n0 + (k : Int)]).length from by rw [List.length_append])) <| RN.goP 9 [.nw] [I64 ((k : Int) + 1)] fun _ => ?_
        refine mt2 (k + 1, (l_ ++ [n0 + (k : Int)]), A7, c8, T9) [] [0] ?_
        try dsimp only
        refine ⟨⟨by omega, .inr (by omega), hs10, (hz11 hz_), by rw [List.length_append]; show l_.length + 1 ≤ _; omega, fun y => ?_⟩, by omega⟩
        rw [List.mem_append, List.mem_singleton, hm_ y, or_assoc]
        exact or_congr_right (by constructor <;> (intro h; omega))
    · refine RN.go 12 [] fun _ => RN.ret [] [] [0] (v := .slice A_ l_.length c_) (H' := (ap [] [T_])) ?_
      refine ⟨(l_, A_, c_, T_), rfl, rfl, hs_, hz_, by show l_.length ≤ _; omega, fun y => ?_⟩
      show y ∈ l_ ↔ _
      rw [hm_ y]
      exact or_congr_right (by constructor <;> (intro h; omega))
  · refine RN.go 17 [] fun _ => RN.ret [] [] [0] (v := .slice A_ l_.length c_) (H' := (ap [] [T_])) ?_
    refine ⟨(l_, A_, c_, T_), rfl, rfl, hs_, hz_, by show l_.length ≤ _; omega, fun y => ?_⟩
    show y ∈ l_ ↔ _
    rw [hm_ y]
    exact or_congr_right (by constructor <;> (intro h; omega))

abbrev PlP (S : Setup) (i y : Int) : Prop := 0 ≤ playerAt S i ∧ playerAt S i ≤ y ∧ y < playerAt S i + 4
abbrev BdP (S : Setup) (b y : Int) : Prop := 0 ≤ bodyAt S b ∧ bodyAt S b ≤ y ∧ y < bodyAt S b + 8
abbrev ReO (S : Setup) (c : List Int) (k y : Int) : Prop := (0 ≤ IntKind.i64.wrap (c.getD 7 0 - k) ∧ IntKind.i64.wrap (c.getD 7 0 - k) < 16) ∧ BdP S (c.getD (16 + IntKind.i64.wrap (c.getD 7 0 - k)).toNat 0) y
abbrev reP1 (S : Setup) (c : List Int) (y : Int) : Prop := (0 ≤ y ∧ y < 14) ∨ ((c.getD 1 0 = 0 ∨ c.getD 1 0 = 1 ∨ c.getD 1 0 = 3) ∧ PlP S (c.getD 2 0) y)
abbrev reP2 (S : Setup) (c : List Int) (y : Int) : Prop := (c.getD 1 0 = 1 ∨ c.getD 1 0 = 2 ∨ c.getD 1 0 = 6) ∧ ((16 ≤ y ∧ y < 48) ∨ ReO S c 1 y ∨ ReO S c 2 y)
abbrev reP3 (S : Setup) (c : List Int) (y : Int) : Prop := c.getD 1 0 ≥ 3 ∧ BdP S (c.getD 2 0) y
abbrev reP4 (S : Setup) (c : List Int) (y : Int) : Prop := (c.getD 1 0 = 4 ∨ c.getD 1 0 = 5) ∧ BdP S (c.getD 3 0) y
def fl (all : List Int) (n : Nat) : List Int := ((List.range n).map fun k : Nat => (k : Int)).filter fun x => decide (x ∈ all)
theorem fl_succ (all : List Int) (n : Nat) : fl all (n + 1) = fl all n ++ if (n : Int) ∈ all then [(n : Int)] else [] := by
  unfold fl
  rw [List.range_succ, List.map_append, List.filter_append]
  congr 1
  by_cases h : (n : Int) ∈ all <;> simp [h]
theorem fl_len (all : List Int) (n : Nat) : (fl all n).length ≤ n := by
  unfold fl
  exact Nat.le_trans (List.length_filter_le _ _) (by simp)
theorem fl_mem {all : List Int} {n : Nat} {y : Int} : y ∈ fl all n ↔ (0 ≤ y ∧ y < (n : Int)) ∧ y ∈ all := by
  unfold fl
  rw [List.mem_filter, List.mem_map]
  constructor
  · rintro ⟨⟨k, hk, rfl⟩, h⟩; have := List.mem_range.1 hk; exact ⟨by omega, of_decide_eq_true h⟩
  · rintro ⟨h1, h2⟩; exact ⟨⟨y.toNat, List.mem_range.2 (by omega), by omega⟩, decide_eq_true h2⟩
theorem fl_inc (all : List Int) (n : Nat) : (fl all n).Pairwise (· < ·) := by
  unfold fl
  refine List.Pairwise.filter _ ?_
  rw [List.pairwise_map]
  exact List.pairwise_lt_range.imp fun h => by omega

set_option maxHeartbeats 1000000 in
set_option maxRecDepth 100000 in
theorem rtouch_any (q cap : Nat) (M : MemS) (S : Setup) (F : HL) (hSN : SetN S) (hq : (q, .rows 1 M.cs.length (irow M.cs) 3 (0, 0)) ∈ F) (h48 : 48 ≤ M.cs.length) (hn : M.cs.length ≤ 1000000) : Sp Tryz.prog 22 #[vS q 0 M.cs.length cap, (Setup.v S)] [] F (fun u H' => ∃ x : List Int × Option Addr × Nat × HL, H' = ap [] [x.2.2.2] ∧ (u = .slice x.2.1 x.1.length x.2.2.1 ∧ SlIs intE 3 x.1 x.2.1 x.2.2.1 x.2.2.2 ∧ zeroOff x.2.1 ∧ x.1.Pairwise (· < ·) ∧ ∀ y, y ∈ x.1 ↔ (0 ≤ y ∧ y < (M.cs.length : Int)) ∧ (((reP1 S M.cs y ∨ reP2 S M.cs y) ∨ reP3 S M.cs y) ∨ reP4 S M.cs y))) := by
  refine Sp.run Tryz.func22 rfl (mc hq mn) (A := []) (Ts := []) rfl fun w0 => ?_
  refine RN.go 8 [] fun n1 => RN.nt <| RN.ct [] [0] (add_any [] none 0 ([] : HL) 0 14 _ (SlIs.nil _ _) trivial (Nat.zero_le _) (by omega) (by omega)) ?_
  rintro _ ⟨la2, Aa3, ca4, Ta5⟩ ⟨rfl, hsa6, hza7, hl8, hm9⟩
  dsimp only at hsa6 hza7 hl8 hm9
  have hl8 : la2.length ≤ 14 := Nat.le_trans hl8 (by decide)
  refine RN.goP 12 [.ix 1, .rorow 0 1 0] [(0 + 1 * 1) = 1 * 1 + 0 ∧ 1 < M.cs.length, 1 = ((1 : Nat) : Int) ∧ 1 < M.cs.length] fun _ => RN.cut (σ := List Int × Option Addr × Nat × HL) (fun ⟨l2, A2, c2, T2⟩ => ⟨[(0, vS q 0 M.cs.length cap), (3, vP (n1 + 0) 0), (5, .slice A2 l2.length c2), (6, vI (M.cs.getD 1 0))], [((n1 + 0), .lit (Setup.l S) 31 (0, 0))], [T2], SlIs intE 3 l2 A2 c2 T2 ∧ zeroOff A2 ∧ l2.length ≤ 18 ∧ ∀ y, y ∈ l2 ↔ y ∈ la2 ∨ ((M.cs.getD 1 0 = 0 ∨ M.cs.getD 1 0 = 1 ∨ M.cs.getD 1 0 = 3) ∧ PlP S (M.cs.getD 2 0) y), 0⟩) ?_ ?_
  · intro mt10
    refine RN.go 5 [] fun _ => RN.em (M.cs.getD 1 0 = 0) 17 (fun h11 => ?_) fun h11 => ?_
    · refine RN.go 10 [] fun _ => RN.draw [6] [] <| RD.goP [] [0, 1, 2, 3, 4] (ow 0 16 ++ [.ix 2, .rorow 0 2 0]) [(0 + 2 * 1) = 2 * 1 + 0 ∧ 2 < M.cs.length, 2 = ((2 : Nat) : Int) ∧ 2 < M.cs.length] <| RD.cp [] 5 (fun X_ => (rplayer_any S (M.cs.getD 2 0) _ hSN)) ?_
      have hb13 := playerAt_bd hSN (M.cs.getD 2 0)
      refine RD.one 6 (RDO.ct [] [] [0] (add_any la2 Aa3 ca4 Ta5 (playerAt S (M.cs.getD 2 0)) 4 _ hsa6 hza7 (by omega) (by omega) (by omega)) ?_)
      rintro _ ⟨la14, Aa15, ca16, Ta17⟩ ⟨rfl, hsa18, hza19, hl20, hm21⟩
      dsimp only at hsa18 hza19 hl20 hm21
      refine RD.go [] [7] [] <| RD.fin ?_
      refine mt10 (la14, Aa15, ca16, Ta17) [0] [0] ?_
      try dsimp only
      refine ⟨hsa18, hza19, by omega, fun y => ?_⟩
      show y ∈ la14 ↔ _
      rw [hm21 y]
      exact or_congr_right ⟨fun h => ⟨by omega, h⟩, fun h => h.2⟩
    · refine RN.go 4 [] fun _ => RN.em (M.cs.getD 1 0 = 1) 21 (fun h22 => ?_) fun h22 => ?_
      · refine RN.go 6 [] fun _ => RN.draw [6] [] <| RD.goP [] [0, 1, 2, 3, 4] (ow 0 16 ++ [.ix 2, .rorow 0 2 0]) [(0 + 2 * 1) = 2 * 1 + 0 ∧ 2 < M.cs.length, 2 = ((2 : Nat) : Int) ∧ 2 < M.cs.length] <| RD.cp [] 5 (fun X_ => (rplayer_any S (M.cs.getD 2 0) _ hSN)) ?_
        have hb24 := playerAt_bd hSN (M.cs.getD 2 0)
        refine RD.one 6 (RDO.ct [] [] [0] (add_any la2 Aa3 ca4 Ta5 (playerAt S (M.cs.getD 2 0)) 4 _ hsa6 hza7 (by omega) (by omega) (by omega)) ?_)
        rintro _ ⟨la25, Aa26, ca27, Ta28⟩ ⟨rfl, hsa29, hza30, hl31, hm32⟩
        dsimp only at hsa29 hza30 hl31 hm32
        refine RD.go [] [7] [] <| RD.fin ?_
        refine mt10 (la25, Aa26, ca27, Ta28) [0] [0] ?_
        try dsimp only
        refine ⟨hsa29, hza30, by omega, fun y => ?_⟩
        show y ∈ la25 ↔ _
        rw [hm32 y]
        exact or_congr_right ⟨fun h => ⟨by omega, h⟩, fun h => h.2⟩
      · refine RN.go 5 [] fun _ => RN.em (M.cs.getD 1 0 = 3) 24 (fun h33 => ?_) fun h33 => ?_
        · refine RN.go 1 [] fun _ => RN.draw [6] [] <| RD.goP [] [0, 1, 2, 3, 4] (ow 0 16 ++ [.ix 2, .rorow 0 2 0]) [(0 + 2 * 1) = 2 * 1 + 0 ∧ 2 < M.cs.length, 2 = ((2 : Nat) : Int) ∧ 2 < M.cs.length] <| RD.cp [] 5 (fun X_ => (rplayer_any S (M.cs.getD 2 0) _ hSN)) ?_
          have hb35 := playerAt_bd hSN (M.cs.getD 2 0)
          refine RD.one 6 (RDO.ct [] [] [0] (add_any la2 Aa3 ca4 Ta5 (playerAt S (M.cs.getD 2 0)) 4 _ hsa6 hza7 (by omega) (by omega) (by omega)) ?_)
          rintro _ ⟨la36, Aa37, ca38, Ta39⟩ ⟨rfl, hsa40, hza41, hl42, hm43⟩
          dsimp only at hsa40 hza41 hl42 hm43
          refine RD.go [] [7] [] <| RD.fin ?_
          refine mt10 (la36, Aa37, ca38, Ta39) [0] [0] ?_
          try dsimp only
          refine ⟨hsa40, hza41, by omega, fun y => ?_⟩
          show y ∈ la36 ↔ _
          rw [hm43 y]
          exact or_congr_right ⟨fun h => ⟨by omega, h⟩, fun h => h.2⟩
        · refine RN.go 2 [] fun _ => ?_
          refine mt10 (la2, Aa3, ca4, Ta5) [0] [0] ?_
          try dsimp only
          refine ⟨hsa6, hza7, by omega, fun y => ?_⟩
          show y ∈ la2 ↔ _
          exact ⟨.inl, fun h => h.elim id fun h => absurd h.1 (by omega)⟩
  · rintro ⟨l2, A2, c2, T2⟩ ⟨hs2, hz2, hl2, hm2⟩
    refine RN.go 2 [] fun _ => RN.cut (σ := List Int × Option Addr × Nat × HL) (fun ⟨l3, A3, c3, T3⟩ => ⟨[(0, vS q 0 M.cs.length cap), (3, vP (n1 + 0) 0), (5, .slice A3 l3.length c3), (6, vI (M.cs.getD 1 0))], [((n1 + 0), .lit (Setup.l S) 31 (0, 0))], [T3], SlIs intE 3 l3 A3 c3 T3 ∧ zeroOff A3 ∧ l3.length ≤ 66 ∧ ∀ y, y ∈ l3 ↔ y ∈ l2 ∨ (reP2 S M.cs y), 0⟩) ?_ ?_
    · intro mt44
      refine RN.go 5 [] fun _ => RN.em (M.cs.getD 1 0 = 1) 34 (fun h45 => ?_) fun h45 => ?_
      · refine RN.go 13 [] fun _ => RN.ct [] [0] (add_any l2 A2 c2 T2 16 32 _ hs2 hz2 (by omega) (by omega) (by omega)) ?_
        rintro _ ⟨la46, Aa47, ca48, Ta49⟩ ⟨rfl, hsa50, hza51, hl52, hm53⟩
        dsimp only at hsa50 hza51 hl52 hm53
        refine RN.go 9 [] fun _ => RN.rounds 2 <| RN.goP 27 [.ix 7, .rorow 0 7 0] [(0 + 7 * 1) = 7 * 1 + 0 ∧ 7 < M.cs.length, 7 = ((7 : Nat) : Int) ∧ 7 < M.cs.length] fun _ => RN.em (IntKind.i64.wrap ((M.cs.getD 7 0) - 1) ≥ 0) 55 (fun h54 => ?_) fun h54 => ?_
        · refine RN.go 5 [] fun _ => RN.em (IntKind.i64.wrap ((M.cs.getD 7 0) - 1) < 16) 58 (fun h55 => ?_) fun h55 => ?_
          · refine RN.go 1 [] fun _ => RN.draw [8] [] <| RD.goP [] [0, 1, 2, 3, 4, 5, 6] (ow 0 16 ++ [.nw, .ix ((16 + (IntKind.i64.wrap ((M.cs.getD 7 0) - 1))).toNat), .rorow 0 ((16 + (IntKind.i64.wrap ((M.cs.getD 7 0) - 1))).toNat) 0]) [(0 + ((16 + (IntKind.i64.wrap ((M.cs.getD 7 0) - 1))).toNat) * 1) = ((16 + (IntKind.i64.wrap ((M.cs.getD 7 0) - 1))).toNat) * 1 + 0 ∧ ((16 + (IntKind.i64.wrap ((M.cs.getD 7 0) - 1))).toNat) < M.cs.length, 16 + (IntKind.i64.wrap ((M.cs.getD 7 0) - 1)) = (((16 + (IntKind.i64.wrap ((M.cs.getD 7 0) - 1))).toNat : Nat) : Int) ∧ (16 + (IntKind.i64.wrap ((M.cs.getD 7 0) - 1))).toNat < M.cs.length, I64 (16 + (IntKind.i64.wrap ((M.cs.getD 7 0) - 1)))] <| RD.cp [] 7 (fun X_ => (rbody_any S (M.cs.getD ((16 + (IntKind.i64.wrap ((M.cs.getD 7 0) - 1))).toNat) 0) _ hSN)) ?_
            have hb57 := bodyAt_bd hSN (M.cs.getD ((16 + (IntKind.i64.wrap ((M.cs.getD 7 0) - 1))).toNat) 0)
            refine RD.one 8 (RDO.ct [] [] [0] (add_any la46 Aa47 ca48 Ta49 (bodyAt S (M.cs.getD ((16 + (IntKind.i64.wrap ((M.cs.getD 7 0) - 1))).toNat) 0)) 8 _ hsa50 hza51 (by omega) (by omega) (by omega)) ?_)
            rintro _ ⟨la58, Aa59, ca60, Ta61⟩ ⟨rfl, hsa62, hza63, hl64, hm65⟩
            dsimp only at hsa62 hza63 hl64 hm65
            refine RD.go [] [9] [] <| RD.fin <| RN.go 2 [] fun _ => RN.goP 33 [.ix 7, .rorow 0 7 0] [(0 + 7 * 1) = 7 * 1 + 0 ∧ 7 < M.cs.length, 7 = ((7 : Nat) : Int) ∧ 7 < M.cs.length] fun _ => RN.em (IntKind.i64.wrap ((M.cs.getD 7 0) - 2) ≥ 0) 55 (fun h66 => ?_) fun h66 => ?_
            · refine RN.go 5 [] fun _ => RN.em (IntKind.i64.wrap ((M.cs.getD 7 0) - 2) < 16) 58 (fun h67 => ?_) fun h67 => ?_
              · refine RN.go 1 [] fun _ => RN.draw [8] [] <| RD.goP [] [0, 1, 2, 3, 4, 5, 6] (ow 0 16 ++ [.nw, .ix ((16 + (IntKind.i64.wrap ((M.cs.getD 7 0) - 2))).toNat), .rorow 0 ((16 + (IntKind.i64.wrap ((M.cs.getD 7 0) - 2))).toNat) 0]) [(0 + ((16 + (IntKind.i64.wrap ((M.cs.getD 7 0) - 2))).toNat) * 1) = ((16 + (IntKind.i64.wrap ((M.cs.getD 7 0) - 2))).toNat) * 1 + 0 ∧ ((16 + (IntKind.i64.wrap ((M.cs.getD 7 0) - 2))).toNat) < M.cs.length, 16 + (IntKind.i64.wrap ((M.cs.getD 7 0) - 2)) = (((16 + (IntKind.i64.wrap ((M.cs.getD 7 0) - 2))).toNat : Nat) : Int) ∧ (16 + (IntKind.i64.wrap ((M.cs.getD 7 0) - 2))).toNat < M.cs.length, I64 (16 + (IntKind.i64.wrap ((M.cs.getD 7 0) - 2)))] <| RD.cp [] 7 (fun X_ => (rbody_any S (M.cs.getD ((16 + (IntKind.i64.wrap ((M.cs.getD 7 0) - 2))).toNat) 0) _ hSN)) ?_
                have hb69 := bodyAt_bd hSN (M.cs.getD ((16 + (IntKind.i64.wrap ((M.cs.getD 7 0) - 2))).toNat) 0)
                refine RD.one 8 (RDO.ct [] [] [0] (add_any la58 Aa59 ca60 Ta61 (bodyAt S (M.cs.getD ((16 + (IntKind.i64.wrap ((M.cs.getD 7 0) - 2))).toNat) 0)) 8 _ hsa62 hza63 (by omega) (by omega) (by omega)) ?_)
                rintro _ ⟨la70, Aa71, ca72, Ta73⟩ ⟨rfl, hsa74, hza75, hl76, hm77⟩
                dsimp only at hsa74 hza75 hl76 hm77
                refine RD.go [] [9] [] <| RD.fin <| RN.go 2 [] fun _ => RN.go 18 [] fun _ => ?_
                refine mt44 (la70, Aa71, ca72, Ta73) [0] [0] ?_
                try dsimp only
                refine ⟨hsa74, hza75, by omega, fun y => ?_⟩
                show y ∈ la70 ↔ _
                rw [hm77 y, hm65 y, hm53 y]
                have e0 : (0 ≤ (16 : Int) ∧ 16 ≤ y ∧ y < 16 + ((32 : Nat) : Int)) ↔ (16 ≤ y ∧ y < 48) := by constructor <;> (intro h; omega)
                have e3 : (M.cs.getD 1 0 = 1 ∨ M.cs.getD 1 0 = 2 ∨ M.cs.getD 1 0 = 6) := by omega
                have o1 : ReO S M.cs 1 y ↔ BdP S (M.cs.getD (16 + IntKind.i64.wrap (M.cs.getD 7 0 - 1)).toNat 0) y := ⟨fun h => h.2, fun h => ⟨⟨by omega, by omega⟩, h⟩⟩
                have o2 : ReO S M.cs 2 y ↔ BdP S (M.cs.getD (16 + IntKind.i64.wrap (M.cs.getD 7 0 - 2)).toNat 0) y := ⟨fun h => h.2, fun h => ⟨⟨by omega, by omega⟩, h⟩⟩
                unfold reP2
                rw [e0, and_iff_right e3, o1, o2]
                simp only [or_assoc, or_false, false_or]
                exact Iff.rfl
              · refine RN.go 4 [] fun _ => RN.go 18 [] fun _ => ?_
                refine mt44 (la58, Aa59, ca60, Ta61) [0] [0] ?_
                try dsimp only
                refine ⟨hsa62, hza63, by omega, fun y => ?_⟩
                show y ∈ la58 ↔ _
                rw [hm65 y, hm53 y]
                have e0 : (0 ≤ (16 : Int) ∧ 16 ≤ y ∧ y < 16 + ((32 : Nat) : Int)) ↔ (16 ≤ y ∧ y < 48) := by constructor <;> (intro h; omega)
                have e3 : (M.cs.getD 1 0 = 1 ∨ M.cs.getD 1 0 = 2 ∨ M.cs.getD 1 0 = 6) := by omega
                have o1 : ReO S M.cs 1 y ↔ BdP S (M.cs.getD (16 + IntKind.i64.wrap (M.cs.getD 7 0 - 1)).toNat 0) y := ⟨fun h => h.2, fun h => ⟨⟨by omega, by omega⟩, h⟩⟩
                have o2 : ReO S M.cs 2 y ↔ False := ⟨fun h => by have h1 := h.1; omega, fun h => h.elim⟩
                unfold reP2
                rw [e0, and_iff_right e3, o1, o2]
                simp only [or_assoc, or_false, false_or]
                exact Iff.rfl
            · refine RN.go 9 [] fun _ => RN.go 18 [] fun _ => ?_
              refine mt44 (la58, Aa59, ca60, Ta61) [0] [0] ?_
              try dsimp only
              refine ⟨hsa62, hza63, by omega, fun y => ?_⟩
              show y ∈ la58 ↔ _
              rw [hm65 y, hm53 y]
              have e0 : (0 ≤ (16 : Int) ∧ 16 ≤ y ∧ y < 16 + ((32 : Nat) : Int)) ↔ (16 ≤ y ∧ y < 48) := by constructor <;> (intro h; omega)
              have e3 : (M.cs.getD 1 0 = 1 ∨ M.cs.getD 1 0 = 2 ∨ M.cs.getD 1 0 = 6) := by omega
              have o1 : ReO S M.cs 1 y ↔ BdP S (M.cs.getD (16 + IntKind.i64.wrap (M.cs.getD 7 0 - 1)).toNat 0) y := ⟨fun h => h.2, fun h => ⟨⟨by omega, by omega⟩, h⟩⟩
              have o2 : ReO S M.cs 2 y ↔ False := ⟨fun h => by have h1 := h.1; omega, fun h => h.elim⟩
              unfold reP2
              rw [e0, and_iff_right e3, o1, o2]
              simp only [or_assoc, or_false, false_or]
              exact Iff.rfl
          · refine RN.go 4 [] fun _ => RN.goP 33 [.ix 7, .rorow 0 7 0] [(0 + 7 * 1) = 7 * 1 + 0 ∧ 7 < M.cs.length, 7 = ((7 : Nat) : Int) ∧ 7 < M.cs.length] fun _ => RN.em (IntKind.i64.wrap ((M.cs.getD 7 0) - 2) ≥ 0) 55 (fun h78 => ?_) fun h78 => ?_
            · refine RN.go 5 [] fun _ => RN.em (IntKind.i64.wrap ((M.cs.getD 7 0) - 2) < 16) 58 (fun h79 => ?_) fun h79 => ?_
              · refine RN.go 1 [] fun _ => RN.draw [8] [] <| RD.goP [] [0, 1, 2, 3, 4, 5, 6] (ow 0 16 ++ [.nw, .ix ((16 + (IntKind.i64.wrap ((M.cs.getD 7 0) - 2))).toNat), .rorow 0 ((16 + (IntKind.i64.wrap ((M.cs.getD 7 0) - 2))).toNat) 0]) [(0 + ((16 + (IntKind.i64.wrap ((M.cs.getD 7 0) - 2))).toNat) * 1) = ((16 + (IntKind.i64.wrap ((M.cs.getD 7 0) - 2))).toNat) * 1 + 0 ∧ ((16 + (IntKind.i64.wrap ((M.cs.getD 7 0) - 2))).toNat) < M.cs.length, 16 + (IntKind.i64.wrap ((M.cs.getD 7 0) - 2)) = (((16 + (IntKind.i64.wrap ((M.cs.getD 7 0) - 2))).toNat : Nat) : Int) ∧ (16 + (IntKind.i64.wrap ((M.cs.getD 7 0) - 2))).toNat < M.cs.length, I64 (16 + (IntKind.i64.wrap ((M.cs.getD 7 0) - 2)))] <| RD.cp [] 7 (fun X_ => (rbody_any S (M.cs.getD ((16 + (IntKind.i64.wrap ((M.cs.getD 7 0) - 2))).toNat) 0) _ hSN)) ?_
                have hb81 := bodyAt_bd hSN (M.cs.getD ((16 + (IntKind.i64.wrap ((M.cs.getD 7 0) - 2))).toNat) 0)
                refine RD.one 8 (RDO.ct [] [] [0] (add_any la46 Aa47 ca48 Ta49 (bodyAt S (M.cs.getD ((16 + (IntKind.i64.wrap ((M.cs.getD 7 0) - 2))).toNat) 0)) 8 _ hsa50 hza51 (by omega) (by omega) (by omega)) ?_)
                rintro _ ⟨la82, Aa83, ca84, Ta85⟩ ⟨rfl, hsa86, hza87, hl88, hm89⟩
                dsimp only at hsa86 hza87 hl88 hm89
                refine RD.go [] [9] [] <| RD.fin <| RN.go 2 [] fun _ => RN.go 18 [] fun _ => ?_
                refine mt44 (la82, Aa83, ca84, Ta85) [0] [0] ?_
                try dsimp only
                refine ⟨hsa86, hza87, by omega, fun y => ?_⟩
                show y ∈ la82 ↔ _
                rw [hm89 y, hm53 y]
                have e0 : (0 ≤ (16 : Int) ∧ 16 ≤ y ∧ y < 16 + ((32 : Nat) : Int)) ↔ (16 ≤ y ∧ y < 48) := by constructor <;> (intro h; omega)
                have e3 : (M.cs.getD 1 0 = 1 ∨ M.cs.getD 1 0 = 2 ∨ M.cs.getD 1 0 = 6) := by omega
                have o1 : ReO S M.cs 1 y ↔ False := ⟨fun h => by have h1 := h.1; omega, fun h => h.elim⟩
                have o2 : ReO S M.cs 2 y ↔ BdP S (M.cs.getD (16 + IntKind.i64.wrap (M.cs.getD 7 0 - 2)).toNat 0) y := ⟨fun h => h.2, fun h => ⟨⟨by omega, by omega⟩, h⟩⟩
                unfold reP2
                rw [e0, and_iff_right e3, o1, o2]
                simp only [or_assoc, or_false, false_or]
                exact Iff.rfl
              · refine RN.go 4 [] fun _ => RN.go 18 [] fun _ => ?_
                refine mt44 (la46, Aa47, ca48, Ta49) [0] [0] ?_
                try dsimp only
                refine ⟨hsa50, hza51, by omega, fun y => ?_⟩
                show y ∈ la46 ↔ _
                rw [hm53 y]
                have e0 : (0 ≤ (16 : Int) ∧ 16 ≤ y ∧ y < 16 + ((32 : Nat) : Int)) ↔ (16 ≤ y ∧ y < 48) := by constructor <;> (intro h; omega)
                have e3 : (M.cs.getD 1 0 = 1 ∨ M.cs.getD 1 0 = 2 ∨ M.cs.getD 1 0 = 6) := by omega
                have o1 : ReO S M.cs 1 y ↔ False := ⟨fun h => by have h1 := h.1; omega, fun h => h.elim⟩
                have o2 : ReO S M.cs 2 y ↔ False := ⟨fun h => by have h1 := h.1; omega, fun h => h.elim⟩
                unfold reP2
                rw [e0, and_iff_right e3, o1, o2]
                simp only [or_assoc, or_false, false_or]
            · refine RN.go 9 [] fun _ => RN.go 18 [] fun _ => ?_
              refine mt44 (la46, Aa47, ca48, Ta49) [0] [0] ?_
              try dsimp only
              refine ⟨hsa50, hza51, by omega, fun y => ?_⟩
              show y ∈ la46 ↔ _
              rw [hm53 y]
              have e0 : (0 ≤ (16 : Int) ∧ 16 ≤ y ∧ y < 16 + ((32 : Nat) : Int)) ↔ (16 ≤ y ∧ y < 48) := by constructor <;> (intro h; omega)
              have e3 : (M.cs.getD 1 0 = 1 ∨ M.cs.getD 1 0 = 2 ∨ M.cs.getD 1 0 = 6) := by omega
              have o1 : ReO S M.cs 1 y ↔ False := ⟨fun h => by have h1 := h.1; omega, fun h => h.elim⟩
              have o2 : ReO S M.cs 2 y ↔ False := ⟨fun h => by have h1 := h.1; omega, fun h => h.elim⟩
              unfold reP2
              rw [e0, and_iff_right e3, o1, o2]
              simp only [or_assoc, or_false, false_or]
        · refine RN.go 9 [] fun _ => RN.goP 33 [.ix 7, .rorow 0 7 0] [(0 + 7 * 1) = 7 * 1 + 0 ∧ 7 < M.cs.length, 7 = ((7 : Nat) : Int) ∧ 7 < M.cs.length] fun _ => RN.em (IntKind.i64.wrap ((M.cs.getD 7 0) - 2) ≥ 0) 55 (fun h90 => ?_) fun h90 => ?_
          · refine RN.go 5 [] fun _ => RN.em (IntKind.i64.wrap ((M.cs.getD 7 0) - 2) < 16) 58 (fun h91 => ?_) fun h91 => ?_
            · refine RN.go 1 [] fun _ => RN.draw [8] [] <| RD.goP [] [0, 1, 2, 3, 4, 5, 6] (ow 0 16 ++ [.nw, .ix ((16 + (IntKind.i64.wrap ((M.cs.getD 7 0) - 2))).toNat), .rorow 0 ((16 + (IntKind.i64.wrap ((M.cs.getD 7 0) - 2))).toNat) 0]) [(0 + ((16 + (IntKind.i64.wrap ((M.cs.getD 7 0) - 2))).toNat) * 1) = ((16 + (IntKind.i64.wrap ((M.cs.getD 7 0) - 2))).toNat) * 1 + 0 ∧ ((16 + (IntKind.i64.wrap ((M.cs.getD 7 0) - 2))).toNat) < M.cs.length, 16 + (IntKind.i64.wrap ((M.cs.getD 7 0) - 2)) = (((16 + (IntKind.i64.wrap ((M.cs.getD 7 0) - 2))).toNat : Nat) : Int) ∧ (16 + (IntKind.i64.wrap ((M.cs.getD 7 0) - 2))).toNat < M.cs.length, I64 (16 + (IntKind.i64.wrap ((M.cs.getD 7 0) - 2)))] <| RD.cp [] 7 (fun X_ => (rbody_any S (M.cs.getD ((16 + (IntKind.i64.wrap ((M.cs.getD 7 0) - 2))).toNat) 0) _ hSN)) ?_
              have hb93 := bodyAt_bd hSN (M.cs.getD ((16 + (IntKind.i64.wrap ((M.cs.getD 7 0) - 2))).toNat) 0)
              refine RD.one 8 (RDO.ct [] [] [0] (add_any la46 Aa47 ca48 Ta49 (bodyAt S (M.cs.getD ((16 + (IntKind.i64.wrap ((M.cs.getD 7 0) - 2))).toNat) 0)) 8 _ hsa50 hza51 (by omega) (by omega) (by omega)) ?_)
              rintro _ ⟨la94, Aa95, ca96, Ta97⟩ ⟨rfl, hsa98, hza99, hl100, hm101⟩
              dsimp only at hsa98 hza99 hl100 hm101
              refine RD.go [] [9] [] <| RD.fin <| RN.go 2 [] fun _ => RN.go 18 [] fun _ => ?_
              refine mt44 (la94, Aa95, ca96, Ta97) [0] [0] ?_
              try dsimp only
              refine ⟨hsa98, hza99, by omega, fun y => ?_⟩
              show y ∈ la94 ↔ _
              rw [hm101 y, hm53 y]
              have e0 : (0 ≤ (16 : Int) ∧ 16 ≤ y ∧ y < 16 + ((32 : Nat) : Int)) ↔ (16 ≤ y ∧ y < 48) := by constructor <;> (intro h; omega)
              have e3 : (M.cs.getD 1 0 = 1 ∨ M.cs.getD 1 0 = 2 ∨ M.cs.getD 1 0 = 6) := by omega
              have o1 : ReO S M.cs 1 y ↔ False := ⟨fun h => by have h1 := h.1; omega, fun h => h.elim⟩
              have o2 : ReO S M.cs 2 y ↔ BdP S (M.cs.getD (16 + IntKind.i64.wrap (M.cs.getD 7 0 - 2)).toNat 0) y := ⟨fun h => h.2, fun h => ⟨⟨by omega, by omega⟩, h⟩⟩
              unfold reP2
              rw [e0, and_iff_right e3, o1, o2]
              simp only [or_assoc, or_false, false_or]
              exact Iff.rfl
            · refine RN.go 4 [] fun _ => RN.go 18 [] fun _ => ?_
              refine mt44 (la46, Aa47, ca48, Ta49) [0] [0] ?_
              try dsimp only
              refine ⟨hsa50, hza51, by omega, fun y => ?_⟩
              show y ∈ la46 ↔ _
              rw [hm53 y]
              have e0 : (0 ≤ (16 : Int) ∧ 16 ≤ y ∧ y < 16 + ((32 : Nat) : Int)) ↔ (16 ≤ y ∧ y < 48) := by constructor <;> (intro h; omega)
              have e3 : (M.cs.getD 1 0 = 1 ∨ M.cs.getD 1 0 = 2 ∨ M.cs.getD 1 0 = 6) := by omega
              have o1 : ReO S M.cs 1 y ↔ False := ⟨fun h => by have h1 := h.1; omega, fun h => h.elim⟩
              have o2 : ReO S M.cs 2 y ↔ False := ⟨fun h => by have h1 := h.1; omega, fun h => h.elim⟩
              unfold reP2
              rw [e0, and_iff_right e3, o1, o2]
              simp only [or_assoc, or_false, false_or]
          · refine RN.go 9 [] fun _ => RN.go 18 [] fun _ => ?_
            refine mt44 (la46, Aa47, ca48, Ta49) [0] [0] ?_
            try dsimp only
            refine ⟨hsa50, hza51, by omega, fun y => ?_⟩
            show y ∈ la46 ↔ _
            rw [hm53 y]
            have e0 : (0 ≤ (16 : Int) ∧ 16 ≤ y ∧ y < 16 + ((32 : Nat) : Int)) ↔ (16 ≤ y ∧ y < 48) := by constructor <;> (intro h; omega)
            have e3 : (M.cs.getD 1 0 = 1 ∨ M.cs.getD 1 0 = 2 ∨ M.cs.getD 1 0 = 6) := by omega
            have o1 : ReO S M.cs 1 y ↔ False := ⟨fun h => by have h1 := h.1; omega, fun h => h.elim⟩
            have o2 : ReO S M.cs 2 y ↔ False := ⟨fun h => by have h1 := h.1; omega, fun h => h.elim⟩
            unfold reP2
            rw [e0, and_iff_right e3, o1, o2]
            simp only [or_assoc, or_false, false_or]
      · refine RN.go 4 [] fun _ => RN.em (M.cs.getD 1 0 = 2) 38 (fun h102 => ?_) fun h102 => ?_
        · refine RN.go 9 [] fun _ => RN.ct [] [0] (add_any l2 A2 c2 T2 16 32 _ hs2 hz2 (by omega) (by omega) (by omega)) ?_
          rintro _ ⟨la103, Aa104, ca105, Ta106⟩ ⟨rfl, hsa107, hza108, hl109, hm110⟩
          dsimp only at hsa107 hza108 hl109 hm110
          refine RN.go 9 [] fun _ => RN.rounds 2 <| RN.goP 27 [.ix 7, .rorow 0 7 0] [(0 + 7 * 1) = 7 * 1 + 0 ∧ 7 < M.cs.length, 7 = ((7 : Nat) : Int) ∧ 7 < M.cs.length] fun _ => RN.em (IntKind.i64.wrap ((M.cs.getD 7 0) - 1) ≥ 0) 55 (fun h111 => ?_) fun h111 => ?_
          · refine RN.go 5 [] fun _ => RN.em (IntKind.i64.wrap ((M.cs.getD 7 0) - 1) < 16) 58 (fun h112 => ?_) fun h112 => ?_
            · refine RN.go 1 [] fun _ => RN.draw [8] [] <| RD.goP [] [0, 1, 2, 3, 4, 5, 6] (ow 0 16 ++ [.nw, .ix ((16 + (IntKind.i64.wrap ((M.cs.getD 7 0) - 1))).toNat), .rorow 0 ((16 + (IntKind.i64.wrap ((M.cs.getD 7 0) - 1))).toNat) 0]) [(0 + ((16 + (IntKind.i64.wrap ((M.cs.getD 7 0) - 1))).toNat) * 1) = ((16 + (IntKind.i64.wrap ((M.cs.getD 7 0) - 1))).toNat) * 1 + 0 ∧ ((16 + (IntKind.i64.wrap ((M.cs.getD 7 0) - 1))).toNat) < M.cs.length, 16 + (IntKind.i64.wrap ((M.cs.getD 7 0) - 1)) = (((16 + (IntKind.i64.wrap ((M.cs.getD 7 0) - 1))).toNat : Nat) : Int) ∧ (16 + (IntKind.i64.wrap ((M.cs.getD 7 0) - 1))).toNat < M.cs.length, I64 (16 + (IntKind.i64.wrap ((M.cs.getD 7 0) - 1)))] <| RD.cp [] 7 (fun X_ => (rbody_any S (M.cs.getD ((16 + (IntKind.i64.wrap ((M.cs.getD 7 0) - 1))).toNat) 0) _ hSN)) ?_
              have hb114 := bodyAt_bd hSN (M.cs.getD ((16 + (IntKind.i64.wrap ((M.cs.getD 7 0) - 1))).toNat) 0)
              refine RD.one 8 (RDO.ct [] [] [0] (add_any la103 Aa104 ca105 Ta106 (bodyAt S (M.cs.getD ((16 + (IntKind.i64.wrap ((M.cs.getD 7 0) - 1))).toNat) 0)) 8 _ hsa107 hza108 (by omega) (by omega) (by omega)) ?_)
              rintro _ ⟨la115, Aa116, ca117, Ta118⟩ ⟨rfl, hsa119, hza120, hl121, hm122⟩
              dsimp only at hsa119 hza120 hl121 hm122
              refine RD.go [] [9] [] <| RD.fin <| RN.go 2 [] fun _ => RN.goP 33 [.ix 7, .rorow 0 7 0] [(0 + 7 * 1) = 7 * 1 + 0 ∧ 7 < M.cs.length, 7 = ((7 : Nat) : Int) ∧ 7 < M.cs.length] fun _ => RN.em (IntKind.i64.wrap ((M.cs.getD 7 0) - 2) ≥ 0) 55 (fun h123 => ?_) fun h123 => ?_
              · refine RN.go 5 [] fun _ => RN.em (IntKind.i64.wrap ((M.cs.getD 7 0) - 2) < 16) 58 (fun h124 => ?_) fun h124 => ?_
                · refine RN.go 1 [] fun _ => RN.draw [8] [] <| RD.goP [] [0, 1, 2, 3, 4, 5, 6] (ow 0 16 ++ [.nw, .ix ((16 + (IntKind.i64.wrap ((M.cs.getD 7 0) - 2))).toNat), .rorow 0 ((16 + (IntKind.i64.wrap ((M.cs.getD 7 0) - 2))).toNat) 0]) [(0 + ((16 + (IntKind.i64.wrap ((M.cs.getD 7 0) - 2))).toNat) * 1) = ((16 + (IntKind.i64.wrap ((M.cs.getD 7 0) - 2))).toNat) * 1 + 0 ∧ ((16 + (IntKind.i64.wrap ((M.cs.getD 7 0) - 2))).toNat) < M.cs.length, 16 + (IntKind.i64.wrap ((M.cs.getD 7 0) - 2)) = (((16 + (IntKind.i64.wrap ((M.cs.getD 7 0) - 2))).toNat : Nat) : Int) ∧ (16 + (IntKind.i64.wrap ((M.cs.getD 7 0) - 2))).toNat < M.cs.length, I64 (16 + (IntKind.i64.wrap ((M.cs.getD 7 0) - 2)))] <| RD.cp [] 7 (fun X_ => (rbody_any S (M.cs.getD ((16 + (IntKind.i64.wrap ((M.cs.getD 7 0) - 2))).toNat) 0) _ hSN)) ?_
                  have hb126 := bodyAt_bd hSN (M.cs.getD ((16 + (IntKind.i64.wrap ((M.cs.getD 7 0) - 2))).toNat) 0)
                  refine RD.one 8 (RDO.ct [] [] [0] (add_any la115 Aa116 ca117 Ta118 (bodyAt S (M.cs.getD ((16 + (IntKind.i64.wrap ((M.cs.getD 7 0) - 2))).toNat) 0)) 8 _ hsa119 hza120 (by omega) (by omega) (by omega)) ?_)
                  rintro _ ⟨la127, Aa128, ca129, Ta130⟩ ⟨rfl, hsa131, hza132, hl133, hm134⟩
                  dsimp only at hsa131 hza132 hl133 hm134
                  refine RD.go [] [9] [] <| RD.fin <| RN.go 2 [] fun _ => RN.go 18 [] fun _ => ?_
                  refine mt44 (la127, Aa128, ca129, Ta130) [0] [0] ?_
                  try dsimp only
                  refine ⟨hsa131, hza132, by omega, fun y => ?_⟩
                  show y ∈ la127 ↔ _
                  rw [hm134 y, hm122 y, hm110 y]
                  have e0 : (0 ≤ (16 : Int) ∧ 16 ≤ y ∧ y < 16 + ((32 : Nat) : Int)) ↔ (16 ≤ y ∧ y < 48) := by constructor <;> (intro h; omega)
                  have e3 : (M.cs.getD 1 0 = 1 ∨ M.cs.getD 1 0 = 2 ∨ M.cs.getD 1 0 = 6) := by omega
                  have o1 : ReO S M.cs 1 y ↔ BdP S (M.cs.getD (16 + IntKind.i64.wrap (M.cs.getD 7 0 - 1)).toNat 0) y := ⟨fun h => h.2, fun h => ⟨⟨by omega, by omega⟩, h⟩⟩
                  have o2 : ReO S M.cs 2 y ↔ BdP S (M.cs.getD (16 + IntKind.i64.wrap (M.cs.getD 7 0 - 2)).toNat 0) y := ⟨fun h => h.2, fun h => ⟨⟨by omega, by omega⟩, h⟩⟩
                  unfold reP2
                  rw [e0, and_iff_right e3, o1, o2]
                  simp only [or_assoc, or_false, false_or]
                  exact Iff.rfl
                · refine RN.go 4 [] fun _ => RN.go 18 [] fun _ => ?_
                  refine mt44 (la115, Aa116, ca117, Ta118) [0] [0] ?_
                  try dsimp only
                  refine ⟨hsa119, hza120, by omega, fun y => ?_⟩
                  show y ∈ la115 ↔ _
                  rw [hm122 y, hm110 y]
                  have e0 : (0 ≤ (16 : Int) ∧ 16 ≤ y ∧ y < 16 + ((32 : Nat) : Int)) ↔ (16 ≤ y ∧ y < 48) := by constructor <;> (intro h; omega)
                  have e3 : (M.cs.getD 1 0 = 1 ∨ M.cs.getD 1 0 = 2 ∨ M.cs.getD 1 0 = 6) := by omega
                  have o1 : ReO S M.cs 1 y ↔ BdP S (M.cs.getD (16 + IntKind.i64.wrap (M.cs.getD 7 0 - 1)).toNat 0) y := ⟨fun h => h.2, fun h => ⟨⟨by omega, by omega⟩, h⟩⟩
                  have o2 : ReO S M.cs 2 y ↔ False := ⟨fun h => by have h1 := h.1; omega, fun h => h.elim⟩
                  unfold reP2
                  rw [e0, and_iff_right e3, o1, o2]
                  simp only [or_assoc, or_false, false_or]
                  exact Iff.rfl
              · refine RN.go 9 [] fun _ => RN.go 18 [] fun _ => ?_
                refine mt44 (la115, Aa116, ca117, Ta118) [0] [0] ?_
                try dsimp only
                refine ⟨hsa119, hza120, by omega, fun y => ?_⟩
                show y ∈ la115 ↔ _
                rw [hm122 y, hm110 y]
                have e0 : (0 ≤ (16 : Int) ∧ 16 ≤ y ∧ y < 16 + ((32 : Nat) : Int)) ↔ (16 ≤ y ∧ y < 48) := by constructor <;> (intro h; omega)
                have e3 : (M.cs.getD 1 0 = 1 ∨ M.cs.getD 1 0 = 2 ∨ M.cs.getD 1 0 = 6) := by omega
                have o1 : ReO S M.cs 1 y ↔ BdP S (M.cs.getD (16 + IntKind.i64.wrap (M.cs.getD 7 0 - 1)).toNat 0) y := ⟨fun h => h.2, fun h => ⟨⟨by omega, by omega⟩, h⟩⟩
                have o2 : ReO S M.cs 2 y ↔ False := ⟨fun h => by have h1 := h.1; omega, fun h => h.elim⟩
                unfold reP2
                rw [e0, and_iff_right e3, o1, o2]
                simp only [or_assoc, or_false, false_or]
                exact Iff.rfl
            · refine RN.go 4 [] fun _ => RN.goP 33 [.ix 7, .rorow 0 7 0] [(0 + 7 * 1) = 7 * 1 + 0 ∧ 7 < M.cs.length, 7 = ((7 : Nat) : Int) ∧ 7 < M.cs.length] fun _ => RN.em (IntKind.i64.wrap ((M.cs.getD 7 0) - 2) ≥ 0) 55 (fun h135 => ?_) fun h135 => ?_
              · refine RN.go 5 [] fun _ => RN.em (IntKind.i64.wrap ((M.cs.getD 7 0) - 2) < 16) 58 (fun h136 => ?_) fun h136 => ?_
                · refine RN.go 1 [] fun _ => RN.draw [8] [] <| RD.goP [] [0, 1, 2, 3, 4, 5, 6] (ow 0 16 ++ [.nw, .ix ((16 + (IntKind.i64.wrap ((M.cs.getD 7 0) - 2))).toNat), .rorow 0 ((16 + (IntKind.i64.wrap ((M.cs.getD 7 0) - 2))).toNat) 0]) [(0 + ((16 + (IntKind.i64.wrap ((M.cs.getD 7 0) - 2))).toNat) * 1) = ((16 + (IntKind.i64.wrap ((M.cs.getD 7 0) - 2))).toNat) * 1 + 0 ∧ ((16 + (IntKind.i64.wrap ((M.cs.getD 7 0) - 2))).toNat) < M.cs.length, 16 + (IntKind.i64.wrap ((M.cs.getD 7 0) - 2)) = (((16 + (IntKind.i64.wrap ((M.cs.getD 7 0) - 2))).toNat : Nat) : Int) ∧ (16 + (IntKind.i64.wrap ((M.cs.getD 7 0) - 2))).toNat < M.cs.length, I64 (16 + (IntKind.i64.wrap ((M.cs.getD 7 0) - 2)))] <| RD.cp [] 7 (fun X_ => (rbody_any S (M.cs.getD ((16 + (IntKind.i64.wrap ((M.cs.getD 7 0) - 2))).toNat) 0) _ hSN)) ?_
                  have hb138 := bodyAt_bd hSN (M.cs.getD ((16 + (IntKind.i64.wrap ((M.cs.getD 7 0) - 2))).toNat) 0)
                  refine RD.one 8 (RDO.ct [] [] [0] (add_any la103 Aa104 ca105 Ta106 (bodyAt S (M.cs.getD ((16 + (IntKind.i64.wrap ((M.cs.getD 7 0) - 2))).toNat) 0)) 8 _ hsa107 hza108 (by omega) (by omega) (by omega)) ?_)
                  rintro _ ⟨la139, Aa140, ca141, Ta142⟩ ⟨rfl, hsa143, hza144, hl145, hm146⟩
                  dsimp only at hsa143 hza144 hl145 hm146
                  refine RD.go [] [9] [] <| RD.fin <| RN.go 2 [] fun _ => RN.go 18 [] fun _ => ?_
                  refine mt44 (la139, Aa140, ca141, Ta142) [0] [0] ?_
                  try dsimp only
                  refine ⟨hsa143, hza144, by omega, fun y => ?_⟩
                  show y ∈ la139 ↔ _
                  rw [hm146 y, hm110 y]
                  have e0 : (0 ≤ (16 : Int) ∧ 16 ≤ y ∧ y < 16 + ((32 : Nat) : Int)) ↔ (16 ≤ y ∧ y < 48) := by constructor <;> (intro h; omega)
                  have e3 : (M.cs.getD 1 0 = 1 ∨ M.cs.getD 1 0 = 2 ∨ M.cs.getD 1 0 = 6) := by omega
                  have o1 : ReO S M.cs 1 y ↔ False := ⟨fun h => by have h1 := h.1; omega, fun h => h.elim⟩
                  have o2 : ReO S M.cs 2 y ↔ BdP S (M.cs.getD (16 + IntKind.i64.wrap (M.cs.getD 7 0 - 2)).toNat 0) y := ⟨fun h => h.2, fun h => ⟨⟨by omega, by omega⟩, h⟩⟩
                  unfold reP2
                  rw [e0, and_iff_right e3, o1, o2]
                  simp only [or_assoc, or_false, false_or]
                  exact Iff.rfl
                · refine RN.go 4 [] fun _ => RN.go 18 [] fun _ => ?_
                  refine mt44 (la103, Aa104, ca105, Ta106) [0] [0] ?_
                  try dsimp only
                  refine ⟨hsa107, hza108, by omega, fun y => ?_⟩
                  show y ∈ la103 ↔ _
                  rw [hm110 y]
                  have e0 : (0 ≤ (16 : Int) ∧ 16 ≤ y ∧ y < 16 + ((32 : Nat) : Int)) ↔ (16 ≤ y ∧ y < 48) := by constructor <;> (intro h; omega)
                  have e3 : (M.cs.getD 1 0 = 1 ∨ M.cs.getD 1 0 = 2 ∨ M.cs.getD 1 0 = 6) := by omega
                  have o1 : ReO S M.cs 1 y ↔ False := ⟨fun h => by have h1 := h.1; omega, fun h => h.elim⟩
                  have o2 : ReO S M.cs 2 y ↔ False := ⟨fun h => by have h1 := h.1; omega, fun h => h.elim⟩
                  unfold reP2
                  rw [e0, and_iff_right e3, o1, o2]
                  simp only [or_assoc, or_false, false_or]
              · refine RN.go 9 [] fun _ => RN.go 18 [] fun _ => ?_
                refine mt44 (la103, Aa104, ca105, Ta106) [0] [0] ?_
                try dsimp only
                refine ⟨hsa107, hza108, by omega, fun y => ?_⟩
                show y ∈ la103 ↔ _
                rw [hm110 y]
                have e0 : (0 ≤ (16 : Int) ∧ 16 ≤ y ∧ y < 16 + ((32 : Nat) : Int)) ↔ (16 ≤ y ∧ y < 48) := by constructor <;> (intro h; omega)
                have e3 : (M.cs.getD 1 0 = 1 ∨ M.cs.getD 1 0 = 2 ∨ M.cs.getD 1 0 = 6) := by omega
                have o1 : ReO S M.cs 1 y ↔ False := ⟨fun h => by have h1 := h.1; omega, fun h => h.elim⟩
                have o2 : ReO S M.cs 2 y ↔ False := ⟨fun h => by have h1 := h.1; omega, fun h => h.elim⟩
                unfold reP2
                rw [e0, and_iff_right e3, o1, o2]
                simp only [or_assoc, or_false, false_or]
          · refine RN.go 9 [] fun _ => RN.goP 33 [.ix 7, .rorow 0 7 0] [(0 + 7 * 1) = 7 * 1 + 0 ∧ 7 < M.cs.length, 7 = ((7 : Nat) : Int) ∧ 7 < M.cs.length] fun _ => RN.em (IntKind.i64.wrap ((M.cs.getD 7 0) - 2) ≥ 0) 55 (fun h147 => ?_) fun h147 => ?_
            · refine RN.go 5 [] fun _ => RN.em (IntKind.i64.wrap ((M.cs.getD 7 0) - 2) < 16) 58 (fun h148 => ?_) fun h148 => ?_
              · refine RN.go 1 [] fun _ => RN.draw [8] [] <| RD.goP [] [0, 1, 2, 3, 4, 5, 6] (ow 0 16 ++ [.nw, .ix ((16 + (IntKind.i64.wrap ((M.cs.getD 7 0) - 2))).toNat), .rorow 0 ((16 + (IntKind.i64.wrap ((M.cs.getD 7 0) - 2))).toNat) 0]) [(0 + ((16 + (IntKind.i64.wrap ((M.cs.getD 7 0) - 2))).toNat) * 1) = ((16 + (IntKind.i64.wrap ((M.cs.getD 7 0) - 2))).toNat) * 1 + 0 ∧ ((16 + (IntKind.i64.wrap ((M.cs.getD 7 0) - 2))).toNat) < M.cs.length, 16 + (IntKind.i64.wrap ((M.cs.getD 7 0) - 2)) = (((16 + (IntKind.i64.wrap ((M.cs.getD 7 0) - 2))).toNat : Nat) : Int) ∧ (16 + (IntKind.i64.wrap ((M.cs.getD 7 0) - 2))).toNat < M.cs.length, I64 (16 + (IntKind.i64.wrap ((M.cs.getD 7 0) - 2)))] <| RD.cp [] 7 (fun X_ => (rbody_any S (M.cs.getD ((16 + (IntKind.i64.wrap ((M.cs.getD 7 0) - 2))).toNat) 0) _ hSN)) ?_
                have hb150 := bodyAt_bd hSN (M.cs.getD ((16 + (IntKind.i64.wrap ((M.cs.getD 7 0) - 2))).toNat) 0)
                refine RD.one 8 (RDO.ct [] [] [0] (add_any la103 Aa104 ca105 Ta106 (bodyAt S (M.cs.getD ((16 + (IntKind.i64.wrap ((M.cs.getD 7 0) - 2))).toNat) 0)) 8 _ hsa107 hza108 (by omega) (by omega) (by omega)) ?_)
                rintro _ ⟨la151, Aa152, ca153, Ta154⟩ ⟨rfl, hsa155, hza156, hl157, hm158⟩
                dsimp only at hsa155 hza156 hl157 hm158
                refine RD.go [] [9] [] <| RD.fin <| RN.go 2 [] fun _ => RN.go 18 [] fun _ => ?_
                refine mt44 (la151, Aa152, ca153, Ta154) [0] [0] ?_
                try dsimp only
                refine ⟨hsa155, hza156, by omega, fun y => ?_⟩
                show y ∈ la151 ↔ _
                rw [hm158 y, hm110 y]
                have e0 : (0 ≤ (16 : Int) ∧ 16 ≤ y ∧ y < 16 + ((32 : Nat) : Int)) ↔ (16 ≤ y ∧ y < 48) := by constructor <;> (intro h; omega)
                have e3 : (M.cs.getD 1 0 = 1 ∨ M.cs.getD 1 0 = 2 ∨ M.cs.getD 1 0 = 6) := by omega
                have o1 : ReO S M.cs 1 y ↔ False := ⟨fun h => by have h1 := h.1; omega, fun h => h.elim⟩
                have o2 : ReO S M.cs 2 y ↔ BdP S (M.cs.getD (16 + IntKind.i64.wrap (M.cs.getD 7 0 - 2)).toNat 0) y := ⟨fun h => h.2, fun h => ⟨⟨by omega, by omega⟩, h⟩⟩
                unfold reP2
                rw [e0, and_iff_right e3, o1, o2]
                simp only [or_assoc, or_false, false_or]
                exact Iff.rfl
              · refine RN.go 4 [] fun _ => RN.go 18 [] fun _ => ?_
                refine mt44 (la103, Aa104, ca105, Ta106) [0] [0] ?_
                try dsimp only
                refine ⟨hsa107, hza108, by omega, fun y => ?_⟩
                show y ∈ la103 ↔ _
                rw [hm110 y]
                have e0 : (0 ≤ (16 : Int) ∧ 16 ≤ y ∧ y < 16 + ((32 : Nat) : Int)) ↔ (16 ≤ y ∧ y < 48) := by constructor <;> (intro h; omega)
                have e3 : (M.cs.getD 1 0 = 1 ∨ M.cs.getD 1 0 = 2 ∨ M.cs.getD 1 0 = 6) := by omega
                have o1 : ReO S M.cs 1 y ↔ False := ⟨fun h => by have h1 := h.1; omega, fun h => h.elim⟩
                have o2 : ReO S M.cs 2 y ↔ False := ⟨fun h => by have h1 := h.1; omega, fun h => h.elim⟩
                unfold reP2
                rw [e0, and_iff_right e3, o1, o2]
                simp only [or_assoc, or_false, false_or]
            · refine RN.go 9 [] fun _ => RN.go 18 [] fun _ => ?_
              refine mt44 (la103, Aa104, ca105, Ta106) [0] [0] ?_
              try dsimp only
              refine ⟨hsa107, hza108, by omega, fun y => ?_⟩
              show y ∈ la103 ↔ _
              rw [hm110 y]
              have e0 : (0 ≤ (16 : Int) ∧ 16 ≤ y ∧ y < 16 + ((32 : Nat) : Int)) ↔ (16 ≤ y ∧ y < 48) := by constructor <;> (intro h; omega)
              have e3 : (M.cs.getD 1 0 = 1 ∨ M.cs.getD 1 0 = 2 ∨ M.cs.getD 1 0 = 6) := by omega
              have o1 : ReO S M.cs 1 y ↔ False := ⟨fun h => by have h1 := h.1; omega, fun h => h.elim⟩
              have o2 : ReO S M.cs 2 y ↔ False := ⟨fun h => by have h1 := h.1; omega, fun h => h.elim⟩
              unfold reP2
              rw [e0, and_iff_right e3, o1, o2]
              simp only [or_assoc, or_false, false_or]
        · refine RN.go 5 [] fun _ => RN.em (M.cs.getD 1 0 = 6) 41 (fun h159 => ?_) fun h159 => ?_
          · refine RN.go 4 [] fun _ => RN.ct [] [0] (add_any l2 A2 c2 T2 16 32 _ hs2 hz2 (by omega) (by omega) (by omega)) ?_
            rintro _ ⟨la160, Aa161, ca162, Ta163⟩ ⟨rfl, hsa164, hza165, hl166, hm167⟩
            dsimp only at hsa164 hza165 hl166 hm167
            refine RN.go 9 [] fun _ => RN.rounds 2 <| RN.goP 27 [.ix 7, .rorow 0 7 0] [(0 + 7 * 1) = 7 * 1 + 0 ∧ 7 < M.cs.length, 7 = ((7 : Nat) : Int) ∧ 7 < M.cs.length] fun _ => RN.em (IntKind.i64.wrap ((M.cs.getD 7 0) - 1) ≥ 0) 55 (fun h168 => ?_) fun h168 => ?_
            · refine RN.go 5 [] fun _ => RN.em (IntKind.i64.wrap ((M.cs.getD 7 0) - 1) < 16) 58 (fun h169 => ?_) fun h169 => ?_
              · refine RN.go 1 [] fun _ => RN.draw [8] [] <| RD.goP [] [0, 1, 2, 3, 4, 5, 6] (ow 0 16 ++ [.nw, .ix ((16 + (IntKind.i64.wrap ((M.cs.getD 7 0) - 1))).toNat), .rorow 0 ((16 + (IntKind.i64.wrap ((M.cs.getD 7 0) - 1))).toNat) 0]) [(0 + ((16 + (IntKind.i64.wrap ((M.cs.getD 7 0) - 1))).toNat) * 1) = ((16 + (IntKind.i64.wrap ((M.cs.getD 7 0) - 1))).toNat) * 1 + 0 ∧ ((16 + (IntKind.i64.wrap ((M.cs.getD 7 0) - 1))).toNat) < M.cs.length, 16 + (IntKind.i64.wrap ((M.cs.getD 7 0) - 1)) = (((16 + (IntKind.i64.wrap ((M.cs.getD 7 0) - 1))).toNat : Nat) : Int) ∧ (16 + (IntKind.i64.wrap ((M.cs.getD 7 0) - 1))).toNat < M.cs.length, I64 (16 + (IntKind.i64.wrap ((M.cs.getD 7 0) - 1)))] <| RD.cp [] 7 (fun X_ => (rbody_any S (M.cs.getD ((16 + (IntKind.i64.wrap ((M.cs.getD 7 0) - 1))).toNat) 0) _ hSN)) ?_
                have hb171 := bodyAt_bd hSN (M.cs.getD ((16 + (IntKind.i64.wrap ((M.cs.getD 7 0) - 1))).toNat) 0)
                refine RD.one 8 (RDO.ct [] [] [0] (add_any la160 Aa161 ca162 Ta163 (bodyAt S (M.cs.getD ((16 + (IntKind.i64.wrap ((M.cs.getD 7 0) - 1))).toNat) 0)) 8 _ hsa164 hza165 (by omega) (by omega) (by omega)) ?_)
                rintro _ ⟨la172, Aa173, ca174, Ta175⟩ ⟨rfl, hsa176, hza177, hl178, hm179⟩
                dsimp only at hsa176 hza177 hl178 hm179
                refine RD.go [] [9] [] <| RD.fin <| RN.go 2 [] fun _ => RN.goP 33 [.ix 7, .rorow 0 7 0] [(0 + 7 * 1) = 7 * 1 + 0 ∧ 7 < M.cs.length, 7 = ((7 : Nat) : Int) ∧ 7 < M.cs.length] fun _ => RN.em (IntKind.i64.wrap ((M.cs.getD 7 0) - 2) ≥ 0) 55 (fun h180 => ?_) fun h180 => ?_
                · refine RN.go 5 [] fun _ => RN.em (IntKind.i64.wrap ((M.cs.getD 7 0) - 2) < 16) 58 (fun h181 => ?_) fun h181 => ?_
                  · refine RN.go 1 [] fun _ => RN.draw [8] [] <| RD.goP [] [0, 1, 2, 3, 4, 5, 6] (ow 0 16 ++ [.nw, .ix ((16 + (IntKind.i64.wrap ((M.cs.getD 7 0) - 2))).toNat), .rorow 0 ((16 + (IntKind.i64.wrap ((M.cs.getD 7 0) - 2))).toNat) 0]) [(0 + ((16 + (IntKind.i64.wrap ((M.cs.getD 7 0) - 2))).toNat) * 1) = ((16 + (IntKind.i64.wrap ((M.cs.getD 7 0) - 2))).toNat) * 1 + 0 ∧ ((16 + (IntKind.i64.wrap ((M.cs.getD 7 0) - 2))).toNat) < M.cs.length, 16 + (IntKind.i64.wrap ((M.cs.getD 7 0) - 2)) = (((16 + (IntKind.i64.wrap ((M.cs.getD 7 0) - 2))).toNat : Nat) : Int) ∧ (16 + (IntKind.i64.wrap ((M.cs.getD 7 0) - 2))).toNat < M.cs.length, I64 (16 + (IntKind.i64.wrap ((M.cs.getD 7 0) - 2)))] <| RD.cp [] 7 (fun X_ => (rbody_any S (M.cs.getD ((16 + (IntKind.i64.wrap ((M.cs.getD 7 0) - 2))).toNat) 0) _ hSN)) ?_
                    have hb183 := bodyAt_bd hSN (M.cs.getD ((16 + (IntKind.i64.wrap ((M.cs.getD 7 0) - 2))).toNat) 0)
                    refine RD.one 8 (RDO.ct [] [] [0] (add_any la172 Aa173 ca174 Ta175 (bodyAt S (M.cs.getD ((16 + (IntKind.i64.wrap ((M.cs.getD 7 0) - 2))).toNat) 0)) 8 _ hsa176 hza177 (by omega) (by omega) (by omega)) ?_)
                    rintro _ ⟨la184, Aa185, ca186, Ta187⟩ ⟨rfl, hsa188, hza189, hl190, hm191⟩
                    dsimp only at hsa188 hza189 hl190 hm191
                    refine RD.go [] [9] [] <| RD.fin <| RN.go 2 [] fun _ => RN.go 18 [] fun _ => ?_
                    refine mt44 (la184, Aa185, ca186, Ta187) [0] [0] ?_
                    try dsimp only
                    refine ⟨hsa188, hza189, by omega, fun y => ?_⟩
                    show y ∈ la184 ↔ _
                    rw [hm191 y, hm179 y, hm167 y]
                    have e0 : (0 ≤ (16 : Int) ∧ 16 ≤ y ∧ y < 16 + ((32 : Nat) : Int)) ↔ (16 ≤ y ∧ y < 48) := by constructor <;> (intro h; omega)
                    have e3 : (M.cs.getD 1 0 = 1 ∨ M.cs.getD 1 0 = 2 ∨ M.cs.getD 1 0 = 6) := by omega
                    have o1 : ReO S M.cs 1 y ↔ BdP S (M.cs.getD (16 + IntKind.i64.wrap (M.cs.getD 7 0 - 1)).toNat 0) y := ⟨fun h => h.2, fun h => ⟨⟨by omega, by omega⟩, h⟩⟩
                    have o2 : ReO S M.cs 2 y ↔ BdP S (M.cs.getD (16 + IntKind.i64.wrap (M.cs.getD 7 0 - 2)).toNat 0) y := ⟨fun h => h.2, fun h => ⟨⟨by omega, by omega⟩, h⟩⟩
                    unfold reP2
                    rw [e0, and_iff_right e3, o1, o2]
                    simp only [or_assoc, or_false, false_or]
                    exact Iff.rfl
                  · refine RN.go 4 [] fun _ => RN.go 18 [] fun _ => ?_
                    refine mt44 (la172, Aa173, ca174, Ta175) [0] [0] ?_
                    try dsimp only
                    refine ⟨hsa176, hza177, by omega, fun y => ?_⟩
                    show y ∈ la172 ↔ _
                    rw [hm179 y, hm167 y]
                    have e0 : (0 ≤ (16 : Int) ∧ 16 ≤ y ∧ y < 16 + ((32 : Nat) : Int)) ↔ (16 ≤ y ∧ y < 48) := by constructor <;> (intro h; omega)
                    have e3 : (M.cs.getD 1 0 = 1 ∨ M.cs.getD 1 0 = 2 ∨ M.cs.getD 1 0 = 6) := by omega
                    have o1 : ReO S M.cs 1 y ↔ BdP S (M.cs.getD (16 + IntKind.i64.wrap (M.cs.getD 7 0 - 1)).toNat 0) y := ⟨fun h => h.2, fun h => ⟨⟨by omega, by omega⟩, h⟩⟩
                    have o2 : ReO S M.cs 2 y ↔ False := ⟨fun h => by have h1 := h.1; omega, fun h => h.elim⟩
                    unfold reP2
                    rw [e0, and_iff_right e3, o1, o2]
                    simp only [or_assoc, or_false, false_or]
                    exact Iff.rfl
                · refine RN.go 9 [] fun _ => RN.go 18 [] fun _ => ?_
                  refine mt44 (la172, Aa173, ca174, Ta175) [0] [0] ?_
                  try dsimp only
                  refine ⟨hsa176, hza177, by omega, fun y => ?_⟩
                  show y ∈ la172 ↔ _
                  rw [hm179 y, hm167 y]
                  have e0 : (0 ≤ (16 : Int) ∧ 16 ≤ y ∧ y < 16 + ((32 : Nat) : Int)) ↔ (16 ≤ y ∧ y < 48) := by constructor <;> (intro h; omega)
                  have e3 : (M.cs.getD 1 0 = 1 ∨ M.cs.getD 1 0 = 2 ∨ M.cs.getD 1 0 = 6) := by omega
                  have o1 : ReO S M.cs 1 y ↔ BdP S (M.cs.getD (16 + IntKind.i64.wrap (M.cs.getD 7 0 - 1)).toNat 0) y := ⟨fun h => h.2, fun h => ⟨⟨by omega, by omega⟩, h⟩⟩
                  have o2 : ReO S M.cs 2 y ↔ False := ⟨fun h => by have h1 := h.1; omega, fun h => h.elim⟩
                  unfold reP2
                  rw [e0, and_iff_right e3, o1, o2]
                  simp only [or_assoc, or_false, false_or]
                  exact Iff.rfl
              · refine RN.go 4 [] fun _ => RN.goP 33 [.ix 7, .rorow 0 7 0] [(0 + 7 * 1) = 7 * 1 + 0 ∧ 7 < M.cs.length, 7 = ((7 : Nat) : Int) ∧ 7 < M.cs.length] fun _ => RN.em (IntKind.i64.wrap ((M.cs.getD 7 0) - 2) ≥ 0) 55 (fun h192 => ?_) fun h192 => ?_
                · refine RN.go 5 [] fun _ => RN.em (IntKind.i64.wrap ((M.cs.getD 7 0) - 2) < 16) 58 (fun h193 => ?_) fun h193 => ?_
                  · refine RN.go 1 [] fun _ => RN.draw [8] [] <| RD.goP [] [0, 1, 2, 3, 4, 5, 6] (ow 0 16 ++ [.nw, .ix ((16 + (IntKind.i64.wrap ((M.cs.getD 7 0) - 2))).toNat), .rorow 0 ((16 + (IntKind.i64.wrap ((M.cs.getD 7 0) - 2))).toNat) 0]) [(0 + ((16 + (IntKind.i64.wrap ((M.cs.getD 7 0) - 2))).toNat) * 1) = ((16 + (IntKind.i64.wrap ((M.cs.getD 7 0) - 2))).toNat) * 1 + 0 ∧ ((16 + (IntKind.i64.wrap ((M.cs.getD 7 0) - 2))).toNat) < M.cs.length, 16 + (IntKind.i64.wrap ((M.cs.getD 7 0) - 2)) = (((16 + (IntKind.i64.wrap ((M.cs.getD 7 0) - 2))).toNat : Nat) : Int) ∧ (16 + (IntKind.i64.wrap ((M.cs.getD 7 0) - 2))).toNat < M.cs.length, I64 (16 + (IntKind.i64.wrap ((M.cs.getD 7 0) - 2)))] <| RD.cp [] 7 (fun X_ => (rbody_any S (M.cs.getD ((16 + (IntKind.i64.wrap ((M.cs.getD 7 0) - 2))).toNat) 0) _ hSN)) ?_
                    have hb195 := bodyAt_bd hSN (M.cs.getD ((16 + (IntKind.i64.wrap ((M.cs.getD 7 0) - 2))).toNat) 0)
                    refine RD.one 8 (RDO.ct [] [] [0] (add_any la160 Aa161 ca162 Ta163 (bodyAt S (M.cs.getD ((16 + (IntKind.i64.wrap ((M.cs.getD 7 0) - 2))).toNat) 0)) 8 _ hsa164 hza165 (by omega) (by omega) (by omega)) ?_)
                    rintro _ ⟨la196, Aa197, ca198, Ta199⟩ ⟨rfl, hsa200, hza201, hl202, hm203⟩
                    dsimp only at hsa200 hza201 hl202 hm203
                    refine RD.go [] [9] [] <| RD.fin <| RN.go 2 [] fun _ => RN.go 18 [] fun _ => ?_
                    refine mt44 (la196, Aa197, ca198, Ta199) [0] [0] ?_
                    try dsimp only
                    refine ⟨hsa200, hza201, by omega, fun y => ?_⟩
                    show y ∈ la196 ↔ _
                    rw [hm203 y, hm167 y]
                    have e0 : (0 ≤ (16 : Int) ∧ 16 ≤ y ∧ y < 16 + ((32 : Nat) : Int)) ↔ (16 ≤ y ∧ y < 48) := by constructor <;> (intro h; omega)
                    have e3 : (M.cs.getD 1 0 = 1 ∨ M.cs.getD 1 0 = 2 ∨ M.cs.getD 1 0 = 6) := by omega
                    have o1 : ReO S M.cs 1 y ↔ False := ⟨fun h => by have h1 := h.1; omega, fun h => h.elim⟩
                    have o2 : ReO S M.cs 2 y ↔ BdP S (M.cs.getD (16 + IntKind.i64.wrap (M.cs.getD 7 0 - 2)).toNat 0) y := ⟨fun h => h.2, fun h => ⟨⟨by omega, by omega⟩, h⟩⟩
                    unfold reP2
                    rw [e0, and_iff_right e3, o1, o2]
                    simp only [or_assoc, or_false, false_or]
                    exact Iff.rfl
                  · refine RN.go 4 [] fun _ => RN.go 18 [] fun _ => ?_
                    refine mt44 (la160, Aa161, ca162, Ta163) [0] [0] ?_
                    try dsimp only
                    refine ⟨hsa164, hza165, by omega, fun y => ?_⟩
                    show y ∈ la160 ↔ _
                    rw [hm167 y]
                    have e0 : (0 ≤ (16 : Int) ∧ 16 ≤ y ∧ y < 16 + ((32 : Nat) : Int)) ↔ (16 ≤ y ∧ y < 48) := by constructor <;> (intro h; omega)
                    have e3 : (M.cs.getD 1 0 = 1 ∨ M.cs.getD 1 0 = 2 ∨ M.cs.getD 1 0 = 6) := by omega
                    have o1 : ReO S M.cs 1 y ↔ False := ⟨fun h => by have h1 := h.1; omega, fun h => h.elim⟩
                    have o2 : ReO S M.cs 2 y ↔ False := ⟨fun h => by have h1 := h.1; omega, fun h => h.elim⟩
                    unfold reP2
                    rw [e0, and_iff_right e3, o1, o2]
                    simp only [or_assoc, or_false, false_or]
                · refine RN.go 9 [] fun _ => RN.go 18 [] fun _ => ?_
                  refine mt44 (la160, Aa161, ca162, Ta163) [0] [0] ?_
                  try dsimp only
                  refine ⟨hsa164, hza165, by omega, fun y => ?_⟩
                  show y ∈ la160 ↔ _
                  rw [hm167 y]
                  have e0 : (0 ≤ (16 : Int) ∧ 16 ≤ y ∧ y < 16 + ((32 : Nat) : Int)) ↔ (16 ≤ y ∧ y < 48) := by constructor <;> (intro h; omega)
                  have e3 : (M.cs.getD 1 0 = 1 ∨ M.cs.getD 1 0 = 2 ∨ M.cs.getD 1 0 = 6) := by omega
                  have o1 : ReO S M.cs 1 y ↔ False := ⟨fun h => by have h1 := h.1; omega, fun h => h.elim⟩
                  have o2 : ReO S M.cs 2 y ↔ False := ⟨fun h => by have h1 := h.1; omega, fun h => h.elim⟩
                  unfold reP2
                  rw [e0, and_iff_right e3, o1, o2]
                  simp only [or_assoc, or_false, false_or]
            · refine RN.go 9 [] fun _ => RN.goP 33 [.ix 7, .rorow 0 7 0] [(0 + 7 * 1) = 7 * 1 + 0 ∧ 7 < M.cs.length, 7 = ((7 : Nat) : Int) ∧ 7 < M.cs.length] fun _ => RN.em (IntKind.i64.wrap ((M.cs.getD 7 0) - 2) ≥ 0) 55 (fun h204 => ?_) fun h204 => ?_
              · refine RN.go 5 [] fun _ => RN.em (IntKind.i64.wrap ((M.cs.getD 7 0) - 2) < 16) 58 (fun h205 => ?_) fun h205 => ?_
                · refine RN.go 1 [] fun _ => RN.draw [8] [] <| RD.goP [] [0, 1, 2, 3, 4, 5, 6] (ow 0 16 ++ [.nw, .ix ((16 + (IntKind.i64.wrap ((M.cs.getD 7 0) - 2))).toNat), .rorow 0 ((16 + (IntKind.i64.wrap ((M.cs.getD 7 0) - 2))).toNat) 0]) [(0 + ((16 + (IntKind.i64.wrap ((M.cs.getD 7 0) - 2))).toNat) * 1) = ((16 + (IntKind.i64.wrap ((M.cs.getD 7 0) - 2))).toNat) * 1 + 0 ∧ ((16 + (IntKind.i64.wrap ((M.cs.getD 7 0) - 2))).toNat) < M.cs.length, 16 + (IntKind.i64.wrap ((M.cs.getD 7 0) - 2)) = (((16 + (IntKind.i64.wrap ((M.cs.getD 7 0) - 2))).toNat : Nat) : Int) ∧ (16 + (IntKind.i64.wrap ((M.cs.getD 7 0) - 2))).toNat < M.cs.length, I64 (16 + (IntKind.i64.wrap ((M.cs.getD 7 0) - 2)))] <| RD.cp [] 7 (fun X_ => (rbody_any S (M.cs.getD ((16 + (IntKind.i64.wrap ((M.cs.getD 7 0) - 2))).toNat) 0) _ hSN)) ?_
                  have hb207 := bodyAt_bd hSN (M.cs.getD ((16 + (IntKind.i64.wrap ((M.cs.getD 7 0) - 2))).toNat) 0)
                  refine RD.one 8 (RDO.ct [] [] [0] (add_any la160 Aa161 ca162 Ta163 (bodyAt S (M.cs.getD ((16 + (IntKind.i64.wrap ((M.cs.getD 7 0) - 2))).toNat) 0)) 8 _ hsa164 hza165 (by omega) (by omega) (by omega)) ?_)
                  rintro _ ⟨la208, Aa209, ca210, Ta211⟩ ⟨rfl, hsa212, hza213, hl214, hm215⟩
                  dsimp only at hsa212 hza213 hl214 hm215
                  refine RD.go [] [9] [] <| RD.fin <| RN.go 2 [] fun _ => RN.go 18 [] fun _ => ?_
                  refine mt44 (la208, Aa209, ca210, Ta211) [0] [0] ?_
                  try dsimp only
                  refine ⟨hsa212, hza213, by omega, fun y => ?_⟩
                  show y ∈ la208 ↔ _
                  rw [hm215 y, hm167 y]
                  have e0 : (0 ≤ (16 : Int) ∧ 16 ≤ y ∧ y < 16 + ((32 : Nat) : Int)) ↔ (16 ≤ y ∧ y < 48) := by constructor <;> (intro h; omega)
                  have e3 : (M.cs.getD 1 0 = 1 ∨ M.cs.getD 1 0 = 2 ∨ M.cs.getD 1 0 = 6) := by omega
                  have o1 : ReO S M.cs 1 y ↔ False := ⟨fun h => by have h1 := h.1; omega, fun h => h.elim⟩
                  have o2 : ReO S M.cs 2 y ↔ BdP S (M.cs.getD (16 + IntKind.i64.wrap (M.cs.getD 7 0 - 2)).toNat 0) y := ⟨fun h => h.2, fun h => ⟨⟨by omega, by omega⟩, h⟩⟩
                  unfold reP2
                  rw [e0, and_iff_right e3, o1, o2]
                  simp only [or_assoc, or_false, false_or]
                  exact Iff.rfl
                · refine RN.go 4 [] fun _ => RN.go 18 [] fun _ => ?_
                  refine mt44 (la160, Aa161, ca162, Ta163) [0] [0] ?_
                  try dsimp only
                  refine ⟨hsa164, hza165, by omega, fun y => ?_⟩
                  show y ∈ la160 ↔ _
                  rw [hm167 y]
                  have e0 : (0 ≤ (16 : Int) ∧ 16 ≤ y ∧ y < 16 + ((32 : Nat) : Int)) ↔ (16 ≤ y ∧ y < 48) := by constructor <;> (intro h; omega)
                  have e3 : (M.cs.getD 1 0 = 1 ∨ M.cs.getD 1 0 = 2 ∨ M.cs.getD 1 0 = 6) := by omega
                  have o1 : ReO S M.cs 1 y ↔ False := ⟨fun h => by have h1 := h.1; omega, fun h => h.elim⟩
                  have o2 : ReO S M.cs 2 y ↔ False := ⟨fun h => by have h1 := h.1; omega, fun h => h.elim⟩
                  unfold reP2
                  rw [e0, and_iff_right e3, o1, o2]
                  simp only [or_assoc, or_false, false_or]
              · refine RN.go 9 [] fun _ => RN.go 18 [] fun _ => ?_
                refine mt44 (la160, Aa161, ca162, Ta163) [0] [0] ?_
                try dsimp only
                refine ⟨hsa164, hza165, by omega, fun y => ?_⟩
                show y ∈ la160 ↔ _
                rw [hm167 y]
                have e0 : (0 ≤ (16 : Int) ∧ 16 ≤ y ∧ y < 16 + ((32 : Nat) : Int)) ↔ (16 ≤ y ∧ y < 48) := by constructor <;> (intro h; omega)
                have e3 : (M.cs.getD 1 0 = 1 ∨ M.cs.getD 1 0 = 2 ∨ M.cs.getD 1 0 = 6) := by omega
                have o1 : ReO S M.cs 1 y ↔ False := ⟨fun h => by have h1 := h.1; omega, fun h => h.elim⟩
                have o2 : ReO S M.cs 2 y ↔ False := ⟨fun h => by have h1 := h.1; omega, fun h => h.elim⟩
                unfold reP2
                rw [e0, and_iff_right e3, o1, o2]
                simp only [or_assoc, or_false, false_or]
          · refine RN.go 2 [] fun _ => ?_
            refine mt44 (l2, A2, c2, T2) [0] [0] ?_
            try dsimp only
            refine ⟨hs2, hz2, by omega, fun y => ?_⟩
            show y ∈ l2 ↔ _
            exact ⟨.inl, fun h => h.elim id fun h => absurd h.1 (by omega)⟩
    · rintro ⟨l3, A3, c3, T3⟩ ⟨hs3, hz3, hl3, hm3⟩
      refine RN.go 2 [] fun _ => RN.cut (σ := List Int × Option Addr × Nat × HL) (fun ⟨l4, A4, c4, T4⟩ => ⟨[(0, vS q 0 M.cs.length cap), (3, vP (n1 + 0) 0), (5, .slice A4 l4.length c4), (6, vI (M.cs.getD 1 0))], [((n1 + 0), .lit (Setup.l S) 31 (0, 0))], [T4], SlIs intE 3 l4 A4 c4 T4 ∧ zeroOff A4 ∧ l4.length ≤ 74 ∧ ∀ y, y ∈ l4 ↔ y ∈ l3 ∨ (reP3 S M.cs y), 0⟩) ?_ ?_
      · intro mt216
        refine RN.go 6 [] fun _ => RN.em (M.cs.getD 1 0 ≥ 3) 69 (fun h217 => ?_) fun h217 => ?_
        · refine RN.go 1 [] fun _ => RN.draw [6] [] <| RD.goP [] [0, 1, 2, 3, 4] (ow 0 16 ++ [.ix 2, .rorow 0 2 0]) [(0 + 2 * 1) = 2 * 1 + 0 ∧ 2 < M.cs.length, 2 = ((2 : Nat) : Int) ∧ 2 < M.cs.length] <| RD.cp [] 5 (fun X_ => (rbody_any S (M.cs.getD 2 0) _ hSN)) ?_
          have hb219 := bodyAt_bd hSN (M.cs.getD 2 0)
          refine RD.one 6 (RDO.ct [] [] [0] (add_any l3 A3 c3 T3 (bodyAt S (M.cs.getD 2 0)) 8 _ hs3 hz3 (by omega) (by omega) (by omega)) ?_)
          rintro _ ⟨la220, Aa221, ca222, Ta223⟩ ⟨rfl, hsa224, hza225, hl226, hm227⟩
          dsimp only at hsa224 hza225 hl226 hm227
          refine RD.go [] [7] [] <| RD.fin ?_
          refine mt216 (la220, Aa221, ca222, Ta223) [0] [0] ?_
          try dsimp only
          refine ⟨hsa224, hza225, by omega, fun y => ?_⟩
          show y ∈ la220 ↔ _
          rw [hm227 y]
          exact or_congr_right ⟨fun h => ⟨by omega, h⟩, fun h => h.2⟩
        · refine RN.go 2 [] fun _ => ?_
          refine mt216 (l3, A3, c3, T3) [0] [0] ?_
          try dsimp only
          refine ⟨hs3, hz3, by omega, fun y => ?_⟩
          show y ∈ l3 ↔ _
          exact ⟨.inl, fun h => h.elim id fun h => absurd h.1 (by omega)⟩
      · rintro ⟨l4, A4, c4, T4⟩ ⟨hs4, hz4, hl4, hm4⟩
        refine RN.go 2 [] fun _ => RN.cut (σ := List Int × Option Addr × Nat × HL) (fun ⟨l5, A5, c5, T5⟩ => ⟨[(0, vS q 0 M.cs.length cap), (5, .slice A5 l5.length c5)], [((n1 + 0), .lit (Setup.l S) 31 (0, 0))], [T5], SlIs intE 3 l5 A5 c5 T5 ∧ zeroOff A5 ∧ l5.length ≤ 82 ∧ ∀ y, y ∈ l5 ↔ y ∈ l4 ∨ (reP4 S M.cs y), 0⟩) ?_ ?_
        · intro mt228
          refine RN.go 5 [] fun _ => RN.em (M.cs.getD 1 0 = 4) 79 (fun h229 => ?_) fun h229 => ?_
          · refine RN.go 6 [] fun _ => RN.draw [6] [] <| RD.goP [] [0, 1, 2, 3, 4] (ow 0 16 ++ [.ix 3, .rorow 0 3 0]) [(0 + 3 * 1) = 3 * 1 + 0 ∧ 3 < M.cs.length, 3 = ((3 : Nat) : Int) ∧ 3 < M.cs.length] <| RD.cp [] 5 (fun X_ => (rbody_any S (M.cs.getD 3 0) _ hSN)) ?_
            have hb231 := bodyAt_bd hSN (M.cs.getD 3 0)
            refine RD.one 6 (RDO.ct [] [] [0] (add_any l4 A4 c4 T4 (bodyAt S (M.cs.getD 3 0)) 8 _ hs4 hz4 (by omega) (by omega) (by omega)) ?_)
            rintro _ ⟨la232, Aa233, ca234, Ta235⟩ ⟨rfl, hsa236, hza237, hl238, hm239⟩
            dsimp only at hsa236 hza237 hl238 hm239
            refine RD.go [] [7] [] <| RD.fin ?_
            refine mt228 (la232, Aa233, ca234, Ta235) [0] [0] ?_
            try dsimp only
            refine ⟨hsa236, hza237, by omega, fun y => ?_⟩
            show y ∈ la232 ↔ _
            rw [hm239 y]
            exact or_congr_right ⟨fun h => ⟨by omega, h⟩, fun h => h.2⟩
          · refine RN.go 5 [] fun _ => RN.em (M.cs.getD 1 0 = 5) 82 (fun h240 => ?_) fun h240 => ?_
            · refine RN.go 1 [] fun _ => RN.draw [6] [] <| RD.goP [] [0, 1, 2, 3, 4] (ow 0 16 ++ [.ix 3, .rorow 0 3 0]) [(0 + 3 * 1) = 3 * 1 + 0 ∧ 3 < M.cs.length, 3 = ((3 : Nat) : Int) ∧ 3 < M.cs.length] <| RD.cp [] 5 (fun X_ => (rbody_any S (M.cs.getD 3 0) _ hSN)) ?_
              have hb242 := bodyAt_bd hSN (M.cs.getD 3 0)
              refine RD.one 6 (RDO.ct [] [] [0] (add_any l4 A4 c4 T4 (bodyAt S (M.cs.getD 3 0)) 8 _ hs4 hz4 (by omega) (by omega) (by omega)) ?_)
              rintro _ ⟨la243, Aa244, ca245, Ta246⟩ ⟨rfl, hsa247, hza248, hl249, hm250⟩
              dsimp only at hsa247 hza248 hl249 hm250
              refine RD.go [] [7] [] <| RD.fin ?_
              refine mt228 (la243, Aa244, ca245, Ta246) [0] [0] ?_
              try dsimp only
              refine ⟨hsa247, hza248, by omega, fun y => ?_⟩
              show y ∈ la243 ↔ _
              rw [hm250 y]
              exact or_congr_right ⟨fun h => ⟨by omega, h⟩, fun h => h.2⟩
            · refine RN.go 2 [] fun _ => ?_
              refine mt228 (l4, A4, c4, T4) [0] [0] ?_
              try dsimp only
              refine ⟨hs4, hz4, by omega, fun y => ?_⟩
              show y ∈ l4 ↔ _
              exact ⟨.inl, fun h => h.elim id fun h => absurd h.1 (by omega)⟩
        · rintro ⟨l5, A5, c5, T5⟩ ⟨hs5, hz5, hl5, hm5⟩
          refine RN.go 13 [] fun _ => RN.nt <| RN.loop (σ := Nat × List Int × Option Addr × Nat × HL) (fun ⟨i, o_, B_, d_, U_⟩ => ⟨[(0, vS q 0 M.cs.length cap), (5, .slice A5 l5.length c5), (9, .slice B_ o_.length d_), (10, vI (i : Int))], [((n1 + 0), .lit (Setup.l S) 31 (0, 0))], [U_, T5], i ≤ M.cs.length ∧ SlIs intE 3 o_ B_ d_ U_ ∧ zeroOff B_ ∧ o_ = fl l5 i, M.cs.length - i⟩) (0, [], none, 0, []) [0] [0, 1] (⟨Nat.zero_le _, SlIs.nil _ _, trivial, rfl⟩) ?_
          rintro ⟨i, o_, B_, d_, U_⟩ ⟨hi_, hos_, hoz_, ho_⟩ mt252
          refine RN.go 9 [] fun _ => RN.em ((i : Int) < (M.cs.length : Int)) 93 (fun h253 => ?_) fun h253 => ?_
          · refine RN.go 9 [] fun _ => RN.cp (hasI_any (i : Int) _ hs5 hz5 (by omega) (sub_ap 1)) <| RN.go 2 [] fun _ => RN.em ((i : Int) ∈ l5) 98 (fun h254 => ?_) fun h254 => ?_
            · refine RN.go 5 [] fun n255 => ?_
              have hol := fl_len l5 i
              rw [← ho_] at hol
              refine RN.app intEOk o_ [(i : Int)] 0 0 rfl hos_ (by show o_.length + 1 ≤ 100000000; omega) ?_
              rintro A256 c257 T258 ⟨hs259, hz260⟩
              refine RN.sv 102 (congrArg (fun v_ => (.slice A256 v_ c257 : Value)) (show o_.length + [(i : Int)].length = (o_ ++ [(i : Int)]).length from by rw [List.length_append])) <| RN.goP 9 [.nw] [I64 ((i : Int) + 1)] fun _ => ?_
              refine mt252 (i + 1, (o_ ++ [(i : Int)]), A256, c257, T258) [1] [0, 1] ?_
              try dsimp only
              refine ⟨⟨by omega, hs259, (hz260 hoz_), ?_⟩, by omega⟩
              rw [fl_succ, if_pos h254, ← ho_]
            · refine RN.goP 9 [.nw] [I64 ((i : Int) + 1)] fun _ => ?_
              refine mt252 (i + 1, o_, B_, d_, U_) [0] [0, 1] ?_
              try dsimp only
              refine ⟨⟨by omega, hos_, hoz_, ?_⟩, by omega⟩
              rw [fl_succ, if_neg h254, ← ho_]
              rw [List.append_nil]
          · refine RN.go 12 [] fun _ => RN.ret [] [] [0] (v := .slice B_ o_.length d_) (H' := (ap [] [U_])) ?_
            obtain rfl : i = M.cs.length := by omega
            refine ⟨(o_, B_, d_, U_), rfl, rfl, hos_, hoz_, by show o_.Pairwise _; rw [ho_]; exact fl_inc _ _, fun y => ?_⟩
            show y ∈ o_ ↔ _
            rw [ho_, fl_mem, hm5 y, hm4 y, hm3 y, hm2 y, hm9 y]
            refine and_congr_right fun _ => ?_
            have e0 : (y ∈ ([] : List Int) ∨ (0 ≤ (0 : Int) ∧ 0 ≤ y ∧ y < 0 + ((14 : Nat) : Int))) ↔ (0 ≤ y ∧ y < 14) := ⟨fun h => h.elim (fun h => absurd h List.not_mem_nil) (fun h => by omega), fun h => .inr (by omega)⟩
            rw [e0]
end Go.Proofs.YtampdcgphdnnhaaGreatDoor
