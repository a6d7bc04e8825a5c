/- Contracts, printed by a program. -/
import Derived.Test.YtampdcgphdnnhaaGreatDoorU34
import Derived.Test.YtampdcgphdnnhaaGreatDoorU15
namespace Go.Proofs.YtampdcgphdnnhaaGreatDoor
set_option linter.unusedSimpArgs false
set_option linter.unusedVariables false
open Go.RowKit
set_option maxHeartbeats 2000000 in
set_option maxRecDepth 100000 in
theorem prog_any (A : Option Addr) (n cap m : Nat) (xs : List Int) (F : HL) (hm : (xs.take m).length ≤ 60) (hb : ∀ k, k < (xs.take m).length → i64r ((xs.take m).getD k 0)) (hI : ∀ X, Sp Tryz.prog 53 #[.slice A n cap, vI 60] [] (X ++ F) (fun u H' => ∃ x : Option Addr × Nat × HL, H' = ap [] [x.2.2] ∧ (u = .slice x.1 (0 + (xs.take m).length) x.2.1 ∧ SlIs intE 3 (xs.take m) x.1 x.2.1 x.2.2 ∧ zeroOff x.1))) : Sp Tryz.prog 26 #[.slice A n cap] [] F (fun u H' => ∃ x : (Nd × Nd × Nd) × HL, H' = ap [] [x.2] ∧ (u = .agg #[vI x.1.1.k, vI x.1.1.n, .string x.1.1.s, .slice x.1.1.A x.1.1.kids.length x.1.1.c, vI x.1.2.1.k, vI x.1.2.1.n, .string x.1.2.1.s, .slice x.1.2.1.A x.1.2.1.kids.length x.1.2.1.c, vI x.1.2.2.k, vI x.1.2.2.n, .string x.1.2.2.s, .slice x.1.2.2.A x.1.2.2.kids.length x.1.2.2.c] ∧ (Ht 10 x.1.1 ∧ NdH x.1.1 x.2) ∧ (Ht 10 x.1.2.1 ∧ NdH x.1.2.1 x.2) ∧ (Ht 10 x.1.2.2 ∧ NdH x.1.2.2 x.2))) := by
  refine Sp.run Tryz.func26 rfl mn (A := []) (Ts := []) rfl fun w0 => ?_
  refine RN.go 8 [] fun n1 => RN.ct (Hp := []) (Tp := []) [] [] (hI _) ?_
  rintro _ ⟨A2, c3, T4⟩ ⟨rfl, hs5, hz6⟩
  dsimp only at hs5 hz6
  have hn0 : (0 + (xs.take m).length) = (xs.take m).length := Nat.zero_add _
  have ghn : (0 + (xs.take m).length) ≤ 60 := by omega
  refine RN.go 17 [] fun n7 => RN.rounds 3 <| RN.go 15 [] fun _ => RN.ct [1] [] (pick_any (n7 + 0) c3 0 (0 + (xs.take m).length) A2 4 (by omega) (by omega) ghn _ (hn0.symm ▸ GIn.of hs5 hz6 hb (sub_ap 0))) ?_
  rintro _ ⟨k8, i9⟩ ⟨rfl, hk10, hi11⟩
  dsimp only at hk10 hi11
  refine RN.go 3 [] fun _ => RN.em ((k8 : Int) > 0) 16 (fun h12 => ?_) fun h12 => ?_
  · refine RN.go 4 [] fun _ => RN.ct [0] [] (blk_any (g := (n7 + 0)) (c := c3) ghn 2 3 (by omega) (by omega) i9 _ (by omega) (hn0.symm ▸ GIn.of hs5 hz6 hb (sub_ap 0))) ?_
    rintro _ ⟨x13, i14, T15⟩ ⟨rfl, hi16, hg17, hT18⟩
    dsimp only at hi16 hg17 hT18
    refine RN.go 27 [.own 1, .own 1, .own 1, .own 1] fun _ => RN.ct [0] [] (pick_any (n7 + 0) c3 i14 (0 + (xs.take m).length) A2 4 (by omega) (by omega) ghn _ (hn0.symm ▸ GIn.of hs5 hz6 hb (sub_ap 1))) ?_
    rintro _ ⟨k19, i20⟩ ⟨rfl, hk21, hi22⟩
    dsimp only at hk21 hi22
    refine RN.go 3 [] fun _ => RN.em ((k19 : Int) > 0) 16 (fun h23 => ?_) fun h23 => ?_
    · refine RN.go 4 [] fun _ => RN.ct [0] [] (blk_any (g := (n7 + 0)) (c := c3) ghn 2 3 (by omega) (by omega) i20 _ (by omega) (hn0.symm ▸ GIn.of hs5 hz6 hb (sub_ap 1))) ?_
      rintro _ ⟨x24, i25, T26⟩ ⟨rfl, hi27, hg28, hT29⟩
      dsimp only at hi27 hg28 hT29
      refine RN.go 27 [.own 1, .own 1, .own 1, .own 1] fun _ => RN.ct [0] [] (pick_any (n7 + 0) c3 i25 (0 + (xs.take m).length) A2 4 (by omega) (by omega) ghn _ (hn0.symm ▸ GIn.of hs5 hz6 hb (sub_ap 2))) ?_
      rintro _ ⟨k30, i31⟩ ⟨rfl, hk32, hi33⟩
      dsimp only at hk32 hi33
      refine RN.go 3 [] fun _ => RN.em ((k30 : Int) > 0) 16 (fun h34 => ?_) fun h34 => ?_
      · refine RN.go 4 [] fun _ => RN.ct [0] [] (blk_any (g := (n7 + 0)) (c := c3) ghn 2 3 (by omega) (by omega) i31 _ (by omega) (hn0.symm ▸ GIn.of hs5 hz6 hb (sub_ap 2))) ?_
        rintro _ ⟨x35, i36, T37⟩ ⟨rfl, hi38, hg39, hT40⟩
        dsimp only at hi38 hg39 hT40
        refine RN.go 31 (ow 1 16 ++ ow 2 12) fun _ => RN.ret (ow 2 12) [] [0, 1, 2, 3] (v := .agg #[vI x13.k, vI x13.n, .string x13.s, .slice x13.A x13.kids.length x13.c, vI x24.k, vI x24.n, .string x24.s, .slice x24.A x24.kids.length x24.c, vI x35.k, vI x35.n, .string x35.s, .slice x35.A x35.kids.length x35.c]) (H' := (ap [] [T37, T26, T15, T4])) ?_
        exact ⟨((x13, x24, x35), T37 ++ T26 ++ T15 ++ T4), (by simp [ap]), rfl, ⟨hg17, fun F hF => hT18 F fun y hy => hF y (by simp [hy])⟩, ⟨hg28, fun F hF => hT29 F fun y hy => hF y (by simp [hy])⟩, ⟨hg39, fun F hF => hT40 F fun y hy => hF y (by simp [hy])⟩⟩
      · refine RN.go 29 (ow 1 12 ++ ow 2 12) fun _ => RN.ret (ow 2 12) [] [0, 1, 2] (v := .agg #[vI x13.k, vI x13.n, .string x13.s, .slice x13.A x13.kids.length x13.c, vI x24.k, vI x24.n, .string x24.s, .slice x24.A x24.kids.length x24.c, vI 0, vI 0, .string ⟨#[]⟩, .slice none 0 0]) (H' := (ap [] [T26, T15, T4])) ?_
        exact ⟨((x13, x24, dN), T26 ++ T15 ++ T4), (by simp [ap]), rfl, ⟨hg17, fun F hF => hT18 F fun y hy => hF y (by simp [hy])⟩, ⟨hg28, fun F hF => hT29 F fun y hy => hF y (by simp [hy])⟩, ⟨.zero, .zero⟩⟩
    · refine RN.go 25 [] fun _ => RN.ct [0] [] (pick_any (n7 + 0) c3 i20 (0 + (xs.take m).length) A2 4 (by omega) (by omega) ghn _ (hn0.symm ▸ GIn.of hs5 hz6 hb (sub_ap 1))) ?_
      rintro _ ⟨k41, i42⟩ ⟨rfl, hk43, hi44⟩
      dsimp only at hk43 hi44
      refine RN.go 3 [] fun _ => RN.em ((k41 : Int) > 0) 16 (fun h45 => ?_) fun h45 => ?_
      · refine RN.go 4 [] fun _ => RN.ct [0] [] (blk_any (g := (n7 + 0)) (c := c3) ghn 2 3 (by omega) (by omega) i42 _ (by omega) (hn0.symm ▸ GIn.of hs5 hz6 hb (sub_ap 1))) ?_
        rintro _ ⟨x46, i47, T48⟩ ⟨rfl, hi49, hg50, hT51⟩
        dsimp only at hi49 hg50 hT51
        refine RN.go 31 (ow 1 16 ++ ow 2 12) fun _ => RN.ret (ow 2 12) [] [0, 1, 2] (v := .agg #[vI x13.k, vI x13.n, .string x13.s, .slice x13.A x13.kids.length x13.c, vI 0, vI 0, .string ⟨#[]⟩, .slice none 0 0, vI x46.k, vI x46.n, .string x46.s, .slice x46.A x46.kids.length x46.c]) (H' := (ap [] [T48, T15, T4])) ?_
        exact ⟨((x13, dN, x46), T48 ++ T15 ++ T4), (by simp [ap]), rfl, ⟨hg17, fun F hF => hT18 F fun y hy => hF y (by simp [hy])⟩, ⟨.zero, .zero⟩, ⟨hg50, fun F hF => hT51 F fun y hy => hF y (by simp [hy])⟩⟩
      · refine RN.go 29 (ow 1 12 ++ ow 2 12) fun _ => RN.ret (ow 2 12) [] [0, 1] (v := .agg #[vI x13.k, vI x13.n, .string x13.s, .slice x13.A x13.kids.length x13.c, vI 0, vI 0, .string ⟨#[]⟩, .slice none 0 0, vI 0, vI 0, .string ⟨#[]⟩, .slice none 0 0]) (H' := (ap [] [T15, T4])) ?_
        exact ⟨((x13, dN, dN), T15 ++ T4), (by simp [ap]), rfl, ⟨hg17, fun F hF => hT18 F fun y hy => hF y (by simp [hy])⟩, ⟨.zero, .zero⟩, ⟨.zero, .zero⟩⟩
  · refine RN.go 25 [] fun _ => RN.ct [0] [] (pick_any (n7 + 0) c3 i9 (0 + (xs.take m).length) A2 4 (by omega) (by omega) ghn _ (hn0.symm ▸ GIn.of hs5 hz6 hb (sub_ap 0))) ?_
    rintro _ ⟨k52, i53⟩ ⟨rfl, hk54, hi55⟩
    dsimp only at hk54 hi55
    refine RN.go 3 [] fun _ => RN.em ((k52 : Int) > 0) 16 (fun h56 => ?_) fun h56 => ?_
    · refine RN.go 4 [] fun _ => RN.ct [0] [] (blk_any (g := (n7 + 0)) (c := c3) ghn 2 3 (by omega) (by omega) i53 _ (by omega) (hn0.symm ▸ GIn.of hs5 hz6 hb (sub_ap 0))) ?_
      rintro _ ⟨x57, i58, T59⟩ ⟨rfl, hi60, hg61, hT62⟩
      dsimp only at hi60 hg61 hT62
      refine RN.go 27 [.own 1, .own 1, .own 1, .own 1] fun _ => RN.ct [0] [] (pick_any (n7 + 0) c3 i58 (0 + (xs.take m).length) A2 4 (by omega) (by omega) ghn _ (hn0.symm ▸ GIn.of hs5 hz6 hb (sub_ap 1))) ?_
      rintro _ ⟨k63, i64⟩ ⟨rfl, hk65, hi66⟩
      dsimp only at hk65 hi66
      refine RN.go 3 [] fun _ => RN.em ((k63 : Int) > 0) 16 (fun h67 => ?_) fun h67 => ?_
      · refine RN.go 4 [] fun _ => RN.ct [0] [] (blk_any (g := (n7 + 0)) (c := c3) ghn 2 3 (by omega) (by omega) i64 _ (by omega) (hn0.symm ▸ GIn.of hs5 hz6 hb (sub_ap 1))) ?_
        rintro _ ⟨x68, i69, T70⟩ ⟨rfl, hi71, hg72, hT73⟩
        dsimp only at hi71 hg72 hT73
        refine RN.go 31 (ow 1 16 ++ ow 2 12) fun _ => RN.ret (ow 2 12) [] [0, 1, 2] (v := .agg #[vI 0, vI 0, .string ⟨#[]⟩, .slice none 0 0, vI x57.k, vI x57.n, .string x57.s, .slice x57.A x57.kids.length x57.c, vI x68.k, vI x68.n, .string x68.s, .slice x68.A x68.kids.length x68.c]) (H' := (ap [] [T70, T59, T4])) ?_
        exact ⟨((dN, x57, x68), T70 ++ T59 ++ T4), (by simp [ap]), rfl, ⟨.zero, .zero⟩, ⟨hg61, fun F hF => hT62 F fun y hy => hF y (by simp [hy])⟩, ⟨hg72, fun F hF => hT73 F fun y hy => hF y (by simp [hy])⟩⟩
      · refine RN.go 29 (ow 1 12 ++ ow 2 12) fun _ => RN.ret (ow 2 12) [] [0, 1] (v := .agg #[vI 0, vI 0, .string ⟨#[]⟩, .slice none 0 0, vI x57.k, vI x57.n, .string x57.s, .slice x57.A x57.kids.length x57.c, vI 0, vI 0, .string ⟨#[]⟩, .slice none 0 0]) (H' := (ap [] [T59, T4])) ?_
        exact ⟨((dN, x57, dN), T59 ++ T4), (by simp [ap]), rfl, ⟨.zero, .zero⟩, ⟨hg61, fun F hF => hT62 F fun y hy => hF y (by simp [hy])⟩, ⟨.zero, .zero⟩⟩
    · refine RN.go 25 [] fun _ => RN.ct [0] [] (pick_any (n7 + 0) c3 i53 (0 + (xs.take m).length) A2 4 (by omega) (by omega) ghn _ (hn0.symm ▸ GIn.of hs5 hz6 hb (sub_ap 0))) ?_
      rintro _ ⟨k74, i75⟩ ⟨rfl, hk76, hi77⟩
      dsimp only at hk76 hi77
      refine RN.go 3 [] fun _ => RN.em ((k74 : Int) > 0) 16 (fun h78 => ?_) fun h78 => ?_
      · refine RN.go 4 [] fun _ => RN.ct [0] [] (blk_any (g := (n7 + 0)) (c := c3) ghn 2 3 (by omega) (by omega) i75 _ (by omega) (hn0.symm ▸ GIn.of hs5 hz6 hb (sub_ap 0))) ?_
        rintro _ ⟨x79, i80, T81⟩ ⟨rfl, hi82, hg83, hT84⟩
        dsimp only at hi82 hg83 hT84
        refine RN.go 31 (ow 1 16 ++ ow 2 12) fun _ => RN.ret (ow 2 12) [] [0, 1] (v := .agg #[vI 0, vI 0, .string ⟨#[]⟩, .slice none 0 0, vI 0, vI 0, .string ⟨#[]⟩, .slice none 0 0, vI x79.k, vI x79.n, .string x79.s, .slice x79.A x79.kids.length x79.c]) (H' := (ap [] [T81, T4])) ?_
        exact ⟨((dN, dN, x79), T81 ++ T4), (by simp [ap]), rfl, ⟨.zero, .zero⟩, ⟨.zero, .zero⟩, ⟨hg83, fun F hF => hT84 F fun y hy => hF y (by simp [hy])⟩⟩
      · refine RN.go 29 (ow 1 12 ++ ow 2 12) fun _ => RN.ret (ow 2 12) [] [0] (v := .agg #[vI 0, vI 0, .string ⟨#[]⟩, .slice none 0 0, vI 0, vI 0, .string ⟨#[]⟩, .slice none 0 0, vI 0, vI 0, .string ⟨#[]⟩, .slice none 0 0]) (H' := (ap [] [T4])) ?_
        exact ⟨((dN, dN, dN), T4), (by simp [ap]), rfl, ⟨.zero, .zero⟩, ⟨.zero, .zero⟩, ⟨.zero, .zero⟩⟩
end Go.Proofs.YtampdcgphdnnhaaGreatDoor
/- Contracts, printed by a program. -/
namespace Go.Proofs.YtampdcgphdnnhaaGreatDoor
set_option linter.unusedSimpArgs false
set_option linter.unusedVariables false
open Go.RowKit
/-- maps whose values are ints -/
def AllInt (kv : List (ByteArray × Value)) : Prop := ∀ x ∈ kv, ∃ z, x.2 = vI z
def iget (kv : List (ByteArray × Value)) (k : ByteArray) : Int := match sget kv k with
  | some (.int .i64 z) => z
  | _ => 0
theorem sget_int {k : ByteArray} : ∀ {kv : List (ByteArray × Value)}, AllInt kv → sget kv k = none ∨ ∃ z, sget kv k = some (vI z)
  | [], _ => .inl rfl
  | (k', v) :: l, h => by
    rw [sget]
    split
    · obtain ⟨z, hz⟩ := h (k', v) (by simp)
      exact .inr ⟨z, by simp only at hz; rw [hz]⟩
    · exact sget_int fun x hx => h x (by simp [hx])
theorem lk_int {kv : List (ByteArray × Value)} (h : AllInt kv) (k : ByteArray) : lkV kv k false (vI 0) = vI (iget kv k) := by
  show (sget kv k).getD (vI 0) = _
  unfold iget
  rcases sget_int (k := k) h with e | ⟨z, e⟩ <;> rw [e] <;> rfl
theorem lk_int2 {kv : List (ByteArray × Value)} (h : AllInt kv) (k : ByteArray) : lkV kv k true (vI 0) = .tuple #[vI (iget kv k), .bool (sget kv k).isSome] := by
  show Value.tuple #[(sget kv k).getD (vI 0), .bool (sget kv k).isSome] = _
  unfold iget
  rcases sget_int (k := k) h with e | ⟨z, e⟩ <;> rw [e] <;> rfl
theorem AllInt.put {kv : List (ByteArray × Value)} (h : AllInt kv) (k : ByteArray) (z : Int) : AllInt (sput kv k (vI z)) := by
  induction kv with
  | nil => intro x hx; simp only [sput, List.mem_singleton] at hx; subst hx; exact ⟨z, rfl⟩
  | cons y l ih =>
    obtain ⟨k', v⟩ := y
    intro x hx
    rw [sput] at hx
    split at hx
    · rcases List.mem_cons.1 hx with rfl | hx
      · exact ⟨z, rfl⟩
      · exact h x (by simp [hx])
    · rcases List.mem_cons.1 hx with rfl | hx
      · exact h _ (by simp)
      · exact ih (fun y hy => h y (by simp [hy])) x hx
def fKV : List (ByteArray × Value) := [(⟨#[120]⟩, vI 0), (⟨#[121]⟩, vI 1), (⟨#[118, 120]⟩, vI 2), (⟨#[118, 121]⟩, vI 3), (⟨#[97]⟩, vI 4), (⟨#[98]⟩, vI 5), (⟨#[104, 105, 116]⟩, vI 6), (⟨#[115, 116, 105, 108, 108]⟩, vI 7)]
theorem fKV_int : AllInt fKV := by
  intro x hx
  simp only [fKV, List.mem_cons, List.not_mem_nil, or_false] at hx
  rcases hx with rfl | rfl | rfl | rfl | rfl | rfl | rfl | rfl <;> exact ⟨_, rfl⟩
def fldF (s : ByteArray) : Int := if (sget fKV s).isSome = true then iget fKV s else -1
def opcF (s : ByteArray) : Int := if s = ⟨#[43]⟩ then 9 else if s = ⟨#[45]⟩ then 10 else if s = ⟨#[42]⟩ then 11 else if s = ⟨#[47]⟩ then 12 else if s = ⟨#[60]⟩ then 14 else if s = ⟨#[62]⟩ then 14 else if s = ⟨#[60, 61]⟩ then 15 else if s = ⟨#[62, 61]⟩ then 15 else 16
theorem opcF_bd (s : ByteArray) : 9 ≤ opcF s ∧ opcF s ≤ 16 := by unfold opcF; (repeat' split) <;> decide

set_option maxHeartbeats 400000 in
set_option maxRecDepth 100000 in
theorem opc_any (s : ByteArray) (F : HL) : Sp Tryz.prog 112 #[.string s] [] F (fun u H' => u = vI (opcF s) ∧ H' = []) := by
  refine Sp.run Tryz.func112 rfl mn (A := []) (Ts := []) rfl fun w0 => ?_
  refine RN.go 18 [.sq] fun _ => RN.em (s = ⟨#[43]⟩) 4 (fun h1 => ?_) fun h1 => ?_
  · refine RN.go 6 [] fun _ => RN.ret [] [] [] (v := vI 9) (H' := []) ?_
    exact ⟨by rw [opcF, if_pos h1], rfl⟩
  · refine RN.go 7 [.sq] fun _ => RN.em (s = ⟨#[45]⟩) 6 (fun h2 => ?_) fun h2 => ?_
    · refine RN.go 6 [] fun _ => RN.ret [] [] [] (v := vI 10) (H' := []) ?_
      exact ⟨by rw [opcF, if_neg h1, if_pos h2], rfl⟩
    · refine RN.go 7 [.sq] fun _ => RN.em (s = ⟨#[42]⟩) 8 (fun h3 => ?_) fun h3 => ?_
      · refine RN.go 6 [] fun _ => RN.ret [] [] [] (v := vI 11) (H' := []) ?_
        exact ⟨by rw [opcF, if_neg h1, if_neg h2, if_pos h3], rfl⟩
      · refine RN.go 7 [.sq] fun _ => RN.em (s = ⟨#[47]⟩) 10 (fun h4 => ?_) fun h4 => ?_
        · refine RN.go 6 [] fun _ => RN.ret [] [] [] (v := vI 12) (H' := []) ?_
          exact ⟨by rw [opcF, if_neg h1, if_neg h2, if_neg h3, if_pos h4], rfl⟩
        · refine RN.go 8 [.sq] fun _ => RN.em (s = ⟨#[60]⟩) 12 (fun h5 => ?_) fun h5 => ?_
          · refine RN.go 9 [] fun _ => RN.ret [] [] [] (v := vI 14) (H' := []) ?_
            exact ⟨by rw [opcF, if_neg h1, if_neg h2, if_neg h3, if_neg h4, if_pos h5], rfl⟩
          · refine RN.go 6 [.sq] fun _ => RN.em (s = ⟨#[62]⟩) 12 (fun h6 => ?_) fun h6 => ?_
            · refine RN.go 6 [] fun _ => RN.ret [] [] [] (v := vI 14) (H' := []) ?_
              exact ⟨by rw [opcF, if_neg h1, if_neg h2, if_neg h3, if_neg h4, if_neg h5, if_pos h6], rfl⟩
            · refine RN.go 8 [.sq] fun _ => RN.em (s = ⟨#[60, 61]⟩) 15 (fun h7 => ?_) fun h7 => ?_
              · refine RN.go 9 [] fun _ => RN.ret [] [] [] (v := vI 15) (H' := []) ?_
                exact ⟨by rw [opcF, if_neg h1, if_neg h2, if_neg h3, if_neg h4, if_neg h5, if_neg h6, if_pos h7], rfl⟩
              · refine RN.go 6 [.sq] fun _ => RN.em (s = ⟨#[62, 61]⟩) 15 (fun h8 => ?_) fun h8 => ?_
                · refine RN.go 6 [] fun _ => RN.ret [] [] [] (v := vI 15) (H' := []) ?_
                  exact ⟨by rw [opcF, if_neg h1, if_neg h2, if_neg h3, if_neg h4, if_neg h5, if_neg h6, if_neg h7, if_pos h8], rfl⟩
                · refine RN.go 9 [] fun _ => RN.ret [] [] [] (v := vI 16) (H' := []) ?_
                  exact ⟨by rw [opcF, if_neg h1, if_neg h2, if_neg h3, if_neg h4, if_neg h5, if_neg h6, if_neg h7, if_neg h8], rfl⟩

set_option maxHeartbeats 400000 in
set_option maxRecDepth 100000 in
theorem field_any (s : ByteArray) (F : HL) : Sp Tryz.prog 73 #[.string s] [] F (fun u H' => u = vI (fldF s) ∧ H' = []) := by
  refine Sp.run Tryz.func73 rfl mn (A := []) (Ts := []) rfl fun w0 => ?_
  refine RN.go 23 (ow 0 16) fun n1 => RN.dn 0 (.obj (smap fKV)) <| RN.goO 15 [.mp 0 fKV (.tuple #[vI (iget fKV s), .bool ((sget fKV s).isSome)])] (fun _ => [smap fKV = smap fKV ∧ lkV fKV s true (vI 0) = .tuple #[vI (iget fKV s), .bool ((sget fKV s).isSome)]]) (fun _ => (ac ⟨rfl, (lk_int2 fKV_int _)⟩ an)) fun _ => RN.eb ((sget fKV s).isSome) 14 (fun h2 => ?_) fun h2 => ?_
  · refine RN.go 7 [] fun _ => RN.ret [] [] [] (v := vI (iget fKV s)) (H' := []) ?_
    exact ⟨by unfold fldF; rw [if_pos h2], rfl⟩
  · refine RN.go 8 [] fun _ => RN.ret [] [] [] (v := vI (-1)) (H' := []) ?_
    exact ⟨by unfold fldF; rw [if_neg (by simp [h2])], rfl⟩
end Go.Proofs.YtampdcgphdnnhaaGreatDoor
/- Deferred calls. -/
namespace Go.Proofs.YtampdcgphdnnhaaGreatDoor
set_option linter.unusedSimpArgs false
set_option linter.unusedVariables false
open Go.RowKit Go.Shelf

/-- a deferred call's contract; the function neither defers nor recovers -/
def SpD (P : Program) (f : FuncId) (args : Array Value) (H F : HL) (R : Value → HL → Prop) : Prop :=
  ∀ w, Rel (H ++ F) w → CallsDIn (Wr none) 0 P f args .returning w fun e u' w' => u' = .returning ∧ ∃ v H', e = .returned v ∧ R v H' ∧ Rel (H' ++ F) w' ∧ Below 0 w w'
theorem SpD.mono {P : Program} {f : FuncId} {args : Array Value} {H F : HL} {R R' : Value → HL → Prop} (h : SpD P f args H F R) (hr : ∀ v H', R v H' → R' v H') : SpD P f args H F R' :=
  fun w hR => (h w hR).mono fun e u' w' ⟨h0, v, H', h1, h2, h3, h4⟩ => ⟨h0, v, H', h1, hr _ _ h2, h3, h4⟩
section
variable {r : Option Nat} {P : Program} {N : Nat} {D : List Deferred} {F : HL} {w0 : World} {R : HL} {s : Cfg} {Q : Exit → Act → World → Prop}
theorem SpD.run {f : FuncId} {fn : Func} {c : Code} {args : Array Value} {H : HL} {R' : Value → HL → Prop} (hf : P.funcs[f]? = some fn) (hb : fn.body = some c) (hR : ∀ y ∈ R, y ∈ F) {A : HL} {Ts : List HL} (hH : H = ap A Ts)
    (h : ∀ w0, RN none P fn.ntmps [] F w0 R ⟨.code c, [], initL 0 args.toList, A, Ts⟩ (bodyPost P fn (SpR F w0 R'))) (ha : decide (args.size ≤ fn.ntmps) = true := by kernel_rfl) : SpD P f args H F R' := by
  subst hH
  intro w hRel
  have ha' : args.size ≤ fn.ntmps := of_decide_eq_true ha
  refine (callsDIn_of_wp (F := Wr none) (n := 0) (u := .returning) (R := SpR F w R') hf hb trivial ?_).mono fun e u' w' ⟨h1, h2⟩ => ⟨h1, h2⟩
  refine (h w).h hR _ w ⟨?_, rfl, ?_⟩ hRel (Below.refl _ _)
  · simp; omega
  · intro t v ht
    obtain ⟨_, h2⟩ := initL_lookup 0 _ t v ht
    have h3 : args[t]? = some v := by simpa using h2
    have hlt : t < args.size := (Array.getElem?_eq_some_iff.1 h3).1
    simp only
    rw [Array.getElem?_append_left hlt]
    exact h3
/-! ### the statement -/
def dfR (N : Nat) (s : Cfg) : Option (FuncId × Array Value × Array Value) := match opAt s with
  | some o => match o.guard, o.op, (putL N o.dst undef s.L).isSome with
    | none, .defer c, true => match c.callee with
      | .value f => match inL s.L f && c.args.toList.all (inL s.L) with
        | true => match rho s.L f with
          | .func (.func g) first cap => some (g, first ++ c.args.map (rho s.L), cap)
          | _ => none
        | false => none
      | _ => none
    | _, _, _ => none
  | none => none
abbrev dfD (g : FuncId) (args cap : Array Value) : Deferred := { target := .fn (.func g) cap, args := args }
theorem map_rho {L : FL} {a : Act} (hF : Fm N D L a) : ∀ (l : List Operand), l.all (inL L) = true → l.map a.eval = l.map (rho L)
  | [], _ => rfl
  | x :: l, h => by
    rw [List.all_cons, Bool.and_eq_true] at h
    rw [List.map_cons, List.map_cons, hF.eval h.1, map_rho hF l h.2]
theorem RN.df {g : FuncId} {args cap : Array Value} (hk : RN none P N (dfD g args cap :: D) F w0 R (putC N undef s) Q) (h : dfR N s = some (g, args, cap) := by kernel_rfl) : RN none P N D F w0 R s Q := by
  refine ⟨fun hR a w hF hRel hB => ?_⟩
  obtain ⟨cc, kk, L, A, Ts⟩ := s
  unfold dfR at h
  split at h
  case h_2 => cases h
  rename_i o q0
  split at h
  case h_2 => cases h
  rename_i c q1 q2 q3
  split at h
  case h_2 => cases h
  rename_i f q4
  split at h
  case h_2 => cases h
  rename_i q5
  split at h
  case h_2 => cases h
  rename_i g' first cap' q6
  simp only [Option.some.injEq, Prod.mk.injEq] at h
  obtain ⟨e1, e2, e3⟩ := h
  subst e1; subst e2; subst e3
  unfold opAt at q0
  cases cc with
  | code c => cases q0
  | ex c => cases q0
  | drw _ _ => cases q0
  | ops ops j =>
    simp only at q0 q3 q5 q6 hF hRel
    have hdrop : ops.toList.drop j = o :: ops.toList.drop (j + 1) := by
      have hlt : j < ops.toList.length := (List.getElem?_eq_some_iff.1 q0).1
      rw [List.drop_eq_getElem_cons hlt, (List.getElem?_eq_some_iff.1 q0).2]
    show wpListIn _ _ _ _ _ _ _ _
    rw [hdrop, wpListIn, if_pos (by simp [Region.wanted, q1])]
    refine ⟨fun _ _ => trivial, ?_⟩
    rw [Bool.and_eq_true] at q5
    obtain ⟨L', hl⟩ := putL_some q3 undef
    have hpc : putC N undef ⟨.ops ops j, kk, L, A, Ts⟩ = ⟨.ops ops (j + 1), kk, L', A, Ts⟩ := by
      unfold putC
      simp only [q0, hl]
    have hh := hk.h hR
    rw [hpc] at hh
    have hargs : c.args.map a.eval = c.args.map (rho L) := by
      apply Array.ext'
      rw [Array.toList_map, Array.toList_map]
      exact map_rho hF _ q5.2
    have e1 : a.eval f = .func (.func g') first cap' := (hF.eval q5.1).trans q6
    have hex : (o.semAt (Wr none).round a.eval).run P w = .ok (.defer (dfD g' (first ++ c.args.map (rho L)) cap')) w := by
      show (Oper.semAt none a.eval o).run P w = _
      rw [Oper.semAt_none]
      simp only [execOp, q2, resolve, q4, e1, Deferred.ofValue, Sem.run_bind, hargs]
      rfl
    rw [hex, Oper.uponIn_defer]
    have hF' : Fm N (dfD g' (first ++ c.args.map (rho L)) cap' :: D) L { a with defers := dfD g' (first ++ c.args.map (rho L)) cap' :: a.defers } := ⟨hF.size, by rw [← hF.defs], hF.has⟩
    exact hh _ w (hF'.put hl) hRel hB
/-- a block becomes a tail of its own -/
def ctC (i : Nat) (s : Cfg) : Cfg := match s with
  | ⟨c, k, L, A, Ts⟩ => match A[i]? with
    | some x => ⟨c, k, L, (oth [i] A.length).filterMap (A[·]?), [x] :: Ts⟩
    | none => ⟨c, k, L, A, Ts⟩
theorem RN.ctl (i : Nat) (hk : RN r P N D F w0 R (ctC i s) Q) (h : ([i] ++ oth [i] s.A.length).isPerm (List.range s.A.length) = true := by kernel_rfl) : RN r P N D F w0 R s Q := by
  refine ⟨fun hR a w h1 h2 h3 => ?_⟩
  have h4 := hk.h hR a w
  obtain ⟨c, k, L, A, Ts⟩ := s
  unfold ctC at h4
  simp only at h4 h h1 h2
  split at h4
  case h_2 => exact h4 h1 h2 h3
  rename_i x hx
  have hp := pick_perm A [i] (oth [i] A.length) h
  simp only [List.filterMap_cons, hx, List.filterMap_nil, List.cons_append, List.nil_append] at hp
  refine h4 h1 (h2.perm (List.Perm.append_right F ?_)) h3
  show ((oth [i] A.length).filterMap (A[·]?) ++ ([x] ++ Ts.flatten)).Perm (A ++ Ts.flatten)
  rw [← List.append_assoc]
  refine List.Perm.append_right _ (List.Perm.trans ?_ hp)
  exact List.perm_append_comm
/-! ### on the way out -/
structure LV (P : Program) (N : Nat) (D : List Deferred) (F : HL) (w0 : World) (R : HL) (fn : Func) (R' : Value → HL → Prop) (s : Cfg) : Prop where
  h : (∀ y ∈ R, y ∈ F) → ∀ a w, Fm N D s.L a → Rel (ap s.A s.Ts ++ F) w → Below 0 w0 w → LeavesInM (Wr none) 0 P fn a.tmps (SpR F w0 R') a.defers .returning w
theorem RN.lv {fn : Func} {R' : Value → HL → Prop} (hk : LV P N D F w0 R fn R' s) (hc : isDone s = true := by kernel_rfl) : RN none P N D F w0 R s (bodyPostM (Wr none) 0 P fn (SpR F w0 R')) := by
  refine ⟨fun hR a w hF hRel hB => ?_⟩
  have key := hk.h hR a w hF hRel hB
  exact isDone_wf hc key key
/-- the state behind a deferred call -/
def aftD (ip jp : List Nat) (Hq : HL) (Tq : List HL) (s : Cfg) : Cfg := setH (fun A => Hq ++ (oth ip A.length).filterMap (A[·]?)) (fun Ts => Tq ++ (oth jp Ts.length).filterMap (Ts[·]?)) s
theorem LV.df {τ : Type} {fn : Func} {R' : Value → HL → Prop} {g : FuncId} {args cap : Array Value} (eg : ∀ args w, (callFunc g args).run P w = .ok (.enter g args) w) (ip jp : List Nat) {Hp : HL} {Tp : List HL} {Hq : τ → HL} {Tq : τ → List HL} {Rv : Value → τ → Prop}
    (hc : SpD P g (args ++ cap) (ap Hp Tp) (ap (othA ip s) (othT jp s) ++ F) (fun v H' => ∃ x, H' = ap (Hq x) (Tq x) ∧ Rv v x)) (hk : ∀ v x, Rv v x → LV P N D F w0 R fn R' (aftD ip jp (Hq x) (Tq x) s))
    (hp : permOk ip jp s = true := by kernel_rfl) (hH : picks ip jp s = (Hp, Tp) := by kernel_rfl) : LV P N (dfD g args cap :: D) F w0 R fn R' s := by
  unfold permOk at hp
  unfold picks at hH
  rw [Bool.and_eq_true] at hp
  simp only [Prod.mk.injEq] at hH
  obtain ⟨e1, e2⟩ := hH
  refine ⟨fun hR a w hF hRel hB => ?_⟩
  have hperm : (ap Hp Tp ++ ap (othA ip s) (othT jp s)).Perm (ap s.A s.Ts) := by
    have h1 := ap_perm s.A s.Ts ip (oth ip s.A.length) jp (oth jp s.Ts.length) hp.1 hp.2
    rw [e1, e2] at h1
    exact h1
  have hR1 : Rel (ap Hp Tp ++ (ap (othA ip s) (othT jp s) ++ F)) w := by rw [← List.append_assoc]; exact hRel.perm (hperm.append_right F)
  rw [hF.defs]
  refine ⟨by simp, .inr ⟨(fun h => by cases h), .func g, cap, g, args ++ cap, rfl, ?_, fun _ _ => trivial, ?_⟩⟩
  · show (callFunc g (args ++ cap)).run P w = _
    exact eg _ _
  · refine (hc w hR1).mono ?_
    rintro e u' w' ⟨rfl, v, H', rfl, ⟨x, rfl, hv⟩, hR2, hB2⟩
    have := (hk v x hv).h hR { a with defers := D } w' ⟨hF.size, rfl, hF.has⟩ ?_ (hB.trans hB2)
    · exact this
    · unfold aftD
      rw [setH_eq.1, setH_eq.2.1]
      refine hR2.perm ?_
      exact (ap_swap _ _ _ _ _).symm
theorem LV.retO {fn : Func} {R' : Value → HL → Prop} (hints : List Hint) (Ob : List Prop) (hob : AllP Ob) (ip jp : List Nat) {v : Value} {H' : HL} (hv : R' v H')
    (h : ∀ n0, retV P n0 fn.results.toList R hints s = some (v, resX (retV P n0 fn.results.toList R hints s), resX (retV P n0 fn.results.toList R hints s), Ob) := by intro n0; kernel_rfl)
    (hp : permOk ip jp s = true := by kernel_rfl) (hH : ap (picks ip jp s).1 (picks ip jp s).2 = H' := by kernel_rfl) : LV P N [] F w0 R fn R' s := by
  unfold permOk at hp
  unfold picks at hH
  refine ⟨fun hR a w hF hRel hB => ?_⟩
  rw [Bool.and_eq_true] at hp
  have h' := h w.heap.size
  unfold retV resE at h'
  split at h'
  case h_2 => cases h'
  rename_i vs ss hs
  split at h'
  case h_2 => cases h'
  simp only [resX, Option.some.injEq, Prod.mk.injEq] at h'
  obtain ⟨e1, -, e3, e4⟩ := h'
  have hrun := resL_run (P := P) hF hRel fn.results.toList _ _ _ hs rfl rfl hR (fun e => by cases e) (pairs_eq rfl e3) (by rw [e4]; exact AllP.mem hob)
  subst e1
  rw [hF.defs]
  exact ⟨_, results_run (by simp) hrun, _, H', rfl, hv, hRel.takeT ip _ jp _ hp.1 hp.2 hH, hB⟩
theorem LV.ret {fn : Func} {R' : Value → HL → Prop} (hints : List Hint) (ip jp : List Nat) {v : Value} {H' : HL} (hv : R' v H')
    (h : ∀ n0, retV P n0 fn.results.toList R hints s = some (v, resX (retV P n0 fn.results.toList R hints s), resX (retV P n0 fn.results.toList R hints s), []) := by intro n0; kernel_rfl)
    (hp : permOk ip jp s = true := by kernel_rfl) (hH : ap (picks ip jp s).1 (picks ip jp s).2 = H' := by kernel_rfl) : LV P N [] F w0 R fn R' s := LV.retO hints [] trivial ip jp hv h hp hH
theorem LV.bv {fn : Func} {R' : Value → HL → Prop} (i : Nat) {b b' : Blk} (e : b = b') (hk : LV P N D F w0 R fn R' (bvC i b' s)) (h : (s.A[i]?).map (·.2) = some b := by kernel_rfl) : LV P N D F w0 R fn R' s := by
  subst e
  refine ⟨fun hR a w h1 h2 h3 => hk.h hR a w h1 ?_ h3⟩
  obtain ⟨c, k, L, A, Ts⟩ := s
  simp only [Option.map_eq_some_iff] at h
  obtain ⟨x, hx, e⟩ := h
  unfold bvC
  simp only [hx]
  refine h2.denA (setAt_den hx (by rw [e]))
end
end Go.Proofs.YtampdcgphdnnhaaGreatDoor
