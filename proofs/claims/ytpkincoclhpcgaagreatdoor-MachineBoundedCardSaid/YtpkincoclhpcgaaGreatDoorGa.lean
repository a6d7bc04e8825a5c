/- Contracts, printed by a program. -/
import Derived.Test.YtpkincoclhpcgaaGreatDoorE5
import Derived.Test.YtpkincoclhpcgaaGreatDoorProg
namespace Go.Proofs.YtpkincoclhpcgaaGreatDoor
set_option linter.unusedSimpArgs false
set_option linter.unusedVariables false
open Go.RowKit
abbrev w64 (n : Int) : Int := IntKind.i64.wrap n
structure V2 where (x y : Int)
structure Bx where (x0 y0 x1 y1 : Int)
structure Mot where (px py vx vy inv : Int)
structure Con where (nx ny d : Int)
def clampI (n lo hi : Int) : Int := if n < lo then lo else if n > hi then hi else n
def fdivI (a b : Int) : Int := if b = 0 then 0 else if (a.tmod b > 0 ∧ b < 0) ∨ (a.tmod b < 0 ∧ b > 0) then w64 (w64 (a.tdiv b) - 1) else w64 (a.tdiv b)
def mulI (a b : Int) : Int := fdivI (w64 (a * b)) 1024
def mulDivI (a b c : Int) : Int := fdivI (w64 (a * b)) c
def absI (n : Int) : Int := if n < 0 then w64 (0 - n) else n

set_option maxHeartbeats 400000 in
set_option maxRecDepth 100000 in
theorem clamp_any (n : Int) (lo : Int) (hi : Int)  (F : HL) : Sp Tryz.prog 25 #[vI n, vI lo, vI hi] [] F (fun u H' => u = vI (clampI n lo hi) ∧ H' = []) := by
  refine Sp.of_body Tryz.func25 rfl rfl rfl [(0, vI n), (1, vI lo), (2, vI hi)] rfl ?_
  intro w0
  refine TR.convH (ap [] []) rfl ?_
  refine TR.seq ?_
  refine TR.reg ?_
  refine TL.seg0 1 [] [] [0, 1, 2] [(0, vI n), (1, vI lo), (2, vI hi)] (ap [] []) [] [] (fun _ => by kernel_rfl) mn an ?_
  refine TL.fin (by kernel_rfl) ?_
  refine EX.next ?_
  refine TR.seq ?_
  refine TR.block ?_
  refine TR.seq ?_
  refine TR.reg ?_
  refine TL.seg0 4 [] [] [0, 1, 2, 7] [(0, vI n), (1, vI lo), (2, vI hi), (7, .bool (decide (n < lo)))] (ap [] []) [] [] (fun _ => by kernel_rfl) mn an ?_
  refine TL.fin (by kernel_rfl) ?_
  refine EX.next ?_
  rcases Decidable.em (n < lo) with h1 | h1
  · refine TR.yes (b := decide (n < lo)) (by kernel_rfl) (by kernel_rfl) (decide_eq_true h1) ?_
    refine TR.seq ?_
    refine TR.reg ?_
    refine TL.seg0 2 [] [] [6] [(6, vI lo)] (ap [] []) [] [] (fun _ => by kernel_rfl) mn an ?_
    refine TL.fin (by kernel_rfl) ?_
    refine EX.next ?_
    refine TR.ret (A := []) (Ts := []) (by exact fun _ _ h => h) rfl rfl [] [] (vI lo) [] [] (fun _ => by kernel_rfl) mn an [] [] [] [] [] (by kernel_rfl) (by kernel_rfl) (by kernel_rfl) ?_
    exact ⟨by unfold clampI; simp [*], rfl⟩
  · refine TR.no (b := decide (n < lo)) (by kernel_rfl) (by kernel_rfl) (decide_eq_false h1) ?_
    refine TR.seq ?_
    refine TR.reg ?_
    refine TL.seg0 4 [] [] [0, 2, 12] [(0, vI n), (2, vI hi), (12, .bool (decide (n > hi)))] (ap [] []) [] [] (fun _ => by kernel_rfl) mn an ?_
    refine TL.fin (by kernel_rfl) ?_
    refine EX.next ?_
    rcases Decidable.em (n > hi) with h2 | h2
    · refine TR.yes (b := decide (n > hi)) (by kernel_rfl) (by kernel_rfl) (decide_eq_true h2) ?_
      refine TR.seq ?_
      refine TR.reg ?_
      refine TL.seg0 2 [] [] [6] [(6, vI hi)] (ap [] []) [] [] (fun _ => by kernel_rfl) mn an ?_
      refine TL.fin (by kernel_rfl) ?_
      refine EX.next ?_
      refine TR.ret (A := []) (Ts := []) (by exact fun _ _ h => h) rfl rfl [] [] (vI hi) [] [] (fun _ => by kernel_rfl) mn an [] [] [] [] [] (by kernel_rfl) (by kernel_rfl) (by kernel_rfl) ?_
      exact ⟨by unfold clampI; simp [*], rfl⟩
    · refine TR.no (b := decide (n > hi)) (by kernel_rfl) (by kernel_rfl) (decide_eq_false h2) ?_
      refine TR.skip ?_
      refine EX.inn ?_
      refine EX.next ?_
      refine TR.seq ?_
      refine TR.reg ?_
      refine TL.seg0 2 [] [] [6] [(6, vI n)] (ap [] []) [] [] (fun _ => by kernel_rfl) mn an ?_
      refine TL.fin (by kernel_rfl) ?_
      refine EX.next ?_
      refine TR.ret (A := []) (Ts := []) (by exact fun _ _ h => h) rfl rfl [] [] (vI n) [] [] (fun _ => by kernel_rfl) mn an [] [] [] [] [] (by kernel_rfl) (by kernel_rfl) (by kernel_rfl) ?_
      exact ⟨by unfold clampI; simp [*], rfl⟩

set_option maxHeartbeats 400000 in
set_option maxRecDepth 100000 in
theorem floorDiv_any (a : Int) (b : Int)  (F : HL) : Sp Tryz.prog 55 #[vI a, vI b] [] F (fun u H' => u = vI (fdivI a b) ∧ H' = []) := by
  refine Sp.of_body Tryz.func55 rfl rfl rfl [(0, vI a), (1, vI b)] rfl ?_
  intro w0
  refine TR.convH (ap [] []) rfl ?_
  refine TR.seq ?_
  refine TR.reg ?_
  refine TL.seg0 1 [] [] [0, 1] [(0, vI a), (1, vI b)] (ap [] []) [] [] (fun _ => by kernel_rfl) mn an ?_
  refine TL.fin (by kernel_rfl) ?_
  refine EX.next ?_
  refine TR.seq ?_
  refine TR.seq ?_
  refine TR.reg ?_
  refine TL.seg0 2 [] [] [0, 1, 8] [(0, vI a), (1, vI b), (8, .bool (decide (b = 0)))] (ap [] []) [] [] (fun _ => by kernel_rfl) mn an ?_
  refine TL.fin (by kernel_rfl) ?_
  refine EX.next ?_
  rcases Decidable.em (b = 0) with h1 | h1
  · refine TR.yes (b := decide (b = 0)) (by kernel_rfl) (by kernel_rfl) (decide_eq_true h1) ?_
    refine TR.seq ?_
    refine TR.reg ?_
    refine TL.seg0 1 [] [] [4] [(4, vI 0)] (ap [] []) [] [] (fun _ => by kernel_rfl) mn an ?_
    refine TL.fin (by kernel_rfl) ?_
    refine EX.next ?_
    refine TR.ret (A := []) (Ts := []) (by exact fun _ _ h => h) rfl rfl [] [] (vI 0) [] [] (fun _ => by kernel_rfl) mn an [] [] [] [] [] (by kernel_rfl) (by kernel_rfl) (by kernel_rfl) ?_
    exact ⟨by unfold fdivI; simp [*], rfl⟩
  · refine TR.no (b := decide (b = 0)) (by kernel_rfl) (by kernel_rfl) (decide_eq_false h1) ?_
    refine TR.skip ?_
    refine EX.next ?_
    refine TR.seq ?_
    refine TR.draw [] [] rfl (by kernel_rfl) ?_
    let z1 : Nat × Value := (5, vI (IntKind.i64.wrap (a.tdiv b)))
    let z2 : Nat × Value := (6, vI (a.tmod b))
    refine TD.vals [] (by kernel_rfl) [0, 1, 3, 4, 2, 5, 6, 7] [] [.dv, .dv] [1, 5, 6] [true, true, true, true, true, true, true, true] [(1, vI b), z1, z2] [] [b ≠ 0, b ≠ 0] (by kernel_rfl) (by kernel_rfl) mn (ac (by omega) (ac (by omega) an)) 0 rfl ?_
    refine TD.fin (by kernel_rfl) (EX.np ?_)
    refine EX.next ?_
    refine TR.seq ?_
    refine TR.block ?_
    refine TR.seq ?_
    refine TR.block ?_
    refine TR.block ?_
    refine TR.seq ?_
    refine TR.seq ?_
    refine TR.seq ?_
    refine TR.reg ?_
    rcases Decidable.em (a.tmod b > 0) with h2 | h2
    · refine TL.seg0 7 [] [.gd true, .gd true, .gd true] [1, 5, 6, 15] [(1, vI b), z1, z2, (15, .bool (decide (b < 0)))] (ap [] []) [] [(decide (a.tmod b > 0)) = true, (decide (a.tmod b > 0)) = true, (decide (a.tmod b > 0)) = true] (fun _ => by kernel_rfl) mn (ac (decide_eq_true h2) (ac (decide_eq_true h2) (ac (decide_eq_true h2) an))) ?_
      refine TL.fin (by kernel_rfl) ?_
      refine EX.next ?_
      rcases Decidable.em (b < 0) with h3 | h3
      · refine TR.yes (b := decide (b < 0)) (by kernel_rfl) (by kernel_rfl) (decide_eq_true h3) ?_
        refine TR.exit ?_
        refine EX.thn (by simp) ?_
        refine EX.thn (by simp) ?_
        refine EX.hit ?_
        refine EX.inn ?_
        refine EX.next ?_
        refine TR.seq ?_
        refine TR.reg ?_
        refine TL.seg0 3 [] [] [5] [(5, vI (IntKind.i64.wrap ((IntKind.i64.wrap (a.tdiv b)) - 1)))] (ap [] []) [] [] (fun _ => by kernel_rfl) mn an ?_
        refine TL.fin (by kernel_rfl) ?_
        refine EX.next ?_
        refine TR.exit ?_
        refine EX.hit ?_
        refine EX.next ?_
        refine TR.seq ?_
        refine TR.reg ?_
        refine TL.seg0 2 [] [] [4] [(4, vI (IntKind.i64.wrap ((IntKind.i64.wrap (a.tdiv b)) - 1)))] (ap [] []) [] [] (fun _ => by kernel_rfl) mn an ?_
        refine TL.fin (by kernel_rfl) ?_
        refine EX.next ?_
        refine TR.ret (A := []) (Ts := []) (by exact fun _ _ h => h) rfl rfl [] [] (vI (IntKind.i64.wrap ((IntKind.i64.wrap (a.tdiv b)) - 1))) [] [] (fun _ => by kernel_rfl) mn an [] [] [] [] [] (by kernel_rfl) (by kernel_rfl) (by kernel_rfl) ?_
        exact ⟨by unfold fdivI; simp [*], rfl⟩
      · refine TR.no (b := decide (b < 0)) (by kernel_rfl) (by kernel_rfl) (decide_eq_false h3) ?_
        refine TR.skip ?_
        refine EX.next ?_
        refine TR.seq ?_
        refine TR.reg ?_
        rcases Decidable.em (a.tmod b < 0) with h4 | h4
        · refine TL.seg0 7 [] [.gd true, .gd true, .gd true] [5, 22] [z1, (22, .bool (decide (b > 0)))] (ap [] []) [] [(decide (a.tmod b < 0)) = true, (decide (a.tmod b < 0)) = true, (decide (a.tmod b < 0)) = true] (fun _ => by kernel_rfl) mn (ac (decide_eq_true h4) (ac (decide_eq_true h4) (ac (decide_eq_true h4) an))) ?_
          refine TL.fin (by kernel_rfl) ?_
          refine EX.next ?_
          rcases Decidable.em (b > 0) with h5 | h5
          · refine TR.yes (b := decide (b > 0)) (by kernel_rfl) (by kernel_rfl) (decide_eq_true h5) ?_
            refine TR.exit ?_
            refine EX.thn (by simp) ?_
            refine EX.miss (by decide) ?_
            refine EX.hit ?_
            refine EX.next ?_
            refine TR.seq ?_
            refine TR.reg ?_
            refine TL.seg0 3 [] [] [5] [(5, vI (IntKind.i64.wrap ((IntKind.i64.wrap (a.tdiv b)) - 1)))] (ap [] []) [] [] (fun _ => by kernel_rfl) mn an ?_
            refine TL.fin (by kernel_rfl) ?_
            refine EX.next ?_
            refine TR.exit ?_
            refine EX.hit ?_
            refine EX.next ?_
            refine TR.seq ?_
            refine TR.reg ?_
            refine TL.seg0 2 [] [] [4] [(4, vI (IntKind.i64.wrap ((IntKind.i64.wrap (a.tdiv b)) - 1)))] (ap [] []) [] [] (fun _ => by kernel_rfl) mn an ?_
            refine TL.fin (by kernel_rfl) ?_
            refine EX.next ?_
            refine TR.ret (A := []) (Ts := []) (by exact fun _ _ h => h) rfl rfl [] [] (vI (IntKind.i64.wrap ((IntKind.i64.wrap (a.tdiv b)) - 1))) [] [] (fun _ => by kernel_rfl) mn an [] [] [] [] [] (by kernel_rfl) (by kernel_rfl) (by kernel_rfl) ?_
            exact ⟨by unfold fdivI; simp [*], rfl⟩
          · refine TR.no (b := decide (b > 0)) (by kernel_rfl) (by kernel_rfl) (decide_eq_false h5) ?_
            refine TR.skip ?_
            refine EX.next ?_
            refine TR.exit ?_
            refine EX.miss (by decide) ?_
            refine EX.miss (by decide) ?_
            refine EX.thn (by simp) ?_
            refine EX.hit ?_
            refine EX.next ?_
            refine TR.seq ?_
            refine TR.reg ?_
            refine TL.seg0 2 [] [] [4] [(4, vI (IntKind.i64.wrap (a.tdiv b)))] (ap [] []) [] [] (fun _ => by kernel_rfl) mn an ?_
            refine TL.fin (by kernel_rfl) ?_
            refine EX.next ?_
            refine TR.ret (A := []) (Ts := []) (by exact fun _ _ h => h) rfl rfl [] [] (vI (IntKind.i64.wrap (a.tdiv b))) [] [] (fun _ => by kernel_rfl) mn an [] [] [] [] [] (by kernel_rfl) (by kernel_rfl) (by kernel_rfl) ?_
            exact ⟨by unfold fdivI; simp [*], rfl⟩
        · refine TL.seg0 7 [] [.gd false, .gd false, .gd false] [5, 22] [z1, (22, .bool false)] (ap [] []) [] [(decide (a.tmod b < 0)) = false, (decide (a.tmod b < 0)) = false, (decide (a.tmod b < 0)) = false] (fun _ => by kernel_rfl) mn (ac (decide_eq_false h4) (ac (decide_eq_false h4) (ac (decide_eq_false h4) an))) ?_
          refine TL.fin (by kernel_rfl) ?_
          refine EX.next ?_
          refine TR.no (by kernel_rfl) (by kernel_rfl) (rfl : false = false) ?_
          refine TR.skip ?_
          refine EX.next ?_
          refine TR.exit ?_
          refine EX.miss (by decide) ?_
          refine EX.miss (by decide) ?_
          refine EX.thn (by simp) ?_
          refine EX.hit ?_
          refine EX.next ?_
          refine TR.seq ?_
          refine TR.reg ?_
          refine TL.seg0 2 [] [] [4] [(4, vI (IntKind.i64.wrap (a.tdiv b)))] (ap [] []) [] [] (fun _ => by kernel_rfl) mn an ?_
          refine TL.fin (by kernel_rfl) ?_
          refine EX.next ?_
          refine TR.ret (A := []) (Ts := []) (by exact fun _ _ h => h) rfl rfl [] [] (vI (IntKind.i64.wrap (a.tdiv b))) [] [] (fun _ => by kernel_rfl) mn an [] [] [] [] [] (by kernel_rfl) (by kernel_rfl) (by kernel_rfl) ?_
          exact ⟨by unfold fdivI; simp [*], rfl⟩
    · refine TL.seg0 7 [] [.gd false, .gd false, .gd false] [1, 5, 6, 15] [(1, vI b), z1, z2, (15, .bool false)] (ap [] []) [] [(decide (a.tmod b > 0)) = false, (decide (a.tmod b > 0)) = false, (decide (a.tmod b > 0)) = false] (fun _ => by kernel_rfl) mn (ac (decide_eq_false h2) (ac (decide_eq_false h2) (ac (decide_eq_false h2) an))) ?_
      refine TL.fin (by kernel_rfl) ?_
      refine EX.next ?_
      refine TR.no (by kernel_rfl) (by kernel_rfl) (rfl : false = false) ?_
      refine TR.skip ?_
      refine EX.next ?_
      refine TR.seq ?_
      refine TR.reg ?_
      rcases Decidable.em (a.tmod b < 0) with h6 | h6
      · refine TL.seg0 7 [] [.gd true, .gd true, .gd true] [5, 22] [z1, (22, .bool (decide (b > 0)))] (ap [] []) [] [(decide (a.tmod b < 0)) = true, (decide (a.tmod b < 0)) = true, (decide (a.tmod b < 0)) = true] (fun _ => by kernel_rfl) mn (ac (decide_eq_true h6) (ac (decide_eq_true h6) (ac (decide_eq_true h6) an))) ?_
        refine TL.fin (by kernel_rfl) ?_
        refine EX.next ?_
        rcases Decidable.em (b > 0) with h7 | h7
        · refine TR.yes (b := decide (b > 0)) (by kernel_rfl) (by kernel_rfl) (decide_eq_true h7) ?_
          refine TR.exit ?_
          refine EX.thn (by simp) ?_
          refine EX.miss (by decide) ?_
          refine EX.hit ?_
          refine EX.next ?_
          refine TR.seq ?_
          refine TR.reg ?_
          refine TL.seg0 3 [] [] [5] [(5, vI (IntKind.i64.wrap ((IntKind.i64.wrap (a.tdiv b)) - 1)))] (ap [] []) [] [] (fun _ => by kernel_rfl) mn an ?_
          refine TL.fin (by kernel_rfl) ?_
          refine EX.next ?_
          refine TR.exit ?_
          refine EX.hit ?_
          refine EX.next ?_
          refine TR.seq ?_
          refine TR.reg ?_
          refine TL.seg0 2 [] [] [4] [(4, vI (IntKind.i64.wrap ((IntKind.i64.wrap (a.tdiv b)) - 1)))] (ap [] []) [] [] (fun _ => by kernel_rfl) mn an ?_
          refine TL.fin (by kernel_rfl) ?_
          refine EX.next ?_
          refine TR.ret (A := []) (Ts := []) (by exact fun _ _ h => h) rfl rfl [] [] (vI (IntKind.i64.wrap ((IntKind.i64.wrap (a.tdiv b)) - 1))) [] [] (fun _ => by kernel_rfl) mn an [] [] [] [] [] (by kernel_rfl) (by kernel_rfl) (by kernel_rfl) ?_
          exact ⟨by unfold fdivI; simp [*], rfl⟩
        · refine TR.no (b := decide (b > 0)) (by kernel_rfl) (by kernel_rfl) (decide_eq_false h7) ?_
          refine TR.skip ?_
          refine EX.next ?_
          refine TR.exit ?_
          refine EX.miss (by decide) ?_
          refine EX.miss (by decide) ?_
          refine EX.thn (by simp) ?_
          refine EX.hit ?_
          refine EX.next ?_
          refine TR.seq ?_
          refine TR.reg ?_
          refine TL.seg0 2 [] [] [4] [(4, vI (IntKind.i64.wrap (a.tdiv b)))] (ap [] []) [] [] (fun _ => by kernel_rfl) mn an ?_
          refine TL.fin (by kernel_rfl) ?_
          refine EX.next ?_
          refine TR.ret (A := []) (Ts := []) (by exact fun _ _ h => h) rfl rfl [] [] (vI (IntKind.i64.wrap (a.tdiv b))) [] [] (fun _ => by kernel_rfl) mn an [] [] [] [] [] (by kernel_rfl) (by kernel_rfl) (by kernel_rfl) ?_
          exact ⟨by unfold fdivI; simp [*], rfl⟩
      · refine TL.seg0 7 [] [.gd false, .gd false, .gd false] [5, 22] [z1, (22, .bool false)] (ap [] []) [] [(decide (a.tmod b < 0)) = false, (decide (a.tmod b < 0)) = false, (decide (a.tmod b < 0)) = false] (fun _ => by kernel_rfl) mn (ac (decide_eq_false h6) (ac (decide_eq_false h6) (ac (decide_eq_false h6) an))) ?_
        refine TL.fin (by kernel_rfl) ?_
        refine EX.next ?_
        refine TR.no (by kernel_rfl) (by kernel_rfl) (rfl : false = false) ?_
        refine TR.skip ?_
        refine EX.next ?_
        refine TR.exit ?_
        refine EX.miss (by decide) ?_
        refine EX.miss (by decide) ?_
        refine EX.thn (by simp) ?_
        refine EX.hit ?_
        refine EX.next ?_
        refine TR.seq ?_
        refine TR.reg ?_
        refine TL.seg0 2 [] [] [4] [(4, vI (IntKind.i64.wrap (a.tdiv b)))] (ap [] []) [] [] (fun _ => by kernel_rfl) mn an ?_
        refine TL.fin (by kernel_rfl) ?_
        refine EX.next ?_
        refine TR.ret (A := []) (Ts := []) (by exact fun _ _ h => h) rfl rfl [] [] (vI (IntKind.i64.wrap (a.tdiv b))) [] [] (fun _ => by kernel_rfl) mn an [] [] [] [] [] (by kernel_rfl) (by kernel_rfl) (by kernel_rfl) ?_
        exact ⟨by unfold fdivI; simp [*], rfl⟩

set_option maxHeartbeats 400000 in
set_option maxRecDepth 100000 in
theorem mul_any (a : Int) (b : Int)  (F : HL) : Sp Tryz.prog 42 #[vI a, vI b] [] F (fun u H' => u = vI (mulI a b) ∧ H' = []) := by
  refine Sp.of_body Tryz.func42 rfl rfl rfl [(0, vI a), (1, vI b)] rfl ?_
  intro w0
  refine TR.convH (ap [] []) rfl ?_
  refine TR.seq ?_
  refine TR.reg ?_
  refine TL.seg0 1 [] [] [0, 1] [(0, vI a), (1, vI b)] (ap [] []) [] [] (fun _ => by kernel_rfl) mn an ?_
  refine TL.fin (by kernel_rfl) ?_
  refine EX.next ?_
  refine TR.seq ?_
  refine TR.reg ?_
  refine TL.seg0 3 [] [] [7] [(7, vI (IntKind.i64.wrap (a * b)))] (ap [] []) [] [] (fun _ => by kernel_rfl) mn an ?_
  refine TL.callp (dst := (some 8)) (f := 55) (args := #[vI (IntKind.i64.wrap (a * b)), vI 1024]) (H1 := (ap [] [])) (E := []) (Ob := []) [] [] [8] (vI (fdivI (IntKind.i64.wrap (a * b)) 1024)) [(8, vI (fdivI (IntKind.i64.wrap (a * b)) 1024))] (fun _ => by kernel_rfl) mn an (floorDiv_any (IntKind.i64.wrap (a * b)) 1024  _) (by kernel_rfl) ?_
  refine TL.seg0 1 [] [] [4] [(4, vI (fdivI (IntKind.i64.wrap (a * b)) 1024))] (ap [] []) [] [] (fun _ => by kernel_rfl) mn an ?_
  refine TL.fin (by kernel_rfl) ?_
  refine EX.next ?_
  refine TR.ret (A := []) (Ts := []) (by exact fun _ _ h => h) rfl rfl [] [] (vI (fdivI (IntKind.i64.wrap (a * b)) 1024)) [] [] (fun _ => by kernel_rfl) mn an [] [] [] [] [] (by kernel_rfl) (by kernel_rfl) (by kernel_rfl) ?_
  exact ⟨rfl, rfl⟩

set_option maxHeartbeats 400000 in
set_option maxRecDepth 100000 in
theorem mulDiv_any (a : Int) (b : Int) (c : Int)  (F : HL) : Sp Tryz.prog 74 #[vI a, vI b, vI c] [] F (fun u H' => u = vI (mulDivI a b c) ∧ H' = []) := by
  refine Sp.of_body Tryz.func74 rfl rfl rfl [(0, vI a), (1, vI b), (2, vI c)] rfl ?_
  intro w0
  refine TR.convH (ap [] []) rfl ?_
  refine TR.seq ?_
  refine TR.reg ?_
  refine TL.seg0 1 [] [] [0, 1, 2] [(0, vI a), (1, vI b), (2, vI c)] (ap [] []) [] [] (fun _ => by kernel_rfl) mn an ?_
  refine TL.fin (by kernel_rfl) ?_
  refine EX.next ?_
  refine TR.seq ?_
  refine TR.reg ?_
  refine TL.seg0 4 [] [] [9, 10] [(9, vI (IntKind.i64.wrap (a * b))), (10, vI c)] (ap [] []) [] [] (fun _ => by kernel_rfl) mn an ?_
  refine TL.callp (dst := (some 11)) (f := 55) (args := #[vI (IntKind.i64.wrap (a * b)), vI c]) (H1 := (ap [] [])) (E := []) (Ob := []) [] [] [11] (vI (fdivI (IntKind.i64.wrap (a * b)) c)) [(11, vI (fdivI (IntKind.i64.wrap (a * b)) c))] (fun _ => by kernel_rfl) mn an (floorDiv_any (IntKind.i64.wrap (a * b)) c  _) (by kernel_rfl) ?_
  refine TL.seg0 1 [] [] [6] [(6, vI (fdivI (IntKind.i64.wrap (a * b)) c))] (ap [] []) [] [] (fun _ => by kernel_rfl) mn an ?_
  refine TL.fin (by kernel_rfl) ?_
  refine EX.next ?_
  refine TR.ret (A := []) (Ts := []) (by exact fun _ _ h => h) rfl rfl [] [] (vI (fdivI (IntKind.i64.wrap (a * b)) c)) [] [] (fun _ => by kernel_rfl) mn an [] [] [] [] [] (by kernel_rfl) (by kernel_rfl) (by kernel_rfl) ?_
  exact ⟨rfl, rfl⟩

set_option maxHeartbeats 400000 in
set_option maxRecDepth 100000 in
theorem abs_any (n : Int)  (F : HL) : Sp Tryz.prog 21 #[vI n] [] F (fun u H' => u = vI (absI n) ∧ H' = []) := by
  refine Sp.of_body Tryz.func21 rfl rfl rfl [(0, vI n)] rfl ?_
  intro w0
  refine TR.convH (ap [] []) rfl ?_
  refine TR.seq ?_
  refine TR.reg ?_
  refine TL.seg0 1 [] [] [0] [(0, vI n)] (ap [] []) [] [] (fun _ => by kernel_rfl) mn an ?_
  refine TL.fin (by kernel_rfl) ?_
  refine EX.next ?_
  refine TR.seq ?_
  refine TR.seq ?_
  refine TR.reg ?_
  refine TL.seg0 2 [] [] [0, 4] [(0, vI n), (4, .bool (decide (n < 0)))] (ap [] []) [] [] (fun _ => by kernel_rfl) mn an ?_
  refine TL.fin (by kernel_rfl) ?_
  refine EX.next ?_
  rcases Decidable.em (n < 0) with h1 | h1
  · refine TR.yes (b := decide (n < 0)) (by kernel_rfl) (by kernel_rfl) (decide_eq_true h1) ?_
    refine TR.seq ?_
    refine TR.reg ?_
    refine TL.seg0 3 [] [] [2] [(2, vI (IntKind.i64.wrap (0 - n)))] (ap [] []) [] [] (fun _ => by kernel_rfl) mn an ?_
    refine TL.fin (by kernel_rfl) ?_
    refine EX.next ?_
    refine TR.ret (A := []) (Ts := []) (by exact fun _ _ h => h) rfl rfl [] [] (vI (IntKind.i64.wrap (0 - n))) [] [] (fun _ => by kernel_rfl) mn an [] [] [] [] [] (by kernel_rfl) (by kernel_rfl) (by kernel_rfl) ?_
    exact ⟨by unfold absI; simp [*], rfl⟩
  · refine TR.no (b := decide (n < 0)) (by kernel_rfl) (by kernel_rfl) (decide_eq_false h1) ?_
    refine TR.skip ?_
    refine EX.next ?_
    refine TR.seq ?_
    refine TR.reg ?_
    refine TL.seg0 2 [] [] [2] [(2, vI n)] (ap [] []) [] [] (fun _ => by kernel_rfl) mn an ?_
    refine TL.fin (by kernel_rfl) ?_
    refine EX.next ?_
    refine TR.ret (A := []) (Ts := []) (by exact fun _ _ h => h) rfl rfl [] [] (vI n) [] [] (fun _ => by kernel_rfl) mn an [] [] [] [] [] (by kernel_rfl) (by kernel_rfl) (by kernel_rfl) ?_
    exact ⟨by unfold absI; simp [*], rfl⟩
end Go.Proofs.YtpkincoclhpcgaaGreatDoor
