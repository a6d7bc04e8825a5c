/- Contracts, printed by a program. -/
import Derived.Test.YtpkincoclhpcgaaGreatDoorKi
namespace Go.Proofs.YtpkincoclhpcgaaGreatDoor
set_option linter.unusedSimpArgs false
set_option linter.unusedVariables false
open Go.RowKit
def around (n most : Int) : Int := (if n < 0 then w64 (0 - w64 (n + 1)) else n).tmod most

set_option maxHeartbeats 400000 in
set_option maxRecDepth 100000 in
theorem around_any (n : Int) (most : Int) (h0 : most ≠ 0) (F : HL) : Sp Tryz.prog 6 #[vI n, vI most] [] F (fun u H' => u = vI (around n most) ∧ H' = []) := by
  refine Sp.of_body Tryz.func6 rfl rfl rfl [(0, vI n), (1, vI most)] rfl ?_
  intro w0
  refine TR.convH (ap [] []) rfl ?_
  refine TR.seq ?_
  refine TR.reg ?_
  refine TL.seg0 1 [] [] [0, 1] [(0, vI n), (1, vI most)] (ap [] []) [] [] (fun _ => by kernel_rfl) mn an ?_
  refine TL.fin (by kernel_rfl) ?_
  refine EX.next ?_
  refine TR.seq ?_
  refine TR.seq ?_
  refine TR.reg ?_
  refine TL.seg0 2 [] [] [0, 1, 6] [(0, vI n), (1, vI most), (6, .bool (decide (n < 0)))] (ap [] []) [] [] (fun _ => by kernel_rfl) mn an ?_
  refine TL.fin (by kernel_rfl) ?_
  refine EX.next ?_
  rcases Decidable.em (n < 0) with h1 | h1
  · refine TR.yes (b := decide (n < 0)) (by kernel_rfl) (by kernel_rfl) (decide_eq_true h1) ?_
    refine TR.reg ?_
    refine TL.seg0 4 [] [] [0, 1] [(0, vI (IntKind.i64.wrap (0 - (IntKind.i64.wrap (n + 1))))), (1, vI most)] (ap [] []) [] [] (fun _ => by kernel_rfl) mn an ?_
    refine TL.fin (by kernel_rfl) ?_
    refine EX.next ?_
    refine TR.seq ?_
    refine TR.reg ?_
    refine TL.seg0 4 [] [.dv] [4] [(4, vI ((IntKind.i64.wrap (0 - (IntKind.i64.wrap (n + 1)))).tmod most))] (ap [] []) [] [most ≠ 0] (fun _ => by kernel_rfl) mn (ac h0 an) ?_
    refine TL.fin (by kernel_rfl) ?_
    refine EX.next ?_
    refine TR.ret (A := []) (Ts := []) (by exact fun _ _ h => h) rfl rfl [] [] (vI ((IntKind.i64.wrap (0 - (IntKind.i64.wrap (n + 1)))).tmod most)) [] [] (fun _ => by kernel_rfl) mn an [] [] [] [] [] (by kernel_rfl) (by kernel_rfl) (by kernel_rfl) ?_
    exact ⟨by unfold around; simp [*], rfl⟩
  · refine TR.no (b := decide (n < 0)) (by kernel_rfl) (by kernel_rfl) (decide_eq_false h1) ?_
    refine TR.skip ?_
    refine EX.next ?_
    refine TR.seq ?_
    refine TR.reg ?_
    refine TL.seg0 4 [] [.dv] [4] [(4, vI (n.tmod most))] (ap [] []) [] [most ≠ 0] (fun _ => by kernel_rfl) mn (ac h0 an) ?_
    refine TL.fin (by kernel_rfl) ?_
    refine EX.next ?_
    refine TR.ret (A := []) (Ts := []) (by exact fun _ _ h => h) rfl rfl [] [] (vI (n.tmod most)) [] [] (fun _ => by kernel_rfl) mn an [] [] [] [] [] (by kernel_rfl) (by kernel_rfl) (by kernel_rfl) ?_
    exact ⟨by unfold around; simp [*], rfl⟩

def boundI (S : Setup) : Int := IntKind.i64.wrap ((IntKind.i64.wrap ((IntKind.i64.wrap ((IntKind.i64.wrap ((IntKind.i64.wrap (S.players + (IntKind.i64.wrap ((IntKind.i64.wrap ((IntKind.i64.wrap (S.players + 1)) + (S.nb : Int))) * (IntKind.i64.wrap (S.fuel + 3)))))) + (IntKind.i64.wrap (2 * (S.nb : Int))))) + 3)) + (IntKind.i64.wrap ((IntKind.i64.wrap ((IntKind.i64.wrap (S.rounds * (S.nb : Int))) * (IntKind.i64.wrap ((S.nb : Int) - 1)))).tdiv 2)))) + (IntKind.i64.wrap ((S.nb : Int) * (IntKind.i64.wrap ((S.nb : Int) + 1)))))

set_option maxHeartbeats 400000 in
set_option maxRecDepth 100000 in
theorem bound_any (S : Setup) (F : HL) : Sp Tryz.prog 11 #[(Setup.v S)] [] F (fun u H' => u = vI (boundI S) ∧ H' = []) := by
  refine Sp.of_body Tryz.func11 rfl rfl rfl [(0, (Setup.v S))] rfl ?_
  intro w0
  refine TR.convH (ap [] []) rfl ?_
  refine TR.seq ?_
  refine TR.reg ?_
  refine TL.seg 2 [] [] [1] (fun n1 => [(1, vP (n1 + 0) 0)]) (fun n1 => (ap [((n1 + 0), .lit (Setup.l S) 32 (0, 0))] [])) (fun n1 => []) (fun n1 => []) (fun _ => by kernel_rfl) mn (fun n1 => an) ?_
  intro n1
  refine TL.fin (by kernel_rfl) ?_
  refine EX.next ?_
  refine TR.seq ?_
  refine TR.reg ?_
  let z1 : Nat × Value := (1, vP (n1 + 0) 0)
  let z2 : Nat × Value := (3, vI S.players)
  let z3 : Nat × Blk := ((n1 + 0), .lit (Setup.l S) 32 (0, 0))
  refine TL.seg0 3 [] [.own 0] [1, 3] [z1, z2] (ap [z3] []) [(n1 + 0)] [] (fun _ => by kernel_rfl) mn an ?_
  refine TL.fin (by kernel_rfl) ?_
  refine EX.next ?_
  refine TR.seq ?_
  refine TR.reg ?_
  refine TL.seg0 4 [] [.own 0] [1, 3, 4] [z1, z2, (4, vI (S.nb : Int))] (ap [z3] []) [(n1 + 0)] [] (fun _ => by kernel_rfl) mn an ?_
  refine TL.fin (by kernel_rfl) ?_
  refine EX.next ?_
  refine TR.seq ?_
  refine TR.reg ?_
  refine TL.seg0 29 [] [.own 0, .own 0] [2] [(2, vI (IntKind.i64.wrap ((IntKind.i64.wrap ((IntKind.i64.wrap ((IntKind.i64.wrap ((IntKind.i64.wrap (S.players + (IntKind.i64.wrap ((IntKind.i64.wrap ((IntKind.i64.wrap (S.players + 1)) + (S.nb : Int))) * (IntKind.i64.wrap (S.fuel + 3)))))) + (IntKind.i64.wrap (2 * (S.nb : Int))))) + 3)) + (IntKind.i64.wrap ((IntKind.i64.wrap ((IntKind.i64.wrap (S.rounds * (S.nb : Int))) * (IntKind.i64.wrap ((S.nb : Int) - 1)))).tdiv 2)))) + (IntKind.i64.wrap ((S.nb : Int) * (IntKind.i64.wrap ((S.nb : Int) + 1)))))))] (ap [z3] []) [(n1 + 0), (n1 + 0)] [] (fun _ => by kernel_rfl) mn an ?_
  refine TL.fin (by kernel_rfl) ?_
  refine EX.next ?_
  refine TR.ret (A := [z3]) (Ts := []) (by exact fun _ _ h => h) rfl rfl [] [] (vI (IntKind.i64.wrap ((IntKind.i64.wrap ((IntKind.i64.wrap ((IntKind.i64.wrap ((IntKind.i64.wrap (S.players + (IntKind.i64.wrap ((IntKind.i64.wrap ((IntKind.i64.wrap (S.players + 1)) + (S.nb : Int))) * (IntKind.i64.wrap (S.fuel + 3)))))) + (IntKind.i64.wrap (2 * (S.nb : Int))))) + 3)) + (IntKind.i64.wrap ((IntKind.i64.wrap ((IntKind.i64.wrap (S.rounds * (S.nb : Int))) * (IntKind.i64.wrap ((S.nb : Int) - 1)))).tdiv 2)))) + (IntKind.i64.wrap ((S.nb : Int) * (IntKind.i64.wrap ((S.nb : Int) + 1))))))) [] [] (fun _ => by kernel_rfl) mn an [] [0] [] [] [] (by kernel_rfl) (by kernel_rfl) (by kernel_rfl) ?_
  exact ⟨rfl, rfl⟩

set_option maxHeartbeats 400000 in
set_option maxRecDepth 100000 in
theorem none_any (F : HL) : Sp Tryz.prog 13 #[] [] F (fun u H' => u = .agg #[.slice none 0 0, vI (-1), vI (-1), vI (-1)] ∧ H' = []) := by
  refine Sp.of_body Tryz.func13 rfl rfl rfl [] rfl ?_
  intro w0
  refine TR.convH (ap [] []) rfl ?_
  refine TR.seq ?_
  refine TR.reg ?_
  refine TL.seg 1 [] [] [0] (fun n1 => [(0, vP (n1 + 0) 0)]) (fun n1 => (ap [((n1 + 0), .lit [.slice none 0 0, vI 0, vI 0, vI 0] 54 (0, 0))] [])) (fun n1 => []) (fun n1 => []) (fun _ => by kernel_rfl) mn (fun n1 => an) ?_
  intro n1
  refine TL.fin (by kernel_rfl) ?_
  refine EX.next ?_
  refine TR.seq ?_
  refine TR.reg ?_
  refine TL.seg0 3 [] [.own 0, .own 0, .own 0, .own 0] [0] [(0, vP (n1 + 0) 0)] (ap [((n1 + 0), .lit [.slice none 0 0, vI (-1), vI (-1), vI (-1)] 54 (0, 0))] []) [(n1 + 0), (n1 + 0), (n1 + 0), (n1 + 0)] [] (fun _ => by kernel_rfl) mn an ?_
  refine TL.fin (by kernel_rfl) ?_
  refine EX.next ?_
  refine TR.ret (A := [((n1 + 0), .lit [.slice none 0 0, vI (-1), vI (-1), vI (-1)] 54 (0, 0))]) (Ts := []) (by exact fun _ _ h => h) rfl rfl [] [.own 0, .own 0, .own 0, .own 0] (.agg #[.slice none 0 0, vI (-1), vI (-1), vI (-1)]) [(n1 + 0), (n1 + 0), (n1 + 0), (n1 + 0)] [] (fun _ => by kernel_rfl) mn an [] [0] [] [] [] (by kernel_rfl) (by kernel_rfl) (by kernel_rfl) ?_
  exact ⟨rfl, rfl⟩

set_option maxHeartbeats 400000 in
set_option maxRecDepth 100000 in
theorem same_yes (qa qb ca cb : Nat) (xs : List Int) (F : HL) (ha : (qa, .rows 1 xs.length (irow xs) 3 (0, 0)) ∈ F) (hb : (qb, .rows 1 xs.length (irow xs) 3 (0, 0)) ∈ F) (hn : xs.length ≤ 1000000) : Sp Tryz.prog 15 #[vS qa 0 xs.length ca, vS qb 0 xs.length cb] [] F (fun u H' => u = .bool true ∧ H' = []) := by
  refine Sp.of_body Tryz.func15 rfl rfl rfl [(0, vS qa 0 xs.length ca), (1, vS qb 0 xs.length cb)] rfl ?_
  intro w0
  refine TR.convH (ap [] []) rfl ?_
  refine TR.seq ?_
  refine TR.reg ?_
  let z1 : Nat × Value := (0, vS qa 0 xs.length ca)
  let z2 : Nat × Value := (1, vS qb 0 xs.length cb)
  refine TL.seg0 1 [] [] [0, 1] [z1, z2] (ap [] []) [] [] (fun _ => by kernel_rfl) mn an ?_
  refine TL.fin (by kernel_rfl) ?_
  refine EX.next ?_
  refine TR.seq ?_
  refine TR.seq ?_
  refine TR.reg ?_
  refine TL.seg0 5 [] [] [0, 1, 10] [z1, z2, (10, .bool (!(decide ((xs.length : Int) = (xs.length : Int)))))] (ap [] []) [] [] (fun _ => by kernel_rfl) mn an ?_
  refine TL.fin (by kernel_rfl) ?_
  refine EX.next ?_
  rcases Decidable.em ((xs.length : Int) = (xs.length : Int)) with h1 | h1
  · refine TR.no (b := !(decide ((xs.length : Int) = (xs.length : Int)))) (by kernel_rfl) (by kernel_rfl) (by rw [decide_eq_true h1]; rfl) ?_
    refine TR.skip ?_
    refine EX.next ?_
    refine TR.seq ?_
    refine TR.seq ?_
    refine TR.reg ?_
    refine TL.seg0 1 [] [] [0, 1, 5] [z1, z2, (5, vI 0)] (ap [] []) [] [] (fun _ => by kernel_rfl) mn an ?_
    refine TL.fin (by kernel_rfl) ?_
    refine EX.next ?_
    refine TR.block ?_
    refine TR.loop (A := []) (Ts := []) (σ := Nat) (fun (i : Nat) => [z1, z2, (5, vI (i : Int))]) (fun (i : Nat) => ap [] []) (fun (i : Nat) => i ≤ xs.length) (fun (i : Nat) => xs.length - i) 0 (Nat.zero_le _) [0, 1, 5] (by kernel_rfl) [] [] [] [] (by kernel_rfl) (by kernel_rfl) (by kernel_rfl) ?_
    rintro i hI2
    refine TR.seq ?_
    refine TR.seq ?_
    refine TR.reg ?_
    let z3 : Nat × Value := (5, vI (i : Int))
    refine TL.seg0 4 [] [] [0, 1, 5, 14] [z1, z2, z3, (14, .bool (decide ((i : Int) < (xs.length : Int))))] (ap [] []) [] [] (fun _ => by kernel_rfl) mn an ?_
    refine TL.fin (by kernel_rfl) ?_
    refine EX.next ?_
    rcases Decidable.em ((i : Int) < (xs.length : Int)) with h3 | h3
    · refine TR.yes (b := decide ((i : Int) < (xs.length : Int))) (by kernel_rfl) (by kernel_rfl) (decide_eq_true h3) ?_
      refine TR.skip ?_
      refine EX.next ?_
      refine TR.seq ?_
      refine TR.block ?_
      refine TR.seq ?_
      refine TR.draw [] [] rfl (by kernel_rfl) ?_
      refine TD.vals [] (by kernel_rfl) [0, 1, 4, 5, 2, 6, 3, 7, 8] [(qa, .rows 1 xs.length (irow xs) 3 (0, 0)), (qb, .rows 1 xs.length (irow xs) 3 (0, 0))] [.ix i, .ix i, .rorow 0 i 0, .rorow 1 i 0] [0, 1, 5, 25] [true, true, true, true, true, true, true, true, true] [z1, z2, z3, (25, .bool (!(decide (xs.getD i 0 = xs.getD i 0))))] [qb, qa] [(0 + i * 1) = i * 1 + 0 ∧ i < xs.length, (0 + i * 1) = i * 1 + 0 ∧ i < xs.length, (i : Int) = ((i : Nat) : Int) ∧ i < xs.length, (i : Int) = ((i : Nat) : Int) ∧ i < xs.length] (by kernel_rfl) (by kernel_rfl) (mc ha (mc hb mn)) (ac ⟨by omega, by omega⟩ (ac ⟨by omega, by omega⟩ (ac ⟨by omega, by omega⟩ (ac ⟨by omega, by omega⟩ an)))) 0 rfl ?_
      refine TD.fin (by kernel_rfl) (EX.np ?_)
      refine EX.next ?_
      rcases Decidable.em (xs.getD i 0 = xs.getD i 0) with h4 | h4
      · refine TR.no (b := !(decide (xs.getD i 0 = xs.getD i 0))) (by kernel_rfl) (by kernel_rfl) (by rw [decide_eq_true h4]; rfl) ?_
        refine TR.skip ?_
        refine EX.inn ?_
        refine EX.next ?_
        refine TR.reg ?_
        refine TL.seg0 3 [] [.nw] [0, 1, 5] [z1, z2, (5, vI ((i : Int) + 1))] (ap [] []) [] [-9223372036854775808 ≤ (i : Int) + 1 ∧ (i : Int) + 1 ≤ 9223372036854775807] (fun _ => by kernel_rfl) mn (ac ⟨by omega, by omega⟩ an) ?_
        refine TL.fin (by kernel_rfl) ?_
        refine EX.meet (A := []) (Ts := []) (i + 1) ?_ [0, 1, 5] (by kernel_rfl) [] [] [] [] (by kernel_rfl) (by kernel_rfl) (by kernel_rfl)
        try dsimp only
        exact ⟨by omega, by omega⟩
      · exact absurd rfl h4
    · refine TR.no (b := decide ((i : Int) < (xs.length : Int))) (by kernel_rfl) (by kernel_rfl) (decide_eq_false h3) ?_
      refine TR.exit ?_
      refine EX.thn (by simp) ?_
      refine EX.thn (by simp) ?_
      refine EX.hit ?_
      refine EX.next ?_
      refine TR.seq ?_
      refine TR.reg ?_
      refine TL.seg0 1 [] [] [4] [(4, .bool true)] (ap [] []) [] [] (fun _ => by kernel_rfl) mn an ?_
      refine TL.fin (by kernel_rfl) ?_
      refine EX.next ?_
      refine TR.ret (A := []) (Ts := []) (by exact fun _ _ h => h) rfl rfl [] [] (.bool true) [] [] (fun _ => by kernel_rfl) mn an [] [] [] [] [] (by kernel_rfl) (by kernel_rfl) (by kernel_rfl) ?_
      exact ⟨rfl, rfl⟩
  · exact absurd rfl h1
end Go.Proofs.YtpkincoclhpcgaaGreatDoor
