/- Contracts, printed by a program. -/
import Derived.Test.YtpkincoclhpcgaaGreatDoorKl
namespace Go.Proofs.YtpkincoclhpcgaaGreatDoor
set_option linter.unusedSimpArgs false
set_option linter.unusedVariables false
open Go.RowKit
def trM (g : Gm) (M : MemS) : MemS := if M.get 1 = 0 then inputM (g.step M) M else if M.get 1 = 1 then actM (g.step M) M else if M.get 1 = 2 then tickM (g.step M) M else if M.get 1 = 3 then forceM (g.step M) M else if M.get 1 = 4 then contactF (g.step M) M else if M.get 1 = 5 then moveF (g.step M) M else if M.get 1 = 6 then hitM (g.step M) M else restM (g.step M) M
def trE (g : Gm) (M : MemS) : Bool := if M.get 1 = 7 then restB (g.step M) else false
structure okT (g : Gm) (M : MemS) : Prop where
  ph : 0 ≤ M.get 1 ∧ M.get 1 ≤ 7
  no : M.get 1 = 1 ∨ M.get 1 = 2 ∨ M.get 1 = 6 → NoH (g.step M)
structure GmIn (F : HL) (g : Gm) : Prop where
  set : SetIn F g.S
  ins : (g.ib, .rows 3 g.iR (inrow g.ins) 70 (0, 0)) ∈ F
  room : g.io + g.ni ≤ g.iR ∧ g.ni ≤ 1000000
theorem GmIn.up {X F : HL} {g : Gm} (h : GmIn F g) : GmIn (X ++ F) g := ⟨h.set.up, List.mem_append_right _ h.ins, h.room⟩
theorem trans_any (g : Gm) (mb : Nat) (M : MemS) (k : Nat) (T F : HL) (hM : MemH mb M (k + 20) T) (hg : GmIn F g) (hok : okT g M) (ver : Int) (hver : g.version = ver) : Sp Tryz.prog 12 #[.iface 41 (vP mb 0), .agg #[vI g.S.players, vS g.S.bb (g.S.bo * 9) g.S.nb g.S.bc, vI g.S.box.x0, vI g.S.box.y0, vI g.S.box.x1, vI g.S.box.y1, .slice g.S.rA g.S.rn g.S.rc, .slice g.S.dA g.S.dn g.S.dc, vI g.S.fog, vI g.S.g.x, vI g.S.g.y, vI g.S.push, vI g.S.drag, vI g.S.rest, vI g.S.rounds, vI g.S.fuel], .agg #[.slice g.cA g.cn g.cc, vI g.e0, vI g.e1, vI g.e2], vI ver, vS g.ib (g.io * 3) g.ni g.ic] (ap [] [T]) F (fun u H' => ∃ x, H' = ap [] [x] ∧ (MemH mb (trM g M) k x ∧ u = .tuple #[.bool (trE g M), .agg #[vI 0, vI 0, vI 0, vI 0], .bool false])) := by
  subst hver
  have h0 := hok.ph
  by_cases h : M.get 1 = 0
  · rw [show trM g M = inputM (g.step M) M by simp only [trM, h, if_true], show trE g M = false by simp [trE, h]]
    exact trans0 g mb M k T F hM hg.set h hg.ins hg.room
  by_cases h : M.get 1 = 1
  · rw [show trM g M = actM (g.step M) M by simp [trM, h], show trE g M = false by simp [trE, h]]
    exact trans1 g mb M k T F hM hg.set h (hok.no (by omega))
  by_cases h : M.get 1 = 2
  · rw [show trM g M = tickM (g.step M) M by simp [trM, h], show trE g M = false by simp [trE, h]]
    exact trans2 g mb M k T F hM hg.set h (hok.no (by omega))
  by_cases h : M.get 1 = 3
  · rw [show trM g M = forceM (g.step M) M by simp [trM, h], show trE g M = false by simp [trE, h]]
    exact trans3 g mb M k T F hM hg.set h
  by_cases h : M.get 1 = 4
  · rw [show trM g M = contactF (g.step M) M by simp [trM, h], show trE g M = false by simp [trE, h]]
    exact trans4 g mb M k T F hM hg.set h
  by_cases h : M.get 1 = 5
  · rw [show trM g M = moveF (g.step M) M by simp [trM, h], show trE g M = false by simp [trE, h]]
    exact trans5 g mb M k T F hM hg.set h
  by_cases h : M.get 1 = 6
  · rw [show trM g M = hitM (g.step M) M by simp [trM, h], show trE g M = false by simp [trE, h]]
    exact trans6 g mb M k T F hM hg.set h (hok.no (by omega))
  have h : M.get 1 = 7 := by omega
  rw [show trM g M = restM (g.step M) M by simp [trM, h], show trE g M = restB (g.step M) by simp [trE, h]]
  exact trans7 g mb M k T F hM hg.set h
def runM (g : Gm) : Nat → MemS → MemS
  | 0, M => M
  | n + 1, M => runM g n (trM g M)
/-- n transitions, the last of which ends the tick -/
def goodRun (g : Gm) : Nat → MemS → Prop
  | 0, _ => False
  | n + 1, M => okT g M ∧ ((n = 0 ∧ trE g M = true) ∨ (trE g M = false ∧ goodRun g n (trM g M)))

set_option maxHeartbeats 1000000 in
set_option maxRecDepth 100000 in
theorem count_any (g : Gm) (mb : Nat) (M : MemS) (k m : Nat) (lim : Int) (T F : HL) (hM : MemH mb M (k + 20 * m + 20) T) (hg : GmIn F g) (hv : g.version = 0) (hgood : goodRun g (m + 1) M) (hlim : ((m + 1 : Nat) : Int) ≤ lim) (hl2 : lim ≤ 1000000000) : Sp Tryz.prog 18 #[vP mb 0, .agg #[vI g.S.players, vS g.S.bb (g.S.bo * 9) g.S.nb g.S.bc, vI g.S.box.x0, vI g.S.box.y0, vI g.S.box.x1, vI g.S.box.y1, .slice g.S.rA g.S.rn g.S.rc, .slice g.S.dA g.S.dn g.S.dc, vI g.S.fog, vI g.S.g.x, vI g.S.g.y, vI g.S.push, vI g.S.drag, vI g.S.rest, vI g.S.rounds, vI g.S.fuel], .agg #[.slice g.cA g.cn g.cc, vI g.e0, vI g.e1, vI g.e2], vS g.ib (g.io * 3) g.ni g.ic, vI lim] (ap [] [T]) F (fun u H' => ∃ x, H' = ap [] [x] ∧ (MemH mb (runM g (m + 1) M) k x ∧ u = .tuple #[vI ((m + 1 : Nat) : Int), .slice none 0 0])) := by
  refine Sp.of_body Tryz.func18 rfl rfl rfl [(0, vP mb 0), (1, .agg #[vI g.S.players, vS g.S.bb (g.S.bo * 9) g.S.nb g.S.bc, vI g.S.box.x0, vI g.S.box.y0, vI g.S.box.x1, vI g.S.box.y1, .slice g.S.rA g.S.rn g.S.rc, .slice g.S.dA g.S.dn g.S.dc, vI g.S.fog, vI g.S.g.x, vI g.S.g.y, vI g.S.push, vI g.S.drag, vI g.S.rest, vI g.S.rounds, vI g.S.fuel]), (2, .agg #[.slice g.cA g.cn g.cc, vI g.e0, vI g.e1, vI g.e2]), (3, vS g.ib (g.io * 3) g.ni g.ic), (4, vI lim)] rfl ?_
  intro w0
  refine TR.convH (ap [] [T]) rfl ?_
  refine TR.seq ?_
  refine TR.reg ?_
  let z1 : Nat × Value := (3, vS g.ib (g.io * 3) g.ni g.ic)
  let z2 : List Value := [.slice g.cA g.cn g.cc, vI g.e0, vI g.e1, vI g.e2]
  let z3 : List Value := [vI g.S.players, vS g.S.bb (g.S.bo * 9) g.S.nb g.S.bc, vI g.S.box.x0, vI g.S.box.y0, vI g.S.box.x1, vI g.S.box.y1, .slice g.S.rA g.S.rn g.S.rc, .slice g.S.dA g.S.dn g.S.dc, vI g.S.fog, vI g.S.g.x, vI g.S.g.y, vI g.S.push, vI g.S.drag, vI g.S.rest, vI g.S.rounds, vI g.S.fuel]
  refine TL.seg 4 [] [] [0, 3, 4, 6, 7] (fun n1 => [(0, vP mb 0), z1, (4, vI lim), (6, vP (n1 + 0) 0), (7, vP (n1 + 1) 0)]) (fun n1 => (ap [((n1 + 1), .lit z2 54 (0, 0)), ((n1 + 0), .lit z3 32 (0, 0))] [T])) (fun n1 => []) (fun n1 => []) (fun _ => by kernel_rfl) mn (fun n1 => an) ?_
  intro n1
  refine TL.fin (by kernel_rfl) ?_
  refine EX.next ?_
  refine TR.seq ?_
  refine TR.reg ?_
  let z4 : Nat × Value := (6, vP (n1 + 0) 0)
  let z5 : Nat × Value := (7, vP (n1 + 1) 0)
  let z6 : Nat × Value := (12, .slice none 0 0)
  let z7 : Nat × Blk := ((n1 + 1), .lit z2 54 (0, 0))
  let z8 : Nat × Blk := ((n1 + 0), .lit z3 32 (0, 0))
  refine TL.seg0 1 [] [] [0, 3, 4, 6, 7, 12] [(0, vP mb 0), z1, (4, vI lim), z4, z5, z6] (ap [z7, z8] [T]) [] [] (fun _ => by kernel_rfl) mn an ?_
  refine TL.fin (by kernel_rfl) ?_
  refine EX.next ?_
  refine TR.seq ?_
  refine TR.seq ?_
  refine TR.reg ?_
  refine TL.seg0 1 [] [] [0, 3, 4, 6, 7, 12, 13] [(0, vP mb 0), z1, (4, vI lim), z4, z5, z6, (13, vI 1)] (ap [z7, z8] [T]) [] [] (fun _ => by kernel_rfl) mn an ?_
  refine TL.fin (by kernel_rfl) ?_
  refine EX.next ?_
  refine TR.block ?_
  refine TR.loop (A := [z7, z8]) (Ts := [T]) (σ := Nat × Nat × MemS × HL) (fun (x : Nat × Nat × MemS × HL) => match x with | ⟨r, d, M_, T_⟩ => [(0, vP mb 0), z1, (4, vI lim), z4, z5, z6, (13, vI ((d + 1 : Nat) : Int))]) (fun (x : Nat × Nat × MemS × HL) => match x with | ⟨r, d, M_, T_⟩ => ap [z7, z8] [T_]) (fun (x : Nat × Nat × MemS × HL) => match x with | ⟨r, d, M_, T_⟩ => d + (r + 1) = m + 1 ∧ goodRun g (r + 1) M_ ∧ runM g (r + 1) M_ = runM g (m + 1) M ∧ MemH mb M_ (k + 20 * r + 20) T_) (fun (x : Nat × Nat × MemS × HL) => match x with | ⟨r, d, M_, T_⟩ => r) (m, 0, M, T) (⟨by omega, hgood, rfl, hM⟩) [0, 3, 4, 6, 7, 12, 13] (by kernel_rfl) [0, 1] [] [0] [] (by kernel_rfl) (by kernel_rfl) (by kernel_rfl) ?_
  rintro ⟨r, d, M_, T_⟩ ⟨hd_, hgood_, hrun_, hM_⟩
  refine TR.seq ?_
  refine TR.seq ?_
  refine TR.reg ?_
  let z9 : Nat × Value := (13, vI ((d + 1 : Nat) : Int))
  refine TL.seg0 3 [] [] [0, 3, 4, 6, 7, 12, 13, 19] [(0, vP mb 0), z1, (4, vI lim), z4, z5, z6, z9, (19, .bool (decide (((d + 1 : Nat) : Int) ≤ lim)))] (ap [z7, z8] [T_]) [] [] (fun _ => by kernel_rfl) mn an ?_
  refine TL.fin (by kernel_rfl) ?_
  refine EX.next ?_
  rcases Decidable.em (((d + 1 : Nat) : Int) ≤ lim) with h3 | h3
  · refine TR.yes (b := decide (((d + 1 : Nat) : Int) ≤ lim)) (by kernel_rfl) (by kernel_rfl) (decide_eq_true h3) ?_
    refine TR.skip ?_
    refine EX.next ?_
    refine TR.seq ?_
    refine TR.block ?_
    refine TR.seq ?_
    refine TR.reg ?_
    refine TL.seg0 5 [] [.own 1, .own 1, .own 1, .own 1, .own 1, .own 1, .own 1, .own 1, .own 1, .own 1, .own 1, .own 1, .own 1, .own 1, .own 1, .own 1, .own 0, .own 0, .own 0, .own 0] [0, 3, 4, 6, 7, 12, 13, 24, 25, 26, 27] [(0, vP mb 0), z1, (4, vI lim), z4, z5, z6, z9, (24, .iface 41 (vP mb 0)), (25, .agg #[vI g.S.players, vS g.S.bb (g.S.bo * 9) g.S.nb g.S.bc, vI g.S.box.x0, vI g.S.box.y0, vI g.S.box.x1, vI g.S.box.y1, .slice g.S.rA g.S.rn g.S.rc, .slice g.S.dA g.S.dn g.S.dc, vI g.S.fog, vI g.S.g.x, vI g.S.g.y, vI g.S.push, vI g.S.drag, vI g.S.rest, vI g.S.rounds, vI g.S.fuel]), (26, .agg #[.slice g.cA g.cn g.cc, vI g.e0, vI g.e1, vI g.e2]), (27, vS g.ib (g.io * 3) g.ni g.ic)] (ap [z7, z8] [T_]) [(n1 + 1), (n1 + 1), (n1 + 1), (n1 + 1), (n1 + 0), (n1 + 0), (n1 + 0), (n1 + 0), (n1 + 0), (n1 + 0), (n1 + 0), (n1 + 0), (n1 + 0), (n1 + 0), (n1 + 0), (n1 + 0), (n1 + 0), (n1 + 0), (n1 + 0), (n1 + 0)] [] (fun _ => by kernel_rfl) mn an ?_
    refine TL.callT (τ := HL) [] [] (dst := (some 28)) (f := 12) (args := #[.iface 41 (vP mb 0), .agg #[vI g.S.players, vS g.S.bb (g.S.bo * 9) g.S.nb g.S.bc, vI g.S.box.x0, vI g.S.box.y0, vI g.S.box.x1, vI g.S.box.y1, .slice g.S.rA g.S.rn g.S.rc, .slice g.S.dA g.S.dn g.S.dc, vI g.S.fog, vI g.S.g.x, vI g.S.g.y, vI g.S.push, vI g.S.drag, vI g.S.rest, vI g.S.rounds, vI g.S.fuel], .agg #[.slice g.cA g.cn g.cc, vI g.e0, vI g.e1, vI g.e2], vI 0, vS g.ib (g.io * 3) g.ni g.ic]) (A := [z7, z8]) (Ts := [T_]) (E := []) (Ob := []) [] [0, 1] [0] [] [0, 3, 4, 6, 7, 12, 13, 28] [] [z7, z8] [T_] [] (fun _ => []) (fun x => [x]) (fun v x => MemH mb (trM g M_) (k + 20 * r) x ∧ v = .tuple #[.bool (trE g M_), .agg #[vI 0, vI 0, vI 0, vI 0], .bool false]) (fun v_ => [(0, vP mb 0), z1, (4, vI lim), z4, z5, z6, z9, (28, v_)]) (fun _ => by kernel_rfl) mn an (by kernel_rfl) (by kernel_rfl) (by kernel_rfl) (by kernel_rfl) (by kernel_rfl) (by kernel_rfl) (fun _ => by kernel_rfl) (trans_any g mb M_ (k + 20 * r) T_ _ hM_ hg.up hgood_.1 0 hv) ?_
    rintro _ T4 ⟨hM5, rfl⟩
    let z10 : Nat × Value := (14, .bool (trE g M_))
    refine TL.seg 8 [] [.own 0, .own 0, .own 0, .own 0] [0, 3, 4, 6, 7, 12, 13, 14, 15, 16] (fun n6 => [(0, vP mb 0), z1, (4, vI lim), z4, z5, z6, z9, z10, (15, vP (n6 + 0) 0), (16, .bool false)]) (fun n6 => (ap [((n6 + 0), .lit [vI 0, vI 0, vI 0, vI 0] 49 (0, 0)), z7, z8] [T4])) (fun n6 => [(n6 + 0), (n6 + 0), (n6 + 0), (n6 + 0)]) (fun n6 => []) (fun _ => by kernel_rfl) mn (fun n6 => an) ?_
    intro n6
    refine TL.fin (by kernel_rfl) ?_
    refine EX.next ?_
    refine TR.seq ?_
    refine TR.seq ?_
    refine TR.reg ?_
    let z11 : Nat × Blk := ((n6 + 0), .lit [vI 0, vI 0, vI 0, vI 0] 49 (0, 0))
    refine TL.seg0 1 [] [] [0, 3, 4, 6, 7, 12, 13, 14, 15, 32] [(0, vP mb 0), z1, (4, vI lim), z4, z5, z6, z9, z10, (15, vP (n6 + 0) 0), (32, .bool false)] (ap [z11, z7, z8] [T4]) [] [] (fun _ => by kernel_rfl) mn an ?_
    refine TL.fin (by kernel_rfl) ?_
    refine EX.next ?_
    refine TR.no (by kernel_rfl) (by kernel_rfl) (rfl : false = false) ?_
    refine TR.skip ?_
    refine EX.next ?_
    refine TR.seq ?_
    refine TR.reg ?_
    refine TL.seg0 1 [] [] [0, 3, 4, 6, 7, 12, 13, 37] [(0, vP mb 0), z1, (4, vI lim), z4, z5, z6, z9, (37, .bool (trE g M_))] (ap [z11, z7, z8] [T4]) [] [] (fun _ => by kernel_rfl) mn an ?_
    refine TL.fin (by kernel_rfl) ?_
    refine EX.next ?_
    rcases Decidable.em ((trE g M_) = true) with h7 | h7
    · refine TR.yes (b := trE g M_) (by kernel_rfl) (by kernel_rfl) h7 ?_
      refine TR.seq ?_
      refine TR.reg ?_
      refine TL.seg0 4 [] [] [10, 11] [(10, vI ((d + 1 : Nat) : Int)), (11, .slice none 0 0)] (ap [z11, z7, z8] [T4]) [] [] (fun _ => by kernel_rfl) mn an ?_
      refine TL.fin (by kernel_rfl) ?_
      refine EX.next ?_
      refine TR.ret (A := [z11, z7, z8]) (Ts := [T4]) (by exact fun _ _ h => h) rfl rfl [] [] (.tuple #[vI ((d + 1 : Nat) : Int), .slice none 0 0]) [] [] (fun _ => by kernel_rfl) mn an [] [0, 1, 2] [0] [] (ap [] [T4]) (by kernel_rfl) (by kernel_rfl) (by kernel_rfl) ?_
      have er : r = 0 := by
        rcases hgood_.2 with ⟨e, _⟩ | ⟨e, _⟩
        · exact e
        · have hh : trE g M_ = true := by assumption
          rw [e] at hh; cases hh
      subst er
      have ed : d = m := by omega
      subst ed
      rw [← hrun_]
      exact ⟨T4, rfl, hM5.weak (by omega), rfl⟩
    · refine TR.no (b := trE g M_) (by kernel_rfl) (by kernel_rfl) (Bool.eq_false_iff.2 h7) ?_
      refine TR.skip ?_
      refine EX.inn ?_
      refine EX.next ?_
      refine TR.reg ?_
      refine TL.seg0 3 [] [.nw] [0, 3, 4, 6, 7, 12, 13] [(0, vP mb 0), z1, (4, vI lim), z4, z5, z6, (13, vI (((d + 1 : Nat) : Int) + 1))] (ap [z11, z7, z8] [T4]) [] [-9223372036854775808 ≤ ((d + 1 : Nat) : Int) + 1 ∧ ((d + 1 : Nat) : Int) + 1 ≤ 9223372036854775807] (fun _ => by kernel_rfl) mn (ac ⟨by omega, by omega⟩ an) ?_
      refine TL.fin (by kernel_rfl) ?_
      have hg2 := hgood_.2
      rcases hg2 with ⟨_, e_⟩ | ⟨_, hg2⟩
      · exact absurd e_ (by assumption)
      rcases r with _ | r
      · exact hg2.elim
      refine EX.meet (A := [z11, z7, z8]) (Ts := [T4]) (r, d + 1, trM g M_, T4) ?_ [0, 3, 4, 6, 7, 12, 13] (by kernel_rfl) [1, 2] [0] [0] [] (by kernel_rfl) (by kernel_rfl) (by kernel_rfl)
      try dsimp only
      exact ⟨⟨by omega, hg2, hrun_, hM5.weak (by omega)⟩, by omega⟩
  · (exfalso; omega)
end Go.Proofs.YtpkincoclhpcgaaGreatDoor
