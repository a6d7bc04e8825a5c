/- Contracts, printed by a program. -/
import Derived.Test.YtpkincoclhpcgaaGreatDoorSa
namespace Go.Proofs.YtpkincoclhpcgaaGreatDoor
set_option linter.unusedSimpArgs false
set_option linter.unusedVariables false
open Go.RowKit
theorem sS_in {F : HL} {S : Setup} (h : SetIn F S) (hnb : 1 ≤ S.nb) : SetIn F (sS S) :=
  ⟨⟨by show (0 : Int) ≤ 1 ∧ (1 : Int) ≤ 1000000; decide, Nat.le_of_ble_eq_true rfl⟩, h.blk, by show S.bo + 1 ≤ S.bR; have := h.room; omega, fun k hk => h.shp k (by have : k < 1 := hk; omega)⟩
theorem linit_ap (S : Setup) (F : HL) (hS : SetIn F S) : Sp Tryz.prog 22 #[Setup.v S] (ap [] []) F (fun u H' => ∃ q, H' = ap [(q, .rows 1 (sizeOf S).toNat (irow (iniL S S.nb)) 3 (0, 0))] [] ∧ u = vS q 0 (sizeOf S).toNat (sizeOf S).toNat) := linit_any S F hS
theorem lmot_lit (S : Setup) (q n cap : Nat) (cs : List Int) (i : Nat) (m : Mot) (F : HL) (e : motC S cs i = m) (hS : SetIn F S) (hq : (q, .rows 1 n (irow cs) 3 (0, 0)) ∈ F) (hi : i < S.nb) (hn : (sizeOf S).toNat ≤ n) (hc : n ≤ cap) (hn2 : n ≤ 100000000) : Sp Tryz.prog 20 #[Setup.v S, vS q 0 n cap, vI i] [] F (fun u H' => u = .agg #[vI m.px, vI m.py, vI m.vx, vI m.vy, vI m.inv] ∧ H' = []) := by
  subst e
  exact lmot_any S q n cap cs i F hS hq hi hn hc hn2
theorem inv_bd {xs : List Int} {F : HL} {A : Option Addr} {n : Nat} (hl : ArgL F A n xs) {S : Setup} {T : HL} (h : SetG xs S T) : 0 ≤ (sMot S).inv := by
  have hb := sCnt_bd hl
  have hn := h.nb
  obtain ⟨A, c, e⟩ := h.bod 0 (by omega)
  have e2 : sMot S = (bodyG xs 0 A c).mot := congrArg Bod.mot e
  rw [e2]
  have hm := kv_bd hl 5
  have hk : (kv xs 5 / 5000 % 5).toNat < 5 := by omega
  show 0 ≤ ([1024, 1024, 512, 2048, 0] : List Int).getD (kv xs 5 / 5000 % 5).toNat 0
  generalize (kv xs 5 / 5000 % 5).toNat = k at hk
  have : ∀ k < 5, 0 ≤ ([1024, 1024, 512, 2048, 0] : List Int).getD k 0 := by decide +kernel
  exact this k hk
theorem bound1 {S : Setup} (hf : S.fuel = 60) : boundI (sS S) = 197 := by
  have e : ∀ r f : Int, boundI { sS S with rounds := r, fuel := f } = boundI { sS S with rounds := 0, fuel := f } := fun r f => by
    have h1 : ∀ x : Int, IntKind.i64.wrap (x * (IntKind.i64.wrap (((1 : Nat) : Int) - 1))) = 0 := fun x => by
      rw [show IntKind.i64.wrap (((1 : Nat) : Int) - 1) = 0 by decide +kernel, Int.mul_zero]; decide +kernel
    unfold boundI
    simp only [h1]
  have e2 := e S.rounds S.fuel
  rw [hf] at e2
  have e3 : sS S = { sS S with rounds := S.rounds, fuel := 60 } := by
    show _ = ({ players := 1, bb := S.bb, bo := S.bo, nb := 1, bc := S.bc, bR := S.bR, bods := S.bods, box := S.box, rA := S.rA, rn := S.rn, rc := S.rc, dA := S.dA, dn := S.dn, dc := S.dc, fog := S.fog, g := S.g, push := S.push, drag := S.drag, rest := S.rest, rounds := S.rounds, fuel := 60 } : Setup)
    rw [← hf]
  have e4 : boundI { sS S with rounds := 0, fuel := 60 } = 197 := by kernel_rfl
  exact (congrArg boundI e3).trans (e2.trans e4)

theorem lit_pi {f : FuncId} {args : Array Value} {F : HL} {a b : Int} (e : a = b) (h : Sp Tryz.prog f args [] F (fun u H' => u = vI a ∧ H' = [])) : Sp Tryz.prog f args [] F (fun u H' => u = vI b ∧ H' = []) := e ▸ h
theorem cells_ap (mb : Nat) (M : MemS) (k : Nat) (T F : HL) (hM : MemH mb M k T) (hT : ∀ x ∈ T, x ∈ F) : Sp Tryz.prog 10 #[vP mb 0] (ap [] []) F (fun u H' => ∃ q, H' = ap [(q, .rows 1 M.cs.length (irow M.cs) 3 (0, 0))] [] ∧ u = vS q 0 M.cs.length M.cs.length) := cells_any mb M k T F hM hT

theorem set_len (M : MemS) (i v : Int) : (M.set i v).cs.length = M.cs.length := by
  unfold MemS.set; split <;> simp
theorem beginM_len (t : Stp) (a b : Int) (M : MemS) : (beginM t a b M).cs.length = M.cs.length := by simp only [beginM, set_len]
theorem zeroTo_len (M : MemS) : ∀ n, (zeroTo M n).cs.length = M.cs.length
  | 0 => rfl
  | n + 1 => by rw [zeroTo, set_len, zeroTo_len M n]
theorem placeM_len (t : Stp) (a b c d e : Int) (M : MemS) : (placeM t a b c d e M).cs.length = M.cs.length := by
  unfold placeM; split <;> simp only [set_len]
theorem trM_len (g : Gm) (M : MemS) : (trM g M).cs.length = M.cs.length := by
  unfold trM
  split
  · unfold inputM inputC inputB inputA
    repeat' split
    all_goals simp only [set_len, beginM_len]
  split
  · unfold actM; split <;> simp only [set_len, beginM_len]
  split
  · unfold tickM; simp only [beginM_len]
  split
  · unfold forceM forceC forceB forceA
    repeat' split
    all_goals simp only [set_len, beginM_len]
  split
  · unfold contactS touchM
    repeat' split
    all_goals simp only [set_len, beginM_len]
  split
  · unfold moveM moveA testM travelM
    repeat' split
    all_goals simp only [set_len, beginM_len, placeM_len]
  split
  · unfold hitM; split <;> simp only [set_len, beginM_len]
  · unfold restM restC restA
    repeat' split
    all_goals simp only [set_len, beginM_len, zeroTo_len]
theorem runM_len (g : Gm) : ∀ (n : Nat) (M : MemS), (runM g n M).cs.length = M.cs.length
  | 0, _ => rfl
  | n + 1, M => by rw [runM, runM_len g n, trM_len]

set_option maxHeartbeats 4000000 in
set_option maxRecDepth 100000 in
theorem single_any (A A2 : Option Addr) (n cap n2 cap2 : Nat) (xs ys : List Int) (F : HL) (hl : ArgL F A n xs) (hn : n ≤ 9223372036854775807) (hl2 : ArgL F A2 n2 ys) (hn2 : n2 ≤ 9223372036854775807) : Sp Tryz.prog 5 #[.slice A n cap, .slice A2 n2 cap2] [] F (fun u H' => u = .bool true ∧ H' = []) := by
  refine Sp.of_body Tryz.func5 rfl rfl rfl [(0, .slice A n cap), (1, .slice A2 n2 cap2)] rfl ?_
  intro w0
  refine TR.convH (ap [] []) rfl ?_
  refine TR.seq ?_
  refine TR.reg ?_
  let z1 : Nat × Value := (1, .slice A2 n2 cap2)
  let z2 : Nat × Value := (4, .bool false)
  refine TL.seg0 1 [] [] [0, 1, 4] [(0, .slice A n cap), z1, z2] (ap [] []) [] [] (fun _ => by kernel_rfl) mn an ?_
  refine TL.fin (by kernel_rfl) ?_
  refine EX.next ?_
  refine TR.seq ?_
  refine TR.reg ?_
  refine TL.seg0 1 [] [] [1, 4, 15] [z1, z2, (15, .slice A n cap)] (ap [] []) [] [] (fun _ => by kernel_rfl) mn an ?_
  refine TL.callT (τ := Setup × HL) [] [] (dst := (some 16)) (f := 17) (args := #[.slice A n cap]) (A := []) (Ts := []) (E := []) (Ob := []) [] [] [] [] [1, 4, 16] [] [] [] [] (fun x => [(x.1.bb, .rows 9 x.1.bR (brow x.1.bods) 40 (0, 0))]) (fun x => [x.2]) (fun v x => v = Setup.v x.1 ∧ SetG xs x.1 x.2) (fun v_ => [z1, z2, (16, v_)]) (fun _ => by kernel_rfl) mn an (by kernel_rfl) (by kernel_rfl) (by kernel_rfl) (by kernel_rfl) (by kernel_rfl) (by kernel_rfl) (fun _ => by kernel_rfl) (setup_any A n cap xs _ hl.up hn) ?_
  rintro _ ⟨S, TS⟩ ⟨rfl, hG⟩
  dsimp only at hG
  let z3 : Nat × Blk := (S.bb, .rows 9 S.bR (brow S.bods) 40 (0, 0))
  refine TL.seg 2 [] [.own 0, .own 0, .own 0, .own 0, .own 0, .own 0, .own 0, .own 0, .own 0, .own 0, .own 0, .own 0, .own 0, .own 0, .own 0, .own 0] [1, 4, 5] (fun n1 => [z1, z2, (5, vP (n1 + 0) 0)]) (fun n1 => (ap [((n1 + 0), .lit (Setup.l S) 32 (0, 0)), z3] [TS])) (fun n1 => [(n1 + 0), (n1 + 0), (n1 + 0), (n1 + 0), (n1 + 0), (n1 + 0), (n1 + 0), (n1 + 0), (n1 + 0), (n1 + 0), (n1 + 0), (n1 + 0), (n1 + 0), (n1 + 0), (n1 + 0), (n1 + 0)]) (fun n1 => []) (fun _ => by kernel_rfl) mn (fun n1 => an) ?_
  intro n1
  refine TL.fin (by kernel_rfl) ?_
  refine EX.next ?_
  refine TR.seq ?_
  refine TR.reg ?_
  let z4 : Nat × Value := (5, vP (n1 + 0) 0)
  refine TL.seg0 2 [] [.own 0] [1, 4, 5] [z1, z2, z4] (ap [((n1 + 0), .lit [vI 1, vS S.bb (S.bo * 9) S.nb S.bc, vI S.box.x0, vI S.box.y0, vI S.box.x1, vI S.box.y1, .slice S.rA S.rn S.rc, .slice S.dA S.dn S.dc, vI S.fog, vI S.g.x, vI S.g.y, vI S.push, vI S.drag, vI S.rest, vI S.rounds, vI S.fuel] 32 (0, 0)), z3] [TS]) [(n1 + 0)] [] (fun _ => by kernel_rfl) mn an ?_
  refine TL.fin (by kernel_rfl) ?_
  refine EX.next ?_
  refine TR.seq ?_
  have hsc := sCnt_bd hl
  have hnb := hG.nb
  have hcp := hG.cap
  have hrm := hG.room
  have hnb1 : 1 ≤ S.nb := by omega
  refine TR.reg ?_
  refine TL.seg0 5 [] [.own 0, .sl 0 1 false, .own 0] [1, 4, 5] [z1, z2, z4] (ap [((n1 + 0), .lit [vI 1, vS S.bb (S.bo * 9 + 0 * 9) (1 - 0) (S.bc - 0), vI S.box.x0, vI S.box.y0, vI S.box.x1, vI S.box.y1, .slice S.rA S.rn S.rc, .slice S.dA S.dn S.dc, vI S.fog, vI S.g.x, vI S.g.y, vI S.push, vI S.drag, vI S.rest, vI S.rounds, vI S.fuel] 32 (0, 0)), z3] [TS]) [(n1 + 0), (n1 + 0)] [0 = 0 ∧ 1 = ((1 : Nat) : Int) ∧ 0 ≤ 1 ∧ 1 ≤ S.bc ∧ S.bc ≠ 0] (fun _ => by kernel_rfl) mn (ac ⟨by omega, by omega, by omega, by omega, by omega⟩ an) ?_
  refine TL.fin (by kernel_rfl) ?_
  refine EX.next ?_
  refine TR.seq ?_
  let z5 : Nat × Blk := ((n1 + 0), .lit [vI 1, vS S.bb (S.bo * 9) 1 S.bc, vI S.box.x0, vI S.box.y0, vI S.box.x1, vI S.box.y1, .slice S.rA S.rn S.rc, .slice S.dA S.dn S.dc, vI S.fog, vI S.g.x, vI S.g.y, vI S.push, vI S.drag, vI S.rest, vI S.rounds, vI S.fuel] 32 (0, 0))
  refine TR.den [z5, z3] (by kernel_rfl) ?_
  refine TR.reg ?_
  refine TL.seg0 1 [] [.own 0, .own 0, .own 0, .own 0, .own 0, .own 0, .own 0, .own 0, .own 0, .own 0, .own 0, .own 0, .own 0, .own 0, .own 0, .own 0] [1, 4, 5, 22] [z1, z2, z4, (22, .agg #[vI 1, vS S.bb (S.bo * 9) 1 S.bc, vI S.box.x0, vI S.box.y0, vI S.box.x1, vI S.box.y1, .slice S.rA S.rn S.rc, .slice S.dA S.dn S.dc, vI S.fog, vI S.g.x, vI S.g.y, vI S.push, vI S.drag, vI S.rest, vI S.rounds, vI S.fuel])] (ap [z5, z3] [TS]) [(n1 + 0), (n1 + 0), (n1 + 0), (n1 + 0), (n1 + 0), (n1 + 0), (n1 + 0), (n1 + 0), (n1 + 0), (n1 + 0), (n1 + 0), (n1 + 0), (n1 + 0), (n1 + 0), (n1 + 0), (n1 + 0)] [] (fun _ => by kernel_rfl) mn an ?_
  let z6 := sizeOf (sS S)
  let z7 := iniL (sS S) 1
  let z8 := irow z7
  refine TL.callT (τ := Nat) [] [] (dst := (some 23)) (f := 22) (args := #[.agg #[vI 1, vS S.bb (S.bo * 9) 1 S.bc, vI S.box.x0, vI S.box.y0, vI S.box.x1, vI S.box.y1, .slice S.rA S.rn S.rc, .slice S.dA S.dn S.dc, vI S.fog, vI S.g.x, vI S.g.y, vI S.push, vI S.drag, vI S.rest, vI S.rounds, vI S.fuel]]) (A := [z5, z3]) (Ts := [TS]) (E := []) (Ob := []) [] [0, 1] [] [0] [1, 4, 5, 23] [] [z5, z3] [] [TS] (fun q => [(q, .rows 1 (z6.toNat) z8 3 (0, 0))]) (fun _ => []) (fun v q => v = vS q 0 z6.toNat z6.toNat) (fun v_ => [z1, z2, z4, (23, v_)]) (fun _ => by kernel_rfl) mn an (by kernel_rfl) (by kernel_rfl) (by kernel_rfl) (by kernel_rfl) (by kernel_rfl) (by kernel_rfl) (fun _ => by kernel_rfl) (linit_ap (sS S) _ (sS_in (hG.sin _ (in_ap 1 rfl) (sub_ap 0 rfl)) hnb1)) ?_
  rintro _ q2 rfl
  let z9 : Nat × Blk := (q2, .rows 1 (z6.toNat) z8 3 (0, 0))
  refine TL.callT (τ := Nat × HL) [] [] (dst := (some 24)) (f := 8) (args := #[vS q2 0 (z6.toNat) (z6.toNat)]) (A := [z9, z5, z3]) (Ts := [TS]) (E := []) (Ob := []) [] [0, 1, 2] [] [0] [1, 4, 5, 24] [] [z9, z5, z3] [] [TS] (fun _ => []) (fun x => [x.2]) (fun v x => v = vP x.1 0 ∧ MemH x.1 ⟨z7, [], 0⟩ 100000000 x.2) (fun v_ => [z1, z2, z4, (24, v_)]) (fun _ => by kernel_rfl) mn an (by kernel_rfl) (by kernel_rfl) (by kernel_rfl) (by kernel_rfl) (by kernel_rfl) (by kernel_rfl) (fun _ => by kernel_rfl) (newn_any q2 z7 (z6.toNat) 100000000 (z6.toNat) _ (iniL_len _ _) (in_ap 0 rfl) (Nat.le_of_ble_eq_true (by kernel_rfl)) (by decide) (Nat.le_refl _)) ?_
  rintro _ ⟨mb, T⟩ ⟨rfl, hM⟩
  dsimp only at hM
  refine TL.seg0 1 [] [] [1, 4, 5, 6] [z1, z2, z4, (6, vP mb 0)] (ap [z9, z5, z3] [T, TS]) [] [] (fun _ => by kernel_rfl) mn an ?_
  refine TL.fin (by kernel_rfl) ?_
  refine EX.next ?_
  refine TR.seq ?_
  refine TR.seq ?_
  refine TR.reg ?_
  refine TL.seg0 2 [] [] [1, 4, 5, 6, 26] [z1, z2, z4, (6, vP mb 0), (26, .bool false)] (ap [z9, z5, z3] [T, TS]) [] [] (fun _ => by kernel_rfl) mn an ?_
  refine TL.fin (by kernel_rfl) ?_
  refine EX.next ?_
  refine TR.no (by kernel_rfl) (by kernel_rfl) (rfl : false = false) ?_
  refine TR.skip ?_
  refine EX.next ?_
  refine TR.seq ?_
  refine TR.reg ?_
  refine TL.seg0 2 [] [.own 1, .own 1, .own 1, .own 1, .own 1, .own 1, .own 1, .own 1, .own 1, .own 1, .own 1, .own 1, .own 1, .own 1, .own 1, .own 1] [4, 5, 6, 27, 28] [z2, z4, (6, vP mb 0), (27, .agg #[vI 1, vS S.bb (S.bo * 9) 1 S.bc, vI S.box.x0, vI S.box.y0, vI S.box.x1, vI S.box.y1, .slice S.rA S.rn S.rc, .slice S.dA S.dn S.dc, vI S.fog, vI S.g.x, vI S.g.y, vI S.push, vI S.drag, vI S.rest, vI S.rounds, vI S.fuel]), (28, .slice A2 n2 cap2)] (ap [z9, z5, z3] [T, TS]) [(n1 + 0), (n1 + 0), (n1 + 0), (n1 + 0), (n1 + 0), (n1 + 0), (n1 + 0), (n1 + 0), (n1 + 0), (n1 + 0), (n1 + 0), (n1 + 0), (n1 + 0), (n1 + 0), (n1 + 0), (n1 + 0)] [] (fun _ => by kernel_rfl) mn an ?_
  refine TL.callT (τ := Option Addr × Nat × HL) [] [] (dst := (some 29)) (f := 19) (args := #[.agg #[vI 1, vS S.bb (S.bo * 9) 1 S.bc, vI S.box.x0, vI S.box.y0, vI S.box.x1, vI S.box.y1, .slice S.rA S.rn S.rc, .slice S.dA S.dn S.dc, vI S.fog, vI S.g.x, vI S.g.y, vI S.push, vI S.drag, vI S.rest, vI S.rounds, vI S.fuel], .slice A2 n2 cap2, vI 0]) (A := [z9, z5, z3]) (Ts := [T, TS]) (E := []) (Ob := []) [] [0, 1, 2] [] [0, 1] [4, 5, 6, 29] [] [z9, z5, z3] [] [T, TS] (fun _ => []) (fun x => [x.2.2]) (fun v x => v = .slice x.1 (sS S).players.toNat x.2.1 ∧ SlIs inpE 70 (rowL (sS S).players ys 0 (sS S).players.toNat) x.1 x.2.1 x.2.2 ∧ zeroOff x.1) (fun v_ => [z2, z4, (6, vP mb 0), (29, v_)]) (fun _ => by kernel_rfl) mn an (by kernel_rfl) (by kernel_rfl) (by kernel_rfl) (by kernel_rfl) (by kernel_rfl) (by kernel_rfl) (fun _ => by kernel_rfl) (row_any (sS S) A2 n2 cap2 ys 0 _ hl2.up hn2 ⟨by show (0 : Int) ≤ 1; decide, by show (1 : Int) ≤ 1000000; decide⟩ ⟨by decide, by decide⟩) ?_
  rintro _ ⟨Ai, ci, Ti⟩ ⟨rfl, hsi, hzi⟩
  dsimp only at hsi hzi
  obtain ⟨ib, irest, rfl, rfl, hic⟩ := hsi.open0 hzi (by decide) (by rw [rowL_len]; exact Nat.le_of_ble_eq_true rfl)
  have hic1 : 1 ≤ ci := by rw [rowL_len] at hic; exact hic
  generalize rowL 1 ys 0 (Int.toNat 1) ++ irest = ins
  refine TL.openT [1, 2] 0 (by kernel_rfl) rfl rfl ?_
  let z10 : Nat × Value := (7, vS ib 0 1 ci)
  let z11 : Nat × Blk := (ib, .rows 3 ci (inrow ins) 70 (0, 0))
  refine TL.seg0 1 [] [] [4, 5, 6, 7] [z2, z4, (6, vP mb 0), z10] (ap [z11, z9, z5, z3] [T, TS]) [] [] (fun _ => by kernel_rfl) mn an ?_
  refine TL.fin (by kernel_rfl) ?_
  refine EX.next ?_
  refine TR.seq ?_
  refine TR.reg ?_
  refine TL.seg 7 [] [.own 2, .row 3 S.bo 2, .row 3 S.bo 3, .row 3 S.bo 4, .row 3 S.bo 5, .row 3 S.bo 6, .own 0, .own 0, .own 0, .own 0, .own 0] [4, 5, 6, 7, 8] (fun n3 => [z2, z4, (6, vP mb 0), z10, (8, vP (n3 + 0) 0)]) (fun n3 => (ap [((n3 + 0), .lit [vI ((S.bods.getD S.bo dB).mot.px), vI ((S.bods.getD S.bo dB).mot.py), vI ((S.bods.getD S.bo dB).mot.vx), vI ((S.bods.getD S.bo dB).mot.vy), vI ((S.bods.getD S.bo dB).mot.inv)] 38 (0, 0)), z11, z9, z5, z3] [T, TS])) (fun n3 => [(n3 + 0), (n3 + 0), (n3 + 0), (n3 + 0), (n3 + 0), S.bb, S.bb, S.bb, S.bb, S.bb, (n1 + 0)]) (fun n3 => [(S.bo * 9 + 6) = S.bo * 9 + 6 ∧ S.bo < S.bR, (S.bo * 9 + 5) = S.bo * 9 + 5 ∧ S.bo < S.bR, (S.bo * 9 + 4) = S.bo * 9 + 4 ∧ S.bo < S.bR, (S.bo * 9 + 3) = S.bo * 9 + 3 ∧ S.bo < S.bR, (S.bo * 9 + 2) = S.bo * 9 + 2 ∧ S.bo < S.bR]) (fun _ => by kernel_rfl) mn (fun n3 => (ac ⟨by omega, by omega⟩ (ac ⟨by omega, by omega⟩ (ac ⟨by omega, by omega⟩ (ac ⟨by omega, by omega⟩ (ac ⟨by omega, by omega⟩ an)))))) ?_
  intro n3
  refine TL.fin (by kernel_rfl) ?_
  refine EX.next ?_
  refine TR.seq ?_
  let z12 : List Value := [vI ((sMot S).px), vI ((sMot S).py), vI ((sMot S).vx), vI ((sMot S).vy), vI ((sMot S).inv)]
  let z13 : Nat × Blk := ((n3 + 0), .lit z12 38 (0, 0))
  refine TR.den [z13, z11, z9, z5, z3] (by kernel_rfl) ?_
  obtain ⟨_, hgood, rfl, hend⟩ := single_run S ib ci ins
  obtain ⟨m, em⟩ : ∃ m, motC (sS S) (runM (sG S ib ci ins) 11 (sM0 S)).cs 0 = m := ⟨_, rfl⟩
  rw [em] at hend
  have hi0 := inv_bd hl hG
  refine TR.draw [6] [] rfl (by kernel_rfl) ?_
  let z14 : Nat × Value := (8, vP (n3 + 0) 0)
  let z15 : Nat × Value := (37, .agg #[vI 1, vS S.bb (S.bo * 9) 1 S.bc, vI S.box.x0, vI S.box.y0, vI S.box.x1, vI S.box.y1, .slice S.rA S.rn S.rc, .slice S.dA S.dn S.dc, vI S.fog, vI S.g.x, vI S.g.y, vI S.push, vI S.drag, vI S.rest, vI S.rounds, vI S.fuel])
  let z16 : Nat × Value := (39, vS ib 0 1 ci)
  let z17 : Nat × Value := (40, .agg #[vI 1, vS S.bb (S.bo * 9) 1 S.bc, vI S.box.x0, vI S.box.y0, vI S.box.x1, vI S.box.y1, .slice S.rA S.rn S.rc, .slice S.dA S.dn S.dc, vI S.fog, vI S.g.x, vI S.g.y, vI S.push, vI S.drag, vI S.rest, vI S.rounds, vI S.fuel])
  refine TD.vals [] (by kernel_rfl) [0, 1, 3, 4] [] [.own 3, .own 3, .own 3, .own 3, .own 3, .own 3, .own 3, .own 3, .own 3, .own 3, .own 3, .own 3, .own 3, .own 3, .own 3, .own 3, .own 3, .own 3, .own 3, .own 3, .own 3, .own 3, .own 3, .own 3, .own 3, .own 3, .own 3, .own 3, .own 3, .own 3, .own 3, .own 3] [4, 5, 6, 7, 8, 36, 37, 39, 40] [true, true, false, true, true, false, false, false, false, false, false, false] [z2, z4, (6, vP mb 0), z10, z14, (36, vP mb 0), z15, z16, z17] [(n1 + 0), (n1 + 0), (n1 + 0), (n1 + 0), (n1 + 0), (n1 + 0), (n1 + 0), (n1 + 0), (n1 + 0), (n1 + 0), (n1 + 0), (n1 + 0), (n1 + 0), (n1 + 0), (n1 + 0), (n1 + 0), (n1 + 0), (n1 + 0), (n1 + 0), (n1 + 0), (n1 + 0), (n1 + 0), (n1 + 0), (n1 + 0), (n1 + 0), (n1 + 0), (n1 + 0), (n1 + 0), (n1 + 0), (n1 + 0), (n1 + 0), (n1 + 0)] [] (by kernel_rfl) (by kernel_rfl) mn an 8 rfl ?_
  let z18 : Nat × Value := (38, .agg #[.slice none 0 0, vI (-1), vI (-1), vI (-1)])
  refine TD.callv [] (by kernel_rfl) 2 [] [] (dst := (some 38)) (f := 13) (args := #[]) (E := []) (Ob := []) [4, 5, 6, 7, 8, 36, 37, 38, 39, 40] (.agg #[.slice none 0 0, vI (-1), vI (-1), vI (-1)]) [z2, z4, (6, vP mb 0), z10, z14, (36, vP mb 0), z15, z18, z16, z17] (by kernel_rfl) (by kernel_rfl) (by kernel_rfl) mn an (fun X_ => (none_any _)) (by kernel_rfl) 7 rfl ?_
  refine TD.callv [] (by kernel_rfl) 5 [] [] (dst := (some 41)) (f := 11) (args := #[.agg #[vI 1, vS S.bb (S.bo * 9) 1 S.bc, vI S.box.x0, vI S.box.y0, vI S.box.x1, vI S.box.y1, .slice S.rA S.rn S.rc, .slice S.dA S.dn S.dc, vI S.fog, vI S.g.x, vI S.g.y, vI S.push, vI S.drag, vI S.rest, vI S.rounds, vI S.fuel]]) (E := []) (Ob := []) [4, 5, 6, 7, 8, 36, 37, 38, 39, 41] (vI 197) [z2, z4, (6, vP mb 0), z10, z14, (36, vP mb 0), z15, z18, z16, (41, vI 197)] (by kernel_rfl) (by kernel_rfl) (by kernel_rfl) mn an (fun X_ => (lit_pi (bound1 hG.nums.2.2.2.2.2.2.2) (bound_any (sS S) _))) (by kernel_rfl) 6 rfl ?_
  refine TD.one 6 (by kernel_rfl) 5 rfl fun a_ hF_ hcl_ => ?_
  let z19 := sG S ib ci ins
  refine OPJ.callT (τ := HL) [] [] (dst := (some 42)) (f := 18) (args := #[vP mb 0, .agg #[vI 1, vS S.bb (S.bo * 9) 1 S.bc, vI S.box.x0, vI S.box.y0, vI S.box.x1, vI S.box.y1, .slice S.rA S.rn S.rc, .slice S.dA S.dn S.dc, vI S.fog, vI S.g.x, vI S.g.y, vI S.push, vI S.drag, vI S.rest, vI S.rounds, vI S.fuel], .agg #[.slice none 0 0, vI (-1), vI (-1), vI (-1)], vS ib 0 1 ci, vI 197]) (A := [z13, z11, z9, z5, z3]) (Ts := [T, TS]) (E := []) (Ob := []) [] [0, 1, 2, 3, 4] [0] [1] [4, 5, 6, 7, 8, 42] [] [z13, z11, z9, z5, z3] [T] [TS] (fun _ => []) (fun x => [x]) (fun v x => MemH mb (runM z19 11 (⟨z7, [], 0⟩)) 0 x ∧ v = .tuple #[vI 11, .slice none 0 0]) (fun v_ => [z2, z4, (6, vP mb 0), z10, z14, (42, v_)]) (fun _ => by kernel_rfl) mn an (by kernel_rfl) (by kernel_rfl) (by kernel_rfl) (by kernel_rfl) (by kernel_rfl) (by kernel_rfl) (fun _ => by kernel_rfl) [] (.inl (by kernel_rfl)) (.inl (by decide)) (count_any z19 mb ⟨z7, [], 0⟩ 0 10 197 T _ (hM.weak (by decide)) ⟨sS_in (hG.sin _ (in_ap 4 rfl) (sub_ap 0 rfl)) hnb1, in_ap 1 rfl, by show 0 + 1 ≤ ci ∧ 1 ≤ 1000000; omega⟩ rfl hgood (by omega) (by omega)) ?_ hF_ hcl_
  rintro _ T4 ⟨hM5, rfl⟩
  have hlen : (runM (sG S ib ci ins) 11 (sM0 S)).cs.length = (sizeOf (sS S)).toNat := by rw [runM_len, iniL_len]
  have hlen1 : (sizeOf (sS S)).toNat ≤ (runM (sG S ib ci ins) 11 (sM0 S)).cs.length := by omega
  have hlen2 : (runM (sG S ib ci ins) 11 (sM0 S)).cs.length ≤ 100000000 := by rw [hlen]; exact Nat.le_of_ble_eq_true (by kernel_rfl)
  refine TD.vals [] (by kernel_rfl) [7, 8, 9, 10, 11] [] [] [4, 5, 6, 7, 8, 9] [true, true, true, true, true, true, true, true, true, true, true, true] [z2, z4, (6, vP mb 0), z10, z14, (9, vI 11)] [] [] (by kernel_rfl) (by kernel_rfl) mn an 0 rfl ?_
  refine TD.fin (by kernel_rfl) (EX.np ?_)
  refine EX.next ?_
  refine TR.seq ?_
  refine TR.draw [5] [] rfl (by kernel_rfl) ?_
  let z20 : Nat × Value := (45, .agg #[vI 1, vS S.bb (S.bo * 9) 1 S.bc, vI S.box.x0, vI S.box.y0, vI S.box.x1, vI S.box.y1, .slice S.rA S.rn S.rc, .slice S.dA S.dn S.dc, vI S.fog, vI S.g.x, vI S.g.y, vI S.push, vI S.drag, vI S.rest, vI S.rounds, vI S.fuel])
  refine TD.vals [] (by kernel_rfl) [0, 1] [] [.own 3, .own 3, .own 3, .own 3, .own 3, .own 3, .own 3, .own 3, .own 3, .own 3, .own 3, .own 3, .own 3, .own 3, .own 3, .own 3] [4, 5, 7, 8, 9, 45, 46] [true, true, false, false, false, false] [z2, z4, z10, z14, (9, vI 11), z20, (46, vP mb 0)] [(n1 + 0), (n1 + 0), (n1 + 0), (n1 + 0), (n1 + 0), (n1 + 0), (n1 + 0), (n1 + 0), (n1 + 0), (n1 + 0), (n1 + 0), (n1 + 0), (n1 + 0), (n1 + 0), (n1 + 0), (n1 + 0)] [] (by kernel_rfl) (by kernel_rfl) mn an 4 rfl ?_
  refine TD.two 2 4 (by kernel_rfl) 3 rfl (fun a_ hF_ hcl_ => ?_) (fun a_ hF_ hcl_ => ?_)
  · let z21 := runM z19 11 (sM0 S)
    let z22 := irow (z21).cs
    refine OPJ.callT (τ := Nat) [] [] (dst := (some 47)) (f := 10) (args := #[vP mb 0]) (A := [z13, z11, z9, z5, z3]) (Ts := [T4, TS]) (E := []) (Ob := []) [] [0, 1, 2, 3, 4] [] [0, 1] [4, 5, 7, 8, 9, 45, 47] [] [z13, z11, z9, z5, z3] [] [T4, TS] (fun q => [(q, .rows 1 ((z21).cs.length) z22 3 (0, 0))]) (fun _ => []) (fun v q => v = vS q 0 (z21).cs.length (z21).cs.length) (fun v_ => [z2, z4, z10, z14, (9, vI 11), z20, (47, v_)]) (fun _ => by kernel_rfl) mn an (by kernel_rfl) (by kernel_rfl) (by kernel_rfl) (by kernel_rfl) (by kernel_rfl) (by kernel_rfl) (fun _ => by kernel_rfl) [] (.inr (by decide)) (.inr fun q => ⟨[(q, .rows 1 ((z21).cs.length) z22 3 (0, 0))], rfl⟩) (cells_ap mb z21 _ T4 _ hM5 (sub_ap 0 rfl)) ?_ hF_ hcl_
    rintro _ q6 rfl
    let z23 : Nat × Value := (48, .agg #[vI m.px, vI m.py, vI m.vx, vI m.vy, vI m.inv])
    refine TD.callv [] (by kernel_rfl) 3 [] [] (dst := (some 48)) (f := 20) (args := #[.agg #[vI 1, vS S.bb (S.bo * 9) 1 S.bc, vI S.box.x0, vI S.box.y0, vI S.box.x1, vI S.box.y1, .slice S.rA S.rn S.rc, .slice S.dA S.dn S.dc, vI S.fog, vI S.g.x, vI S.g.y, vI S.push, vI S.drag, vI S.rest, vI S.rounds, vI S.fuel], vS q6 0 ((z21).cs.length) ((z21).cs.length), vI 0]) (E := []) (Ob := []) [4, 5, 7, 8, 9, 48] (.agg #[vI m.px, vI m.py, vI m.vx, vI m.vy, vI m.inv]) [z2, z4, z10, z14, (9, vI 11), z23] (by kernel_rfl) (by kernel_rfl) (by kernel_rfl) mn an (fun X_ => (lmot_lit (sS S) q6 (z21).cs.length (z21).cs.length (z21).cs 0 m _ em (sS_in (hG.sin _ (in_apX 5 rfl) (sub_apX 1 rfl)) hnb1) (in_apX 0 rfl) (by show 0 < 1; decide) hlen1 (Nat.le_refl _) hlen2)) (by kernel_rfl) 2 rfl ?_
    refine TD.one 4 (by kernel_rfl) 1 rfl fun a_ hF_ hcl_ => ?_
    let z24 : Nat × Blk := (q6, .rows 1 ((z21).cs.length) z22 3 (0, 0))
    refine OPJ.ev [] [] [4, 5, 7, 8, 9, 11, 48] (fun n7 => [z2, z4, z10, z14, (9, vI 11), (11, vP (n7 + 0) 0), z23]) (fun n7 => (ap [((n7 + 0), .lit [vI 0, vI 0, vI 0, vI 0, vI 0] 38 (0, 0)), z24, z13, z11, z9, z5, z3] [T4, TS])) (fun n7 => []) (fun n7 => []) (fun _ => by kernel_rfl) mn (fun n7 => an) (.inr ⟨by decide, fun n7 => ⟨[((n7 + 0), .lit [vI 0, vI 0, vI 0, vI 0, vI 0] 38 (0, 0))], rfl⟩⟩) (.inr fun n7 => ⟨[((n7 + 0), .lit [vI 0, vI 0, vI 0, vI 0, vI 0] 38 (0, 0))], rfl⟩) (fun n7 => ?_) hF_ hcl_
    refine TD.one 5 (by kernel_rfl) 0 rfl fun a_ hF_ hcl_ => ?_
    let z25 : Nat × Value := (11, vP (n7 + 0) 0)
    refine OPJ.ev [] [.own 0, .own 0, .own 0, .own 0, .own 0] [4, 5, 7, 8, 9, 11] (fun _ => [z2, z4, z10, z14, (9, vI 11), z25]) (fun _ => (ap [((n7 + 0), .lit [vI m.px, vI m.py, vI m.vx, vI m.vy, vI m.inv] 38 (0, 0)), z24, z13, z11, z9, z5, z3] [T4, TS])) (fun _ => [(n7 + 0), (n7 + 0), (n7 + 0), (n7 + 0), (n7 + 0)]) (fun _ => []) (fun _ => by kernel_rfl) mn (fun _ => an) (.inl ⟨[], fun _ => by kernel_rfl⟩) (.inl (by decide)) (fun _ => ?_) hF_ hcl_
    refine TD.fin (by kernel_rfl) (EX.np ?_)
    refine EX.next ?_
    refine TR.seq ?_
    refine TR.seq ?_
    rcases hend with ⟨hi1, rfl⟩ | ⟨hi1, vx, vy, rfl, hvx, hvy⟩
    · refine TR.reg ?_
      let z26 : Nat × Blk := ((n7 + 0), .lit z12 38 (0, 0))
      refine TL.seg0 3 [] [.own 2] [4, 5, 7, 8, 9, 11, 51] [z2, z4, z10, z14, (9, vI 11), z25, (51, .bool (decide ((sMot S).inv = 0)))] (ap [z26, z24, z13, z11, z9, z5, z3] [T4, TS]) [(n3 + 0)] [] (fun _ => by kernel_rfl) mn an ?_
      refine TL.fin (by kernel_rfl) ?_
      refine EX.next ?_
      rcases Decidable.em ((sMot S).inv = 0) with h8 | h8
      · refine TR.yes (b := decide ((sMot S).inv = 0)) (by kernel_rfl) (by kernel_rfl) (decide_eq_true h8) ?_
        refine TR.seq ?_
        refine TR.reg ?_
        rcases Decidable.em ((((decide ((sMot S).px = (sMot S).px) && (decide ((sMot S).py = (sMot S).py) && true)) && ((decide ((sMot S).vx = (sMot S).vx) && (decide ((sMot S).vy = (sMot S).vy) && true)) && (decide ((sMot S).inv = (sMot S).inv) && true)))) = true) with h9 | h9
        · let z27 : Nat × Value := (55, .bool ((decide ((sMot S).px = (sMot S).px) && (decide ((sMot S).py = (sMot S).py) && true)) && ((decide ((sMot S).vx = (sMot S).vx) && (decide ((sMot S).vy = (sMot S).vy) && true)) && (decide ((sMot S).inv = (sMot S).inv) && true))))
          refine TL.seg0 6 [] [.own 0, .own 0, .own 0, .own 0, .own 0, .own 2, .own 2, .own 2, .own 2, .own 2, .sq, .gd true, .gd true, .own 5, .own 5, .own 5, .own 5, .own 5, .own 5, .own 5, .own 5, .own 5, .own 5, .own 5, .own 5, .own 5, .own 5, .own 5, .own 5] [4, 5, 7, 8, 11, 55, 56, 57] [z2, z4, z10, z14, z25, z27, (56, vI 11), (57, .agg #[vI 1, vS S.bb (S.bo * 9) 1 S.bc, vI S.box.x0, vI S.box.y0, vI S.box.x1, vI S.box.y1, .slice S.rA S.rn S.rc, .slice S.dA S.dn S.dc, vI S.fog, vI S.g.x, vI S.g.y, vI S.push, vI S.drag, vI S.rest, vI S.rounds, vI S.fuel])] (ap [z26, z24, z13, z11, z9, z5, z3] [T4, TS]) [(n1 + 0), (n1 + 0), (n1 + 0), (n1 + 0), (n1 + 0), (n1 + 0), (n1 + 0), (n1 + 0), (n1 + 0), (n1 + 0), (n1 + 0), (n1 + 0), (n1 + 0), (n1 + 0), (n1 + 0), (n1 + 0), (n3 + 0), (n3 + 0), (n3 + 0), (n3 + 0), (n3 + 0), (n7 + 0), (n7 + 0), (n7 + 0), (n7 + 0), (n7 + 0)] [((decide ((sMot S).px = (sMot S).px) && (decide ((sMot S).py = (sMot S).py) && true)) && ((decide ((sMot S).vx = (sMot S).vx) && (decide ((sMot S).vy = (sMot S).vy) && true)) && (decide ((sMot S).inv = (sMot S).inv) && true))) = true, ((decide ((sMot S).px = (sMot S).px) && (decide ((sMot S).py = (sMot S).py) && true)) && ((decide ((sMot S).vx = (sMot S).vx) && (decide ((sMot S).vy = (sMot S).vy) && true)) && (decide ((sMot S).inv = (sMot S).inv) && true))) = true] (fun _ => by kernel_rfl) mn (ac h9 (ac h9 an)) ?_
          refine TL.callp (dst := (some 58)) (f := 11) (args := #[.agg #[vI 1, vS S.bb (S.bo * 9) 1 S.bc, vI S.box.x0, vI S.box.y0, vI S.box.x1, vI S.box.y1, .slice S.rA S.rn S.rc, .slice S.dA S.dn S.dc, vI S.fog, vI S.g.x, vI S.g.y, vI S.push, vI S.drag, vI S.rest, vI S.rounds, vI S.fuel]]) (H1 := (ap [z26, z24, z13, z11, z9, z5, z3] [T4, TS])) (E := []) (Ob := [((decide ((sMot S).px = (sMot S).px) && (decide ((sMot S).py = (sMot S).py) && true)) && ((decide ((sMot S).vx = (sMot S).vx) && (decide ((sMot S).vy = (sMot S).vy) && true)) && (decide ((sMot S).inv = (sMot S).inv) && true))) = true]) [] [.gd true] [4, 5, 7, 8, 11, 55, 56, 58] (vI 197) [z2, z4, z10, z14, z25, z27, (56, vI 11), (58, vI 197)] (fun _ => by kernel_rfl) mn (ac h9 an) (lit_pi (bound1 hG.nums.2.2.2.2.2.2.2) (bound_any (sS S) _)) (by kernel_rfl) ?_
          let z28 : Nat × Value := (61, .bool true)
          refine TL.seg0 3 [] [.gd true, .gd true] [4, 5, 7, 8, 11, 61] [z2, z4, z10, z14, z25, z28] (ap [z26, z24, z13, z11, z9, z5, z3] [T4, TS]) [] [((decide ((sMot S).px = (sMot S).px) && (decide ((sMot S).py = (sMot S).py) && true)) && ((decide ((sMot S).vx = (sMot S).vx) && (decide ((sMot S).vy = (sMot S).vy) && true)) && (decide ((sMot S).inv = (sMot S).inv) && true))) = true, ((decide ((sMot S).px = (sMot S).px) && (decide ((sMot S).py = (sMot S).py) && true)) && ((decide ((sMot S).vx = (sMot S).vx) && (decide ((sMot S).vy = (sMot S).vy) && true)) && (decide ((sMot S).inv = (sMot S).inv) && true))) = true] (fun _ => by kernel_rfl) mn (ac h9 (ac h9 an)) ?_
          refine TL.callp (dst := (some 62)) (f := 16) (args := #[]) (H1 := (ap [z26, z24, z13, z11, z9, z5, z3] [T4, TS])) (E := []) (Ob := []) [] [] [4, 5, 7, 8, 11, 61, 62] (.bool true) [z2, z4, z10, z14, z25, z28, (62, .bool true)] (fun _ => by kernel_rfl) mn an (lives_any _) (by kernel_rfl) ?_
          refine TL.seg0 2 [] [] [4, 5, 7, 8, 11] [(4, .bool true), z4, z10, z14, z25] (ap [z26, z24, z13, z11, z9, z5, z3] [T4, TS]) [] [] (fun _ => by kernel_rfl) mn an ?_
          refine TL.fin (by kernel_rfl) ?_
          refine EX.next ?_
          refine TR.ret (A := [z26, z24, z13, z11, z9, z5, z3]) (Ts := [T4, TS]) (by exact fun _ _ h => h) rfl rfl [] [] (.bool true) [] [] (fun _ => by kernel_rfl) mn an [] [0, 1, 2, 3, 4, 5, 6] [] [0, 1] [] (by kernel_rfl) (by kernel_rfl) (by kernel_rfl) ?_
          exact ⟨rfl, rfl⟩
        · exact absurd (by first | (simp; done) | (rw [clamp_id (n := (sTo S (ins.getD 0 dI)).x) (by omega) (by omega), clamp_id (n := (sTo S (ins.getD 0 dI)).y) (by omega) (by omega)]; simp; done) | (rw [hvx (clamp_id (by omega) (by omega)), hvy (clamp_id (by omega) (by omega))]; simp)) h9
      · (exfalso; omega)
    · let z29 := sTo S (ins.getD 0 dI)
      let z30 := clampI (z29.x) S.box.x0 S.box.x1
      let z31 := clampI (z29.y) S.box.y0 S.box.y1
      let z32 : Nat × Blk := ((n7 + 0), .lit [vI z30, vI z31, vI vx, vI vy, vI ((sMot S).inv)] 38 (0, 0))
      refine TR.den [z32, z24, z13, z11, z9, z5, z3] (by kernel_rfl) ?_
      refine TR.reg ?_
      refine TL.seg0 3 [] [.own 2] [4, 5, 7, 8, 9, 11, 51] [z2, z4, z10, z14, (9, vI 11), z25, (51, .bool (decide ((sMot S).inv = 0)))] (ap [z32, z24, z13, z11, z9, z5, z3] [T4, TS]) [(n3 + 0)] [] (fun _ => by kernel_rfl) mn an ?_
      refine TL.fin (by kernel_rfl) ?_
      refine EX.next ?_
      rcases Decidable.em ((sMot S).inv = 0) with h10 | h10
      · (exfalso; omega)
      · refine TR.no (b := decide ((sMot S).inv = 0)) (by kernel_rfl) (by kernel_rfl) (decide_eq_false h10) ?_
        refine TR.skip ?_
        refine EX.next ?_
        refine TR.seq ?_
        refine TR.draw [22] [] rfl (by kernel_rfl) ?_
        let z33 := ((ins.getD 0 dI).dx) * S.push
        let z34 := IntKind.i64.wrap z33
        let z35 := ((ins.getD 0 dI).dy) * S.push
        let z36 := IntKind.i64.wrap z35
        let z37 : Nat × Value := (83, .agg #[vI z34, vI z36])
        refine TD.vals [] (by kernel_rfl) [0, 2, 5, 9, 12, 16, 1, 3, 6, 10, 13, 17, 7, 14, 8, 15, 11, 18, 19] [] [.own 2, .own 2, .own 5, .own 5, .own 5, .own 5, .row 3 0 0, .row 3 0 1] [4, 5, 8, 11, 65, 67, 83] [true, true, true, true, false, true, true, true, true, true, true, true, true, true, true, true, true, true, true, true, false, false, false] [z2, z4, z14, z25, (65, .agg #[vI ((sMot S).vx), vI ((sMot S).vy)]), (67, .agg #[vI S.g.x, vI S.g.y]), z37] [ib, ib, (n1 + 0), (n1 + 0), (n1 + 0), (n1 + 0), (n3 + 0), (n3 + 0)] [1 = 0 * 3 + 1 ∧ 0 < ci, 0 = 0 * 3 + 0 ∧ 0 < ci] (by kernel_rfl) (by kernel_rfl) mn (ac ⟨by omega, by omega⟩ (ac ⟨by omega, by omega⟩ an)) 4 rfl ?_
        let z38 := (⟨(sMot S).vx, (sMot S).vy⟩ : V2)
        let z39 := vadd z38 S.g
        refine TD.callv [] (by kernel_rfl) 4 [] [] (dst := (some 68)) (f := 23) (args := #[.agg #[vI ((sMot S).vx), vI ((sMot S).vy)], .agg #[vI S.g.x, vI S.g.y]]) (E := []) (Ob := []) [4, 5, 8, 11, 68, 83] (.agg #[vI (z39.x), vI (z39.y)]) [z2, z4, z14, z25, (68, .agg #[vI (z39.x), vI (z39.y)]), z37] (by kernel_rfl) (by kernel_rfl) (by kernel_rfl) mn an (fun X_ => (vadd_any z38 S.g  _)) (by kernel_rfl) 3 rfl ?_
        let z40 := (⟨IntKind.i64.wrap z33, IntKind.i64.wrap z35⟩ : V2)
        let z41 := vadd z39 z40
        let z42 : Nat × Value := (84, .agg #[vI (z41.x), vI (z41.y)])
        refine TD.callv [] (by kernel_rfl) 20 [] [] (dst := (some 84)) (f := 23) (args := #[.agg #[vI (z39.x), vI (z39.y)], .agg #[vI z34, vI z36]]) (E := []) (Ob := []) [4, 5, 8, 11, 84] (.agg #[vI (z41.x), vI (z41.y)]) [z2, z4, z14, z25, z42] (by kernel_rfl) (by kernel_rfl) (by kernel_rfl) mn an (fun X_ => (vadd_any z39 z40  _)) (by kernel_rfl) 2 rfl ?_
        refine TD.one 21 (by kernel_rfl) 1 rfl fun a_ hF_ hcl_ => ?_
        refine OPJ.ev [] [] [4, 5, 8, 11, 12, 84] (fun n11 => [z2, z4, z14, z25, (12, vP (n11 + 0) 0), z42]) (fun n11 => (ap [((n11 + 0), .lit [vI 0, vI 0] 30 (0, 0)), z32, z24, z13, z11, z9, z5, z3] [T4, TS])) (fun n11 => []) (fun n11 => []) (fun _ => by kernel_rfl) mn (fun n11 => an) (.inr ⟨by decide, fun n11 => ⟨[((n11 + 0), .lit [vI 0, vI 0] 30 (0, 0))], rfl⟩⟩) (.inr fun n11 => ⟨[((n11 + 0), .lit [vI 0, vI 0] 30 (0, 0))], rfl⟩) (fun n11 => ?_) hF_ hcl_
        refine TD.one 22 (by kernel_rfl) 0 rfl fun a_ hF_ hcl_ => ?_
        let z43 : Nat × Value := (12, vP (n11 + 0) 0)
        let z44 : Nat × Blk := ((n11 + 0), .lit [vI (z41.x), vI (z41.y)] 30 (0, 0))
        refine OPJ.ev [] [.own 0, .own 0] [4, 5, 8, 11, 12] (fun _ => [z2, z4, z14, z25, z43]) (fun _ => (ap [z44, z32, z24, z13, z11, z9, z5, z3] [T4, TS])) (fun _ => [(n11 + 0), (n11 + 0)]) (fun _ => []) (fun _ => by kernel_rfl) mn (fun _ => an) (.inl ⟨[], fun _ => by kernel_rfl⟩) (.inl (by decide)) (fun _ => ?_) hF_ hcl_
        refine TD.fin (by kernel_rfl) (EX.np ?_)
        refine EX.next ?_
        refine TR.seq ?_
        refine TR.reg ?_
        let z45 := IntKind.i64.wrap (1024 - S.drag)
        refine TL.seg0 4 [] [.own 0, .own 0, .own 6] [4, 5, 8, 11, 12, 85, 88] [z2, z4, z14, z25, z43, (85, .agg #[vI (z41.x), vI (z41.y)]), (88, vI z45)] (ap [z44, z32, z24, z13, z11, z9, z5, z3] [T4, TS]) [(n1 + 0), (n11 + 0), (n11 + 0)] [] (fun _ => by kernel_rfl) mn an ?_
        let z46 := vscale z41 z45
        refine TL.callp (dst := (some 89)) (f := 24) (args := #[.agg #[vI (z41.x), vI (z41.y)], vI z45]) (H1 := (ap [z44, z32, z24, z13, z11, z9, z5, z3] [T4, TS])) (E := []) (Ob := []) [] [] [4, 5, 8, 11, 12, 89] (.agg #[vI (z46.x), vI (z46.y)]) [z2, z4, z14, z25, z43, (89, .agg #[vI (z46.x), vI (z46.y)])] (fun _ => by kernel_rfl) mn an (vscale_any z41 z45  _) (by kernel_rfl) ?_
        refine TL.seg0 1 [] [.own 0, .own 0] [4, 5, 8, 11, 12] [z2, z4, z14, z25, z43] (ap [((n11 + 0), .lit [vI (z46.x), vI (z46.y)] 30 (0, 0)), z32, z24, z13, z11, z9, z5, z3] [T4, TS]) [(n11 + 0), (n11 + 0)] [] (fun _ => by kernel_rfl) mn an ?_
        refine TL.fin (by kernel_rfl) ?_
        refine EX.next ?_
        refine TR.seq ?_
        refine TR.draw [7] [] rfl (by kernel_rfl) ?_
        let z47 : Nat × Value := (94, vI (z46.y))
        refine TD.vals [] (by kernel_rfl) [0, 3, 1, 4] [] [.own 0, .own 0] [4, 5, 8, 11, 12, 91, 94] [true, true, false, true, true, false, false, false] [z2, z4, z14, z25, z43, (91, vI (z46.x)), z47] [(n11 + 0), (n11 + 0)] [] (by kernel_rfl) (by kernel_rfl) mn an 4 rfl ?_
        let z48 := clampI (z46.x) (-16384) 16384
        let z49 : Nat × Value := (92, vI z48)
        refine TD.callv [] (by kernel_rfl) 2 [] [] (dst := (some 92)) (f := 25) (args := #[vI (z46.x), vI (-16384), vI 16384]) (E := []) (Ob := []) [4, 5, 8, 11, 12, 92, 94] (vI z48) [z2, z4, z14, z25, z43, z49, z47] (by kernel_rfl) (by kernel_rfl) (by kernel_rfl) mn an (fun X_ => (clamp_any (z46.x) (-16384) 16384  _)) (by kernel_rfl) 3 rfl ?_
        let z50 := clampI (z46.y) (-16384) 16384
        refine TD.callv [] (by kernel_rfl) 5 [] [] (dst := (some 95)) (f := 25) (args := #[vI (z46.y), vI (-16384), vI 16384]) (E := []) (Ob := []) [4, 5, 8, 11, 12, 92, 95] (vI z50) [z2, z4, z14, z25, z43, z49, (95, vI z50)] (by kernel_rfl) (by kernel_rfl) (by kernel_rfl) mn an (fun X_ => (clamp_any (z46.y) (-16384) 16384  _)) (by kernel_rfl) 2 rfl ?_
        refine TD.vals [] (by kernel_rfl) [6] [] [] [4, 5, 8, 11, 12, 96] [true, true, true, true, true, true, true, false] [z2, z4, z14, z25, z43, (96, .agg #[vI z48, vI z50])] [] [] (by kernel_rfl) (by kernel_rfl) mn an 1 rfl ?_
        refine TD.one 7 (by kernel_rfl) 0 rfl fun a_ hF_ hcl_ => ?_
        let z51 : Nat × Blk := ((n11 + 0), .lit [vI z48, vI z50] 30 (0, 0))
        refine OPJ.ev [] [.own 0, .own 0] [4, 5, 8, 11, 12] (fun _ => [z2, z4, z14, z25, z43]) (fun _ => (ap [z51, z32, z24, z13, z11, z9, z5, z3] [T4, TS])) (fun _ => [(n11 + 0), (n11 + 0)]) (fun _ => []) (fun _ => by kernel_rfl) mn (fun _ => an) (.inl ⟨[], fun _ => by kernel_rfl⟩) (.inl (by decide)) (fun _ => ?_) hF_ hcl_
        refine TD.fin (by kernel_rfl) (EX.np ?_)
        refine EX.next ?_
        refine TR.seq ?_
        refine TR.reg ?_
        refine TL.seg0 3 [] [.own 3, .own 3, .own 0, .own 0] [4, 5, 11, 12, 98, 99] [z2, z4, z25, z43, (98, .agg #[vI ((sMot S).px), vI ((sMot S).py)]), (99, .agg #[vI z48, vI z50])] (ap [z51, z32, z24, z13, z11, z9, z5, z3] [T4, TS]) [(n11 + 0), (n11 + 0), (n3 + 0), (n3 + 0)] [] (fun _ => by kernel_rfl) mn an ?_
        let z52 := (⟨(sMot S).px, (sMot S).py⟩ : V2)
        let z53 := (⟨clampI (z46.x) (-16384) 16384, clampI (z46.y) (-16384) 16384⟩ : V2)
        let z54 := vadd z52 z53
        refine TL.callp (dst := (some 100)) (f := 23) (args := #[.agg #[vI ((sMot S).px), vI ((sMot S).py)], .agg #[vI z48, vI z50]]) (H1 := (ap [z51, z32, z24, z13, z11, z9, z5, z3] [T4, TS])) (E := []) (Ob := []) [] [] [4, 5, 11, 12, 100] (.agg #[vI (z54.x), vI (z54.y)]) [z2, z4, z25, z43, (100, .agg #[vI (z54.x), vI (z54.y)])] (fun _ => by kernel_rfl) mn an (vadd_any z52 z53  _) (by kernel_rfl) ?_
        let z55 : List Value := [vI (z54.x), vI (z54.y)]
        refine TL.seg 2 [] [.own 0, .own 0] [4, 5, 11, 12, 13] (fun n12 => [z2, z4, z25, z43, (13, vP (n12 + 0) 0)]) (fun n12 => (ap [((n12 + 0), .lit z55 30 (0, 0)), z51, z32, z24, z13, z11, z9, z5, z3] [T4, TS])) (fun n12 => [(n12 + 0), (n12 + 0)]) (fun n12 => []) (fun _ => by kernel_rfl) mn (fun n12 => an) ?_
        intro n12
        refine TL.fin (by kernel_rfl) ?_
        refine EX.next ?_
        refine TR.seq ?_
        let z56 := sC S (ins.getD 0 dI)
        let z57 : Nat × Blk := ((n11 + 0), .lit [vI (z56.x), vI (z56.y)] 30 (0, 0))
        refine TR.den [((n12 + 0), .lit z55 30 (0, 0)), z57, z32, z24, z13, z11, z9, z5, z3] (by kernel_rfl) ?_
        let z58 : Nat × Blk := ((n12 + 0), .lit [vI (z29.x), vI (z29.y)] 30 (0, 0))
        refine TR.den [z58, z57, z32, z24, z13, z11, z9, z5, z3] (by kernel_rfl) ?_
        refine TR.reg ?_
        rcases Decidable.em ((sTo S (ins.getD 0 dI)).x ≥ S.box.x0) with h13 | h13
        · rcases Decidable.em ((sTo S (ins.getD 0 dI)).x ≤ S.box.x1) with h14 | h14
          · rcases Decidable.em ((sTo S (ins.getD 0 dI)).y ≥ S.box.y0) with h15 | h15
            · let z59 : Nat × Value := (13, vP (n12 + 0) 0)
              refine TL.seg0 31 [] [.own 0, .own 7, .gd true, .gd true, .own 0, .gd true, .gd true, .gd true, .own 7, .gd true, .gd true, .gd true, .gd true, .own 0, .gd true, .gd true, .gd true, .own 7, .gd true, .gd true, .gd true, .gd true, .own 0, .gd true, .gd true, .gd true, .own 7, .gd true, .gd true] [4, 5, 11, 12, 13, 14] [z2, z4, z25, z43, z59, (14, .bool (decide (z29.y ≤ S.box.y1)))] (ap [z58, z57, z32, z24, z13, z11, z9, z5, z3] [T4, TS]) [(n1 + 0), (n12 + 0), (n1 + 0), (n12 + 0), (n1 + 0), (n12 + 0), (n1 + 0), (n12 + 0)] [(decide ((sTo S (ins.getD 0 dI)).y ≥ S.box.y0)) = true, (decide ((sTo S (ins.getD 0 dI)).y ≥ S.box.y0)) = true, (decide ((sTo S (ins.getD 0 dI)).y ≥ S.box.y0)) = true, (decide ((sTo S (ins.getD 0 dI)).y ≥ S.box.y0)) = true, (decide ((sTo S (ins.getD 0 dI)).y ≥ S.box.y0)) = true, (decide ((sTo S (ins.getD 0 dI)).y ≥ S.box.y0)) = true, (decide ((sTo S (ins.getD 0 dI)).y ≥ S.box.y0)) = true, (decide ((sTo S (ins.getD 0 dI)).x ≤ S.box.x1)) = true, (decide ((sTo S (ins.getD 0 dI)).x ≤ S.box.x1)) = true, (decide ((sTo S (ins.getD 0 dI)).x ≤ S.box.x1)) = true, (decide ((sTo S (ins.getD 0 dI)).x ≤ S.box.x1)) = true, (decide ((sTo S (ins.getD 0 dI)).x ≤ S.box.x1)) = true, (decide ((sTo S (ins.getD 0 dI)).x ≤ S.box.x1)) = true, (decide ((sTo S (ins.getD 0 dI)).x ≤ S.box.x1)) = true, (decide ((sTo S (ins.getD 0 dI)).x ≥ S.box.x0)) = true, (decide ((sTo S (ins.getD 0 dI)).x ≥ S.box.x0)) = true, (decide ((sTo S (ins.getD 0 dI)).x ≥ S.box.x0)) = true, (decide ((sTo S (ins.getD 0 dI)).x ≥ S.box.x0)) = true, (decide ((sTo S (ins.getD 0 dI)).x ≥ S.box.x0)) = true, (decide ((sTo S (ins.getD 0 dI)).x ≥ S.box.x0)) = true, (decide ((sTo S (ins.getD 0 dI)).x ≥ S.box.x0)) = true] (fun _ => by kernel_rfl) mn (ac (decide_eq_true h15) (ac (decide_eq_true h15) (ac (decide_eq_true h15) (ac (decide_eq_true h15) (ac (decide_eq_true h15) (ac (decide_eq_true h15) (ac (decide_eq_true h15) (ac (decide_eq_true h14) (ac (decide_eq_true h14) (ac (decide_eq_true h14) (ac (decide_eq_true h14) (ac (decide_eq_true h14) (ac (decide_eq_true h14) (ac (decide_eq_true h14) (ac (decide_eq_true h13) (ac (decide_eq_true h13) (ac (decide_eq_true h13) (ac (decide_eq_true h13) (ac (decide_eq_true h13) (ac (decide_eq_true h13) (ac (decide_eq_true h13) an))))))))))))))))))))) ?_
              refine TL.fin (by kernel_rfl) ?_
              refine EX.next ?_
              refine TR.seq ?_
              refine TR.seq ?_
              refine TR.reg ?_
              refine TL.seg0 1 [] [] [4, 5, 11, 12, 13, 131] [z2, z4, z25, z43, z59, (131, .bool (decide (z29.y ≤ S.box.y1)))] (ap [z58, z57, z32, z24, z13, z11, z9, z5, z3] [T4, TS]) [] [] (fun _ => by kernel_rfl) mn an ?_
              refine TL.fin (by kernel_rfl) ?_
              refine EX.next ?_
              rcases Decidable.em ((sTo S (ins.getD 0 dI)).y ≤ S.box.y1) with h16 | h16
              · refine TR.yes (b := decide (z29.y ≤ S.box.y1)) (by kernel_rfl) (by kernel_rfl) (decide_eq_true h16) ?_
                refine TR.seq ?_
                refine TR.reg ?_
                rcases Decidable.em (((decide (clampI ((sTo S (ins.getD 0 dI)).x) S.box.x0 S.box.x1 = (sTo S (ins.getD 0 dI)).x) && (decide (clampI ((sTo S (ins.getD 0 dI)).y) S.box.y0 S.box.y1 = (sTo S (ins.getD 0 dI)).y) && true))) = true) with h17 | h17
                · rcases Decidable.em (((decide (vx = (sC S (ins.getD 0 dI)).x) && (decide (vy = (sC S (ins.getD 0 dI)).y) && true))) = true) with h18 | h18
                  · let z60 : Nat × Value := (142, .bool (decide (vx = z56.x) && (decide (vy = z56.y) && true)))
                    refine TL.seg0 11 [] [.own 2, .own 2, .own 0, .own 0, .sq, .gd true, .gd true, .own 2, .own 2, .gd true, .own 1, .own 1, .gd true, .sq, .gd true] [4, 5, 11, 13, 142] [z2, z4, z25, z59, z60] (ap [z58, z57, z32, z24, z13, z11, z9, z5, z3] [T4, TS]) [(n11 + 0), (n11 + 0), (n7 + 0), (n7 + 0), (n12 + 0), (n12 + 0), (n7 + 0), (n7 + 0)] [(decide (clampI ((sTo S (ins.getD 0 dI)).x) S.box.x0 S.box.x1 = (sTo S (ins.getD 0 dI)).x) && (decide (clampI ((sTo S (ins.getD 0 dI)).y) S.box.y0 S.box.y1 = (sTo S (ins.getD 0 dI)).y) && true)) = true, (decide (clampI ((sTo S (ins.getD 0 dI)).x) S.box.x0 S.box.x1 = (sTo S (ins.getD 0 dI)).x) && (decide (clampI ((sTo S (ins.getD 0 dI)).y) S.box.y0 S.box.y1 = (sTo S (ins.getD 0 dI)).y) && true)) = true, (decide (clampI ((sTo S (ins.getD 0 dI)).x) S.box.x0 S.box.x1 = (sTo S (ins.getD 0 dI)).x) && (decide (clampI ((sTo S (ins.getD 0 dI)).y) S.box.y0 S.box.y1 = (sTo S (ins.getD 0 dI)).y) && true)) = true, (decide (clampI ((sTo S (ins.getD 0 dI)).x) S.box.x0 S.box.x1 = (sTo S (ins.getD 0 dI)).x) && (decide (clampI ((sTo S (ins.getD 0 dI)).y) S.box.y0 S.box.y1 = (sTo S (ins.getD 0 dI)).y) && true)) = true, (decide (clampI ((sTo S (ins.getD 0 dI)).x) S.box.x0 S.box.x1 = (sTo S (ins.getD 0 dI)).x) && (decide (clampI ((sTo S (ins.getD 0 dI)).y) S.box.y0 S.box.y1 = (sTo S (ins.getD 0 dI)).y) && true)) = true] (fun _ => by kernel_rfl) mn (ac h17 (ac h17 (ac h17 (ac h17 (ac h17 an))))) ?_
                    refine TL.callp (dst := (some 143)) (f := 16) (args := #[]) (H1 := (ap [z58, z57, z32, z24, z13, z11, z9, z5, z3] [T4, TS])) (E := []) (Ob := [(decide (vx = (sC S (ins.getD 0 dI)).x) && (decide (vy = (sC S (ins.getD 0 dI)).y) && true)) = true]) [] [.gd true] [4, 5, 11, 13, 142, 143] (.bool true) [z2, z4, z25, z59, z60, (143, .bool true)] (fun _ => by kernel_rfl) mn (ac h18 an) (lives_any _) (by kernel_rfl) ?_
                    refine TL.seg0 2 [] [.gd true] [4, 5, 11, 13] [(4, .bool true), z4, z25, z59] (ap [z58, z57, z32, z24, z13, z11, z9, z5, z3] [T4, TS]) [] [(decide (vx = (sC S (ins.getD 0 dI)).x) && (decide (vy = (sC S (ins.getD 0 dI)).y) && true)) = true] (fun _ => by kernel_rfl) mn (ac h18 an) ?_
                    refine TL.fin (by kernel_rfl) ?_
                    refine EX.next ?_
                    refine TR.ret (A := [z58, z57, z32, z24, z13, z11, z9, z5, z3]) (Ts := [T4, TS]) (by exact fun _ _ h => h) rfl rfl [] [] (.bool true) [] [] (fun _ => by kernel_rfl) mn an [] [0, 1, 2, 3, 4, 5, 6, 7, 8] [] [0, 1] [] (by kernel_rfl) (by kernel_rfl) (by kernel_rfl) ?_
                    exact ⟨rfl, rfl⟩
                  · exact absurd (by first | (simp; done) | (rw [clamp_id (n := (sTo S (ins.getD 0 dI)).x) (by omega) (by omega), clamp_id (n := (sTo S (ins.getD 0 dI)).y) (by omega) (by omega)]; simp; done) | (rw [hvx (clamp_id (by omega) (by omega)), hvy (clamp_id (by omega) (by omega))]; simp)) h18
                · exact absurd (by first | (simp; done) | (rw [clamp_id (n := (sTo S (ins.getD 0 dI)).x) (by omega) (by omega), clamp_id (n := (sTo S (ins.getD 0 dI)).y) (by omega) (by omega)]; simp; done) | (rw [hvx (clamp_id (by omega) (by omega)), hvy (clamp_id (by omega) (by omega))]; simp)) h17
              · refine TR.no (b := decide (z29.y ≤ S.box.y1)) (by kernel_rfl) (by kernel_rfl) (decide_eq_false h16) ?_
                refine TR.skip ?_
                refine EX.next ?_
                refine TR.seq ?_
                refine TR.draw [] [] rfl (by kernel_rfl) ?_
                let z61 : Nat × Value := (147, vI z30)
                refine TD.vals [] (by kernel_rfl) [0, 3, 5, 8, 1, 4, 6, 9, 2, 7, 10] [] [.own 0, .own 2, .own 7, .own 7] [4, 5, 11, 13, 147, 149, 152, 155] [true, true, true, true, true, true, true, true, true, true, true, false, false, false, false, false, false, false, false, false, false, false, false, false, false, false, false, false, false, false, false, false] [z2, z4, z25, z59, z61, (149, vI (z29.x)), (152, vI S.box.x0), (155, vI S.box.x1)] [(n1 + 0), (n1 + 0), (n7 + 0), (n12 + 0)] [] (by kernel_rfl) (by kernel_rfl) mn an 21 rfl ?_
                refine TD.callv [] (by kernel_rfl) 11 [] [] (dst := (some 156)) (f := 25) (args := #[vI (z29.x), vI S.box.x0, vI S.box.x1]) (E := []) (Ob := []) [4, 5, 11, 13, 147, 156] (vI z30) [z2, z4, z25, z59, z61, (156, vI z30)] (by kernel_rfl) (by kernel_rfl) (by kernel_rfl) mn an (fun X_ => (clamp_any (z29.x) S.box.x0 S.box.x1  _)) (by kernel_rfl) 20 rfl ?_
                rcases Decidable.em (clampI ((sTo S (ins.getD 0 dI)).x) S.box.x0 S.box.x1 = clampI ((sTo S (ins.getD 0 dI)).x) S.box.x0 S.box.x1) with h19 | h19
                · let z62 : Nat × Value := (158, .bool (decide (clampI (z29.x) S.box.x0 S.box.x1 = clampI (z29.x) S.box.x0 S.box.x1)))
                  let z63 : Nat × Value := (161, vI z31)
                  refine TD.vals [] (by kernel_rfl) [12, 13, 14, 17, 19, 22, 15, 18, 20, 23, 16, 21, 24] [] [.gd true, .gd true, .gd true, .gd true, .gd true, .gd true, .own 0, .gd true, .gd true, .gd true, .own 2, .gd true, .own 7, .gd true, .own 7] [4, 158, 161, 163, 166, 169] [true, true, true, true, true, true, true, true, true, true, true, true, true, true, true, true, true, true, true, true, true, true, true, true, true, false, false, false, false, false, false, false] [z2, z62, z63, (163, vI (z29.y)), (166, vI S.box.y0), (169, vI S.box.y1)] [(n1 + 0), (n1 + 0), (n7 + 0), (n12 + 0)] [(decide (clampI ((sTo S (ins.getD 0 dI)).x) S.box.x0 S.box.x1 = clampI ((sTo S (ins.getD 0 dI)).x) S.box.x0 S.box.x1)) = true, (decide (clampI ((sTo S (ins.getD 0 dI)).x) S.box.x0 S.box.x1 = clampI ((sTo S (ins.getD 0 dI)).x) S.box.x0 S.box.x1)) = true, (decide (clampI ((sTo S (ins.getD 0 dI)).x) S.box.x0 S.box.x1 = clampI ((sTo S (ins.getD 0 dI)).x) S.box.x0 S.box.x1)) = true, (decide (clampI ((sTo S (ins.getD 0 dI)).x) S.box.x0 S.box.x1 = clampI ((sTo S (ins.getD 0 dI)).x) S.box.x0 S.box.x1)) = true, (decide (clampI ((sTo S (ins.getD 0 dI)).x) S.box.x0 S.box.x1 = clampI ((sTo S (ins.getD 0 dI)).x) S.box.x0 S.box.x1)) = true, (decide (clampI ((sTo S (ins.getD 0 dI)).x) S.box.x0 S.box.x1 = clampI ((sTo S (ins.getD 0 dI)).x) S.box.x0 S.box.x1)) = true, (decide (clampI ((sTo S (ins.getD 0 dI)).x) S.box.x0 S.box.x1 = clampI ((sTo S (ins.getD 0 dI)).x) S.box.x0 S.box.x1)) = true, (decide (clampI ((sTo S (ins.getD 0 dI)).x) S.box.x0 S.box.x1 = clampI ((sTo S (ins.getD 0 dI)).x) S.box.x0 S.box.x1)) = true, (decide (clampI ((sTo S (ins.getD 0 dI)).x) S.box.x0 S.box.x1 = clampI ((sTo S (ins.getD 0 dI)).x) S.box.x0 S.box.x1)) = true, (decide (clampI ((sTo S (ins.getD 0 dI)).x) S.box.x0 S.box.x1 = clampI ((sTo S (ins.getD 0 dI)).x) S.box.x0 S.box.x1)) = true, (decide (clampI ((sTo S (ins.getD 0 dI)).x) S.box.x0 S.box.x1 = clampI ((sTo S (ins.getD 0 dI)).x) S.box.x0 S.box.x1)) = true] (by kernel_rfl) (by kernel_rfl) mn (ac (decide_eq_true h19) (ac (decide_eq_true h19) (ac (decide_eq_true h19) (ac (decide_eq_true h19) (ac (decide_eq_true h19) (ac (decide_eq_true h19) (ac (decide_eq_true h19) (ac (decide_eq_true h19) (ac (decide_eq_true h19) (ac (decide_eq_true h19) (ac (decide_eq_true h19) an))))))))))) 7 rfl ?_
                  refine TD.callv [] (by kernel_rfl) 25 [] [.gd true] (dst := (some 170)) (f := 25) (args := #[vI (z29.y), vI S.box.y0, vI S.box.y1]) (E := []) (Ob := [(decide (clampI ((sTo S (ins.getD 0 dI)).x) S.box.x0 S.box.x1 = clampI ((sTo S (ins.getD 0 dI)).x) S.box.x0 S.box.x1)) = true]) [4, 158, 161, 170] (vI z31) [z2, z62, z63, (170, vI z31)] (by kernel_rfl) (by kernel_rfl) (by kernel_rfl) mn (ac (decide_eq_true h19) an) (fun X_ => (clamp_any (z29.y) S.box.y0 S.box.y1  _)) (by kernel_rfl) 6 rfl ?_
                  rcases Decidable.em (clampI ((sTo S (ins.getD 0 dI)).y) S.box.y0 S.box.y1 = clampI ((sTo S (ins.getD 0 dI)).y) S.box.y0 S.box.y1) with h20 | h20
                  · let z64 : Nat × Value := (173, .bool (decide (clampI (z29.y) S.box.y0 S.box.y1 = clampI (z29.y) S.box.y0 S.box.y1)))
                    refine TD.vals [] (by kernel_rfl) [26, 27, 28] [] [.gd true, .gd true] [4, 173] [true, true, true, true, true, true, true, true, true, true, true, true, true, true, true, true, true, true, true, true, true, true, true, true, true, true, true, true, true, false, false, false] [z2, z64] [] [(decide (clampI ((sTo S (ins.getD 0 dI)).x) S.box.x0 S.box.x1 = clampI ((sTo S (ins.getD 0 dI)).x) S.box.x0 S.box.x1)) = true, (decide (clampI ((sTo S (ins.getD 0 dI)).x) S.box.x0 S.box.x1 = clampI ((sTo S (ins.getD 0 dI)).x) S.box.x0 S.box.x1)) = true] (by kernel_rfl) (by kernel_rfl) mn (ac (decide_eq_true h19) (ac (decide_eq_true h19) an)) 3 rfl ?_
                    refine TD.callv [] (by kernel_rfl) 29 [] [.gd true] (dst := (some 174)) (f := 16) (args := #[]) (E := []) (Ob := [(decide (clampI ((sTo S (ins.getD 0 dI)).y) S.box.y0 S.box.y1 = clampI ((sTo S (ins.getD 0 dI)).y) S.box.y0 S.box.y1)) = true]) [4, 173, 174] (.bool true) [z2, z64, (174, .bool true)] (by kernel_rfl) (by kernel_rfl) (by kernel_rfl) mn (ac (decide_eq_true h20) an) (fun X_ => (lives_any _)) (by kernel_rfl) 2 rfl ?_
                    refine TD.vals [] (by kernel_rfl) [30, 31] [] [.gd true] [4] [true, true, true, true, true, true, true, true, true, true, true, true, true, true, true, true, true, true, true, true, true, true, true, true, true, true, true, true, true, true, true, true] [(4, .bool true)] [] [(decide (clampI ((sTo S (ins.getD 0 dI)).y) S.box.y0 S.box.y1 = clampI ((sTo S (ins.getD 0 dI)).y) S.box.y0 S.box.y1)) = true] (by kernel_rfl) (by kernel_rfl) mn (ac (decide_eq_true h20) an) 0 rfl ?_
                    refine TD.fin (by kernel_rfl) (EX.np ?_)
                    refine EX.next ?_
                    refine TR.ret (A := [z58, z57, z32, z24, z13, z11, z9, z5, z3]) (Ts := [T4, TS]) (by exact fun _ _ h => h) rfl rfl [] [] (.bool true) [] [] (fun _ => by kernel_rfl) mn an [] [0, 1, 2, 3, 4, 5, 6, 7, 8] [] [0, 1] [] (by kernel_rfl) (by kernel_rfl) (by kernel_rfl) ?_
                    exact ⟨rfl, rfl⟩
                  · exact absurd rfl h20
                · exact absurd rfl h19
            · let z65 : Nat × Value := (13, vP (n12 + 0) 0)
              refine TL.seg0 31 [] [.own 0, .own 7, .gd true, .gd true, .own 0, .gd true, .gd true, .gd true, .own 7, .gd true, .gd true, .gd true, .gd true, .own 0, .gd true, .gd true, .gd true, .own 7, .gd true, .gd true, .gd false, .gd false, .gd false, .gd false, .gd false, .gd false, .gd false] [4, 5, 11, 12, 13, 14] [z2, z4, z25, z43, z65, (14, .bool false)] (ap [z58, z57, z32, z24, z13, z11, z9, z5, z3] [T4, TS]) [(n1 + 0), (n12 + 0), (n1 + 0), (n12 + 0), (n1 + 0), (n12 + 0)] [(decide ((sTo S (ins.getD 0 dI)).y ≥ S.box.y0)) = false, (decide ((sTo S (ins.getD 0 dI)).y ≥ S.box.y0)) = false, (decide ((sTo S (ins.getD 0 dI)).y ≥ S.box.y0)) = false, (decide ((sTo S (ins.getD 0 dI)).y ≥ S.box.y0)) = false, (decide ((sTo S (ins.getD 0 dI)).y ≥ S.box.y0)) = false, (decide ((sTo S (ins.getD 0 dI)).y ≥ S.box.y0)) = false, (decide ((sTo S (ins.getD 0 dI)).y ≥ S.box.y0)) = false, (decide ((sTo S (ins.getD 0 dI)).x ≤ S.box.x1)) = true, (decide ((sTo S (ins.getD 0 dI)).x ≤ S.box.x1)) = true, (decide ((sTo S (ins.getD 0 dI)).x ≤ S.box.x1)) = true, (decide ((sTo S (ins.getD 0 dI)).x ≤ S.box.x1)) = true, (decide ((sTo S (ins.getD 0 dI)).x ≤ S.box.x1)) = true, (decide ((sTo S (ins.getD 0 dI)).x ≤ S.box.x1)) = true, (decide ((sTo S (ins.getD 0 dI)).x ≤ S.box.x1)) = true, (decide ((sTo S (ins.getD 0 dI)).x ≥ S.box.x0)) = true, (decide ((sTo S (ins.getD 0 dI)).x ≥ S.box.x0)) = true, (decide ((sTo S (ins.getD 0 dI)).x ≥ S.box.x0)) = true, (decide ((sTo S (ins.getD 0 dI)).x ≥ S.box.x0)) = true, (decide ((sTo S (ins.getD 0 dI)).x ≥ S.box.x0)) = true, (decide ((sTo S (ins.getD 0 dI)).x ≥ S.box.x0)) = true, (decide ((sTo S (ins.getD 0 dI)).x ≥ S.box.x0)) = true] (fun _ => by kernel_rfl) mn (ac (decide_eq_false h15) (ac (decide_eq_false h15) (ac (decide_eq_false h15) (ac (decide_eq_false h15) (ac (decide_eq_false h15) (ac (decide_eq_false h15) (ac (decide_eq_false h15) (ac (decide_eq_true h14) (ac (decide_eq_true h14) (ac (decide_eq_true h14) (ac (decide_eq_true h14) (ac (decide_eq_true h14) (ac (decide_eq_true h14) (ac (decide_eq_true h14) (ac (decide_eq_true h13) (ac (decide_eq_true h13) (ac (decide_eq_true h13) (ac (decide_eq_true h13) (ac (decide_eq_true h13) (ac (decide_eq_true h13) (ac (decide_eq_true h13) an))))))))))))))))))))) ?_
              refine TL.fin (by kernel_rfl) ?_
              refine EX.next ?_
              refine TR.seq ?_
              refine TR.seq ?_
              refine TR.reg ?_
              refine TL.seg0 1 [] [] [4, 5, 11, 12, 13, 131] [z2, z4, z25, z43, z65, (131, .bool false)] (ap [z58, z57, z32, z24, z13, z11, z9, z5, z3] [T4, TS]) [] [] (fun _ => by kernel_rfl) mn an ?_
              refine TL.fin (by kernel_rfl) ?_
              refine EX.next ?_
              refine TR.no (by kernel_rfl) (by kernel_rfl) (rfl : false = false) ?_
              refine TR.skip ?_
              refine EX.next ?_
              refine TR.seq ?_
              refine TR.draw [] [] rfl (by kernel_rfl) ?_
              let z66 : Nat × Value := (147, vI z30)
              refine TD.vals [] (by kernel_rfl) [0, 3, 5, 8, 1, 4, 6, 9, 2, 7, 10] [] [.own 0, .own 2, .own 7, .own 7] [4, 5, 11, 13, 147, 149, 152, 155] [true, true, true, true, true, true, true, true, true, true, true, false, false, false, false, false, false, false, false, false, false, false, false, false, false, false, false, false, false, false, false, false] [z2, z4, z25, z65, z66, (149, vI (z29.x)), (152, vI S.box.x0), (155, vI S.box.x1)] [(n1 + 0), (n1 + 0), (n7 + 0), (n12 + 0)] [] (by kernel_rfl) (by kernel_rfl) mn an 21 rfl ?_
              refine TD.callv [] (by kernel_rfl) 11 [] [] (dst := (some 156)) (f := 25) (args := #[vI (z29.x), vI S.box.x0, vI S.box.x1]) (E := []) (Ob := []) [4, 5, 11, 13, 147, 156] (vI z30) [z2, z4, z25, z65, z66, (156, vI z30)] (by kernel_rfl) (by kernel_rfl) (by kernel_rfl) mn an (fun X_ => (clamp_any (z29.x) S.box.x0 S.box.x1  _)) (by kernel_rfl) 20 rfl ?_
              rcases Decidable.em (clampI ((sTo S (ins.getD 0 dI)).x) S.box.x0 S.box.x1 = clampI ((sTo S (ins.getD 0 dI)).x) S.box.x0 S.box.x1) with h21 | h21
              · let z67 : Nat × Value := (158, .bool (decide (clampI (z29.x) S.box.x0 S.box.x1 = clampI (z29.x) S.box.x0 S.box.x1)))
                let z68 : Nat × Value := (161, vI z31)
                refine TD.vals [] (by kernel_rfl) [12, 13, 14, 17, 19, 22, 15, 18, 20, 23, 16, 21, 24] [] [.gd true, .gd true, .gd true, .gd true, .gd true, .gd true, .own 0, .gd true, .gd true, .gd true, .own 2, .gd true, .own 7, .gd true, .own 7] [4, 158, 161, 163, 166, 169] [true, true, true, true, true, true, true, true, true, true, true, true, true, true, true, true, true, true, true, true, true, true, true, true, true, false, false, false, false, false, false, false] [z2, z67, z68, (163, vI (z29.y)), (166, vI S.box.y0), (169, vI S.box.y1)] [(n1 + 0), (n1 + 0), (n7 + 0), (n12 + 0)] [(decide (clampI ((sTo S (ins.getD 0 dI)).x) S.box.x0 S.box.x1 = clampI ((sTo S (ins.getD 0 dI)).x) S.box.x0 S.box.x1)) = true, (decide (clampI ((sTo S (ins.getD 0 dI)).x) S.box.x0 S.box.x1 = clampI ((sTo S (ins.getD 0 dI)).x) S.box.x0 S.box.x1)) = true, (decide (clampI ((sTo S (ins.getD 0 dI)).x) S.box.x0 S.box.x1 = clampI ((sTo S (ins.getD 0 dI)).x) S.box.x0 S.box.x1)) = true, (decide (clampI ((sTo S (ins.getD 0 dI)).x) S.box.x0 S.box.x1 = clampI ((sTo S (ins.getD 0 dI)).x) S.box.x0 S.box.x1)) = true, (decide (clampI ((sTo S (ins.getD 0 dI)).x) S.box.x0 S.box.x1 = clampI ((sTo S (ins.getD 0 dI)).x) S.box.x0 S.box.x1)) = true, (decide (clampI ((sTo S (ins.getD 0 dI)).x) S.box.x0 S.box.x1 = clampI ((sTo S (ins.getD 0 dI)).x) S.box.x0 S.box.x1)) = true, (decide (clampI ((sTo S (ins.getD 0 dI)).x) S.box.x0 S.box.x1 = clampI ((sTo S (ins.getD 0 dI)).x) S.box.x0 S.box.x1)) = true, (decide (clampI ((sTo S (ins.getD 0 dI)).x) S.box.x0 S.box.x1 = clampI ((sTo S (ins.getD 0 dI)).x) S.box.x0 S.box.x1)) = true, (decide (clampI ((sTo S (ins.getD 0 dI)).x) S.box.x0 S.box.x1 = clampI ((sTo S (ins.getD 0 dI)).x) S.box.x0 S.box.x1)) = true, (decide (clampI ((sTo S (ins.getD 0 dI)).x) S.box.x0 S.box.x1 = clampI ((sTo S (ins.getD 0 dI)).x) S.box.x0 S.box.x1)) = true, (decide (clampI ((sTo S (ins.getD 0 dI)).x) S.box.x0 S.box.x1 = clampI ((sTo S (ins.getD 0 dI)).x) S.box.x0 S.box.x1)) = true] (by kernel_rfl) (by kernel_rfl) mn (ac (decide_eq_true h21) (ac (decide_eq_true h21) (ac (decide_eq_true h21) (ac (decide_eq_true h21) (ac (decide_eq_true h21) (ac (decide_eq_true h21) (ac (decide_eq_true h21) (ac (decide_eq_true h21) (ac (decide_eq_true h21) (ac (decide_eq_true h21) (ac (decide_eq_true h21) an))))))))))) 7 rfl ?_
                refine TD.callv [] (by kernel_rfl) 25 [] [.gd true] (dst := (some 170)) (f := 25) (args := #[vI (z29.y), vI S.box.y0, vI S.box.y1]) (E := []) (Ob := [(decide (clampI ((sTo S (ins.getD 0 dI)).x) S.box.x0 S.box.x1 = clampI ((sTo S (ins.getD 0 dI)).x) S.box.x0 S.box.x1)) = true]) [4, 158, 161, 170] (vI z31) [z2, z67, z68, (170, vI z31)] (by kernel_rfl) (by kernel_rfl) (by kernel_rfl) mn (ac (decide_eq_true h21) an) (fun X_ => (clamp_any (z29.y) S.box.y0 S.box.y1  _)) (by kernel_rfl) 6 rfl ?_
                rcases Decidable.em (clampI ((sTo S (ins.getD 0 dI)).y) S.box.y0 S.box.y1 = clampI ((sTo S (ins.getD 0 dI)).y) S.box.y0 S.box.y1) with h22 | h22
                · let z69 : Nat × Value := (173, .bool (decide (clampI (z29.y) S.box.y0 S.box.y1 = clampI (z29.y) S.box.y0 S.box.y1)))
                  refine TD.vals [] (by kernel_rfl) [26, 27, 28] [] [.gd true, .gd true] [4, 173] [true, true, true, true, true, true, true, true, true, true, true, true, true, true, true, true, true, true, true, true, true, true, true, true, true, true, true, true, true, false, false, false] [z2, z69] [] [(decide (clampI ((sTo S (ins.getD 0 dI)).x) S.box.x0 S.box.x1 = clampI ((sTo S (ins.getD 0 dI)).x) S.box.x0 S.box.x1)) = true, (decide (clampI ((sTo S (ins.getD 0 dI)).x) S.box.x0 S.box.x1 = clampI ((sTo S (ins.getD 0 dI)).x) S.box.x0 S.box.x1)) = true] (by kernel_rfl) (by kernel_rfl) mn (ac (decide_eq_true h21) (ac (decide_eq_true h21) an)) 3 rfl ?_
                  refine TD.callv [] (by kernel_rfl) 29 [] [.gd true] (dst := (some 174)) (f := 16) (args := #[]) (E := []) (Ob := [(decide (clampI ((sTo S (ins.getD 0 dI)).y) S.box.y0 S.box.y1 = clampI ((sTo S (ins.getD 0 dI)).y) S.box.y0 S.box.y1)) = true]) [4, 173, 174] (.bool true) [z2, z69, (174, .bool true)] (by kernel_rfl) (by kernel_rfl) (by kernel_rfl) mn (ac (decide_eq_true h22) an) (fun X_ => (lives_any _)) (by kernel_rfl) 2 rfl ?_
                  refine TD.vals [] (by kernel_rfl) [30, 31] [] [.gd true] [4] [true, true, true, true, true, true, true, true, true, true, true, true, true, true, true, true, true, true, true, true, true, true, true, true, true, true, true, true, true, true, true, true] [(4, .bool true)] [] [(decide (clampI ((sTo S (ins.getD 0 dI)).y) S.box.y0 S.box.y1 = clampI ((sTo S (ins.getD 0 dI)).y) S.box.y0 S.box.y1)) = true] (by kernel_rfl) (by kernel_rfl) mn (ac (decide_eq_true h22) an) 0 rfl ?_
                  refine TD.fin (by kernel_rfl) (EX.np ?_)
                  refine EX.next ?_
                  refine TR.ret (A := [z58, z57, z32, z24, z13, z11, z9, z5, z3]) (Ts := [T4, TS]) (by exact fun _ _ h => h) rfl rfl [] [] (.bool true) [] [] (fun _ => by kernel_rfl) mn an [] [0, 1, 2, 3, 4, 5, 6, 7, 8] [] [0, 1] [] (by kernel_rfl) (by kernel_rfl) (by kernel_rfl) ?_
                  exact ⟨rfl, rfl⟩
                · exact absurd rfl h22
              · exact absurd rfl h21
          · let z70 : Nat × Value := (13, vP (n12 + 0) 0)
            refine TL.seg0 31 [] [.own 0, .own 7, .gd true, .gd true, .own 0, .gd true, .gd true, .gd true, .own 7, .gd true, .gd true, .gd false, .gd false, .gd false, .gd false, .gd false, .gd false, .gd false] [4, 5, 11, 12, 13, 14] [z2, z4, z25, z43, z70, (14, .bool false)] (ap [z58, z57, z32, z24, z13, z11, z9, z5, z3] [T4, TS]) [(n1 + 0), (n12 + 0), (n1 + 0), (n12 + 0)] [(decide ((sTo S (ins.getD 0 dI)).x ≤ S.box.x1)) = false, (decide ((sTo S (ins.getD 0 dI)).x ≤ S.box.x1)) = false, (decide ((sTo S (ins.getD 0 dI)).x ≤ S.box.x1)) = false, (decide ((sTo S (ins.getD 0 dI)).x ≤ S.box.x1)) = false, (decide ((sTo S (ins.getD 0 dI)).x ≤ S.box.x1)) = false, (decide ((sTo S (ins.getD 0 dI)).x ≤ S.box.x1)) = false, (decide ((sTo S (ins.getD 0 dI)).x ≤ S.box.x1)) = false, (decide ((sTo S (ins.getD 0 dI)).x ≥ S.box.x0)) = true, (decide ((sTo S (ins.getD 0 dI)).x ≥ S.box.x0)) = true, (decide ((sTo S (ins.getD 0 dI)).x ≥ S.box.x0)) = true, (decide ((sTo S (ins.getD 0 dI)).x ≥ S.box.x0)) = true, (decide ((sTo S (ins.getD 0 dI)).x ≥ S.box.x0)) = true, (decide ((sTo S (ins.getD 0 dI)).x ≥ S.box.x0)) = true, (decide ((sTo S (ins.getD 0 dI)).x ≥ S.box.x0)) = true] (fun _ => by kernel_rfl) mn (ac (decide_eq_false h14) (ac (decide_eq_false h14) (ac (decide_eq_false h14) (ac (decide_eq_false h14) (ac (decide_eq_false h14) (ac (decide_eq_false h14) (ac (decide_eq_false h14) (ac (decide_eq_true h13) (ac (decide_eq_true h13) (ac (decide_eq_true h13) (ac (decide_eq_true h13) (ac (decide_eq_true h13) (ac (decide_eq_true h13) (ac (decide_eq_true h13) an)))))))))))))) ?_
            refine TL.fin (by kernel_rfl) ?_
            refine EX.next ?_
            refine TR.seq ?_
            refine TR.seq ?_
            refine TR.reg ?_
            refine TL.seg0 1 [] [] [4, 5, 11, 12, 13, 131] [z2, z4, z25, z43, z70, (131, .bool false)] (ap [z58, z57, z32, z24, z13, z11, z9, z5, z3] [T4, TS]) [] [] (fun _ => by kernel_rfl) mn an ?_
            refine TL.fin (by kernel_rfl) ?_
            refine EX.next ?_
            refine TR.no (by kernel_rfl) (by kernel_rfl) (rfl : false = false) ?_
            refine TR.skip ?_
            refine EX.next ?_
            refine TR.seq ?_
            refine TR.draw [] [] rfl (by kernel_rfl) ?_
            let z71 : Nat × Value := (147, vI z30)
            refine TD.vals [] (by kernel_rfl) [0, 3, 5, 8, 1, 4, 6, 9, 2, 7, 10] [] [.own 0, .own 2, .own 7, .own 7] [4, 5, 11, 13, 147, 149, 152, 155] [true, true, true, true, true, true, true, true, true, true, true, false, false, false, false, false, false, false, false, false, false, false, false, false, false, false, false, false, false, false, false, false] [z2, z4, z25, z70, z71, (149, vI (z29.x)), (152, vI S.box.x0), (155, vI S.box.x1)] [(n1 + 0), (n1 + 0), (n7 + 0), (n12 + 0)] [] (by kernel_rfl) (by kernel_rfl) mn an 21 rfl ?_
            refine TD.callv [] (by kernel_rfl) 11 [] [] (dst := (some 156)) (f := 25) (args := #[vI (z29.x), vI S.box.x0, vI S.box.x1]) (E := []) (Ob := []) [4, 5, 11, 13, 147, 156] (vI z30) [z2, z4, z25, z70, z71, (156, vI z30)] (by kernel_rfl) (by kernel_rfl) (by kernel_rfl) mn an (fun X_ => (clamp_any (z29.x) S.box.x0 S.box.x1  _)) (by kernel_rfl) 20 rfl ?_
            rcases Decidable.em (clampI ((sTo S (ins.getD 0 dI)).x) S.box.x0 S.box.x1 = clampI ((sTo S (ins.getD 0 dI)).x) S.box.x0 S.box.x1) with h23 | h23
            · let z72 : Nat × Value := (158, .bool (decide (clampI (z29.x) S.box.x0 S.box.x1 = clampI (z29.x) S.box.x0 S.box.x1)))
              let z73 : Nat × Value := (161, vI z31)
              refine TD.vals [] (by kernel_rfl) [12, 13, 14, 17, 19, 22, 15, 18, 20, 23, 16, 21, 24] [] [.gd true, .gd true, .gd true, .gd true, .gd true, .gd true, .own 0, .gd true, .gd true, .gd true, .own 2, .gd true, .own 7, .gd true, .own 7] [4, 158, 161, 163, 166, 169] [true, true, true, true, true, true, true, true, true, true, true, true, true, true, true, true, true, true, true, true, true, true, true, true, true, false, false, false, false, false, false, false] [z2, z72, z73, (163, vI (z29.y)), (166, vI S.box.y0), (169, vI S.box.y1)] [(n1 + 0), (n1 + 0), (n7 + 0), (n12 + 0)] [(decide (clampI ((sTo S (ins.getD 0 dI)).x) S.box.x0 S.box.x1 = clampI ((sTo S (ins.getD 0 dI)).x) S.box.x0 S.box.x1)) = true, (decide (clampI ((sTo S (ins.getD 0 dI)).x) S.box.x0 S.box.x1 = clampI ((sTo S (ins.getD 0 dI)).x) S.box.x0 S.box.x1)) = true, (decide (clampI ((sTo S (ins.getD 0 dI)).x) S.box.x0 S.box.x1 = clampI ((sTo S (ins.getD 0 dI)).x) S.box.x0 S.box.x1)) = true, (decide (clampI ((sTo S (ins.getD 0 dI)).x) S.box.x0 S.box.x1 = clampI ((sTo S (ins.getD 0 dI)).x) S.box.x0 S.box.x1)) = true, (decide (clampI ((sTo S (ins.getD 0 dI)).x) S.box.x0 S.box.x1 = clampI ((sTo S (ins.getD 0 dI)).x) S.box.x0 S.box.x1)) = true, (decide (clampI ((sTo S (ins.getD 0 dI)).x) S.box.x0 S.box.x1 = clampI ((sTo S (ins.getD 0 dI)).x) S.box.x0 S.box.x1)) = true, (decide (clampI ((sTo S (ins.getD 0 dI)).x) S.box.x0 S.box.x1 = clampI ((sTo S (ins.getD 0 dI)).x) S.box.x0 S.box.x1)) = true, (decide (clampI ((sTo S (ins.getD 0 dI)).x) S.box.x0 S.box.x1 = clampI ((sTo S (ins.getD 0 dI)).x) S.box.x0 S.box.x1)) = true, (decide (clampI ((sTo S (ins.getD 0 dI)).x) S.box.x0 S.box.x1 = clampI ((sTo S (ins.getD 0 dI)).x) S.box.x0 S.box.x1)) = true, (decide (clampI ((sTo S (ins.getD 0 dI)).x) S.box.x0 S.box.x1 = clampI ((sTo S (ins.getD 0 dI)).x) S.box.x0 S.box.x1)) = true, (decide (clampI ((sTo S (ins.getD 0 dI)).x) S.box.x0 S.box.x1 = clampI ((sTo S (ins.getD 0 dI)).x) S.box.x0 S.box.x1)) = true] (by kernel_rfl) (by kernel_rfl) mn (ac (decide_eq_true h23) (ac (decide_eq_true h23) (ac (decide_eq_true h23) (ac (decide_eq_true h23) (ac (decide_eq_true h23) (ac (decide_eq_true h23) (ac (decide_eq_true h23) (ac (decide_eq_true h23) (ac (decide_eq_true h23) (ac (decide_eq_true h23) (ac (decide_eq_true h23) an))))))))))) 7 rfl ?_
              refine TD.callv [] (by kernel_rfl) 25 [] [.gd true] (dst := (some 170)) (f := 25) (args := #[vI (z29.y), vI S.box.y0, vI S.box.y1]) (E := []) (Ob := [(decide (clampI ((sTo S (ins.getD 0 dI)).x) S.box.x0 S.box.x1 = clampI ((sTo S (ins.getD 0 dI)).x) S.box.x0 S.box.x1)) = true]) [4, 158, 161, 170] (vI z31) [z2, z72, z73, (170, vI z31)] (by kernel_rfl) (by kernel_rfl) (by kernel_rfl) mn (ac (decide_eq_true h23) an) (fun X_ => (clamp_any (z29.y) S.box.y0 S.box.y1  _)) (by kernel_rfl) 6 rfl ?_
              rcases Decidable.em (clampI ((sTo S (ins.getD 0 dI)).y) S.box.y0 S.box.y1 = clampI ((sTo S (ins.getD 0 dI)).y) S.box.y0 S.box.y1) with h24 | h24
              · let z74 : Nat × Value := (173, .bool (decide (clampI (z29.y) S.box.y0 S.box.y1 = clampI (z29.y) S.box.y0 S.box.y1)))
                refine TD.vals [] (by kernel_rfl) [26, 27, 28] [] [.gd true, .gd true] [4, 173] [true, true, true, true, true, true, true, true, true, true, true, true, true, true, true, true, true, true, true, true, true, true, true, true, true, true, true, true, true, false, false, false] [z2, z74] [] [(decide (clampI ((sTo S (ins.getD 0 dI)).x) S.box.x0 S.box.x1 = clampI ((sTo S (ins.getD 0 dI)).x) S.box.x0 S.box.x1)) = true, (decide (clampI ((sTo S (ins.getD 0 dI)).x) S.box.x0 S.box.x1 = clampI ((sTo S (ins.getD 0 dI)).x) S.box.x0 S.box.x1)) = true] (by kernel_rfl) (by kernel_rfl) mn (ac (decide_eq_true h23) (ac (decide_eq_true h23) an)) 3 rfl ?_
                refine TD.callv [] (by kernel_rfl) 29 [] [.gd true] (dst := (some 174)) (f := 16) (args := #[]) (E := []) (Ob := [(decide (clampI ((sTo S (ins.getD 0 dI)).y) S.box.y0 S.box.y1 = clampI ((sTo S (ins.getD 0 dI)).y) S.box.y0 S.box.y1)) = true]) [4, 173, 174] (.bool true) [z2, z74, (174, .bool true)] (by kernel_rfl) (by kernel_rfl) (by kernel_rfl) mn (ac (decide_eq_true h24) an) (fun X_ => (lives_any _)) (by kernel_rfl) 2 rfl ?_
                refine TD.vals [] (by kernel_rfl) [30, 31] [] [.gd true] [4] [true, true, true, true, true, true, true, true, true, true, true, true, true, true, true, true, true, true, true, true, true, true, true, true, true, true, true, true, true, true, true, true] [(4, .bool true)] [] [(decide (clampI ((sTo S (ins.getD 0 dI)).y) S.box.y0 S.box.y1 = clampI ((sTo S (ins.getD 0 dI)).y) S.box.y0 S.box.y1)) = true] (by kernel_rfl) (by kernel_rfl) mn (ac (decide_eq_true h24) an) 0 rfl ?_
                refine TD.fin (by kernel_rfl) (EX.np ?_)
                refine EX.next ?_
                refine TR.ret (A := [z58, z57, z32, z24, z13, z11, z9, z5, z3]) (Ts := [T4, TS]) (by exact fun _ _ h => h) rfl rfl [] [] (.bool true) [] [] (fun _ => by kernel_rfl) mn an [] [0, 1, 2, 3, 4, 5, 6, 7, 8] [] [0, 1] [] (by kernel_rfl) (by kernel_rfl) (by kernel_rfl) ?_
                exact ⟨rfl, rfl⟩
              · exact absurd rfl h24
            · exact absurd rfl h23
        · let z75 : Nat × Value := (13, vP (n12 + 0) 0)
          refine TL.seg0 31 [] [.own 0, .own 7, .gd false, .gd false, .gd false, .gd false, .gd false, .gd false, .gd false] [4, 5, 11, 12, 13, 14] [z2, z4, z25, z43, z75, (14, .bool false)] (ap [z58, z57, z32, z24, z13, z11, z9, z5, z3] [T4, TS]) [(n1 + 0), (n12 + 0)] [(decide ((sTo S (ins.getD 0 dI)).x ≥ S.box.x0)) = false, (decide ((sTo S (ins.getD 0 dI)).x ≥ S.box.x0)) = false, (decide ((sTo S (ins.getD 0 dI)).x ≥ S.box.x0)) = false, (decide ((sTo S (ins.getD 0 dI)).x ≥ S.box.x0)) = false, (decide ((sTo S (ins.getD 0 dI)).x ≥ S.box.x0)) = false, (decide ((sTo S (ins.getD 0 dI)).x ≥ S.box.x0)) = false, (decide ((sTo S (ins.getD 0 dI)).x ≥ S.box.x0)) = false] (fun _ => by kernel_rfl) mn (ac (decide_eq_false h13) (ac (decide_eq_false h13) (ac (decide_eq_false h13) (ac (decide_eq_false h13) (ac (decide_eq_false h13) (ac (decide_eq_false h13) (ac (decide_eq_false h13) an))))))) ?_
          refine TL.fin (by kernel_rfl) ?_
          refine EX.next ?_
          refine TR.seq ?_
          refine TR.seq ?_
          refine TR.reg ?_
          refine TL.seg0 1 [] [] [4, 5, 11, 12, 13, 131] [z2, z4, z25, z43, z75, (131, .bool false)] (ap [z58, z57, z32, z24, z13, z11, z9, z5, z3] [T4, TS]) [] [] (fun _ => by kernel_rfl) mn an ?_
          refine TL.fin (by kernel_rfl) ?_
          refine EX.next ?_
          refine TR.no (by kernel_rfl) (by kernel_rfl) (rfl : false = false) ?_
          refine TR.skip ?_
          refine EX.next ?_
          refine TR.seq ?_
          refine TR.draw [] [] rfl (by kernel_rfl) ?_
          let z76 : Nat × Value := (147, vI z30)
          refine TD.vals [] (by kernel_rfl) [0, 3, 5, 8, 1, 4, 6, 9, 2, 7, 10] [] [.own 0, .own 2, .own 7, .own 7] [4, 5, 11, 13, 147, 149, 152, 155] [true, true, true, true, true, true, true, true, true, true, true, false, false, false, false, false, false, false, false, false, false, false, false, false, false, false, false, false, false, false, false, false] [z2, z4, z25, z75, z76, (149, vI (z29.x)), (152, vI S.box.x0), (155, vI S.box.x1)] [(n1 + 0), (n1 + 0), (n7 + 0), (n12 + 0)] [] (by kernel_rfl) (by kernel_rfl) mn an 21 rfl ?_
          refine TD.callv [] (by kernel_rfl) 11 [] [] (dst := (some 156)) (f := 25) (args := #[vI (z29.x), vI S.box.x0, vI S.box.x1]) (E := []) (Ob := []) [4, 5, 11, 13, 147, 156] (vI z30) [z2, z4, z25, z75, z76, (156, vI z30)] (by kernel_rfl) (by kernel_rfl) (by kernel_rfl) mn an (fun X_ => (clamp_any (z29.x) S.box.x0 S.box.x1  _)) (by kernel_rfl) 20 rfl ?_
          rcases Decidable.em (clampI ((sTo S (ins.getD 0 dI)).x) S.box.x0 S.box.x1 = clampI ((sTo S (ins.getD 0 dI)).x) S.box.x0 S.box.x1) with h25 | h25
          · let z77 : Nat × Value := (158, .bool (decide (clampI (z29.x) S.box.x0 S.box.x1 = clampI (z29.x) S.box.x0 S.box.x1)))
            let z78 : Nat × Value := (161, vI z31)
            refine TD.vals [] (by kernel_rfl) [12, 13, 14, 17, 19, 22, 15, 18, 20, 23, 16, 21, 24] [] [.gd true, .gd true, .gd true, .gd true, .gd true, .gd true, .own 0, .gd true, .gd true, .gd true, .own 2, .gd true, .own 7, .gd true, .own 7] [4, 158, 161, 163, 166, 169] [true, true, true, true, true, true, true, true, true, true, true, true, true, true, true, true, true, true, true, true, true, true, true, true, true, false, false, false, false, false, false, false] [z2, z77, z78, (163, vI (z29.y)), (166, vI S.box.y0), (169, vI S.box.y1)] [(n1 + 0), (n1 + 0), (n7 + 0), (n12 + 0)] [(decide (clampI ((sTo S (ins.getD 0 dI)).x) S.box.x0 S.box.x1 = clampI ((sTo S (ins.getD 0 dI)).x) S.box.x0 S.box.x1)) = true, (decide (clampI ((sTo S (ins.getD 0 dI)).x) S.box.x0 S.box.x1 = clampI ((sTo S (ins.getD 0 dI)).x) S.box.x0 S.box.x1)) = true, (decide (clampI ((sTo S (ins.getD 0 dI)).x) S.box.x0 S.box.x1 = clampI ((sTo S (ins.getD 0 dI)).x) S.box.x0 S.box.x1)) = true, (decide (clampI ((sTo S (ins.getD 0 dI)).x) S.box.x0 S.box.x1 = clampI ((sTo S (ins.getD 0 dI)).x) S.box.x0 S.box.x1)) = true, (decide (clampI ((sTo S (ins.getD 0 dI)).x) S.box.x0 S.box.x1 = clampI ((sTo S (ins.getD 0 dI)).x) S.box.x0 S.box.x1)) = true, (decide (clampI ((sTo S (ins.getD 0 dI)).x) S.box.x0 S.box.x1 = clampI ((sTo S (ins.getD 0 dI)).x) S.box.x0 S.box.x1)) = true, (decide (clampI ((sTo S (ins.getD 0 dI)).x) S.box.x0 S.box.x1 = clampI ((sTo S (ins.getD 0 dI)).x) S.box.x0 S.box.x1)) = true, (decide (clampI ((sTo S (ins.getD 0 dI)).x) S.box.x0 S.box.x1 = clampI ((sTo S (ins.getD 0 dI)).x) S.box.x0 S.box.x1)) = true, (decide (clampI ((sTo S (ins.getD 0 dI)).x) S.box.x0 S.box.x1 = clampI ((sTo S (ins.getD 0 dI)).x) S.box.x0 S.box.x1)) = true, (decide (clampI ((sTo S (ins.getD 0 dI)).x) S.box.x0 S.box.x1 = clampI ((sTo S (ins.getD 0 dI)).x) S.box.x0 S.box.x1)) = true, (decide (clampI ((sTo S (ins.getD 0 dI)).x) S.box.x0 S.box.x1 = clampI ((sTo S (ins.getD 0 dI)).x) S.box.x0 S.box.x1)) = true] (by kernel_rfl) (by kernel_rfl) mn (ac (decide_eq_true h25) (ac (decide_eq_true h25) (ac (decide_eq_true h25) (ac (decide_eq_true h25) (ac (decide_eq_true h25) (ac (decide_eq_true h25) (ac (decide_eq_true h25) (ac (decide_eq_true h25) (ac (decide_eq_true h25) (ac (decide_eq_true h25) (ac (decide_eq_true h25) an))))))))))) 7 rfl ?_
            refine TD.callv [] (by kernel_rfl) 25 [] [.gd true] (dst := (some 170)) (f := 25) (args := #[vI (z29.y), vI S.box.y0, vI S.box.y1]) (E := []) (Ob := [(decide (clampI ((sTo S (ins.getD 0 dI)).x) S.box.x0 S.box.x1 = clampI ((sTo S (ins.getD 0 dI)).x) S.box.x0 S.box.x1)) = true]) [4, 158, 161, 170] (vI z31) [z2, z77, z78, (170, vI z31)] (by kernel_rfl) (by kernel_rfl) (by kernel_rfl) mn (ac (decide_eq_true h25) an) (fun X_ => (clamp_any (z29.y) S.box.y0 S.box.y1  _)) (by kernel_rfl) 6 rfl ?_
            rcases Decidable.em (clampI ((sTo S (ins.getD 0 dI)).y) S.box.y0 S.box.y1 = clampI ((sTo S (ins.getD 0 dI)).y) S.box.y0 S.box.y1) with h26 | h26
            · let z79 : Nat × Value := (173, .bool (decide (clampI (z29.y) S.box.y0 S.box.y1 = clampI (z29.y) S.box.y0 S.box.y1)))
              refine TD.vals [] (by kernel_rfl) [26, 27, 28] [] [.gd true, .gd true] [4, 173] [true, true, true, true, true, true, true, true, true, true, true, true, true, true, true, true, true, true, true, true, true, true, true, true, true, true, true, true, true, false, false, false] [z2, z79] [] [(decide (clampI ((sTo S (ins.getD 0 dI)).x) S.box.x0 S.box.x1 = clampI ((sTo S (ins.getD 0 dI)).x) S.box.x0 S.box.x1)) = true, (decide (clampI ((sTo S (ins.getD 0 dI)).x) S.box.x0 S.box.x1 = clampI ((sTo S (ins.getD 0 dI)).x) S.box.x0 S.box.x1)) = true] (by kernel_rfl) (by kernel_rfl) mn (ac (decide_eq_true h25) (ac (decide_eq_true h25) an)) 3 rfl ?_
              refine TD.callv [] (by kernel_rfl) 29 [] [.gd true] (dst := (some 174)) (f := 16) (args := #[]) (E := []) (Ob := [(decide (clampI ((sTo S (ins.getD 0 dI)).y) S.box.y0 S.box.y1 = clampI ((sTo S (ins.getD 0 dI)).y) S.box.y0 S.box.y1)) = true]) [4, 173, 174] (.bool true) [z2, z79, (174, .bool true)] (by kernel_rfl) (by kernel_rfl) (by kernel_rfl) mn (ac (decide_eq_true h26) an) (fun X_ => (lives_any _)) (by kernel_rfl) 2 rfl ?_
              refine TD.vals [] (by kernel_rfl) [30, 31] [] [.gd true] [4] [true, true, true, true, true, true, true, true, true, true, true, true, true, true, true, true, true, true, true, true, true, true, true, true, true, true, true, true, true, true, true, true] [(4, .bool true)] [] [(decide (clampI ((sTo S (ins.getD 0 dI)).y) S.box.y0 S.box.y1 = clampI ((sTo S (ins.getD 0 dI)).y) S.box.y0 S.box.y1)) = true] (by kernel_rfl) (by kernel_rfl) mn (ac (decide_eq_true h26) an) 0 rfl ?_
              refine TD.fin (by kernel_rfl) (EX.np ?_)
              refine EX.next ?_
              refine TR.ret (A := [z58, z57, z32, z24, z13, z11, z9, z5, z3]) (Ts := [T4, TS]) (by exact fun _ _ h => h) rfl rfl [] [] (.bool true) [] [] (fun _ => by kernel_rfl) mn an [] [0, 1, 2, 3, 4, 5, 6, 7, 8] [] [0, 1] [] (by kernel_rfl) (by kernel_rfl) (by kernel_rfl) ?_
              exact ⟨rfl, rfl⟩
            · exact absurd rfl h26
          · exact absurd rfl h25
  · refine OPJ.ev [] [] [4, 5, 7, 8, 9, 11, 45, 46] (fun n27 => [z2, z4, z10, z14, (9, vI 11), (11, vP (n27 + 0) 0), z20, (46, vP mb 0)]) (fun n27 => (ap [((n27 + 0), .lit [vI 0, vI 0, vI 0, vI 0, vI 0] 38 (0, 0)), z13, z11, z9, z5, z3] [T4, TS])) (fun n27 => []) (fun n27 => []) (fun _ => by kernel_rfl) mn (fun n27 => an) (.inr ⟨by decide, fun n27 => ⟨[((n27 + 0), .lit [vI 0, vI 0, vI 0, vI 0, vI 0] 38 (0, 0))], rfl⟩⟩) (.inr fun n27 => ⟨[((n27 + 0), .lit [vI 0, vI 0, vI 0, vI 0, vI 0] 38 (0, 0))], rfl⟩) (fun n27 => ?_) hF_ hcl_
    refine TD.one 2 (by kernel_rfl) 2 rfl fun a_ hF_ hcl_ => ?_
    let z80 : Nat × Blk := ((n27 + 0), .lit [vI 0, vI 0, vI 0, vI 0, vI 0] 38 (0, 0))
    let z81 := runM z19 11 (sM0 S)
    let z82 := irow (z81).cs
    let z83 : Nat × Value := (11, vP (n27 + 0) 0)
    refine OPJ.callT (τ := Nat) [] [] (dst := (some 47)) (f := 10) (args := #[vP mb 0]) (A := [z80, z13, z11, z9, z5, z3]) (Ts := [T4, TS]) (E := []) (Ob := []) [] [0, 1, 2, 3, 4, 5] [] [0, 1] [4, 5, 7, 8, 9, 11, 45, 47] [] [z80, z13, z11, z9, z5, z3] [] [T4, TS] (fun q => [(q, .rows 1 ((z81).cs.length) z82 3 (0, 0))]) (fun _ => []) (fun v q => v = vS q 0 (z81).cs.length (z81).cs.length) (fun v_ => [z2, z4, z10, z14, (9, vI 11), z83, z20, (47, v_)]) (fun _ => by kernel_rfl) mn an (by kernel_rfl) (by kernel_rfl) (by kernel_rfl) (by kernel_rfl) (by kernel_rfl) (by kernel_rfl) (fun _ => by kernel_rfl) [] (.inr (by decide)) (.inr fun q => ⟨[(q, .rows 1 ((z81).cs.length) z82 3 (0, 0))], rfl⟩) (cells_ap mb z81 _ T4 _ hM5 (sub_ap 0 rfl)) ?_ hF_ hcl_
    rintro _ q28 rfl
    refine TD.callv [] (by kernel_rfl) 3 [] [] (dst := (some 48)) (f := 20) (args := #[.agg #[vI 1, vS S.bb (S.bo * 9) 1 S.bc, vI S.box.x0, vI S.box.y0, vI S.box.x1, vI S.box.y1, .slice S.rA S.rn S.rc, .slice S.dA S.dn S.dc, vI S.fog, vI S.g.x, vI S.g.y, vI S.push, vI S.drag, vI S.rest, vI S.rounds, vI S.fuel], vS q28 0 ((z81).cs.length) ((z81).cs.length), vI 0]) (E := []) (Ob := []) [4, 5, 7, 8, 9, 11, 48] (.agg #[vI m.px, vI m.py, vI m.vx, vI m.vy, vI m.inv]) [z2, z4, z10, z14, (9, vI 11), z83, (48, .agg #[vI m.px, vI m.py, vI m.vx, vI m.vy, vI m.inv])] (by kernel_rfl) (by kernel_rfl) (by kernel_rfl) mn an (fun X_ => (lmot_lit (sS S) q28 (z81).cs.length (z81).cs.length (z81).cs 0 m _ em (sS_in (hG.sin _ (in_apX 6 rfl) (sub_apX 1 rfl)) hnb1) (in_apX 0 rfl) (by show 0 < 1; decide) hlen1 (Nat.le_refl _) hlen2)) (by kernel_rfl) 1 rfl ?_
    refine TD.one 5 (by kernel_rfl) 0 rfl fun a_ hF_ hcl_ => ?_
    let z84 : Nat × Blk := (q28, .rows 1 ((z81).cs.length) z82 3 (0, 0))
    refine OPJ.ev [] [.own 1, .own 1, .own 1, .own 1, .own 1] [4, 5, 7, 8, 9, 11] (fun _ => [z2, z4, z10, z14, (9, vI 11), z83]) (fun _ => (ap [z84, ((n27 + 0), .lit [vI m.px, vI m.py, vI m.vx, vI m.vy, vI m.inv] 38 (0, 0)), z13, z11, z9, z5, z3] [T4, TS])) (fun _ => [(n27 + 0), (n27 + 0), (n27 + 0), (n27 + 0), (n27 + 0)]) (fun _ => []) (fun _ => by kernel_rfl) mn (fun _ => an) (.inl ⟨[], fun _ => by kernel_rfl⟩) (.inl (by decide)) (fun _ => ?_) hF_ hcl_
    refine TD.fin (by kernel_rfl) (EX.np ?_)
    refine EX.next ?_
    refine TR.seq ?_
    refine TR.seq ?_
    rcases hend with ⟨hi1, rfl⟩ | ⟨hi1, vx, vy, rfl, hvx, hvy⟩
    · refine TR.reg ?_
      let z85 : Nat × Blk := ((n27 + 0), .lit z12 38 (0, 0))
      refine TL.seg0 3 [] [.own 2] [4, 5, 7, 8, 9, 11, 51] [z2, z4, z10, z14, (9, vI 11), z83, (51, .bool (decide ((sMot S).inv = 0)))] (ap [z84, z85, z13, z11, z9, z5, z3] [T4, TS]) [(n3 + 0)] [] (fun _ => by kernel_rfl) mn an ?_
      refine TL.fin (by kernel_rfl) ?_
      refine EX.next ?_
      rcases Decidable.em ((sMot S).inv = 0) with h29 | h29
      · refine TR.yes (b := decide ((sMot S).inv = 0)) (by kernel_rfl) (by kernel_rfl) (decide_eq_true h29) ?_
        refine TR.seq ?_
        refine TR.reg ?_
        rcases Decidable.em ((((decide ((sMot S).px = (sMot S).px) && (decide ((sMot S).py = (sMot S).py) && true)) && ((decide ((sMot S).vx = (sMot S).vx) && (decide ((sMot S).vy = (sMot S).vy) && true)) && (decide ((sMot S).inv = (sMot S).inv) && true)))) = true) with h30 | h30
        · let z86 : Nat × Value := (55, .bool ((decide ((sMot S).px = (sMot S).px) && (decide ((sMot S).py = (sMot S).py) && true)) && ((decide ((sMot S).vx = (sMot S).vx) && (decide ((sMot S).vy = (sMot S).vy) && true)) && (decide ((sMot S).inv = (sMot S).inv) && true))))
          refine TL.seg0 6 [] [.own 1, .own 1, .own 1, .own 1, .own 1, .own 2, .own 2, .own 2, .own 2, .own 2, .sq, .gd true, .gd true, .own 5, .own 5, .own 5, .own 5, .own 5, .own 5, .own 5, .own 5, .own 5, .own 5, .own 5, .own 5, .own 5, .own 5, .own 5, .own 5] [4, 5, 7, 8, 11, 55, 56, 57] [z2, z4, z10, z14, z83, z86, (56, vI 11), (57, .agg #[vI 1, vS S.bb (S.bo * 9) 1 S.bc, vI S.box.x0, vI S.box.y0, vI S.box.x1, vI S.box.y1, .slice S.rA S.rn S.rc, .slice S.dA S.dn S.dc, vI S.fog, vI S.g.x, vI S.g.y, vI S.push, vI S.drag, vI S.rest, vI S.rounds, vI S.fuel])] (ap [z84, z85, z13, z11, z9, z5, z3] [T4, TS]) [(n1 + 0), (n1 + 0), (n1 + 0), (n1 + 0), (n1 + 0), (n1 + 0), (n1 + 0), (n1 + 0), (n1 + 0), (n1 + 0), (n1 + 0), (n1 + 0), (n1 + 0), (n1 + 0), (n1 + 0), (n1 + 0), (n3 + 0), (n3 + 0), (n3 + 0), (n3 + 0), (n3 + 0), (n27 + 0), (n27 + 0), (n27 + 0), (n27 + 0), (n27 + 0)] [((decide ((sMot S).px = (sMot S).px) && (decide ((sMot S).py = (sMot S).py) && true)) && ((decide ((sMot S).vx = (sMot S).vx) && (decide ((sMot S).vy = (sMot S).vy) && true)) && (decide ((sMot S).inv = (sMot S).inv) && true))) = true, ((decide ((sMot S).px = (sMot S).px) && (decide ((sMot S).py = (sMot S).py) && true)) && ((decide ((sMot S).vx = (sMot S).vx) && (decide ((sMot S).vy = (sMot S).vy) && true)) && (decide ((sMot S).inv = (sMot S).inv) && true))) = true] (fun _ => by kernel_rfl) mn (ac h30 (ac h30 an)) ?_
          refine TL.callp (dst := (some 58)) (f := 11) (args := #[.agg #[vI 1, vS S.bb (S.bo * 9) 1 S.bc, vI S.box.x0, vI S.box.y0, vI S.box.x1, vI S.box.y1, .slice S.rA S.rn S.rc, .slice S.dA S.dn S.dc, vI S.fog, vI S.g.x, vI S.g.y, vI S.push, vI S.drag, vI S.rest, vI S.rounds, vI S.fuel]]) (H1 := (ap [z84, z85, z13, z11, z9, z5, z3] [T4, TS])) (E := []) (Ob := [((decide ((sMot S).px = (sMot S).px) && (decide ((sMot S).py = (sMot S).py) && true)) && ((decide ((sMot S).vx = (sMot S).vx) && (decide ((sMot S).vy = (sMot S).vy) && true)) && (decide ((sMot S).inv = (sMot S).inv) && true))) = true]) [] [.gd true] [4, 5, 7, 8, 11, 55, 56, 58] (vI 197) [z2, z4, z10, z14, z83, z86, (56, vI 11), (58, vI 197)] (fun _ => by kernel_rfl) mn (ac h30 an) (lit_pi (bound1 hG.nums.2.2.2.2.2.2.2) (bound_any (sS S) _)) (by kernel_rfl) ?_
          let z87 : Nat × Value := (61, .bool true)
          refine TL.seg0 3 [] [.gd true, .gd true] [4, 5, 7, 8, 11, 61] [z2, z4, z10, z14, z83, z87] (ap [z84, z85, z13, z11, z9, z5, z3] [T4, TS]) [] [((decide ((sMot S).px = (sMot S).px) && (decide ((sMot S).py = (sMot S).py) && true)) && ((decide ((sMot S).vx = (sMot S).vx) && (decide ((sMot S).vy = (sMot S).vy) && true)) && (decide ((sMot S).inv = (sMot S).inv) && true))) = true, ((decide ((sMot S).px = (sMot S).px) && (decide ((sMot S).py = (sMot S).py) && true)) && ((decide ((sMot S).vx = (sMot S).vx) && (decide ((sMot S).vy = (sMot S).vy) && true)) && (decide ((sMot S).inv = (sMot S).inv) && true))) = true] (fun _ => by kernel_rfl) mn (ac h30 (ac h30 an)) ?_
          refine TL.callp (dst := (some 62)) (f := 16) (args := #[]) (H1 := (ap [z84, z85, z13, z11, z9, z5, z3] [T4, TS])) (E := []) (Ob := []) [] [] [4, 5, 7, 8, 11, 61, 62] (.bool true) [z2, z4, z10, z14, z83, z87, (62, .bool true)] (fun _ => by kernel_rfl) mn an (lives_any _) (by kernel_rfl) ?_
          refine TL.seg0 2 [] [] [4, 5, 7, 8, 11] [(4, .bool true), z4, z10, z14, z83] (ap [z84, z85, z13, z11, z9, z5, z3] [T4, TS]) [] [] (fun _ => by kernel_rfl) mn an ?_
          refine TL.fin (by kernel_rfl) ?_
          refine EX.next ?_
          refine TR.ret (A := [z84, z85, z13, z11, z9, z5, z3]) (Ts := [T4, TS]) (by exact fun _ _ h => h) rfl rfl [] [] (.bool true) [] [] (fun _ => by kernel_rfl) mn an [] [0, 1, 2, 3, 4, 5, 6] [] [0, 1] [] (by kernel_rfl) (by kernel_rfl) (by kernel_rfl) ?_
          exact ⟨rfl, rfl⟩
        · exact absurd (by first | (simp; done) | (rw [clamp_id (n := (sTo S (ins.getD 0 dI)).x) (by omega) (by omega), clamp_id (n := (sTo S (ins.getD 0 dI)).y) (by omega) (by omega)]; simp; done) | (rw [hvx (clamp_id (by omega) (by omega)), hvy (clamp_id (by omega) (by omega))]; simp)) h30
      · (exfalso; omega)
    · let z88 := sTo S (ins.getD 0 dI)
      let z89 := clampI (z88.x) S.box.x0 S.box.x1
      let z90 := clampI (z88.y) S.box.y0 S.box.y1
      let z91 : Nat × Blk := ((n27 + 0), .lit [vI z89, vI z90, vI vx, vI vy, vI ((sMot S).inv)] 38 (0, 0))
      refine TR.den [z84, z91, z13, z11, z9, z5, z3] (by kernel_rfl) ?_
      refine TR.reg ?_
      refine TL.seg0 3 [] [.own 2] [4, 5, 7, 8, 9, 11, 51] [z2, z4, z10, z14, (9, vI 11), z83, (51, .bool (decide ((sMot S).inv = 0)))] (ap [z84, z91, z13, z11, z9, z5, z3] [T4, TS]) [(n3 + 0)] [] (fun _ => by kernel_rfl) mn an ?_
      refine TL.fin (by kernel_rfl) ?_
      refine EX.next ?_
      rcases Decidable.em ((sMot S).inv = 0) with h31 | h31
      · (exfalso; omega)
      · refine TR.no (b := decide ((sMot S).inv = 0)) (by kernel_rfl) (by kernel_rfl) (decide_eq_false h31) ?_
        refine TR.skip ?_
        refine EX.next ?_
        refine TR.seq ?_
        refine TR.draw [22] [] rfl (by kernel_rfl) ?_
        let z92 := ((ins.getD 0 dI).dx) * S.push
        let z93 := IntKind.i64.wrap z92
        let z94 := ((ins.getD 0 dI).dy) * S.push
        let z95 := IntKind.i64.wrap z94
        let z96 : Nat × Value := (83, .agg #[vI z93, vI z95])
        refine TD.vals [] (by kernel_rfl) [0, 2, 5, 9, 12, 16, 1, 3, 6, 10, 13, 17, 7, 14, 8, 15, 11, 18, 19] [] [.own 2, .own 2, .own 5, .own 5, .own 5, .own 5, .row 3 0 0, .row 3 0 1] [4, 5, 8, 11, 65, 67, 83] [true, true, true, true, false, true, true, true, true, true, true, true, true, true, true, true, true, true, true, true, false, false, false] [z2, z4, z14, z83, (65, .agg #[vI ((sMot S).vx), vI ((sMot S).vy)]), (67, .agg #[vI S.g.x, vI S.g.y]), z96] [ib, ib, (n1 + 0), (n1 + 0), (n1 + 0), (n1 + 0), (n3 + 0), (n3 + 0)] [1 = 0 * 3 + 1 ∧ 0 < ci, 0 = 0 * 3 + 0 ∧ 0 < ci] (by kernel_rfl) (by kernel_rfl) mn (ac ⟨by omega, by omega⟩ (ac ⟨by omega, by omega⟩ an)) 4 rfl ?_
        let z97 := (⟨(sMot S).vx, (sMot S).vy⟩ : V2)
        let z98 := vadd z97 S.g
        refine TD.callv [] (by kernel_rfl) 4 [] [] (dst := (some 68)) (f := 23) (args := #[.agg #[vI ((sMot S).vx), vI ((sMot S).vy)], .agg #[vI S.g.x, vI S.g.y]]) (E := []) (Ob := []) [4, 5, 8, 11, 68, 83] (.agg #[vI (z98.x), vI (z98.y)]) [z2, z4, z14, z83, (68, .agg #[vI (z98.x), vI (z98.y)]), z96] (by kernel_rfl) (by kernel_rfl) (by kernel_rfl) mn an (fun X_ => (vadd_any z97 S.g  _)) (by kernel_rfl) 3 rfl ?_
        let z99 := (⟨IntKind.i64.wrap z92, IntKind.i64.wrap z94⟩ : V2)
        let z100 := vadd z98 z99
        let z101 : Nat × Value := (84, .agg #[vI (z100.x), vI (z100.y)])
        refine TD.callv [] (by kernel_rfl) 20 [] [] (dst := (some 84)) (f := 23) (args := #[.agg #[vI (z98.x), vI (z98.y)], .agg #[vI z93, vI z95]]) (E := []) (Ob := []) [4, 5, 8, 11, 84] (.agg #[vI (z100.x), vI (z100.y)]) [z2, z4, z14, z83, z101] (by kernel_rfl) (by kernel_rfl) (by kernel_rfl) mn an (fun X_ => (vadd_any z98 z99  _)) (by kernel_rfl) 2 rfl ?_
        refine TD.one 21 (by kernel_rfl) 1 rfl fun a_ hF_ hcl_ => ?_
        refine OPJ.ev [] [] [4, 5, 8, 11, 12, 84] (fun n32 => [z2, z4, z14, z83, (12, vP (n32 + 0) 0), z101]) (fun n32 => (ap [((n32 + 0), .lit [vI 0, vI 0] 30 (0, 0)), z84, z91, z13, z11, z9, z5, z3] [T4, TS])) (fun n32 => []) (fun n32 => []) (fun _ => by kernel_rfl) mn (fun n32 => an) (.inr ⟨by decide, fun n32 => ⟨[((n32 + 0), .lit [vI 0, vI 0] 30 (0, 0))], rfl⟩⟩) (.inr fun n32 => ⟨[((n32 + 0), .lit [vI 0, vI 0] 30 (0, 0))], rfl⟩) (fun n32 => ?_) hF_ hcl_
        refine TD.one 22 (by kernel_rfl) 0 rfl fun a_ hF_ hcl_ => ?_
        let z102 : Nat × Value := (12, vP (n32 + 0) 0)
        let z103 : Nat × Blk := ((n32 + 0), .lit [vI (z100.x), vI (z100.y)] 30 (0, 0))
        refine OPJ.ev [] [.own 0, .own 0] [4, 5, 8, 11, 12] (fun _ => [z2, z4, z14, z83, z102]) (fun _ => (ap [z103, z84, z91, z13, z11, z9, z5, z3] [T4, TS])) (fun _ => [(n32 + 0), (n32 + 0)]) (fun _ => []) (fun _ => by kernel_rfl) mn (fun _ => an) (.inl ⟨[], fun _ => by kernel_rfl⟩) (.inl (by decide)) (fun _ => ?_) hF_ hcl_
        refine TD.fin (by kernel_rfl) (EX.np ?_)
        refine EX.next ?_
        refine TR.seq ?_
        refine TR.reg ?_
        let z104 := IntKind.i64.wrap (1024 - S.drag)
        refine TL.seg0 4 [] [.own 0, .own 0, .own 6] [4, 5, 8, 11, 12, 85, 88] [z2, z4, z14, z83, z102, (85, .agg #[vI (z100.x), vI (z100.y)]), (88, vI z104)] (ap [z103, z84, z91, z13, z11, z9, z5, z3] [T4, TS]) [(n1 + 0), (n32 + 0), (n32 + 0)] [] (fun _ => by kernel_rfl) mn an ?_
        let z105 := vscale z100 z104
        refine TL.callp (dst := (some 89)) (f := 24) (args := #[.agg #[vI (z100.x), vI (z100.y)], vI z104]) (H1 := (ap [z103, z84, z91, z13, z11, z9, z5, z3] [T4, TS])) (E := []) (Ob := []) [] [] [4, 5, 8, 11, 12, 89] (.agg #[vI (z105.x), vI (z105.y)]) [z2, z4, z14, z83, z102, (89, .agg #[vI (z105.x), vI (z105.y)])] (fun _ => by kernel_rfl) mn an (vscale_any z100 z104  _) (by kernel_rfl) ?_
        refine TL.seg0 1 [] [.own 0, .own 0] [4, 5, 8, 11, 12] [z2, z4, z14, z83, z102] (ap [((n32 + 0), .lit [vI (z105.x), vI (z105.y)] 30 (0, 0)), z84, z91, z13, z11, z9, z5, z3] [T4, TS]) [(n32 + 0), (n32 + 0)] [] (fun _ => by kernel_rfl) mn an ?_
        refine TL.fin (by kernel_rfl) ?_
        refine EX.next ?_
        refine TR.seq ?_
        refine TR.draw [7] [] rfl (by kernel_rfl) ?_
        let z106 : Nat × Value := (94, vI (z105.y))
        refine TD.vals [] (by kernel_rfl) [0, 3, 1, 4] [] [.own 0, .own 0] [4, 5, 8, 11, 12, 91, 94] [true, true, false, true, true, false, false, false] [z2, z4, z14, z83, z102, (91, vI (z105.x)), z106] [(n32 + 0), (n32 + 0)] [] (by kernel_rfl) (by kernel_rfl) mn an 4 rfl ?_
        let z107 := clampI (z105.x) (-16384) 16384
        let z108 : Nat × Value := (92, vI z107)
        refine TD.callv [] (by kernel_rfl) 2 [] [] (dst := (some 92)) (f := 25) (args := #[vI (z105.x), vI (-16384), vI 16384]) (E := []) (Ob := []) [4, 5, 8, 11, 12, 92, 94] (vI z107) [z2, z4, z14, z83, z102, z108, z106] (by kernel_rfl) (by kernel_rfl) (by kernel_rfl) mn an (fun X_ => (clamp_any (z105.x) (-16384) 16384  _)) (by kernel_rfl) 3 rfl ?_
        let z109 := clampI (z105.y) (-16384) 16384
        refine TD.callv [] (by kernel_rfl) 5 [] [] (dst := (some 95)) (f := 25) (args := #[vI (z105.y), vI (-16384), vI 16384]) (E := []) (Ob := []) [4, 5, 8, 11, 12, 92, 95] (vI z109) [z2, z4, z14, z83, z102, z108, (95, vI z109)] (by kernel_rfl) (by kernel_rfl) (by kernel_rfl) mn an (fun X_ => (clamp_any (z105.y) (-16384) 16384  _)) (by kernel_rfl) 2 rfl ?_
        refine TD.vals [] (by kernel_rfl) [6] [] [] [4, 5, 8, 11, 12, 96] [true, true, true, true, true, true, true, false] [z2, z4, z14, z83, z102, (96, .agg #[vI z107, vI z109])] [] [] (by kernel_rfl) (by kernel_rfl) mn an 1 rfl ?_
        refine TD.one 7 (by kernel_rfl) 0 rfl fun a_ hF_ hcl_ => ?_
        let z110 : Nat × Blk := ((n32 + 0), .lit [vI z107, vI z109] 30 (0, 0))
        refine OPJ.ev [] [.own 0, .own 0] [4, 5, 8, 11, 12] (fun _ => [z2, z4, z14, z83, z102]) (fun _ => (ap [z110, z84, z91, z13, z11, z9, z5, z3] [T4, TS])) (fun _ => [(n32 + 0), (n32 + 0)]) (fun _ => []) (fun _ => by kernel_rfl) mn (fun _ => an) (.inl ⟨[], fun _ => by kernel_rfl⟩) (.inl (by decide)) (fun _ => ?_) hF_ hcl_
        refine TD.fin (by kernel_rfl) (EX.np ?_)
        refine EX.next ?_
        refine TR.seq ?_
        refine TR.reg ?_
        refine TL.seg0 3 [] [.own 3, .own 3, .own 0, .own 0] [4, 5, 11, 12, 98, 99] [z2, z4, z83, z102, (98, .agg #[vI ((sMot S).px), vI ((sMot S).py)]), (99, .agg #[vI z107, vI z109])] (ap [z110, z84, z91, z13, z11, z9, z5, z3] [T4, TS]) [(n32 + 0), (n32 + 0), (n3 + 0), (n3 + 0)] [] (fun _ => by kernel_rfl) mn an ?_
        let z111 := (⟨(sMot S).px, (sMot S).py⟩ : V2)
        let z112 := (⟨clampI (z105.x) (-16384) 16384, clampI (z105.y) (-16384) 16384⟩ : V2)
        let z113 := vadd z111 z112
        refine TL.callp (dst := (some 100)) (f := 23) (args := #[.agg #[vI ((sMot S).px), vI ((sMot S).py)], .agg #[vI z107, vI z109]]) (H1 := (ap [z110, z84, z91, z13, z11, z9, z5, z3] [T4, TS])) (E := []) (Ob := []) [] [] [4, 5, 11, 12, 100] (.agg #[vI (z113.x), vI (z113.y)]) [z2, z4, z83, z102, (100, .agg #[vI (z113.x), vI (z113.y)])] (fun _ => by kernel_rfl) mn an (vadd_any z111 z112  _) (by kernel_rfl) ?_
        let z114 : List Value := [vI (z113.x), vI (z113.y)]
        refine TL.seg 2 [] [.own 0, .own 0] [4, 5, 11, 12, 13] (fun n33 => [z2, z4, z83, z102, (13, vP (n33 + 0) 0)]) (fun n33 => (ap [((n33 + 0), .lit z114 30 (0, 0)), z110, z84, z91, z13, z11, z9, z5, z3] [T4, TS])) (fun n33 => [(n33 + 0), (n33 + 0)]) (fun n33 => []) (fun _ => by kernel_rfl) mn (fun n33 => an) ?_
        intro n33
        refine TL.fin (by kernel_rfl) ?_
        refine EX.next ?_
        refine TR.seq ?_
        let z115 := sC S (ins.getD 0 dI)
        let z116 : Nat × Blk := ((n32 + 0), .lit [vI (z115.x), vI (z115.y)] 30 (0, 0))
        refine TR.den [((n33 + 0), .lit z114 30 (0, 0)), z116, z84, z91, z13, z11, z9, z5, z3] (by kernel_rfl) ?_
        let z117 : Nat × Blk := ((n33 + 0), .lit [vI (z88.x), vI (z88.y)] 30 (0, 0))
        refine TR.den [z117, z116, z84, z91, z13, z11, z9, z5, z3] (by kernel_rfl) ?_
        refine TR.reg ?_
        rcases Decidable.em ((sTo S (ins.getD 0 dI)).x ≥ S.box.x0) with h34 | h34
        · rcases Decidable.em ((sTo S (ins.getD 0 dI)).x ≤ S.box.x1) with h35 | h35
          · rcases Decidable.em ((sTo S (ins.getD 0 dI)).y ≥ S.box.y0) with h36 | h36
            · let z118 : Nat × Value := (13, vP (n33 + 0) 0)
              refine TL.seg0 31 [] [.own 0, .own 7, .gd true, .gd true, .own 0, .gd true, .gd true, .gd true, .own 7, .gd true, .gd true, .gd true, .gd true, .own 0, .gd true, .gd true, .gd true, .own 7, .gd true, .gd true, .gd true, .gd true, .own 0, .gd true, .gd true, .gd true, .own 7, .gd true, .gd true] [4, 5, 11, 12, 13, 14] [z2, z4, z83, z102, z118, (14, .bool (decide (z88.y ≤ S.box.y1)))] (ap [z117, z116, z84, z91, z13, z11, z9, z5, z3] [T4, TS]) [(n1 + 0), (n33 + 0), (n1 + 0), (n33 + 0), (n1 + 0), (n33 + 0), (n1 + 0), (n33 + 0)] [(decide ((sTo S (ins.getD 0 dI)).y ≥ S.box.y0)) = true, (decide ((sTo S (ins.getD 0 dI)).y ≥ S.box.y0)) = true, (decide ((sTo S (ins.getD 0 dI)).y ≥ S.box.y0)) = true, (decide ((sTo S (ins.getD 0 dI)).y ≥ S.box.y0)) = true, (decide ((sTo S (ins.getD 0 dI)).y ≥ S.box.y0)) = true, (decide ((sTo S (ins.getD 0 dI)).y ≥ S.box.y0)) = true, (decide ((sTo S (ins.getD 0 dI)).y ≥ S.box.y0)) = true, (decide ((sTo S (ins.getD 0 dI)).x ≤ S.box.x1)) = true, (decide ((sTo S (ins.getD 0 dI)).x ≤ S.box.x1)) = true, (decide ((sTo S (ins.getD 0 dI)).x ≤ S.box.x1)) = true, (decide ((sTo S (ins.getD 0 dI)).x ≤ S.box.x1)) = true, (decide ((sTo S (ins.getD 0 dI)).x ≤ S.box.x1)) = true, (decide ((sTo S (ins.getD 0 dI)).x ≤ S.box.x1)) = true, (decide ((sTo S (ins.getD 0 dI)).x ≤ S.box.x1)) = true, (decide ((sTo S (ins.getD 0 dI)).x ≥ S.box.x0)) = true, (decide ((sTo S (ins.getD 0 dI)).x ≥ S.box.x0)) = true, (decide ((sTo S (ins.getD 0 dI)).x ≥ S.box.x0)) = true, (decide ((sTo S (ins.getD 0 dI)).x ≥ S.box.x0)) = true, (decide ((sTo S (ins.getD 0 dI)).x ≥ S.box.x0)) = true, (decide ((sTo S (ins.getD 0 dI)).x ≥ S.box.x0)) = true, (decide ((sTo S (ins.getD 0 dI)).x ≥ S.box.x0)) = true] (fun _ => by kernel_rfl) mn (ac (decide_eq_true h36) (ac (decide_eq_true h36) (ac (decide_eq_true h36) (ac (decide_eq_true h36) (ac (decide_eq_true h36) (ac (decide_eq_true h36) (ac (decide_eq_true h36) (ac (decide_eq_true h35) (ac (decide_eq_true h35) (ac (decide_eq_true h35) (ac (decide_eq_true h35) (ac (decide_eq_true h35) (ac (decide_eq_true h35) (ac (decide_eq_true h35) (ac (decide_eq_true h34) (ac (decide_eq_true h34) (ac (decide_eq_true h34) (ac (decide_eq_true h34) (ac (decide_eq_true h34) (ac (decide_eq_true h34) (ac (decide_eq_true h34) an))))))))))))))))))))) ?_
              refine TL.fin (by kernel_rfl) ?_
              refine EX.next ?_
              refine TR.seq ?_
              refine TR.seq ?_
              refine TR.reg ?_
              refine TL.seg0 1 [] [] [4, 5, 11, 12, 13, 131] [z2, z4, z83, z102, z118, (131, .bool (decide (z88.y ≤ S.box.y1)))] (ap [z117, z116, z84, z91, z13, z11, z9, z5, z3] [T4, TS]) [] [] (fun _ => by kernel_rfl) mn an ?_
              refine TL.fin (by kernel_rfl) ?_
              refine EX.next ?_
              rcases Decidable.em ((sTo S (ins.getD 0 dI)).y ≤ S.box.y1) with h37 | h37
              · refine TR.yes (b := decide (z88.y ≤ S.box.y1)) (by kernel_rfl) (by kernel_rfl) (decide_eq_true h37) ?_
                refine TR.seq ?_
                refine TR.reg ?_
                rcases Decidable.em (((decide (clampI ((sTo S (ins.getD 0 dI)).x) S.box.x0 S.box.x1 = (sTo S (ins.getD 0 dI)).x) && (decide (clampI ((sTo S (ins.getD 0 dI)).y) S.box.y0 S.box.y1 = (sTo S (ins.getD 0 dI)).y) && true))) = true) with h38 | h38
                · rcases Decidable.em (((decide (vx = (sC S (ins.getD 0 dI)).x) && (decide (vy = (sC S (ins.getD 0 dI)).y) && true))) = true) with h39 | h39
                  · let z119 : Nat × Value := (142, .bool (decide (vx = z115.x) && (decide (vy = z115.y) && true)))
                    refine TL.seg0 11 [] [.own 3, .own 3, .own 0, .own 0, .sq, .gd true, .gd true, .own 3, .own 3, .gd true, .own 1, .own 1, .gd true, .sq, .gd true] [4, 5, 11, 13, 142] [z2, z4, z83, z118, z119] (ap [z117, z116, z84, z91, z13, z11, z9, z5, z3] [T4, TS]) [(n32 + 0), (n32 + 0), (n27 + 0), (n27 + 0), (n33 + 0), (n33 + 0), (n27 + 0), (n27 + 0)] [(decide (clampI ((sTo S (ins.getD 0 dI)).x) S.box.x0 S.box.x1 = (sTo S (ins.getD 0 dI)).x) && (decide (clampI ((sTo S (ins.getD 0 dI)).y) S.box.y0 S.box.y1 = (sTo S (ins.getD 0 dI)).y) && true)) = true, (decide (clampI ((sTo S (ins.getD 0 dI)).x) S.box.x0 S.box.x1 = (sTo S (ins.getD 0 dI)).x) && (decide (clampI ((sTo S (ins.getD 0 dI)).y) S.box.y0 S.box.y1 = (sTo S (ins.getD 0 dI)).y) && true)) = true, (decide (clampI ((sTo S (ins.getD 0 dI)).x) S.box.x0 S.box.x1 = (sTo S (ins.getD 0 dI)).x) && (decide (clampI ((sTo S (ins.getD 0 dI)).y) S.box.y0 S.box.y1 = (sTo S (ins.getD 0 dI)).y) && true)) = true, (decide (clampI ((sTo S (ins.getD 0 dI)).x) S.box.x0 S.box.x1 = (sTo S (ins.getD 0 dI)).x) && (decide (clampI ((sTo S (ins.getD 0 dI)).y) S.box.y0 S.box.y1 = (sTo S (ins.getD 0 dI)).y) && true)) = true, (decide (clampI ((sTo S (ins.getD 0 dI)).x) S.box.x0 S.box.x1 = (sTo S (ins.getD 0 dI)).x) && (decide (clampI ((sTo S (ins.getD 0 dI)).y) S.box.y0 S.box.y1 = (sTo S (ins.getD 0 dI)).y) && true)) = true] (fun _ => by kernel_rfl) mn (ac h38 (ac h38 (ac h38 (ac h38 (ac h38 an))))) ?_
                    refine TL.callp (dst := (some 143)) (f := 16) (args := #[]) (H1 := (ap [z117, z116, z84, z91, z13, z11, z9, z5, z3] [T4, TS])) (E := []) (Ob := [(decide (vx = (sC S (ins.getD 0 dI)).x) && (decide (vy = (sC S (ins.getD 0 dI)).y) && true)) = true]) [] [.gd true] [4, 5, 11, 13, 142, 143] (.bool true) [z2, z4, z83, z118, z119, (143, .bool true)] (fun _ => by kernel_rfl) mn (ac h39 an) (lives_any _) (by kernel_rfl) ?_
                    refine TL.seg0 2 [] [.gd true] [4, 5, 11, 13] [(4, .bool true), z4, z83, z118] (ap [z117, z116, z84, z91, z13, z11, z9, z5, z3] [T4, TS]) [] [(decide (vx = (sC S (ins.getD 0 dI)).x) && (decide (vy = (sC S (ins.getD 0 dI)).y) && true)) = true] (fun _ => by kernel_rfl) mn (ac h39 an) ?_
                    refine TL.fin (by kernel_rfl) ?_
                    refine EX.next ?_
                    refine TR.ret (A := [z117, z116, z84, z91, z13, z11, z9, z5, z3]) (Ts := [T4, TS]) (by exact fun _ _ h => h) rfl rfl [] [] (.bool true) [] [] (fun _ => by kernel_rfl) mn an [] [0, 1, 2, 3, 4, 5, 6, 7, 8] [] [0, 1] [] (by kernel_rfl) (by kernel_rfl) (by kernel_rfl) ?_
                    exact ⟨rfl, rfl⟩
                  · exact absurd (by first | (simp; done) | (rw [clamp_id (n := (sTo S (ins.getD 0 dI)).x) (by omega) (by omega), clamp_id (n := (sTo S (ins.getD 0 dI)).y) (by omega) (by omega)]; simp; done) | (rw [hvx (clamp_id (by omega) (by omega)), hvy (clamp_id (by omega) (by omega))]; simp)) h39
                · exact absurd (by first | (simp; done) | (rw [clamp_id (n := (sTo S (ins.getD 0 dI)).x) (by omega) (by omega), clamp_id (n := (sTo S (ins.getD 0 dI)).y) (by omega) (by omega)]; simp; done) | (rw [hvx (clamp_id (by omega) (by omega)), hvy (clamp_id (by omega) (by omega))]; simp)) h38
              · refine TR.no (b := decide (z88.y ≤ S.box.y1)) (by kernel_rfl) (by kernel_rfl) (decide_eq_false h37) ?_
                refine TR.skip ?_
                refine EX.next ?_
                refine TR.seq ?_
                refine TR.draw [] [] rfl (by kernel_rfl) ?_
                let z120 : Nat × Value := (147, vI z89)
                refine TD.vals [] (by kernel_rfl) [0, 3, 5, 8, 1, 4, 6, 9, 2, 7, 10] [] [.own 0, .own 3, .own 7, .own 7] [4, 5, 11, 13, 147, 149, 152, 155] [true, true, true, true, true, true, true, true, true, true, true, false, false, false, false, false, false, false, false, false, false, false, false, false, false, false, false, false, false, false, false, false] [z2, z4, z83, z118, z120, (149, vI (z88.x)), (152, vI S.box.x0), (155, vI S.box.x1)] [(n1 + 0), (n1 + 0), (n27 + 0), (n33 + 0)] [] (by kernel_rfl) (by kernel_rfl) mn an 21 rfl ?_
                refine TD.callv [] (by kernel_rfl) 11 [] [] (dst := (some 156)) (f := 25) (args := #[vI (z88.x), vI S.box.x0, vI S.box.x1]) (E := []) (Ob := []) [4, 5, 11, 13, 147, 156] (vI z89) [z2, z4, z83, z118, z120, (156, vI z89)] (by kernel_rfl) (by kernel_rfl) (by kernel_rfl) mn an (fun X_ => (clamp_any (z88.x) S.box.x0 S.box.x1  _)) (by kernel_rfl) 20 rfl ?_
                rcases Decidable.em (clampI ((sTo S (ins.getD 0 dI)).x) S.box.x0 S.box.x1 = clampI ((sTo S (ins.getD 0 dI)).x) S.box.x0 S.box.x1) with h40 | h40
                · let z121 : Nat × Value := (158, .bool (decide (clampI (z88.x) S.box.x0 S.box.x1 = clampI (z88.x) S.box.x0 S.box.x1)))
                  let z122 : Nat × Value := (161, vI z90)
                  refine TD.vals [] (by kernel_rfl) [12, 13, 14, 17, 19, 22, 15, 18, 20, 23, 16, 21, 24] [] [.gd true, .gd true, .gd true, .gd true, .gd true, .gd true, .own 0, .gd true, .gd true, .gd true, .own 3, .gd true, .own 7, .gd true, .own 7] [4, 158, 161, 163, 166, 169] [true, true, true, true, true, true, true, true, true, true, true, true, true, true, true, true, true, true, true, true, true, true, true, true, true, false, false, false, false, false, false, false] [z2, z121, z122, (163, vI (z88.y)), (166, vI S.box.y0), (169, vI S.box.y1)] [(n1 + 0), (n1 + 0), (n27 + 0), (n33 + 0)] [(decide (clampI ((sTo S (ins.getD 0 dI)).x) S.box.x0 S.box.x1 = clampI ((sTo S (ins.getD 0 dI)).x) S.box.x0 S.box.x1)) = true, (decide (clampI ((sTo S (ins.getD 0 dI)).x) S.box.x0 S.box.x1 = clampI ((sTo S (ins.getD 0 dI)).x) S.box.x0 S.box.x1)) = true, (decide (clampI ((sTo S (ins.getD 0 dI)).x) S.box.x0 S.box.x1 = clampI ((sTo S (ins.getD 0 dI)).x) S.box.x0 S.box.x1)) = true, (decide (clampI ((sTo S (ins.getD 0 dI)).x) S.box.x0 S.box.x1 = clampI ((sTo S (ins.getD 0 dI)).x) S.box.x0 S.box.x1)) = true, (decide (clampI ((sTo S (ins.getD 0 dI)).x) S.box.x0 S.box.x1 = clampI ((sTo S (ins.getD 0 dI)).x) S.box.x0 S.box.x1)) = true, (decide (clampI ((sTo S (ins.getD 0 dI)).x) S.box.x0 S.box.x1 = clampI ((sTo S (ins.getD 0 dI)).x) S.box.x0 S.box.x1)) = true, (decide (clampI ((sTo S (ins.getD 0 dI)).x) S.box.x0 S.box.x1 = clampI ((sTo S (ins.getD 0 dI)).x) S.box.x0 S.box.x1)) = true, (decide (clampI ((sTo S (ins.getD 0 dI)).x) S.box.x0 S.box.x1 = clampI ((sTo S (ins.getD 0 dI)).x) S.box.x0 S.box.x1)) = true, (decide (clampI ((sTo S (ins.getD 0 dI)).x) S.box.x0 S.box.x1 = clampI ((sTo S (ins.getD 0 dI)).x) S.box.x0 S.box.x1)) = true, (decide (clampI ((sTo S (ins.getD 0 dI)).x) S.box.x0 S.box.x1 = clampI ((sTo S (ins.getD 0 dI)).x) S.box.x0 S.box.x1)) = true, (decide (clampI ((sTo S (ins.getD 0 dI)).x) S.box.x0 S.box.x1 = clampI ((sTo S (ins.getD 0 dI)).x) S.box.x0 S.box.x1)) = true] (by kernel_rfl) (by kernel_rfl) mn (ac (decide_eq_true h40) (ac (decide_eq_true h40) (ac (decide_eq_true h40) (ac (decide_eq_true h40) (ac (decide_eq_true h40) (ac (decide_eq_true h40) (ac (decide_eq_true h40) (ac (decide_eq_true h40) (ac (decide_eq_true h40) (ac (decide_eq_true h40) (ac (decide_eq_true h40) an))))))))))) 7 rfl ?_
                  refine TD.callv [] (by kernel_rfl) 25 [] [.gd true] (dst := (some 170)) (f := 25) (args := #[vI (z88.y), vI S.box.y0, vI S.box.y1]) (E := []) (Ob := [(decide (clampI ((sTo S (ins.getD 0 dI)).x) S.box.x0 S.box.x1 = clampI ((sTo S (ins.getD 0 dI)).x) S.box.x0 S.box.x1)) = true]) [4, 158, 161, 170] (vI z90) [z2, z121, z122, (170, vI z90)] (by kernel_rfl) (by kernel_rfl) (by kernel_rfl) mn (ac (decide_eq_true h40) an) (fun X_ => (clamp_any (z88.y) S.box.y0 S.box.y1  _)) (by kernel_rfl) 6 rfl ?_
                  rcases Decidable.em (clampI ((sTo S (ins.getD 0 dI)).y) S.box.y0 S.box.y1 = clampI ((sTo S (ins.getD 0 dI)).y) S.box.y0 S.box.y1) with h41 | h41
                  · let z123 : Nat × Value := (173, .bool (decide (clampI (z88.y) S.box.y0 S.box.y1 = clampI (z88.y) S.box.y0 S.box.y1)))
                    refine TD.vals [] (by kernel_rfl) [26, 27, 28] [] [.gd true, .gd true] [4, 173] [true, true, true, true, true, true, true, true, true, true, true, true, true, true, true, true, true, true, true, true, true, true, true, true, true, true, true, true, true, false, false, false] [z2, z123] [] [(decide (clampI ((sTo S (ins.getD 0 dI)).x) S.box.x0 S.box.x1 = clampI ((sTo S (ins.getD 0 dI)).x) S.box.x0 S.box.x1)) = true, (decide (clampI ((sTo S (ins.getD 0 dI)).x) S.box.x0 S.box.x1 = clampI ((sTo S (ins.getD 0 dI)).x) S.box.x0 S.box.x1)) = true] (by kernel_rfl) (by kernel_rfl) mn (ac (decide_eq_true h40) (ac (decide_eq_true h40) an)) 3 rfl ?_
                    refine TD.callv [] (by kernel_rfl) 29 [] [.gd true] (dst := (some 174)) (f := 16) (args := #[]) (E := []) (Ob := [(decide (clampI ((sTo S (ins.getD 0 dI)).y) S.box.y0 S.box.y1 = clampI ((sTo S (ins.getD 0 dI)).y) S.box.y0 S.box.y1)) = true]) [4, 173, 174] (.bool true) [z2, z123, (174, .bool true)] (by kernel_rfl) (by kernel_rfl) (by kernel_rfl) mn (ac (decide_eq_true h41) an) (fun X_ => (lives_any _)) (by kernel_rfl) 2 rfl ?_
                    refine TD.vals [] (by kernel_rfl) [30, 31] [] [.gd true] [4] [true, true, true, true, true, true, true, true, true, true, true, true, true, true, true, true, true, true, true, true, true, true, true, true, true, true, true, true, true, true, true, true] [(4, .bool true)] [] [(decide (clampI ((sTo S (ins.getD 0 dI)).y) S.box.y0 S.box.y1 = clampI ((sTo S (ins.getD 0 dI)).y) S.box.y0 S.box.y1)) = true] (by kernel_rfl) (by kernel_rfl) mn (ac (decide_eq_true h41) an) 0 rfl ?_
                    refine TD.fin (by kernel_rfl) (EX.np ?_)
                    refine EX.next ?_
                    refine TR.ret (A := [z117, z116, z84, z91, z13, z11, z9, z5, z3]) (Ts := [T4, TS]) (by exact fun _ _ h => h) rfl rfl [] [] (.bool true) [] [] (fun _ => by kernel_rfl) mn an [] [0, 1, 2, 3, 4, 5, 6, 7, 8] [] [0, 1] [] (by kernel_rfl) (by kernel_rfl) (by kernel_rfl) ?_
                    exact ⟨rfl, rfl⟩
                  · exact absurd rfl h41
                · exact absurd rfl h40
            · let z124 : Nat × Value := (13, vP (n33 + 0) 0)
              refine TL.seg0 31 [] [.own 0, .own 7, .gd true, .gd true, .own 0, .gd true, .gd true, .gd true, .own 7, .gd true, .gd true, .gd true, .gd true, .own 0, .gd true, .gd true, .gd true, .own 7, .gd true, .gd true, .gd false, .gd false, .gd false, .gd false, .gd false, .gd false, .gd false] [4, 5, 11, 12, 13, 14] [z2, z4, z83, z102, z124, (14, .bool false)] (ap [z117, z116, z84, z91, z13, z11, z9, z5, z3] [T4, TS]) [(n1 + 0), (n33 + 0), (n1 + 0), (n33 + 0), (n1 + 0), (n33 + 0)] [(decide ((sTo S (ins.getD 0 dI)).y ≥ S.box.y0)) = false, (decide ((sTo S (ins.getD 0 dI)).y ≥ S.box.y0)) = false, (decide ((sTo S (ins.getD 0 dI)).y ≥ S.box.y0)) = false, (decide ((sTo S (ins.getD 0 dI)).y ≥ S.box.y0)) = false, (decide ((sTo S (ins.getD 0 dI)).y ≥ S.box.y0)) = false, (decide ((sTo S (ins.getD 0 dI)).y ≥ S.box.y0)) = false, (decide ((sTo S (ins.getD 0 dI)).y ≥ S.box.y0)) = false, (decide ((sTo S (ins.getD 0 dI)).x ≤ S.box.x1)) = true, (decide ((sTo S (ins.getD 0 dI)).x ≤ S.box.x1)) = true, (decide ((sTo S (ins.getD 0 dI)).x ≤ S.box.x1)) = true, (decide ((sTo S (ins.getD 0 dI)).x ≤ S.box.x1)) = true, (decide ((sTo S (ins.getD 0 dI)).x ≤ S.box.x1)) = true, (decide ((sTo S (ins.getD 0 dI)).x ≤ S.box.x1)) = true, (decide ((sTo S (ins.getD 0 dI)).x ≤ S.box.x1)) = true, (decide ((sTo S (ins.getD 0 dI)).x ≥ S.box.x0)) = true, (decide ((sTo S (ins.getD 0 dI)).x ≥ S.box.x0)) = true, (decide ((sTo S (ins.getD 0 dI)).x ≥ S.box.x0)) = true, (decide ((sTo S (ins.getD 0 dI)).x ≥ S.box.x0)) = true, (decide ((sTo S (ins.getD 0 dI)).x ≥ S.box.x0)) = true, (decide ((sTo S (ins.getD 0 dI)).x ≥ S.box.x0)) = true, (decide ((sTo S (ins.getD 0 dI)).x ≥ S.box.x0)) = true] (fun _ => by kernel_rfl) mn (ac (decide_eq_false h36) (ac (decide_eq_false h36) (ac (decide_eq_false h36) (ac (decide_eq_false h36) (ac (decide_eq_false h36) (ac (decide_eq_false h36) (ac (decide_eq_false h36) (ac (decide_eq_true h35) (ac (decide_eq_true h35) (ac (decide_eq_true h35) (ac (decide_eq_true h35) (ac (decide_eq_true h35) (ac (decide_eq_true h35) (ac (decide_eq_true h35) (ac (decide_eq_true h34) (ac (decide_eq_true h34) (ac (decide_eq_true h34) (ac (decide_eq_true h34) (ac (decide_eq_true h34) (ac (decide_eq_true h34) (ac (decide_eq_true h34) an))))))))))))))))))))) ?_
              refine TL.fin (by kernel_rfl) ?_
              refine EX.next ?_
              refine TR.seq ?_
              refine TR.seq ?_
              refine TR.reg ?_
              refine TL.seg0 1 [] [] [4, 5, 11, 12, 13, 131] [z2, z4, z83, z102, z124, (131, .bool false)] (ap [z117, z116, z84, z91, z13, z11, z9, z5, z3] [T4, TS]) [] [] (fun _ => by kernel_rfl) mn an ?_
              refine TL.fin (by kernel_rfl) ?_
              refine EX.next ?_
              refine TR.no (by kernel_rfl) (by kernel_rfl) (rfl : false = false) ?_
              refine TR.skip ?_
              refine EX.next ?_
              refine TR.seq ?_
              refine TR.draw [] [] rfl (by kernel_rfl) ?_
              let z125 : Nat × Value := (147, vI z89)
              refine TD.vals [] (by kernel_rfl) [0, 3, 5, 8, 1, 4, 6, 9, 2, 7, 10] [] [.own 0, .own 3, .own 7, .own 7] [4, 5, 11, 13, 147, 149, 152, 155] [true, true, true, true, true, true, true, true, true, true, true, false, false, false, false, false, false, false, false, false, false, false, false, false, false, false, false, false, false, false, false, false] [z2, z4, z83, z124, z125, (149, vI (z88.x)), (152, vI S.box.x0), (155, vI S.box.x1)] [(n1 + 0), (n1 + 0), (n27 + 0), (n33 + 0)] [] (by kernel_rfl) (by kernel_rfl) mn an 21 rfl ?_
              refine TD.callv [] (by kernel_rfl) 11 [] [] (dst := (some 156)) (f := 25) (args := #[vI (z88.x), vI S.box.x0, vI S.box.x1]) (E := []) (Ob := []) [4, 5, 11, 13, 147, 156] (vI z89) [z2, z4, z83, z124, z125, (156, vI z89)] (by kernel_rfl) (by kernel_rfl) (by kernel_rfl) mn an (fun X_ => (clamp_any (z88.x) S.box.x0 S.box.x1  _)) (by kernel_rfl) 20 rfl ?_
              rcases Decidable.em (clampI ((sTo S (ins.getD 0 dI)).x) S.box.x0 S.box.x1 = clampI ((sTo S (ins.getD 0 dI)).x) S.box.x0 S.box.x1) with h42 | h42
              · let z126 : Nat × Value := (158, .bool (decide (clampI (z88.x) S.box.x0 S.box.x1 = clampI (z88.x) S.box.x0 S.box.x1)))
                let z127 : Nat × Value := (161, vI z90)
                refine TD.vals [] (by kernel_rfl) [12, 13, 14, 17, 19, 22, 15, 18, 20, 23, 16, 21, 24] [] [.gd true, .gd true, .gd true, .gd true, .gd true, .gd true, .own 0, .gd true, .gd true, .gd true, .own 3, .gd true, .own 7, .gd true, .own 7] [4, 158, 161, 163, 166, 169] [true, true, true, true, true, true, true, true, true, true, true, true, true, true, true, true, true, true, true, true, true, true, true, true, true, false, false, false, false, false, false, false] [z2, z126, z127, (163, vI (z88.y)), (166, vI S.box.y0), (169, vI S.box.y1)] [(n1 + 0), (n1 + 0), (n27 + 0), (n33 + 0)] [(decide (clampI ((sTo S (ins.getD 0 dI)).x) S.box.x0 S.box.x1 = clampI ((sTo S (ins.getD 0 dI)).x) S.box.x0 S.box.x1)) = true, (decide (clampI ((sTo S (ins.getD 0 dI)).x) S.box.x0 S.box.x1 = clampI ((sTo S (ins.getD 0 dI)).x) S.box.x0 S.box.x1)) = true, (decide (clampI ((sTo S (ins.getD 0 dI)).x) S.box.x0 S.box.x1 = clampI ((sTo S (ins.getD 0 dI)).x) S.box.x0 S.box.x1)) = true, (decide (clampI ((sTo S (ins.getD 0 dI)).x) S.box.x0 S.box.x1 = clampI ((sTo S (ins.getD 0 dI)).x) S.box.x0 S.box.x1)) = true, (decide (clampI ((sTo S (ins.getD 0 dI)).x) S.box.x0 S.box.x1 = clampI ((sTo S (ins.getD 0 dI)).x) S.box.x0 S.box.x1)) = true, (decide (clampI ((sTo S (ins.getD 0 dI)).x) S.box.x0 S.box.x1 = clampI ((sTo S (ins.getD 0 dI)).x) S.box.x0 S.box.x1)) = true, (decide (clampI ((sTo S (ins.getD 0 dI)).x) S.box.x0 S.box.x1 = clampI ((sTo S (ins.getD 0 dI)).x) S.box.x0 S.box.x1)) = true, (decide (clampI ((sTo S (ins.getD 0 dI)).x) S.box.x0 S.box.x1 = clampI ((sTo S (ins.getD 0 dI)).x) S.box.x0 S.box.x1)) = true, (decide (clampI ((sTo S (ins.getD 0 dI)).x) S.box.x0 S.box.x1 = clampI ((sTo S (ins.getD 0 dI)).x) S.box.x0 S.box.x1)) = true, (decide (clampI ((sTo S (ins.getD 0 dI)).x) S.box.x0 S.box.x1 = clampI ((sTo S (ins.getD 0 dI)).x) S.box.x0 S.box.x1)) = true, (decide (clampI ((sTo S (ins.getD 0 dI)).x) S.box.x0 S.box.x1 = clampI ((sTo S (ins.getD 0 dI)).x) S.box.x0 S.box.x1)) = true] (by kernel_rfl) (by kernel_rfl) mn (ac (decide_eq_true h42) (ac (decide_eq_true h42) (ac (decide_eq_true h42) (ac (decide_eq_true h42) (ac (decide_eq_true h42) (ac (decide_eq_true h42) (ac (decide_eq_true h42) (ac (decide_eq_true h42) (ac (decide_eq_true h42) (ac (decide_eq_true h42) (ac (decide_eq_true h42) an))))))))))) 7 rfl ?_
                refine TD.callv [] (by kernel_rfl) 25 [] [.gd true] (dst := (some 170)) (f := 25) (args := #[vI (z88.y), vI S.box.y0, vI S.box.y1]) (E := []) (Ob := [(decide (clampI ((sTo S (ins.getD 0 dI)).x) S.box.x0 S.box.x1 = clampI ((sTo S (ins.getD 0 dI)).x) S.box.x0 S.box.x1)) = true]) [4, 158, 161, 170] (vI z90) [z2, z126, z127, (170, vI z90)] (by kernel_rfl) (by kernel_rfl) (by kernel_rfl) mn (ac (decide_eq_true h42) an) (fun X_ => (clamp_any (z88.y) S.box.y0 S.box.y1  _)) (by kernel_rfl) 6 rfl ?_
                rcases Decidable.em (clampI ((sTo S (ins.getD 0 dI)).y) S.box.y0 S.box.y1 = clampI ((sTo S (ins.getD 0 dI)).y) S.box.y0 S.box.y1) with h43 | h43
                · let z128 : Nat × Value := (173, .bool (decide (clampI (z88.y) S.box.y0 S.box.y1 = clampI (z88.y) S.box.y0 S.box.y1)))
                  refine TD.vals [] (by kernel_rfl) [26, 27, 28] [] [.gd true, .gd true] [4, 173] [true, true, true, true, true, true, true, true, true, true, true, true, true, true, true, true, true, true, true, true, true, true, true, true, true, true, true, true, true, false, false, false] [z2, z128] [] [(decide (clampI ((sTo S (ins.getD 0 dI)).x) S.box.x0 S.box.x1 = clampI ((sTo S (ins.getD 0 dI)).x) S.box.x0 S.box.x1)) = true, (decide (clampI ((sTo S (ins.getD 0 dI)).x) S.box.x0 S.box.x1 = clampI ((sTo S (ins.getD 0 dI)).x) S.box.x0 S.box.x1)) = true] (by kernel_rfl) (by kernel_rfl) mn (ac (decide_eq_true h42) (ac (decide_eq_true h42) an)) 3 rfl ?_
                  refine TD.callv [] (by kernel_rfl) 29 [] [.gd true] (dst := (some 174)) (f := 16) (args := #[]) (E := []) (Ob := [(decide (clampI ((sTo S (ins.getD 0 dI)).y) S.box.y0 S.box.y1 = clampI ((sTo S (ins.getD 0 dI)).y) S.box.y0 S.box.y1)) = true]) [4, 173, 174] (.bool true) [z2, z128, (174, .bool true)] (by kernel_rfl) (by kernel_rfl) (by kernel_rfl) mn (ac (decide_eq_true h43) an) (fun X_ => (lives_any _)) (by kernel_rfl) 2 rfl ?_
                  refine TD.vals [] (by kernel_rfl) [30, 31] [] [.gd true] [4] [true, true, true, true, true, true, true, true, true, true, true, true, true, true, true, true, true, true, true, true, true, true, true, true, true, true, true, true, true, true, true, true] [(4, .bool true)] [] [(decide (clampI ((sTo S (ins.getD 0 dI)).y) S.box.y0 S.box.y1 = clampI ((sTo S (ins.getD 0 dI)).y) S.box.y0 S.box.y1)) = true] (by kernel_rfl) (by kernel_rfl) mn (ac (decide_eq_true h43) an) 0 rfl ?_
                  refine TD.fin (by kernel_rfl) (EX.np ?_)
                  refine EX.next ?_
                  refine TR.ret (A := [z117, z116, z84, z91, z13, z11, z9, z5, z3]) (Ts := [T4, TS]) (by exact fun _ _ h => h) rfl rfl [] [] (.bool true) [] [] (fun _ => by kernel_rfl) mn an [] [0, 1, 2, 3, 4, 5, 6, 7, 8] [] [0, 1] [] (by kernel_rfl) (by kernel_rfl) (by kernel_rfl) ?_
                  exact ⟨rfl, rfl⟩
                · exact absurd rfl h43
              · exact absurd rfl h42
          · let z129 : Nat × Value := (13, vP (n33 + 0) 0)
            refine TL.seg0 31 [] [.own 0, .own 7, .gd true, .gd true, .own 0, .gd true, .gd true, .gd true, .own 7, .gd true, .gd true, .gd false, .gd false, .gd false, .gd false, .gd false, .gd false, .gd false] [4, 5, 11, 12, 13, 14] [z2, z4, z83, z102, z129, (14, .bool false)] (ap [z117, z116, z84, z91, z13, z11, z9, z5, z3] [T4, TS]) [(n1 + 0), (n33 + 0), (n1 + 0), (n33 + 0)] [(decide ((sTo S (ins.getD 0 dI)).x ≤ S.box.x1)) = false, (decide ((sTo S (ins.getD 0 dI)).x ≤ S.box.x1)) = false, (decide ((sTo S (ins.getD 0 dI)).x ≤ S.box.x1)) = false, (decide ((sTo S (ins.getD 0 dI)).x ≤ S.box.x1)) = false, (decide ((sTo S (ins.getD 0 dI)).x ≤ S.box.x1)) = false, (decide ((sTo S (ins.getD 0 dI)).x ≤ S.box.x1)) = false, (decide ((sTo S (ins.getD 0 dI)).x ≤ S.box.x1)) = false, (decide ((sTo S (ins.getD 0 dI)).x ≥ S.box.x0)) = true, (decide ((sTo S (ins.getD 0 dI)).x ≥ S.box.x0)) = true, (decide ((sTo S (ins.getD 0 dI)).x ≥ S.box.x0)) = true, (decide ((sTo S (ins.getD 0 dI)).x ≥ S.box.x0)) = true, (decide ((sTo S (ins.getD 0 dI)).x ≥ S.box.x0)) = true, (decide ((sTo S (ins.getD 0 dI)).x ≥ S.box.x0)) = true, (decide ((sTo S (ins.getD 0 dI)).x ≥ S.box.x0)) = true] (fun _ => by kernel_rfl) mn (ac (decide_eq_false h35) (ac (decide_eq_false h35) (ac (decide_eq_false h35) (ac (decide_eq_false h35) (ac (decide_eq_false h35) (ac (decide_eq_false h35) (ac (decide_eq_false h35) (ac (decide_eq_true h34) (ac (decide_eq_true h34) (ac (decide_eq_true h34) (ac (decide_eq_true h34) (ac (decide_eq_true h34) (ac (decide_eq_true h34) (ac (decide_eq_true h34) an)))))))))))))) ?_
            refine TL.fin (by kernel_rfl) ?_
            refine EX.next ?_
            refine TR.seq ?_
            refine TR.seq ?_
            refine TR.reg ?_
            refine TL.seg0 1 [] [] [4, 5, 11, 12, 13, 131] [z2, z4, z83, z102, z129, (131, .bool false)] (ap [z117, z116, z84, z91, z13, z11, z9, z5, z3] [T4, TS]) [] [] (fun _ => by kernel_rfl) mn an ?_
            refine TL.fin (by kernel_rfl) ?_
            refine EX.next ?_
            refine TR.no (by kernel_rfl) (by kernel_rfl) (rfl : false = false) ?_
            refine TR.skip ?_
            refine EX.next ?_
            refine TR.seq ?_
            refine TR.draw [] [] rfl (by kernel_rfl) ?_
            let z130 : Nat × Value := (147, vI z89)
            refine TD.vals [] (by kernel_rfl) [0, 3, 5, 8, 1, 4, 6, 9, 2, 7, 10] [] [.own 0, .own 3, .own 7, .own 7] [4, 5, 11, 13, 147, 149, 152, 155] [true, true, true, true, true, true, true, true, true, true, true, false, false, false, false, false, false, false, false, false, false, false, false, false, false, false, false, false, false, false, false, false] [z2, z4, z83, z129, z130, (149, vI (z88.x)), (152, vI S.box.x0), (155, vI S.box.x1)] [(n1 + 0), (n1 + 0), (n27 + 0), (n33 + 0)] [] (by kernel_rfl) (by kernel_rfl) mn an 21 rfl ?_
            refine TD.callv [] (by kernel_rfl) 11 [] [] (dst := (some 156)) (f := 25) (args := #[vI (z88.x), vI S.box.x0, vI S.box.x1]) (E := []) (Ob := []) [4, 5, 11, 13, 147, 156] (vI z89) [z2, z4, z83, z129, z130, (156, vI z89)] (by kernel_rfl) (by kernel_rfl) (by kernel_rfl) mn an (fun X_ => (clamp_any (z88.x) S.box.x0 S.box.x1  _)) (by kernel_rfl) 20 rfl ?_
            rcases Decidable.em (clampI ((sTo S (ins.getD 0 dI)).x) S.box.x0 S.box.x1 = clampI ((sTo S (ins.getD 0 dI)).x) S.box.x0 S.box.x1) with h44 | h44
            · let z131 : Nat × Value := (158, .bool (decide (clampI (z88.x) S.box.x0 S.box.x1 = clampI (z88.x) S.box.x0 S.box.x1)))
              let z132 : Nat × Value := (161, vI z90)
              refine TD.vals [] (by kernel_rfl) [12, 13, 14, 17, 19, 22, 15, 18, 20, 23, 16, 21, 24] [] [.gd true, .gd true, .gd true, .gd true, .gd true, .gd true, .own 0, .gd true, .gd true, .gd true, .own 3, .gd true, .own 7, .gd true, .own 7] [4, 158, 161, 163, 166, 169] [true, true, true, true, true, true, true, true, true, true, true, true, true, true, true, true, true, true, true, true, true, true, true, true, true, false, false, false, false, false, false, false] [z2, z131, z132, (163, vI (z88.y)), (166, vI S.box.y0), (169, vI S.box.y1)] [(n1 + 0), (n1 + 0), (n27 + 0), (n33 + 0)] [(decide (clampI ((sTo S (ins.getD 0 dI)).x) S.box.x0 S.box.x1 = clampI ((sTo S (ins.getD 0 dI)).x) S.box.x0 S.box.x1)) = true, (decide (clampI ((sTo S (ins.getD 0 dI)).x) S.box.x0 S.box.x1 = clampI ((sTo S (ins.getD 0 dI)).x) S.box.x0 S.box.x1)) = true, (decide (clampI ((sTo S (ins.getD 0 dI)).x) S.box.x0 S.box.x1 = clampI ((sTo S (ins.getD 0 dI)).x) S.box.x0 S.box.x1)) = true, (decide (clampI ((sTo S (ins.getD 0 dI)).x) S.box.x0 S.box.x1 = clampI ((sTo S (ins.getD 0 dI)).x) S.box.x0 S.box.x1)) = true, (decide (clampI ((sTo S (ins.getD 0 dI)).x) S.box.x0 S.box.x1 = clampI ((sTo S (ins.getD 0 dI)).x) S.box.x0 S.box.x1)) = true, (decide (clampI ((sTo S (ins.getD 0 dI)).x) S.box.x0 S.box.x1 = clampI ((sTo S (ins.getD 0 dI)).x) S.box.x0 S.box.x1)) = true, (decide (clampI ((sTo S (ins.getD 0 dI)).x) S.box.x0 S.box.x1 = clampI ((sTo S (ins.getD 0 dI)).x) S.box.x0 S.box.x1)) = true, (decide (clampI ((sTo S (ins.getD 0 dI)).x) S.box.x0 S.box.x1 = clampI ((sTo S (ins.getD 0 dI)).x) S.box.x0 S.box.x1)) = true, (decide (clampI ((sTo S (ins.getD 0 dI)).x) S.box.x0 S.box.x1 = clampI ((sTo S (ins.getD 0 dI)).x) S.box.x0 S.box.x1)) = true, (decide (clampI ((sTo S (ins.getD 0 dI)).x) S.box.x0 S.box.x1 = clampI ((sTo S (ins.getD 0 dI)).x) S.box.x0 S.box.x1)) = true, (decide (clampI ((sTo S (ins.getD 0 dI)).x) S.box.x0 S.box.x1 = clampI ((sTo S (ins.getD 0 dI)).x) S.box.x0 S.box.x1)) = true] (by kernel_rfl) (by kernel_rfl) mn (ac (decide_eq_true h44) (ac (decide_eq_true h44) (ac (decide_eq_true h44) (ac (decide_eq_true h44) (ac (decide_eq_true h44) (ac (decide_eq_true h44) (ac (decide_eq_true h44) (ac (decide_eq_true h44) (ac (decide_eq_true h44) (ac (decide_eq_true h44) (ac (decide_eq_true h44) an))))))))))) 7 rfl ?_
              refine TD.callv [] (by kernel_rfl) 25 [] [.gd true] (dst := (some 170)) (f := 25) (args := #[vI (z88.y), vI S.box.y0, vI S.box.y1]) (E := []) (Ob := [(decide (clampI ((sTo S (ins.getD 0 dI)).x) S.box.x0 S.box.x1 = clampI ((sTo S (ins.getD 0 dI)).x) S.box.x0 S.box.x1)) = true]) [4, 158, 161, 170] (vI z90) [z2, z131, z132, (170, vI z90)] (by kernel_rfl) (by kernel_rfl) (by kernel_rfl) mn (ac (decide_eq_true h44) an) (fun X_ => (clamp_any (z88.y) S.box.y0 S.box.y1  _)) (by kernel_rfl) 6 rfl ?_
              rcases Decidable.em (clampI ((sTo S (ins.getD 0 dI)).y) S.box.y0 S.box.y1 = clampI ((sTo S (ins.getD 0 dI)).y) S.box.y0 S.box.y1) with h45 | h45
              · let z133 : Nat × Value := (173, .bool (decide (clampI (z88.y) S.box.y0 S.box.y1 = clampI (z88.y) S.box.y0 S.box.y1)))
                refine TD.vals [] (by kernel_rfl) [26, 27, 28] [] [.gd true, .gd true] [4, 173] [true, true, true, true, true, true, true, true, true, true, true, true, true, true, true, true, true, true, true, true, true, true, true, true, true, true, true, true, true, false, false, false] [z2, z133] [] [(decide (clampI ((sTo S (ins.getD 0 dI)).x) S.box.x0 S.box.x1 = clampI ((sTo S (ins.getD 0 dI)).x) S.box.x0 S.box.x1)) = true, (decide (clampI ((sTo S (ins.getD 0 dI)).x) S.box.x0 S.box.x1 = clampI ((sTo S (ins.getD 0 dI)).x) S.box.x0 S.box.x1)) = true] (by kernel_rfl) (by kernel_rfl) mn (ac (decide_eq_true h44) (ac (decide_eq_true h44) an)) 3 rfl ?_
                refine TD.callv [] (by kernel_rfl) 29 [] [.gd true] (dst := (some 174)) (f := 16) (args := #[]) (E := []) (Ob := [(decide (clampI ((sTo S (ins.getD 0 dI)).y) S.box.y0 S.box.y1 = clampI ((sTo S (ins.getD 0 dI)).y) S.box.y0 S.box.y1)) = true]) [4, 173, 174] (.bool true) [z2, z133, (174, .bool true)] (by kernel_rfl) (by kernel_rfl) (by kernel_rfl) mn (ac (decide_eq_true h45) an) (fun X_ => (lives_any _)) (by kernel_rfl) 2 rfl ?_
                refine TD.vals [] (by kernel_rfl) [30, 31] [] [.gd true] [4] [true, true, true, true, true, true, true, true, true, true, true, true, true, true, true, true, true, true, true, true, true, true, true, true, true, true, true, true, true, true, true, true] [(4, .bool true)] [] [(decide (clampI ((sTo S (ins.getD 0 dI)).y) S.box.y0 S.box.y1 = clampI ((sTo S (ins.getD 0 dI)).y) S.box.y0 S.box.y1)) = true] (by kernel_rfl) (by kernel_rfl) mn (ac (decide_eq_true h45) an) 0 rfl ?_
                refine TD.fin (by kernel_rfl) (EX.np ?_)
                refine EX.next ?_
                refine TR.ret (A := [z117, z116, z84, z91, z13, z11, z9, z5, z3]) (Ts := [T4, TS]) (by exact fun _ _ h => h) rfl rfl [] [] (.bool true) [] [] (fun _ => by kernel_rfl) mn an [] [0, 1, 2, 3, 4, 5, 6, 7, 8] [] [0, 1] [] (by kernel_rfl) (by kernel_rfl) (by kernel_rfl) ?_
                exact ⟨rfl, rfl⟩
              · exact absurd rfl h45
            · exact absurd rfl h44
        · let z134 : Nat × Value := (13, vP (n33 + 0) 0)
          refine TL.seg0 31 [] [.own 0, .own 7, .gd false, .gd false, .gd false, .gd false, .gd false, .gd false, .gd false] [4, 5, 11, 12, 13, 14] [z2, z4, z83, z102, z134, (14, .bool false)] (ap [z117, z116, z84, z91, z13, z11, z9, z5, z3] [T4, TS]) [(n1 + 0), (n33 + 0)] [(decide ((sTo S (ins.getD 0 dI)).x ≥ S.box.x0)) = false, (decide ((sTo S (ins.getD 0 dI)).x ≥ S.box.x0)) = false, (decide ((sTo S (ins.getD 0 dI)).x ≥ S.box.x0)) = false, (decide ((sTo S (ins.getD 0 dI)).x ≥ S.box.x0)) = false, (decide ((sTo S (ins.getD 0 dI)).x ≥ S.box.x0)) = false, (decide ((sTo S (ins.getD 0 dI)).x ≥ S.box.x0)) = false, (decide ((sTo S (ins.getD 0 dI)).x ≥ S.box.x0)) = false] (fun _ => by kernel_rfl) mn (ac (decide_eq_false h34) (ac (decide_eq_false h34) (ac (decide_eq_false h34) (ac (decide_eq_false h34) (ac (decide_eq_false h34) (ac (decide_eq_false h34) (ac (decide_eq_false h34) an))))))) ?_
          refine TL.fin (by kernel_rfl) ?_
          refine EX.next ?_
          refine TR.seq ?_
          refine TR.seq ?_
          refine TR.reg ?_
          refine TL.seg0 1 [] [] [4, 5, 11, 12, 13, 131] [z2, z4, z83, z102, z134, (131, .bool false)] (ap [z117, z116, z84, z91, z13, z11, z9, z5, z3] [T4, TS]) [] [] (fun _ => by kernel_rfl) mn an ?_
          refine TL.fin (by kernel_rfl) ?_
          refine EX.next ?_
          refine TR.no (by kernel_rfl) (by kernel_rfl) (rfl : false = false) ?_
          refine TR.skip ?_
          refine EX.next ?_
          refine TR.seq ?_
          refine TR.draw [] [] rfl (by kernel_rfl) ?_
          let z135 : Nat × Value := (147, vI z89)
          refine TD.vals [] (by kernel_rfl) [0, 3, 5, 8, 1, 4, 6, 9, 2, 7, 10] [] [.own 0, .own 3, .own 7, .own 7] [4, 5, 11, 13, 147, 149, 152, 155] [true, true, true, true, true, true, true, true, true, true, true, false, false, false, false, false, false, false, false, false, false, false, false, false, false, false, false, false, false, false, false, false] [z2, z4, z83, z134, z135, (149, vI (z88.x)), (152, vI S.box.x0), (155, vI S.box.x1)] [(n1 + 0), (n1 + 0), (n27 + 0), (n33 + 0)] [] (by kernel_rfl) (by kernel_rfl) mn an 21 rfl ?_
          refine TD.callv [] (by kernel_rfl) 11 [] [] (dst := (some 156)) (f := 25) (args := #[vI (z88.x), vI S.box.x0, vI S.box.x1]) (E := []) (Ob := []) [4, 5, 11, 13, 147, 156] (vI z89) [z2, z4, z83, z134, z135, (156, vI z89)] (by kernel_rfl) (by kernel_rfl) (by kernel_rfl) mn an (fun X_ => (clamp_any (z88.x) S.box.x0 S.box.x1  _)) (by kernel_rfl) 20 rfl ?_
          rcases Decidable.em (clampI ((sTo S (ins.getD 0 dI)).x) S.box.x0 S.box.x1 = clampI ((sTo S (ins.getD 0 dI)).x) S.box.x0 S.box.x1) with h46 | h46
          · let z136 : Nat × Value := (158, .bool (decide (clampI (z88.x) S.box.x0 S.box.x1 = clampI (z88.x) S.box.x0 S.box.x1)))
            let z137 : Nat × Value := (161, vI z90)
            refine TD.vals [] (by kernel_rfl) [12, 13, 14, 17, 19, 22, 15, 18, 20, 23, 16, 21, 24] [] [.gd true, .gd true, .gd true, .gd true, .gd true, .gd true, .own 0, .gd true, .gd true, .gd true, .own 3, .gd true, .own 7, .gd true, .own 7] [4, 158, 161, 163, 166, 169] [true, true, true, true, true, true, true, true, true, true, true, true, true, true, true, true, true, true, true, true, true, true, true, true, true, false, false, false, false, false, false, false] [z2, z136, z137, (163, vI (z88.y)), (166, vI S.box.y0), (169, vI S.box.y1)] [(n1 + 0), (n1 + 0), (n27 + 0), (n33 + 0)] [(decide (clampI ((sTo S (ins.getD 0 dI)).x) S.box.x0 S.box.x1 = clampI ((sTo S (ins.getD 0 dI)).x) S.box.x0 S.box.x1)) = true, (decide (clampI ((sTo S (ins.getD 0 dI)).x) S.box.x0 S.box.x1 = clampI ((sTo S (ins.getD 0 dI)).x) S.box.x0 S.box.x1)) = true, (decide (clampI ((sTo S (ins.getD 0 dI)).x) S.box.x0 S.box.x1 = clampI ((sTo S (ins.getD 0 dI)).x) S.box.x0 S.box.x1)) = true, (decide (clampI ((sTo S (ins.getD 0 dI)).x) S.box.x0 S.box.x1 = clampI ((sTo S (ins.getD 0 dI)).x) S.box.x0 S.box.x1)) = true, (decide (clampI ((sTo S (ins.getD 0 dI)).x) S.box.x0 S.box.x1 = clampI ((sTo S (ins.getD 0 dI)).x) S.box.x0 S.box.x1)) = true, (decide (clampI ((sTo S (ins.getD 0 dI)).x) S.box.x0 S.box.x1 = clampI ((sTo S (ins.getD 0 dI)).x) S.box.x0 S.box.x1)) = true, (decide (clampI ((sTo S (ins.getD 0 dI)).x) S.box.x0 S.box.x1 = clampI ((sTo S (ins.getD 0 dI)).x) S.box.x0 S.box.x1)) = true, (decide (clampI ((sTo S (ins.getD 0 dI)).x) S.box.x0 S.box.x1 = clampI ((sTo S (ins.getD 0 dI)).x) S.box.x0 S.box.x1)) = true, (decide (clampI ((sTo S (ins.getD 0 dI)).x) S.box.x0 S.box.x1 = clampI ((sTo S (ins.getD 0 dI)).x) S.box.x0 S.box.x1)) = true, (decide (clampI ((sTo S (ins.getD 0 dI)).x) S.box.x0 S.box.x1 = clampI ((sTo S (ins.getD 0 dI)).x) S.box.x0 S.box.x1)) = true, (decide (clampI ((sTo S (ins.getD 0 dI)).x) S.box.x0 S.box.x1 = clampI ((sTo S (ins.getD 0 dI)).x) S.box.x0 S.box.x1)) = true] (by kernel_rfl) (by kernel_rfl) mn (ac (decide_eq_true h46) (ac (decide_eq_true h46) (ac (decide_eq_true h46) (ac (decide_eq_true h46) (ac (decide_eq_true h46) (ac (decide_eq_true h46) (ac (decide_eq_true h46) (ac (decide_eq_true h46) (ac (decide_eq_true h46) (ac (decide_eq_true h46) (ac (decide_eq_true h46) an))))))))))) 7 rfl ?_
            refine TD.callv [] (by kernel_rfl) 25 [] [.gd true] (dst := (some 170)) (f := 25) (args := #[vI (z88.y), vI S.box.y0, vI S.box.y1]) (E := []) (Ob := [(decide (clampI ((sTo S (ins.getD 0 dI)).x) S.box.x0 S.box.x1 = clampI ((sTo S (ins.getD 0 dI)).x) S.box.x0 S.box.x1)) = true]) [4, 158, 161, 170] (vI z90) [z2, z136, z137, (170, vI z90)] (by kernel_rfl) (by kernel_rfl) (by kernel_rfl) mn (ac (decide_eq_true h46) an) (fun X_ => (clamp_any (z88.y) S.box.y0 S.box.y1  _)) (by kernel_rfl) 6 rfl ?_
            rcases Decidable.em (clampI ((sTo S (ins.getD 0 dI)).y) S.box.y0 S.box.y1 = clampI ((sTo S (ins.getD 0 dI)).y) S.box.y0 S.box.y1) with h47 | h47
            · let z138 : Nat × Value := (173, .bool (decide (clampI (z88.y) S.box.y0 S.box.y1 = clampI (z88.y) S.box.y0 S.box.y1)))
              refine TD.vals [] (by kernel_rfl) [26, 27, 28] [] [.gd true, .gd true] [4, 173] [true, true, true, true, true, true, true, true, true, true, true, true, true, true, true, true, true, true, true, true, true, true, true, true, true, true, true, true, true, false, false, false] [z2, z138] [] [(decide (clampI ((sTo S (ins.getD 0 dI)).x) S.box.x0 S.box.x1 = clampI ((sTo S (ins.getD 0 dI)).x) S.box.x0 S.box.x1)) = true, (decide (clampI ((sTo S (ins.getD 0 dI)).x) S.box.x0 S.box.x1 = clampI ((sTo S (ins.getD 0 dI)).x) S.box.x0 S.box.x1)) = true] (by kernel_rfl) (by kernel_rfl) mn (ac (decide_eq_true h46) (ac (decide_eq_true h46) an)) 3 rfl ?_
              refine TD.callv [] (by kernel_rfl) 29 [] [.gd true] (dst := (some 174)) (f := 16) (args := #[]) (E := []) (Ob := [(decide (clampI ((sTo S (ins.getD 0 dI)).y) S.box.y0 S.box.y1 = clampI ((sTo S (ins.getD 0 dI)).y) S.box.y0 S.box.y1)) = true]) [4, 173, 174] (.bool true) [z2, z138, (174, .bool true)] (by kernel_rfl) (by kernel_rfl) (by kernel_rfl) mn (ac (decide_eq_true h47) an) (fun X_ => (lives_any _)) (by kernel_rfl) 2 rfl ?_
              refine TD.vals [] (by kernel_rfl) [30, 31] [] [.gd true] [4] [true, true, true, true, true, true, true, true, true, true, true, true, true, true, true, true, true, true, true, true, true, true, true, true, true, true, true, true, true, true, true, true] [(4, .bool true)] [] [(decide (clampI ((sTo S (ins.getD 0 dI)).y) S.box.y0 S.box.y1 = clampI ((sTo S (ins.getD 0 dI)).y) S.box.y0 S.box.y1)) = true] (by kernel_rfl) (by kernel_rfl) mn (ac (decide_eq_true h47) an) 0 rfl ?_
              refine TD.fin (by kernel_rfl) (EX.np ?_)
              refine EX.next ?_
              refine TR.ret (A := [z117, z116, z84, z91, z13, z11, z9, z5, z3]) (Ts := [T4, TS]) (by exact fun _ _ h => h) rfl rfl [] [] (.bool true) [] [] (fun _ => by kernel_rfl) mn an [] [0, 1, 2, 3, 4, 5, 6, 7, 8] [] [0, 1] [] (by kernel_rfl) (by kernel_rfl) (by kernel_rfl) ?_
              exact ⟨rfl, rfl⟩
            · exact absurd rfl h47
          · exact absurd rfl h46
end Go.Proofs.YtpkincoclhpcgaaGreatDoor
