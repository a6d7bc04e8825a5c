/- Contracts, printed by a program. -/
import Derived.Test.YtampdcgphdnnhaaGreatDoorU46
namespace Go.Proofs.YtampdcgphdnnhaaGreatDoor
set_option linter.unusedSimpArgs false
set_option linter.unusedVariables false
open Go.RowKit
theorem pl_get {S : Setup} {M : MemS} {i : Nat} {x : Inp} (hi : (i : Int) < S.players) (h : M.get (48 + 4 * i) = x.dx ∧ M.get (48 + 4 * i + 1) = x.dy ∧ M.get (48 + 4 * i + 2) = x.act) : playerAt S (i : Int) = 48 + 4 * i ∧ M.get (playerAt S (i : Int) + 0) = x.dx ∧ M.get (playerAt S (i : Int) + 1) = x.dy ∧ M.get (playerAt S (i : Int) + 2) = x.act := by
  have e : playerAt S (i : Int) = 48 + 4 * i := by
    rcases vplayerAt (S := S) (i : Int) with ⟨_, h⟩ | ⟨_, _, h⟩ <;> omega
  rw [e, Int.add_zero]
  exact ⟨rfl, h⟩

set_option maxHeartbeats 4000000 in
set_option maxRecDepth 100000 in
theorem phas_any (A A1 A2 : Option Addr) (n cap nz cz ny cy : Nat) (xs zs ys : List Int) (F : HL) (hE : EffIn F) (hE2 : CefIn F) (hl : ArgD F A n xs) (hn : n ≤ 9223372036854775807) (hl1 : ArgD F A1 nz zs) (hn1 : nz ≤ 9223372036854775807) (hc1 : nz ≤ cz) (hl2 : ArgD F A2 ny ys) (hn2 : ny ≤ 9223372036854775807) : Sp Tryz.prog 4 #[.slice A n cap, .slice A1 nz cz, .slice A2 ny cy] [] F (fun u H' => u = .bool true ∧ H' = []) := by
  obtain ⟨F_, hl_⟩ := hl.ex
  refine Sp.run Tryz.func4 rfl mn (A := []) (Ts := []) rfl fun w0 => ?_
  refine RN.go 8 [] fun _ => RN.ct (Hp := []) (Tp := []) [] [] (hl.up.use fun F_ h_ => setup_ap A n cap xs _ h_ hn) ?_
  rintro _ ⟨S, TS⟩ ⟨rfl, hG⟩
  dsimp only at hG
  have hV := setV hl_ hG
  refine RN.go 7 (ow 0 16) fun n1 => RN.ct (Hp := []) (Tp := []) [] [] (lprog_any A1 nz cz zs _ hl1.up hn1 hc1 (ro_ap hE2)) ?_
  rintro _ ⟨code, cA, cn, cc, cT, e0, e1, e2⟩ ⟨rfl, hcode⟩
  dsimp only at hcode
  refine RN.go 5 [.own 0, .own 0, .own 0, .own 0] fun n2 => ?_
  have hpl := hV.pl
  have hnb := hV.nb
  have hsz : (sizeOf S).toNat ≤ 1000000 := by unfold sizeOf; omega
  have hbd := bound_ok hV
  have hSN := hV.sn
  refine RN.go 2 (ow 1 16) fun _ => RN.ct (Hp := []) (Tp := []) [] [] (rinit_ap S _ (hG.sin _ (in_ap 2) (sub_ap 1))) ?_
  rintro _ q3 rfl
  refine RN.ct (Hp := []) (Tp := []) [] [] (newn_any q3 (iniL S S.nb) ((sizeOf S).toNat) 100000000 ((sizeOf S).toNat) _ (iniL_len _ _) (in_ap 0) hsz (by decide) (Nat.le_refl _)) ?_
  rintro _ ⟨mb, T⟩ ⟨rfl, hM⟩
  dsimp only at hM
  refine RN.go 17 (ow 2 16) fun _ => RN.ct (Hp := []) (Tp := []) [] [] (hl2.up.use fun F_ h_ => row_blk S A2 ny cy ys 0 _ h_ hn2 (by omega) (by omega)) ?_
  rintro _ ⟨ib, ci, ins⟩ ⟨rfl, hic1, hins⟩
  dsimp only at hic1 hins
  refine RN.go 4 [] fun _ => ?_
  have htv0 := (ini_te2 hV).tv hV (by omega) (fun q => ins.getD q dI)
  have hlf0 := htv0.2.1
  refine RN.go 8 (ow 3 16) fun _ => RN.cp (bound_any S _) <| RN.go 4 [] fun _ => RN.loop (σ := Int × Int × MemS × HL) (fun ⟨k, ph, M_, T_⟩ => ⟨[(7, vP (n1 + 0) 0), (8, vP (n2 + 0) 0), (9, vP mb 0), (10, vS ib 0 S.players.toNat ci), (11, vI ph), (12, vI k)], [(ib, .rows 3 ci (inrow ins) 57 (0, 0)), (q3, .rows 1 ((sizeOf S).toNat) (irow (iniL S S.nb)) 3 (0, 0)), ((n2 + 0), .lit [.slice cA cn cc, vI e0, vI e1, vI e2] 36 (0, 0)), ((n1 + 0), .lit (Setup.l S) 31 (0, 0)), (S.bb, .rows 9 S.bR (brow S.bods) 76 (0, 0))], [T_, cT, TS], TV S (fun q => ins.getD q dI) M_ ∧ lfM S M_ ≤ k ∧ k ≤ 650 ∧ ph = M_.get 1 ∧ MemH mb M_ (20 * k.toNat + 20) T_, k.toNat⟩) (boundI S, 0, ⟨(iniL S S.nb), [], 0⟩, T) [0, 1, 2, 3, 4] [0, 1, 2] (⟨htv0.1, by omega, by omega, htv0.2.2.1.symm, hM.weak (by omega)⟩) ?_
  rintro ⟨k, ph, M_, T_⟩ ⟨htv, hlf_, hk_, hph_, hM_⟩ mt5
  have hpos_ : 0 < lfM S M_ := lfV_pos hV.pl ⟨by omega, by omega⟩ hV.ro htv.ct
  refine RN.go 7 [] fun _ => RN.em (k > 0) 34 (fun h6 => ?_) fun h6 => ?_
  · refine RN.go 12 (ow 3 16 ++ [.own 2, .own 2, .own 2, .own 2]) fun _ => ?_
    have htr := tr_ok hV (g := (⟨S, cA, cn, cc, e0, e1, e2, 0, ib, 0, S.players.toNat, ci, ci, ins, code⟩ : Gm)) rfl (ins := (fun q => ins.getD q dI)) (fun q _ => by show ins.getD (0 + q) dI = ins.getD q dI; rw [Nat.zero_add]) (by show S.players ≤ ((S.players.toNat : Nat) : Int); omega) htv
    refine RN.ct [] [0] (trans_any (⟨S, cA, cn, cc, e0, e1, e2, 0, ib, 0, S.players.toNat, ci, ci, ins, code⟩ : Gm) mb M_ (20 * (k - 1).toNat + 20) T_ _ (hM_.weak (by omega)) ⟨(hG.sin _ (in_ap 4) (sub_ap 1)), in_ap 0, by show 0 + S.players.toNat ≤ ci ∧ S.players.toNat ≤ 1000000; omega, ro_ap hE, hcode _ (sub_ap 0)⟩ htr.1 0 rfl) ?_
    rintro _ T7 ⟨hM8, rfl⟩
    rcases htr.2 with ⟨e1_, hx_⟩ | ⟨e1_, hx_, -⟩
    · have htv2 : TV S (fun q => ins.getD q dI) (trM (⟨S, cA, cn, cc, e0, e1, e2, 0, ib, 0, S.players.toNat, ci, ci, ins, code⟩ : Gm) M_) := hx_.tv
      have hlt2 : lfM S (trM (⟨S, cA, cn, cc, e0, e1, e2, 0, ib, 0, S.players.toNat, ci, ci, ins, code⟩ : Gm) M_) < lfM S M_ := hx_.lt
      have hph2 : M_.get 1 ≤ (trM (⟨S, cA, cn, cc, e0, e1, e2, 0, ib, 0, S.players.toNat, ci, ci, ins, code⟩ : Gm) M_).get 1 := hx_.ph
      have e2_ : ¬ (trE (⟨S, cA, cn, cc, e0, e1, e2, 0, ib, 0, S.players.toNat, ci, ci, ins, code⟩ : Gm) M_ = true) := by rw [e1_]; decide
      refine RN.go 13 [.own 0, .own 0, .own 0, .own 0] fun n9 => RN.cp (get_any 1 hM8 (sub_ap 0)) <| RN.go 9 [] fun _ => RN.fx 51 (nf (Bool.eq_false_iff.2 e2_)) <| RN.go 6 [] fun _ => RN.em ((trM (⟨S, cA, cn, cc, e0, e1, e2, 0, ib, 0, S.players.toNat, ci, ci, ins, code⟩ : Gm) M_).get 1 < ph) 55 (fun h10 => ?_) fun h10 => ?_
      · (exfalso; omega)
      · refine RN.go 16 [] fun _ => RN.loop (σ := Nat) (fun i => ⟨[(7, vP (n1 + 0) 0), (8, vP (n2 + 0) 0), (9, vP mb 0), (10, vS ib 0 S.players.toNat ci), (11, vI ((trM (⟨S, cA, cn, cc, e0, e1, e2, 0, ib, 0, S.players.toNat, ci, ci, ins, code⟩ : Gm) M_).get 1)), (12, vI k), (13, .bool (trE (⟨S, cA, cn, cc, e0, e1, e2, 0, ib, 0, S.players.toNat, ci, ci, ins, code⟩ : Gm) M_)), (17, vI (i : Int))], [((n9 + 0), .lit [vI ((trV (⟨S, cA, cn, cc, e0, e1, e2, 0, ib, 0, S.players.toNat, ci, ci, ins, code⟩ : Gm) M_).e.t), vI ((trV (⟨S, cA, cn, cc, e0, e1, e2, 0, ib, 0, S.players.toNat, ci, ci, ins, code⟩ : Gm) M_).e.i), vI ((trV (⟨S, cA, cn, cc, e0, e1, e2, 0, ib, 0, S.players.toNat, ci, ci, ins, code⟩ : Gm) M_).e.k), vI ((trV (⟨S, cA, cn, cc, e0, e1, e2, 0, ib, 0, S.players.toNat, ci, ci, ins, code⟩ : Gm) M_).e.v)] 52 (0, 0)), (ib, .rows 3 ci (inrow ins) 57 (0, 0)), (q3, .rows 1 ((sizeOf S).toNat) (irow (iniL S S.nb)) 3 (0, 0)), ((n2 + 0), .lit [.slice cA cn cc, vI e0, vI e1, vI e2] 36 (0, 0)), ((n1 + 0), .lit (Setup.l S) 31 (0, 0)), (S.bb, .rows 9 S.bR (brow S.bods) 76 (0, 0))], [T7, cT, TS], (i : Int) ≤ S.players, S.players.toNat - i⟩) 0 [0, 1, 2, 3, 4, 5] [0, 1, 2] (by omega) ?_
        rintro i hi_ mt12
        refine RN.go 8 [.own 4] fun _ => RN.em ((i : Int) < S.players) 61 (fun h13 => ?_) fun h13 => ?_
        · refine RN.go 3 [] fun _ => RN.em ((trM (⟨S, cA, cn, cc, e0, e1, e2, 0, ib, 0, S.players.toNat, ci, ci, ins, code⟩ : Gm) M_).get 1 > 0) 64 (fun h14 => ?_) fun h14 => ?_
          · refine RN.go 14 (ow 4 16) fun _ => RN.cp (rplayer_any S (i : Int) _ hSN) ?_
            have hb15 := playerAt_bd hSN (i : Int)
            refine RN.go 4 [] fun _ => ?_
            obtain ⟨hpa_, hp0_, hp1_, hp2_⟩ := pl_get (M := (trM (⟨S, cA, cn, cc, e0, e1, e2, 0, ib, 0, S.players.toNat, ci, ci, ins, code⟩ : Gm) M_)) (i := i) (by omega) (htv2.pl i (by rw [if_neg (by omega)]; omega))
            refine RN.draw [] [] <| RD.goP [] [0, 1, 4, 5, 2, 6, 7, 8] [.nw, .ix i, .row 1 i 0] [(0 + i * 3) = i * 3 + 0 ∧ i < ci, (i : Int) = ((i : Nat) : Int) ∧ i < S.players.toNat, I64 ((playerAt S (i : Int)) + 0)] <| RD.cp [] 3 (fun X_ => (get_lit ((playerAt S (i : Int)) + 0) hp0_ hM8 (sub_apX 0))) <| RD.go [] [9, 10] [] <| RD.en ((ins.getD i dI).dx = (ins.getD i dI).dx) 83 (fun h16 => ?_) fun h16 => ?_
            · refine RD.goP [] [11, 12, 15, 16, 13, 17, 18, 19] [.nw, .ix i, .row 1 i 1] [((0 + i * 3) + 1) = i * 3 + 1 ∧ i < ci, (i : Int) = ((i : Nat) : Int) ∧ i < S.players.toNat, I64 ((playerAt S (i : Int)) + 1)] <| RD.cp [] 14 (fun X_ => (get_lit ((playerAt S (i : Int)) + 1) hp1_ hM8 (sub_apX 0))) <| RD.go [] [20, 21, 22] [] <| RD.en ((ins.getD i dI).dy = (ins.getD i dI).dy) 95 (fun h17 => ?_) fun h17 => ?_
              · refine RD.goP [] [23, 24, 27, 28, 25, 29, 30, 31] [.nw, .ix i, .row 1 i 2] [((0 + i * 3) + 2) = i * 3 + 2 ∧ i < ci, (i : Int) = ((i : Nat) : Int) ∧ i < S.players.toNat, I64 ((playerAt S (i : Int)) + 2)] <| RD.cp [] 26 (fun X_ => (get_lit ((playerAt S (i : Int)) + 2) hp2_ hM8 (sub_apX 0))) <| RD.go [] [32, 33] [] <| RD.fin <| RN.go 1 [] fun _ => RN.en ((ins.getD i dI).act = (ins.getD i dI).act) 106 (fun h18 => ?_) fun h18 => ?_
                · refine RN.goP 9 [.nw] [I64 ((i : Int) + 1)] fun _ => ?_
                  refine mt12 (i + 1) [0, 1, 2, 3, 4, 5] [0, 1, 2] ?_
                  try dsimp only
                  exact ⟨by omega, by omega⟩
                · exact absurd rfl h18
              · exact absurd rfl h17
            · exact absurd rfl h16
          · refine RN.go 5 [] fun _ => RN.fx 67 (Bool.eq_false_iff.2 e2_) <| RN.go 11 [] fun _ => RN.fx 107 (Bool.eq_false_iff.2 e2_) <| RN.goP 9 [.nw] [I64 (k - 1)] fun _ => ?_
            refine mt5 (k - 1, (trM (⟨S, cA, cn, cc, e0, e1, e2, 0, ib, 0, S.players.toNat, ci, ci, ins, code⟩ : Gm) M_).get 1, (trM (⟨S, cA, cn, cc, e0, e1, e2, 0, ib, 0, S.players.toNat, ci, ci, ins, code⟩ : Gm) M_), T7) [1, 2, 3, 4, 5] [0, 1, 2] ?_
            try dsimp only
            exact ⟨⟨htv2, by omega, by omega, rfl, hM8.weak (by omega)⟩, by omega⟩
        · refine RN.go 19 [] fun _ => RN.fx 107 (Bool.eq_false_iff.2 e2_) <| RN.goP 9 [.nw] [I64 (k - 1)] fun _ => ?_
          refine mt5 (k - 1, (trM (⟨S, cA, cn, cc, e0, e1, e2, 0, ib, 0, S.players.toNat, ci, ci, ins, code⟩ : Gm) M_).get 1, (trM (⟨S, cA, cn, cc, e0, e1, e2, 0, ib, 0, S.players.toNat, ci, ci, ins, code⟩ : Gm) M_), T7) [1, 2, 3, 4, 5] [0, 1, 2] ?_
          try dsimp only
          exact ⟨⟨htv2, by omega, by omega, rfl, hM8.weak (by omega)⟩, by omega⟩
    · have hpl2 : ∀ q : Nat, (q : Int) < S.players → (trM (⟨S, cA, cn, cc, e0, e1, e2, 0, ib, 0, S.players.toNat, ci, ci, ins, code⟩ : Gm) M_).get (48 + 4 * q) = (ins.getD q dI).dx ∧ (trM (⟨S, cA, cn, cc, e0, e1, e2, 0, ib, 0, S.players.toNat, ci, ci, ins, code⟩ : Gm) M_).get (48 + 4 * q + 1) = (ins.getD q dI).dy ∧ (trM (⟨S, cA, cn, cc, e0, e1, e2, 0, ib, 0, S.players.toNat, ci, ci, ins, code⟩ : Gm) M_).get (48 + 4 * q + 2) = (ins.getD q dI).act := hx_.pl
      refine RN.go 13 [.own 0, .own 0, .own 0, .own 0] fun n19 => RN.cp (get_any 1 hM8 (sub_ap 0)) <| RN.go 9 [] fun _ => RN.fx 51 (nt e1_) <| RN.go 22 [] fun _ => RN.loop (σ := Nat) (fun i => ⟨[(7, vP (n1 + 0) 0), (8, vP (n2 + 0) 0), (9, vP mb 0), (10, vS ib 0 S.players.toNat ci), (11, vI ((trM (⟨S, cA, cn, cc, e0, e1, e2, 0, ib, 0, S.players.toNat, ci, ci, ins, code⟩ : Gm) M_).get 1)), (12, vI k), (13, .bool (trE (⟨S, cA, cn, cc, e0, e1, e2, 0, ib, 0, S.players.toNat, ci, ci, ins, code⟩ : Gm) M_)), (17, vI (i : Int))], [((n19 + 0), .lit [vI ((trV (⟨S, cA, cn, cc, e0, e1, e2, 0, ib, 0, S.players.toNat, ci, ci, ins, code⟩ : Gm) M_).e.t), vI ((trV (⟨S, cA, cn, cc, e0, e1, e2, 0, ib, 0, S.players.toNat, ci, ci, ins, code⟩ : Gm) M_).e.i), vI ((trV (⟨S, cA, cn, cc, e0, e1, e2, 0, ib, 0, S.players.toNat, ci, ci, ins, code⟩ : Gm) M_).e.k), vI ((trV (⟨S, cA, cn, cc, e0, e1, e2, 0, ib, 0, S.players.toNat, ci, ci, ins, code⟩ : Gm) M_).e.v)] 52 (0, 0)), (ib, .rows 3 ci (inrow ins) 57 (0, 0)), (q3, .rows 1 ((sizeOf S).toNat) (irow (iniL S S.nb)) 3 (0, 0)), ((n2 + 0), .lit [.slice cA cn cc, vI e0, vI e1, vI e2] 36 (0, 0)), ((n1 + 0), .lit (Setup.l S) 31 (0, 0)), (S.bb, .rows 9 S.bR (brow S.bods) 76 (0, 0))], [T7, cT, TS], (i : Int) ≤ S.players, S.players.toNat - i⟩) 0 [0, 1, 2, 3, 4, 5] [0, 1, 2] (by omega) ?_
      rintro i hi_ mt21
      refine RN.go 8 [.own 4] fun _ => RN.em ((i : Int) < S.players) 61 (fun h22 => ?_) fun h22 => ?_
      · refine RN.go 3 [] fun _ => RN.em ((trM (⟨S, cA, cn, cc, e0, e1, e2, 0, ib, 0, S.players.toNat, ci, ci, ins, code⟩ : Gm) M_).get 1 > 0) 64 (fun h23 => ?_) fun h23 => ?_
        · refine RN.go 14 (ow 4 16) fun _ => RN.cp (rplayer_any S (i : Int) _ hSN) ?_
          have hb24 := playerAt_bd hSN (i : Int)
          refine RN.go 4 [] fun _ => ?_
          obtain ⟨hpa_, hp0_, hp1_, hp2_⟩ := pl_get (M := (trM (⟨S, cA, cn, cc, e0, e1, e2, 0, ib, 0, S.players.toNat, ci, ci, ins, code⟩ : Gm) M_)) (i := i) (by omega) (hpl2 i (by omega))
          refine RN.draw [] [] <| RD.goP [] [0, 1, 4, 5, 2, 6, 7, 8] [.nw, .ix i, .row 1 i 0] [(0 + i * 3) = i * 3 + 0 ∧ i < ci, (i : Int) = ((i : Nat) : Int) ∧ i < S.players.toNat, I64 ((playerAt S (i : Int)) + 0)] <| RD.cp [] 3 (fun X_ => (get_lit ((playerAt S (i : Int)) + 0) hp0_ hM8 (sub_apX 0))) <| RD.go [] [9, 10] [] <| RD.en ((ins.getD i dI).dx = (ins.getD i dI).dx) 83 (fun h25 => ?_) fun h25 => ?_
          · refine RD.goP [] [11, 12, 15, 16, 13, 17, 18, 19] [.nw, .ix i, .row 1 i 1] [((0 + i * 3) + 1) = i * 3 + 1 ∧ i < ci, (i : Int) = ((i : Nat) : Int) ∧ i < S.players.toNat, I64 ((playerAt S (i : Int)) + 1)] <| RD.cp [] 14 (fun X_ => (get_lit ((playerAt S (i : Int)) + 1) hp1_ hM8 (sub_apX 0))) <| RD.go [] [20, 21, 22] [] <| RD.en ((ins.getD i dI).dy = (ins.getD i dI).dy) 95 (fun h26 => ?_) fun h26 => ?_
            · refine RD.goP [] [23, 24, 27, 28, 25, 29, 30, 31] [.nw, .ix i, .row 1 i 2] [((0 + i * 3) + 2) = i * 3 + 2 ∧ i < ci, (i : Int) = ((i : Nat) : Int) ∧ i < S.players.toNat, I64 ((playerAt S (i : Int)) + 2)] <| RD.cp [] 26 (fun X_ => (get_lit ((playerAt S (i : Int)) + 2) hp2_ hM8 (sub_apX 0))) <| RD.go [] [32, 33] [] <| RD.fin <| RN.go 1 [] fun _ => RN.en ((ins.getD i dI).act = (ins.getD i dI).act) 106 (fun h27 => ?_) fun h27 => ?_
              · refine RN.goP 9 [.nw] [I64 ((i : Int) + 1)] fun _ => ?_
                refine mt21 (i + 1) [0, 1, 2, 3, 4, 5] [0, 1, 2] ?_
                try dsimp only
                exact ⟨by omega, by omega⟩
              · exact absurd rfl h27
            · exact absurd rfl h26
          · exact absurd rfl h25
        · refine RN.go 5 [] fun _ => RN.fx 67 e1_ <| RN.go 9 (ow 4 16) fun _ => RN.cp (rplayer_any S (i : Int) _ hSN) ?_
          have hb28 := playerAt_bd hSN (i : Int)
          refine RN.go 4 [] fun _ => ?_
          obtain ⟨hpa_, hp0_, hp1_, hp2_⟩ := pl_get (M := (trM (⟨S, cA, cn, cc, e0, e1, e2, 0, ib, 0, S.players.toNat, ci, ci, ins, code⟩ : Gm) M_)) (i := i) (by omega) (hpl2 i (by omega))
          refine RN.draw [] [] <| RD.goP [] [0, 1, 4, 5, 2, 6, 7, 8] [.nw, .ix i, .row 1 i 0] [(0 + i * 3) = i * 3 + 0 ∧ i < ci, (i : Int) = ((i : Nat) : Int) ∧ i < S.players.toNat, I64 ((playerAt S (i : Int)) + 0)] <| RD.cp [] 3 (fun X_ => (get_lit ((playerAt S (i : Int)) + 0) hp0_ hM8 (sub_apX 0))) <| RD.go [] [9, 10] [] <| RD.en ((ins.getD i dI).dx = (ins.getD i dI).dx) 83 (fun h29 => ?_) fun h29 => ?_
          · refine RD.goP [] [11, 12, 15, 16, 13, 17, 18, 19] [.nw, .ix i, .row 1 i 1] [((0 + i * 3) + 1) = i * 3 + 1 ∧ i < ci, (i : Int) = ((i : Nat) : Int) ∧ i < S.players.toNat, I64 ((playerAt S (i : Int)) + 1)] <| RD.cp [] 14 (fun X_ => (get_lit ((playerAt S (i : Int)) + 1) hp1_ hM8 (sub_apX 0))) <| RD.go [] [20, 21, 22] [] <| RD.en ((ins.getD i dI).dy = (ins.getD i dI).dy) 95 (fun h30 => ?_) fun h30 => ?_
            · refine RD.goP [] [23, 24, 27, 28, 25, 29, 30, 31] [.nw, .ix i, .row 1 i 2] [((0 + i * 3) + 2) = i * 3 + 2 ∧ i < ci, (i : Int) = ((i : Nat) : Int) ∧ i < S.players.toNat, I64 ((playerAt S (i : Int)) + 2)] <| RD.cp [] 26 (fun X_ => (get_lit ((playerAt S (i : Int)) + 2) hp2_ hM8 (sub_apX 0))) <| RD.go [] [32, 33] [] <| RD.fin <| RN.go 1 [] fun _ => RN.en ((ins.getD i dI).act = (ins.getD i dI).act) 106 (fun h31 => ?_) fun h31 => ?_
              · refine RN.goP 9 [.nw] [I64 ((i : Int) + 1)] fun _ => ?_
                refine mt21 (i + 1) [0, 1, 2, 3, 4, 5] [0, 1, 2] ?_
                try dsimp only
                exact ⟨by omega, by omega⟩
              · exact absurd rfl h31
            · exact absurd rfl h30
          · exact absurd rfl h29
      · refine RN.go 19 [] fun _ => RN.fx 107 e1_ <| RN.go 3 [] fun _ => RN.cp (lives_any _ (ro_ap hE)) <| RN.go 3 [] fun _ => ?_
        exact RN.ret [] [] [] ⟨rfl, rfl⟩
  · (exfalso; omega)
end Go.Proofs.YtampdcgphdnnhaaGreatDoor
