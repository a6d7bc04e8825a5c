/- Contracts, printed by a program. -/
import Derived.Test.YtampdcgphdnnhaaGreatDoorU46
namespace Go.Proofs.YtampdcgphdnnhaaGreatDoor
set_option linter.unusedSimpArgs false
set_option linter.unusedVariables false
open Go.RowKit
set_option maxHeartbeats 4000000 in
set_option maxRecDepth 100000 in
theorem effs_any (A A1 A2 : Option Addr) (n cap nz cz ny cy : Nat) (xs zs ys : List Int) (ticks : Int) (F : HL) (hE : EffIn F) (hE2 : CefIn F) (hl : ArgD F A n xs) (hn : n ≤ 9223372036854775807) (hl1 : ArgD F A1 nz zs) (hn1 : nz ≤ 9223372036854775807) (hc1 : nz ≤ cz) (hl2 : ArgD F A2 ny ys) (hn2 : ny ≤ 9223372036854775807) (hticks : i64r ticks) : Sp Tryz.prog 5 #[.slice A n cap, .slice A1 nz cz, .slice A2 ny cy, vI ticks] [] F (fun u H' => u = .bool true ∧ H' = []) := by
  obtain ⟨F_, hl_⟩ := hl.ex
  refine Sp.run Tryz.func5 rfl mn (A := []) (Ts := []) rfl fun w0 => ?_
  refine RN.go 8 [] fun _ => RN.ct (Hp := []) (Tp := []) [] [] (hl.up.use fun F_ h_ => setup_ap A n cap xs _ h_ hn) ?_
  rintro _ ⟨S, TS⟩ ⟨rfl, hG⟩
  dsimp only at hG
  have hV := setV hl_ hG
  refine RN.go 7 (ow 0 16) fun n1 => RN.ct (Hp := []) (Tp := []) [] [] (lprog_any A1 nz cz zs _ hl1.up hn1 hc1 (ro_ap hE2)) ?_
  rintro _ ⟨code, cA, cn, cc, cT, e0, e1, e2⟩ ⟨rfl, hcode⟩
  dsimp only at hcode
  refine RN.go 5 [.own 0, .own 0, .own 0, .own 0] fun n2 => ?_
  have hpl := hV.pl
  have hnb := hV.nb
  have hsz : (sizeOf S).toNat ≤ 1000000 := by unfold sizeOf; omega
  have hbd := bound_ok hV
  have hSN := hV.sn
  refine RN.go 2 (ow 1 16) fun _ => RN.ct (Hp := []) (Tp := []) [] [] (rinit_ap S _ (hG.sin _ (in_ap 2) (sub_ap 1))) ?_
  rintro _ q3 rfl
  refine RN.ct (Hp := []) (Tp := []) [] [] (newn_any q3 (iniL S S.nb) ((sizeOf S).toNat) 100000000 ((sizeOf S).toNat) _ (iniL_len _ _) (in_ap 0) hsz (by decide) (Nat.le_refl _)) ?_
  rintro _ ⟨mb, T⟩ ⟨rfl, hM⟩
  dsimp only at hM
  refine RN.go 20 [] fun _ => RN.loop (σ := Nat × MemS × HL) (fun ⟨t, M_, T_⟩ => ⟨[(2, .slice A2 ny cy), (3, vI ticks), (9, vP (n1 + 0) 0), (10, vP (n2 + 0) 0), (11, vP mb 0), (12, vI (t : Int))], [(q3, .rows 1 ((sizeOf S).toNat) (irow (iniL S S.nb)) 3 (0, 0)), ((n2 + 0), .lit [.slice cA cn cc, vI e0, vI e1, vI e2] 36 (0, 0)), ((n1 + 0), .lit (Setup.l S) 31 (0, 0)), (S.bb, .rows 9 S.bR (brow S.bods) 76 (0, 0))], [T_, cT, TS], t ≤ 5 ∧ TE2 S (t : Int) M_ ∧ MemH mb M_ (13000 * (6 - t)) T_, 5 - t⟩) (0, ⟨(iniL S S.nb), [], 0⟩, T) [0, 1, 2, 3] [0, 1, 2] (⟨by omega, ini_te2 hV, hM.weak (by omega)⟩) ?_
  rintro ⟨t, M_, T_⟩ ⟨ht_, hte, hM_⟩ mt5
  refine RN.go 5 [] fun _ => RN.cp (around_any ticks 5 (by decide) _) ?_
  have hA6 := around_bd (n := ticks) hticks 5 (by decide)
  refine RN.go 3 [] fun _ => RN.em ((t : Int) < around ticks 5) 28 (fun h7 => ?_) fun h7 => ?_
  · refine RN.go 6 [] fun _ => RN.draw [9] [] <| RD.go [] [0, 1, 2, 3, 4, 5, 7] (ow 2 16 ++ [.own 1, .own 1, .own 1, .own 1] ++ ow 2 32) <| RD.one 6 (RDO.ct [] (Hp := []) (Tp := []) [] [] (hl2.up.use fun F_ h_ => row_blk S A2 ny cy ys (t : Int) _ h_ hn2 (by omega) (by omega)) ?_)
    rintro _ ⟨ib, ci, ins⟩ ⟨rfl, hic1, hins⟩
    dsimp only at hic1 hins
    obtain ⟨m, hm, hgood, hte2, hnum, h11, h40⟩ := tickE hV (g := (⟨S, cA, cn, cc, e0, e1, e2, 0, ib, 0, S.players.toNat, ci, ci, ins, code⟩ : Gm)) rfl (by show S.players ≤ ((S.players.toNat : Nat) : Int); omega) (t := (t : Int)) (by omega) hte
    refine RD.cp [] 8 (fun X_ => (bound_any S _)) <| RD.one 9 (RDO.ct [] [] [0] (count_any (⟨S, cA, cn, cc, e0, e1, e2, 0, ib, 0, S.players.toNat, ci, ci, ins, code⟩ : Gm) mb M_ (13000 * (5 - t)) m (boundI S) T_ _ (hM_.weak (by omega)) ⟨(hG.sin _ (in_ap 4) (sub_ap 1)), in_ap 0, by show 0 + S.players.toNat ≤ ci ∧ S.players.toNat ≤ 1000000; omega, ro_ap hE, hcode _ (sub_ap 0)⟩ rfl hgood (by omega) (by omega)) ?_)
    rintro _ ⟨T8, A9, c10, E11⟩ ⟨hM12, hs13, rfl⟩
    dsimp only at hM12 hs13
    generalize runM (⟨S, cA, cn, cc, e0, e1, e2, 0, ib, 0, S.players.toNat, ci, ci, ins, code⟩ : Gm) (m + 1) M_ = M2 at *
    generalize effsV (⟨S, cA, cn, cc, e0, e1, e2, 0, ib, 0, S.players.toNat, ci, ci, ins, code⟩ : Gm) (m + 1) M_ = es at *
    refine RD.go [] [10, 11, 12, 13, 14] [] <| RD.fin <| RN.go 8 [] fun _ => RN.em ((es.length : Int) > 40) 47 (fun h14 => ?_) fun h14 => ?_
    · (exfalso; omega)
    · refine RN.go 1 [] fun _ => RN.cp (get_lit 11 h11 hM12 (sub_ap 0)) <| RN.go 6 [] fun _ => RN.en ((es.length : Int) = (es.length : Int)) 53 (fun h15 => ?_) fun h15 => ?_
      · refine RN.go 9 [] fun _ => RN.loop (σ := Nat) (fun b => ⟨[(2, .slice A2 ny cy), (3, vI ticks), (9, vP (n1 + 0) 0), (10, vP (n2 + 0) 0), (11, vP mb 0), (12, vI (t : Int)), (14, .slice A9 es.length c10), (15, vI (b : Int))], [(ib, .rows 3 ci (inrow ins) 57 (0, 0)), (q3, .rows 1 ((sizeOf S).toNat) (irow (iniL S S.nb)) 3 (0, 0)), ((n2 + 0), .lit [.slice cA cn cc, vI e0, vI e1, vI e2] 36 (0, 0)), ((n1 + 0), .lit (Setup.l S) 31 (0, 0)), (S.bb, .rows 9 S.bR (brow S.bods) 76 (0, 0))], [T8, E11, cT, TS], b ≤ es.length, es.length - b⟩) 0 [0, 1, 2, 3, 4] [0, 1, 2, 3] (Nat.zero_le _) ?_
        rintro b hb_ mt17
        refine RN.go 9 [] fun _ => RN.em ((b : Int) < (es.length : Int)) 57 (fun h18 => ?_) fun h18 => ?_
        · refine RN.go 7 [] fun _ => ?_
          obtain ⟨eb, eo, efull, rfl, rfl, hefl, hecc, heg⟩ := hs13.open (by omega)
          have hq1_ := heg b (by omega)
          have hq2_ := hnum b (by omega)
          rw [show es.getD b eff0 = efull.getD (eo + b) eff0 from hq1_.symm] at hq2_
          refine RN.ot 1 (x := (eb, .rows 4 (eo + c10) (rowE effE efull) 52 (0, 0))) <| RN.goP 8 [.ix b, .row 0 (eo + b) 0] [(eo * 4 + b * 4) = (eo + b) * 4 + 0 ∧ (eo + b) < (eo + c10), (b : Int) = ((b : Nat) : Int) ∧ b < es.length] fun _ => RN.en ((efull.getD (eo + b) eff0).t = (t : Int)) 67 (fun h19 => ?_) fun h19 => ?_
          · refine RN.goP 10 [.ix b, .row 0 (eo + b) 1] [((eo * 4 + b * 4) + 1) = (eo + b) * 4 + 1 ∧ (eo + b) < (eo + c10), (b : Int) = ((b : Nat) : Int) ∧ b < es.length] fun _ => RN.en ((efull.getD (eo + b) eff0).i = (b : Int)) 75 (fun h20 => ?_) fun h20 => ?_
            · refine RN.goP 9 [.nw] [I64 ((b : Int) + 1)] fun _ => RN.ctl 0 ?_
              refine mt17 (b + 1) [0, 1, 2, 3, 4] [1, 0, 2, 3] ?_
              try dsimp only
              exact ⟨by omega, by omega⟩
            · (exfalso; have := hq2_.2; omega)
          · exact absurd hq2_.1 h19
        · refine RN.goP 12 [.nw] [I64 ((t : Int) + 1)] fun _ => ?_
          refine mt5 (t + 1, M2, T8) [1, 2, 3, 4] [0, 2, 3] ?_
          try dsimp only
          refine ⟨⟨by omega, hte2, hM12.weak (by omega)⟩, by omega⟩
      · exact absurd rfl h15
  · refine RN.go 8 [] fun _ => RN.cp (lives_any _ (ro_ap hE)) <| RN.go 3 [] fun _ => ?_
    exact RN.ret [] [] [] ⟨rfl, rfl⟩
end Go.Proofs.YtampdcgphdnnhaaGreatDoor
