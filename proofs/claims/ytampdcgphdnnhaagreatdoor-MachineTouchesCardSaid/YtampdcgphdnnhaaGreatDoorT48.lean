/- A caller's list of numbers, whatever form its block is written in. -/
import Derived.Test.YtampdcgphdnnhaaGreatDoorT27
import Derived.Test.YtampdcgphdnnhaaGreatDoorT47
import Derived.Test.YtampdcgphdnnhaaGreatDoorT33
import Derived.Test.YtampdcgphdnnhaaGreatDoorT40
import Derived.Test.YtampdcgphdnnhaaGreatDoorT29
namespace Go.Proofs.YtampdcgphdnnhaaGreatDoor
set_option linter.unusedSimpArgs false
set_option linter.unusedVariables false
open Go.RowKit
theorem Sp.den {P : Program} {f : FuncId} {args : Array Value} {H F F' : HL} {R : Value → HL → Prop} (h : Sp P f args H F R) (e : denL F = denL F') : Sp P f args H F' R := by
  have e2 : ∀ X : HL, denL (X ++ F) = denL (X ++ F') := fun X => by simp only [denL, List.map_append] at e ⊢; rw [e]
  intro w hR
  refine (h w (hR.den (e2 H).symm)).mono ?_
  rintro e' w' ⟨v, H', h1, h2, h3, h4⟩
  exact ⟨v, H', h1, h2, h3.den (e2 H'), h4⟩
def ArgD (F : HL) (A : Option Addr) (n : Nat) (xs : List Int) : Prop := ∃ F', denL F' = denL F ∧ ArgL F' A n xs
theorem ArgL.d {F F' : HL} {A : Option Addr} {n : Nat} {xs : List Int} (h : ArgL F A n xs) (e : denL F = denL F') : ArgD F' A n xs := ⟨F, e, h⟩
theorem ArgD.up {F X : HL} {A : Option Addr} {n : Nat} {xs : List Int} (h : ArgD F A n xs) : ArgD (X ++ F) A n xs := by
  obtain ⟨F', e, h⟩ := h
  exact ⟨X ++ F', by simp only [denL, List.map_append] at e ⊢; rw [e], h.up⟩
theorem ArgD.ex {F : HL} {A : Option Addr} {n : Nat} {xs : List Int} (h : ArgD F A n xs) : ∃ F', ArgL F' A n xs := by
  obtain ⟨F', e, h⟩ := h
  exact ⟨F', h⟩
theorem ArgD.use {F : HL} {A : Option Addr} {n : Nat} {xs : List Int} (h : ArgD F A n xs) {P : Program} {f : FuncId} {args : Array Value} {H : HL} {R : Value → HL → Prop} (k : ∀ F', ArgL F' A n xs → Sp P f args H F' R) : Sp P f args H F R := by
  obtain ⟨F', e, h⟩ := h
  exact (k F' h).den e
end Go.Proofs.YtampdcgphdnnhaaGreatDoor
/- Contracts, printed by a program. -/
namespace Go.Proofs.YtampdcgphdnnhaaGreatDoor
set_option linter.unusedSimpArgs false
set_option linter.unusedVariables false
open Go.RowKit
theorem CodeIn.of {l : List Ins} {A : Option Addr} {c : Nat} {T : HL} (hs : SlIs insE 142 l A c T) (hz : zeroOff A) (hl : l.length ≤ 400) : ∃ code, ∀ F : HL, (∀ y ∈ T, y ∈ F) → CodeIn F code A l.length := by
  by_cases h : l = []
  · subst h; exact ⟨[], fun F _ => .nil A⟩
  · obtain ⟨b, rest, rfl, rfl, hc⟩ := hs.openL hz (by decide) (List.length_pos_iff.2 h)
    exact ⟨l ++ rest, fun F hF => .mk b c l.length (hF _ (List.mem_singleton.2 rfl)) (by rw [← hc, List.length_append]; omega) (by omega)⟩
abbrev prgR (u : Value) (H' : HL) : Prop := ∃ x : List Ins × Option Addr × Nat × Nat × HL × Int × Int × Int, H' = ap [] [x.2.2.2.2.1] ∧ (u = .agg #[.slice x.2.1 x.2.2.1 x.2.2.2.1, vI x.2.2.2.2.2.1, vI x.2.2.2.2.2.2.1, vI x.2.2.2.2.2.2.2] ∧ ∀ F : HL, (∀ y ∈ x.2.2.2.2.1, y ∈ F) → CodeIn F x.1 x.2.1 x.2.2.1)

set_option maxHeartbeats 1000000 in
set_option maxRecDepth 100000 in
theorem lprog_any (A : Option Addr) (n cap : Nat) (xs : List Int) (F : HL) (hl : ArgD F A n xs) (hn : n ≤ 9223372036854775807) (hc : n ≤ cap) (hE : CefIn F) : Sp Tryz.prog 9 #[.slice A n cap] [] F prgR := by
  obtain ⟨F_, hl_⟩ := hl.ex
  refine Sp.run Tryz.func9 rfl mn (A := []) (Ts := []) rfl fun w0 => ?_
  refine RN.go 8 [] fun n1 => RN.ct (Hp := []) (Tp := []) [] [] (prog_any A n cap (min n 60) xs _ (by rw [List.length_take]; omega) (hl_.take (Nat.min_le_left _ _)) (fun X => hl.up.up.use fun F_ h_ => ints_any A n cap xs _ h_ hn hc (min n 60) rfl)) ?_
  rintro _ ⟨⟨x2, y3, z4⟩, T5⟩ ⟨rfl, h6, h7, h8⟩
  dsimp only at h6 h7 h8
  refine RN.ct (Hp := []) (Tp := []) [] [] (comp_any x2 y3 z4 _ h6.1 h7.1 h8.1 (h6.2 _ (sub_ap 0)) (h7.2 _ (sub_ap 0)) (h8.2 _ (sub_ap 0)) (ro_ap hE)) ?_
  rintro _ ⟨l9, A10, c11, T12, e13, e14, e15, er16⟩ ⟨rfl, hs17, hz18, hl19⟩
  dsimp only at hs17 hz18 hl19
  refine RN.go 15 [.own 0, .own 0, .own 0, .own 0] fun n20 => RN.en (er16 = 0) 12 (fun h21 => ?_) fun h21 => ?_
  · refine RN.go 9 [.own 0, .own 0, .own 0, .own 0, .own 1, .own 1, .own 1, .own 1] fun _ => RN.ret [.own 1, .own 1, .own 1, .own 1] [] [0] (v := .agg #[.slice A10 l9.length c11, vI e13, vI e14, vI e15]) (H' := (ap [] [T12])) ?_
    obtain ⟨code, hcode⟩ := CodeIn.of hs17 hz18 hl19
    exact ⟨(code, A10, l9.length, c11, T12, e13, e14, e15), rfl, rfl, hcode⟩
  · refine RN.go 3 [] fun _ => RN.cp (none_any _) <| RN.go 3 [.own 1, .own 1, .own 1, .own 1] fun _ => RN.ret [.own 1, .own 1, .own 1, .own 1] [] [] (v := .agg #[.slice none 0 0, vI (-1), vI (-1), vI (-1)]) (H' := (ap [] [])) ?_
    exact ⟨([], none, 0, 0, [], (-1), (-1), (-1)), by simp [ap], rfl, fun F _ => .nil _⟩
end Go.Proofs.YtampdcgphdnnhaaGreatDoor
/- Ticks of a generated setup: the bound, the first memory. -/
namespace Go.Proofs.YtampdcgphdnnhaaGreatDoor
set_option linter.unusedSimpArgs false
set_option linter.unusedVariables false
open Go.RowKit
def bndN (p n r f : Int) : Int := IntKind.i64.wrap ((IntKind.i64.wrap ((IntKind.i64.wrap ((IntKind.i64.wrap ((IntKind.i64.wrap (p + (IntKind.i64.wrap ((IntKind.i64.wrap ((IntKind.i64.wrap (p + 1)) + n)) * (IntKind.i64.wrap (f + 3)))))) + (IntKind.i64.wrap (2 * n)))) + 3)) + (IntKind.i64.wrap ((IntKind.i64.wrap ((IntKind.i64.wrap (r * n)) * (IntKind.i64.wrap (n - 1)))).tdiv 2)))) + (IntKind.i64.wrap (n * (IntKind.i64.wrap (n + 1)))))
theorem boundI_eq (S : Setup) : boundI S = bndN S.players S.nb S.rounds S.fuel := rfl
theorem bound_ok {S : Setup} (hS : SetV S) : l0 S.players S.nb S.rounds 0 ≤ boundI S ∧ boundI S ≤ 650 := by
  have hp := hS.pl
  have hn := hS.nb
  have hr := hS.ro
  rw [boundI_eq, hS.fu]
  have key : ∀ p : Fin 3, ∀ n : Fin 5, ∀ r : Fin 3, l0 ((p.1 + 1 : Nat) : Int) ((n.1 + 1 : Nat) : Int) ((r.1 + 1 : Nat) : Int) 0 ≤ bndN ((p.1 + 1 : Nat) : Int) ((n.1 + 1 : Nat) : Int) ((r.1 + 1 : Nat) : Int) 60 ∧ bndN ((p.1 + 1 : Nat) : Int) ((n.1 + 1 : Nat) : Int) ((r.1 + 1 : Nat) : Int) 60 ≤ 650 := by decide +kernel
  have := key ⟨S.players.toNat - 1, by omega⟩ ⟨S.nb - 1, by omega⟩ ⟨S.rounds.toNat - 1, by omega⟩
  dsimp only at this
  rwa [show ((S.players.toNat - 1 + 1 : Nat) : Int) = S.players by omega, show S.nb - 1 + 1 = S.nb by omega, show ((S.rounds.toNat - 1 + 1 : Nat) : Int) = S.rounds by omega] at this
theorem setV {xs : List Int} {F : HL} {A : Option Addr} {n : Nat} (hl : ArgL F A n xs) {S : Setup} {T : HL} (h : SetG xs S T) : SetV S := by
  have h1 := sCnt_bd hl
  have h2 := sPl_bd hl
  have hn := h.nb
  have k2 := kv_bd hl 2
  obtain ⟨e1, e2, e3, e4, e5, e6, e7, e8⟩ := h.nums
  exact ⟨by rw [h.pl]; exact h2, by omega, by rw [e7]; omega, e8⟩
theorem vgetD_ne {l : List Int} {i j : Nat} {v : Int} (h : i ≠ j) : (l.set i v).getD j 0 = l.getD j 0 := by
  rw [List.getD_eq_getElem?_getD, List.getD_eq_getElem?_getD, List.getElem?_set_ne h]
theorem viniL_low {S : Setup} (hp : 0 ≤ S.players) {j : Nat} (hj : j < 48) : ∀ i, i ≤ S.nb → (iniL S i).getD j 0 = 0
  | 0, _ => by
    rw [iniL, List.getD_eq_getElem?_getD, List.getElem?_replicate]
    split <;> rfl
  | i + 1, hi => by
    have hb : bodyAt S (i : Int) = 48 + 4 * S.players + 8 * (i : Int) := by
      rcases vbodyAt hp (i : Int) with e | ⟨_, _, e⟩
      · unfold bodyAt at e
        rw [if_neg (by omega), if_neg (by omega)] at e; omega
      · exact e
    rw [iniL, vgetD_ne (by omega), vgetD_ne (by omega), vgetD_ne (by omega), vgetD_ne (by omega), vgetD_ne (by omega), vgetD_ne (by omega)]
    exact viniL_low hp hj i (by omega)
/-- between ticks -/
structure TE2 (S : Setup) (t : Int) (M : MemS) : Prop where
  len : (M.cs.length : Int) = sizeOf S
  z : ∀ k : Int, 1 ≤ k → k ≤ 10 → M.get k = 0
  t0 : M.get 0 = t
theorem ini_te2 {S : Setup} (hS : SetV S) : TE2 S 0 ⟨iniL S S.nb, [], 0⟩ := by
  have hp := hS.pl
  have hlen : (((⟨iniL S S.nb, [], 0⟩ : MemS).cs.length : Nat) : Int) = sizeOf S := by
    show ((iniL S S.nb).length : Int) = _
    rw [iniL_len]; unfold sizeOf; omega
  have g : ∀ k : Int, 0 ≤ k → k < 48 → (⟨iniL S S.nb, [], 0⟩ : MemS).get k = 0 := fun k h0 h1 => by
    unfold MemS.get
    split
    · exact viniL_low (by omega) (by omega) S.nb (Nat.le_refl _)
    · rfl
  exact ⟨hlen, fun k h1 h2 => g k (by omega) (by omega), g 0 (by omega) (by omega)⟩
theorem TE2.tv {S : Setup} (hS : SetV S) {t : Int} (ht : 0 ≤ t ∧ t ≤ 1000) {M : MemS} (h : TE2 S t M) (ins : Nat → Inp) : TV S ins M ∧ lfM S M = l0 S.players S.nb S.rounds 0 ∧ stV M := by
  have h1 := h.z 1 (by omega) (by omega)
  have h2 := h.z 2 (by omega) (by omega)
  have hp := hS.pl
  refine ⟨⟨h.len, by rw [h.t0]; omega, by rw [h1, h2]; exact .inl ⟨rfl, by omega, by omega⟩, fun q hq => by rw [h1, if_pos rfl, h2] at hq; omega, .inl ⟨h1, h2⟩⟩, ?_, h1, h2⟩
  unfold lfM
  rw [h1, h2]; rfl
theorem tickE {S : Setup} (hS : SetV S) {g : Gm} (hg : g.S = S) (hni : S.players ≤ g.ni) {t : Int} (ht : 0 ≤ t ∧ t ≤ 1000) {M : MemS} (h : TE2 S t M) : ∃ m, ((m + 1 : Nat) : Int) ≤ boundI S ∧ goodRun g (m + 1) M ∧ TE2 S (t + 1) (runM g (m + 1) M) ∧
    Numb t 0 (effsV g (m + 1) M) ∧ (runM g (m + 1) M).get 11 = ((effsV g (m + 1) M).length : Int) ∧ ((effsV g (m + 1) M).length : Int) ≤ 40 := by
  obtain ⟨h1, h2, h3⟩ := h.tv hS ht (fun q => g.ins.getD (g.io + q) dI)
  have hb := bound_ok hS
  have hpos := lfV_pos hS.pl ⟨by have := hS.nb; omega, by have := hS.nb; omega⟩ hS.ro h1.ct
  unfold lfM at h2
  obtain ⟨m, a1, a2, a3, a4, a5, a6, a7, a8⟩ := tick_ok hS hg (fun _ _ => rfl) hni (l0 S.players S.nb S.rounds 0).toNat M h1 (by unfold lfM; omega)
  rw [if_pos h3] at a6 a7
  rw [h.t0] at a5 a6
  exact ⟨m, by omega, a2, ⟨a4, a3, a5⟩, a6, by rw [a7]; omega, by omega⟩
end Go.Proofs.YtampdcgphdnnhaaGreatDoor
/- Contracts, printed by a program. -/
namespace Go.Proofs.YtampdcgphdnnhaaGreatDoor
set_option linter.unusedSimpArgs false
set_option linter.unusedVariables false
open Go.RowKit
theorem SetV.sn {S : Setup} (h : SetV S) : SetN S := ⟨⟨by have := h.pl; omega, by have := h.pl; omega⟩, by have := h.nb; omega⟩

theorem row_blk (S : Setup) (A : Option Addr) (n cap : Nat) (xs : List Int) (t : Int) (F : HL) (hl : ArgL F A n xs) (hn : n ≤ 9223372036854775807) (hp : 1 ≤ S.players ∧ S.players ≤ 1000000) (ht : 0 ≤ t ∧ t ≤ 1000000) : Sp Tryz.prog 15 #[Setup.v S, .slice A n cap, vI t] (ap [] []) F (fun u H' => ∃ x : Nat × Nat × List Inp, H' = ap [(x.1, .rows 3 x.2.1 (inrow x.2.2) 57 (0, 0))] [] ∧ (u = vS x.1 0 S.players.toNat x.2.1 ∧ S.players.toNat ≤ x.2.1 ∧ ∀ i, i < S.players.toNat → x.2.2.getD i dI = rowI S.players xs t i)) := by
  refine (row_any S A n cap xs t F hl hn (by omega) ht).mono fun u H' h => ?_
  obtain ⟨⟨Ai, ci, Ti⟩, rfl, rfl, hsi, hzi⟩ := h
  dsimp only at hsi hzi
  obtain ⟨ib, irest, rfl, rfl, hic⟩ := hsi.open0 hzi (by decide) (by rw [rowL_len]; omega)
  rw [rowL_len] at hic
  exact ⟨(ib, ci, rowL S.players xs t S.players.toNat ++ irest), by simp; rfl, rfl, hic, fun i hi => by
    rw [List.getD_eq_getElem?_getD, List.getElem?_append_left (by rw [rowL_len]; exact hi), ← List.getD_eq_getElem?_getD, rowL_get hi]⟩
theorem setup_ap (A : Option Addr) (n cap : Nat) (xs : List Int) (F : HL) (hl : ArgL F A n xs) (hn : n ≤ 9223372036854775807) : Sp Tryz.prog 8 #[.slice A n cap] (ap [] []) F (fun u H' => ∃ x : Setup × HL, H' = ap [(x.1.bb, .rows 9 x.1.bR (brow x.1.bods) 76 (0, 0))] [x.2] ∧ (u = Setup.v x.1 ∧ SetG xs x.1 x.2)) := setup_any A n cap xs F hl hn

set_option maxHeartbeats 4000000 in
set_option maxRecDepth 100000 in
theorem ends_any (A A1 A2 : Option Addr) (n cap nz cz ny cy : Nat) (xs zs ys : List Int) (ticks : Int) (F : HL) (hE : EffIn F) (hE2 : CefIn F) (hl : ArgD F A n xs) (hn : n ≤ 9223372036854775807) (hl1 : ArgD F A1 nz zs) (hn1 : nz ≤ 9223372036854775807) (hc1 : nz ≤ cz) (hl2 : ArgD F A2 ny ys) (hn2 : ny ≤ 9223372036854775807) (hticks : i64r ticks) : Sp Tryz.prog 3 #[.slice A n cap, .slice A1 nz cz, .slice A2 ny cy, vI ticks] [] F (fun u H' => u = .bool true ∧ H' = []) := by
  obtain ⟨F_, hl_⟩ := hl.ex
  refine Sp.run Tryz.func3 rfl mn (A := []) (Ts := []) rfl fun w0 => ?_
  refine RN.go 8 [] fun _ => RN.ct (Hp := []) (Tp := []) [] [] (hl.up.use fun F_ h_ => setup_ap A n cap xs _ h_ hn) ?_
  rintro _ ⟨S, TS⟩ ⟨rfl, hG⟩
  dsimp only at hG
  have hV := setV hl_ hG
  refine RN.go 7 (ow 0 16) fun n1 => RN.ct (Hp := []) (Tp := []) [] [] (lprog_any A1 nz cz zs _ hl1.up hn1 hc1 (ro_ap hE2)) ?_
  rintro _ ⟨code, cA, cn, cc, cT, e0, e1, e2⟩ ⟨rfl, hcode⟩
  dsimp only at hcode
  refine RN.go 5 [.own 0, .own 0, .own 0, .own 0] fun n2 => ?_
  have hpl := hV.pl
  have hnb := hV.nb
  have hsz : (sizeOf S).toNat ≤ 1000000 := by unfold sizeOf; omega
  have hbd := bound_ok hV
  have hSN := hV.sn
  refine RN.go 2 (ow 1 16) fun _ => RN.ct (Hp := []) (Tp := []) [] [] (rinit_ap S _ (hG.sin _ (in_ap 2) (sub_ap 1))) ?_
  rintro _ q3 rfl
  refine RN.ct (Hp := []) (Tp := []) [] [] (newn_any q3 (iniL S S.nb) ((sizeOf S).toNat) 100000000 ((sizeOf S).toNat) _ (iniL_len _ _) (in_ap 0) hsz (by decide) (Nat.le_refl _)) ?_
  rintro _ ⟨mb, T⟩ ⟨rfl, hM⟩
  dsimp only at hM
  refine RN.go 16 (ow 2 16) fun _ => RN.cp (bound_any S _) <| RN.go 10 [] fun _ => RN.loop (σ := Nat × MemS × HL) (fun ⟨t, M_, T_⟩ => ⟨[(2, .slice A2 ny cy), (3, vI ticks), (9, vP (n1 + 0) 0), (10, vP (n2 + 0) 0), (11, vP mb 0), (12, vI (boundI S)), (13, vI (t : Int))], [(q3, .rows 1 ((sizeOf S).toNat) (irow (iniL S S.nb)) 3 (0, 0)), ((n2 + 0), .lit [.slice cA cn cc, vI e0, vI e1, vI e2] 36 (0, 0)), ((n1 + 0), .lit (Setup.l S) 31 (0, 0)), (S.bb, .rows 9 S.bR (brow S.bods) 76 (0, 0))], [T_, cT, TS], t ≤ 5 ∧ TE2 S (t : Int) M_ ∧ MemH mb M_ (13000 * (6 - t)) T_, 5 - t⟩) (0, ⟨(iniL S S.nb), [], 0⟩, T) [0, 1, 2, 3] [0, 1, 2] (⟨by omega, ini_te2 hV, hM.weak (by omega)⟩) ?_
  rintro ⟨t, M_, T_⟩ ⟨ht_, hte, hM_⟩ mt5
  refine RN.go 5 [] fun _ => RN.cp (around_any ticks 5 (by decide) _) ?_
  have hA6 := around_bd (n := ticks) hticks 5 (by decide)
  refine RN.go 3 [] fun _ => RN.em ((t : Int) < around ticks 5) 31 (fun h7 => ?_) fun h7 => ?_
  · refine RN.go 6 [] fun _ => RN.draw [8] [] <| RD.go [] [0, 1, 2, 3, 4, 5, 7] (ow 2 16 ++ [.own 1, .own 1, .own 1, .own 1] ++ ow 2 16) <| RD.one 6 (RDO.ct [] (Hp := []) (Tp := []) [] [] (hl2.up.use fun F_ h_ => row_blk S A2 ny cy ys (t : Int) _ h_ hn2 (by omega) (by omega)) ?_)
    rintro _ ⟨ib, ci, ins⟩ ⟨rfl, hic1, hins⟩
    dsimp only at hic1 hins
    obtain ⟨m, hm, hgood, hte2, hnum, h11, h40⟩ := tickE hV (g := (⟨S, cA, cn, cc, e0, e1, e2, 0, ib, 0, S.players.toNat, ci, ci, ins, code⟩ : Gm)) rfl (by show S.players ≤ ((S.players.toNat : Nat) : Int); omega) (t := (t : Int)) (by omega) hte
    refine RD.one 8 (RDO.ct [] [] [0] (count_any (⟨S, cA, cn, cc, e0, e1, e2, 0, ib, 0, S.players.toNat, ci, ci, ins, code⟩ : Gm) mb M_ (13000 * (5 - t)) m (boundI S) T_ _ (hM_.weak (by omega)) ⟨(hG.sin _ (in_ap 4) (sub_ap 1)), in_ap 0, by show 0 + S.players.toNat ≤ ci ∧ S.players.toNat ≤ 1000000; omega, ro_ap hE, hcode _ (sub_ap 0)⟩ rfl hgood (by omega) (by omega)) ?_)
    rintro _ ⟨T8, A9, c10, E11⟩ ⟨hM12, hs13, rfl⟩
    dsimp only at hM12 hs13
    generalize runM (⟨S, cA, cn, cc, e0, e1, e2, 0, ib, 0, S.players.toNat, ci, ci, ins, code⟩ : Gm) (m + 1) M_ = M2 at *
    generalize effsV (⟨S, cA, cn, cc, e0, e1, e2, 0, ib, 0, S.players.toNat, ci, ci, ins, code⟩ : Gm) (m + 1) M_ = es at *
    refine RD.go [] [9, 10, 11, 12, 13] [] <| RD.fin <| RN.go 8 [] fun _ => RN.em (((m + 1 : Nat) : Int) > boundI S) 49 (fun h14 => ?_) fun h14 => ?_
    · (exfalso; omega)
    · refine RN.go 1 [] fun _ => RN.cp (get_lit 0 hte2.t0 hM12 (sub_ap 0)) <| RN.goP 6 [.nw] [I64 ((t : Int) + 1)] fun _ => RN.en ((t : Int) + 1 = (t : Int) + 1) 55 (fun h15 => ?_) fun h15 => ?_
      · refine RN.go 9 [] fun _ => RN.loop (σ := Nat) (fun i => ⟨[(2, .slice A2 ny cy), (3, vI ticks), (9, vP (n1 + 0) 0), (10, vP (n2 + 0) 0), (11, vP mb 0), (12, vI (boundI S)), (13, vI (t : Int)), (16, vI (i : Int))], [(ib, .rows 3 ci (inrow ins) 57 (0, 0)), (q3, .rows 1 ((sizeOf S).toNat) (irow (iniL S S.nb)) 3 (0, 0)), ((n2 + 0), .lit [.slice cA cn cc, vI e0, vI e1, vI e2] 36 (0, 0)), ((n1 + 0), .lit (Setup.l S) 31 (0, 0)), (S.bb, .rows 9 S.bR (brow S.bods) 76 (0, 0))], [T8, E11, cT, TS], 1 ≤ i ∧ i ≤ 11, 11 - i⟩) 1 [0, 1, 2, 3, 4] [0, 1, 2, 3] (⟨by omega, by omega⟩) ?_
        rintro i ⟨hi1_, hi2_⟩ mt17
        refine RN.go 7 [] fun _ => RN.em ((i : Int) ≤ 10) 57 (fun h18 => ?_) fun h18 => ?_
        · refine RN.go 9 [] fun _ => RN.cp (get_lit (i : Int) (hte2.z i (by omega) (by omega)) hM12 (sub_ap 0)) <| RN.goP 12 [.gen, .nw] [I64 ((i : Int) + 1)] fun _ => ?_
          refine mt17 (i + 1) [0, 1, 2, 3, 4] [0, 1, 2, 3] ?_
          try dsimp only
          exact ⟨⟨by omega, by omega⟩, by omega⟩
        · refine RN.goP 12 [.nw] [I64 ((t : Int) + 1)] fun _ => ?_
          refine mt5 (t + 1, M2, T8) [1, 2, 3, 4] [0, 2, 3] ?_
          try dsimp only
          refine ⟨⟨by omega, hte2, hM12.weak (by omega)⟩, by omega⟩
      · exact absurd rfl h15
  · refine RN.go 8 [] fun _ => RN.cp (lives_any _ (ro_ap hE)) <| RN.go 3 [] fun _ => ?_
    exact RN.ret [] [] [] ⟨rfl, rfl⟩
end Go.Proofs.YtampdcgphdnnhaaGreatDoor
