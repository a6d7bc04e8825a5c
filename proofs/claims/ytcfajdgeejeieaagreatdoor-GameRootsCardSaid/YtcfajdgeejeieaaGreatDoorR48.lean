import Derived.Test.YtcfajdgeejeieaaGreatDoorR47
set_option maxHeartbeats 4000000
set_option maxRecDepth 100000
set_option linter.unusedSimpArgs false
set_option linter.unusedVariables false
namespace Go.Proofs.YtcfajdgeejeieaaGreatDoor
open Go.RowKit
def u64E:Enc Int:=⟨1,λ p k=>match k with | 0=>.int .u64 p | _=>default,0⟩
noncomputable def u64EI:TypeInfo:=match Tryz.prog.info? 50 with | some i=>i | none=>⟨.bool,"",0,0,false,0,0,none,false,#[]⟩
noncomputable def u64EZ:Value:=match u64EI.zero with | some z=>z | none=>.bool false
theorem u64EOk:EncOk u64E Tryz.prog 50 u64EI u64EZ where
 info:=by kernel_rfl
 zero:=by kernel_rfl
 size:=by kernel_rfl
 zsize:=by kernel_rfl
 zcell:=λ k hk=>by
  have h:∀ k < 1,u64EZ.cells[k]?=some (u64E.cell u64E.dflt k):=by intro k hk;(iterate 1 (rcases k with _ | k;· kernel_rfl));omega
  exact h k hk
 one:=λ x k=>by unfold u64E;dsimp only;split <;> rfl
 bytes:=Nat.le_of_ble_eq_true (by kernel_rfl)
theorem u64_bd (x:Int):0 <= IntKind.u64.wrap x /\ IntKind.u64.wrap x < 18446744073709551616:=by
 simp [IntKind.wrap,IntKind.signed,IntKind.bits]
 omega
theorem u64_div (x:Int):IntKind.u64.wrap ((IntKind.u64.wrap x).tdiv 4294967296)=(IntKind.u64.wrap x).fdiv 4294967296:=by
 have h:=u64_bd x
 generalize IntKind.u64.wrap x=y at h ⊢
 rw [Int.tdiv_eq_ediv_of_nonneg h.1,Int.fdiv_eq_ediv_of_nonneg _ (by decide)]
 simp [IntKind.wrap,IntKind.signed,IntKind.bits]
 omega
theorem rmix_any (s w:Int) (F:HL):Sp Tryz.prog 165 #[.int .u64 s,.int .u64 w] [] F (λ u H'=>u=.int .u64 (mixH s w) /\ H'=[]):=by
 refine Sp.run Tryz.func165 rfl mn (A:=[]) (Ts:=[]) rfl λ w0=>?_
 refine RN.go 23 [] λ _=>RN.ret [] [] [] (v:=.int .u64 (IntKind.u64.wrap ((BitVec.ofInt 64 (IntKind.u64.wrap ((IntKind.u64.wrap ((BitVec.ofInt 64 s ^^^ BitVec.ofInt 64 w).toNat:Int)) * 11400714819323198485)) ^^^ BitVec.ofInt 64 (IntKind.u64.wrap ((IntKind.u64.wrap ((IntKind.u64.wrap ((BitVec.ofInt 64 s ^^^ BitVec.ofInt 64 w).toNat:Int)) * 11400714819323198485)).tdiv 4294967296))).toNat:Int))) (H':=[]) ?_
 refine ⟨congrArg (Value.int .u64) ?_,rfl⟩
 rw [u64_div]
 rfl
theorem rwords_leaf (q cap:Nat) (F:HL) (hq:(q,.rows 1 cap (brow8 ⟨#[108,101,97,102]⟩) 5 (cap,cap+1)) ∈ F) (hc:4 <= cap):Sp Tryz.prog 164 #[vS q 0 4 cap] [] F (λ u H'=>∃ x:Nat × Nat × List Int,H'=ap [(x.1,.rows 1 x.2.1 (rowE u64E ([1717658988]++x.2.2)) 50 (0,0))] [] /\ (u=vS x.1 0 1 x.2.1 /\ 1 <= x.2.1)):=by
 refine Sp.run Tryz.func164 rfl (mc hq mn) (A:=[]) (Ts:=[]) rfl λ w0=>?_
 refine RN.go 17 [] λ _=>RN.rounds 2<|RN.go 32 [] λ _=>RN.rounds 5<|RN.goP 142 [.rorow 0 3 0,.rorow 0 2 0,.rorow 0 1 0,.rorow 0 0 0] [0=0 * 1+0 /\ 0 < cap,1=1 * 1+0 /\ 1 < cap,2=2 * 1+0 /\ 2 < cap,3=3 * 1+0 /\ 3 < cap] λ _=>RN.sv 5 (congrArg (λ v_=>(.int .u64 v_:Value)) (show (IntKind.u64.wrap ((IntKind.u64.wrap (256 * (IntKind.u64.wrap ((IntKind.u64.wrap (256 * (IntKind.u64.wrap ((IntKind.u64.wrap (256 * (IntKind.u64.wrap (0+(IntKind.u64.wrap (byteI ⟨#[108,101,97,102]⟩ 3))))))+(IntKind.u64.wrap (byteI ⟨#[108,101,97,102]⟩ 2))))))+(IntKind.u64.wrap (byteI ⟨#[108,101,97,102]⟩ 1))))))+(IntKind.u64.wrap (byteI ⟨#[108,101,97,102]⟩ 0))):Int)=1717658988 by kernel_rfl))<|RN.go 4 [] λ n1=>RN.nt<|RN.app u64EOk ([]:List Int) [1717658988] 0 0 rfl (SlIs.nil _ _) (by decide) ?_
 rintro A2 c3 T4 ⟨hs5,hz6⟩
 refine RN.go 31 [] λ _=>RN.ret [] [] [0] (v:=.slice A2 1 c3) (H':=(ap [] [T4])) ?_
 obtain ⟨b_,r_,rfl,rfl,hc_⟩:=hs5.open0 (hz6 trivial) (by decide) (by decide)
 exact ⟨(b_,c3,r_),rfl,rfl,hc_⟩
theorem rwords_leaf_ap (q cap:Nat) (F:HL) (hq:(q,.rows 1 cap (brow8 ⟨#[108,101,97,102]⟩) 5 (cap,cap+1)) ∈ F) (hc:4 <= cap):Sp Tryz.prog 164 #[vS q 0 4 cap] (ap [] []) F (λ u H'=>∃ x:Nat × Nat × List Int,H'=ap [(x.1,.rows 1 x.2.1 (rowE u64E ([1717658988]++x.2.2)) 50 (0,0))] [] /\ (u=vS x.1 0 1 x.2.1 /\ 1 <= x.2.1)):=rwords_leaf q cap F hq hc
theorem rsumL_leaf (a b:Int):mixH (mixH (mixH (mixH (mixH (mixH 0 1717658988) 4) 2) (IntKind.u64.wrap a)) (IntKind.u64.wrap b)) 0=sumH ⟨#[108,101,97,102]⟩ [a,b]:=by kernel_rfl
theorem rsum_leaf (a b:Int) (r:Nat) (F:HL) (hr:(r,.lit [vI a,vI b] 3 (0,0)) ∈ F):Sp Tryz.prog 129 #[.string ⟨#[108,101,97,102]⟩,vS r 0 2 2] [] F (λ u H'=>u=.int .u64 (sumH ⟨#[108,101,97,102]⟩ [a,b]) /\ H'=[]):=by
 refine Sp.run Tryz.func129 rfl (mc hr mn) (A:=[]) (Ts:=[]) rfl λ w0=>?_
 refine RN.go 13 [] λ _=>RN.s2b (st:=⟨#[108,101,97,102]⟩) (e:=5) λ b1 c2 hc3=>?_
 replace hc3:4 <= c2:=hc3
 refine RN.ot 0 (x:=(b1,.rows 1 c2 (brow8 ⟨#[108,101,97,102]⟩) 5 (c2,c2+1)))<|RN.ct (Hp:=[]) (Tp:=[]) [] [] (rwords_leaf_ap b1 c2 _ (in_ap 0) hc3) ?_
 rintro _ ⟨b4,c5,r6⟩ ⟨rfl,hc7⟩
 dsimp only at hc7
 refine RN.go 10 [] λ _=>RN.rounds 2<|RN.goP 20 [.row 0 0 0] [0=0 * 1+0 /\ 0 < c5] λ _=>RN.cp (rmix_any 0 1717658988 _)<|RN.go 31 [] λ _=>RN.cp (rmix_any (mixH 0 1717658988) 4 _)<|RN.go 9 [] λ _=>RN.cp (rmix_any (mixH (mixH 0 1717658988) 4) 2 _)<|RN.go 10 [] λ _=>RN.rounds 3<|RN.go 21 [.ro 0] λ _=>RN.cp (rmix_any (mixH (mixH (mixH 0 1717658988) 4) 2) (IntKind.u64.wrap a) _)<|RN.go 31 [.ro 0] λ _=>?_
 refine RN.cp (rmix_any (mixH (mixH (mixH (mixH 0 1717658988) 4) 2) (IntKind.u64.wrap a)) (IntKind.u64.wrap b) _)<|RN.go 28 [] λ _=>RN.cp (rmix_any (mixH (mixH (mixH (mixH (mixH 0 1717658988) 4) 2) (IntKind.u64.wrap a)) (IntKind.u64.wrap b)) 0 _)<|RN.go 3 [] λ _=>RN.ret [] [] [] (v:=.int .u64 (mixH (mixH (mixH (mixH (mixH (mixH 0 1717658988) 4) 2) (IntKind.u64.wrap a)) (IntKind.u64.wrap b)) 0)) (H':=[]) ?_
 exact ⟨congrArg (Value.int .u64) (rsumL_leaf a b),rfl⟩
theorem rwords_pair (q cap:Nat) (F:HL) (hq:(q,.rows 1 cap (brow8 ⟨#[112,97,105,114]⟩) 5 (cap,cap+1)) ∈ F) (hc:4 <= cap):Sp Tryz.prog 164 #[vS q 0 4 cap] [] F (λ u H'=>∃ x:Nat × Nat × List Int,H'=ap [(x.1,.rows 1 x.2.1 (rowE u64E ([1919508848]++x.2.2)) 50 (0,0))] [] /\ (u=vS x.1 0 1 x.2.1 /\ 1 <= x.2.1)):=by
 refine Sp.run Tryz.func164 rfl (mc hq mn) (A:=[]) (Ts:=[]) rfl λ w0=>?_
 refine RN.go 17 [] λ _=>RN.rounds 2<|RN.go 32 [] λ _=>RN.rounds 5<|RN.goP 142 [.rorow 0 3 0,.rorow 0 2 0,.rorow 0 1 0,.rorow 0 0 0] [0=0 * 1+0 /\ 0 < cap,1=1 * 1+0 /\ 1 < cap,2=2 * 1+0 /\ 2 < cap,3=3 * 1+0 /\ 3 < cap] λ _=>RN.sv 5 (congrArg (λ v_=>(.int .u64 v_:Value)) (show (IntKind.u64.wrap ((IntKind.u64.wrap (256 * (IntKind.u64.wrap ((IntKind.u64.wrap (256 * (IntKind.u64.wrap ((IntKind.u64.wrap (256 * (IntKind.u64.wrap (0+(IntKind.u64.wrap (byteI ⟨#[112,97,105,114]⟩ 3))))))+(IntKind.u64.wrap (byteI ⟨#[112,97,105,114]⟩ 2))))))+(IntKind.u64.wrap (byteI ⟨#[112,97,105,114]⟩ 1))))))+(IntKind.u64.wrap (byteI ⟨#[112,97,105,114]⟩ 0))):Int)=1919508848 by kernel_rfl))<|RN.go 4 [] λ n1=>RN.nt<|RN.app u64EOk ([]:List Int) [1919508848] 0 0 rfl (SlIs.nil _ _) (by decide) ?_
 rintro A2 c3 T4 ⟨hs5,hz6⟩
 refine RN.go 31 [] λ _=>RN.ret [] [] [0] (v:=.slice A2 1 c3) (H':=(ap [] [T4])) ?_
 obtain ⟨b_,r_,rfl,rfl,hc_⟩:=hs5.open0 (hz6 trivial) (by decide) (by decide)
 exact ⟨(b_,c3,r_),rfl,rfl,hc_⟩
theorem rwords_pair_ap (q cap:Nat) (F:HL) (hq:(q,.rows 1 cap (brow8 ⟨#[112,97,105,114]⟩) 5 (cap,cap+1)) ∈ F) (hc:4 <= cap):Sp Tryz.prog 164 #[vS q 0 4 cap] (ap [] []) F (λ u H'=>∃ x:Nat × Nat × List Int,H'=ap [(x.1,.rows 1 x.2.1 (rowE u64E ([1919508848]++x.2.2)) 50 (0,0))] [] /\ (u=vS x.1 0 1 x.2.1 /\ 1 <= x.2.1)):=rwords_pair q cap F hq hc
theorem rsumL_pair (a b:Int):mixH (mixH (mixH (mixH (mixH (mixH 0 1919508848) 4) 2) (IntKind.u64.wrap a)) (IntKind.u64.wrap b)) 0=sumH ⟨#[112,97,105,114]⟩ [a,b]:=by kernel_rfl
theorem rsum_pair (a b:Int) (r:Nat) (F:HL) (hr:(r,.lit [vI a,vI b] 3 (0,0)) ∈ F):Sp Tryz.prog 129 #[.string ⟨#[112,97,105,114]⟩,vS r 0 2 2] [] F (λ u H'=>u=.int .u64 (sumH ⟨#[112,97,105,114]⟩ [a,b]) /\ H'=[]):=by
 refine Sp.run Tryz.func129 rfl (mc hr mn) (A:=[]) (Ts:=[]) rfl λ w0=>?_
 refine RN.go 13 [] λ _=>RN.s2b (st:=⟨#[112,97,105,114]⟩) (e:=5) λ b1 c2 hc3=>?_
 replace hc3:4 <= c2:=hc3
 refine RN.ot 0 (x:=(b1,.rows 1 c2 (brow8 ⟨#[112,97,105,114]⟩) 5 (c2,c2+1)))<|RN.ct (Hp:=[]) (Tp:=[]) [] [] (rwords_pair_ap b1 c2 _ (in_ap 0) hc3) ?_
 rintro _ ⟨b4,c5,r6⟩ ⟨rfl,hc7⟩
 dsimp only at hc7
 refine RN.go 10 [] λ _=>RN.rounds 2<|RN.goP 20 [.row 0 0 0] [0=0 * 1+0 /\ 0 < c5] λ _=>RN.cp (rmix_any 0 1919508848 _)<|RN.go 31 [] λ _=>RN.cp (rmix_any (mixH 0 1919508848) 4 _)<|RN.go 9 [] λ _=>RN.cp (rmix_any (mixH (mixH 0 1919508848) 4) 2 _)<|RN.go 10 [] λ _=>RN.rounds 3<|RN.go 21 [.ro 0] λ _=>RN.cp (rmix_any (mixH (mixH (mixH 0 1919508848) 4) 2) (IntKind.u64.wrap a) _)<|RN.go 31 [.ro 0] λ _=>?_
 refine RN.cp (rmix_any (mixH (mixH (mixH (mixH 0 1919508848) 4) 2) (IntKind.u64.wrap a)) (IntKind.u64.wrap b) _)<|RN.go 28 [] λ _=>RN.cp (rmix_any (mixH (mixH (mixH (mixH (mixH 0 1919508848) 4) 2) (IntKind.u64.wrap a)) (IntKind.u64.wrap b)) 0 _)<|RN.go 3 [] λ _=>RN.ret [] [] [] (v:=.int .u64 (mixH (mixH (mixH (mixH (mixH (mixH 0 1919508848) 4) 2) (IntKind.u64.wrap a)) (IntKind.u64.wrap b)) 0)) (H':=[]) ?_
 exact ⟨congrArg (Value.int .u64) (rsumL_pair a b),rfl⟩
theorem rwords_empty (q cap:Nat) (F:HL) (hq:(q,.rows 1 cap (brow8 ⟨#[101,109,112,116,121]⟩) 5 (cap,cap+1)) ∈ F) (hc:5 <= cap):Sp Tryz.prog 164 #[vS q 0 5 cap] [] F (λ u H'=>∃ x:Nat × Nat × List Int,H'=ap [(x.1,.rows 1 x.2.1 (rowE u64E ([521644567909]++x.2.2)) 50 (0,0))] [] /\ (u=vS x.1 0 1 x.2.1 /\ 1 <= x.2.1)):=by
 refine Sp.run Tryz.func164 rfl (mc hq mn) (A:=[]) (Ts:=[]) rfl λ w0=>?_
 refine RN.go 17 [] λ _=>RN.rounds 2<|RN.go 32 [] λ _=>RN.rounds 6<|RN.goP 174 [.rorow 0 4 0,.rorow 0 3 0,.rorow 0 2 0,.rorow 0 1 0,.rorow 0 0 0] [0=0 * 1+0 /\ 0 < cap,1=1 * 1+0 /\ 1 < cap,2=2 * 1+0 /\ 2 < cap,3=3 * 1+0 /\ 3 < cap,4=4 * 1+0 /\ 4 < cap] λ _=>RN.sv 5 (congrArg (λ v_=>(.int .u64 v_:Value)) (show (IntKind.u64.wrap ((IntKind.u64.wrap (256 * (IntKind.u64.wrap ((IntKind.u64.wrap (256 * (IntKind.u64.wrap ((IntKind.u64.wrap (256 * (IntKind.u64.wrap ((IntKind.u64.wrap (256 * (IntKind.u64.wrap (0+(IntKind.u64.wrap (byteI ⟨#[101,109,112,116,121]⟩ 4))))))+(IntKind.u64.wrap (byteI ⟨#[101,109,112,116,121]⟩ 3))))))+(IntKind.u64.wrap (byteI ⟨#[101,109,112,116,121]⟩ 2))))))+(IntKind.u64.wrap (byteI ⟨#[101,109,112,116,121]⟩ 1))))))+(IntKind.u64.wrap (byteI ⟨#[101,109,112,116,121]⟩ 0))):Int)=521644567909 by kernel_rfl))<|RN.go 4 [] λ n1=>RN.nt<|RN.app u64EOk ([]:List Int) [521644567909] 0 0 rfl (SlIs.nil _ _) (by decide) ?_
 rintro A2 c3 T4 ⟨hs5,hz6⟩
 refine RN.go 31 [] λ _=>RN.ret [] [] [0] (v:=.slice A2 1 c3) (H':=(ap [] [T4])) ?_
 obtain ⟨b_,r_,rfl,rfl,hc_⟩:=hs5.open0 (hz6 trivial) (by decide) (by decide)
 exact ⟨(b_,c3,r_),rfl,rfl,hc_⟩
theorem rwords_empty_ap (q cap:Nat) (F:HL) (hq:(q,.rows 1 cap (brow8 ⟨#[101,109,112,116,121]⟩) 5 (cap,cap+1)) ∈ F) (hc:5 <= cap):Sp Tryz.prog 164 #[vS q 0 5 cap] (ap [] []) F (λ u H'=>∃ x:Nat × Nat × List Int,H'=ap [(x.1,.rows 1 x.2.1 (rowE u64E ([521644567909]++x.2.2)) 50 (0,0))] [] /\ (u=vS x.1 0 1 x.2.1 /\ 1 <= x.2.1)):=rwords_empty q cap F hq hc
theorem rsumE:mixH (mixH (mixH (mixH 0 521644567909) 5) 0) 0=sumH ⟨#[101,109,112,116,121]⟩ []:=by kernel_rfl
theorem rsum_empty (F:HL):Sp Tryz.prog 129 #[.string ⟨#[101,109,112,116,121]⟩,.slice none 0 0] [] F (λ u H'=>u=.int .u64 (sumH ⟨#[101,109,112,116,121]⟩ []) /\ H'=[]):=by
 refine Sp.run Tryz.func129 rfl mn (A:=[]) (Ts:=[]) rfl λ w0=>?_
 refine RN.go 13 [] λ _=>RN.s2b (st:=⟨#[101,109,112,116,121]⟩) (e:=5) λ b1 c2 hc3=>?_
 replace hc3:5 <= c2:=hc3
 refine RN.ot 0 (x:=(b1,.rows 1 c2 (brow8 ⟨#[101,109,112,116,121]⟩) 5 (c2,c2+1)))<|RN.ct (Hp:=[]) (Tp:=[]) [] [] (rwords_empty_ap b1 c2 _ (in_ap 0) hc3) ?_
 rintro _ ⟨b4,c5,r6⟩ ⟨rfl,hc7⟩
 dsimp only at hc7
 refine RN.go 10 [] λ _=>RN.rounds 2<|RN.goP 20 [.row 0 0 0] [0=0 * 1+0 /\ 0 < c5] λ _=>RN.cp (rmix_any 0 521644567909 _)<|RN.go 31 [] λ _=>RN.cp (rmix_any (mixH 0 521644567909) 5 _)<|RN.go 9 [] λ _=>RN.cp (rmix_any (mixH (mixH 0 521644567909) 5) 0 _)<|RN.go 10 [] λ _=>RN.rounds 1<|RN.go 18 [] λ _=>RN.cp (rmix_any (mixH (mixH (mixH 0 521644567909) 5) 0) 0 _)<|RN.go 3 [] λ _=>?_
 refine RN.ret [] [] [] (v:=.int .u64 (mixH (mixH (mixH (mixH 0 521644567909) 5) 0) 0)) (H':=[]) ?_
 exact ⟨congrArg (Value.int .u64) rsumE,rfl⟩
theorem rpair_any (a b:Int) (F:HL):Sp Tryz.prog 88 #[.int .u64 a,.int .u64 b] [] F (λ u H'=>u=.int .u64 (pairH a b) /\ H'=[]):=by
 refine Sp.run Tryz.func88 rfl mn (A:=[]) (Ts:=[]) rfl λ w0=>?_
 refine RN.go 12 [] λ n1=>RN.cp (rsum_pair (IntKind.i64.wrap a) (IntKind.i64.wrap b) (n1+0) _ (in_ap 0))<|RN.go 3 [] λ _=>?_
 exact RN.ret [] [] [] ⟨rfl,rfl⟩
theorem rleaf_any (i:Nat) (q c:Nat) (xs:List Int) (F:HL) (hq:(q,.rows 1 c (irow xs) 3 (0,0)) ∈ F) (hc:xs.length <= c) (hl:xs.length <= 1000000):Sp Tryz.prog 87 #[vS q 0 xs.length c,vI (i:Int)] [] F (λ u H'=>u=.int .u64 (nodeR xs 0 i) /\ H'=[]):=by
 refine Sp.run Tryz.func87 rfl (mc hq mn) (A:=[]) (Ts:=[]) rfl λ w0=>?_
 refine RN.go 14 [] λ _=>RN.em ((i:Int) >= (xs.length:Int)) 8 (λ h1=>?_) λ h1=>?_
 ·refine RN.go 3 [] λ _=>RN.cp (rsum_empty _)<|RN.go 3 [] λ _=>RN.ret [] [] [] (v:=.int .u64 emptyH) (H':=[]) ?_
  exact ⟨congrArg (Value.int .u64) (show emptyH=nodeR xs 0 i by rw [nodeR,if_neg (by omega)]),rfl⟩
 ·refine RN.goP 11 [.ix i,.rorow 0 i 0] [(0+i * 1)=i * 1+0 /\ i < c,(i:Int)=((i:Nat):Int) /\ i < xs.length] λ n2=>RN.cp (rsum_leaf (i:Int) (xs.getD i 0) (n2+0) _ (in_ap 0))<|RN.go 3 [] λ _=>RN.ret [] [] [] (v:=.int .u64 (leafH (i:Int) (xs.getD i 0))) (H':=[]) ?_
  exact ⟨congrArg (Value.int .u64) (show leafH (i:Int) (xs.getD i 0)=nodeR xs 0 i by rw [nodeR,if_pos (by omega)]),rfl⟩
theorem rsize_any (n:Nat) (F:HL) (hl:n <= 1000000):Sp Tryz.prog 52 #[vI (n:Int)] [] F (λ u H'=>u=vI (szN n:Int) /\ H'=[]):=by
 refine Sp.run Tryz.func52 rfl mn (A:=[]) (Ts:=[]) rfl λ w0=>?_
 refine RN.go 12 [] λ _=>RN.loop (σ:=Nat × Nat) (λ ⟨i_,s_⟩=>⟨[(0,vI (n:Int)),(3,vI (s_:Int))],[],[],s_=2 ^ i_ /\ i_ <= hgtN n,hgtN n - i_⟩) (0,1) [] [] (⟨rfl,Nat.zero_le _⟩) ?_
 rintro ⟨i_,s_⟩ ⟨hs_,hi_⟩ mt2
 refine RN.go 8 [] λ _=>RN.em ((s_:Int) < (n:Int)) 6 (λ h3=>?_) λ h3=>?_
 ·refine RN.goP 10 [.nw] [I64 (2 * (s_:Int))] λ _=>RN.sv 3 (congrArg (λ v_=>(vI v_:Value)) (show 2 * (s_:Int)=((2 * s_:Nat):Int) by omega)) ?_
  refine mt2 (i_+1,2 * s_) [] [] ?_
  try dsimp only
  have hlt_:i_ < hgtN n:=(pow_lt hl).1 (by omega)
  exact ⟨⟨by rw [Nat.pow_succ];omega,by omega⟩,by omega⟩
 ·refine RN.go 12 [] λ _=>RN.ret [] [] [] (v:=vI (s_:Int)) (H':=[]) ?_
  have hge_:¬ i_ < hgtN n:=λ h_=>by have:=(pow_lt (i:=i_) hl).2 h_;omega
  obtain rfl:i_=hgtN n:=by omega
  exact ⟨congrArg (λ x:Nat=>vI (x:Int)) hs_,rfl⟩
theorem rnode0 (f:Nat) (q c:Nat) (xs:List Int) (F:HL) (hq:(q,.rows 1 c (irow xs) 3 (0,0)) ∈ F) (hc:xs.length <= c) (hl:xs.length <= 1000000) (hf:f <= 4000000):Sp Tryz.prog 51 #[vS q 0 xs.length c,vI (f:Int),vI ((f+1:Nat):Int)] [] F (λ u H'=>u=.int .u64 (nodeR xs 0 f) /\ H'=[]):=by
 refine Sp.run Tryz.func51 rfl (mc hq mn) (A:=[]) (Ts:=[]) rfl λ w0=>?_
 refine RN.goP 14 [.nw] [I64 (((f+1:Nat):Int) - (f:Int))] λ _=>RN.fx 11 (decide_eq_true (show ((f+1:Nat):Int) - (f:Int)=1 by omega))<|RN.go 5 [] λ _=>RN.cp (rleaf_any f q c xs _ (ro_ap hq) hc hl)<|RN.go 3 [] λ _=>?_
 exact RN.ret [] [] [] ⟨rfl,rfl⟩
theorem rnode1 (f m:Nat) (a b:Int) (q c:Nat) (xs:List Int) (F:HL) (hq:(q,.rows 1 c (irow xs) 3 (0,0)) ∈ F) (hc:xs.length <= c) (hl:xs.length <= 1000000) (hm:1 <= m) (hf:f+(m+m) <= 4000000) (h1:∀ F':HL,(q,.rows 1 c (irow xs) 3 (0,0)) ∈ F' -> Sp Tryz.prog 51 #[vS q 0 xs.length c,vI (f:Int),vI ((f+m:Nat):Int)] [] F' (λ u H'=>u=.int .u64 a /\ H'=[])) (h2:∀ F':HL,(q,.rows 1 c (irow xs) 3 (0,0)) ∈ F' -> Sp Tryz.prog 51 #[vS q 0 xs.length c,vI ((f+m:Nat):Int),vI ((f+(m+m):Nat):Int)] [] F' (λ u H'=>u=.int .u64 b /\ H'=[])):Sp Tryz.prog 51 #[vS q 0 xs.length c,vI (f:Int),vI ((f+(m+m):Nat):Int)] [] F (λ u H'=>u=.int .u64 (pairH a b) /\ H'=[]):=by
 refine Sp.run Tryz.func51 rfl (mc hq mn) (A:=[]) (Ts:=[]) rfl λ w0=>?_
 refine RN.goP 14 [.nw] [I64 (((f+(m+m):Nat):Int) - (f:Int))] λ _=>RN.fx 11 (decide_eq_false (show ¬ ((f+(m+m):Nat):Int) - (f:Int)=1 by omega))<|RN.goP 13 [.nw,.nw] [0 <= (f:Int)+((f+(m+m):Nat):Int) /\ (0:Int) < 2 /\ (f:Int)+((f+(m+m):Nat):Int) <= 9223372036854775807,I64 ((f:Int)+((f+(m+m):Nat):Int))] λ _=>RN.sv 7 (congrArg (λ v_=>(vI v_:Value)) (show ((f:Int)+((f+(m+m):Nat):Int)) / 2=((f+m:Nat):Int) by omega))<|RN.go 4 [] λ _=>RN.cp (h1 _ (ro_ap hq))<|RN.go 3 [] λ _=>RN.cp (h2 _ (ro_ap hq))<|RN.cp (rpair_any a b _)<|RN.go 3 [] λ _=>?_
 exact RN.ret [] [] [] ⟨rfl,rfl⟩
theorem rnode_any (q c:Nat) (xs:List Int) (hc:xs.length <= c) (hl:xs.length <= 1000000):∀ (j f:Nat),f+2 ^ j <= 4000000 -> ∀ F:HL,(q,.rows 1 c (irow xs) 3 (0,0)) ∈ F -> Sp Tryz.prog 51 #[vS q 0 xs.length c,vI (f:Int),vI ((f+2 ^ j:Nat):Int)] [] F (λ u H'=>u=.int .u64 (nodeR xs j f) /\ H'=[])
 | 0,f,hf,F,hq=>rnode0 f q c xs F hq hc hl (by omega)
 | j+1,f,hf,F,hq=>by
  have h2:=Nat.two_pow_pos j
  rw [Nat.pow_succ] at hf
  rw [show f+2 ^ (j+1)=f+(2 ^ j+2 ^ j) by rw [Nat.pow_succ];omega,nodeR]
  refine rnode1 f (2 ^ j) _ _ q c xs F hq hc hl h2 (by omega) (λ F' h=>rnode_any q c xs hc hl j f (by omega) F' h) (λ F' h=>?_)
  have:=rnode_any q c xs hc hl j (f+2 ^ j) (by omega) F' h
  rwa [Nat.add_assoc] at this
theorem rnode_root (q c:Nat) (xs:List Int) (F:HL) (hq:(q,.rows 1 c (irow xs) 3 (0,0)) ∈ F) (hc:xs.length <= c) (hl:xs.length <= 1000000):Sp Tryz.prog 51 #[vS q 0 xs.length c,vI 0,vI (szN xs.length:Int)] [] F (λ u H'=>u=.int .u64 (rootF xs) /\ H'=[]):=by
 have h:=rnode_any q c xs hc hl (hgtN xs.length) 0 (by have:=(hgt_bd hl).2.2.2;unfold szN at this;omega) F hq
 rw [Nat.zero_add,<- root_nodeR hl] at h
 exact h
theorem rroot_any (q c:Nat) (xs:List Int) (F:HL) (hq:(q,.rows 1 c (irow xs) 3 (0,0)) ∈ F) (hc:xs.length <= c) (hl:xs.length <= 1000000):Sp Tryz.prog 18 #[vS q 0 xs.length c] [] F (λ u H'=>u=.int .u64 (rootF xs) /\ H'=[]):=by
 refine Sp.run Tryz.func18 rfl (mc hq mn) (A:=[]) (Ts:=[]) rfl λ w0=>?_
 refine RN.go 10 [] λ _=>RN.cp (rsize_any xs.length _ hl)<|RN.cp (rnode_root q c xs _ (ro_ap hq) hc hl)<|RN.go 3 [] λ _=>?_
 exact RN.ret [] [] [] ⟨rfl,rfl⟩
abbrev encP (x:Nat):Array Value:=#[.agg #[vI (x:Int),vI 0]]
theorem range_get {h i:Nat} (hi:i < h):(List.range h)[i]?=some i:=by simp [hi]
theorem range_of {h i x:Nat} (e:(List.range h)[i]?=some x):x=i /\ i < h:=by
 obtain ⟨h1,h2⟩:=List.getElem?_eq_some_iff.1 e
 simp at h1 h2
 exact ⟨h2.symm,h1⟩
def proofL (xs:List Int):List Int:=(List.range (hgtN xs.length)).map λ l=>finF xs (szN xs.length) (2 ^ (hgtN xs.length - l)+1)
theorem proofL_len (xs:List Int):(proofL xs).length=hgtN xs.length:=by simp [proofL]
theorem proofL_get (xs:List Int) {l:Nat} (h:l < hgtN xs.length):(proofL xs).getD l 0=finF xs (szN xs.length) (2 ^ (hgtN xs.length - l)+1):=by
 simp [proofL,List.getD_eq_getElem?_getD,h]
theorem proofL_take (xs:List Int) {l:Nat} (h:l < hgtN xs.length):(proofL xs).take (l+1)=(proofL xs).take l++[finF xs (szN xs.length) (2 ^ (hgtN xs.length - l)+1)]:=by
 rw [List.take_add_one]
 congr 1
 rw [List.getElem?_eq_getElem (by rw [proofL_len];exact h)]
 have:=proofL_get xs h
 rw [List.getD_eq_getElem?_getD,List.getElem?_eq_getElem (by rw [proofL_len];exact h)] at this
 simpa using this
def vup (a:Int) (pl:List Int):Nat -> Int
 | 0=>a
 | l+1=>pairH (vup a pl l) (pl.getD l 0)
theorem vup_up (xs:List Int):∀ l,l <= hgtN xs.length -> vup (leafH 0 (xs.getD 0 0)) (proofL xs) l=upF xs (szN xs.length) (hgtN xs.length) l
 | 0,_=>rfl
 | l+1,h=>by rw [vup,upF,vup_up xs l (by omega),proofL_get xs (by omega)]
theorem vup_root {xs:List Int} (hl:xs.length <= 1000000) (h0:0 < xs.length):vup (leafH 0 (xs.getD 0 0)) (proofL xs) (hgtN xs.length)=rootF xs:=by
 rw [vup_up xs _ (Nat.le_refl _)]
 have:=up_fin xs (hgtN xs.length) (hgt_bd hl).2.1 h0 (hgtN xs.length) (Nat.le_refl _)
 rw [Nat.sub_self] at this
 exact this
theorem zrow_u64 (h:Nat):zrow [.int .u64 0]=rowE u64E (List.replicate h 0):=by
 have e:=rowE_pad (e:=u64E) ([]:List Int) h
 rw [List.nil_append] at e
 rw [show List.replicate h (0:Int)=List.replicate h u64E.dflt from rfl,e]
 funext i k
 cases k with
 | zero=>rfl
 | succ k=>simp [zrow,rowE,u64E]
theorem sh_two {h l s:Nat} (hl:l <= h) (hh:h <= 20) (hs:s=2 ^ (h - l)):IntKind.i64.wrap (1 * 2 ^ min ((h:Int) - (l:Int)).toNat 64)=(s:Int):=by
 have e:((h:Int) - (l:Int)).toNat=h - l:=by omega
 have h2:=Nat.pow_le_pow_right (n:=2) (by omega) (show h - l <= 20 by omega)
 rw [e,Nat.min_eq_left (by omega),IntKind.wrap_i64,Int.one_mul]
 have e2:(2:Int) ^ (h - l)=(s:Int):=by rw [hs];norm_cast
 rw [e2]
 omega
theorem SlIs.repl {h:Nat} {b:Nat} {T:TypeId}:SlIs u64E T [] (some ⟨b,0,none⟩) h [(b,.rows 1 h (rowE u64E (List.replicate h 0)) T (0,0))]:=.inr ⟨b,0,List.replicate h 0,by simp,by rw [Nat.zero_add];rfl,by simp,Nat.zero_le _,by simp⟩
theorem path_run (h q1 q2 lp:Nat) (lf:Int) (X F:HL) (J:Nat -> HL -> Prop) (Jx:HL -> Prop) (T0:HL) (hh:h <= 20) (hlf:lf=0) (h1:(q1,.lit [vI (h:Int)] 3 (0,0)) ∈ F) (h2:(q2,.lit [vI lf] 3 (0,0)) ∈ F) (hY:∀ i x H Y,(List.range h)[i]?=some x -> J i H -> YL Tryz.prog lp (encP x) H (Y++(X++F)) (λ b H'=>(b=true /\ J (i+1) H') \/ (b=false /\ Jx H'))) (hJ0:J 0 T0):Sp Tryz.prog 89 #[.func (.yield lp) #[] #[],vP q1 0,vP q2 0] (ap [] [T0]) (X++F) (λ _ H'=>J (List.range h).length H' \/ Jx H'):=by
 refine Sp.run Tryz.func89 rfl (mc (List.mem_append_right _ h1) (mc (List.mem_append_right _ h2) mn)) (A:=[]) (Ts:=[T0]) rfl λ w0=>?_
 refine RN.go 7 [.ro 0] λ _=>RN.loop (σ:=Nat × HL) (λ ⟨i,T_⟩=>⟨[(0,.func (.yield lp) #[] #[]),(2,vP q2 0),(5,vI (h:Int)),(6,vI (i:Int))],[],[T_],i <= h /\ J i T_,h - i⟩) (0,T0) [] [0] (⟨Nat.zero_le _,hJ0⟩) ?_
 rintro ⟨i,T_⟩ ⟨hi_,hJ_⟩ mt2
 refine RN.go 6 [] λ _=>RN.em ((i:Int) < (h:Int)) 7 (λ h3=>?_) λ h3=>?_
 ·refine RN.goP 18 [.ro 1,.dv] [0 <= (i:Int)] λ _=>RN.sv 13 (congrArg (λ v_=>(vI v_:Value)) (show lf.fdiv (2 ^ min ((i:Int)).toNat 64)=0 by subst hlf;exact Int.zero_fdiv _))<|RN.go 1 [] λ _=>RN.yield 0 (hY i i _ _ (range_get (by omega)) hJ_) ?_
  rintro b_ T4 (⟨rfl,hJ5⟩ | ⟨rfl,hJ5⟩)
  ·refine RN.goP 11 [.gen,.nw] [I64 ((i:Int)+1)] λ _=>RN.sv 6 (congrArg (λ v_=>(vI v_:Value)) (show (i:Int)+1=((i+1:Nat):Int) by omega)) ?_
   refine mt2 (i+1,T4) [] [0] ?_
   try dsimp only
   exact ⟨⟨by omega,hJ5⟩,by omega⟩
  ·refine RN.go 4 [] λ _=>RN.ret [] [] [0] (v:=.tuple #[]) (H':=(ap [] [T4])) ?_
   rw [ap_one]
   exact .inr hJ5
 ·refine RN.go 5 [] λ _=>RN.ret [] [] [0] (v:=.tuple #[]) (H':=(ap [] [T_])) ?_
  rw [ap_one]
  obtain rfl:i=h:=by omega
  exact .inl (by rw [List.length_range];exact hJ_)
theorem path_it (h q1 q2:Nat) (lf:Int) (F:HL) (hh:h <= 20) (hlf:lf=0) (h1:(q1,.lit [vI (h:Int)] 3 (0,0)) ∈ F) (h2:(q2,.lit [vI lf] 3 (0,0)) ∈ F):It Tryz.prog 89 #[vP q1 0,vP q2 0] F encP (List.range h):=by
 intro X l J Jx H0 hY h0
 have key:=path_run h q1 q2 l lf X F J Jx H0 hh hlf h1 h2 hY h0
 rw [ap_one] at key
 exact key
theorem path_any (h:Nat) (F:HL):Sp Tryz.prog 54 #[vI 0,vI (h:Int)] [] F (λ u H'=>∃ n:Nat,H'=ap [((n+1),.lit [vI (h:Int)] 3 (0,0)),((n+0),.lit [vI 0] 3 (0,0))] [] /\ u=.func (.func 89) #[] #[vP (n+1) 0,vP (n+0) 0]):=by
 refine Sp.run Tryz.func54 rfl mn (A:=[]) (Ts:=[]) rfl λ w0=>?_
 refine RN.go 13 [] λ n1=>RN.ret [] [0,1] [] (v:=.func (.func 89) #[] #[vP (n1+1) 0,vP (n1+0) 0]) (H':=(ap [((n1+1),.lit [vI (h:Int)] 3 (0,0)),((n1+0),.lit [vI 0] 3 (0,0))] [])) ?_
 exact ⟨_,rfl,rfl⟩
theorem path_ap (h:Nat) (F:HL):Sp Tryz.prog 54 #[vI 0,vI (h:Int)] (ap [] []) F (λ u H'=>∃ n:Nat,H'=ap [((n+1),.lit [vI (h:Int)] 3 (0,0)),((n+0),.lit [vI 0] 3 (0,0))] [] /\ u=.func (.func 89) #[] #[vP (n+1) 0,vP (n+0) 0]):=path_any h F
theorem sib_any (l:Int) (F:HL):Sp Tryz.prog 56 #[.agg #[vI l,vI 0]] [] F (λ u H'=>u=.agg #[vI l,vI 1] /\ H'=[]):=by
 refine Sp.run Tryz.func56 rfl mn (A:=[]) (Ts:=[]) rfl λ w0=>?_
 refine RN.go 17 [.own 1,.own 1,.own 0,.own 0] λ n1=>?_
 exact RN.ret [.own 0,.own 0] [] [] ⟨rfl,rfl⟩
theorem join_any (l a b:Int) (F:HL):Sp Tryz.prog 57 #[.agg #[vI l,vI 0],.int .u64 a,.int .u64 b] [] F (λ u H'=>u=.int .u64 (pairH a b) /\ H'=[]):=by
 refine Sp.run Tryz.func57 rfl mn (A:=[]) (Ts:=[]) rfl λ w0=>?_
 refine RN.go 20 [.own 0] λ n1=>RN.cp (pairh_any a b _)<|RN.go 3 [] λ _=>?_
 exact RN.ret [] [] [] ⟨rfl,rfl⟩
theorem tnode_any (t cb nb n c h l s:Nat) (F:HL) (ht:(t,.lit [vI (h:Int),vS cb 0 n n,vS nb 0 c c] 107 (0,0)) ∈ F) (hl:l <= h) (hh:h <= 20) (hs:s=2 ^ (h - l)) (hc:s+1 < c) (hc2:c <= 100000000):Sp Tryz.prog 55 #[vP t 0,.agg #[vI (l:Int),vI 1]] [] F (λ u H'=>u=vP nb ((s+1) * 1) /\ H'=[]):=by
 refine Sp.run Tryz.func55 rfl (mc ht mn) (A:=[]) (Ts:=[]) rfl λ w0=>?_
 refine RN.go 7 [] λ n1=>RN.draw [] []<|RD.goP [] [0,4,8,12,1,5,9,13,2,6,3,7,10,11] [.own 0,.own 0,.ro 0,.ro 0,.nw,.dv] [0 <= (h:Int) - (l:Int),I64 ((h:Int) - (l:Int))]<|RD.sv 16 (congrArg (λ v_=>(vI v_:Value)) (sh_two hl hh hs))<|RD.goP [] [14,15,16] [.nw,.ix (s+1)] [(s:Int)+1=(((s+1):Nat):Int) /\ (s+1) < c,I64 ((s:Int)+1)]<|RD.fin<|RN.go 1 [] λ _=>RN.ret [] [] [] (v:=vP nb (0+(s+1) * 1)) (H':=[]) ?_
 exact ⟨congrArg (vP nb) (by omega),rfl⟩
theorem thas_any (t cb nb n c:Nat) (h:Int) (F:HL) (ht:(t,.lit [vI h,vS cb 0 n n,vS nb 0 c c] 107 (0,0)) ∈ F) (h0:0 < n):Sp Tryz.prog 53 #[vP t 0,vI 0] [] F (λ u H'=>u=.bool true /\ H'=[]):=by
 refine Sp.run Tryz.func53 rfl (mc ht mn) (A:=[]) (Ts:=[]) rfl λ w0=>?_
 refine RN.go 21 [.ro 0] λ _=>RN.ret [] [] [] (v:=.bool (decide (0 < (n:Int)))) (H':=[]) ?_
 exact ⟨congrArg Value.bool (decide_eq_true (by omega)),rfl⟩
theorem prove_run (t cb nb:Nat) (xs:List Int) (F:HL) (ht:(t,.lit [vI (hgtN xs.length:Int),vS cb 0 xs.length xs.length,vS nb 0 (2 * szN xs.length) (2 * szN xs.length)] 107 (0,0)) ∈ F) (hcb:(cb,.rows 1 xs.length (irow xs) 3 (0,0)) ∈ F) (hnb:(nb,.rows 1 (2 * szN xs.length) (urow (inF xs (szN xs.length) (szN xs.length - 1))) 50 (0,0)) ∈ F) (h0:0 < xs.length) (hl:xs.length <= 1000000):Sp Tryz.prog 19 #[vP t 0,vI 0] [] F (λ u H'=>∃ x:Option Addr × Nat × HL,H'=ap [] [x.2.2] /\ (u=.agg #[vI 0,vI (xs.getD 0 0),.slice x.1 (hgtN xs.length) x.2.1] /\ SlIs u64E 50 (proofL xs) x.1 x.2.1 x.2.2)):=by
 obtain ⟨hb1,hb2,hb3,hb4⟩:=hgt_bd hl
 have hpw_:∀ x:Nat,2 ^ (hgtN xs.length - x) <= szN xs.length:=λ x=>Nat.pow_le_pow_right (by omega) (by omega)
 refine Sp.runM Tryz.func19 rfl (mc ht (mc hcb (mc hnb mn))) (A:=[]) (Ts:=[]) rfl λ w0=>?_
 refine RN.go 11 [.own 1] λ n1=>RN.cp (thas_any t cb nb xs.length (2 * szN xs.length) (hgtN xs.length:Int) _ (ro_ap ht) h0)<|RN.goP 25 [.own 1,.ro 0,.mk 0 (hgtN xs.length),.own 0,.own 3,.ro 0] [0=((0:Nat):Int) /\ (hgtN xs.length:Int)=((hgtN xs.length:Nat):Int) /\ 0 <= hgtN xs.length /\ 8 * (hgtN xs.length) <= 140737488355328 /\ 1=1 /\ hgtN xs.length <= 9223372036854775807] λ n2=>RN.ct (Hp:=[]) (Tp:=[]) [] [] (path_ap (hgtN xs.length) _) ?_
 rintro _ m3 rfl
 refine RN.go 3 [] λ _=>RN.bv 3 (congrArg (λ v_=>(.rows 1 (hgtN xs.length) v_ 50 (0,0):Blk)) (show (zrow [.int .u64 0])=(rowE u64E (List.replicate (hgtN xs.length) 0)) from (zrow_u64 _)))<|RN.bt 3<|RN.range (σ:=Nat × Option Addr × Nat × HL) (τ:=Nat × Option Addr × Nat × HL × Nat) (encs:=λ (x_:Nat)=>#[.agg #[vI (x_:Int),vI 0]]) (xs:=(List.range (hgtN xs.length))) (enters_of Tryz.func89 (by kernel_rfl) rfl) (λ ⟨i2_,A_,c_,T_⟩=>([((n2+1),.lit [.slice A_ i2_ c_] 53 (0,0))],[T_])) (λ i_ ⟨i2_,A_,c_,T_⟩=>i2_=i_ /\ SlIs u64E 50 ((proofL xs).take i2_) A_ c_ T_) (λ c_ ⟨i2_,A_,c_,T_⟩=>False) (λ ⟨y_,A_,c_,T_,p_⟩=>⟨[(1,vI 0),(2,vP (n1+0) 0),(4,vP (n1+1) 0),(5,vP (n2+1) 0),(6,vP p_ 0)],[((n2+1),.lit [.slice A_ y_ c_] 53 (0,0)),(p_,.lit [vI (y_:Int),vI 0] 117 (0,0))],[T_],True,0⟩) (λ i_ x_ ⟨y_,A_,c_,T_,p_⟩=>y_=i_ /\ y_=x_ /\ i_ < hgtN xs.length /\ SlIs u64E 50 ((proofL xs).take y_) A_ c_ T_) (0,some ⟨(n2+0),0,none⟩,hgtN xs.length,[((n2+0),.rows 1 (hgtN xs.length) (rowE u64E (List.replicate (hgtN xs.length) 0)) 50 (0,0))]) (⟨rfl,SlIs.repl⟩) [2] [0] (path_it (hgtN xs.length) (m3+1) (m3+0) 0 _ (by omega) rfl (in_ap 0) (in_ap 1)) ?_ ?_ ?_ ?_
 ·rintro l_ i_ x_ ⟨i2_,A_,c_,T_⟩ Y4 w5 hx6 ⟨rfl,hs_⟩ mt7
  obtain rfl:=(range_of hx6).1.symm
  refine RN.go 4 [.own 0,.own 0] λ n8=>?_
  refine mt7 (i2_,A_,c_,T_,(n8+0)) [1,0] [0] ?_
  try dsimp only
  exact ⟨rfl,rfl,(range_of hx6).2,hs_⟩
 ·rintro l_ i_ x_ ⟨y_,A_,c_,T_,p_⟩ Y9 w10 hx11 ⟨rfl,rfl,hlt_,hs_⟩
  have hp_:=hpw_ y_
  have h2_:2 <= szN xs.length:=by have:=Nat.pow_le_pow_right (n:=2) (by omega) (show 1 <= hgtN xs.length by omega);unfold szN;omega
  refine RN.go 1 [] λ _=>RN.draw [8,9] []<|RD.go [] [0,1,2] [.own 0,.ro 3,.own 1,.own 1]<|RD.cp [] 3 (λ X_=>(sib_any (y_:Int) _))<|RD.cp [] 4 (λ X_=>(tnode_any t cb nb xs.length (2 * szN xs.length) (hgtN xs.length) y_ _ _ (ro_apX (List.mem_append_right Y9 (List.mem_append_right _ ht))) (by omega) (by omega) rfl (by omega) (by omega)))<|RD.goP [] [5,6] [.rorow 6 (2 ^ (hgtN xs.length - y_)+1) 0] [(2 ^ (hgtN xs.length - y_)+1) * 1=(2 ^ (hgtN xs.length - y_)+1) * 1+0 /\ (2 ^ (hgtN xs.length - y_)+1) < (2 * szN xs.length)]<|RD.one 7 (RDO.ev [] [] λ n12=>?_)
  refine RD.one 8 (RDO.app [] u64EOk ((proofL xs).take y_) [finF xs (szN xs.length) (2 ^ (hgtN xs.length - y_)+1)] 0 0 (show y_=((proofL xs).take y_).length by rw [List.length_take,proofL_len];omega) hs_ (by rw [List.length_take,proofL_len,List.length_singleton];omega) ?_)
  rintro A13 c14 T15 ⟨hs16,hz17⟩
  refine RD.one 9 (RDO.ev [] [.own 1] λ _=>?_)
  refine RD.fin<|RN.go 1 [] λ _=>RN.rn (y_+1,A13,c14,T15) [1] [0] ?_
  try dsimp only
  exact ⟨by omega,by rw [proofL_take xs (by omega)];exact hs16⟩
 ·rintro d18 ⟨i2_,A_,c_,T_⟩  ⟨rfl,hs_⟩
  refine RN.go 3 [] λ _=>RN.draw [10] []<|RD.goP [] [0,1,5,8,2,3,4,6,7,9] [.own 5,.own 1,.ro 0,.ix 0,.rorow 1 0 0] [(0+0 * 1)=0 * 1+0 /\ 0 < xs.length,0=((0:Nat):Int) /\ 0 < xs.length]<|RD.one 10 (RDO.ev [] [.own 4,.own 4,.own 4] λ _=>?_)
  refine RD.fin<|RN.go 1 [] λ _=>RN.retM [d18] [0] [.own 3,.own 3,.own 3] [] [0] (v:=.agg #[vI 0,vI (xs.getD 0 0),.slice A_ ((List.range (hgtN xs.length)).length) c_]) (H':=(ap [] [T_])) ?_
  rw [List.length_range] at hs_ ⊢
  exact ⟨(A_,c_,T_),rfl,rfl,by rw [List.take_of_length_le (by rw [proofL_len];simp)] at hs_;exact hs_⟩
 ·exact λ _ _ _ h=>h.elim
theorem prove_any (t cb nb:Nat) (xs:List Int) (F:HL) (ht:(t,.lit [vI (hgtN xs.length:Int),vS cb 0 xs.length xs.length,vS nb 0 (2 * szN xs.length) (2 * szN xs.length)] 107 (0,0)) ∈ F) (hcb:(cb,.rows 1 xs.length (irow xs) 3 (0,0)) ∈ F) (hnb:(nb,.rows 1 (2 * szN xs.length) (urow (inF xs (szN xs.length) (szN xs.length - 1))) 50 (0,0)) ∈ F) (h0:0 < xs.length) (hl:xs.length <= 1000000):Sp Tryz.prog 19 #[vP t 0,vI 0] (ap [] []) F (λ u H'=>∃ x:Option Addr × Nat × HL,H'=ap [] [x.2.2] /\ (u=.agg #[vI 0,vI (xs.getD 0 0),.slice x.1 (hgtN xs.length) x.2.1] /\ SlIs u64E 50 (proofL xs) x.1 x.2.1 x.2.2)):=prove_run t cb nb xs F ht hcb hnb h0 hl
theorem verify_any (r v:Int) (n pb o N cp:Nat) (full pl:List Int) (F:HL) (hl:n <= 1000000) (hn0:0 < n) (hp:(pb,.rows 1 N (rowE u64E full) 50 (0,0)) ∈ F) (hN:o+hgtN n <= N) (hpl:∀ l,l < hgtN n -> full.getD (o+l) 0=pl.getD l 0):Sp Tryz.prog 20 #[.int .u64 r,vI (n:Int),.agg #[vI 0,vI v,vS pb (o * 1) (hgtN n) cp]] [] F (λ u H'=>u=.bool (decide (vup (leafH 0 v) pl (hgtN n)=r)) /\ H'=[]):=by
 obtain ⟨hb1,hb2,hb3,hb4⟩:=hgt_bd hl
 refine Sp.runM Tryz.func20 rfl (mc hp mn) (A:=[]) (Ts:=[]) rfl λ w0=>?_
 refine RN.go 9 [] λ n1=>RN.cp (height_any n _ hl)<|RN.go 16 [.own 0,.own 0] λ _=>RN.fx 21 (decide_eq_false (show ¬ (0 >= (n:Int)) by omega))<|RN.go 8 [.own 0] λ _=>RN.en ((((hgtN n):Nat):Int)=(hgtN n:Int)) 27 (λ h2=>?_) λ h2=>?_
 ·refine RN.go 9 [.own 0,.own 0] λ _=>RN.cp (leafh_any 0 v _)<|RN.go 10 [.own 0,.own 1] λ n3=>RN.ct (Hp:=[]) (Tp:=[]) [] [] (path_ap (hgtN n) _) ?_
  rintro _ m4 rfl
  refine RN.go 3 [] λ _=>RN.range (σ:=Nat) (τ:=Nat × Nat) (encs:=λ (x_:Nat)=>#[.agg #[vI (x_:Int),vI 0]]) (xs:=(List.range (hgtN n))) (enters_of Tryz.func89 (by kernel_rfl) rfl) (λ m_=>([((n3+0),.lit [.int .u64 (vup (leafH 0 v) pl m_)] 50 (0,0))],[])) (λ i_ m_=>m_=i_) (λ c_ m_=>False) (λ ⟨y_,p_⟩=>⟨[(0,.int .u64 r),(5,vP (n1+0) 0),(8,vP (n3+0) 0),(9,vP p_ 0)],[((n3+0),.lit [.int .u64 (vup (leafH 0 v) pl y_)] 50 (0,0)),(p_,.lit [vI (y_:Int),vI 0] 117 (0,0))],[],True,0⟩) (λ i_ x_ ⟨y_,p_⟩=>y_=i_ /\ y_=x_ /\ i_ < hgtN n) 0 rfl [2] [] (path_it (hgtN n) (m4+1) (m4+0) 0 _ (by omega) rfl (in_ap 0) (in_ap 1)) ?_ ?_ ?_ ?_
  ·rintro l_ i_ x_ m_ Y5 w6 hx7 rfl mt8
   obtain rfl:=(range_of hx7).1.symm
   refine RN.go 4 [.own 0,.own 0] λ n9=>?_
   refine mt8 (m_,(n9+0)) [1,0] [] ?_
   try dsimp only
   exact ⟨rfl,rfl,(range_of hx7).2⟩
  ·rintro l_ i_ x_ ⟨y_,p_⟩ Y10 w11 hx12 ⟨rfl,rfl,hlt_⟩
   refine RN.go 1 [] λ _=>RN.draw [9] []<|RD.goP [] [0,1,2,4,3,5,6,7] [.own 1,.own 1,.own 0,.ro 2,.own 1,.ix y_,.rorow 3 (o+y_) 0] [(o * 1+y_ * 1)=(o+y_) * 1+0 /\ (o+y_) < N,(y_:Int)=((y_:Nat):Int) /\ y_ < (hgtN n)]<|RD.cp [] 8 (λ X_=>(join_any (y_:Int) (vup (leafH 0 v) pl y_) (full.getD (o+y_) 0) _))<|RD.one 9 (RDO.ev [] [.own 0] λ _=>?_)
   refine RD.fin<|RN.go 1 [] λ _=>?_
   have e_:vup (leafH 0 v) pl (y_+1)=pairH (vup (leafH 0 v) pl y_) (full.getD (o+y_) 0):=by rw [vup,hpl y_ hlt_]
   refine RN.bv 0 (congrArg (λ v_=>(.lit [.int .u64 v_] 50 (0,0):Blk)) e_.symm)<|RN.rn (y_+1) [0] [] ?_
   try dsimp only
   first | done | rfl
  ·rintro d13 m_  rfl
   refine RN.go 10 [.own 1] λ _=>RN.retM [d13] [0] [] [] [] (v:=.bool (decide (vup (leafH 0 v) pl (List.range (hgtN n)).length=r))) (H':=[]) ?_
   exact ⟨by rw [List.length_range],rfl⟩
  ·exact λ _ _ _ h=>h.elim
 ·exact absurd rfl h2
end Go.Proofs.YtcfajdgeejeieaaGreatDoor
