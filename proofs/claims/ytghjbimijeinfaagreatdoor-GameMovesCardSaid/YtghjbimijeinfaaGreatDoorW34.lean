import Derived.Test.YtghjbimijeinfaaGreatDoorW19
import Derived.Test.YtghjbimijeinfaaGreatDoorW33
import Derived.Test.YtghjbimijeinfaaGreatDoorW20
set_option maxHeartbeats 4000000
set_option maxRecDepth 100000
set_option linter.unusedSimpArgs false
set_option linter.unusedVariables false
namespace Go.Proofs.YtghjbimijeinfaaGreatDoor
open Go.RowKit
abbrev gmB (S:Setup) (j:Nat × Int) (n:Nat) (xs:List Inp):Gm:=⟨S,none,lenB j.1,0,entI j.1 0,entI j.1 1,entI j.1 2,j.2,0,0,n,0,0,xs,insB j.1⟩
def AtOk (F:HL) (bp:Nat) (t:Int) (j:Nat × Int):Prop:=∀ F',(∀ x ∈ F,x ∈ F') -> Sp Tryz.prog 15 #[vP bp 0,vI t] (ap [] []) F' (λ u H'=>∃ x:Option Addr × Nat × HL,H'=ap [] [x.2.2] /\ (u=.tuple #[vI j.2,.agg #[.slice x.1 (lenB j.1) x.2.1,vI (entI j.1 0),vI (entI j.1 1),vI (entI j.1 2)]] /\ ClS insE 129 (insB j.1) x.1 x.2.1 x.2.2))
theorem AtOk.mono {F F':HL} {bp:Nat} {t:Int} {j:Nat × Int} (h:AtOk F bp t j) (hs:∀ x ∈ F,x ∈ F'):AtOk F' bp t j:=λ F2 h2=>h F2 λ x hx=>h2 x (hs x hx)
theorem Book1.at {j bp:Nat} {TB F:HL} (hB:Book1 j bp TB) (hT:∀ x ∈ TB,x ∈ F) (hj:j < 5) (t:Int) (ht:0 <= t):AtOk F bp t (j,0):=λ F' hF=>at1_any hB (λ x hx=>hF x (hT x hx)) hj t ht
abbrev encS (x:Eff × Bool):Array Value:=#[.agg #[vI x.1.t,vI x.1.i,vI x.1.k,vI x.1.v,.bool x.2]]
theorem ClS.code {j:Nat} (hj:j < 5) {A:Option Addr} {c:Nat} {Hl F:HL} (h:ClS insE 129 (insB j) A c Hl) (hF:∀ x ∈ Hl,x ∈ F):CodeIn F (insB j) A (lenB j):=by
 have hl:=insB_len hj
 have hb:=lenB_le hj
 obtain ⟨A0,h⟩:=h
 rcases h with ⟨h1,rfl,rfl,rfl⟩ | ⟨b,rfl,rfl,h3⟩
 ·rw [h1] at hl
  rw [<- hl]
  exact .nil _
 ·exact .mk b c _ (hF _ (List.mem_singleton.2 rfl)) (by rw [<- hl];exact h3) (by omega)
theorem gmB_eq {S:Setup} {A:Option Addr} {j:Nat × Int} {c ib io n ic N:Nat} {full xs:List Inp} (hx:∀ k,k < n -> full.getD (io+k) dI=xs.getD k dI):GEq ⟨S,A,lenB j.1,c,entI j.1 0,entI j.1 1,entI j.1 2,j.2,ib,io,n,ic,N,full,insB j.1⟩ (gmB S j n xs) :=
 ⟨rfl,λ k hk=>(hx k hk).trans (by rw [Nat.zero_add])⟩
theorem trans_nm {g g0:Gm} (e:GEq g g0) (mb:Nat) (M:MemS) (k:Nat) (T F:HL) (hM:MemH mb M (k+20) T) (hg:GmIn F g) (h0:phOk M) (ver:Int) (hver:g.version=ver):Sp Tryz.prog 18 #[.iface 40 (vP mb 0),.agg #[vI g.S.players,vS g.S.bb (g.S.bo * 9) g.S.nb g.S.bc,vI g.S.box.x0,vI g.S.box.y0,vI g.S.box.x1,vI g.S.box.y1,.slice g.S.rA g.S.rn g.S.rc,.slice g.S.dA g.S.dn g.S.dc,vI g.S.fog,vI g.S.g.x,vI g.S.g.y,vI g.S.push,vI g.S.drag,vI g.S.rest,vI g.S.rounds,vI g.S.fuel],.agg #[.slice g.cA g.cn g.cc,vI g.e0,vI g.e1,vI g.e2],vI ver,vS g.ib (g.io * 3) g.ni g.ic] (ap [] [T]) F (λ u H'=>∃ x,H'=ap [] [x] /\ (MemH mb (trM g0 M) k x /\ u=.tuple #[.bool (trE g0 M),.agg #[vI ((trV g0 M).e.t),vI ((trV g0 M).e.i),vI ((trV g0 M).e.k),vI ((trV g0 M).e.v)],.bool ((trV g0 M).em)])):=by
 have h:=trans_any g mb M k T F hM hg h0 ver hver
 rwa [trM,trE_eq e,trV_eq e] at h
theorem trn_run (S:Setup) (bp gb mb q1 q2 ib io N ni ic m k:Nat) (j:Nat × Int) (full xs:List Inp) (M:MemS) (F:HL) (hj:j.1 < 5) (hA:AtOk F bp (M.get 0) j) (hg:(gb,.lit (gameL S bp mb) 115 (0,0)) ∈ F) (h1:(q1,.lit [vP gb 0] 35 (0,0)) ∈ F) (h2:(q2,.lit [vS ib (io * 3) ni ic] 56 (0,0)) ∈ F) (hS:SetIn F S) (hE:EffIn F) (hI:(ib,.rows 3 N (inrow full) 151 (0,0)) ∈ F) (hir:io+ni <= N /\ ni <= 1000000) (hx:∀ k,k < ni -> full.getD (io+k) dI=xs.getD k dI) (T:HL) (hM:MemH mb M (k+20 * m+20) T) (h0:0 <= M.get 0) (hgood:goodRun (gmB S j ni xs) (m+1) M) (lp:Nat) (X:HL) (J:Nat -> HL -> Prop) (Jx:HL -> Prop) (T0:HL) (hY:∀ i x H Y,(trsV (gmB S j ni xs) (m+1) M)[i]?=some x -> J i H -> YL Tryz.prog lp (encS x) H (Y++(X++F)) (λ b H'=>(b=true /\ J (i+1) H') \/ (b=false /\ Jx H'))) (hJ0:J 0 T0):Sp Tryz.prog 100 #[.func (.yield lp) #[] #[],vP q1 0,vP q2 0] (ap [] [T0,T]) (X++F) (λ _ H'=>∃ x:HL × HL,H'=ap [] [x.1,x.2] /\ ((J (trsV (gmB S j ni xs) (m+1) M).length x.1 /\ MemH mb (runM (gmB S j ni xs) (m+1) M) k x.2) \/ Jx x.1)):=by
 have hg_:=List.mem_append_right X hg
 have h1_:=List.mem_append_right X h1
 have h2_:=List.mem_append_right X h2
 have hS_:SetIn (X++F) S:=hS.up
 have hE_:EffIn (X++F):=List.mem_append_right X hE
 have hI_:=List.mem_append_right X hI
 have hA_:AtOk (X++F) bp (M.get 0) j:=hA.mono λ x hx=>List.mem_append_right X hx
 refine Sp.run Tryz.func100 rfl (mc hg_ (mc h1_ (mc h2_ mn))) (A:=[]) (Ts:=[T0,T]) rfl λ w0=>?_
 refine RN.go 1 [] λ _=>RN.draw [12] []<|RD.go [] [0,4,1,2,3] [.ro 1,.ro 1,.ro 0]<|RD.cp [] 5 (λ X_=>(gnow_any S bp gb mb M (k+20 * m+20) T _ (ro_apX hg_) hM (sub_apX 1)))<|RD.two 6 10 ?_ ?_
 ·refine RDO.ct [] (Hp:=[]) (Tp:=[]) [] [] (hA_ _ (λ x hx=>ro_ap hx)) ?_
  rintro _ ⟨A1,c2,T3⟩ ⟨rfl,hc4⟩
  dsimp only at hc4
  refine RD.go [] [7,8,9] []<|RD.one 10 (RDO.ev [] [] λ n5=>?_)
  refine RD.go [] [11] []<|RD.one 12 (RDO.ev [] [.own 0,.own 0,.own 0,.own 0] λ _=>?_)
  refine RD.fin<|RN.go 2 [] λ _=>RN.loop (σ:=Nat × Nat × MemS × HL × HL) (λ ⟨r,i_,M_,T_,J_⟩=>⟨[(0,.func (.yield lp) #[] #[]),(1,vP q1 0),(2,vP q2 0),(4,vI j.2),(5,vP (n5+0) 0)],[((n5+0),.lit [.slice A1 (lenB j.1) c2,vI (entI j.1 0),vI (entI j.1 1),vI (entI j.1 2)] 47 (0,0))],[T_,J_,T3],i_+(r+1)=m+1 /\ goodRun (gmB S j ni xs) (r+1) M_ /\ runM (gmB S j ni xs) (r+1) M_=runM (gmB S j ni xs) (m+1) M /\ MemH mb M_ (k+20 * r+20) T_ /\ (trsV (gmB S j ni xs) (m+1) M).drop i_=trsV (gmB S j ni xs) (r+1) M_ /\ J i_ J_,r⟩) (m,0,M,T,T0) [0] [2,1,0] (⟨by omega,hgood,rfl,hM,rfl,hJ0⟩) ?_
  rintro ⟨r,i_,M_,T_,J_⟩ ⟨hd_,hgood_,hrun_,hM_,hdr_,hJ_⟩ mt7
  refine RN.go 2 [] λ _=>RN.draw [12,19] []<|RD.go [] [0,5,9,10,11,1,6,2,7,3,8,4] [.ro 1,.ro 1,.own 0,.own 0,.own 0,.own 0,.ro 2,.ro 0,.ro 0,.ro 0,.ro 0,.ro 0,.ro 0,.ro 0,.ro 0,.ro 0,.ro 0,.ro 0,.ro 0,.ro 0,.ro 0,.ro 0,.ro 0,.ro 0]<|RD.two 12 17 ?_ ?_
  ·refine RDO.ct [] [] [0] (trans_nm (g:=(⟨S,A1,lenB j.1,c2,entI j.1 0,entI j.1 1,entI j.1 2,j.2,ib,io,ni,ic,N,full,insB j.1⟩:Gm)) (gmB_eq hx) mb M_ (k+20 * r) T_ _ hM_ ⟨hS_.up,ro_ap hI_,hir,ro_ap hE_,hc4.code hj (sub_ap 1)⟩ hgood_.1 j.2 rfl) ?_
   rintro _ T8 ⟨hM9,rfl⟩
   refine RD.go [] [13,14,15,16] []<|RD.one 17 (RDO.ev [] [] λ n10=>?_)
   refine RD.go [] [18] []<|RD.one 19 (RDO.ev [] [.own 0,.own 0,.own 0,.own 0] λ _=>?_)
   refine RD.go [] [20] []<|RD.fin<|RN.go 7 [.own 0,.own 0,.own 0,.own 0] λ _=>RN.yield 1 (hY i_ ((trV (gmB S j ni xs) M_).e,(trV (gmB S j ni xs) M_).em) _ _ (trs_head hdr_).1 hJ_) ?_
   rintro b_ T11 (⟨rfl,hJ12⟩ | ⟨rfl,hJ12⟩)
   ·refine RN.go 6 [] λ _=>RN.eb (trE (gmB S j ni xs) M_) 44 (λ h13=>?_) λ h13=>?_
    ·refine RN.go 1 [] λ _=>RN.ret [] [] [0,1] (v:=.tuple #[]) (H':=(ap [] [T11,T8])) ?_
     have er:r=0:=by
      rcases hgood_.2 with ⟨e,_⟩ | ⟨e,_⟩
      ·exact e
      ·have hh:trE (gmB S j ni xs) M_=true:=by assumption
       rw [e] at hh;cases hh
     subst er
     have ed:i_+1=(trsV (gmB S j ni xs) (m+1) M).length:=by rw [trsV_len];omega
     refine ⟨(T11,T8),rfl,.inl ⟨?_,?_⟩⟩
     ·rw [<- ed];exact hJ12
     ·rw [<- hrun_];exact hM9.weak (by omega)
    ·refine RN.go 3 [] λ _=>?_
     have hg2:=hgood_.2
     rcases hg2 with ⟨_,e_⟩ | ⟨_,hg2⟩
     ·exact absurd e_ (by assumption)
     rcases r with _ | r
     ·exact hg2.elim
     refine mt7 (r,i_+1,(trM (gmB S j ni xs) M_),T8,T11) [1] [1,0,2] ?_
     try dsimp only
     exact ⟨⟨by omega,hg2,hrun_,hM9.weak (by omega),(trs_head hdr_).2,hJ12⟩,by omega⟩
   ·refine RN.go 7 [] λ _=>RN.ret [] [] [0,1] (v:=.tuple #[]) (H':=(ap [] [T11,T8])) ?_
    exact ⟨(T11,T8),rfl,.inr hJ12⟩
  ·refine RDO.ev [] [] λ n14=>RD.one 12 (RDO.ct [] [] [0] (trans_nm (g:=(⟨S,A1,lenB j.1,c2,entI j.1 0,entI j.1 1,entI j.1 2,j.2,ib,io,ni,ic,N,full,insB j.1⟩:Gm)) (gmB_eq hx) mb M_ (k+20 * r) T_ _ hM_ ⟨hS_.up,ro_ap hI_,hir,ro_ap hE_,hc4.code hj (sub_ap 1)⟩ hgood_.1 j.2 rfl) ?_)
   rintro _ T15 ⟨hM16,rfl⟩
   refine RD.go [] [13,14,15,16,18] []<|RD.one 19 (RDO.ev [] [.own 0,.own 0,.own 0,.own 0] λ _=>?_)
   refine RD.go [] [20] []<|RD.fin<|RN.go 7 [.own 0,.own 0,.own 0,.own 0] λ _=>RN.yield 1 (hY i_ ((trV (gmB S j ni xs) M_).e,(trV (gmB S j ni xs) M_).em) _ _ (trs_head hdr_).1 hJ_) ?_
   rintro b_ T17 (⟨rfl,hJ18⟩ | ⟨rfl,hJ18⟩)
   ·refine RN.go 6 [] λ _=>RN.eb (trE (gmB S j ni xs) M_) 44 (λ h19=>?_) λ h19=>?_
    ·refine RN.go 1 [] λ _=>RN.ret [] [] [0,1] (v:=.tuple #[]) (H':=(ap [] [T17,T15])) ?_
     have er:r=0:=by
      rcases hgood_.2 with ⟨e,_⟩ | ⟨e,_⟩
      ·exact e
      ·have hh:trE (gmB S j ni xs) M_=true:=by assumption
       rw [e] at hh;cases hh
     subst er
     have ed:i_+1=(trsV (gmB S j ni xs) (m+1) M).length:=by rw [trsV_len];omega
     refine ⟨(T17,T15),rfl,.inl ⟨?_,?_⟩⟩
     ·rw [<- ed];exact hJ18
     ·rw [<- hrun_];exact hM16.weak (by omega)
    ·refine RN.go 3 [] λ _=>?_
     have hg2:=hgood_.2
     rcases hg2 with ⟨_,e_⟩ | ⟨_,hg2⟩
     ·exact absurd e_ (by assumption)
     rcases r with _ | r
     ·exact hg2.elim
     refine mt7 (r,i_+1,(trM (gmB S j ni xs) M_),T15,T17) [1] [1,0,2] ?_
     try dsimp only
     exact ⟨⟨by omega,hg2,hrun_,hM16.weak (by omega),(trs_head hdr_).2,hJ18⟩,by omega⟩
   ·refine RN.go 7 [] λ _=>RN.ret [] [] [0,1] (v:=.tuple #[]) (H':=(ap [] [T17,T15])) ?_
    exact ⟨(T17,T15),rfl,.inr hJ18⟩
 ·refine RDO.ev [] [] λ n20=>RD.one 6 (RDO.ct [] (Hp:=[]) (Tp:=[]) [] [] (hA_ _ (λ x hx=>ro_ap hx)) ?_)
  rintro _ ⟨A21,c22,T23⟩ ⟨rfl,hc24⟩
  dsimp only at hc24
  refine RD.go [] [7,8,9,11] []<|RD.one 12 (RDO.ev [] [.own 0,.own 0,.own 0,.own 0] λ _=>?_)
  refine RD.fin<|RN.go 2 [] λ _=>RN.loop (σ:=Nat × Nat × MemS × HL × HL) (λ ⟨r,i_,M_,T_,J_⟩=>⟨[(0,.func (.yield lp) #[] #[]),(1,vP q1 0),(2,vP q2 0),(4,vI j.2),(5,vP (n20+0) 0)],[((n20+0),.lit [.slice A21 (lenB j.1) c22,vI (entI j.1 0),vI (entI j.1 1),vI (entI j.1 2)] 47 (0,0))],[T_,J_,T23],i_+(r+1)=m+1 /\ goodRun (gmB S j ni xs) (r+1) M_ /\ runM (gmB S j ni xs) (r+1) M_=runM (gmB S j ni xs) (m+1) M /\ MemH mb M_ (k+20 * r+20) T_ /\ (trsV (gmB S j ni xs) (m+1) M).drop i_=trsV (gmB S j ni xs) (r+1) M_ /\ J i_ J_,r⟩) (m,0,M,T,T0) [0] [2,1,0] (⟨by omega,hgood,rfl,hM,rfl,hJ0⟩) ?_
  rintro ⟨r,i_,M_,T_,J_⟩ ⟨hd_,hgood_,hrun_,hM_,hdr_,hJ_⟩ mt26
  refine RN.go 2 [] λ _=>RN.draw [12,19] []<|RD.go [] [0,5,9,10,11,1,6,2,7,3,8,4] [.ro 1,.ro 1,.own 0,.own 0,.own 0,.own 0,.ro 2,.ro 0,.ro 0,.ro 0,.ro 0,.ro 0,.ro 0,.ro 0,.ro 0,.ro 0,.ro 0,.ro 0,.ro 0,.ro 0,.ro 0,.ro 0,.ro 0,.ro 0]<|RD.two 12 17 ?_ ?_
  ·refine RDO.ct [] [] [0] (trans_nm (g:=(⟨S,A21,lenB j.1,c22,entI j.1 0,entI j.1 1,entI j.1 2,j.2,ib,io,ni,ic,N,full,insB j.1⟩:Gm)) (gmB_eq hx) mb M_ (k+20 * r) T_ _ hM_ ⟨hS_.up,ro_ap hI_,hir,ro_ap hE_,hc24.code hj (sub_ap 1)⟩ hgood_.1 j.2 rfl) ?_
   rintro _ T27 ⟨hM28,rfl⟩
   refine RD.go [] [13,14,15,16] []<|RD.one 17 (RDO.ev [] [] λ n29=>?_)
   refine RD.go [] [18] []<|RD.one 19 (RDO.ev [] [.own 0,.own 0,.own 0,.own 0] λ _=>?_)
   refine RD.go [] [20] []<|RD.fin<|RN.go 7 [.own 0,.own 0,.own 0,.own 0] λ _=>RN.yield 1 (hY i_ ((trV (gmB S j ni xs) M_).e,(trV (gmB S j ni xs) M_).em) _ _ (trs_head hdr_).1 hJ_) ?_
   rintro b_ T30 (⟨rfl,hJ31⟩ | ⟨rfl,hJ31⟩)
   ·refine RN.go 6 [] λ _=>RN.eb (trE (gmB S j ni xs) M_) 44 (λ h32=>?_) λ h32=>?_
    ·refine RN.go 1 [] λ _=>RN.ret [] [] [0,1] (v:=.tuple #[]) (H':=(ap [] [T30,T27])) ?_
     have er:r=0:=by
      rcases hgood_.2 with ⟨e,_⟩ | ⟨e,_⟩
      ·exact e
      ·have hh:trE (gmB S j ni xs) M_=true:=by assumption
       rw [e] at hh;cases hh
     subst er
     have ed:i_+1=(trsV (gmB S j ni xs) (m+1) M).length:=by rw [trsV_len];omega
     refine ⟨(T30,T27),rfl,.inl ⟨?_,?_⟩⟩
     ·rw [<- ed];exact hJ31
     ·rw [<- hrun_];exact hM28.weak (by omega)
    ·refine RN.go 3 [] λ _=>?_
     have hg2:=hgood_.2
     rcases hg2 with ⟨_,e_⟩ | ⟨_,hg2⟩
     ·exact absurd e_ (by assumption)
     rcases r with _ | r
     ·exact hg2.elim
     refine mt26 (r,i_+1,(trM (gmB S j ni xs) M_),T27,T30) [1] [1,0,2] ?_
     try dsimp only
     exact ⟨⟨by omega,hg2,hrun_,hM28.weak (by omega),(trs_head hdr_).2,hJ31⟩,by omega⟩
   ·refine RN.go 7 [] λ _=>RN.ret [] [] [0,1] (v:=.tuple #[]) (H':=(ap [] [T30,T27])) ?_
    exact ⟨(T30,T27),rfl,.inr hJ31⟩
  ·refine RDO.ev [] [] λ n33=>RD.one 12 (RDO.ct [] [] [0] (trans_nm (g:=(⟨S,A21,lenB j.1,c22,entI j.1 0,entI j.1 1,entI j.1 2,j.2,ib,io,ni,ic,N,full,insB j.1⟩:Gm)) (gmB_eq hx) mb M_ (k+20 * r) T_ _ hM_ ⟨hS_.up,ro_ap hI_,hir,ro_ap hE_,hc24.code hj (sub_ap 1)⟩ hgood_.1 j.2 rfl) ?_)
   rintro _ T34 ⟨hM35,rfl⟩
   refine RD.go [] [13,14,15,16,18] []<|RD.one 19 (RDO.ev [] [.own 0,.own 0,.own 0,.own 0] λ _=>?_)
   refine RD.go [] [20] []<|RD.fin<|RN.go 7 [.own 0,.own 0,.own 0,.own 0] λ _=>RN.yield 1 (hY i_ ((trV (gmB S j ni xs) M_).e,(trV (gmB S j ni xs) M_).em) _ _ (trs_head hdr_).1 hJ_) ?_
   rintro b_ T36 (⟨rfl,hJ37⟩ | ⟨rfl,hJ37⟩)
   ·refine RN.go 6 [] λ _=>RN.eb (trE (gmB S j ni xs) M_) 44 (λ h38=>?_) λ h38=>?_
    ·refine RN.go 1 [] λ _=>RN.ret [] [] [0,1] (v:=.tuple #[]) (H':=(ap [] [T36,T34])) ?_
     have er:r=0:=by
      rcases hgood_.2 with ⟨e,_⟩ | ⟨e,_⟩
      ·exact e
      ·have hh:trE (gmB S j ni xs) M_=true:=by assumption
       rw [e] at hh;cases hh
     subst er
     have ed:i_+1=(trsV (gmB S j ni xs) (m+1) M).length:=by rw [trsV_len];omega
     refine ⟨(T36,T34),rfl,.inl ⟨?_,?_⟩⟩
     ·rw [<- ed];exact hJ37
     ·rw [<- hrun_];exact hM35.weak (by omega)
    ·refine RN.go 3 [] λ _=>?_
     have hg2:=hgood_.2
     rcases hg2 with ⟨_,e_⟩ | ⟨_,hg2⟩
     ·exact absurd e_ (by assumption)
     rcases r with _ | r
     ·exact hg2.elim
     refine mt26 (r,i_+1,(trM (gmB S j ni xs) M_),T34,T36) [1] [1,0,2] ?_
     try dsimp only
     exact ⟨⟨by omega,hg2,hrun_,hM35.weak (by omega),(trs_head hdr_).2,hJ37⟩,by omega⟩
   ·refine RN.go 7 [] λ _=>RN.ret [] [] [0,1] (v:=.tuple #[]) (H':=(ap [] [T36,T34])) ?_
    exact ⟨(T36,T34),rfl,.inr hJ37⟩
theorem trn_it (S:Setup) (bp gb mb q1 q2 ib io N ni ic m k:Nat) (j:Nat × Int) (full xs:List Inp) (M:MemS) (F:HL) (hj:j.1 < 5) (hA:AtOk F bp (M.get 0) j) (hg:(gb,.lit (gameL S bp mb) 115 (0,0)) ∈ F) (h1:(q1,.lit [vP gb 0] 35 (0,0)) ∈ F) (h2:(q2,.lit [vS ib (io * 3) ni ic] 56 (0,0)) ∈ F) (hS:SetIn F S) (hE:EffIn F) (hI:(ib,.rows 3 N (inrow full) 151 (0,0)) ∈ F) (hir:io+ni <= N /\ ni <= 1000000) (hx:∀ k,k < ni -> full.getD (io+k) dI=xs.getD k dI) (T:HL) (hM:MemH mb M (k+20 * m+20) T) (h0:0 <= M.get 0) (hgood:goodRun (gmB S j ni xs) (m+1) M):ItO Tryz.prog 100 #[vP q1 0,vP q2 0] T F encS (trsV (gmB S j ni xs) (m+1) M) (λ T1=>MemH mb (runM (gmB S j ni xs) (m+1) M) k T1) (λ _=>True):=by
 intro X l J Jx H0 hY h0'
 have e:∀ A B:HL,ap [] [A,B]=A++B:=λ A B=>by simp [ap]
 have key:=trn_run S bp gb mb q1 q2 ib io N ni ic m k j full xs M F hj hA hg h1 h2 hS hE hI hir hx T hM h0 hgood l X J Jx H0 hY h0'
 rw [e] at key
 refine key.mono λ u H' h=>?_
 obtain ⟨x,rfl,h⟩:=h
 refine ⟨x.1,x.2,e _ _,?_⟩
 rcases h with ⟨a,b⟩ | a
 ·exact .inl ⟨a,b⟩
 ·exact .inr ⟨a,trivial⟩
theorem gcheck_b (e:Int) (S:Setup) (bp gb mb:Nat) (M:MemS) (k:Nat) (A:Option Addr) (n cap:Nat) (xs:List Inp) (T F:HL) (hg:(gb,.lit (gameL S bp mb) 115 (0,0)) ∈ F) (hM:MemH mb M k T) (hT:∀ x ∈ T,x ∈ F) (hl:RowL inpE 151 F A n xs) (hn:n <= 1000000) (he:wrongE S.players n xs (M.get 0)=e):Sp Tryz.prog 57 #[vP gb 0,.slice A n cap] [] F (λ u H'=>u=vI e /\ H'=[]):=he ▸ gcheck_any S bp gb mb M k A n cap xs T F hg hM hT hl hn
theorem tick1_ap (c0 c1 c2 c3 c4:Value) (F:HL):SpD Tryz.prog 59 #[c0,c1,c2,c3,c4] (ap [] []) F (λ _ H'=>∃ _:Unit,H'=ap [] [] /\ True):=by
 exact (tick1_sp c0 c1 c2 c3 c4 F).mono λ u H' h=>⟨(),h,trivial⟩
theorem tick_run (S:Setup) (rs:List Bx) (ds:List Dr) (bp gb mb ib io N ni ic m k:Nat) (j:Nat × Int) (full xs:List Inp) (M:MemS) (T U F:HL) (hj:j.1 < 5) (hA:AtOk F bp (M.get 0) j) (hU:SetTl S rs ds U) (hE:EffIn F) (hI:(ib,.rows 3 N (inrow full) 151 (0,0)) ∈ F) (hir:io+ni <= N) (hni:ni <= 1000000) (hmb:m <= 1000000) (hlen:xs.length=ni) (hx:∀ k,k < ni -> full.getD (io+k) dI=xs.getD k dI) (hM:MemH mb M (k+20 * m+20) T) (h0:0 <= M.get 0) (hgood:goodRun (gmB S j ni xs) (m+1) M) (hw:wrongE S.players ni xs (M.get 0)=0):Sp Tryz.prog 19 #[vP gb 0,vS ib (io * 3) ni ic] (ap [(gb,.lit (gameL S bp mb) 115 (0,0))] [T,U]) F (λ u H'=>∃ x:HL × Option Addr × Nat × HL,H'=ap [(gb,.lit (gameL S bp mb) 115 (0,0))] [x.1,U,x.2.2.2] /\ (MemH mb (runM (gmB S j ni xs) (m+1) M) k x.1 /\ SlIs effE 53 (effsV (gmB S j ni xs) (m+1) M) x.2.1 x.2.2.1 x.2.2.2 /\ u=.tuple #[.slice x.2.1 (effsV (gmB S j ni xs) (m+1) M).length x.2.2.1,vI ((m+1:Nat):Int),vI 0])):=by
 have hl:RowL inpE 151 F (some ⟨ib,io * 3,none⟩) ni xs:=.rows ib io N full (0,0) ni xs hI hir hlen hx
 have hM2:=hM
 refine Sp.runM Tryz.func19 rfl mn (A:=[(gb,.lit (gameL S bp mb) 115 (0,0))]) (Ts:=[T,U]) rfl λ w0=>?_
 refine RN.go 13 [.own 3] λ n1=>RN.cp (gcheck_b 0 S bp gb mb M (k+20 * m+20) (some ⟨ib,io * 3,none⟩) ni ic xs T _ (in_ap 4) hM (sub_ap 0) hl.up hni hw)<|RN.go 18 [.own 3,.own 4] λ _=>RN.cp (mark_any hM (sub_ap 0))<|RN.go 7 [.own 0] λ n2=>RN.df (g:=59) (args:=#[]) (cap:=#[vP (n1+0) 0,vP (n2+0) 0,vP (n1+1) 0,vP (n1+2) 0,vP (n1+3) 0])<|RN.go 7 [.own 4] λ _=>RN.ct (Hp:=[]) (Tp:=[]) [] [] (transf_any gb ib io ni ic _) ?_
 rintro _ n3 rfl
 refine RN.go 3 [] λ _=>RN.nt<|RN.pt [1,0,2]<|RN.rangeO (σ:=Nat × List Eff × Option Addr × Nat × HL) (τ:=(Nat × List Eff × Option Addr × Nat × HL) × Nat × (Eff × Bool)) (encs:=λ (x_:Eff × Bool)=>#[.agg #[vI x_.1.t,vI x_.1.i,vI x_.1.k,vI x_.1.v,.bool x_.2]]) (xs:=(trsV (gmB S j ni xs) (m+1) M)) (enters_of Tryz.func100 (by kernel_rfl) rfl) (λ ⟨c_,es_,B_,b_,E_⟩=>([((n1+1),.lit [.slice B_ es_.length b_] 57 (0,0)),((n1+2),.lit [vI (c_:Int)] 3 (0,0))],[E_])) (λ i_ ⟨c_,es_,B_,b_,E_⟩=>c_=i_ /\ es_=effP ((trsV (gmB S j ni xs) (m+1) M).take i_) /\ SlIs effE 53 es_ B_ b_ E_) (λ c_ ⟨c_,es_,B_,b_,E_⟩=>False) (λ ⟨⟨c_,es_,B_,b_,E_⟩,nn_,y_⟩=>⟨[(4,vP (n1+1) 0),(5,vP (n1+2) 0),(6,vP (n1+3) 0),(9,vP (nn_+0) 0)],[((nn_+0),.lit [vI y_.1.t,vI y_.1.i,vI y_.1.k,vI y_.1.v,.bool y_.2] 147 (0,0)),((n1+1),.lit [.slice B_ es_.length b_] 57 (0,0)),((n1+2),.lit [vI (c_:Int)] 3 (0,0))],[E_],True,0⟩) (λ i_ x_ ⟨⟨c_,es_,B_,b_,E_⟩,nn_,y_⟩=>(c_=i_ /\ es_=effP ((trsV (gmB S j ni xs) (m+1) M).take i_) /\ SlIs effE 53 es_ B_ b_ E_) /\ y_=x_) (0,[],none,0,[]) (⟨rfl,rfl,SlIs.nil _ _⟩) [5,4] [1] T (trn_it S bp gb mb (n3+0) (n3+1) ib io N ni ic m k j full xs M _ hj (hA.mono λ x hx=>ro_ap hx) (in_ap 5) (in_ap 1) (in_ap 0) (hU _ (sub_ap 0)).1 (ro_ap hE) (ro_ap hI) ⟨hir,hni⟩ hx T hM2 h0 hgood) ?_ ?_ ?_ ?_
 ·rintro l_ i_ x_ ⟨c_,es_,B_,b_,E_⟩ Y4 w5 hx6 ⟨hc_,he_,hs_⟩ mt7
  refine RN.go 4 (ow 0 5) λ n8=>?_
  refine mt7 ((c_,es_,B_,b_,E_),n8,x_) [0,1,2] [0] ?_
  try dsimp only
  exact ⟨⟨hc_,he_,hs_⟩,rfl⟩
 ·rintro l_ i_ x_ ⟨⟨c_,es_,B_,b_,E_⟩,nn_,y_⟩ Y9 w10 hx11 ⟨⟨hc_,he_,hs_⟩,ey_⟩
  subst ey_
  have hbd_:i_ < m+1:=by have:=(List.getElem?_eq_some_iff.1 hx11).1;rwa [trsV_len] at this
  have hel_:es_.length <= i_:=by rw [he_];have:=effP_len ((trsV (gmB S j ni xs) (m+1) M).take i_);rw [List.length_take] at this;omega
  refine RN.goP 14 [.own 2,.nw,.own 2,.own 0] [I64 ((c_:Int)+1)] λ _=>RN.eb (y_.2) 29 (λ h12=>?_) λ h12=>?_
  ·refine RN.go 6 [.own 1,.own 0,.own 0,.own 0,.own 0] λ n13=>RN.app effEOk es_ [y_.1] 0 0 rfl hs_ (by simp;omega) ?_
   rintro A14 c15 T16 ⟨hs17,hz18⟩
   refine RN.go 3 [.own 2] λ _=>RN.bv 3 (congrArg (λ v_=>(.lit [vI v_] 3 (0,0):Blk)) (show ((c_:Int)+1)=((c_+1:Nat):Int) by omega))<|RN.bv 2 (congrArg (λ v_=>(.lit [.slice A14 v_ c15] 57 (0,0):Blk)) (show es_.length+1=(es_++[y_.1]).length by simp))<|RN.rn (c_+1,es_++[y_.1],A14,c15,T16) [2,3] [0] ?_
   try dsimp only
   exact ⟨by omega,by rw [effP_yes hx11 h12,<- he_],hs17⟩
  ·refine RN.go 3 [] λ _=>RN.bv 2 (congrArg (λ v_=>(.lit [vI v_] 3 (0,0):Blk)) (show ((c_:Int)+1)=((c_+1:Nat):Int) by omega))<|RN.rn (c_+1,es_,B_,b_,E_) [1,2] [0] ?_
   try dsimp only
   exact ⟨by omega,by rw [effP_no hx11 h12,<- he_],hs_⟩
 ·rintro d19 ⟨c_,es_,B_,b_,E_⟩ T20 ⟨hc_,he_,hs_⟩ hT21
  refine RN.go 3 [] λ _=>RN.draw [0,1,2,3,4] []<|RD.haveK (σ:=Unit) (λ _=>⟨[(4,vP (n1+1) 0),(5,vP (n1+2) 0),(6,vP (n1+3) 0)],[(d19,.obj (.deferred (some []))),((n1+1),.lit [.slice B_ es_.length b_] 57 (0,0)),((n1+2),.lit [vI (c_:Int)] 3 (0,0)),((n3+1),.lit [vS ib (io * 3) ni ic] 56 (0,0)),((n3+0),.lit [vP gb 0] 35 (0,0)),((n2+0),.lit [vI (w64 (M.base+(M.lg.length:Int)))] 3 (0,0)),((n1+3),.lit [vI 0] 58 (0,0)),((n1+0),.lit [vP gb 0] 35 (0,0)),(gb,.lit (gameL S bp mb) 115 (0,0))],[E_,T20,U],True,0⟩) ?_ ?_
  ·rintro ⟨⟩
   refine RN.go 1 [] λ _=>RN.lv ?_
   refine LV.mark 0 ?_
   refine LV.df (enters_of Tryz.func59 (by kernel_rfl) rfl) [] [] (tick1_ap _ _ _ _ _ _) ?_
   rintro _ _ _
   refine LV.ret [.own 0,.own 1,.own 5] [7] [1,2,0] (v:=.tuple #[.slice B_ es_.length b_,vI (c_:Int),vI 0]) (H':=(ap [(gb,.lit (gameL S bp mb) 115 (0,0))] [T20,U,E_])) ?_
   have e1:es_=effsV (gmB S j ni xs) (m+1) M:=by rw [he_,List.take_length,effP_trs]
   have e2:c_=m+1:=by rw [hc_,trsV_len]
   subst e1
   subst e2
   exact ⟨(T20,B_,b_,E_),rfl,hT21,hs_,rfl⟩
  ·intro key22
   refine RD.two 0 1 ?_ ?_
   ·refine RDO.ev [] [.own 1] λ _=>RD.two 1 2 ?_ ?_
    ·refine RDO.ev [] [.own 2] λ _=>RD.one 2 (RDO.ev [] [.own 1] λ _=>?_)
     refine RD.one 3 (RDO.ev [] [.own 2] λ _=>?_)
     refine RD.one 4 (RDO.ev [] [.own 6] λ _=>?_)
     exact key22 () [0,1,2,3,4,5,6,7,8] [0,1,2]
    ·refine RDO.ev [] [.own 1] λ _=>RD.one 1 (RDO.ev [] [.own 2] λ _=>?_)
     refine RD.one 3 (RDO.ev [] [.own 2] λ _=>?_)
     refine RD.one 4 (RDO.ev [] [.own 6] λ _=>?_)
     exact key22 () [0,1,2,3,4,5,6,7,8] [0,1,2]
   ·refine RDO.ev [] [.own 2] λ _=>RD.one 0 (RDO.ev [] [.own 1] λ _=>?_)
    refine RD.one 2 (RDO.ev [] [.own 1] λ _=>?_)
    refine RD.one 3 (RDO.ev [] [.own 2] λ _=>?_)
    refine RD.one 4 (RDO.ev [] [.own 6] λ _=>?_)
    exact key22 () [0,1,2,3,4,5,6,7,8] [0,1,2]
 ·exact λ _ _ _ _ h _=>h.elim
open Go.Shelf
section
variable {α:Type} {e:Enc α} {P:Program} {T:TypeId} {inf:TypeInfo} {z:Value} {l:List α} {A:Option Addr} {cap:Nat} {Hl F:HL}
theorem SlIs.toRowL (h:SlIs e T l A cap Hl) (hF:∀ x ∈ Hl,x ∈ F):RowL e T F A l.length l:=by
  rcases h with ⟨rfl,rfl,rfl,rfl⟩ | ⟨b,o,full,rfl,rfl,h1,h2,h3⟩
  · exact .zero _
  · refine .rows b o (o+cap) full (0,0) _ l (hF _ (List.mem_singleton.2 rfl)) (by omega) rfl (λ k hk=>?_)
    have h4:((full.drop o).take l.length)[k]?=l[k]?:=by rw [h3]
    rw [List.getElem?_take,if_pos hk,List.getElem?_drop] at h4
    rw [List.getD_eq_getElem?_getD,List.getD_eq_getElem?_getD,h4]
theorem SlIs.src (ok:EncOk e P T inf z) (hw:0 < e.w) (h:SlIs e T l A cap Hl) (hF:∀ x ∈ Hl,x ∈ F):SrcIn P e F A l.length l:=RowL.src ok hw (h.toRowL hF)
end
section
variable {r:Option Nat} {P:Program} {N:Nat} {D:List Deferred} {F:HL} {w0:World} {R:HL} {s:Cfg} {Q:Exit -> Act -> World -> Prop} {hards:List Nat} {Rd:HL}
theorem RD.sv (t:Nat) {u v:Value} (e:u=v) (hk:RD r P N D F w0 R hards Rd (svC t v s) Q) (h:s.L.lookup t=some u:=by kernel_rfl):RD r P N D F w0 R hards Rd s Q:=by
  subst e
  exact ⟨λ hR hs hcl a hF=>hk.h hR hs hcl a (hF.fix h)⟩
variable {α:Type} {e:Enc α} {T:TypeId} {inf:TypeInfo} {z:Value}
theorem RN.appU (ok:EncOk e P T inf z) (l src:List α) (j:Nat) {A:Option Addr} {n cap:Nat} {Hl:HL} {B:Option Addr} {m c':Nat} {tx:TypeId} (hn:n=l.length) (hsl:SlIs e T l A cap Hl) (hb:l.length+src.length <= 100000000)
    (hs:SrcIn P e (ap s.A s.Ts++F) B m src)
    (hk:∀ (A':Option Addr) (cap':Nat) (Hl':HL),(SlIs e T (l++src) A' cap' Hl' /\ (zeroOff A -> zeroOff A')) -> RN r P N D F w0 R (rpC j Hl' (putC N (.slice A' (n+src.length) cap') s)) Q)
    (h:appKS P N j (opAt s) s=some (A,n,cap,T,B,m,c',tx,Hl):=by kernel_rfl):RN r P N D F w0 R s Q:=by
  obtain ⟨o,a1,a2,t,e',q0,q1,q2,q3,q4,q5,q6,q7,q9,q10,q11⟩:=appKS_spec h
  refine ⟨λ hR a w hF hRel hB=>?_⟩
  obtain ⟨c,k,L,Bs,Ts⟩:=s
  unfold opAt at q0
  cases c with
  | code c=>cases q0
  | ex c=>cases q0
  | drw _ _=>cases q0
  | ops ops i =>
    simp only at q0 q3 q4 q5 q9 q10 q11 hF hRel
    have hdrop:ops.toList.drop i=o :: ops.toList.drop (i+1):=by
      have hlt:i < ops.toList.length:=(List.getElem?_eq_some_iff.1 q0).1
      rw [List.drop_eq_getElem_cons hlt,(List.getElem?_eq_some_iff.1 q0).2]
    show wpListIn _ _ _ _ _ _ _ _
    rw [hdrop,wpListIn,if_pos (by simp [Region.wanted,q1])]
    refine ⟨λ _ _=>trivial,?_⟩
    have hperm:=tail_perm (A:=Bs) q9 q10
    refine gives_upon (by rw [q2];intro c hc;cases hc) (app_gives (x:=.slice B m c') (src:=src) (G:=Bs++((oth [j] Ts.length).filterMap (Ts[·]?)).flatten) ok q2 q6 q3 q4 hn q5 hperm hsl (λ w hw=>by have h5:=hs.2 c' q7 [] w hw;rwa [<- ok.size] at h5) hb a hF w hRel) ?_
    rintro u w' ⟨⟨A',cap',Hl'⟩,⟨rfl,hsl'⟩,hR',hB'⟩
    obtain ⟨L',p1⟩:=putL_some q11 (.slice A' (n+src.length) cap')
    have hh:=(hk A' cap' Hl' hsl').h hR
    have hpc:putC N (.slice A' (n+src.length) cap') ⟨.ops ops i,k,L,Bs,Ts⟩=⟨.ops ops (i+1),k,L',Bs,Ts⟩:=by
      unfold putC
      simp only [q0,p1]
    rw [hpc] at hh
    refine hh _ w' (hF.put p1) (hR'.perm (List.Perm.append_right F ?_)) (hB.trans hB')
    show (Bs++(Hl' :: (oth [j] Ts.length).filterMap (Ts[·]?)).flatten).Perm _
    rw [List.flatten_cons,<- List.append_assoc,<- List.append_assoc]
    exact List.Perm.append_right _ List.perm_append_comm
end
structure Rw where (A:Option Addr) (n c:Nat)
def rwE:Enc Rw:=⟨1,λ p k=>match k with | 0=>.slice p.A p.n p.c | _=>default,⟨none,0,0⟩⟩
noncomputable def rwEI:TypeInfo:=match Tryz.prog.info? 56 with | some i=>i | none=>⟨.bool,"",0,0,false,0,0,none,false,#[]⟩
noncomputable def rwEZ:Value:=match rwEI.zero with | some z=>z | none=>.bool false
theorem rwEOk:EncOk rwE Tryz.prog 56 rwEI rwEZ where
 info:=by kernel_rfl
 zero:=by kernel_rfl
 size:=by kernel_rfl
 zsize:=by kernel_rfl
 zcell:=λ k hk=>by
  have h:∀ k < 1,rwEZ.cells[k]?=some (rwE.cell rwE.dflt k):=by intro k hk;(iterate 1 (rcases k with _ | k;· kernel_rfl));omega
  exact h k hk
 one:=λ x k=>by unfold rwE;dsimp only;split <;> rfl
 bytes:=Nat.le_of_ble_eq_true (by kernel_rfl)
inductive RwIn (F:HL) (xs:List Inp):Rw -> Prop
 | mk (b o N:Nat) (full:List Inp) (c:Nat) (hI:(b,.rows 3 N (inrow full) 151 (0,0)) ∈ F) (hir:o+xs.length <= N) (hx:∀ k,k < xs.length -> full.getD (o+k) dI=xs.getD k dI) (hcap:xs.length <= c):RwIn F xs ⟨some ⟨b,o * 3,none⟩,xs.length,c⟩
structure RwsIn (F:HL) (rs:List Rw) (xss:List (List Inp)):Prop where
 len:rs.length=xss.length
 row:∀ k,k < rs.length -> RwIn F (xss.getD k []) (rs.getD k rwE.dflt)
def RwsT (rs:List Rw) (xss:List (List Inp)) (T:HL):Prop:=∀ F,(∀ x ∈ T,x ∈ F) -> RwsIn F rs xss
theorem RwsIn.get {F:HL} {rs:List Rw} {xss:List (List Inp)} (h:RwsIn F rs xss) {k:Nat} (hk:k < rs.length):∃ b o N full c,rs.getD k rwE.dflt=⟨some ⟨b,o * 3,none⟩,(xss.getD k []).length,c⟩ /\ (b,.rows 3 N (inrow full) 151 (0,0)) ∈ F /\ o+(xss.getD k []).length <= N /\ (∀ i,i < (xss.getD k []).length -> full.getD (o+i) dI=(xss.getD k []).getD i dI) /\ (xss.getD k []).length <= c:=by
 have h1:=h.row k hk
 generalize rs.getD k rwE.dflt=p at h1 ⊢
 cases h1 with
 | mk b o N full c hI hir hx hc=>exact ⟨b,o,N,full,c,rfl,hI,hir,hx,hc⟩
theorem SlIs.rw {xs:List Inp} {A:Option Addr} {c:Nat} {T F:HL} (h:SlIs inpE 151 xs A c T) (hF:∀ x ∈ T,x ∈ F) (h1:1 <= xs.length) {n:Nat} (hn:n=xs.length):RwIn F xs ⟨A,n,c⟩:=by
 subst hn
 rcases h with ⟨_,_,rfl,_⟩ | ⟨b,o,full,rfl,rfl,h2,h3,h4⟩
 ·simp at h1
 ·refine .mk b o (o+c) full c (hF _ (List.mem_singleton.2 rfl)) (by omega) (λ k hk=>?_) h3
  have h5:((full.drop o).take xs.length)[k]?=xs[k]?:=by rw [h4]
  rw [List.getElem?_take,if_pos hk,List.getElem?_drop] at h5
  rw [List.getD_eq_getElem?_getD,List.getD_eq_getElem?_getD,h5]
theorem RwsT.nil:RwsT [] [] []:=λ F _=>⟨rfl,λ k hk=>absurd hk (Nat.not_lt_zero _)⟩
theorem getD_snoc {α:Type} (l:List α) (x d:α) (k:Nat):(l++[x]).getD k d=if k < l.length then l.getD k d else if k=l.length then x else d:=by
 rw [List.getD_eq_getElem?_getD,List.getElem?_append]
 split
 ·rw [List.getD_eq_getElem?_getD]
 ·split
  ·next h=>subst h;simp
  ·rw [List.getElem?_eq_none (by simp;omega)];rfl
theorem RwsT.snoc {rs:List Rw} {xss:List (List Inp)} {T T1:HL} {xs:List Inp} {A:Option Addr} {c n:Nat} (h:RwsT rs xss T) (hs:SlIs inpE 151 xs A c T1) (h1:1 <= xs.length) (hn:n=xs.length):RwsT (rs++[⟨A,n,c⟩]) (xss++[xs]) (T++T1):=λ F hF=>by
 have h2:=h F λ x hx=>hF x (List.mem_append_left _ hx)
 refine ⟨by simp [h2.len],λ k hk=>?_⟩
 rw [getD_snoc,getD_snoc,<- h2.len]
 by_cases hk1:k < rs.length
 ·rw [if_pos hk1,if_pos hk1];exact h2.row k hk1
 ·have:k=rs.length:=by simp at hk;omega
  rw [if_neg hk1,if_neg hk1,if_pos this,if_pos this]
  exact hs.rw (λ x hx=>hF x (List.mem_append_right _ hx)) h1 hn
def rowsG (pl:Int) (xs:List Int) (n:Nat):List (List Inp):=(List.range n).map λ t:Nat=>rowL pl xs (t:Int) pl.toNat
theorem rowsG_succ (pl:Int) (xs:List Int) (n:Nat):rowsG pl xs (n+1)=rowsG pl xs n++[rowL pl xs (n:Int) pl.toNat]:=by simp [rowsG,List.range_succ]
theorem rowsG_get {pl:Int} {xs:List Int} {n k:Nat} (h:k < n):(rowsG pl xs n).getD k []=rowL pl xs (k:Int) pl.toNat:=by simp [rowsG,h]
theorem row_ap (S:Setup) (A:Option Addr) (n cap:Nat) (xs:List Int) (t:Int) (F:HL) (hl:ArgL F A n xs) (hn:n <= 9223372036854775807) (hp:0 <= S.players /\ S.players <= 1000000) (ht:0 <= t /\ t <= 1000000):Sp Tryz.prog 39 #[Setup.v S,.slice A n cap,vI t] (ap [] []) F (λ u H'=>∃ x:Option Addr × Nat × HL,H'=ap [] [x.2.2] /\ (u=.slice x.1 S.players.toNat x.2.1 /\ SlIs inpE 151 (rowL S.players xs t S.players.toNat) x.1 x.2.1 x.2.2 /\ zeroOff x.1)):=row_any S A n cap xs t F hl hn hp ht
theorem rows_run (S:Setup) (A:Option Addr) (n cap:Nat) (xs:List Int) (c:Int) (cnt:Nat) (F:HL) (hl:ArgL F A n xs) (hn:n <= 9223372036854775807) (hp:1 <= S.players /\ S.players <= 1000000) (hc:c=(cnt:Int)) (h20:cnt <= 20):Sp Tryz.prog 10 #[(Setup.v S),.slice A n cap,vI c] [] F (λ u H'=>∃ x:(Option Addr × Nat × List Rw) × HL × HL,H'=ap [] [x.2.1,x.2.2] /\ (u=.slice x.1.1 cnt x.1.2.1 /\ SlIs rwE 56 x.1.2.2 x.1.1 x.1.2.1 x.2.1 /\ x.1.2.2.length=cnt /\ RwsT x.1.2.2 (rowsG S.players xs cnt) x.2.2)):=by
 refine Sp.run Tryz.func10 rfl mn (A:=[]) (Ts:=[]) rfl λ w0=>?_
 refine RN.go 18 [] λ n1=>RN.nt<|RN.nt<|RN.loop (σ:=Nat × Option Addr × Nat × List Rw × HL × HL) (λ ⟨t_,A_,c_,rs_,E_,T_⟩=>⟨[(1,.slice A n cap),(2,vI c),(3,vP (n1+0) 0),(7,.slice A_ t_ c_),(8,vI (t_:Int))],[((n1+0),.lit (Setup.l S) 31 (0,0))],[E_,T_],(t_:Int) <= c /\ t_ <= 20 /\ SlIs rwE 56 rs_ A_ c_ E_ /\ rs_.length=t_ /\ RwsT rs_ (rowsG S.players xs t_) T_,20 - t_⟩) (0,none,0,[],[],[]) [0] [0,1] (⟨by omega,Nat.zero_le _,SlIs.nil _ _,rfl,RwsT.nil⟩) ?_
 rintro ⟨t_,A_,c_,rs_,E_,T_⟩ ⟨ht_,h20_,hs_,hrl_,hT_⟩ mt3
 refine RN.go 7 [] λ _=>RN.em ((t_:Int) < c) 12 (λ h4=>?_) λ h4=>?_
 ·refine RN.go 5 [] λ _=>RN.em ((t_:Int) < 20) 15 (λ h5=>?_) λ h5=>?_
  ·refine RN.go 10 (ow 0 16) λ _=>RN.ct (Hp:=[]) (Tp:=[]) [] [] (row_ap S A n cap xs (t_:Int) _ hl.up hn (by omega) (by omega)) ?_
   rintro _ ⟨A6,c7,T8⟩ ⟨rfl,hs9,hz10⟩
   dsimp only at hs9 hz10
   refine RN.go 1 [] λ n11=>RN.app rwEOk rs_ [(⟨A6,S.players.toNat,c7⟩:Rw)] 1 0 hrl_.symm hs_ (by simp;omega) ?_
   rintro A12 c13 T14 ⟨hs15,hz16⟩
   refine RN.goP 9 [.nw] [I64 ((t_:Int)+1)] λ _=>RN.pt [2,1,0]<|RN.jt ?_
   refine mt3 (t_+1,A12,c13,rs_++[(⟨A6,S.players.toNat,c7⟩:Rw)],T14,T_++T8) [1] [1,0] ?_
   try dsimp only
   refine ⟨⟨by omega,by omega,hs15,by simp;omega,?_⟩,by omega⟩
   rw [rowsG_succ]
   exact hT_.snoc hs9 (by rw [rowL_len];omega) (rowL_len _ _ _ _).symm
  ·(exfalso;omega)
 ·refine RN.go 17 [] λ _=>RN.ret [] [] [0,1] (v:=.slice A_ t_ c_) (H':=(ap [] [E_,T_])) ?_
  obtain rfl:t_=cnt:=by omega
  exact ⟨((A_,c_,rs_),E_,T_),rfl,rfl,hs_,hrl_,hT_⟩
theorem rows_ap (S:Setup) (A:Option Addr) (n cap:Nat) (xs:List Int) (c:Int) (cnt:Nat) (F:HL) (hl:ArgL F A n xs) (hn:n <= 9223372036854775807) (hp:1 <= S.players /\ S.players <= 1000000) (hc:c=(cnt:Int)) (h20:cnt <= 20):Sp Tryz.prog 10 #[Setup.v S,.slice A n cap,vI c] (ap [] []) F (λ u H'=>∃ x:(Option Addr × Nat × List Rw) × HL × HL,H'=ap [] [x.2.1,x.2.2] /\ (u=.slice x.1.1 cnt x.1.2.1 /\ SlIs rwE 56 x.1.2.2 x.1.1 x.1.2.1 x.2.1 /\ x.1.2.2.length=cnt /\ RwsT x.1.2.2 (rowsG S.players xs cnt) x.2.2)):=rows_run S A n cap xs c cnt F hl hn hp hc h20
abbrev gmX (S:Setup) (j:Nat × Int) (xs:List Inp):Gm:=gmB S j xs.length xs
structure TkOk (S:Setup) (j:Nat × Int) (xs:List Inp) (M:MemS):Prop where
 ex:∃ m,m <= 999 /\ goodRun (gmX S j xs) (m+1) M
 now:0 <= M.get 0
 ok:wrongE S.players xs.length xs (M.get 0)=0
theorem tk_of {g:Gm} {M:MemS} {m:Nat} (hm:m <= 999) (h:goodRun g (m+1) M):runM g (m+1) M=tkM g M /\ effsV g (m+1) M=tkE g M:=by
 rw [tkM,tkE,tkN_of m 1000 M h (by omega)]
 exact ⟨rfl,rfl⟩
end Go.Proofs.YtghjbimijeinfaaGreatDoor
