import Derived.Test.YtcfajdgeejeieaaGreatDoorY22
import Derived.Test.YtcfajdgeejeieaaGreatDoorY37
import Derived.Test.YtcfajdgeejeieaaGreatDoorY38
set_option maxHeartbeats 4000000
set_option maxRecDepth 100000
set_option linter.unusedSimpArgs false
set_option linter.unusedVariables false
namespace Go.Proofs.YtcfajdgeejeieaaGreatDoor
open Go.RowKit
abbrev fZ (S:Setup) (j:Nat × Int) (n:Nat) (xs:List Inp):Gm:=⟨S,none,fG j.1,0,b9 j.1 0,b9 j.1 1,b9 j.1 2,j.2,0,0,n,0,0,xs,jW j.1⟩
def AtOk (F:HL) (bp:Nat) (t:Int) (j:Nat × Int):Prop:=∀ F',(∀ x ∈ F,x ∈ F') -> Sp Tryz.prog 81 #[vP bp 0,vI t] (ap [] []) F' (λ u H'=>∃ x:Option Addr × Nat × HL,H'=ap [] [x.2.2] /\ (u=.tuple #[vI j.2,.agg #[.slice x.1 (fG j.1) x.2.1,vI (b9 j.1 0),vI (b9 j.1 1),vI (b9 j.1 2)]] /\ ClS kj 206 (jW j.1) x.1 x.2.1 x.2.2))
theorem AtOk.mono {F F':HL} {bp:Nat} {t:Int} {j:Nat × Int} (h:AtOk F bp t j) (hs:∀ x ∈ F,x ∈ F'):AtOk F' bp t j:=λ F2 h2=>h F2 λ x hx=>h2 x (hs x hx)
abbrev Mq (x:Eff × Bool):Array Value:=#[.agg #[vI x.1.t,vI x.1.i,vI x.1.k,vI x.1.v,.bool x.2]]
theorem ClS.code {j:Nat} (hj:j < 5) {A:Option Addr} {c:Nat} {Hl F:HL} (h:ClS kj 206 (jW j) A c Hl) (hF:∀ x ∈ Hl,x ∈ F):CodeIn F (jW j) A (fG j):=by
 have hl:=wE hj
 have hb:=tY hj
 obtain ⟨A0,h⟩:=h
 rcases h with ⟨h1,rfl,rfl,rfl⟩ | ⟨b,rfl,rfl,h3⟩
 ·rw [h1] at hl
  rw [<- hl]
  exact .nil _
 ·exact .mk b c _ (hF _ (List.mem_singleton.2 rfl)) (by rw [<- hl];exact h3) (by omega)
theorem tZ {S:Setup} {A:Option Addr} {j:Nat × Int} {c ib io n ic N:Nat} {full xs:List Inp} (hx:∀ k,k < n -> full.getD (io+k) dI=xs.getD k dI):GEq ⟨S,A,fG j.1,c,b9 j.1 0,b9 j.1 1,b9 j.1 2,j.2,ib,io,n,ic,N,full,jW j.1⟩ (fZ S j n xs) :=
 ⟨rfl,λ k hk=>(hx k hk).trans (by rw [Nat.zero_add])⟩
theorem m8 {g g0:Gm} (e:GEq g g0) (mb:Nat) (M:MemS) (k:Nat) (T F:HL) (hM:MemH mb M (k+20) T) (hg:GmIn F g) (h0:Dt M) (ver:Int) (hver:g.version=ver):Sp Tryz.prog 82 #[.iface 47 (vP mb 0),.agg #[vI g.S.players,vS g.S.bb (g.S.bo * 9) g.S.nb g.S.bc,vI g.S.box.x0,vI g.S.box.y0,vI g.S.box.x1,vI g.S.box.y1,.slice g.S.rA g.S.rn g.S.rc,.slice g.S.dA g.S.dn g.S.dc,vI g.S.fog,vI g.S.g.x,vI g.S.g.y,vI g.S.push,vI g.S.drag,vI g.S.rest,vI g.S.rounds,vI g.S.fuel],.agg #[.slice g.cA g.cn g.cc,vI g.e0,vI g.e1,vI g.e2],vI ver,vS g.ib (g.io * 3) g.ni g.ic] (ap [] [T]) F (λ u H'=>∃ x,H'=ap [] [x] /\ (MemH mb (jc g0 M) k x /\ u=.tuple #[.bool (iy g0 M),.agg #[vI ((eD g0 M).e.t),vI ((eD g0 M).e.i),vI ((eD g0 M).e.k),vI ((eD g0 M).e.v)],.bool ((eD g0 M).em)])):=by
 have h:=Bf g mb M k T F hM hg h0 ver hver
 rwa [jc,DE e,xB e] at h
theorem Ik (S:Setup) (bp gb mb q1 q2 ib io N ni ic m k:Nat) (j:Nat × Int) (full xs:List Inp) (M:MemS) (F:HL) (hj:j.1 < 5) (hA:AtOk F bp (M.get 0) j) (hg:(gb,.lit (cN S bp mb) 97 (0,0)) ∈ F) (h1:(q1,.lit [vP gb 0] 33 (0,0)) ∈ F) (h2:(q2,.lit [vS ib (io * 3) ni ic] 44 (0,0)) ∈ F) (hS:SetIn F S) (hE:cK F) (hI:(ib,.rows 3 N (jl full) 122 (0,0)) ∈ F) (hir:io+ni <= N /\ ni <= 1000000) (hx:∀ k,k < ni -> full.getD (io+k) dI=xs.getD k dI) (T:HL) (hM:MemH mb M (k+20 * m+20) T) (h0:0 <= M.get 0) (hgood:dD (fZ S j ni xs) (m+1) M) (lp:Nat) (X:HL) (J:Nat -> HL -> Prop) (Jx:HL -> Prop) (T0:HL) (hY:∀ i x H Y,(ig (fZ S j ni xs) (m+1) M)[i]?=some x -> J i H -> YL Tryz.prog lp (Mq x) H (Y++(X++F)) (λ b H'=>(b=true /\ J (i+1) H') \/ (b=false /\ Jx H'))) (hJ0:J 0 T0):Sp Tryz.prog 80 #[.func (.yield lp) #[] #[],vP q1 0,vP q2 0] (ap [] [T0,T]) (X++F) (λ _ H'=>∃ x:HL × HL,H'=ap [] [x.1,x.2] /\ ((J (ig (fZ S j ni xs) (m+1) M).length x.1 /\ MemH mb (fO (fZ S j ni xs) (m+1) M) k x.2) \/ Jx x.1)):=by
 have hg_:=List.mem_append_right X hg
 have h1_:=List.mem_append_right X h1
 have h2_:=List.mem_append_right X h2
 have hS_:SetIn (X++F) S:=hS.up
 have hE_:cK (X++F):=List.mem_append_right X hE
 have hI_:=List.mem_append_right X hI
 have hA_:AtOk (X++F) bp (M.get 0) j:=hA.mono λ x hx=>List.mem_append_right X hx
 refine Sp.run Tryz.func80 rfl (mc hg_ (mc h1_ (mc h2_ mn))) (A:=[]) (Ts:=[T0,T]) rfl λ w0=>?_
 refine ae 1 [] λ _=>RN.draw [12] []<|ag [] [0,4,1,2,3] [.ro 1,.ro 1,.ro 0]<|ar [] 5 (λ X_=>(vG S bp gb mb M (k+20 * m+20) T _ (xk hg_) hM (aR 1)))<|fB 6 10 ?_ ?_
 ·refine RDO.ct [] (Hp:=[]) (Tp:=[]) [] [] (hA_ _ (λ x hx=>aw hx)) ?_
  rintro _ ⟨A1,c2,T3⟩ ⟨rfl,hc4⟩
  dsimp only at hc4
  refine ag [] [7,8,9] []<|RD.one 10 (RDO.ev [] [] λ n5=>?_)
  refine ag [] [11] []<|RD.one 12 (RDO.ev [] [.own 0,.own 0,.own 0,.own 0] λ _=>?_)
  refine RD.fin<|ae 2 [] λ _=>RN.loop (σ:=Nat × Nat × MemS × HL × HL) (λ ⟨r,i_,M_,T_,J_⟩=>⟨[(0,.func (.yield lp) #[] #[]),(1,vP q1 0),(2,vP q2 0),(4,vI j.2),(5,vP (n5+0) 0)],[((n5+0),.lit [.slice A1 (fG j.1) c2,vI (b9 j.1 0),vI (b9 j.1 1),vI (b9 j.1 2)] 155 (0,0))],[T_,J_,T3],i_+(r+1)=m+1 /\ dD (fZ S j ni xs) (r+1) M_ /\ fO (fZ S j ni xs) (r+1) M_=fO (fZ S j ni xs) (m+1) M /\ MemH mb M_ (k+20 * r+20) T_ /\ (ig (fZ S j ni xs) (m+1) M).drop i_=ig (fZ S j ni xs) (r+1) M_ /\ J i_ J_,r⟩) (m,0,M,T,T0) [0] [2,1,0] (⟨by omega,hgood,rfl,hM,rfl,hJ0⟩) ?_
  rintro ⟨r,i_,M_,T_,J_⟩ ⟨hd_,hgood_,hrun_,hM_,hdr_,hJ_⟩ mt7
  refine ae 2 [] λ _=>RN.draw [12,19] []<|ag [] [0,5,9,10,11,1,6,2,7,3,8,4] [.ro 1,.ro 1,.own 0,.own 0,.own 0,.own 0,.ro 2,.ro 0,.ro 0,.ro 0,.ro 0,.ro 0,.ro 0,.ro 0,.ro 0,.ro 0,.ro 0,.ro 0,.ro 0,.ro 0,.ro 0,.ro 0,.ro 0,.ro 0]<|fB 12 17 ?_ ?_
  ·refine RDO.ct [] [] [0] (m8 (g:=(⟨S,A1,fG j.1,c2,b9 j.1 0,b9 j.1 1,b9 j.1 2,j.2,ib,io,ni,ic,N,full,jW j.1⟩:Gm)) (tZ hx) mb M_ (k+20 * r) T_ _ hM_ ⟨hS_.up,aw hI_,hir,aw hE_,hc4.code hj (au 1)⟩ hgood_.1 j.2 rfl) ?_
   rintro _ T8 ⟨hM9,rfl⟩
   refine ag [] [13,14,15,16] []<|RD.one 17 (RDO.ev [] [] λ n10=>?_)
   refine ag [] [18] []<|RD.one 19 (RDO.ev [] [.own 0,.own 0,.own 0,.own 0] λ _=>?_)
   refine ag [] [20] []<|RD.fin<|ae 7 [.own 0,.own 0,.own 0,.own 0] λ _=>RN.yield 1 (hY i_ ((eD (fZ S j ni xs) M_).e,(eD (fZ S j ni xs) M_).em) _ _ (gm hdr_).1 hJ_) ?_
   rintro b_ T11 (⟨rfl,hJ12⟩ | ⟨rfl,hJ12⟩)
   ·refine ae 6 [] λ _=>iE (iy (fZ S j ni xs) M_) 44 (λ h13=>?_) λ h13=>?_
    ·refine ae 1 [] λ _=>RN.ret [] [] [0,1] (v:=.tuple #[]) (H':=(ap [] [T11,T8])) ?_
     have er:r=0:=by
      rcases hgood_.2 with ⟨e,_⟩ | ⟨e,_⟩
      ·exact e
      ·have hh:iy (fZ S j ni xs) M_=true:=by assumption
       rw [e] at hh;cases hh
     subst er
     have ed:i_+1=(ig (fZ S j ni xs) (m+1) M).length:=by rw [ii];omega
     refine ⟨(T11,T8),rfl,.inl ⟨?_,?_⟩⟩
     ·rw [<- ed];exact hJ12
     ·rw [<- hrun_];exact hM9.weak (by omega)
    ·refine ae 3 [] λ _=>?_
     have hg2:=hgood_.2
     rcases hg2 with ⟨_,e_⟩ | ⟨_,hg2⟩
     ·exact absurd e_ (by assumption)
     rcases r with _ | r
     ·exact hg2.elim
     refine mt7 (r,i_+1,(jc (fZ S j ni xs) M_),T8,T11) [1] [1,0,2] ?_
     try dsimp only
     exact ⟨⟨by omega,hg2,hrun_,hM9.weak (by omega),(gm hdr_).2,hJ12⟩,by omega⟩
   ·refine ae 7 [] λ _=>RN.ret [] [] [0,1] (v:=.tuple #[]) (H':=(ap [] [T11,T8])) ?_
    exact ⟨(T11,T8),rfl,.inr hJ12⟩
  ·refine RDO.ev [] [] λ n14=>RD.one 12 (RDO.ct [] [] [0] (m8 (g:=(⟨S,A1,fG j.1,c2,b9 j.1 0,b9 j.1 1,b9 j.1 2,j.2,ib,io,ni,ic,N,full,jW j.1⟩:Gm)) (tZ hx) mb M_ (k+20 * r) T_ _ hM_ ⟨hS_.up,aw hI_,hir,aw hE_,hc4.code hj (au 1)⟩ hgood_.1 j.2 rfl) ?_)
   rintro _ T15 ⟨hM16,rfl⟩
   refine ag [] [13,14,15,16,18] []<|RD.one 19 (RDO.ev [] [.own 0,.own 0,.own 0,.own 0] λ _=>?_)
   refine ag [] [20] []<|RD.fin<|ae 7 [.own 0,.own 0,.own 0,.own 0] λ _=>RN.yield 1 (hY i_ ((eD (fZ S j ni xs) M_).e,(eD (fZ S j ni xs) M_).em) _ _ (gm hdr_).1 hJ_) ?_
   rintro b_ T17 (⟨rfl,hJ18⟩ | ⟨rfl,hJ18⟩)
   ·refine ae 6 [] λ _=>iE (iy (fZ S j ni xs) M_) 44 (λ h19=>?_) λ h19=>?_
    ·refine ae 1 [] λ _=>RN.ret [] [] [0,1] (v:=.tuple #[]) (H':=(ap [] [T17,T15])) ?_
     have er:r=0:=by
      rcases hgood_.2 with ⟨e,_⟩ | ⟨e,_⟩
      ·exact e
      ·have hh:iy (fZ S j ni xs) M_=true:=by assumption
       rw [e] at hh;cases hh
     subst er
     have ed:i_+1=(ig (fZ S j ni xs) (m+1) M).length:=by rw [ii];omega
     refine ⟨(T17,T15),rfl,.inl ⟨?_,?_⟩⟩
     ·rw [<- ed];exact hJ18
     ·rw [<- hrun_];exact hM16.weak (by omega)
    ·refine ae 3 [] λ _=>?_
     have hg2:=hgood_.2
     rcases hg2 with ⟨_,e_⟩ | ⟨_,hg2⟩
     ·exact absurd e_ (by assumption)
     rcases r with _ | r
     ·exact hg2.elim
     refine mt7 (r,i_+1,(jc (fZ S j ni xs) M_),T15,T17) [1] [1,0,2] ?_
     try dsimp only
     exact ⟨⟨by omega,hg2,hrun_,hM16.weak (by omega),(gm hdr_).2,hJ18⟩,by omega⟩
   ·refine ae 7 [] λ _=>RN.ret [] [] [0,1] (v:=.tuple #[]) (H':=(ap [] [T17,T15])) ?_
    exact ⟨(T17,T15),rfl,.inr hJ18⟩
 ·refine RDO.ev [] [] λ n20=>RD.one 6 (RDO.ct [] (Hp:=[]) (Tp:=[]) [] [] (hA_ _ (λ x hx=>aw hx)) ?_)
  rintro _ ⟨A21,c22,T23⟩ ⟨rfl,hc24⟩
  dsimp only at hc24
  refine ag [] [7,8,9,11] []<|RD.one 12 (RDO.ev [] [.own 0,.own 0,.own 0,.own 0] λ _=>?_)
  refine RD.fin<|ae 2 [] λ _=>RN.loop (σ:=Nat × Nat × MemS × HL × HL) (λ ⟨r,i_,M_,T_,J_⟩=>⟨[(0,.func (.yield lp) #[] #[]),(1,vP q1 0),(2,vP q2 0),(4,vI j.2),(5,vP (n20+0) 0)],[((n20+0),.lit [.slice A21 (fG j.1) c22,vI (b9 j.1 0),vI (b9 j.1 1),vI (b9 j.1 2)] 155 (0,0))],[T_,J_,T23],i_+(r+1)=m+1 /\ dD (fZ S j ni xs) (r+1) M_ /\ fO (fZ S j ni xs) (r+1) M_=fO (fZ S j ni xs) (m+1) M /\ MemH mb M_ (k+20 * r+20) T_ /\ (ig (fZ S j ni xs) (m+1) M).drop i_=ig (fZ S j ni xs) (r+1) M_ /\ J i_ J_,r⟩) (m,0,M,T,T0) [0] [2,1,0] (⟨by omega,hgood,rfl,hM,rfl,hJ0⟩) ?_
  rintro ⟨r,i_,M_,T_,J_⟩ ⟨hd_,hgood_,hrun_,hM_,hdr_,hJ_⟩ mt26
  refine ae 2 [] λ _=>RN.draw [12,19] []<|ag [] [0,5,9,10,11,1,6,2,7,3,8,4] [.ro 1,.ro 1,.own 0,.own 0,.own 0,.own 0,.ro 2,.ro 0,.ro 0,.ro 0,.ro 0,.ro 0,.ro 0,.ro 0,.ro 0,.ro 0,.ro 0,.ro 0,.ro 0,.ro 0,.ro 0,.ro 0,.ro 0,.ro 0]<|fB 12 17 ?_ ?_
  ·refine RDO.ct [] [] [0] (m8 (g:=(⟨S,A21,fG j.1,c22,b9 j.1 0,b9 j.1 1,b9 j.1 2,j.2,ib,io,ni,ic,N,full,jW j.1⟩:Gm)) (tZ hx) mb M_ (k+20 * r) T_ _ hM_ ⟨hS_.up,aw hI_,hir,aw hE_,hc24.code hj (au 1)⟩ hgood_.1 j.2 rfl) ?_
   rintro _ T27 ⟨hM28,rfl⟩
   refine ag [] [13,14,15,16] []<|RD.one 17 (RDO.ev [] [] λ n29=>?_)
   refine ag [] [18] []<|RD.one 19 (RDO.ev [] [.own 0,.own 0,.own 0,.own 0] λ _=>?_)
   refine ag [] [20] []<|RD.fin<|ae 7 [.own 0,.own 0,.own 0,.own 0] λ _=>RN.yield 1 (hY i_ ((eD (fZ S j ni xs) M_).e,(eD (fZ S j ni xs) M_).em) _ _ (gm hdr_).1 hJ_) ?_
   rintro b_ T30 (⟨rfl,hJ31⟩ | ⟨rfl,hJ31⟩)
   ·refine ae 6 [] λ _=>iE (iy (fZ S j ni xs) M_) 44 (λ h32=>?_) λ h32=>?_
    ·refine ae 1 [] λ _=>RN.ret [] [] [0,1] (v:=.tuple #[]) (H':=(ap [] [T30,T27])) ?_
     have er:r=0:=by
      rcases hgood_.2 with ⟨e,_⟩ | ⟨e,_⟩
      ·exact e
      ·have hh:iy (fZ S j ni xs) M_=true:=by assumption
       rw [e] at hh;cases hh
     subst er
     have ed:i_+1=(ig (fZ S j ni xs) (m+1) M).length:=by rw [ii];omega
     refine ⟨(T30,T27),rfl,.inl ⟨?_,?_⟩⟩
     ·rw [<- ed];exact hJ31
     ·rw [<- hrun_];exact hM28.weak (by omega)
    ·refine ae 3 [] λ _=>?_
     have hg2:=hgood_.2
     rcases hg2 with ⟨_,e_⟩ | ⟨_,hg2⟩
     ·exact absurd e_ (by assumption)
     rcases r with _ | r
     ·exact hg2.elim
     refine mt26 (r,i_+1,(jc (fZ S j ni xs) M_),T27,T30) [1] [1,0,2] ?_
     try dsimp only
     exact ⟨⟨by omega,hg2,hrun_,hM28.weak (by omega),(gm hdr_).2,hJ31⟩,by omega⟩
   ·refine ae 7 [] λ _=>RN.ret [] [] [0,1] (v:=.tuple #[]) (H':=(ap [] [T30,T27])) ?_
    exact ⟨(T30,T27),rfl,.inr hJ31⟩
  ·refine RDO.ev [] [] λ n33=>RD.one 12 (RDO.ct [] [] [0] (m8 (g:=(⟨S,A21,fG j.1,c22,b9 j.1 0,b9 j.1 1,b9 j.1 2,j.2,ib,io,ni,ic,N,full,jW j.1⟩:Gm)) (tZ hx) mb M_ (k+20 * r) T_ _ hM_ ⟨hS_.up,aw hI_,hir,aw hE_,hc24.code hj (au 1)⟩ hgood_.1 j.2 rfl) ?_)
   rintro _ T34 ⟨hM35,rfl⟩
   refine ag [] [13,14,15,16,18] []<|RD.one 19 (RDO.ev [] [.own 0,.own 0,.own 0,.own 0] λ _=>?_)
   refine ag [] [20] []<|RD.fin<|ae 7 [.own 0,.own 0,.own 0,.own 0] λ _=>RN.yield 1 (hY i_ ((eD (fZ S j ni xs) M_).e,(eD (fZ S j ni xs) M_).em) _ _ (gm hdr_).1 hJ_) ?_
   rintro b_ T36 (⟨rfl,hJ37⟩ | ⟨rfl,hJ37⟩)
   ·refine ae 6 [] λ _=>iE (iy (fZ S j ni xs) M_) 44 (λ h38=>?_) λ h38=>?_
    ·refine ae 1 [] λ _=>RN.ret [] [] [0,1] (v:=.tuple #[]) (H':=(ap [] [T36,T34])) ?_
     have er:r=0:=by
      rcases hgood_.2 with ⟨e,_⟩ | ⟨e,_⟩
      ·exact e
      ·have hh:iy (fZ S j ni xs) M_=true:=by assumption
       rw [e] at hh;cases hh
     subst er
     have ed:i_+1=(ig (fZ S j ni xs) (m+1) M).length:=by rw [ii];omega
     refine ⟨(T36,T34),rfl,.inl ⟨?_,?_⟩⟩
     ·rw [<- ed];exact hJ37
     ·rw [<- hrun_];exact hM35.weak (by omega)
    ·refine ae 3 [] λ _=>?_
     have hg2:=hgood_.2
     rcases hg2 with ⟨_,e_⟩ | ⟨_,hg2⟩
     ·exact absurd e_ (by assumption)
     rcases r with _ | r
     ·exact hg2.elim
     refine mt26 (r,i_+1,(jc (fZ S j ni xs) M_),T34,T36) [1] [1,0,2] ?_
     try dsimp only
     exact ⟨⟨by omega,hg2,hrun_,hM35.weak (by omega),(gm hdr_).2,hJ37⟩,by omega⟩
   ·refine ae 7 [] λ _=>RN.ret [] [] [0,1] (v:=.tuple #[]) (H':=(ap [] [T36,T34])) ?_
    exact ⟨(T36,T34),rfl,.inr hJ37⟩
theorem KF (S:Setup) (bp gb mb q1 q2 ib io N ni ic m k:Nat) (j:Nat × Int) (full xs:List Inp) (M:MemS) (F:HL) (hj:j.1 < 5) (hA:AtOk F bp (M.get 0) j) (hg:(gb,.lit (cN S bp mb) 97 (0,0)) ∈ F) (h1:(q1,.lit [vP gb 0] 33 (0,0)) ∈ F) (h2:(q2,.lit [vS ib (io * 3) ni ic] 44 (0,0)) ∈ F) (hS:SetIn F S) (hE:cK F) (hI:(ib,.rows 3 N (jl full) 122 (0,0)) ∈ F) (hir:io+ni <= N /\ ni <= 1000000) (hx:∀ k,k < ni -> full.getD (io+k) dI=xs.getD k dI) (T:HL) (hM:MemH mb M (k+20 * m+20) T) (h0:0 <= M.get 0) (hgood:dD (fZ S j ni xs) (m+1) M):MZ Tryz.prog 80 #[vP q1 0,vP q2 0] T F Mq (ig (fZ S j ni xs) (m+1) M) (λ T1=>MemH mb (fO (fZ S j ni xs) (m+1) M) k T1) (λ _=>True):=by
 intro X l J Jx H0 hY h0'
 have e:∀ A B:HL,ap [] [A,B]=A++B:=λ A B=>by simp [ap]
 have key:=Ik S bp gb mb q1 q2 ib io N ni ic m k j full xs M F hj hA hg h1 h2 hS hE hI hir hx T hM h0 hgood l X J Jx H0 hY h0'
 rw [e] at key
 refine key.mono λ u H' h=>?_
 obtain ⟨x,rfl,h⟩:=h
 refine ⟨x.1,x.2,e _ _,?_⟩
 rcases h with ⟨a,b⟩ | a
 ·exact .inl ⟨a,b⟩
 ·exact .inr ⟨a,trivial⟩
theorem wG (e:Int) (S:Setup) (bp gb mb:Nat) (M:MemS) (k:Nat) (A:Option Addr) (n cap:Nat) (xs:List Inp) (T F:HL) (hg:(gb,.lit (cN S bp mb) 97 (0,0)) ∈ F) (hM:MemH mb M k T) (hT:∀ x ∈ T,x ∈ F) (hl:RowL fC 122 F A n xs) (hn:n <= 1000000) (he:da S.players n xs (M.get 0)=e):Sp Tryz.prog 42 #[vP gb 0,.slice A n cap] [] F (λ u H'=>u=vI e /\ H'=[]):=he ▸ xT S bp gb mb M k A n cap xs T F hg hM hT hl hn
theorem FC (c0 c1 c2 c3 c4:Value) (F:HL):SpD Tryz.prog 43 #[c0,c1,c2,c3,c4] (ap [] []) F (λ _ H'=>∃ _:Unit,H'=ap [] [] /\ True):=by
 exact (FB c0 c1 c2 c3 c4 F).mono λ u H' h=>⟨(),h,trivial⟩
theorem wH (S:Setup) (rs:List Bx) (ds:List Dr) (bp gb mb ib io N ni ic m k:Nat) (j:Nat × Int) (full xs:List Inp) (M:MemS) (T U F:HL) (hj:j.1 < 5) (hA:AtOk F bp (M.get 0) j) (hU:kI S rs ds U) (hE:cK F) (hI:(ib,.rows 3 N (jl full) 122 (0,0)) ∈ F) (hir:io+ni <= N) (hni:ni <= 1000000) (hmb:m <= 1000000) (hlen:xs.length=ni) (hx:∀ k,k < ni -> full.getD (io+k) dI=xs.getD k dI) (hM:MemH mb M (k+20 * m+20) T) (h0:0 <= M.get 0) (hgood:dD (fZ S j ni xs) (m+1) M) (hw:da S.players ni xs (M.get 0)=0):Sp Tryz.prog 11 #[vP gb 0,vS ib (io * 3) ni ic] (ap [(gb,.lit (cN S bp mb) 97 (0,0))] [T,U]) F (λ u H'=>∃ x:HL × Option Addr × Nat × HL,H'=ap [(gb,.lit (cN S bp mb) 97 (0,0))] [x.1,U,x.2.2.2] /\ (MemH mb (fO (fZ S j ni xs) (m+1) M) k x.1 /\ SlIs pL 102 (dW (fZ S j ni xs) (m+1) M) x.2.1 x.2.2.1 x.2.2.2 /\ u=.tuple #[.slice x.2.1 (dW (fZ S j ni xs) (m+1) M).length x.2.2.1,vI ((m+1:Nat):Int),vI 0])):=by
 have hl:RowL fC 122 F (some ⟨ib,io * 3,none⟩) ni xs:=.rows ib io N full (0,0) ni xs hI hir hlen hx
 have hM2:=hM
 refine Sp.runM Tryz.func11 rfl mn (A:=[(gb,.lit (cN S bp mb) 97 (0,0))]) (Ts:=[T,U]) rfl λ w0=>?_
 refine ae 13 [.own 3] λ n1=>ai (wG 0 S bp gb mb M (k+20 * m+20) (some ⟨ib,io * 3,none⟩) ni ic xs T _ (az 4) hM (au 0) hl.up hni hw)<|ae 18 [.own 3,.own 4] λ _=>ai (vF hM (au 0))<|ae 7 [.own 0] λ n2=>Mm (g:=43) (args:=#[]) (cap:=#[vP (n1+0) 0,vP (n2+0) 0,vP (n1+1) 0,vP (n1+2) 0,vP (n1+3) 0])<|ae 7 [.own 4] λ _=>RN.ct (Hp:=[]) (Tp:=[]) [] [] (xU gb ib io ni ic _) ?_
 rintro _ n3 rfl
 refine ae 3 [] λ _=>RN.nt<|mJ [1,0,2]<|Cd (σ:=Nat × List Eff × Option Addr × Nat × HL) (τ:=(Nat × List Eff × Option Addr × Nat × HL) × Nat × (Eff × Bool)) (encs:=λ (x_:Eff × Bool)=>#[.agg #[vI x_.1.t,vI x_.1.i,vI x_.1.k,vI x_.1.v,.bool x_.2]]) (xs:=(ig (fZ S j ni xs) (m+1) M)) (enters_of Tryz.func80 (by kernel_rfl) rfl) (λ ⟨c_,es_,B_,b_,E_⟩=>([((n1+1),.lit [.slice B_ es_.length b_] 40 (0,0)),((n1+2),.lit [vI (c_:Int)] 3 (0,0))],[E_])) (λ i_ ⟨c_,es_,B_,b_,E_⟩=>c_=i_ /\ es_=lw ((ig (fZ S j ni xs) (m+1) M).take i_) /\ SlIs pL 102 es_ B_ b_ E_) (λ c_ ⟨c_,es_,B_,b_,E_⟩=>False) (λ ⟨⟨c_,es_,B_,b_,E_⟩,nn_,y_⟩=>⟨[(4,vP (n1+1) 0),(5,vP (n1+2) 0),(6,vP (n1+3) 0),(9,vP (nn_+0) 0)],[((nn_+0),.lit [vI y_.1.t,vI y_.1.i,vI y_.1.k,vI y_.1.v,.bool y_.2] 104 (0,0)),((n1+1),.lit [.slice B_ es_.length b_] 40 (0,0)),((n1+2),.lit [vI (c_:Int)] 3 (0,0))],[E_],True,0⟩) (λ i_ x_ ⟨⟨c_,es_,B_,b_,E_⟩,nn_,y_⟩=>(c_=i_ /\ es_=lw ((ig (fZ S j ni xs) (m+1) M).take i_) /\ SlIs pL 102 es_ B_ b_ E_) /\ y_=x_) (0,[],none,0,[]) (⟨rfl,rfl,SlIs.nil _ _⟩) [5,4] [1] T (KF S bp gb mb (n3+0) (n3+1) ib io N ni ic m k j full xs M _ hj (hA.mono λ x hx=>aw hx) (az 5) (az 1) (az 0) (hU _ (au 0)).1 (aw hE) (aw hI) ⟨hir,hni⟩ hx T hM2 h0 hgood) ?_ ?_ ?_ ?_
 ·rintro l_ i_ x_ ⟨c_,es_,B_,b_,E_⟩ Y4 w5 hx6 ⟨hc_,he_,hs_⟩ mt7
  refine ae 4 (ow 0 5) λ n8=>?_
  refine mt7 ((c_,es_,B_,b_,E_),n8,x_) [0,1,2] [0] ?_
  try dsimp only
  exact ⟨⟨hc_,he_,hs_⟩,rfl⟩
 ·rintro l_ i_ x_ ⟨⟨c_,es_,B_,b_,E_⟩,nn_,y_⟩ Y9 w10 hx11 ⟨⟨hc_,he_,hs_⟩,ey_⟩
  subst ey_
  have hbd_:i_ < m+1:=by have:=(List.getElem?_eq_some_iff.1 hx11).1;rwa [ii] at this
  have hel_:es_.length <= i_:=by rw [he_];have:=vg ((ig (fZ S j ni xs) (m+1) M).take i_);rw [List.length_take] at this;omega
  refine ak 14 [.own 2,.nw,.own 2,.own 0] [bn ((c_:Int)+1)] λ _=>iE (y_.2) 29 (λ h12=>?_) λ h12=>?_
  ·refine ae 6 [.own 1,.own 0,.own 0,.own 0,.own 0] λ n13=>iY xw es_ [y_.1] 0 0 rfl hs_ (by simp;omega) ?_
   rintro A14 c15 T16 ⟨hs17,hz18⟩
   refine ae 3 [.own 2] λ _=>eH 3 (congrArg (λ v_=>(.lit [vI v_] 3 (0,0):Blk)) (show ((c_:Int)+1)=((c_+1:Nat):Int) by omega))<|eH 2 (congrArg (λ v_=>(.lit [.slice A14 v_ c15] 40 (0,0):Blk)) (show es_.length+1=(es_++[y_.1]).length by simp))<|RN.rn (c_+1,es_++[y_.1],A14,c15,T16) [2,3] [0] ?_
   try dsimp only
   exact ⟨by omega,by rw [D3 hx11 h12,<- he_],hs17⟩
  ·refine ae 3 [] λ _=>eH 2 (congrArg (λ v_=>(.lit [vI v_] 3 (0,0):Blk)) (show ((c_:Int)+1)=((c_+1:Nat):Int) by omega))<|RN.rn (c_+1,es_,B_,b_,E_) [1,2] [0] ?_
   try dsimp only
   exact ⟨by omega,by rw [Hj hx11 h12,<- he_],hs_⟩
 ·rintro d19 ⟨c_,es_,B_,b_,E_⟩ T20 ⟨hc_,he_,hs_⟩ hT21
  refine ae 3 [] λ _=>RN.draw [0,1,2,3,4] []<|ji (σ:=Unit) (λ _=>⟨[(4,vP (n1+1) 0),(5,vP (n1+2) 0),(6,vP (n1+3) 0)],[(d19,.obj (.deferred (some []))),((n1+1),.lit [.slice B_ es_.length b_] 40 (0,0)),((n1+2),.lit [vI (c_:Int)] 3 (0,0)),((n3+1),.lit [vS ib (io * 3) ni ic] 44 (0,0)),((n3+0),.lit [vP gb 0] 33 (0,0)),((n2+0),.lit [vI (aY (M.base+(M.lg.length:Int)))] 3 (0,0)),((n1+3),.lit [vI 0] 41 (0,0)),((n1+0),.lit [vP gb 0] 33 (0,0)),(gb,.lit (cN S bp mb) 97 (0,0))],[E_,T20,U],True,0⟩) ?_ ?_
  ·rintro ⟨⟩
   refine ae 1 [] λ _=>Jg ?_
   refine LV.mark 0 ?_
   refine Mo (enters_of Tryz.func43 (by kernel_rfl) rfl) [] [] (FC _ _ _ _ _ _) ?_
   rintro _ _ _
   refine LV.ret [.own 0,.own 1,.own 5] [7] [1,2,0] (v:=.tuple #[.slice B_ es_.length b_,vI (c_:Int),vI 0]) (H':=(ap [(gb,.lit (cN S bp mb) 97 (0,0))] [T20,U,E_])) ?_
   have e1:es_=dW (fZ S j ni xs) (m+1) M:=by rw [he_,List.take_length,vf]
   have e2:c_=m+1:=by rw [hc_,ii]
   subst e1
   subst e2
   exact ⟨(T20,B_,b_,E_),rfl,hT21,hs_,rfl⟩
  ·intro key22
   refine fB 0 1 ?_ ?_
   ·refine RDO.ev [] [.own 1] λ _=>fB 1 2 ?_ ?_
    ·refine RDO.ev [] [.own 2] λ _=>RD.one 2 (RDO.ev [] [.own 1] λ _=>?_)
     refine RD.one 3 (RDO.ev [] [.own 2] λ _=>?_)
     refine RD.one 4 (RDO.ev [] [.own 6] λ _=>?_)
     exact key22 () [0,1,2,3,4,5,6,7,8] [0,1,2]
    ·refine RDO.ev [] [.own 1] λ _=>RD.one 1 (RDO.ev [] [.own 2] λ _=>?_)
     refine RD.one 3 (RDO.ev [] [.own 2] λ _=>?_)
     refine RD.one 4 (RDO.ev [] [.own 6] λ _=>?_)
     exact key22 () [0,1,2,3,4,5,6,7,8] [0,1,2]
   ·refine RDO.ev [] [.own 2] λ _=>RD.one 0 (RDO.ev [] [.own 1] λ _=>?_)
    refine RD.one 2 (RDO.ev [] [.own 1] λ _=>?_)
    refine RD.one 3 (RDO.ev [] [.own 2] λ _=>?_)
    refine RD.one 4 (RDO.ev [] [.own 6] λ _=>?_)
    exact key22 () [0,1,2,3,4,5,6,7,8] [0,1,2]
 ·exact λ _ _ _ _ h _=>h.elim
theorem Ce (e:Int) (S:Setup) (bp gb mb n cap k:Nat) (A:Option Addr) (xs:List Inp) (M:MemS) (T U F:HL) (hl:RowL fC 122 F A n xs) (hni:n <= 1000000) (hM:MemH mb M k T) (hw:da S.players n xs (M.get 0)=e) (hne:¬ e=0):Sp Tryz.prog 11 #[vP gb 0,.slice A n cap] (ap [(gb,.lit (cN S bp mb) 97 (0,0))] [T,U]) F (λ u H'=>H'=ap [(gb,.lit (cN S bp mb) 97 (0,0))] [T,U] /\ u=.tuple #[.slice none 0 0,vI 0,vI e]):=by
 refine Sp.runM Tryz.func11 rfl mn (A:=[(gb,.lit (cN S bp mb) 97 (0,0))]) (Ts:=[T,U]) rfl λ w0=>?_
 refine ae 13 [.own 3] λ n1=>ai (wG e S bp gb mb M k A n cap xs T _ (az 4) hM (au 0) hl.up hni hw)<|ae 9 [] λ _=>cR 14 (nf (decide_eq_false hne))<|ae 9 [.own 2,.own 1,.own 0] λ _=>Jg ?_
 exact LV.ret [.own 2,.own 1,.own 0] [4] [0,1] ⟨rfl,rfl⟩
end Go.Proofs.YtcfajdgeejeieaaGreatDoor
