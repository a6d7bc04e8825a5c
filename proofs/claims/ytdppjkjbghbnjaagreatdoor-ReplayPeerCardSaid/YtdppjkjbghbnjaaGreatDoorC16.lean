import Derived.Test.YtdppjkjbghbnjaaGreatDoorC15
set_option maxHeartbeats 4000000
set_option maxRecDepth 100000
set_option linter.all false
namespace Go.Proofs.YtdppjkjbghbnjaaGreatDoor
open Go.RowKit
abbrev gH(S:Setup)(j:Nat × Int)(n:Nat)(xs:List Inp):Gm:=⟨S,none,fT j.1,0,cg j.1 0,cg j.1 1,cg j.1 2,j.2,0,0,n,0,0,xs,kH j.1⟩
def AtOk(F:HL)(bp:Nat)(t:Int)(j:Nat × Int):Prop:=∀F',(∀x∈F,x∈F') -> Sp Tryz.prog 106 #[vP bp 0,vI t] (ap [] []) F' (λ u H'=>∃x:Option Addr × Nat × HL,H'=ap [] [x.2.2] /\ (u=.tuple #[vI j.2,.agg #[.slice x.1 (fT j.1) x.2.1,vI (cg j.1 0),vI (cg j.1 1),vI (cg j.1 2)]] /\ ClS k8 231 (kH j.1) x.1 x.2.1 x.2.2))
theorem AtOk.mono{F F':HL}{bp:Nat}{t:Int}{j:Nat × Int}(h:AtOk F bp t j)(hs:∀x∈F,x∈F'):AtOk F' bp t j:=λ F2 h2=>h F2 λ x hx=>h2 x (hs x hx)
abbrev QC(x:Eff × Bool):Array Value:=#[.agg #[vI x.1.t,vI x.1.i,vI x.1.k,vI x.1.v,.bool x.2]]
theorem ClS.code{j:Nat}(hj:j<5){A:Option Addr}{c:Nat}{Hl F:HL}(h:ClS k8 231 (kH j) A c Hl)(hF:∀x∈Hl,x∈F):CodeIn F (kH j) A (fT j):=by
 have hl:=yH hj;have hb:=vQ hj;obtain⟨A0,h⟩:=h;rcases h with ⟨h1,rfl,rfl,rfl⟩|⟨b,rfl,rfl,h3⟩
 ·rw[h1] at hl;rw[<- hl];exact .nil _
 ·exact .mk b c _ (hF _ (List.mem_singleton.2 rfl)) (by rw[<- hl];exact h3) (by omega)
theorem vR{S:Setup}{A:Option Addr}{j:Nat × Int}{c ib io n ic N:Nat}{full xs:List Inp}(hx:∀k,k<n -> full.getD (io+k) dI=xs.getD k dI):GEq ⟨S,A,fT j.1,c,cg j.1 0,cg j.1 1,cg j.1 2,j.2,ib,io,n,ic,N,full,kH j.1⟩ (gH S j n xs) :=
 ⟨rfl,λ k hk=>(hx k hk).trans (by rw[Nat.zero_add])⟩
theorem oq{g g0:Gm}(e:GEq g g0)(mb:Nat)(M:MemS)(k:Nat)(T F:HL)(hM:MemH mb M (k+20) T)(hg:GmIn F g)(h0:GA M)(ver:Int)(Zl:g.version=ver):Sp Tryz.prog 107 #[.iface 113 (vP mb 0),.agg #[vI g.S.players,vS g.S.bb (g.S.bo*9) g.S.nb g.S.bc,vI g.S.box.x0,vI g.S.box.y0,vI g.S.box.x1,vI g.S.box.y1,.slice g.S.rA g.S.rn g.S.rc,.slice g.S.dA g.S.dn g.S.dc,vI g.S.fog,vI g.S.g.x,vI g.S.g.y,vI g.S.push,vI g.S.drag,vI g.S.rest,vI g.S.rounds,vI g.S.fuel],.agg #[.slice g.cA g.cn g.cc,vI g.e0,vI g.e1,vI g.e2],vI ver,vS g.ib (g.io*3) g.ni g.ic] (ap [] [T]) F (λ u H'=>∃x,H'=ap [] [x] /\ (MemH mb (jK g0 M) k x /\ u=.tuple #[.bool (jh g0 M),.agg (aaa (eT g0 M).e).toArray,.bool ((eT g0 M).em)])):=by
 have h:=DN g mb M k T F hM hg h0 ver Zl;rwa [jK,GM e,vh e] at h
theorem LY(S:Setup)(bp gb mb q1 q2 ib io N ni ic m k:Nat)(j:Nat × Int)(full xs:List Inp)(M:MemS)(F:HL)(hj:j.1<5)(hA:AtOk F bp (M.get 0) j)(hg:(gb,.lit (dD S bp mb) 121 (0,0))∈F)(h1:(q1,.lit [vP gb 0] 97 (0,0))∈F)(h2:(q2,.lit [vS ib (io*3) ni ic] 38 (0,0))∈F)(hS:SetIn F S)(hE:cM F)(hI:(ib,.rows 3 N (js full) 40 (0,0))∈F)(hir:io+ni <= N /\ ni <= 1000000)(hx:∀k,k<ni -> full.getD (io+k) dI=xs.getD k dI)(T:HL)(hM:MemH mb M (k+20*m+20) T)(h0:0 <= M.get 0)(Ue:dV (gH S j ni xs) (m+1) M)(lp:Nat)(X:HL)(J:Nat -> HL -> Prop)(Jx:HL -> Prop)(T0:HL)(hY:∀i x H Y,(i6 (gH S j ni xs) (m+1) M)[i]?=some x -> J i H -> YL Tryz.prog lp (QC x) H (Y++(X++F)) (λ b H'=>(b=true /\ J (i+1) H') \/ (b=false /\ Jx H')))(UH:J 0 T0):Sp Tryz.prog 105 #[.func (.yield lp) #[] #[],vP q1 0,vP q2 0] (ap [] [T0,T]) (X++F) (λ _ H'=>∃x:HL × HL,H'=ap [] [x.1,x.2] /\ ((J (i6 (gH S j ni xs) (m+1) M).length x.1 /\ MemH mb (fY (gH S j ni xs) (m+1) M) k x.2) \/ Jx x.1)):=by
 have Uf:=aay X hg;have YV:=aay X h1;have S7:=aay X h2;have hS_:SetIn (X++F) S:=hS.up;have YR:cM (X++F):=aay X hE;have Uy:=aay X hI;have hA_:AtOk (X++F) bp (M.get 0) j:=hA.mono λ x hx=>aay X hx;refine aau Tryz.func105 rfl (mc Uf (mc YV (mc S7 mn))) (A:=[]) (Ts:=[T0,T]) rfl λ w0=>?_;refine ae 1 [] λ _=>aal [12] []<|ag [] [0,4,1,2,3] [.ro 1,.ro 1,.ro 0]<|aac [] 5 (λ X_=>(rt S bp gb mb M (k+20*m+20) T _ (zH Uf) hM (aO 1)))<|fG 6 10 ?_ ?_
 ·refine aaf [] (Hp:=[]) (Tp:=[]) [] [] (hA_ _ (λ x hx=>au hx)) ?_;rintro _ ⟨A1,c2,T3⟩ ⟨rfl,hc4⟩;dsimp only at hc4;refine ag [] [7,8,9] []<|aae 10 (aag [] [] λ n5=>?_);refine ag [] [11] []<|aae 12 (aag [] (aab 4) λ _=>?_);refine aad<|ae 2 [] λ _=>aao (σ:=Nat × Nat × MemS × HL × HL) (λ ⟨r,i_,M_,T_,J_⟩=>⟨[(0,.func (.yield lp) #[] #[]),(1,vP q1 0),(2,vP q2 0),(4,vI j.2),(5,vP (n5+0) 0)],[((n5+0),.lit [.slice A1 (fT j.1) c2,vI (cg j.1 0),vI (cg j.1 1),vI (cg j.1 2)] 142 (0,0))],[T_,J_,T3],i_+(r+1)=m+1 /\ dV (gH S j ni xs) (r+1) M_ /\ fY (gH S j ni xs) (r+1) M_=fY (gH S j ni xs) (m+1) M /\ MemH mb M_ (k+20*r+20) T_ /\ (i6 (gH S j ni xs) (m+1) M).drop i_=i6 (gH S j ni xs) (r+1) M_ /\ J i_ J_,r⟩) (m,0,M,T,T0) [0] [2,1,0] (⟨by omega,Ue,rfl,hM,rfl,UH⟩) ?_;rintro⟨r,i_,M_,T_,J_⟩ ⟨hd_,AT,SA,UZ,Us,Sy⟩ Xt;refine ae 2 [] λ _=>aal [12,19] []<|ag [] [0,5,9,10,11,1,6,2,7,3,8,4] [.ro 1,.ro 1,.own 0,.own 0,.own 0,.own 0,.ro 2,.ro 0,.ro 0,.ro 0,.ro 0,.ro 0,.ro 0,.ro 0,.ro 0,.ro 0,.ro 0,.ro 0,.ro 0,.ro 0,.ro 0,.ro 0,.ro 0,.ro 0]<|fG 12 17 ?_ ?_
  ·refine aaf [] [] [0] (oq (g:=(⟨S,A1,fT j.1,c2,cg j.1 0,cg j.1 1,cg j.1 2,j.2,ib,io,ni,ic,N,full,kH j.1⟩:Gm)) (vR hx) mb M_ (k+20*r) T_ _ UZ ⟨hS_.up,au Uy,hir,au YR,hc4.code hj (ar 1)⟩ AT.1 j.2 rfl) ?_;rintro _ T8 ⟨V1,rfl⟩;refine ag [] [13,14,15,16] []<|aae 17 (aag [] [] λ TG=>?_);refine ag [] [18] []<|aae 19 (aag [] (aab 4) λ _=>?_);refine ag [] [20] []<|aad<|ae 7 (aab 4) λ _=>aas 1 (hY i_ ((eT (gH S j ni xs) M_).e,(eT (gH S j ni xs) M_).em) _ _ (gQ Us).1 Sy) ?_;rintro b_ OF (⟨rfl,Ye⟩|⟨rfl,Ye⟩)
   ·refine ae 6 [] λ _=>il (jh (gH S j ni xs) M_) 44 (λ TZ=>?_) λ TZ=>?_
    ·refine ae 1 [] λ _=>aaq [] [] [0,1] (v:=.tuple #[]) (H':=(ap [] [OF,T8])) ?_;have er:r=0:=by
      rcases AT.2 with ⟨e,_⟩|⟨e,_⟩
      ·exact e
      ·have hh:jh (gH S j ni xs) M_=true:=by assumption
       rw[e] at hh;cases hh
     subst er;have ed:i_+1=(i6 (gH S j ni xs) (m+1) M).length:=by rw[i7];omega
     refine⟨(OF,T8),rfl,.inl ⟨?_,?_⟩⟩
     ·rw[<- ed];exact Ye
     ·rw[<- SA];exact V1.weak (by omega)
    ·refine ae 3 [] λ _=>?_;have Uq:=AT.2;rcases Uq with ⟨_,e_⟩|⟨_,Uq⟩
     ·exact absurd e_ (by assumption)
     rcases r with _|r
     ·exact Uq.elim
     refine Xt (r,i_+1,(jK (gH S j ni xs) M_),T8,OF) [1] [1,0,2] ?_
     try dsimp only
     exact⟨⟨by omega,Uq,SA,V1.weak (by omega),(gQ Us).2,Ye⟩,by omega⟩
   ·refine ae 7 [] λ _=>aaq [] [] [0,1] (v:=.tuple #[]) (H':=(ap [] [OF,T8])) ?_;exact⟨(OF,T8),rfl,.inr Ye⟩
  ·refine aag [] [] λ n14=>aae 12 (aaf [] [] [0] (oq (g:=(⟨S,A1,fT j.1,c2,cg j.1 0,cg j.1 1,cg j.1 2,j.2,ib,io,ni,ic,N,full,kH j.1⟩:Gm)) (vR hx) mb M_ (k+20*r) T_ _ UZ ⟨hS_.up,au Uy,hir,au YR,hc4.code hj (ar 1)⟩ AT.1 j.2 rfl) ?_);rintro _ SP ⟨TW,rfl⟩;refine ag [] [13,14,15,16,18] []<|aae 19 (aag [] (aab 4) λ _=>?_);refine ag [] [20] []<|aad<|ae 7 (aab 4) λ _=>aas 1 (hY i_ ((eT (gH S j ni xs) M_).e,(eT (gH S j ni xs) M_).em) _ _ (gQ Us).1 Sy) ?_;rintro b_ TA (⟨rfl,Yd⟩|⟨rfl,Yd⟩)
   ·refine ae 6 [] λ _=>il (jh (gH S j ni xs) M_) 44 (λ h19=>?_) λ h19=>?_
    ·refine ae 1 [] λ _=>aaq [] [] [0,1] (v:=.tuple #[]) (H':=(ap [] [TA,SP])) ?_;have er:r=0:=by
      rcases AT.2 with ⟨e,_⟩|⟨e,_⟩
      ·exact e
      ·have hh:jh (gH S j ni xs) M_=true:=by assumption
       rw[e] at hh;cases hh
     subst er;have ed:i_+1=(i6 (gH S j ni xs) (m+1) M).length:=by rw[i7];omega
     refine⟨(TA,SP),rfl,.inl ⟨?_,?_⟩⟩
     ·rw[<- ed];exact Yd
     ·rw[<- SA];exact TW.weak (by omega)
    ·refine ae 3 [] λ _=>?_;have Uq:=AT.2;rcases Uq with ⟨_,e_⟩|⟨_,Uq⟩
     ·exact absurd e_ (by assumption)
     rcases r with _|r
     ·exact Uq.elim
     refine Xt (r,i_+1,(jK (gH S j ni xs) M_),SP,TA) [1] [1,0,2] ?_
     try dsimp only
     exact⟨⟨by omega,Uq,SA,TW.weak (by omega),(gQ Us).2,Yd⟩,by omega⟩
   ·refine ae 7 [] λ _=>aaq [] [] [0,1] (v:=.tuple #[]) (H':=(ap [] [TA,SP])) ?_;exact⟨(TA,SP),rfl,.inr Yd⟩
 ·refine aag [] [] λ VP=>aae 6 (aaf [] (Hp:=[]) (Tp:=[]) [] [] (hA_ _ (λ x hx=>au hx)) ?_);rintro _ ⟨A21,c22,Y2⟩ ⟨rfl,ZY⟩;dsimp only at ZY;refine ag [] [7,8,9,11] []<|aae 12 (aag [] (aab 4) λ _=>?_);refine aad<|ae 2 [] λ _=>aao (σ:=Nat × Nat × MemS × HL × HL) (λ ⟨r,i_,M_,T_,J_⟩=>⟨[(0,.func (.yield lp) #[] #[]),(1,vP q1 0),(2,vP q2 0),(4,vI j.2),(5,vP (VP+0) 0)],[((VP+0),.lit [.slice A21 (fT j.1) c22,vI (cg j.1 0),vI (cg j.1 1),vI (cg j.1 2)] 142 (0,0))],[T_,J_,Y2],i_+(r+1)=m+1 /\ dV (gH S j ni xs) (r+1) M_ /\ fY (gH S j ni xs) (r+1) M_=fY (gH S j ni xs) (m+1) M /\ MemH mb M_ (k+20*r+20) T_ /\ (i6 (gH S j ni xs) (m+1) M).drop i_=i6 (gH S j ni xs) (r+1) M_ /\ J i_ J_,r⟩) (m,0,M,T,T0) [0] [2,1,0] (⟨by omega,Ue,rfl,hM,rfl,UH⟩) ?_;rintro⟨r,i_,M_,T_,J_⟩ ⟨hd_,AT,SA,UZ,Us,Sy⟩ abu;refine ae 2 [] λ _=>aal [12,19] []<|ag [] [0,5,9,10,11,1,6,2,7,3,8,4] [.ro 1,.ro 1,.own 0,.own 0,.own 0,.own 0,.ro 2,.ro 0,.ro 0,.ro 0,.ro 0,.ro 0,.ro 0,.ro 0,.ro 0,.ro 0,.ro 0,.ro 0,.ro 0,.ro 0,.ro 0,.ro 0,.ro 0,.ro 0]<|fG 12 17 ?_ ?_
  ·refine aaf [] [] [0] (oq (g:=(⟨S,A21,fT j.1,c22,cg j.1 0,cg j.1 1,cg j.1 2,j.2,ib,io,ni,ic,N,full,kH j.1⟩:Gm)) (vR hx) mb M_ (k+20*r) T_ _ UZ ⟨hS_.up,au Uy,hir,au YR,ZY.code hj (ar 1)⟩ AT.1 j.2 rfl) ?_;rintro _ VM ⟨TU,rfl⟩;refine ag [] [13,14,15,16] []<|aae 17 (aag [] [] λ n29=>?_);refine ag [] [18] []<|aae 19 (aag [] (aab 4) λ _=>?_);refine ag [] [20] []<|aad<|ae 7 (aab 4) λ _=>aas 1 (hY i_ ((eT (gH S j ni xs) M_).e,(eT (gH S j ni xs) M_).em) _ _ (gQ Us).1 Sy) ?_;rintro b_ T30 (⟨rfl,Yc⟩|⟨rfl,Yc⟩)
   ·refine ae 6 [] λ _=>il (jh (gH S j ni xs) M_) 44 (λ Yl=>?_) λ Yl=>?_
    ·refine ae 1 [] λ _=>aaq [] [] [0,1] (v:=.tuple #[]) (H':=(ap [] [T30,VM])) ?_;have er:r=0:=by
      rcases AT.2 with ⟨e,_⟩|⟨e,_⟩
      ·exact e
      ·have hh:jh (gH S j ni xs) M_=true:=by assumption
       rw[e] at hh;cases hh
     subst er;have ed:i_+1=(i6 (gH S j ni xs) (m+1) M).length:=by rw[i7];omega
     refine⟨(T30,VM),rfl,.inl ⟨?_,?_⟩⟩
     ·rw[<- ed];exact Yc
     ·rw[<- SA];exact TU.weak (by omega)
    ·refine ae 3 [] λ _=>?_;have Uq:=AT.2;rcases Uq with ⟨_,e_⟩|⟨_,Uq⟩
     ·exact absurd e_ (by assumption)
     rcases r with _|r
     ·exact Uq.elim
     refine abu (r,i_+1,(jK (gH S j ni xs) M_),VM,T30) [1] [1,0,2] ?_
     try dsimp only
     exact⟨⟨by omega,Uq,SA,TU.weak (by omega),(gQ Us).2,Yc⟩,by omega⟩
   ·refine ae 7 [] λ _=>aaq [] [] [0,1] (v:=.tuple #[]) (H':=(ap [] [T30,VM])) ?_;exact⟨(T30,VM),rfl,.inr Yc⟩
  ·refine aag [] [] λ n33=>aae 12 (aaf [] [] [0] (oq (g:=(⟨S,A21,fT j.1,c22,cg j.1 0,cg j.1 1,cg j.1 2,j.2,ib,io,ni,ic,N,full,kH j.1⟩:Gm)) (vR hx) mb M_ (k+20*r) T_ _ UZ ⟨hS_.up,au Uy,hir,au YR,ZY.code hj (ar 1)⟩ AT.1 j.2 rfl) ?_);rintro _ YY ⟨X8,rfl⟩;refine ag [] [13,14,15,16,18] []<|aae 19 (aag [] (aab 4) λ _=>?_);refine ag [] [20] []<|aad<|ae 7 (aab 4) λ _=>aas 1 (hY i_ ((eT (gH S j ni xs) M_).e,(eT (gH S j ni xs) M_).em) _ _ (gQ Us).1 Sy) ?_;rintro b_ T36 (⟨rfl,Yb⟩|⟨rfl,Yb⟩)
   ·refine ae 6 [] λ _=>il (jh (gH S j ni xs) M_) 44 (λ h38=>?_) λ h38=>?_
    ·refine ae 1 [] λ _=>aaq [] [] [0,1] (v:=.tuple #[]) (H':=(ap [] [T36,YY])) ?_;have er:r=0:=by
      rcases AT.2 with ⟨e,_⟩|⟨e,_⟩
      ·exact e
      ·have hh:jh (gH S j ni xs) M_=true:=by assumption
       rw[e] at hh;cases hh
     subst er;have ed:i_+1=(i6 (gH S j ni xs) (m+1) M).length:=by rw[i7];omega
     refine⟨(T36,YY),rfl,.inl ⟨?_,?_⟩⟩
     ·rw[<- ed];exact Yb
     ·rw[<- SA];exact X8.weak (by omega)
    ·refine ae 3 [] λ _=>?_;have Uq:=AT.2;rcases Uq with ⟨_,e_⟩|⟨_,Uq⟩
     ·exact absurd e_ (by assumption)
     rcases r with _|r
     ·exact Uq.elim
     refine abu (r,i_+1,(jK (gH S j ni xs) M_),YY,T36) [1] [1,0,2] ?_
     try dsimp only
     exact⟨⟨by omega,Uq,SA,X8.weak (by omega),(gQ Us).2,Yb⟩,by omega⟩
   ·refine ae 7 [] λ _=>aaq [] [] [0,1] (v:=.tuple #[]) (H':=(ap [] [T36,YY])) ?_;exact⟨(T36,YY),rfl,.inr Yb⟩
theorem OE(S:Setup)(bp gb mb q1 q2 ib io N ni ic m k:Nat)(j:Nat × Int)(full xs:List Inp)(M:MemS)(F:HL)(hj:j.1<5)(hA:AtOk F bp (M.get 0) j)(hg:(gb,.lit (dD S bp mb) 121 (0,0))∈F)(h1:(q1,.lit [vP gb 0] 97 (0,0))∈F)(h2:(q2,.lit [vS ib (io*3) ni ic] 38 (0,0))∈F)(hS:SetIn F S)(hE:cM F)(hI:(ib,.rows 3 N (js full) 40 (0,0))∈F)(hir:io+ni <= N /\ ni <= 1000000)(hx:∀k,k<ni -> full.getD (io+k) dI=xs.getD k dI)(T:HL)(hM:MemH mb M (k+20*m+20) T)(h0:0 <= M.get 0)(Ue:dV (gH S j ni xs) (m+1) M):Q2 Tryz.prog 105 #[vP q1 0,vP q2 0] T F QC (i6 (gH S j ni xs) (m+1) M) (λ T1=>MemH mb (fY (gH S j ni xs) (m+1) M) k T1) (λ _=>True):=by
 intro X l J Jx H0 hY h0';have e:∀A B:HL,ap [] [A,B]=A++B:=λ A B=>by simp[ap]
 have key:=LY S bp gb mb q1 q2 ib io N ni ic m k j full xs M F hj hA hg h1 h2 hS hE hI hir hx T hM h0 Ue l X J Jx H0 hY h0';rw[e] at key;refine key.mono λ u H' h=>?_;obtain⟨x,rfl,h⟩:=h;refine⟨x.1,x.2,e _ _,?_⟩;rcases h with ⟨a,b⟩|a
 ·exact .inl ⟨a,b⟩
 ·exact .inr ⟨a,trivial⟩
theorem IZ(e:Int)(S:Setup)(bp gb mb:Nat)(M:MemS)(k:Nat)(A:Option Addr)(n cap:Nat)(xs:List Inp)(T F:HL)(hg:(gb,.lit (dD S bp mb) 121 (0,0))∈F)(hM:MemH mb M k T)(hT:∀x∈T,x∈F)(hl:RowL cL 40 F A n xs)(hn:n <= 1000000)(he:fI S.players n xs (M.get 0)=e):Sp Tryz.prog 80 #[vP gb 0,.slice A n cap] [] F (λ u H'=>u=vI e /\ H'=[]):=he ▸ Av S bp gb mb M k A n cap xs T F hg hM hT hl hn
theorem I0(c0 c1 c2 c3 c4:Value)(F:HL):SpD Tryz.prog 81 #[c0,c1,c2,c3,c4] (ap [] []) F (λ _ H'=>∃_:Unit,H'=ap [] [] /\ True):=by
 exact(IY c0 c1 c2 c3 c4 F).mono λ u H' h=>⟨(),h,trivial⟩
theorem I1(S:Setup)(rs:List Bx)(ds:List Dr)(bp gb mb ib io N ni ic m k:Nat)(j:Nat × Int)(full xs:List Inp)(M:MemS)(T U F:HL)(hj:j.1<5)(hA:AtOk F bp (M.get 0) j)(hU:rq S rs ds U)(hE:cM F)(hI:(ib,.rows 3 N (js full) 40 (0,0))∈F)(hir:io+ni <= N)(UB:ni <= 1000000)(hmb:m <= 1000000)(hlen:xs.length=ni)(hx:∀k,k<ni -> full.getD (io+k) dI=xs.getD k dI)(hM:MemH mb M (k+20*m+20) T)(h0:0 <= M.get 0)(Ue:dV (gH S j ni xs) (m+1) M)(hw:fI S.players ni xs (M.get 0)=0):Sp Tryz.prog 57 #[vP gb 0,vS ib (io*3) ni ic] (ap [(gb,.lit (dD S bp mb) 121 (0,0))] [T,U]) F (λ u H'=>∃x:HL × Option Addr × Nat × HL,H'=ap [(gb,.lit (dD S bp mb) 121 (0,0))] [x.1,U,x.2.2.2] /\ (MemH mb (fY (gH S j ni xs) (m+1) M) k x.1 /\ SlIs sH 111 (d9 (gH S j ni xs) (m+1) M) x.2.1 x.2.2.1 x.2.2.2 /\ u=.tuple #[.slice x.2.1 (d9 (gH S j ni xs) (m+1) M).length x.2.2.1,vI ((m+1:Nat):Int),vI 0])):=by
 have hl:RowL cL 40 F (some ⟨ib,io*3,none⟩) ni xs:=.rows ib io N full (0,0) ni xs hI hir hlen hx;have XC:=hM;refine Sp.runM Tryz.func57 rfl mn (A:=[(gb,.lit (dD S bp mb) 121 (0,0))]) (Ts:=[T,U]) rfl λ w0=>?_;refine ae 13 [.own 3] λ n1=>aai (IZ 0 S bp gb mb M (k+20*m+20) (some ⟨ib,io*3,none⟩) ni ic xs T _ (aw 4) hM (ar 0) hl.up UB hw)<|ae 18 [.own 3,.own 4] λ _=>aai (xO hM (ar 0))<|ae 7 [.own 0] λ n2=>Pw (g:=81) (args:=#[]) (cap:=#[vP (n1+0) 0,vP (n2+0) 0,vP (n1+1) 0,vP (n1+2) 0,vP (n1+3) 0])<|ae 7 [.own 4] λ _=>aaj (Hp:=[]) (Tp:=[]) [] [] (EB gb ib io ni ic _) ?_;rintro _ n3 rfl;refine ae 3 [] λ _=>aap<|ll [1,0,2]<|Dq (σ:=Nat × List Eff × Option Addr × Nat × HL) (τ:=(Nat × List Eff × Option Addr × Nat × HL) × Nat × (Eff × Bool)) (encs:=λ (x_:Eff × Bool)=>#[.agg #[vI x_.1.t,vI x_.1.i,vI x_.1.k,vI x_.1.v,.bool x_.2]]) (xs:=(i6 (gH S j ni xs) (m+1) M)) (enters_of Tryz.func105 (by kernel_rfl) rfl) (λ ⟨c_,Ty,B_,b_,E_⟩=>([((n1+1),.lit [.slice B_ Ty.length b_] 58 (0,0)),((n1+2),.lit [vI (c_:Int)] 3 (0,0))],[E_])) (λ i_ ⟨c_,Ty,B_,b_,E_⟩=>c_=i_ /\ Ty=mt ((i6 (gH S j ni xs) (m+1) M).take i_) /\ SlIs sH 111 Ty B_ b_ E_) (λ c_ ⟨c_,Ty,B_,b_,E_⟩=>False) (λ ⟨⟨c_,Ty,B_,b_,E_⟩,nn_,y_⟩=>⟨[(4,vP (n1+1) 0),(5,vP (n1+2) 0),(6,vP (n1+3) 0),(9,vP (nn_+0) 0)],[((nn_+0),.lit [vI y_.1.t,vI y_.1.i,vI y_.1.k,vI y_.1.v,.bool y_.2] 159 (0,0)),((n1+1),.lit [.slice B_ Ty.length b_] 58 (0,0)),((n1+2),.lit [vI (c_:Int)] 3 (0,0))],[E_],True,0⟩) (λ i_ x_ ⟨⟨c_,Ty,B_,b_,E_⟩,nn_,y_⟩=>(c_=i_ /\ Ty=mt ((i6 (gH S j ni xs) (m+1) M).take i_) /\ SlIs sH 111 Ty B_ b_ E_) /\ y_=x_) (0,[],none,0,[]) (⟨rfl,rfl,aat _ _⟩) [5,4] [1] T (OE S bp gb mb (n3+0) (n3+1) ib io N ni ic m k j full xs M _ hj (hA.mono λ x hx=>au hx) (aw 5) (aw 1) (aw 0) (hU _ (ar 0)).1 (au hE) (au hI) ⟨hir,UB⟩ hx T XC h0 Ue) ?_ ?_ ?_ ?_
 ·rintro l_ i_ x_ ⟨c_,Ty,B_,b_,E_⟩ Y4 w5 hx6 ⟨YN,TN,Sr⟩ Xt;refine ae 4 (ow 0 5) λ n8=>?_;refine Xt ((c_,Ty,B_,b_,E_),n8,x_) [0,1,2] [0] ?_
  try dsimp only
  exact⟨⟨YN,TN,Sr⟩,rfl⟩
 ·rintro l_ i_ x_ ⟨⟨c_,Ty,B_,b_,E_⟩,nn_,y_⟩ Y9 w10 Zh ⟨⟨YN,TN,Sr⟩,ey_⟩;subst ey_;have alo:i_<m+1:=by have:=(List.getElem?_eq_some_iff.1 Zh).1;rwa [i7] at this
  have alc:Ty.length <= i_:=by rw[TN];have:=xt ((i6 (gH S j ni xs) (m+1) M).take i_);rw[aaQ] at this;omega
  refine ai 14 [.own 2,.nw,.own 2,.own 0] [bn ((c_:Int)+1)] λ _=>il (y_.2) 29 (λ SO=>?_) λ SO=>?_
  ·refine ae 6 [.own 1,.own 0,.own 0,.own 0,.own 0] λ Wp=>iX NP Ty [y_.1] 0 0 rfl Sr (by simp;omega) ?_;rintro A14 c15 Wl ⟨ae4,aj2⟩;refine ae 3 [.own 2] λ _=>aah 3 (congrArg (λ v_=>(.lit [vI v_] 3 (0,0):Blk)) (show ((c_:Int)+1)=((c_+1:Nat):Int) by omega))<|aah 2 (congrArg (λ v_=>(.lit [.slice A14 v_ c15] 58 (0,0):Blk)) (show Ty.length+1=(Ty++[y_.1]).length by simp))<|RN.rn (c_+1,Ty++[y_.1],A14,c15,Wl) [2,3] [0] ?_
   try dsimp only
   exact⟨by omega,by rw[G5 Zh SO,<- TN],ae4⟩
  ·refine ae 3 [] λ _=>aah 2 (congrArg (λ v_=>(.lit [vI v_] 3 (0,0):Blk)) (show ((c_:Int)+1)=((c_+1:Nat):Int) by omega))<|RN.rn (c_+1,Ty,B_,b_,E_) [1,2] [0] ?_
   try dsimp only
   exact⟨by omega,by rw[K5 Zh SO,<- TN],Sr⟩
 ·rintro d19 ⟨c_,Ty,B_,b_,E_⟩ VA ⟨YN,TN,Sr⟩ ago;refine ae 3 [] λ _=>aal [0,1,2,3,4] []<|jT (σ:=Unit) (λ _=>⟨[(4,vP (n1+1) 0),(5,vP (n1+2) 0),(6,vP (n1+3) 0)],[(d19,.obj (.deferred (some []))),((n1+1),.lit [.slice B_ Ty.length b_] 58 (0,0)),((n1+2),.lit [vI (c_:Int)] 3 (0,0)),((n3+1),.lit [vS ib (io*3) ni ic] 38 (0,0)),((n3+0),.lit [vP gb 0] 97 (0,0)),((n2+0),.lit [vI (bd (M.base+(M.lg.length:Int)))] 3 (0,0)),((n1+3),.lit [vI 0] 43 (0,0)),((n1+0),.lit [vP gb 0] 97 (0,0)),(gb,.lit (dD S bp mb) 121 (0,0))],[E_,VA,U],True,0⟩) ?_ ?_
  ·rintro⟨⟩;refine ae 1 [] λ _=>Px ?_;refine LV.mark 0 ?_;refine Pz (enters_of Tryz.func81 (by kernel_rfl) rfl) [] [] (I0 _ _ _ _ _ _) ?_;rintro _ _ _;refine LV.ret [.own 0,.own 1,.own 5] [7] [1,2,0] (v:=.tuple #[.slice B_ Ty.length b_,vI (c_:Int),vI 0]) (H':=(ap [(gb,.lit (dD S bp mb) 121 (0,0))] [VA,U,E_])) ?_;have e1:Ty=d9 (gH S j ni xs) (m+1) M:=by rw[TN,List.take_length,xr]
   have e2:c_=m+1:=by rw[YN,i7]
   subst e1;subst e2;exact⟨(VA,B_,b_,E_),rfl,ago,Sr,rfl⟩
  ·intro Wu;refine fG 0 1 ?_ ?_
   ·refine aag [] [.own 1] λ _=>fG 1 2 ?_ ?_
    ·refine aag [] [.own 2] λ _=>aae 2 (aag [] [.own 1] λ _=>?_);refine aae 3 (aag [] [.own 2] λ _=>?_);refine aae 4 (aag [] [.own 6] λ _=>?_);exact Wu () [0,1,2,3,4,5,6,7,8] [0,1,2]
    ·refine aag [] [.own 1] λ _=>aae 1 (aag [] [.own 2] λ _=>?_);refine aae 3 (aag [] [.own 2] λ _=>?_);refine aae 4 (aag [] [.own 6] λ _=>?_);exact Wu () [0,1,2,3,4,5,6,7,8] [0,1,2]
   ·refine aag [] [.own 2] λ _=>aae 0 (aag [] [.own 1] λ _=>?_);refine aae 2 (aag [] [.own 1] λ _=>?_);refine aae 3 (aag [] [.own 2] λ _=>?_);refine aae 4 (aag [] [.own 6] λ _=>?_);exact Wu () [0,1,2,3,4,5,6,7,8] [0,1,2]
 ·exact λ _ _ _ _ h _=>h.elim
structure Rw where (A:Option Addr) (n c:Nat)
def gD:Enc Rw:=⟨1,λ p k=>match k with|0=>.slice p.A p.n p.c|_=>default,⟨none,0,0⟩⟩
noncomputable def QD:TypeInfo:=match Tryz.prog.info? 38 with | some i=>i | none=>⟨.bool,"",0,0,false,0,0,none,false,#[]⟩
noncomputable def QE:Value:=match QD.zero with|some z=>z|none=>.bool false
theorem yJ:EncOk gD Tryz.prog 38 QD QE where
 info:=by kernel_rfl
 zero:=by kernel_rfl
 size:=by kernel_rfl
 zsize:=by kernel_rfl
 zcell:=λ k hk=>by
  have h:∀k<1,QE.cells[k]?=some (gD.cell gD.dflt k):=by intro k hk;(iterate 1 (rcases k with _|k;· kernel_rfl));omega
  exact h k hk
 one:=λ x k=>by unfold gD;dsimp only;split <;> rfl
 bytes:=aaJ (by kernel_rfl)
inductive RwIn(F:HL)(xs:List Inp):Rw -> Prop
 | mk (b o N:Nat) (full:List Inp) (c:Nat) (hI:(b,.rows 3 N (js full) 40 (0,0))∈F) (hir:o+xs.length <= N) (hx:∀k,k<xs.length -> full.getD (o+k) dI=xs.getD k dI) (hcap:xs.length <= c):RwIn F xs ⟨some ⟨b,o*3,none⟩,xs.length,c⟩
structure RwsIn(F:HL)(rs:List Rw)(xss:List (List Inp)):Prop where
 len:rs.length=xss.length
 row:∀k,k<rs.length -> RwIn F (xss.getD k []) (rs.getD k gD.dflt)
def RwsT(rs:List Rw)(xss:List (List Inp))(T:HL):Prop:=∀F,(∀x∈T,x∈F) -> RwsIn F rs xss
theorem RwsIn.get{F:HL}{rs:List Rw}{xss:List (List Inp)}(h:RwsIn F rs xss){k:Nat}(hk:k<rs.length):∃b o N full c,rs.getD k gD.dflt=⟨some ⟨b,o*3,none⟩,(xss.getD k []).length,c⟩ /\ (b,.rows 3 N (js full) 40 (0,0))∈F /\ o+(xss.getD k []).length <= N /\ (∀i,i<(xss.getD k []).length -> full.getD (o+i) dI=(xss.getD k []).getD i dI) /\ (xss.getD k []).length <= c:=by
 have h1:=h.row k hk;generalize rs.getD k gD.dflt=p at h1 ⊢;cases h1 with
 | mk b o N full c hI hir hx hc=>exact⟨b,o,N,full,c,rfl,hI,hir,hx,hc⟩
theorem SlIs.rw{xs:List Inp}{A:Option Addr}{c:Nat}{T F:HL}(h:SlIs cL 40 xs A c T)(hF:∀x∈T,x∈F)(h1:1 <= xs.length){n:Nat}(hn:n=xs.length):RwIn F xs ⟨A,n,c⟩:=by
 subst hn;rcases h with ⟨_,_,rfl,_⟩|⟨b,o,full,rfl,rfl,h2,h3,h4⟩
 ·simp at h1
 ·refine .mk b o (o+c) full c (hF _ (List.mem_singleton.2 rfl)) (by omega) (λ k hk=>?_) h3;have h5:((full.drop o).take xs.length)[k]?=xs[k]?:=by rw[h4]
  rw[aa7,if_pos hk,aa6] at h5;rw[aaI,aaI,h5]
theorem RwsT.nil:RwsT [] [] []:=λ F _=>⟨rfl,λ k hk=>absurd hk (Nat.not_lt_zero _)⟩
theorem fQ{α:Type}(l:List α)(x d:α)(k:Nat):(l++[x]).getD k d=if k<l.length then l.getD k d else if k=l.length then x else d:=by
 rw[aaI,List.getElem?_append];split
 ·rw[aaI]
 ·split
  ·next h=>subst h;simp
  ·rw[List.getElem?_eq_none (by simp;omega)];rfl
theorem RwsT.snoc{rs:List Rw}{xss:List (List Inp)}{T T1:HL}{xs:List Inp}{A:Option Addr}{c n:Nat}(h:RwsT rs xss T)(hs:SlIs cL 40 xs A c T1)(h1:1 <= xs.length)(hn:n=xs.length):RwsT (rs++[⟨A,n,c⟩]) (xss++[xs]) (T++T1):=λ F hF=>by
 have h2:=h F λ x hx=>hF x (aaA _ hx);refine⟨by simp[h2.len],λ k hk=>?_⟩;rw[fQ,fQ,<- h2.len]
 by_cases SV:k<rs.length
 ·rw[if_pos SV,if_pos SV];exact h2.row k SV
 ·have:k=rs.length:=by simp at hk;omega
  rw[if_neg SV,if_neg SV,if_pos this,if_pos this];exact hs.rw (λ x hx=>hF x (aay _ hx)) h1 hn
def zt(G:Nat -> Gm)(M:MemS):Nat -> MemS
 | 0=>M
 | k+1=>iq (G k) (zt G M k)
abbrev oD(S:Setup)(j:Nat × Int)(xs:List Inp):Gm:=gH S j xs.length xs
abbrev rG(S:Setup)(J:Nat -> Nat × Int)(xss:List (List Inp)):Nat -> Gm:=λ k=>oD S (J k) (xss.getD k [])
structure TkOk(S:Setup)(j:Nat × Int)(xs:List Inp)(M:MemS):Prop where
 ex:∃m,m <= 999 /\ dV (oD S j xs) (m+1) M
 now:0 <= M.get 0
 ok:fI S.players xs.length xs (M.get 0)=0
theorem MS{g:Gm}{M:MemS}{m:Nat}(hm:m <= 999)(h:dV g (m+1) M):fY g (m+1) M=iq g M /\ d9 g (m+1) M=pX g M:=by
 rw[iq,pX,G3 m 1000 M h (by omega)];exact⟨rfl,rfl⟩
theorem po{M N:MemS}(h:M.cs=N.cs)(i:Int):M.get i=N.get i:=by unfold MemS.get;rw[h]
theorem nh(g:Gm)(l:List (Int × Int))(b:Int):∀ (n:Nat) (M:MemS),dV g n (M.sh l b)↔dV g n M
 | 0,_=>Iff.rfl
 | n+1,M=>by rw[dV,dV,G2,jK,jK,vk,bG,nh g l b n];exact Iff.rfl
theorem Bb{g:Gm}{M N:MemS}(h:M.cs=N.cs)(n:Nat)(hg:dV g n M):dV g n N:=by
 rw[<- lu M,nh] at hg;rw[<- lu N,nh,<- h];exact hg
theorem TkOk.cs{S:Setup}{j:Nat × Int}{xs:List Inp}{M N:MemS}(e:M.cs=N.cs)(h:TkOk S j xs M):TkOk S j xs N:=by
 obtain⟨m,h1,h2⟩:=h.ex;exact⟨⟨m,h1,Bb e _ h2⟩,by rw[<- po e];exact h.now,by rw[<- po e];exact h.ok⟩
theorem ox(g:Gm)(M:MemS):(iq g M).base=M.base:=by
 have h:=congrArg MemS.base (congrArg (iq g) (lu M));rw[vn] at h;exact h.symm
theorem ur(mb cb n:Nat)(A:Option Addr)(m cap:Nat)(base:Int)(F:HL)(hm:(mb,.lit [vS cb 0 n n,.slice A m cap,vI base] 162 (0,0))∈F)(hb:0 <= base /\ base <= 1000000000)(hl:m <= 100000000):Sp Tryz.prog 59 #[vP mb 0] [] F (λ u H'=>u=vI (base+(m:Int)) /\ H'=[]):=by
 have h:=xN mb cb n A m cap base F hm;rwa [dh (by omega)] at h
theorem Bc{mb:Nat}{M:MemS}{k:Nat}{T F:HL}(h:MemH mb M k T)(hs:∀x∈T,x∈F)(hb:0 <= M.base /\ M.base <= 1000000000):Sp Tryz.prog 59 #[vP mb 0] [] F (λ u H'=>u=vI (M.base+(M.lg.length:Int)) /\ H'=[]):=by
 have h1:=h.len2;have h2:=xO h hs;rwa [dh (by omega)] at h2
theorem NewS.sl0{A':Option Addr}{f_:Nat}{o_:HL}(h:NewS i0 195 ([]:List (Int × Int)) none A' f_ o_):SlIs i0 195 [] A' f_ o_:=by
 rcases h with ⟨_,rfl,rfl,rfl⟩|⟨b,rfl,rfl,_⟩
 ·exact aat _ _
 ·refine .inr ⟨b,0,List.replicate f_ i0.dflt,by simp,?_,by simp,aaL _,rfl⟩;have:=lm (e:=i0) [] f_;rw[List.nil_append] at this;rw[this,Nat.zero_add]
theorem Sp.tl{P:Program}{f:FuncId}{args:Array Value}{H F:HL}{R:Value -> HL -> Prop}(h:Sp P f args H F R):Sp P f args H F (λ u H'=>∃x,H'=ap [] [x] /\ R u x):=h.mono λ u H' h=>⟨H',(aU H').symm,h⟩
theorem QF{P:Program}{sz:Nat}{tx e':TypeId}{a:Addr}{m c':Nat}{w:World}(hm:m=0)(hk:P.underlying tx=some (.slice e')):Src P sz tx (.slice (some a) m c') 0 [] w:=by
 subst hm;exact Src.ofSlice w hk a 0 c' [] (by simp) (λ j u h=>by simp at h) (λ u h=>by simp at h)
theorem nj(mb cb n:Nat)(A:Option Addr)(m cap:Nat)(base:Int)(F:HL)(hm:(mb,.lit [vS cb 0 n n,.slice A m cap,vI base] 162 (0,0))∈F)(hb:0 <= base /\ base <= 1000000000)(hl:m <= 100000000):Sp Tryz.prog 84 #[vP mb 0,vI (base+(m:Int))] [] F (λ u H'=>u=vI 0 /\ H'=[]):=by
 refine aau Tryz.func84 rfl (mc hm mn) (A:=[]) (Ts:=[]) rfl λ w0=>?_;refine ae 18 [.ro 0] λ _=>aam (base+(m:Int)<base) 5 (λ h1=>?_) λ h1=>?_
 ·(exfalso;omega)
 ·refine ae 5 [] λ _=>aai (ur mb cb n A m cap base _ (au hm) hb hl)<|ae 4 [] λ _=>aam (base+(m:Int)>base+(m:Int)) 12 (λ h2=>?_) λ h2=>?_
  ·(exfalso;omega)
  ·refine ae 9 [] λ _=>?_;exact aaq [] [] [] ⟨rfl,rfl⟩
theorem I2(mb cb k:Nat)(M:MemS)(F:HL)(hb:0 <= M.base /\ M.base <= 1000000000)(hc:M.cs.length <= 1000000)(hk:k <= 100000000):Sp Tryz.prog 58 #[vP mb 0,vI (M.base+((0:Nat):Int))] [(mb,.lit [vS cb 0 M.cs.length M.cs.length,.slice none 0 0,vI M.base] 162 (0,0)),(cb,.rows 1 M.cs.length (aE M.cs) 3 (0,0))] F (λ u H'=>u=vI 0 /\ MemH mb ⟨M.cs,[],M.base+((0:Nat):Int)⟩ k H'):=by
 refine aau Tryz.func58 rfl mn (A:=[(mb,.lit [vS cb 0 M.cs.length M.cs.length,.slice none 0 0,vI M.base] 162 (0,0)),(cb,.rows 1 M.cs.length (aE M.cs) 3 (0,0))]) (Ts:=[]) rfl λ w0=>?_;refine ae 10 [] λ _=>aai (nj mb cb M.cs.length none 0 0 M.base _ (aw 0) hb (by omega))<|ai 40 [.own 0,.nw,.own 0,.own 0] [bn ((M.base+((0:Nat):Int))-M.base)] λ _=>aK 28 (congrArg (λ v_=>(vI v_:Value)) (show (M.base+((0:Nat):Int))-M.base=0 by omega))<|ae 18 (aab 2) λ _=>aam (0<(M.base+((0:Nat):Int))-M.base) 38 (λ h1=>?_) λ h1=>?_
 ·(exfalso;omega)
 ·refine ae 8 [] λ _=>aaq [] [0,1] [] (v:=vI 0) (H':=(ap [(mb,.lit [vS cb 0 M.cs.length M.cs.length,.slice none 0 0,vI (M.base+((0:Nat):Int))] 162 (0,0)),(cb,.rows 1 M.cs.length (aE M.cs) 3 (0,0))] [])) ?_;refine⟨rfl,?_⟩;have h_:=MemH.mk (mb:=mb) (M:=⟨M.cs,[],M.base+((0:Nat):Int)⟩) (k:=k) cb none 0 ([]) (aat _ _) hc (by simp;omega);simpa [ap] using h_
theorem I3(mb cb k b o cap:Nat)(M:MemS)(full:List (Int × Int))(F:HL)(hb:0 <= M.base /\ M.base <= 1000000000)(hc:M.cs.length <= 1000000)(hk:k <= 100000000)(hf:full.length=o+cap)(hn:M.lg.length=cap)(hl:M.lg.length <= 100000000):Sp Tryz.prog 58 #[vP mb 0,vI (M.base+(M.lg.length:Int))] [(mb,.lit [vS cb 0 M.cs.length M.cs.length,vS b (o*2) M.lg.length cap,vI M.base] 162 (0,0)),(cb,.rows 1 M.cs.length (aE M.cs) 3 (0,0)),(b,.rows 2 (o+cap) (aL i0 full) 195 (0,0))] F (λ u H'=>u=vI 0 /\ MemH mb ⟨M.cs,[],M.base+(M.lg.length:Int)⟩ k H'):=by
 refine aau Tryz.func58 rfl mn (A:=[(mb,.lit [vS cb 0 M.cs.length M.cs.length,vS b (o*2) M.lg.length cap,vI M.base] 162 (0,0)),(cb,.rows 1 M.cs.length (aE M.cs) 3 (0,0)),(b,.rows 2 (o+cap) (aL i0 full) 195 (0,0))]) (Ts:=[]) rfl λ w0=>?_;refine ae 10 [] λ _=>aai (nj mb cb M.cs.length (some ⟨b,o*2,none⟩) M.lg.length cap M.base _ (aw 0) hb (by omega))<|ai 40 [.own 0,.nw,.own 0,.own 0] [bn ((M.base+(M.lg.length:Int))-M.base)] λ _=>aK 28 (congrArg (λ v_=>(vI v_:Value)) (show (M.base+(M.lg.length:Int))-M.base=(M.lg.length:Int) by omega))<|ai 18 [.sl M.lg.length M.lg.length true,.own 0,.own 0] [(M.lg.length:Int)=((M.lg.length:Nat):Int) /\ M.lg.length=M.lg.length /\ M.lg.length <= M.lg.length /\ M.lg.length <= cap /\ cap=M.lg.length] λ _=>aam ((((M.lg.length-M.lg.length):Nat):Int)<(M.base+(M.lg.length:Int))-M.base) 38 (λ h1=>?_) λ h1=>?_
 ·refine ae 7 [.own 0] λ _=>aap<|jo (A:=none) (B:=(some ⟨b,o*2,none⟩)) (c':=(cap-M.lg.length)) qN ([]:List (Int × Int)) 0 (λ a_ e_=>by cases e_) (m:=(M.lg.length-M.lg.length)) (tx:=160) (by simp) (by simp) (λ e_ he X w hR=>QF (by simp) he) ?_;rintro A2 c3 T4 TH;refine ae 10 [.own 0] λ _=>aaq [] [0,1] [0] (v:=vI 0) (H':=(ap [(mb,.lit [vS cb 0 M.cs.length M.cs.length,.slice A2 0 c3,vI (M.base+(M.lg.length:Int))] 162 (0,0)),(cb,.rows 1 M.cs.length (aE M.cs) 3 (0,0))] [T4])) ?_;refine⟨rfl,?_⟩;have h_:=MemH.mk (mb:=mb) (M:=⟨M.cs,[],M.base+(M.lg.length:Int)⟩) (k:=k) cb A2 c3 T4 TH.sl0 hc (by simp;omega);exact h_
 ·refine ae 8 [] λ _=>aaq [] [0,1,2] [] (v:=vI 0) (H':=(ap [(mb,.lit [vS cb 0 M.cs.length M.cs.length,vS b (o*2) (M.lg.length-M.lg.length) (cap-M.lg.length),vI (M.base+(M.lg.length:Int))] 162 (0,0)),(cb,.rows 1 M.cs.length (aE M.cs) 3 (0,0)),(b,.rows 2 (o+cap) (aL i0 full) 195 (0,0))] [])) ?_;refine⟨rfl,?_⟩;rw[Nat.sub_self];have h_:=MemH.mk (mb:=mb) (M:=⟨M.cs,[],M.base+(M.lg.length:Int)⟩) (k:=k) cb (some ⟨b,o*2,none⟩) (cap-M.lg.length) ([(b,.rows 2 (o+cap) (aL i0 full) 195 (0,0))]) (.inr ⟨b,o,full,rfl,by rw[show o+(cap-M.lg.length)=o+cap by omega];rfl,by omega,aaL _,rfl⟩) hc (by simp;omega);simpa [ap] using h_
theorem I4(mb cb k b o cap:Nat)(M:MemS)(full:List (Int × Int))(F:HL)(hb:0 <= M.base /\ M.base <= 1000000000)(hc:M.cs.length <= 1000000)(hk:k <= 100000000)(hf:full.length=o+cap)(hn:M.lg.length<cap)(hl:M.lg.length <= 100000000):Sp Tryz.prog 58 #[vP mb 0,vI (M.base+(M.lg.length:Int))] [(mb,.lit [vS cb 0 M.cs.length M.cs.length,vS b (o*2) M.lg.length cap,vI M.base] 162 (0,0)),(cb,.rows 1 M.cs.length (aE M.cs) 3 (0,0)),(b,.rows 2 (o+cap) (aL i0 full) 195 (0,0))] F (λ u H'=>u=vI 0 /\ MemH mb ⟨M.cs,[],M.base+(M.lg.length:Int)⟩ k H'):=by
 refine aau Tryz.func58 rfl mn (A:=[(mb,.lit [vS cb 0 M.cs.length M.cs.length,vS b (o*2) M.lg.length cap,vI M.base] 162 (0,0)),(cb,.rows 1 M.cs.length (aE M.cs) 3 (0,0)),(b,.rows 2 (o+cap) (aL i0 full) 195 (0,0))]) (Ts:=[]) rfl λ w0=>?_;refine ae 10 [] λ _=>aai (nj mb cb M.cs.length (some ⟨b,o*2,none⟩) M.lg.length cap M.base _ (aw 0) hb (by omega))<|ai 40 [.own 0,.nw,.own 0,.own 0] [bn ((M.base+(M.lg.length:Int))-M.base)] λ _=>aK 28 (congrArg (λ v_=>(vI v_:Value)) (show (M.base+(M.lg.length:Int))-M.base=(M.lg.length:Int) by omega))<|ai 18 [.sl M.lg.length M.lg.length false,.own 0,.own 0] [(M.lg.length:Int)=((M.lg.length:Nat):Int) /\ M.lg.length=M.lg.length /\ M.lg.length <= M.lg.length /\ M.lg.length <= cap /\ cap≠M.lg.length] λ _=>aam ((((M.lg.length-M.lg.length):Nat):Int)<(M.base+(M.lg.length:Int))-M.base) 38 (λ h1=>?_) λ h1=>?_
 ·refine ae 7 [.own 0] λ _=>aap<|jo (A:=none) (B:=(some ⟨b,(o*2+M.lg.length*2),none⟩)) (c':=(cap-M.lg.length)) qN ([]:List (Int × Int)) 0 (λ a_ e_=>by cases e_) (m:=(M.lg.length-M.lg.length)) (tx:=160) (by simp) (by simp) (λ e_ he X w hR=>QF (by simp) he) ?_;rintro A2 c3 T4 TH;refine ae 10 [.own 0] λ _=>aaq [] [0,1] [0] (v:=vI 0) (H':=(ap [(mb,.lit [vS cb 0 M.cs.length M.cs.length,.slice A2 0 c3,vI (M.base+(M.lg.length:Int))] 162 (0,0)),(cb,.rows 1 M.cs.length (aE M.cs) 3 (0,0))] [T4])) ?_;refine⟨rfl,?_⟩;have h_:=MemH.mk (mb:=mb) (M:=⟨M.cs,[],M.base+(M.lg.length:Int)⟩) (k:=k) cb A2 c3 T4 TH.sl0 hc (by simp;omega);exact h_
 ·refine ae 8 [] λ _=>aaq [] [0,1,2] [] (v:=vI 0) (H':=(ap [(mb,.lit [vS cb 0 M.cs.length M.cs.length,vS b (o*2+M.lg.length*2) (M.lg.length-M.lg.length) (cap-M.lg.length),vI (M.base+(M.lg.length:Int))] 162 (0,0)),(cb,.rows 1 M.cs.length (aE M.cs) 3 (0,0)),(b,.rows 2 (o+cap) (aL i0 full) 195 (0,0))] [])) ?_;refine⟨rfl,?_⟩;rw[Nat.sub_self];have h_:=MemH.mk (mb:=mb) (M:=⟨M.cs,[],M.base+(M.lg.length:Int)⟩) (k:=k) cb (some ⟨b,o*2+M.lg.length*2,none⟩) (cap-M.lg.length) ([(b,.rows 2 (o+cap) (aL i0 full) 195 (0,0))]) (.inr ⟨b,o+M.lg.length,full,by rw[Nat.add_mul];rfl,by rw[show o+M.lg.length+(cap-M.lg.length)=o+cap by omega];rfl,by omega,aaL _,rfl⟩) hc (by simp;omega);simpa [ap] using h_
theorem I5{mb:Nat}{M:MemS}{k k2:Nat}{T:HL}(F:HL)(h:MemH mb M k T)(hb:0 <= M.base /\ M.base <= 1000000000)(hk:k2 <= 100000000):Sp Tryz.prog 58 #[vP mb 0,vI (M.base+(M.lg.length:Int))] (ap [] [T]) F (λ u H'=>∃x,H'=ap [] [x] /\ (u=vI 0 /\ MemH mb ⟨M.cs,[],M.base+(M.lg.length:Int)⟩ k2 x)):=by
 rw[aU];cases h with
 | mk cb A cap Hl hs hc hl =>
  rcases hs with ⟨rfl,rfl,h1,rfl⟩|⟨b,o,full,rfl,rfl,h1,h2,h3⟩
  ·have e:M.lg.length=0:=by rw[h1];rfl
   rw[e];have key:=I2 mb cb k2 M F hb hc hk;exact key.tl
  ·rcases aaZ M.lg.length cap with h4|h4
   ·have key:=I4 mb cb k2 b o cap M full F hb hc hk h1 h4 (by omega);exact key.tl
   ·have key:=I3 mb cb k2 b o cap M full F hb hc hk h1 (by omega) (by omega);exact key.tl
open Go.Shelf
section
variable {r:Option Nat} {P:Program} {N:Nat} {D:List Deferred} {F:HL} {w0:World} {R:HL} {s:Cfg} {Q:Exit -> Act -> World -> Prop} {hards:List Nat} {Rd:HL}
theorem RDO.slA{i:Nat}{A:Option Addr}{n cap l sz:Nat}{li:Int}(hl:li=(l:Int))(h1:l <= n)(h2:n <= cap)(hk:RD r P N D F w0 R hards Rd (zJ N i (.slice (slA A l sz cap) (n-l) (cap-l)) s) Q)
  (h:Q3 P N (tf i s) s=some (A,n,cap,li,sz):=by kernel_rfl) (hx:hards.contains i=false:=by kernel_rfl):RDO r P N D F w0 R hards Rd i s Q:=by
 unfold Q3 at h;split at h
 case h_2=>cases h
 rename_i o q0;split at h
 case h_2=>cases h
 rename_i y hv hp;simp only[Option.some.injEq] at h;rw[h] at hv;clear h;obtain⟨t,x,lo,elem,inf,q1,q2,q3,q4,q5,q6,q7,q8⟩:=wE hv;obtain⟨c,k,L,Bs,Ts⟩:=s;unfold tf at q0;cases c with
 | code c=>cases q0
 | ex c=>cases q0
 | ops _ _=>cases q0
 | drw ops Yr =>
  refine⟨λ hR=>?_⟩;simp only at q0 q3 q5 q6 hp;have Sh:∀v L',eh N o.dst v L=some L' -> zJ N i v ⟨.drw ops Yr,k,L,Bs,Ts⟩=⟨.drw ops (bm Yr i true),k,L',Bs,Ts⟩:=by
   intro v L' hl;unfold zJ;simp only[q0,hl]
  refine(nL (Q:=Q) (by simpa using q0) (σ:=Unit) (λ u _=>u=.slice (slA A l sz cap) (n-l) (cap-l)) (λ _=>ap Bs Ts) hp (λ a hF=>⟨by simp[Region.wanted,q1],λ w aT hB=>?_⟩) (λ _=>⟨λ _=>⟨[],rfl⟩,λ hi=>?_⟩) ?_:RDO r P N D F w0 R hards Rd i ⟨.drw ops Yr,k,L,Bs,Ts⟩ Q).h hR
  ·simp only[aa0] at q3;have e1:=(hF.eval q3.1).trans q5;have e2:=(hF.eval q3.2).trans q6;have k1:=iO (P:=P) (ρ:=a.eval) (lo:=some lo) (hi:=none) (l:=l) (h:=n) (len:=n) (cap:=cap) (by show Dc _ _ _ _;unfold Dc;simp only[e2];exact hl) rfl h1 h2 w;have k2:=λ W=>cZ q7 W;have k3:=λ W=>aG q4 W;unfold di;have he:(execOp a.eval o).run P w=.ok (.value (.slice (slA A l sz cap) (n-l) (cap-l))) w:=by
    rw[show Option.map a.eval none=none from rfl,show Option.map a.eval (some lo)=some (a.eval lo) from rfl] at k1;simp[execOp,q2,Instr.sliceAt,Instr.slice,e1,k3,Go.sizeOf,k2,aa4,k1,slA,q8]
   rw[he];exact⟨(),rfl,aT,Below.refl _ _⟩
  ·have h3:hards.contains i=true:=List.contains_iff_mem.2 hi;rw[hx] at h3;cases h3
  ·rintro u _ rfl L' SC hs;have h3:=hk.h hR;rw[Sh _ L' SC] at h3;exact h3 hs
end
theorem yK(mb cb n:Nat)(A:Option Addr)(m cap:Nat)(base mk:Int)(F:HL)(hm:(mb,.lit [vS cb 0 n n,.slice A m cap,vI base] 162 (0,0))∈F)(hb:0 <= base /\ base <= 1000000000)(hl:m <= 100000000)(h1:base <= mk)(h2:mk <= base+(m:Int)):Sp Tryz.prog 84 #[vP mb 0,vI mk] [] F (λ u H'=>u=vI 0 /\ H'=[]):=by
 refine aau Tryz.func84 rfl (mc hm mn) (A:=[]) (Ts:=[]) rfl λ w0=>?_;refine ae 18 [.ro 0] λ _=>aam (mk<base) 5 (λ h1=>?_) λ h1=>?_
 ·(exfalso;omega)
 ·refine ae 5 [] λ _=>aai (ur mb cb n A m cap base _ (au hm) hb hl)<|ae 4 [] λ _=>aam (mk>base+(m:Int)) 12 (λ h2=>?_) λ h2=>?_
  ·(exfalso;omega)
  ·refine ae 9 [] λ _=>?_;exact aaq [] [] [] ⟨rfl,rfl⟩
abbrev QG(x:Nat × Int × Int):Array Value:=#[vI (x.1:Int),.agg #[vI x.2.1,vI x.2.2]]
def Kj(es:List (Int × Int)):List (Nat × Int × Int):=(List.range es.length).map λ k=>(es.length-1-k,es.getD (es.length-1-k) (0,0))
theorem vT(es:List (Int × Int)):(Kj es).length=es.length:=by simp[Kj]
theorem CO{es:List (Int × Int)}{k:Nat}(h:k<es.length):(Kj es)[k]?=some (es.length-1-k,es.getD (es.length-1-k) (0,0)):=by simp[Kj,h]
theorem I6{es:List (Int × Int)}{i:Nat}{x:Nat × Int × Int}(e:(Kj es)[i]?=some x):i<es.length /\ x=(es.length-1-i,es.getD (es.length-1-i) (0,0)):=by
 have h1:i<es.length:=by have:=(List.getElem?_eq_some_iff.1 e).1;rwa [vT] at this
 rw[CO h1] at e;exact⟨h1,(Option.some.inj e).symm⟩
def mw(cs:List Int)(es:List (Int × Int))(j:Nat):List Int:=gR cs (es.drop (es.length-j))
theorem oy(cs:List Int):∀es:List (Int × Int),(gR cs es).length=cs.length
 | []=>rfl
 | e::es=>by
  show ((gR cs es).set _ _).length=_;rw[List.length_set,oy cs es]
theorem EZ(cs:List Int)(es:List (Int × Int)):mw cs es 0=cs:=by unfold mw;rw[Nat.sub_zero,List.drop_length];rfl
theorem I7(cs:List Int)(es:List (Int × Int)):mw cs es es.length=gR cs es:=by unfold mw;rw[Nat.sub_self];rfl
theorem E0{cs:List Int}{es:List (Int × Int)}{j:Nat}(h:j<es.length):mw cs es (j+1)=(mw cs es j).set (es.getD (es.length-1-j) (0,0)).1.toNat (es.getD (es.length-1-j) (0,0)).2:=by
 have iF:es.length-1-j<es.length:=by omega
 unfold mw;rw[show es.length-(j+1)=es.length-1-j by omega,List.drop_eq_getElem_cons iF,show es.length-1-j+1=es.length-j by omega,aaI,aaT iF];rfl
theorem SlIs.capLe{α:Type}{e:Enc α}{T:TypeId}{l:List α}{A:Option Addr}{cap:Nat}{Hl:HL}(h:SlIs e T l A cap Hl):l.length <= cap:=by
 rcases h with ⟨_,rfl,rfl,_⟩|⟨b,o,full,_,_,h1,h2,h3⟩
 ·exact aaK _
 ·exact h2
theorem jC{α:Type}{l:List α}{i:Nat}(h:i<l.length)(d:α):l.getD i d∈l:=by
 rw[aaI,aaT h];exact List.getElem_mem h
theorem SlIs.take{α:Type}{e:Enc α}{T:TypeId}{l:List α}{A:Option Addr}{cap:Nat}{Hl:HL}(h:SlIs e T l A cap Hl)(k:Nat):SlIs e T (l.take k) A cap Hl:=by
 rcases h with ⟨rfl,rfl,rfl,rfl⟩|⟨b,o,full,h1,h2,h3,h4,h5⟩
 ·rw[List.take_nil];exact aat _ _
 ·refine .inr ⟨b,o,full,h1,h2,h3,by rw[aaQ];omega,?_⟩;rw[aaQ]
  conv=>rhs;rw[<- h5]
  rw[List.take_take]
theorem I8{cs:List Int}{es:List (Int × Int)}{j:Nat}{a b:Int}(h:j<es.length)(e:(a,b)=es.getD (es.length-1-j) (0,0))(h2:a.toNat<cs.length):cT (aE (mw cs es j)) a.toNat 0 (vI b)=aE (mw cs es (j+1)):=by
 rw[fX (by unfold mw;rw[oy];exact h2),E0 h,<- e]
theorem I9(es:List (Int × Int))(A:Option Addr)(c q lp:Nat)(X F:HL)(J:Nat -> HL -> Prop)(Jx:HL -> Prop)(T0:HL)(hn:es.length <= 100000000)(hl:RowL i0 195 F A es.length es)(hq:(q,.lit [.slice A es.length c] 160 (0,0))∈F)(hY:∀i x H Y,(Kj es)[i]?=some x -> J i H -> YL Tryz.prog lp (QG x) H (Y++(X++F)) (λ b H'=>(b=true /\ J (i+1) H') \/ (b=false /\ Jx H')))(UH:J 0 T0):Sp Tryz.prog 127 #[.func (.yield lp) #[] #[],vP q 0] (ap [] [T0]) (X++F) (λ _ H'=>J (Kj es).length H' \/ Jx H'):=by
 refine aau Tryz.func127 rfl (mc (aay _ hq) mn) (A:=[]) (Ts:=[T0]) rfl λ w0=>?_;refine ai 9 [.ro 0,.nw] [bn ((es.length:Int)-1)] λ _=>aK 3 (congrArg (λ v_=>(vI v_:Value)) (show (es.length:Int)-1=(es.length:Int)-1-((0:Nat):Int) by omega))<|aao (σ:=Nat × HL) (λ ⟨k,T_⟩=>⟨[(0,.func (.yield lp) #[] #[]),(1,vP q 0),(3,vI ((es.length:Int)-1-(k:Int)))],[],[T_],k <= es.length /\ J k T_,es.length-k⟩) (0,T0) [] [0] (⟨aaL _,UH⟩) ?_;rintro⟨k,T_⟩ ⟨XA,Sy⟩ S_;refine ae 7 [] λ _=>aam ((es.length:Int)-1-(k:Int) >= 0) 8 (λ h3=>?_) λ h3=>?_
 ·refine ae 11 [.ro 0] λ _=>?_;obtain⟨qx4,Uz,Nx4,fx4,adu,V5,VT,ab7,WM⟩:=(hl.up (X:=X)).at (k:=(es.length-1-k)) (by omega);refine aK 13 (congrArg (λ v_=>(.slice v_ es.length c:Value)) V5)<|RN.ro (λ _=>(mc (aay _ hq) (mc VT mn)))<|ai 2 [.ix (es.length-1-k),.rorow 1 (Uz+(es.length-1-k)) 0,.rorow 1 (Uz+(es.length-1-k)) 1] [((Uz*2+(es.length-1-k)*2)+1)=(Uz+(es.length-1-k))*2+1 /\ (Uz+(es.length-1-k))<Nx4,(Uz*2+(es.length-1-k)*2)=(Uz+(es.length-1-k))*2+0 /\ (Uz+(es.length-1-k))<Nx4,(es.length:Int)-1-(k:Int)=(((es.length-1-k):Nat):Int) /\ (es.length-1-k)<es.length] λ _=>aK 16 (congrArg (λ v_=>(.agg #[vI v_.1,vI v_.2]:Value)) WM)<|aK 12 (congrArg (λ v_=>(vI v_:Value)) (show (es.length:Int)-1-(k:Int)=((es.length-1-k:Nat):Int) by omega))<|aas 0 (hY k (es.length-1-k,es.getD (es.length-1-k) (0,0)) _ _ (CO (by omega)) Sy) ?_;rintro b_ T5 (⟨rfl,Z_⟩|⟨rfl,Z_⟩)
  ·refine ai 12 [.gen,.nw] [bn (((es.length:Int)-1-(k:Int))-1)] λ _=>aK 3 (congrArg (λ v_=>(vI v_:Value)) (show ((es.length:Int)-1-(k:Int))-1=(es.length:Int)-1-((k+1:Nat):Int) by omega)) ?_;refine S_ (k+1,T5) [] [0] ?_
   try dsimp only
   exact⟨⟨by omega,Z_⟩,by omega⟩
  ·refine ae 4 [] λ _=>aaq [] [] [0] (v:=.tuple #[]) (H':=(ap [] [T5])) ?_;rw[aU];exact .inr Z_
 ·refine ae 5 [] λ _=>aaq [] [] [0] (v:=.tuple #[]) (H':=(ap [] [T_])) ?_;rw[aU];obtain rfl:k=es.length:=by omega
  exact .inl (by rw[vT];exact Sy)
theorem LZ(es:List (Int × Int))(n:Nat)(A:Option Addr)(c q:Nat)(F:HL)(hn:es.length <= 100000000)(e:es.length=n)(hl:RowL i0 195 F A n es)(hq:(q,.lit [.slice A n c] 160 (0,0))∈F):It Tryz.prog 127 #[vP q 0] F QG (Kj es):=by
 subst e;intro X l J Jx H0 hY h0;have key:=I9 es A c q l X F J Jx H0 hn hl hq hY h0;rw[aU] at key;exact key
theorem Ja(A:Option Addr)(m c:Nat)(F:HL):Sp Tryz.prog 104 #[.slice A m c] (ap [] []) F (λ u H'=>∃n:Nat,H'=ap [((n+0),.lit [.slice A m c] 160 (0,0))] [] /\ u=.func (.func 127) #[] #[vP (n+0) 0]):=by
 refine aau Tryz.func104 rfl mn (A:=[]) (Ts:=[]) rfl λ w0=>?_;refine ae 12 [] λ n1=>aaq [] [0] [] (v:=.func (.func 127) #[] #[vP (n1+0) 0]) (H':=(ap [((n1+0),.lit [.slice A m c] 160 (0,0))] [])) ?_;exact⟨_,rfl,rfl⟩
theorem Jb(mb cb n0 k cap:Nat)(M:MemS)(A:Option Addr)(Hl F:HL)(hs:SlIs i0 195 M.lg A cap Hl)(hc:M.cs.length <= 1000000)(hl:M.lg.length+k <= 100000000)(hb:0 <= M.base /\ M.base <= 1000000000)(Ta:n0 <= M.lg.length)(Su:∀e∈(M.lg.drop n0),0 <= e.1 /\ e.1<(M.cs.length:Int)):Sp Tryz.prog 82 #[vP mb 0,vI (M.base+(n0:Int))] (ap [(mb,.lit [vS cb 0 M.cs.length M.cs.length,.slice A M.lg.length cap,vI M.base] 162 (0,0)),(cb,.rows 1 M.cs.length (aE M.cs) 3 (0,0))] [Hl]) F (λ u H'=>u=vI 0 /\ MemH mb ⟨gR M.cs (M.lg.drop n0),M.lg.take n0,M.base⟩ k H'):=by
 have ZT:M.lg.length <= cap:=hs.capLe;refine Sp.runM Tryz.func82 rfl mn (A:=[(mb,.lit [vS cb 0 M.cs.length M.cs.length,.slice A M.lg.length cap,vI M.base] 162 (0,0)),(cb,.rows 1 M.cs.length (aE M.cs) 3 (0,0))]) (Ts:=[Hl]) rfl λ w0=>?_;refine ae 11 [.own 0] λ n1=>aai (yK mb cb M.cs.length A M.lg.length cap M.base (M.base+(n0:Int)) _ (aw 1) hb (by omega) (by omega) (by omega))<|ai 25 [.own 0,.own 1,.nw] [bn ((M.base+(n0:Int))-M.base)] λ _=>aK 6 (congrArg (λ v_=>(vI v_:Value)) (show M.base+(n0:Int)-M.base=(n0:Int) by omega))<|ae 6 [.own 0,.own 1] λ _=>RN.slA (A:=A) (n:=M.lg.length) (cap:=cap) (l:=n0) (sz:=2) rfl (by omega) ZT<|aaj (Hp:=[]) (Tp:=[]) [] [] (Ja (slA A n0 2 cap) (M.lg.length-n0) (cap-n0) _) ?_;rintro _ m2 rfl;refine ae 3 [] λ _=>aah 3 (congrArg (λ v_=>(.rows 1 M.cs.length v_ 3 (0,0):Blk)) (show (aE M.cs)=(aE (mw M.cs (M.lg.drop n0) 0)) from (congrArg aE (EZ M.cs (M.lg.drop n0)).symm)))<|RN.range (σ:=Nat) (τ:=Nat × Nat × Int × Int) (encs:=λ (x_:Nat × Int × Int)=>#[vI (x_.1:Int),.agg #[vI x_.2.1,vI x_.2.2]]) (xs:=(Kj (M.lg.drop n0))) (enters_of Tryz.func127 (by kernel_rfl) rfl) (λ m_=>([(cb,.rows 1 M.cs.length (aE (mw M.cs (M.lg.drop n0) m_)) 3 (0,0))],[])) (λ i_ m_=>m_=i_) (λ c_ m_=>False) (λ ⟨m_,p_,a_,b_⟩=>⟨[(2,vP (n1+0) 0),(6,vI (n0:Int)),(8,vP p_ 0)],[(cb,.rows 1 M.cs.length (aE (mw M.cs (M.lg.drop n0) m_)) 3 (0,0)),(p_,.lit [vI a_,vI b_] 195 (0,0))],[],True,0⟩) (λ i_ x_ ⟨m_,p_,a_,b_⟩=>m_=i_ /\ i_<(M.lg.drop n0).length /\ (a_,b_)=(M.lg.drop n0).getD ((M.lg.drop n0).length-1-i_) (0,0)) 0 rfl [3] [] (LZ (M.lg.drop n0) (M.lg.length-n0) _ (cap-n0) (m2+0) _ (by rw[aaR];omega) (by rw[aaR]) (hs.drop (ar 0) rfl (by omega)) (aw 0)) ?_ ?_ ?_ ?_
 ·rintro l_ i_ x_ m_ Y3 w4 hx5 rfl XI;refine ae 4 (aab 2) λ n7=>?_;refine XI (m_,(n7+0),x_.2.1,x_.2.2) [1,0] [] ?_
  try dsimp only
  exact⟨rfl,(I6 hx5).1,by rw[(I6 hx5).2]⟩
 ·rintro l_ i_ x_ ⟨m_,p_,a_,b_⟩ Y8 w9 aki ⟨rfl,ZH,ac0⟩;have ZO:=Su _ (jC (l:=(M.lg.drop n0)) (i:=(M.lg.drop n0).length-1-m_) (by omega) (0,0));rw[<- ac0] at ZO
  replace ZO:0 <= a_ /\ a_<(M.cs.length:Int):=ZO
  refine ae 1 [] λ _=>aal [9] []<|aA [] [0,4,6,1,5,7,2,3,8] [.ro 1,.own 1,.own 1,.ro 2,.ix a_.toNat] [a_=((a_.toNat:Nat):Int) /\ a_.toNat<M.cs.length]<|aae 9 (dM [] [.row 0 a_.toNat 0] [(0+a_.toNat*1)=a_.toNat*1+0 /\ a_.toNat<M.cs.length] λ _=>?_);refine aad<|ae 1 [] λ _=>aah 0 (congrArg (λ v_=>(.rows 1 M.cs.length v_ 3 (0,0):Blk)) (show (cT (aE (mw M.cs (M.lg.drop n0) m_)) a_.toNat 0 (vI b_))=(aE (mw M.cs (M.lg.drop n0) (m_+1))) from (I8 ZH ac0 (by omega))))<|RN.rn (m_+1) [0] [] ?_
  try dsimp only
  first|done|rfl
 ·rintro d11 m_  rfl;refine ae 3 [] λ _=>aal [9] []<|aA [] [0,1,5,2,3,4,6,7,8] [.own 3,.own 3,.own 4,.sl0 n0] [(n0:Int)=((n0:Nat):Int) /\ n0 <= cap]<|aae 9 (aag [] [.own 4] λ _=>?_);refine aad<|ae 6 [] λ _=>RN.retM [d11] [0] [] [3,0] [0] (v:=vI 0) (H':=(ap [(mb,.lit [vS cb 0 M.cs.length M.cs.length,.slice A n0 cap,vI M.base] 162 (0,0)),(cb,.rows 1 M.cs.length (aE (mw M.cs (M.lg.drop n0) (Kj (M.lg.drop n0)).length)) 3 (0,0))] [Hl])) ?_;refine⟨rfl,?_⟩;rw[vT,I7];have h_:=MemH.mk (mb:=mb) (M:=⟨gR M.cs (M.lg.drop n0),M.lg.take n0,M.base⟩) (k:=k) cb A cap Hl (hs.take n0) (by show (gR _ _).length <= _;rw[oy];exact hc) (by rw[aaQ];omega);have YW:(gR M.cs (M.lg.drop n0)).length=M.cs.length:=oy _ _;have Wk:(M.lg.take n0).length=n0:=by rw[aaQ];omega
  dsimp only at h_;rw[YW,Wk] at h_;exact h_
 ·exact λ _ _ _ h=>h.elim
theorem Jc{mb n0 k k2:Nat}{M:MemS}{T:HL}(F:HL)(h:MemH mb M k T)(hk:k2 <= k)(hb:0 <= M.base /\ M.base <= 1000000000)(Ta:n0 <= M.lg.length)(Su:∀e∈(M.lg.drop n0),0 <= e.1 /\ e.1<(M.cs.length:Int)):Sp Tryz.prog 82 #[vP mb 0,vI (M.base+(n0:Int))] (ap [] [T]) F (λ u H'=>∃x,H'=ap [] [x] /\ (u=vI 0 /\ MemH mb ⟨gR M.cs (M.lg.drop n0),M.lg.take n0,M.base⟩ k2 x)):=by
 rw[aU];cases h with
 | mk cb A cap Hl hs hc hl=>exact(Jb mb cb n0 k2 cap M A Hl F hs hc (by omega) hb Ta Su).tl
end Go.Proofs.YtdppjkjbghbnjaaGreatDoor
