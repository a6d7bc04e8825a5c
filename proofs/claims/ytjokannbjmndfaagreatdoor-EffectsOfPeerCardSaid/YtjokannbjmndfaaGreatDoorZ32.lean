import Derived.Test.YtjokannbjmndfaaGreatDoorZ18
import Derived.Test.YtjokannbjmndfaaGreatDoorZ31
import Derived.Test.YtjokannbjmndfaaGreatDoorZ07
set_option linter.all false
set_option maxHeartbeats 4000000
set_option maxRecDepth 100000
namespace Go.Proofs.YtjokannbjmndfaaGreatDoor
open Go.RowKit
variable {A:Option Addr} {F T:HL} {M:MemS} {N bp gb ib ic mb n ni:Nat} {S:Setup} {e:Int} {full xs:List Inp} {j:Nat×Int} (io cap m k:Nat)
abbrev gG(S:Setup)(j:Nat×Int)(n:Nat)(xs:List Inp):Gm:=⟨S,none,fO j.1,0,bW j.1 0,bW j.1 1,bW j.1 2,j.2,0,0,n,0,0,xs,kF j.1⟩
def AtOk(F:HL)(bp:Nat)(t:Int)(j:Nat×Int):Prop:=∀F',(∀x∈F,x∈F')->Sp Tryz.prog 103 #[vP bp 0,vI t] (ap [] []) F' (λ u H'=>∃x:Option Addr×Nat×HL,H'=ap [] [x.2.2]/\(u=.tuple #[vI j.2,.agg #[.slice x.1 (fO j.1) x.2.1,vI (bW j.1 0),vI (bW j.1 1),vI (bW j.1 2)]]/\ClS ld 230 (kF j.1) x.1 x.2.1 x.2.2))
theorem AtOk.mono{F':HL}{t:Int}(h:AtOk F bp t j)(hs:∀x∈F,x∈F'):AtOk F' bp t j:=λ F2 h2=>h F2 λ x hx=>h2 x (hs x hx)
abbrev Sa(x:Eff×Bool):Array Value:=#[.agg #[vI x.1.t,vI x.1.i,vI x.1.k,vI x.1.v,.bool x.2]]
theorem ClS.code{j:Nat}(hj:j<5){c:Nat}{Hl:HL}(h:ClS ld 230 (kF j) A c Hl)(hF:∀x∈Hl,x∈F):CodeIn F (kF j) A (fO j):=by
 have hl:=zG hj;have hb:=wL hj;obtain⟨A0,h⟩:=h;rcases h with ⟨h1,rfl,rfl,rfl⟩|⟨b,rfl,rfl,h3⟩
 ·rw[h1] at hl;rw[<- hl];exact .nil _
 ·exact .mk b c _ (hF _ (eb.2 rfl)) (by rw[<- hl];exact h3) (by omega)
theorem wM{c io:Nat}(hx:∀k,k<n->full.getD (io+k) dI=xs.getD k dI):GEq ⟨S,A,fO j.1,c,bW j.1 0,bW j.1 1,bW j.1 2,j.2,ib,io,n,ic,N,full,kF j.1⟩ (gG S j n xs) :=
 ⟨rfl,λ k hk=>(hx k hk).trans (by rw[abP])⟩
theorem oG{g g0:Gm}(e:GEq g g0)(k:Nat)(hM:MemH mb M (k+20) T)(hg:GmIn F g)(h0:EL M)(Zj:Int)(Ym:g.version=Zj):af1 104 #[.iface 95 (vP mb 0),.agg #[vI g.S.players,vS g.S.bb (g.S.bo*9) g.S.nb g.S.bc,vI g.S.box.x0,vI g.S.box.y0,vI g.S.box.x1,vI g.S.box.y1,.slice g.S.rA g.S.rn g.S.rc,.slice g.S.dA g.S.dn g.S.dc,vI g.S.fog,vI g.S.g.x,vI g.S.g.y,vI g.S.push,vI g.S.drag,vI g.S.rest,vI g.S.rounds,vI g.S.fuel],.agg #[.slice g.cA g.cn g.cc,vI g.e0,vI g.e1,vI g.e2],vI Zj,vS g.ib (g.io*3) g.ni g.ic] (ap [] [T]) F (λ u H'=>∃x,H'=ap [] [x]/\(MemH mb (jg g0 M) k x/\u=.tuple #[.bool (jf g0 M),.agg (aaa (d8 g0 M).e).toArray,.bool ((d8 g0 M).em)])):=by
 have h:=EM k hM hg h0 Ym;rwa [jg,H3 e,we e] at h
theorem M3{q1 q2:Nat}(hj:j.1<5)(hA:AtOk F bp (M.get 0) j)(hg:(gb,.lit (dW S bp mb) 119 (0,0))∈F)(h1:(q1,.lit [vP gb 0] 90 (0,0))∈F)(h2:(q2,.lit [vS ib (io*3) ni ic] 57 (0,0))∈F)(hS:SetIn F S)(hE:cF F)(hI:(ib,.rows 3 N (jM full) 106 (0,0))∈F)(hir:io+ni<=N/\ni<=1000000)(hx:∀k,k<ni->full.getD (io+k) dI=xs.getD k dI)(hM:MemH mb M (k+20*m+20) T)(h0:0<=M.get 0)(V5:dK (gG S j ni xs) (m+1) M)(lp:Nat)(X:HL){J:Nat->HL->Prop}(Jx:HL->Prop){T0:HL}(hY:∀i x H Y,(i7 (gG S j ni xs) (m+1) M)[i]?=some x->J i H->YL Tryz.prog lp (Sa x) H (Y++(X++F)) (λ b H'=>(b=true/\J (i+1) H')\/(b=false/\Jx H')))(W6:J 0 T0):af1 102 #[.func (.yield lp) #[] #[],vP q1 0,vP q2 0] (ap [] [T0,T]) (X++F) (λ _ H'=>∃x:HL×HL,H'=ap [] [x.1,x.2]/\((J (i7 (gG S j ni xs) (m+1) M).length x.1/\MemH mb (fW (gG S j ni xs) (m+1) M) k x.2)\/Jx x.1)):=by
 have hg_:=aaz X hg;have VZ:=aaz X h1;have Ur:=aaz X h2;have hS_:SetIn (X++F) S:=hS.up;have W7:cF (X++F):=aaz X hE;have V7:=aaz X hI;have hA_:AtOk (X++F) bp (M.get 0) j:=hA.mono λ x hx=>aaz X hx;refine QF Tryz.func102 (mc hg_ (mc VZ (mc Ur mn)))<|OG 1<|aak [12] []<|af [] [0,4,1,2,3] [.ro 1,.ro 1,.ro 0]<|aac [] 5 (λ X_=>(sc (AQ hg_) hM (aL 1)))<|fq 6 10 ?_ ?_
 ·refine QP [] (hA_ _ (λ x hx=>aC hx)) ?_;rintro _ ⟨A1,c2,T3⟩ ⟨rfl,Z5⟩;dsimp only at Z5;refine afZ [7,8,9]<|aae 10 (aag [] [] λ n5=>?_);refine afZ [11]<|Sx 12 [] (aab 4)<|QQ 2<|aan (σ:=Nat×Nat×MemS×HL×HL) (λ ⟨r,i_,M_,T_,J_⟩=>⟨[(0,.func (.yield lp) #[] #[]),(1,vP q1 0),(2,vP q2 0),(4,vI j.2),(5,vP (n5+0) 0)],[((n5+0),.lit [.slice A1 (fO j.1) c2,vI (bW j.1 0),vI (bW j.1 1),vI (bW j.1 2)] 80 (0,0))],[T_,J_,T3],i_+(r+1)=m+1/\dK (gG S j ni xs) (r+1) M_/\fW (gG S j ni xs) (r+1) M_=fW (gG S j ni xs) (m+1) M/\MemH mb M_ (k+20*r+20) T_/\(i7 (gG S j ni xs) (m+1) M).drop i_=i7 (gG S j ni xs) (r+1) M_/\J i_ J_,r⟩) (m,0,M,T,T0) [0] [2,1,0] (⟨by omega,V5,rfl,hM,rfl,W6⟩) ?_;rintro⟨r,i_,M_,T_,J_⟩ ⟨hd_,H_,UG,XD,Wj,U1⟩ mt7;refine OG 2<|aak [12,19] []<|af [] [0,5,9,10,11,1,6,2,7,3,8,4] ([.ro 1,.ro 1]++aab 4++[.ro 2,.ro 0,.ro 0,.ro 0,.ro 0,.ro 0,.ro 0,.ro 0,.ro 0,.ro 0,.ro 0,.ro 0,.ro 0,.ro 0,.ro 0,.ro 0,.ro 0,.ro 0])<|fq 12 17 ?_ ?_
  ·refine aaf [] [] [0] (oG (g:=(⟨S,A1,fO j.1,c2,bW j.1 0,bW j.1 1,bW j.1 2,j.2,ib,io,ni,ic,N,full,kF j.1⟩:Gm)) (wM hx) (k+20*r) XD ⟨hS_.up,aC V7,hir,aC W7,Z5.code hj (ar 1)⟩ H_.1 j.2 rfl) ?_;rintro _ T8 ⟨XW,rfl⟩;refine afZ [13,14,15,16]<|aae 17 (aag [] [] λ n10=>?_);refine afZ [18]<|Sx 19 [] (aab 4)<|afZ [20]<|aad<|Sr 7 (aab 4)<|aar 1 (hY i_ ((d8 (gG S j ni xs) M_).e,(d8 (gG S j ni xs) M_).em) _ _ (gN Wj).1 U1) ?_;rintro b_ Ub (⟨rfl,aaw⟩|⟨rfl,aaw⟩)
   ·refine OG 6<|il (jf (gG S j ni xs) M_) 44 (λ Zd=>?_) λ Zd=>?_
    ·refine OG 1<|QI [] [] [0,1] (.tuple #[]) (ap [] [Ub,T8]) ?_;have er:r=0:=by
      rcases H_.2 with ⟨e,_⟩|⟨e,_⟩
      ·exact e
      ·have hh:jf (gG S j ni xs) M_=true:=by assumption
       rw[e] at hh;cases hh
     subst er;have ed:i_+1=(i7 (gG S j ni xs) (m+1) M).length:=by rw[i8];omega
     refine⟨(Ub,T8),rfl,.inl ⟨?_,?_⟩⟩
     ·rw[<- ed];exact aaw
     ·rw[<- UG];exact XW.weak (by omega)
    ·refine ae 3 [] λ _=>?_;have Wh:=H_.2;rcases Wh with ⟨_,e_⟩|⟨_,Wh⟩
     ·exact absurd e_ (by assumption)
     rcases r with _|r
     ·exact Wh.elim
     refine mt7 (r,i_+1,(jg (gG S j ni xs) M_),T8,Ub) [1] [1,0,2] ?_
     try dsimp only
     exact⟨⟨by omega,Wh,UG,XW.weak (by omega),(gN Wj).2,aaw⟩,by omega⟩
   ·refine OG 7<|QI [] [] [0,1] (.tuple #[]) (ap [] [Ub,T8]) ⟨(Ub,T8),rfl,.inr aaw⟩
  ·refine aag [] [] λ n14=>aae 12 (aaf [] [] [0] (oG (g:=(⟨S,A1,fO j.1,c2,bW j.1 0,bW j.1 1,bW j.1 2,j.2,ib,io,ni,ic,N,full,kF j.1⟩:Gm)) (wM hx) (k+20*r) XD ⟨hS_.up,aC V7,hir,aC W7,Z5.code hj (ar 1)⟩ H_.1 j.2 rfl) ?_);rintro _ Vf ⟨Ul,rfl⟩;refine afZ [13,14,15,16,18]<|Sx 19 [] (aab 4)<|afZ [20]<|aad<|Sr 7 (aab 4)<|aar 1 (hY i_ ((d8 (gG S j ni xs) M_).e,(d8 (gG S j ni xs) M_).em) _ _ (gN Wj).1 U1) ?_;rintro b_ V8 (⟨rfl,aav⟩|⟨rfl,aav⟩)
   ·refine OG 6<|il (jf (gG S j ni xs) M_) 44 (λ h19=>?_) λ h19=>?_
    ·refine OG 1<|QI [] [] [0,1] (.tuple #[]) (ap [] [V8,Vf]) ?_;have er:r=0:=by
      rcases H_.2 with ⟨e,_⟩|⟨e,_⟩
      ·exact e
      ·have hh:jf (gG S j ni xs) M_=true:=by assumption
       rw[e] at hh;cases hh
     subst er;have ed:i_+1=(i7 (gG S j ni xs) (m+1) M).length:=by rw[i8];omega
     refine⟨(V8,Vf),rfl,.inl ⟨?_,?_⟩⟩
     ·rw[<- ed];exact aav
     ·rw[<- UG];exact Ul.weak (by omega)
    ·refine ae 3 [] λ _=>?_;have Wh:=H_.2;rcases Wh with ⟨_,e_⟩|⟨_,Wh⟩
     ·exact absurd e_ (by assumption)
     rcases r with _|r
     ·exact Wh.elim
     refine mt7 (r,i_+1,(jg (gG S j ni xs) M_),Vf,V8) [1] [1,0,2] ?_
     try dsimp only
     exact⟨⟨by omega,Wh,UG,Ul.weak (by omega),(gN Wj).2,aav⟩,by omega⟩
   ·refine OG 7<|QI [] [] [0,1] (.tuple #[]) (ap [] [V8,Vf]) ⟨(V8,Vf),rfl,.inr aav⟩
 ·refine aag [] [] λ XN=>aae 6 (QP [] (hA_ _ (λ x hx=>aC hx)) ?_);rintro _ ⟨A21,c22,X1⟩ ⟨rfl,aci⟩;dsimp only at aci;refine afZ [7,8,9,11]<|Sx 12 [] (aab 4)<|QQ 2<|aan (σ:=Nat×Nat×MemS×HL×HL) (λ ⟨r,i_,M_,T_,J_⟩=>⟨[(0,.func (.yield lp) #[] #[]),(1,vP q1 0),(2,vP q2 0),(4,vI j.2),(5,vP (XN+0) 0)],[((XN+0),.lit [.slice A21 (fO j.1) c22,vI (bW j.1 0),vI (bW j.1 1),vI (bW j.1 2)] 80 (0,0))],[T_,J_,X1],i_+(r+1)=m+1/\dK (gG S j ni xs) (r+1) M_/\fW (gG S j ni xs) (r+1) M_=fW (gG S j ni xs) (m+1) M/\MemH mb M_ (k+20*r+20) T_/\(i7 (gG S j ni xs) (m+1) M).drop i_=i7 (gG S j ni xs) (r+1) M_/\J i_ J_,r⟩) (m,0,M,T,T0) [0] [2,1,0] (⟨by omega,V5,rfl,hM,rfl,W6⟩) ?_;rintro⟨r,i_,M_,T_,J_⟩ ⟨hd_,H_,UG,XD,Wj,U1⟩ adw;refine OG 2<|aak [12,19] []<|af [] [0,5,9,10,11,1,6,2,7,3,8,4] ([.ro 1,.ro 1]++aab 4++[.ro 2,.ro 0,.ro 0,.ro 0,.ro 0,.ro 0,.ro 0,.ro 0,.ro 0,.ro 0,.ro 0,.ro 0,.ro 0,.ro 0,.ro 0,.ro 0,.ro 0,.ro 0])<|fq 12 17 ?_ ?_
  ·refine aaf [] [] [0] (oG (g:=(⟨S,A21,fO j.1,c22,bW j.1 0,bW j.1 1,bW j.1 2,j.2,ib,io,ni,ic,N,full,kF j.1⟩:Gm)) (wM hx) (k+20*r) XD ⟨hS_.up,aC V7,hir,aC W7,aci.code hj (ar 1)⟩ H_.1 j.2 rfl) ?_;rintro _ Zh ⟨WN,rfl⟩;refine afZ [13,14,15,16]<|aae 17 (aag [] [] λ n29=>?_);refine afZ [18]<|Sx 19 [] (aab 4)<|afZ [20]<|aad<|Sr 7 (aab 4)<|aar 1 (hY i_ ((d8 (gG S j ni xs) M_).e,(d8 (gG S j ni xs) M_).em) _ _ (gN Wj).1 U1) ?_;rintro b_ T30 (⟨rfl,Z_⟩|⟨rfl,Z_⟩)
   ·refine OG 6<|il (jf (gG S j ni xs) M_) 44 (λ h32=>?_) λ h32=>?_
    ·refine OG 1<|QI [] [] [0,1] (.tuple #[]) (ap [] [T30,Zh]) ?_;have er:r=0:=by
      rcases H_.2 with ⟨e,_⟩|⟨e,_⟩
      ·exact e
      ·have hh:jf (gG S j ni xs) M_=true:=by assumption
       rw[e] at hh;cases hh
     subst er;have ed:i_+1=(i7 (gG S j ni xs) (m+1) M).length:=by rw[i8];omega
     refine⟨(T30,Zh),rfl,.inl ⟨?_,?_⟩⟩
     ·rw[<- ed];exact Z_
     ·rw[<- UG];exact WN.weak (by omega)
    ·refine ae 3 [] λ _=>?_;have Wh:=H_.2;rcases Wh with ⟨_,e_⟩|⟨_,Wh⟩
     ·exact absurd e_ (by assumption)
     rcases r with _|r
     ·exact Wh.elim
     refine adw (r,i_+1,(jg (gG S j ni xs) M_),Zh,T30) [1] [1,0,2] ?_
     try dsimp only
     exact⟨⟨by omega,Wh,UG,WN.weak (by omega),(gN Wj).2,Z_⟩,by omega⟩
   ·refine OG 7<|QI [] [] [0,1] (.tuple #[]) (ap [] [T30,Zh]) ⟨(T30,Zh),rfl,.inr Z_⟩
  ·refine aag [] [] λ n33=>aae 12 (aaf [] [] [0] (oG (g:=(⟨S,A21,fO j.1,c22,bW j.1 0,bW j.1 1,bW j.1 2,j.2,ib,io,ni,ic,N,full,kF j.1⟩:Gm)) (wM hx) (k+20*r) XD ⟨hS_.up,aC V7,hir,aC W7,aci.code hj (ar 1)⟩ H_.1 j.2 rfl) ?_);rintro _ T34 ⟨afa,rfl⟩;refine afZ [13,14,15,16,18]<|Sx 19 [] (aab 4)<|afZ [20]<|aad<|Sr 7 (aab 4)<|aar 1 (hY i_ ((d8 (gG S j ni xs) M_).e,(d8 (gG S j ni xs) M_).em) _ _ (gN Wj).1 U1) ?_;rintro b_ T36 (⟨rfl,Z9⟩|⟨rfl,Z9⟩)
   ·refine OG 6<|il (jf (gG S j ni xs) M_) 44 (λ h38=>?_) λ h38=>?_
    ·refine OG 1<|QI [] [] [0,1] (.tuple #[]) (ap [] [T36,T34]) ?_;have er:r=0:=by
      rcases H_.2 with ⟨e,_⟩|⟨e,_⟩
      ·exact e
      ·have hh:jf (gG S j ni xs) M_=true:=by assumption
       rw[e] at hh;cases hh
     subst er;have ed:i_+1=(i7 (gG S j ni xs) (m+1) M).length:=by rw[i8];omega
     refine⟨(T36,T34),rfl,.inl ⟨?_,?_⟩⟩
     ·rw[<- ed];exact Z9
     ·rw[<- UG];exact afa.weak (by omega)
    ·refine ae 3 [] λ _=>?_;have Wh:=H_.2;rcases Wh with ⟨_,e_⟩|⟨_,Wh⟩
     ·exact absurd e_ (by assumption)
     rcases r with _|r
     ·exact Wh.elim
     refine adw (r,i_+1,(jg (gG S j ni xs) M_),T34,T36) [1] [1,0,2] ?_
     try dsimp only
     exact⟨⟨by omega,Wh,UG,afa.weak (by omega),(gN Wj).2,Z9⟩,by omega⟩
   ·refine OG 7<|QI [] [] [0,1] (.tuple #[]) (ap [] [T36,T34]) ⟨(T36,T34),rfl,.inr Z9⟩
theorem P3{q1 q2:Nat}(hj:j.1<5)(hA:AtOk F bp (M.get 0) j)(hg:(gb,.lit (dW S bp mb) 119 (0,0))∈F)(h1:(q1,.lit [vP gb 0] 90 (0,0))∈F)(h2:(q2,.lit [vS ib (io*3) ni ic] 57 (0,0))∈F)(hS:SetIn F S)(hE:cF F)(hI:(ib,.rows 3 N (jM full) 106 (0,0))∈F)(hir:io+ni<=N/\ni<=1000000)(hx:∀k,k<ni->full.getD (io+k) dI=xs.getD k dI)(hM:MemH mb M (k+20*m+20) T)(h0:0<=M.get 0)(V5:dK (gG S j ni xs) (m+1) M):Sy Tryz.prog 102 #[vP q1 0,vP q2 0] T F Sa (i7 (gG S j ni xs) (m+1) M) (λ T1=>MemH mb (fW (gG S j ni xs) (m+1) M) k T1) (λ _=>True):=by
 intro X l J Jx H0 hY h0';have e:∀A B:HL,ap [] [A,B]=A++B:=λ A B=>by simp[ap]
 have key:=M3 io m k hj hA hg h1 h2 hS hE hI hir hx hM h0 V5 l X Jx hY h0';rw[e] at key;refine key.mono λ u H' h=>?_;obtain⟨x,rfl,h⟩:=h;refine⟨x.1,x.2,e _ _,?_⟩;rcases h with ⟨a,b⟩|a
 ·exact .inl ⟨a,b⟩
 ·exact .inr ⟨a,trivial⟩
theorem zI{k:Nat}(hg:(gb,.lit (dW S bp mb) 119 (0,0))∈F)(hM:MemH mb M k T)(hT:∀x∈T,x∈F)(hl:RowL cT 106 F A n xs)(hn:n<=1000000)(he:dq S.players n xs (M.get 0)=e):af0 66 #[vP gb 0,.slice A n cap] F (vI e):=he▸BM cap hg hM hT hl hn
theorem J4{c0 c1 c2 c3 c4:Value}:SpD Tryz.prog 67 #[c0,c1,c2,c3,c4] (ap [] []) F (λ _ H'=>∃_:Unit,H'=ap [] []/\True):=by
 exact(J3 c0 c1 c2 c3 c4 F).mono λ u H' h=>⟨(),h,trivial⟩
theorem zJ{rs:List Bx}{ds:List Dr} (gb:Nat) (io:Nat) (ic m k:Nat){U:HL}(hj:j.1<5)(hA:AtOk F bp (M.get 0) j)(hU:uH S rs ds U)(hE:cF F)(hI:(ib,.rows 3 N (jM full) 106 (0,0))∈F)(hir:io+ni<=N)(VS:ni<=1000000)(hmb:m<=1000000)(hlen:xs.length=ni)(hx:∀k,k<ni->full.getD (io+k) dI=xs.getD k dI)(hM:MemH mb M (k+20*m+20) T)(h0:0<=M.get 0)(V5:dK (gG S j ni xs) (m+1) M)(hw:dq S.players ni xs (M.get 0)=0):af1 39 #[vP gb 0,vS ib (io*3) ni ic] (ap [(gb,.lit (dW S bp mb) 119 (0,0))] [T,U]) F (λ u H'=>∃x:HL×Option Addr×Nat×HL,H'=ap [(gb,.lit (dW S bp mb) 119 (0,0))] [x.1,U,x.2.2.2]/\(MemH mb (fW (gG S j ni xs) (m+1) M) k x.1/\SlIs aB 112 (effsV (gG S j ni xs) (m+1) M) x.2.1 x.2.2.1 x.2.2.2/\u=.tuple #[.slice x.2.1 (effsV (gG S j ni xs) (m+1) M).length x.2.2.1,vI ((m+1:Nat):Int),vI 0])):=by
 have hl:RowL cT 106 F (some ⟨ib,io*3,none⟩) ni xs:=.rows ib io N full (0,0) ni xs hI hir hlen hx;have Zu:=hM;refine Sp.runM Tryz.func39 rfl mn (A:=[(gb,.lit (dW S bp mb) 119 (0,0))]) (Ts:=[T,U]) rfl λ w0=>ae 13 [.o 3] λ n1=>aah (zI (S:=S) (bp:=bp) (gb:=gb) ic (ay 4) hM (ar 0) hl.up VS hw)<|Sr 18 [.o 3,.o 4]<|aah (yO hM (ar 0))<|ae 7 [.o 0] λ n2=>QX (g:=67) (args:=#[]) (cap:=#[vP (n1+0) 0,vP (n2+0) 0,vP (n1+1) 0,vP (n1+2) 0,vP (n1+3) 0])<|Sr 7 [.o 4]<|Ss (FC gb ib io ni ic) ?_;rintro _ n3 rfl;refine OG 3<|aao<|uh [1,0,2]<|Eo (σ:=Nat×List Eff×Option Addr×Nat×HL) (τ:=(Nat×List Eff×Option Addr×Nat×HL)×Nat×(Eff×Bool)) (encs:=λ (x_:Eff×Bool)=>#[.agg #[vI x_.1.t,vI x_.1.i,vI x_.1.k,vI x_.1.v,.bool x_.2]]) (xs:=(i7 (gG S j ni xs) (m+1) M)) (enters_of Tryz.func102 (by kernel_rfl) rfl) (λ ⟨c_,VF,B_,b_,E_⟩=>([((n1+1),.lit [.slice B_ VF.length b_] 45 (0,0)),((n1+2),.lit [vI (c_:Int)] 3 (0,0))],[E_])) (λ i_ ⟨c_,VF,B_,b_,E_⟩=>c_=i_/\VF=mC ((i7 (gG S j ni xs) (m+1) M).take i_)/\SlIs aB 112 VF B_ b_ E_) (λ c_ ⟨c_,VF,B_,b_,E_⟩=>False) (λ ⟨⟨c_,VF,B_,b_,E_⟩,nn_,y_⟩=>⟨[(4,vP (n1+1) 0),(5,vP (n1+2) 0),(6,vP (n1+3) 0),(9,vP (nn_+0) 0)],[((nn_+0),.lit [vI y_.1.t,vI y_.1.i,vI y_.1.k,vI y_.1.v,.bool y_.2] 161 (0,0)),((n1+1),.lit [.slice B_ VF.length b_] 45 (0,0)),((n1+2),.lit [vI (c_:Int)] 3 (0,0))],[E_],True,0⟩) (λ i_ x_ ⟨⟨c_,VF,B_,b_,E_⟩,nn_,y_⟩=>(c_=i_/\VF=mC ((i7 (gG S j ni xs) (m+1) M).take i_)/\SlIs aB 112 VF B_ b_ E_)/\y_=x_) (0,[],none,0,[]) (⟨rfl,rfl,aas _ _⟩) (ip:=[5,4]) (jp:=[1]) (own:=T) (P3 (bp:=bp) (gb:=gb) (q1:=n3+0) (q2:=n3+1) (ib:=ib) io (N:=N) (ic:=ic) m k (full:=full) hj (hA.mono λ x hx=>aC hx) (ay 5) (ay 1) (ay 0) (hU _ (ar 0)).1 (aC hE) (aC hI) ⟨hir,VS⟩ hx Zu h0 V5) ?_ ?_ ?_ ?_
 ·rintro l_ i_ x_ ⟨c_,VF,B_,b_,E_⟩ Y4 w5 hx6 ⟨Zs,Xl,IT⟩ mt7;refine ae 4 (ow 0 5) λ n8=>mt7 ((c_,VF,B_,b_,E_),n8,x_) [0,1,2] [0] ?_
  try dsimp only
  exact⟨⟨Zs,Xl,IT⟩,rfl⟩
 ·rintro l_ i_ x_ ⟨⟨c_,VF,B_,b_,E_⟩,nn_,y_⟩ Y9 w10 Yl ⟨⟨Zs,Xl,IT⟩,ey_⟩;subst ey_;have aon:i_<m+1:=by have:=(bt.1 Yl).1;rwa [i8] at this
  have aii:VF.length<=i_:=by rw[Xl];have:=yu ((i7 (gG S j ni xs) (m+1) M).take i_);rw[aaN] at this;omega
  refine ah 14 [.o 2,.nw,.o 2,.o 0] [aX ((c_:Int)+1)] λ _=>il (y_.2) 29 (λ UO=>?_) λ UO=>?_
  ·refine ae 6 ([.o 1]++aab 4) λ n13=>gY fI [y_.1] 0 0 rfl IT (by simp;omega) ?_;rintro A14 c15 Zx ⟨ahh,amZ⟩;refine Sr 3 [.o 2]<|RN.bv 3 (congrArg (λ v_=>(.lit [vI v_] 3 (0,0):Blk)) (show ((c_:Int)+1)=((c_+1:Nat):Int) by omega))<|RN.bv 2 (congrArg (λ v_=>(.lit [.slice A14 v_ c15] 45 (0,0):Blk)) (show VF.length+1=(VF++[y_.1]).length by simp))<|RN.rn (c_+1,VF++[y_.1],A14,c15,Zx) [2,3] [0] ?_
   try dsimp only
   exact⟨by omega,by rw[Iu Yl UO,<- Xl],ahh⟩
  ·refine OG 3<|RN.bv 2 (congrArg (λ v_=>(.lit [vI v_] 3 (0,0):Blk)) (show ((c_:Int)+1)=((c_+1:Nat):Int) by omega))<|RN.rn (c_+1,VF,B_,b_,E_) [1,2] [0] ?_
   try dsimp only
   exact⟨by omega,by rw[Mc Yl UO,<- Xl],IT⟩
 ·rintro d19 ⟨c_,VF,B_,b_,E_⟩ Zw ⟨Zs,Xl,IT⟩ aiK;refine OG 3<|aak [0,1,2,3,4] []<|lq (σ:=Unit) (λ _=>⟨[(4,vP (n1+1) 0),(5,vP (n1+2) 0),(6,vP (n1+3) 0)],[(d19,.obj (.deferred (some []))),((n1+1),.lit [.slice B_ VF.length b_] 45 (0,0)),((n1+2),.lit [vI (c_:Int)] 3 (0,0)),((n3+1),.lit [vS ib (io*3) ni ic] 57 (0,0)),((n3+0),.lit [vP gb 0] 90 (0,0)),((n2+0),.lit [vI (aV (M.base+(M.lg.length:Int)))] 3 (0,0)),((n1+3),.lit [vI 0] 35 (0,0)),((n1+0),.lit [vP gb 0] 90 (0,0)),(gb,.lit (dW S bp mb) 119 (0,0))],[E_,Zw,U],True,0⟩) ?_ ?_
  ·rintro⟨⟩;refine OG 1<|NU<|LV.mark 0<|QZ (enters_of Tryz.func67 (by kernel_rfl) rfl) [] [] (J4) ?_;rintro _ _ _;refine LV.ret [.o 0,.o 1,.o 5] [7] [1,2,0] (v:=.tuple #[.slice B_ VF.length b_,vI (c_:Int),vI 0]) (H':=(ap [(gb,.lit (dW S bp mb) 119 (0,0))] [Zw,U,E_])) ?_;have e1:VF=effsV (gG S j ni xs) (m+1) M:=by rw[Xl,ac8,yt]
   have e2:c_=m+1:=by rw[Zs,i8]
   subst e1;subst e2;exact⟨(Zw,B_,b_,E_),rfl,aiK,IT,rfl⟩
  ·intro Yg;refine fq 0 1 ?_ ?_
   ·refine aag [] [.o 1] λ _=>fq 1 2 ?_ ?_
    ·refine aag [] [.o 2] λ _=>Sx 2 [] [.o 1]<|Sx 3 [] [.o 2]<|Sx 4 [] [.o 6]<|Yg () [0,1,2,3,4,5,6,7,8] [0,1,2]
    ·refine aag [] [.o 1] λ _=>Sx 1 [] [.o 2]<|Sx 3 [] [.o 2]<|Sx 4 [] [.o 6]<|Yg () [0,1,2,3,4,5,6,7,8] [0,1,2]
   ·refine aag [] [.o 2] λ _=>Sx 0 [] [.o 1]<|Sx 2 [] [.o 1]<|Sx 3 [] [.o 2]<|Sx 4 [] [.o 6]<|Yg () [0,1,2,3,4,5,6,7,8] [0,1,2]
 ·exact λ _ _ _ _ h _=>h.elim
theorem F1(S:Setup)(bp gb:Nat) (cap:Nat) {k:Nat} (U:HL)(hl:RowL cT 106 F A n xs)(VS:n<=1000000)(hM:MemH mb M k T)(hw:dq S.players n xs (M.get 0)=e)(u_:¬ e=0):af1 39 #[vP gb 0,.slice A n cap] (ap [(gb,.lit (dW S bp mb) 119 (0,0))] [T,U]) F (λ u H'=>H'=ap [(gb,.lit (dW S bp mb) 119 (0,0))] [T,U]/\u=.tuple #[.slice none 0 0,vI 0,vI e]):=by
 refine Sp.runM Tryz.func39 rfl mn (A:=[(gb,.lit (dW S bp mb) 119 (0,0))]) (Ts:=[T,U]) rfl λ w0=>ae 13 [.o 3] λ n1=>aah (zI (S:=S) (bp:=bp) (gb:=gb) cap (ay 4) hM (ar 0) hl.up VS hw)<|OG 9<|ci 14 (nf (abv u_))<|Sr 9 [.o 2,.o 1,.o 0]<|NU<|LV.ret [.o 2,.o 1,.o 0] [4] [0,1] ⟨rfl,rfl⟩
end Go.Proofs.YtjokannbjmndfaaGreatDoor
