import Derived.Test.YtogafelgppjklaaGreatDoorQ08
set_option maxHeartbeats 4000000
set_option maxRecDepth 100000
set_option linter.all false
namespace Go.Proofs.YtogafelgppjklaaGreatDoor
open Go.RowKit
open IntKind
section
variable {A:Option Addr} {F Hl T T0:HL} {J:Nat->HL->Prop} {M N:MemS} {S:Setup} {bp cap cb gb i ia ib ic mb n n0 ni:Nat} {es:List (Int×Int)} {g:Gm} {j:Nat×Int} {xs:List Inp} {xss:List (List Inp)} {α:Type} (m k:Nat)
abbrev gN(S:Setup)(j:Nat×Int)(n:Nat)(xs:List Inp):Gm:=⟨S,none,gt j.1,0,cE j.1 0,cE j.1 1,cE j.1 2,j.2,0,0,n,0,0,xs,kZ j.1⟩
def AtOk(F:HL)(bp:Nat)(t:Int)(j:Nat×Int):Prop:=∀F',(∀x∈F,x∈F')->Sp Tryz.prog 123 #[vP bp 0,vI t] (ap [] []) F' (λ u H'=>∃x:Option Addr×Nat×HL,H'=ap [] [x.2.2]/\(u=.tuple #[vI j.2,.agg #[.slice x.1 (gt j.1) x.2.1,vI (cE j.1 0),vI (cE j.1 1),vI (cE j.1 2)]]/\ClS lF 212 (kZ j.1) x.1 x.2.1 x.2.2))
theorem AtOk.mono{F':HL}{t:Int}(h:AtOk F bp t j)(hs:∀x∈F,x∈F'):AtOk F' bp t j:=λ F2 h2=>h F2 λ x hx=>h2 x (hs x hx)
abbrev So(x:Eff×Bool):Array Value:=#[.agg #[vI x.1.t,vI x.1.i,vI x.1.k,vI x.1.v,.bool x.2]]
theorem ClS.code{j:Nat}(hj:j<5){c:Nat}(h:ClS lF 212 (kZ j) A c Hl)(hF:∀x∈Hl,x∈F):CodeIn F (kZ j) A (gt j):=by
 have hl:=zJ hj;have hb:=wW hj;obtain⟨A0,h⟩:=h;rcases h with ⟨h1,rfl,rfl,rfl⟩|⟨b,rfl,rfl,h3⟩
 ·rw[h1] at hl;rw[<- hl];exact .nil _
 ·exact .mk b c _ (hF _ (jt.2 rfl)) (by rw[<- hl];exact h3) (by omega)
theorem wX{c N:Nat}:GEq ⟨S,A,gt j.1,c,cE j.1 0,cE j.1 1,cE j.1 2,j.2,ib,0,n,ic,N,xs,kZ j.1⟩ (gN S j n xs):=⟨rfl,λ k hk=>rfl⟩
theorem pj{g0:Gm}(e:GEq g g0)(k:Nat)(hM:MemH mb M (k+20) T)(hg:GmIn F g)(h0:EL M)(Wh:Int)(Zo:g.version=Wh):aeo 124 #[.iface 85 (vP mb 0),.agg #[vI g.S.players,vS g.S.bb (g.S.bo*9) g.S.nb g.S.bc,vI g.S.box.x0,vI g.S.box.y0,vI g.S.box.x1,vI g.S.box.y1,.slice g.S.rA g.S.rn g.S.rc,.slice g.S.dA g.S.dn g.S.dc,vI g.S.fog,vI g.S.g.x,vI g.S.g.y,vI g.S.push,vI g.S.drag,vI g.S.rest,vI g.S.rounds,vI g.S.fuel],.agg #[.slice g.cA g.cn g.cc,vI g.e0,vI g.e1,vI g.e2],vI Wh,vS g.ib g.iR g.ni g.ic] (ap [] [T]) F (λ u H'=>∃x,H'=ap [] [x]/\(MemH mb (jH g0 M) k x/\u=.tuple #[.bool (js g0 M),.agg (aaa (eD g0 M).e).toArray,.bool ((eD g0 M).em)])):=by
 have h:=EM k hM hg h0 Zo;rwa [jH,IJ e,wx e] at h
theorem Nt{q1 q2:Nat}(hj:j.1<5)(hA:AtOk F bp (M.get 0) j)(hg:(gb,.lit (gv S bp mb) 125 (0,0))∈F)(h1:(q1,.lit [vP gb 0] 80 (0,0))∈F)(h2:(q2,.lit [vS ib ia ni ic] 25 (0,0))∈F)(hS:SetIn F S)(hE:cU F)(hI:InB F ib ia ni λ k=>xs.getD k dI)(UL:ni<=1000000)(hM:MemH mb M (k+20*m+20) T)(h0:0<=M.get 0)(WL:dR (gN S j ni xs) (m+1) M)(lp:Nat)(X:HL)(Jx:HL->Prop)(hY:∀i x H Y,(ji (gN S j ni xs) (m+1) M)[i]?=some x->J i H->YL Tryz.prog lp (So x) H (Y++(X++F)) (λ b H'=>(b=true/\J (i+1) H')\/(b=false/\Jx H')))(XM:J 0 T0):aeo 122 #[.func (.yield lp) #[] #[],vP q1 0,vP q2 0] (ap [] [T0,T]) (X++F) (λ _ H'=>∃x:HL×HL,H'=ap [] [x.1,x.2]/\((J (ji (gN S j ni xs) (m+1) M).length x.1/\MemH mb (gh (gN S j ni xs) (m+1) M) k x.2)\/Jx x.1)):=by
 have hg_:=aaB X hg;have h1_:=aaB X h1;have UJ:=aaB X h2;have hS_:SetIn (X++F) S:=hS.up;have hE_:cU (X++F):=aaB X hE;have XN:=InB.up (X:=X) hI;have hA_:AtOk (X++F) bp (M.get 0) j:=hA.mono λ x hx=>aaB X hx;refine QS Tryz.func122 (mc hg_ (mc h1_ (mc UJ mn)))<|OU 1<|aap [12] []<|ag [] [0,4,1,2,3] [.ro 1,.ro 1,.ro 0]<|aae [] 5 (λ X_=>(sI (AW hg_) hM (aY 1)))<|dg 6 10 ?_ ?_
 ·refine Q1 [] (hA_ _ (λ x hx=>aC hx)) ?_;rintro _ ⟨A1,c2,T3⟩ ⟨rfl,hc4⟩;dsimp only at hc4;refine aem [7,8,9]<|aag 10 (aai [] [] λ n5=>?_);refine aem [11]<|SV 12 [] (aab 4)<|Q2 2<|aat (σ:=Nat×Nat×MemS×HL×HL) (λ ⟨r,i_,M_,T_,J_⟩=>⟨[(0,.func (.yield lp) #[] #[]),(1,vP q1 0),(2,vP q2 0),(4,vI j.2),(5,vP (n5+0) 0)],[((n5+0),.lit [.slice A1 (gt j.1) c2,vI (cE j.1 0),vI (cE j.1 1),vI (cE j.1 2)] 111 (0,0))],[T_,J_,T3],i_+(r+1)=m+1/\dR (gN S j ni xs) (r+1) M_/\gh (gN S j ni xs) (r+1) M_=gh (gN S j ni xs) (m+1) M/\MemH mb M_ (k+20*r+20) T_/\(ji (gN S j ni xs) (m+1) M).drop i_=ji (gN S j ni xs) (r+1) M_/\J i_ J_,r⟩) (m,0,M,T,T0) [0] [2,1,0] (⟨by omega,WL,rfl,hM,rfl,XM⟩) ?_;rintro⟨r,i_,M_,T_,J_⟩ ⟨hd_,D_,Vm,hM_,WY,VC⟩ XR;refine OU 2<|aap [12,19] []<|ag [] [0,5,9,10,11,1,6,2,7,3,8,4] ([.ro 1,.ro 1]++aab 4++[.ro 2,.ro 0,.ro 0,.ro 0,.ro 0,.ro 0,.ro 0,.ro 0,.ro 0,.ro 0,.ro 0,.ro 0,.ro 0,.ro 0,.ro 0,.ro 0,.ro 0,.ro 0])<|dg 12 17 ?_ ?_
  ·refine aah [] [] [0] (pj (g:=(⟨S,A1,gt j.1,c2,cE j.1 0,cE j.1 1,cE j.1 2,j.2,ib,0,ni,ic,ia,xs,kZ j.1⟩:Gm)) wX (k+20*r) hM_ ⟨hS_.up,XN.z.mono λ x hx=>aC hx,UL,aC hE_,hc4.code hj (ay 1)⟩ D_.1 j.2 rfl) ?_;rintro _ T8 ⟨YP,rfl⟩;refine aem [13,14,15,16]<|aag 17 (aai [] [] λ Wi=>?_);refine aem [18]<|SV 19 [] (aab 4)<|aem [20]<|aaf<|SO 7 (aab 4)<|aax 1 (hY i_ ((eD (gN S j ni xs) M_).e,(eD (gN S j ni xs) M_).em) _ _ (gW WY).1 VC) ?_;rintro b_ UQ (⟨rfl,abu⟩|⟨rfl,abu⟩)
   ·refine OU 6<|cP (js (gN S j ni xs) M_) 44 (λ U8=>?_) λ U8=>?_
    ·refine OU 1<|QV [] [] [0,1] (.tuple #[]) (ap [] [UQ,T8]) ?_;have er:r=0:=by
      rcases D_.2 with ⟨e,_⟩|⟨e,_⟩
      ·exact e
      ·have hh:js (gN S j ni xs) M_=true:=by assumption
       rw[e] at hh;cases hh
     subst er;have ed:i_+1=(ji (gN S j ni xs) (m+1) M).length:=by rw[jj];omega
     refine⟨(UQ,T8),rfl,.inl ⟨?_,?_⟩⟩
     ·rw[<- ed];exact abu
     ·rw[<- Vm];exact YP.weak (by omega)
    ·refine ae 3 [] λ _=>?_;have WW:=D_.2;rcases WW with ⟨_,e_⟩|⟨_,WW⟩
     ·exact absurd e_ (by assumption)
     rcases r with _|r
     ·exact WW.elim
     refine XR (r,i_+1,(jH (gN S j ni xs) M_),T8,UQ) [1] [1,0,2] ?_
     try dsimp only
     exact⟨⟨by omega,WW,Vm,YP.weak (by omega),(gW WY).2,abu⟩,by omega⟩
   ·refine ae 7 [] λ _=>aav [] [] [0,1] (v:=.tuple #[]) ⟨(UQ,T8),rfl,.inr abu⟩
  ·refine aai [] [] λ n14=>aag 12 (aah [] [] [0] (pj (g:=(⟨S,A1,gt j.1,c2,cE j.1 0,cE j.1 1,cE j.1 2,j.2,ib,0,ni,ic,ia,xs,kZ j.1⟩:Gm)) wX (k+20*r) hM_ ⟨hS_.up,XN.z.mono λ x hx=>aC hx,UL,aC hE_,hc4.code hj (ay 1)⟩ D_.1 j.2 rfl) ?_);rintro _ VN ⟨VK,rfl⟩;refine aem [13,14,15,16,18]<|SV 19 [] (aab 4)<|aem [20]<|aaf<|SO 7 (aab 4)<|aax 1 (hY i_ ((eD (gN S j ni xs) M_).e,(eD (gN S j ni xs) M_).em) _ _ (gW WY).1 VC) ?_;rintro b_ W6 (⟨rfl,abt⟩|⟨rfl,abt⟩)
   ·refine OU 6<|cP (js (gN S j ni xs) M_) 44 (λ Wy=>?_) λ Wy=>?_
    ·refine OU 1<|QV [] [] [0,1] (.tuple #[]) (ap [] [W6,VN]) ?_;have er:r=0:=by
      rcases D_.2 with ⟨e,_⟩|⟨e,_⟩
      ·exact e
      ·have hh:js (gN S j ni xs) M_=true:=by assumption
       rw[e] at hh;cases hh
     subst er;have ed:i_+1=(ji (gN S j ni xs) (m+1) M).length:=by rw[jj];omega
     refine⟨(W6,VN),rfl,.inl ⟨?_,?_⟩⟩
     ·rw[<- ed];exact abt
     ·rw[<- Vm];exact VK.weak (by omega)
    ·refine ae 3 [] λ _=>?_;have WW:=D_.2;rcases WW with ⟨_,e_⟩|⟨_,WW⟩
     ·exact absurd e_ (by assumption)
     rcases r with _|r
     ·exact WW.elim
     refine XR (r,i_+1,(jH (gN S j ni xs) M_),VN,W6) [1] [1,0,2] ?_
     try dsimp only
     exact⟨⟨by omega,WW,Vm,VK.weak (by omega),(gW WY).2,abt⟩,by omega⟩
   ·refine ae 7 [] λ _=>aav [] [] [0,1] (v:=.tuple #[]) ⟨(W6,VN),rfl,.inr abt⟩
 ·refine aai [] [] λ Yy=>aag 6 (Q1 [] (hA_ _ (λ x hx=>aC hx)) ?_);rintro _ ⟨A21,c22,Z2⟩ ⟨rfl,ade⟩;dsimp only at ade;refine aem [7,8,9,11]<|SV 12 [] (aab 4)<|Q2 2<|aat (σ:=Nat×Nat×MemS×HL×HL) (λ ⟨r,i_,M_,T_,J_⟩=>⟨[(0,.func (.yield lp) #[] #[]),(1,vP q1 0),(2,vP q2 0),(4,vI j.2),(5,vP (Yy+0) 0)],[((Yy+0),.lit [.slice A21 (gt j.1) c22,vI (cE j.1 0),vI (cE j.1 1),vI (cE j.1 2)] 111 (0,0))],[T_,J_,Z2],i_+(r+1)=m+1/\dR (gN S j ni xs) (r+1) M_/\gh (gN S j ni xs) (r+1) M_=gh (gN S j ni xs) (m+1) M/\MemH mb M_ (k+20*r+20) T_/\(ji (gN S j ni xs) (m+1) M).drop i_=ji (gN S j ni xs) (r+1) M_/\J i_ J_,r⟩) (m,0,M,T,T0) [0] [2,1,0] (⟨by omega,WL,rfl,hM,rfl,XM⟩) ?_;rintro⟨r,i_,M_,T_,J_⟩ ⟨hd_,D_,Vm,hM_,WY,VC⟩ aeD;refine OU 2<|aap [12,19] []<|ag [] [0,5,9,10,11,1,6,2,7,3,8,4] ([.ro 1,.ro 1]++aab 4++[.ro 2,.ro 0,.ro 0,.ro 0,.ro 0,.ro 0,.ro 0,.ro 0,.ro 0,.ro 0,.ro 0,.ro 0,.ro 0,.ro 0,.ro 0,.ro 0,.ro 0,.ro 0])<|dg 12 17 ?_ ?_
  ·refine aah [] [] [0] (pj (g:=(⟨S,A21,gt j.1,c22,cE j.1 0,cE j.1 1,cE j.1 2,j.2,ib,0,ni,ic,ia,xs,kZ j.1⟩:Gm)) wX (k+20*r) hM_ ⟨hS_.up,XN.z.mono λ x hx=>aC hx,UL,aC hE_,ade.code hj (ay 1)⟩ D_.1 j.2 rfl) ?_;rintro _ T27 ⟨YQ,rfl⟩;refine aem [13,14,15,16]<|aag 17 (aai [] [] λ n29=>?_);refine aem [18]<|SV 19 [] (aab 4)<|aem [20]<|aaf<|SO 7 (aab 4)<|aax 1 (hY i_ ((eD (gN S j ni xs) M_).e,(eD (gN S j ni xs) M_).em) _ _ (gW WY).1 VC) ?_;rintro b_ T30 (⟨rfl,abr⟩|⟨rfl,abr⟩)
   ·refine OU 6<|cP (js (gN S j ni xs) M_) 44 (λ h32=>?_) λ h32=>?_
    ·refine OU 1<|QV [] [] [0,1] (.tuple #[]) (ap [] [T30,T27]) ?_;have er:r=0:=by
      rcases D_.2 with ⟨e,_⟩|⟨e,_⟩
      ·exact e
      ·have hh:js (gN S j ni xs) M_=true:=by assumption
       rw[e] at hh;cases hh
     subst er;have ed:i_+1=(ji (gN S j ni xs) (m+1) M).length:=by rw[jj];omega
     refine⟨(T30,T27),rfl,.inl ⟨?_,?_⟩⟩
     ·rw[<- ed];exact abr
     ·rw[<- Vm];exact YQ.weak (by omega)
    ·refine ae 3 [] λ _=>?_;have WW:=D_.2;rcases WW with ⟨_,e_⟩|⟨_,WW⟩
     ·exact absurd e_ (by assumption)
     rcases r with _|r
     ·exact WW.elim
     refine aeD (r,i_+1,(jH (gN S j ni xs) M_),T27,T30) [1] [1,0,2] ?_
     try dsimp only
     exact⟨⟨by omega,WW,Vm,YQ.weak (by omega),(gW WY).2,abr⟩,by omega⟩
   ·refine ae 7 [] λ _=>aav [] [] [0,1] (v:=.tuple #[]) ⟨(T30,T27),rfl,.inr abr⟩
  ·refine aai [] [] λ n33=>aag 12 (aah [] [] [0] (pj (g:=(⟨S,A21,gt j.1,c22,cE j.1 0,cE j.1 1,cE j.1 2,j.2,ib,0,ni,ic,ia,xs,kZ j.1⟩:Gm)) wX (k+20*r) hM_ ⟨hS_.up,XN.z.mono λ x hx=>aC hx,UL,aC hE_,ade.code hj (ay 1)⟩ D_.1 j.2 rfl) ?_);rintro _ T34 ⟨agl,rfl⟩;refine aem [13,14,15,16,18]<|SV 19 [] (aab 4)<|aem [20]<|aaf<|SO 7 (aab 4)<|aax 1 (hY i_ ((eD (gN S j ni xs) M_).e,(eD (gN S j ni xs) M_).em) _ _ (gW WY).1 VC) ?_;rintro b_ T36 (⟨rfl,abq⟩|⟨rfl,abq⟩)
   ·refine OU 6<|cP (js (gN S j ni xs) M_) 44 (λ h38=>?_) λ h38=>?_
    ·refine OU 1<|QV [] [] [0,1] (.tuple #[]) (ap [] [T36,T34]) ?_;have er:r=0:=by
      rcases D_.2 with ⟨e,_⟩|⟨e,_⟩
      ·exact e
      ·have hh:js (gN S j ni xs) M_=true:=by assumption
       rw[e] at hh;cases hh
     subst er;have ed:i_+1=(ji (gN S j ni xs) (m+1) M).length:=by rw[jj];omega
     refine⟨(T36,T34),rfl,.inl ⟨?_,?_⟩⟩
     ·rw[<- ed];exact abq
     ·rw[<- Vm];exact agl.weak (by omega)
    ·refine ae 3 [] λ _=>?_;have WW:=D_.2;rcases WW with ⟨_,e_⟩|⟨_,WW⟩
     ·exact absurd e_ (by assumption)
     rcases r with _|r
     ·exact WW.elim
     refine aeD (r,i_+1,(jH (gN S j ni xs) M_),T34,T36) [1] [1,0,2] ?_
     try dsimp only
     exact⟨⟨by omega,WW,Vm,agl.weak (by omega),(gW WY).2,abq⟩,by omega⟩
   ·refine ae 7 [] λ _=>aav [] [] [0,1] (v:=.tuple #[]) ⟨(T36,T34),rfl,.inr abq⟩
theorem Qk{q1 q2:Nat}(hj:j.1<5)(hA:AtOk F bp (M.get 0) j)(hg:(gb,.lit (gv S bp mb) 125 (0,0))∈F)(h1:(q1,.lit [vP gb 0] 80 (0,0))∈F)(h2:(q2,.lit [vS ib ia ni ic] 25 (0,0))∈F)(hS:SetIn F S)(hE:cU F)(hI:InB F ib ia ni λ k=>xs.getD k dI)(UL:ni<=1000000)(hM:MemH mb M (k+20*m+20) T)(h0:0<=M.get 0)(WL:dR (gN S j ni xs) (m+1) M):SW Tryz.prog 122 #[vP q1 0,vP q2 0] T F So (ji (gN S j ni xs) (m+1) M) (λ T1=>MemH mb (gh (gN S j ni xs) (m+1) M) k T1) (λ _=>True):=by
 intro X l J Jx H0 hY h0';have e:∀A B:HL,ap [] [A,B]=A++B:=λ A B=>by simp[ap]
 have key:=Nt m k hj hA hg h1 h2 hS hE hI UL hM h0 WL l X Jx hY h0';rw[e] at key;refine key.mono λ u H' h=>?_;obtain⟨x,rfl,h⟩:=h;refine⟨x.1,x.2,e _ _,?_⟩;rcases h with ⟨a,b⟩|a
 ·exact .inl ⟨a,b⟩
 ·exact .inr ⟨a,trivial⟩
theorem Ky{e:Int}{k:Nat}(A:Option Addr) (cap:Nat)(hg:(gb,.lit (gv S bp mb) 125 (0,0))∈F)(hM:MemH mb M k T)(hT:∀x∈T,x∈F)(hl:RowB F A n λ k=>xs.getD k dI)(hn:n<=1000000)(he:bm S.players n xs (M.get 0)=e):aen 91 #[vP gb 0,.slice A n cap] F (vI e):=he▸BT A cap xs hg hM hT hl hn
theorem Kz{c0 c1 c2 c3 c4:Value}:SpD Tryz.prog 92 #[c0,c1,c2,c3,c4] (ap [] []) F (λ _ H'=>∃_:Unit,H'=ap [] []/\True):=by
 exact(Kx c0 c1 c2 c3 c4 F).mono λ u H' h=>⟨(),h,trivial⟩
theorem KA{rs:List Bx}{ds:List Dr} (gb:Nat) (ib ia:Nat) (ic m k:Nat){U:HL}(hj:j.1<5)(hA:AtOk F bp (M.get 0) j)(hU:De S rs ds U)(hE:cU F)(hI:InB F ib ia ni λ k=>xs.getD k dI)(UL:ni<=1000000)(hmb:m<=1000000)(hM:MemH mb M (k+20*m+20) T)(h0:0<=M.get 0)(WL:dR (gN S j ni xs) (m+1) M)(hw:bm S.players ni xs (M.get 0)=0):aeo 59 #[vP gb 0,vS ib ia ni ic] (ap [(gb,.lit (gv S bp mb) 125 (0,0))] [T,U]) F (λ u H'=>∃x:HL×Option Addr×Nat×HL,H'=ap [(gb,.lit (gv S bp mb) 125 (0,0))] [x.1,U,x.2.2.2]/\(MemH mb (gh (gN S j ni xs) (m+1) M) k x.1/\SlIs sc 177 (d7 (gN S j ni xs) (m+1) M) x.2.1 x.2.2.1 x.2.2.2/\u=.tuple #[.slice x.2.1 (d7 (gN S j ni xs) (m+1) M).length x.2.2.1,vI ((m+1:Nat):Int),vI 0])):=by
 have hl:=hI.rB;have hM2:=hM;refine Sp.runM Tryz.func59 rfl mn (A:=[(gb,.lit (gv S bp mb) 125 (0,0))]) (Ts:=[T,U]) rfl λ w0=>ae 13 [.o 3] λ n1=>aal (Ky (S:=S) (bp:=bp) (gb:=gb) (some ⟨ib,ia,none⟩) ic (aw 4) hM (ay 0) hl.up UL hw)<|SO 18 [.o 3,.o 4]<|aal (yS hM (ay 0))<|ae 7 [.o 0] λ n2=>Q9 (g:=92) (args:=#[]) (cap:=#[vP (n1+0) 0,vP (n2+0) 0,vP (n1+1) 0,vP (n1+2) 0,vP (n1+3) 0])<|SO 7 [.o 4]<|SP (FN gb ib ia ni ic) ?_;rintro _ n3 rfl;refine OU 3<|aau<|uq [1,0,2]<|Eu (σ:=Nat×List Eff×Option Addr×Nat×HL) (τ:=(Nat×List Eff×Option Addr×Nat×HL)×Nat×(Eff×Bool)) (encs:=λ (x_:Eff×Bool)=>#[.agg #[vI x_.1.t,vI x_.1.i,vI x_.1.k,vI x_.1.v,.bool x_.2]]) (xs:=(ji (gN S j ni xs) (m+1) M)) (enters_of Tryz.func122 (by kernel_rfl) rfl) (λ ⟨c_,Vv,B_,b_,E_⟩=>([((n1+1),.lit [.slice B_ Vv.length b_] 132 (0,0)),((n1+2),.lit [vI (c_:Int)] 3 (0,0))],[E_])) (λ i_ ⟨c_,Vv,B_,b_,E_⟩=>c_=i_/\Vv=m6 ((ji (gN S j ni xs) (m+1) M).take i_)/\SlIs sc 177 Vv B_ b_ E_) (λ c_ ⟨c_,Vv,B_,b_,E_⟩=>False) (λ ⟨⟨c_,Vv,B_,b_,E_⟩,nn_,y_⟩=>⟨[(4,vP (n1+1) 0),(5,vP (n1+2) 0),(6,vP (n1+3) 0),(9,vP (nn_+0) 0)],[((nn_+0),.lit [vI y_.1.t,vI y_.1.i,vI y_.1.k,vI y_.1.v,.bool y_.2] 179 (0,0)),((n1+1),.lit [.slice B_ Vv.length b_] 132 (0,0)),((n1+2),.lit [vI (c_:Int)] 3 (0,0))],[E_],True,0⟩) (λ i_ x_ ⟨⟨c_,Vv,B_,b_,E_⟩,nn_,y_⟩=>(c_=i_/\Vv=m6 ((ji (gN S j ni xs) (m+1) M).take i_)/\SlIs sc 177 Vv B_ b_ E_)/\y_=x_) (0,[],none,0,[]) (⟨rfl,rfl,aay _ _⟩) (ip:=[5,4]) (jp:=[1]) (own:=T) (Qk (bp:=bp) (gb:=gb) (q1:=n3+0) (q2:=n3+1) (ib:=ib) (ia:=ia) (ic:=ic) m k hj (hA.mono λ x hx=>aC hx) (aw 5) (aw 1) (aw 0) (hU _ (ay 0)).1 (aC hE) (hI.mono λ x hx=>aC hx) UL hM2 h0 WL) ?_ ?_ ?_ ?_
 ·rintro l_ i_ x_ ⟨c_,Vv,B_,b_,E_⟩ Y4 w5 hx6 ⟨Yq,he_,U7⟩ XR;refine ae 4 (ow 0 5) λ n8=>XR ((c_,Vv,B_,b_,E_),n8,x_) [0,1,2] [0] ?_
  try dsimp only
  exact⟨⟨Yq,he_,U7⟩,rfl⟩
 ·rintro l_ i_ x_ ⟨⟨c_,Vv,B_,b_,E_⟩,nn_,y_⟩ Y9 w10 acw ⟨⟨Yq,he_,U7⟩,ey_⟩;subst ey_;have aqd:i_<m+1:=by have:=(bt.1 acw).1;rwa [jj] at this
  have ap0:Vv.length<=i_:=by rw[he_];have:=yG ((ji (gN S j ni xs) (m+1) M).take i_);rw[aaL] at this;omega
  refine ah 14 [.o 2,.nw,.o 2,.o 0] [aI ((c_:Int)+1)] λ _=>cP (y_.2) 29 (λ H_=>?_) λ H_=>?_
  ·refine ae 6 ([.o 1]++aab 4) λ n13=>ez HZ [y_.1] 0 0 rfl U7 (by simp;omega) ?_;rintro A14 c15 YX ⟨Xo,aeR⟩;refine SO 3 [.o 2]<|aak 3 (congrArg (λ v_=>(.lit [vI v_] 3 (0,0):Blk)) (show ((c_:Int)+1)=((c_+1:Nat):Int) by omega))<|aak 2 (congrArg (λ v_=>(.lit [.slice A14 v_ c15] 132 (0,0):Blk)) (show Vv.length+1=(Vv++[y_.1]).length by simp))<|RN.rn (c_+1,Vv++[y_.1],A14,c15,YX) [2,3] [0] ?_
   try dsimp only
   exact⟨by omega,by rw[I5 acw H_,<- he_],Xo⟩
  ·refine OU 3<|aak 2 (congrArg (λ v_=>(.lit [vI v_] 3 (0,0):Blk)) (show ((c_:Int)+1)=((c_+1:Nat):Int) by omega))<|RN.rn (c_+1,Vv,B_,b_,E_) [1,2] [0] ?_
   try dsimp only
   exact⟨by omega,by rw[MF acw H_,<- he_],U7⟩
 ·rintro d19 ⟨c_,Vv,B_,b_,E_⟩ YW ⟨Yq,he_,U7⟩ ajT;refine OU 3<|aap [0,1,2,3,4] []<|lM (σ:=Unit) (λ _=>⟨[(4,vP (n1+1) 0),(5,vP (n1+2) 0),(6,vP (n1+3) 0)],[(d19,.obj (.deferred (some []))),((n1+1),.lit [.slice B_ Vv.length b_] 132 (0,0)),((n1+2),.lit [vI (c_:Int)] 3 (0,0)),((n3+1),.lit [vS ib ia ni ic] 25 (0,0)),((n3+0),.lit [vP gb 0] 80 (0,0)),((n2+0),.lit [vI (aR (M.base+(M.lg.length:Int)))] 3 (0,0)),((n1+3),.lit [vI 0] 39 (0,0)),((n1+0),.lit [vP gb 0] 80 (0,0)),(gb,.lit (gv S bp mb) 125 (0,0))],[E_,YW,U],True,0⟩) ?_ ?_
  ·rintro⟨⟩;refine OU 1<|Ra<|LV.mark 0<|Rc (enters_of Tryz.func92 (by kernel_rfl) rfl) [] [] (Kz) ?_;rintro _ _ _;have e1:Vv=d7 (gN S j ni xs) (m+1) M:=by rw[he_,acm,yF]
   have e2:c_=m+1:=by rw[Yq,jj]
   subst e1;subst e2;exact LV.ret [.o 0,.o 1,.o 5] [7] [1,2,0] ⟨(YW,B_,b_,E_),rfl,ajT,U7,rfl⟩
  ·intro Zj;refine dg 0 1 ?_ ?_
   ·refine aai [] [.o 1] λ _=>dg 1 2 ?_ ?_
    ·refine aai [] [.o 2] λ _=>SV 2 [] [.o 1]<|SV 3 [] [.o 2]<|SV 4 [] [.o 6]<|Zj () [0,1,2,3,4,5,6,7,8] [0,1,2]
    ·refine aai [] [.o 1] λ _=>SV 1 [] [.o 2]<|SV 3 [] [.o 2]<|SV 4 [] [.o 6]<|Zj () [0,1,2,3,4,5,6,7,8] [0,1,2]
   ·refine aai [] [.o 2] λ _=>SV 0 [] [.o 1]<|SV 2 [] [.o 1]<|SV 3 [] [.o 2]<|SV 4 [] [.o 6]<|Zj () [0,1,2,3,4,5,6,7,8] [0,1,2]
 ·exact λ _ _ _ _ h _=>h.elim
structure Rw where (A:Option Addr) (n c:Nat)
def jo:Enc Rw:=⟨1,λ p k=>match k with|0=>.slice p.A p.n p.c|_=>default,⟨none,0,0⟩⟩
noncomputable def Sq:TypeInfo:=match Tryz.prog.info? 25 with | some i=>i | none=>⟨.bool,"",0,0,false,0,0,none,false,#[]⟩
noncomputable def Sr:Value:=match Sq.zero with|some z=>z|none=>.bool false
theorem lC:EncOk jo Tryz.prog 25 Sq Sr where
 info:=by kernel_rfl
 zero:=by kernel_rfl
 size:=by kernel_rfl
 zsize:=by kernel_rfl
 zcell:=λ k hk=>by
  have h:∀k<1,Sr.cells[k]?=some (jo.cell jo.dflt k):=by intro k hk;(iterate 1 (rcases k with _|k;· kernel_rfl));omega
  exact h k hk
 one:=λ x k=>by unfold jo;dsimp only;split <;> rfl
 bytes:=aaH (by kernel_rfl)
inductive RwIn(F:HL)(xs:List Inp):Rw->Prop
 |mk (b o N:Nat) (full:List Inp) (c:Nat) (hI:(b,.rows 3 N (xP full) 24 (0,0))∈F) (hir:o+xs.length<=N) (hx:∀k,k<xs.length->full.getD (o+k) dI=xs.getD k dI) (hcap:xs.length<=c):RwIn F xs ⟨some ⟨b,o*3,none⟩,xs.length,c⟩
structure RwsIn(F:HL)(rs:List Rw)(xss:List (List Inp)):Prop where
 len:rs.length=xss.length
 row:∀k,k<rs.length->RwIn F (xss.getD k []) (rs.getD k jo.dflt)
def RwsT(rs:List Rw)(xss:List (List Inp))(T:HL):Prop:=∀F,(∀x∈T,x∈F)->RwsIn F rs xss
theorem RwsIn.get{rs:List Rw}(h:RwsIn F rs xss){k:Nat}(hk:k<rs.length):∃b o N full c,rs.getD k jo.dflt=⟨some ⟨b,o*3,none⟩,(xss.getD k []).length,c⟩/\(b,.rows 3 N (xP full) 24 (0,0))∈F/\o+(xss.getD k []).length<=N/\(∀i,i<(xss.getD k []).length->full.getD (o+i) dI=(xss.getD k []).getD i dI)/\(xss.getD k []).length<=c:=by
 have h1:=h.row k hk;generalize rs.getD k jo.dflt=p at h1 ⊢;cases h1 with
 |mk b o N full c hI hir hx hc=>exact⟨b,o,N,full,c,rfl,hI,hir,hx,hc⟩
theorem SlIs.rw{c:Nat}(h:SlIs bS 24 xs A c T)(hF:∀x∈T,x∈F)(h1:1<=xs.length)(hn:n=xs.length):RwIn F xs ⟨A,n,c⟩:=by
 subst hn;rcases h with ⟨_,_,rfl,_⟩|⟨b,o,full,rfl,rfl,h2,h3,h4⟩
 ·simp at h1
 ·refine .mk b o (o+c) full c (hF _ (jt.2 rfl)) (by omega) (λ k hk=>?_) h3;have h5:((full.drop o).take xs.length)[k]?=xs[k]?:=by rw[h4]
  rw[abe,if_pos hk,abd] at h5;rw[aaG,aaG,h5]
theorem RwsT.nil:RwsT [] [] []:=λ F _=>⟨rfl,λ k hk=>absurd hk (pt _)⟩
theorem gJ(l:List α)(x d:α)(k:Nat):(l++[x]).getD k d=if k<l.length then l.getD k d else if k=l.length then x else d:=by
 rw[aaG,List.getElem?_append];split
 ·rw[aaG]
 ·split
  ·next h=>subst h;simp
  ·rw[vo (by simp;omega)];rfl
theorem RwsT.snoc{rs:List Rw}{T1:HL}{c:Nat}(h:RwsT rs xss T)(hs:SlIs bS 24 xs A c T1)(h1:1<=xs.length)(hn:n=xs.length):RwsT (rs++[⟨A,n,c⟩]) (xss++[xs]) (T++T1):=λ F hF=>by
 have h2:=h F λ x hx=>hF x (aaC _ hx);refine⟨by simp[h2.len],λ k hk=>?_⟩;rw[gJ,gJ,<- h2.len]
 by_cases Wl:k<rs.length
 ·rw[if_pos Wl,if_pos Wl];exact h2.row k Wl
 ·have:k=rs.length:=by simp at hk;omega
  rw[if_neg Wl,if_neg Wl,if_pos this,if_pos this];exact hs.rw (λ x hx=>hF x (aaB _ hx)) h1 hn
theorem OG{m:Nat}(hm:m<=999)(h:dR g (m+1) M):gh g (m+1) M=kP g M/\d7 g (m+1) M=qL g M:=by
 rw[kP,qL,I2 m 1000 M h (by omega)];exact⟨rfl,rfl⟩
def Aw(G:Nat->Gm)(M:MemS):Nat->MemS
 |0=>M
 |k+1=>kP (G k) (Aw G M k)
abbrev Ay(S:Setup)(j:Nat×Int)(xs:List Inp):Gm:=gN S j xs.length xs
abbrev rG(S:Setup)(J:Nat->Nat×Int)(xss:List (List Inp)):Nat->Gm:=λ k=>Ay S (J k) (xss.getD k [])
structure TkOk(S:Setup)(j:Nat×Int)(xs:List Inp)(M:MemS):Prop where
 ex:∃m,m<=999/\dR (Ay S j xs) (m+1) M
 now:0<=M.get 0
 ok:bm S.players xs.length xs (M.get 0)=0
theorem Cj(h:M.cs=N.cs)(i:Int):M.get i=N.get i:=by unfold MemS.get;rw[h]
theorem og(g:Gm)(l:List (Int×Int))(b:Int):∀ (n:Nat) (M:MemS),dR g n (M.sh l b)↔dR g n M
 |0,_=>Iff.rfl
 |n+1,M=>by rw[dR,dR,I1,jH,jH,wA,bB,og g l b n];exact Iff.rfl
theorem Ck(h:M.cs=N.cs)(hg:dR g n M):dR g n N:=by
 rw[<- l8 M,og] at hg;rw[<- l8 N,og,<- h];exact hg
theorem TkOk.cs(e:M.cs=N.cs)(h:TkOk S j xs M):TkOk S j xs N:=by
 obtain⟨m,h1,h2⟩:=h.ex;exact⟨⟨m,h1,Ck e h2⟩,by rw[<- Cj e];exact h.now,by rw[<- Cj e];exact h.ok⟩
theorem zL(g:Gm)(M:MemS):(kP g M).base=M.base:=by
 have h:=congrArg MemS.base (congrArg (kP g) (l8 M));rw[wB] at h;exact h.symm
theorem Gc{m:Nat}{base:Int}(hm:(mb,.lit [vS cb 0 n n,.slice A m cap,vI base] 164 (0,0))∈F)(hb:0<=base/\base<=1000000000)(hl:m<=100000000):aen 89 #[vP mb 0] F (vI (base+(m:Int))):=by
 have h:=yR hm;rwa [cV (by omega)] at h
theorem KB{k:Nat}(h:MemH mb M k T)(hs:∀x∈T,x∈F)(hb:0<=M.base/\M.base<=1000000000):aen 89 #[vP mb 0] F (vI (M.base+(M.lg.length:Int))):=by
 have h1:=h.len2;have h2:=yS h hs;rwa [cV (by omega)] at h2
theorem Sp.tl{P:Program}{f:FuncId}{args:Array Value}{H:HL}{R:Value->HL->Prop}(h:Sp P f args H F R):Sp P f args H F (λ u H'=>∃x,H'=ap [] [x]/\R u x):=h.mono λ u H' h=>⟨H',(br (T:=H')).symm,h⟩
open Go.Shelf
section
variable {r:Option Nat} {P:Program} {N:Nat} {D:List Deferred} {F:HL} {w0:World} {R:HL} {s:Cfg} {Q:Exit->Act->World->Prop} {hards:List Nat} {Rd:HL}
theorem RDO.slA{l sz:Nat}{li:Int}(hl:li=(l:Int))(h1:l<=n)(h2:n<=cap)(hk:RD r P N D F w0 R hards Rd (qI N i (.slice (slA A l sz cap) (n-l) (cap-l)) s) Q)
  (h:SX P N (jd i s) s=some (A,n,cap,li,sz):=by kernel_rfl) (hx:hards.contains i=false:=by kernel_rfl):RDO r P N D F w0 R hards Rd i s Q:=by
 unfold SX at h;split at h
 case h_2=>cases h
 rename_i o q0;split at h
 case h_2=>cases h
 rename_i y hv hp;simp only[de] at h;rw[h] at hv;clear h;obtain⟨t,x,lo,elem,inf,q1,q2,q3,q4,q5,q6,q7,q8⟩:=xO hv;obtain⟨c,k,L,Bs,Ts⟩:=s;unfold jd at q0;cases c with
 |code c=>cases q0
 |ex c=>cases q0
 |ops _ _=>cases q0
 |drw ops li2=>
  refine⟨λ hR=>?_⟩;simp only at q0 q3 q5 q6 hp;have UF:∀v L',dK N o.dst v L=some L'->qI N i v ⟨.drw ops li2,k,L,Bs,Ts⟩=⟨.drw ops (aO li2 i true),k,L',Bs,Ts⟩:=by
   intro v L' hl;unfold qI;simp only[q0,hl]
  refine(jX (Q:=Q) (by simpa using q0) (σ:=Unit) (λ u _=>u=.slice (slA A l sz cap) (n-l) (cap-l)) (λ _=>ap Bs Ts) hp (λ a hF=>⟨by simp[Region.wanted,q1],λ w aT hB=>?_⟩) (λ _=>⟨λ _=>⟨[],rfl⟩,λ hi=>?_⟩) ?_:RDO r P N D F w0 R hards Rd i ⟨.drw ops li2,k,L,Bs,Ts⟩ Q).h hR
  ·simp only[aaW] at q3;have e1:=(hF.eval q3.1).trans q5;have e2:=(hF.eval q3.2).trans q6;have k1:=iY (P:=P) (ρ:=a.eval) (lo:=some lo) (hi:=none) (l:=l) (h:=n) (len:=n) (cap:=cap) (by show Eb _ _ _ _;unfold Eb;simp only[e2];exact hl) rfl h1 h2 w;have k2:=λ W=>cO q7 W;have k3:=λ W=>aG q4 W;unfold cI;have he:(execOp a.eval o).run P w=.ok (.value (.slice (slA A l sz cap) (n-l) (cap-l))) w:=by
    rw[show Option.map a.eval none=none from rfl,show Option.map a.eval (some lo)=some (a.eval lo) from rfl] at k1;simp[execOp,q2,Instr.sliceAt,Instr.slice,e1,k3,Go.sizeOf,k2,aa8,k1,slA,q8]
   rw[he];exact⟨(),rfl,aT,go _ _⟩
  ·have h3:hards.contains i=true:=abC.2 hi;rw[hx] at h3;cases h3
  ·rintro u _ rfl L' Vo hs;have h3:=hk.h hR;rw[UF _ L' Vo] at h3;exact h3 hs
end
theorem zM{m:Nat}{base:Int} (mk:Int)(hm:(mb,.lit [vS cb 0 n n,.slice A m cap,vI base] 164 (0,0))∈F)(hb:0<=base/\base<=1000000000)(hl:m<=100000000)(h1:base<=mk)(h2:mk<=base+(m:Int)):aen 120 #[vP mb 0,vI mk] F (vI 0):=by
 refine QU Tryz.func120 hm<|SO 18 [.ro 0]<|aaq (mk<base) 5 (λ h1=>?_) λ h1=>?_
 ·(exfalso;omega)
 ·refine OU 5<|aal (Gc (aC hm) hb hl)<|OU 4<|aaq (mk>base+(m:Int)) 12 (λ h2=>?_) λ h2=>?_
  ·(exfalso;omega)
  ·refine ae 9 [] λ _=>QW _ _ ⟨rfl,rfl⟩
abbrev Ss(x:Nat×Int×Int):Array Value:=#[vI (x.1:Int),.agg #[vI x.2.1,vI x.2.2]]
def LW(es:List (Int×Int)):List (Nat×Int×Int):=(List.range es.length).map λ k=>(es.length-1-k,es.getD (es.length-1-k) (0,0))
theorem wY(es:List (Int×Int)):(LW es).length=es.length:=by simp[LW]
theorem DP{k:Nat}(h:k<es.length):(LW es)[k]?=some (es.length-1-k,es.getD (es.length-1-k) (0,0)):=by simp[LW,h]
theorem KC{x:Nat×Int×Int}(e:(LW es)[i]?=some x):i<es.length/\x=(es.length-1-i,es.getD (es.length-1-i) (0,0)):=by
 have h1:i<es.length:=by have:=(bt.1 e).1;rwa [wY] at this
 rw[DP h1] at e;exact⟨h1,(abL e).symm⟩
def ng(cs:List Int)(es:List (Int×Int))(j:Nat):List Int:=gX cs (es.drop (es.length-j))
theorem pk(cs:List Int):∀es:List (Int×Int),(gX cs es).length=cs.length
 | []=>rfl
 |e::es=>by
  show ((gX cs es).set _ _).length=_;rw[abE,pk cs es]
theorem Ge(cs:List Int)(es:List (Int×Int)):ng cs es 0=cs:=by unfold ng;rw[aek,aef];rfl
theorem KD(cs:List Int)(es:List (Int×Int)):ng cs es es.length=gX cs es:=by unfold ng;rw[aej];rfl
theorem Gf{cs:List Int}{j:Nat}(h:j<es.length):ng cs es (j+1)=(ng cs es j).set (es.getD (es.length-1-j) (0,0)).1.toNat (es.getD (es.length-1-j) (0,0)).2:=by
 have g_:es.length-1-j<es.length:=by omega
 unfold ng;rw[show es.length-(j+1)=es.length-1-j by omega,eB g_,show es.length-1-j+1=es.length-j by omega,aaG,aaP g_];rfl
theorem SlIs.capLe{e:Enc α}{T:TypeId}{l:List α}(h:SlIs e T l A cap Hl):l.length<=cap:=by
 rcases h with ⟨_,rfl,rfl,_⟩|⟨b,o,full,_,_,h1,h2,h3⟩
 ·exact aaI _
 ·exact h2
theorem jK{l:List α}(h:i<l.length)(d:α):l.getD i d∈l:=by
 rw[aaG,aaP h];exact acY h
theorem SlIs.take{e:Enc α}{T:TypeId}{l:List α}(h:SlIs e T l A cap Hl)(k:Nat):SlIs e T (l.take k) A cap Hl:=by
 rcases h with ⟨rfl,rfl,rfl,rfl⟩|⟨b,o,full,h1,h2,h3,h4,h5⟩
 ·rw[List.take_nil];exact aay _ _
 ·refine .inr ⟨b,o,full,h1,h2,h3,by rw[aaL];omega,?_⟩;rw[aaL]
  conv=>rhs;rw[<- h5]
  rw[adR]
theorem KE{cs:List Int}{j:Nat}{a b:Int}(h:j<es.length)(e:(a,b)=es.getD (es.length-1-j) (0,0))(h2:a.toNat<cs.length):cF (bF (ng cs es j)) a.toNat 0 (vI b)=bF (ng cs es (j+1)):=by
 rw[f9 (by unfold ng;rw[pk];exact h2),Gf h,<- e]
theorem KF{c q:Nat} (lp:Nat)(X:HL)(Jx:HL->Prop)(hn:es.length<=100000000)(hl:RowL rO 218 F A es.length es)(hq:(q,.lit [.slice A es.length c] 162 (0,0))∈F)(hY:∀i x H Y,(LW es)[i]?=some x->J i H->YL Tryz.prog lp (Ss x) H (Y++(X++F)) (λ b H'=>(b=true/\J (i+1) H')\/(b=false/\Jx H')))(XM:J 0 T0):aeo 167 #[.func (.yield lp) #[] #[],vP q 0] (ap [] [T0]) (X++F) (λ _ H'=>J (LW es).length H'\/Jx H'):=by
 refine QS Tryz.func167 (mc (aaB _ hq) mn)<|ah 9 [.ro 0,.nw] [aI ((es.length:Int)-1)] λ _=>aM 3 (congrArg (λ v_=>(vI v_:Value)) (show (es.length:Int)-1=(es.length:Int)-1-((0:Nat):Int) by omega))<|aat (σ:=Nat×HL) (λ ⟨k,T_⟩=>⟨[(0,.func (.yield lp) #[] #[]),(1,vP q 0),(3,vI ((es.length:Int)-1-(k:Int)))],[],[T_],k<=es.length/\J k T_,es.length-k⟩) (0,T0) [] [0] (⟨aaJ _,XM⟩) ?_;rintro⟨k,T_⟩ ⟨hi_,VC⟩ Vx;refine OU 7<|aaq ((es.length:Int)-1-(k:Int)>=0) 8 (λ h3=>?_) λ h3=>?_
 ·refine ae 11 [.ro 0] λ _=>?_;obtain⟨qx4,Yw,Nx4,fx4,akI,aby,aa3,aiH,acX⟩:=(hl.up (X:=X)).at (k:=(es.length-1-k)) (by omega);refine aM 13 (congrArg (λ v_=>(.slice v_ es.length c:Value)) aby)<|RN.ro (λ _=>(mc (aaB _ hq) (mc aa3 mn)))<|ah 2 [.ix (es.length-1-k),.rorow 1 (Yw+(es.length-1-k)) 0,.rorow 1 (Yw+(es.length-1-k)) 1] [((Yw*2+(es.length-1-k)*2)+1)=(Yw+(es.length-1-k))*2+1/\(Yw+(es.length-1-k))<Nx4,(Yw*2+(es.length-1-k)*2)=(Yw+(es.length-1-k))*2+0/\(Yw+(es.length-1-k))<Nx4,(es.length:Int)-1-(k:Int)=(((es.length-1-k):Nat):Int)/\(es.length-1-k)<es.length] λ _=>aM 16 (congrArg (λ v_=>(.agg #[vI v_.1,vI v_.2]:Value)) acX)<|aM 12 (congrArg (λ v_=>(vI v_:Value)) (show (es.length:Int)-1-(k:Int)=((es.length-1-k:Nat):Int) by omega))<|aax 0 (hY k (es.length-1-k,es.getD (es.length-1-k) (0,0)) _ _ (DP (by omega)) VC) ?_;rintro b_ T5 (⟨rfl,hJ6⟩|⟨rfl,hJ6⟩)
  ·refine ah 12 [.gen,.nw] [aI (((es.length:Int)-1-(k:Int))-1)] λ _=>aM 3 (congrArg (λ v_=>(vI v_:Value)) (show ((es.length:Int)-1-(k:Int))-1=(es.length:Int)-1-((k+1:Nat):Int) by omega))<|Vx (k+1,T5) [] [0] ?_
   try dsimp only
   exact⟨⟨by omega,hJ6⟩,by omega⟩
  ·refine OU 4<|QV [] [] [0] (.tuple #[]) (ap [] [T5]) ?_;rw[br];exact .inr hJ6
 ·refine OU 5<|QV [] [] [0] (.tuple #[]) (ap [] [T_]) ?_;rw[br];obtain rfl:k=es.length:=by omega
  exact .inl (by rw[wY];exact VC)
theorem Nw{c q:Nat}(hn:es.length<=100000000)(e:es.length=n)(hl:RowL rO 218 F A n es)(hq:(q,.lit [.slice A n c] 162 (0,0))∈F):It Tryz.prog 167 #[vP q 0] F Ss (LW es):=by
 subst e;intro X l J Jx H0 hY h0;have key:=KF l X Jx hn hl hq hY h0;rw[br] at key;exact key
theorem KG(A:Option Addr)(m c:Nat):aeo 121 #[.slice A m c] (ap [] []) F (λ u H'=>∃n:Nat,H'=ap [((n+0),.lit [.slice A m c] 162 (0,0))] []/\u=.func (.func 167) #[] #[vP (n+0) 0]):=by
 refine QT Tryz.func121<|ae 12 [] λ n1=>QV [] [0] [] (.func (.func 167) #[] #[vP (n1+0) 0]) (ap [((n1+0),.lit [.slice A m c] 162 (0,0))] []) ⟨_,rfl,rfl⟩
theorem KH(mb cb:Nat) (k:Nat)(M:MemS) (F:HL)(hs:SlIs rO 218 M.lg A cap Hl)(hc:M.cs.length<=1000000)(hl:M.lg.length+k<=100000000)(hb:0<=M.base/\M.base<=1000000000)(U2:n0<=M.lg.length)(Vd:∀e∈(M.lg.drop n0),0<=e.1/\e.1<(M.cs.length:Int)):aeo 88 #[vP mb 0,vI (M.base+(n0:Int))] (ap [(mb,.lit [vS cb 0 M.cs.length M.cs.length,.slice A M.lg.length cap,vI M.base] 164 (0,0)),(cb,.rows 1 M.cs.length (bF M.cs) 3 (0,0))] [Hl]) F (λ u H'=>u=vI 0/\MemH mb ⟨gX M.cs (M.lg.drop n0),M.lg.take n0,M.base⟩ k H'):=by
 have ac7:M.lg.length<=cap:=hs.capLe;refine Sp.runM Tryz.func88 rfl mn (A:=[(mb,.lit [vS cb 0 M.cs.length M.cs.length,.slice A M.lg.length cap,vI M.base] 164 (0,0)),(cb,.rows 1 M.cs.length (bF M.cs) 3 (0,0))]) (Ts:=[Hl]) rfl λ w0=>ae 11 [.o 0] λ n1=>aal (zM (mb:=mb) (cb:=cb) (n:=M.cs.length) (A:=A) (m:=M.lg.length) (cap:=cap) (M.base+(n0:Int)) (aw 1) hb (by omega) (by omega) (by omega))<|ah 25 [.o 0,.o 1,.nw] [aI ((M.base+(n0:Int))-M.base)] λ _=>aM 6 (congrArg (λ v_=>(vI v_:Value)) (show M.base+(n0:Int)-M.base=(n0:Int) by omega))<|SO 6 [.o 0,.o 1]<|RN.slA (A:=A) (n:=M.lg.length) (cap:=cap) (l:=n0) (sz:=2) rfl (by omega) ac7<|SP (KG (slA A n0 2 cap) (M.lg.length-n0) (cap-n0)) ?_;rintro _ m2 rfl;refine OU 3<|aak 3 (congrArg (λ v_=>(.rows 1 M.cs.length v_ 3 (0,0):Blk)) (show (bF M.cs)=(bF (ng M.cs (M.lg.drop n0) 0)) from (congrArg bF (Ge M.cs (M.lg.drop n0)).symm)))<|RN.range (σ:=Nat) (τ:=Nat×Nat×Int×Int) (encs:=λ (x_:Nat×Int×Int)=>#[vI (x_.1:Int),.agg #[vI x_.2.1,vI x_.2.2]]) (xs:=(LW (M.lg.drop n0))) (enters_of Tryz.func167 (by kernel_rfl) rfl) (λ m_=>([(cb,.rows 1 M.cs.length (bF (ng M.cs (M.lg.drop n0) m_)) 3 (0,0))],[])) (λ i_ m_=>m_=i_) (λ c_ m_=>False) (λ ⟨m_,p_,a_,b_⟩=>⟨[(2,vP (n1+0) 0),(6,vI (n0:Int)),(8,vP p_ 0)],[(cb,.rows 1 M.cs.length (bF (ng M.cs (M.lg.drop n0) m_)) 3 (0,0)),(p_,.lit [vI a_,vI b_] 218 (0,0))],[],True,0⟩) (λ i_ x_ ⟨m_,p_,a_,b_⟩=>m_=i_/\i_<(M.lg.drop n0).length/\(a_,b_)=(M.lg.drop n0).getD ((M.lg.drop n0).length-1-i_) (0,0)) 0 rfl [3] [] (Nw (c:=cap-n0) (q:=m2+0) (by rw[aaM];omega) (by rw[aaM]) (hs.drop (ay 0) rfl (by omega)) (aw 0)) ?_ ?_ ?_ ?_
 ·rintro l_ i_ x_ m_ Y3 w4 hx5 rfl Yz;refine ae 4 (aab 2) λ n7=>Yz (m_,(n7+0),x_.2.1,x_.2.2) [1,0] [] ?_
  try dsimp only
  exact⟨rfl,(KC hx5).1,by rw[(KC hx5).2]⟩
 ·rintro l_ i_ x_ ⟨m_,p_,a_,b_⟩ Y8 w9 aoR ⟨rfl,aiX,agd⟩;have ac1:=Vd _ (jK (l:=(M.lg.drop n0)) (i:=(M.lg.drop n0).length-1-m_) (by omega) (0,0));rw[<- agd] at ac1
  replace ac1:0<=a_/\a_<(M.cs.length:Int):=ac1
  refine OU 1<|aap [9] []<|aA [] [0,4,6,1,5,7,2,3,8] [.ro 1,.o 1,.o 1,.ro 2,.ix a_.toNat] [a_=((a_.toNat:Nat):Int)/\a_.toNat<M.cs.length]<|aag 9 (fK [] [.row 0 a_.toNat 0] [(0+a_.toNat*1)=a_.toNat*1+0/\a_.toNat<M.cs.length] λ _=>?_);refine Q2 1<|aak 0 (congrArg (λ v_=>(.rows 1 M.cs.length v_ 3 (0,0):Blk)) (show (cF (bF (ng M.cs (M.lg.drop n0) m_)) a_.toNat 0 (vI b_))=(bF (ng M.cs (M.lg.drop n0) (m_+1))) from (KE aiX agd (by omega))))<|RN.rn (m_+1) [0] [] ?_
  try dsimp only
  first|done|rfl
 ·rintro d11 m_ rfl;refine OU 3<|aap [9] []<|aA [] [0,1,5,2,3,4,6,7,8] [.o 3,.o 3,.o 4,.sl0 n0] [(n0:Int)=((n0:Nat):Int)/\n0<=cap]<|SV 9 [] [.o 4]<|Q2 6<|RN.retM [d11] [0] [] [3,0] [0] (v:=vI 0) (H':=(ap [(mb,.lit [vS cb 0 M.cs.length M.cs.length,.slice A n0 cap,vI M.base] 164 (0,0)),(cb,.rows 1 M.cs.length (bF (ng M.cs (M.lg.drop n0) (LW (M.lg.drop n0)).length)) 3 (0,0))] [Hl])) ⟨rfl,?_⟩;rw[wY,KD];have h_:=MemH.mk (mb:=mb) (M:=⟨gX M.cs (M.lg.drop n0),M.lg.take n0,M.base⟩) (k:=k) cb A cap Hl (hs.take n0) (by show (gX _ _).length<=_;rw[pk];exact hc) (by rw[aaL];omega);have e1_:(gX M.cs (M.lg.drop n0)).length=M.cs.length:=pk _ _;have YT:(M.lg.take n0).length=n0:=by rw[aaL];omega
  dsimp only at h_;rw[e1_,YT] at h_;exact h_
 ·exact λ _ _ _ h=>h.elim
theorem KJ{k k2:Nat}(F:HL)(h:MemH mb M k T)(hk:k2<=k)(hb:0<=M.base/\M.base<=1000000000)(U2:n0<=M.lg.length)(Vd:∀e∈(M.lg.drop n0),0<=e.1/\e.1<(M.cs.length:Int)):aeo 88 #[vP mb 0,vI (M.base+(n0:Int))] (ap [] [T]) F (λ u H'=>∃x,H'=ap [] [x]/\(u=vI 0/\MemH mb ⟨gX M.cs (M.lg.drop n0),M.lg.take n0,M.base⟩ k2 x)):=by
 rw[br];cases h with
 |mk cb A cap Hl hs hc hl=>exact(KH mb cb k2 M F hs hc (by omega) hb U2 Vd).tl
end
section
variable {M:MemS} {mk:Int} {n:Nat}
theorem zN(cs:List Int)(a b:List (Int×Int)):gX cs (a++b)=gX (gX cs b) a:=by unfold gX;rw[List.foldr_append]
theorem vz(cs:List Int):∀es:List (Int×Int),(gX cs es).length=cs.length
 | []=>rfl
 |e::es=>by
  show ((gX cs es).set _ _).length=_;rw[abE,vz cs es]
def mm(M:MemS)(n:Nat):MemS:=⟨gX M.cs (M.lg.drop n),M.lg.take n,M.base⟩
def iz(M:MemS)(n:Nat):MemS:=⟨M.cs,M.lg.drop n,M.base+(n:Int)⟩
structure Rst(M:MemS)(mk:Int)(c:List Int):Prop where
 lo:M.base<=mk
 hi:mk<=M.base+(M.lg.length:Int)
 und:gX M.cs (M.lg.drop (mk-M.base).toNat)=c
 ent:∀e∈M.lg.drop (mk-M.base).toNat,0<=e.1/\e.1<(M.cs.length:Int)
theorem Rst.now(M:MemS):Rst M (M.base+(M.lg.length:Int)) M.cs:=by
 have e:(M.base+(M.lg.length:Int)-M.base).toNat=M.lg.length:=by omega
 refine⟨by omega,by omega,?_,?_⟩
 ·rw[e,aef];rfl
 ·rw[e,aef];intro e he;cases he
theorem Rst.tick{c:List Int}(g:Gm)(h:Rst M mk c):Rst (kP g M) mk c:=by
 obtain⟨es,h1,h2,h3⟩:=PH g M;have hl:=h.lo;have hh:=h.hi;have e:(kP g M).lg.drop (mk-M.base).toNat=M.lg.drop (mk-M.base).toNat++es:=by rw[h1,abH (by omega)]
 refine⟨by rw[h2];exact hl,by rw[h1,h2,aaK];omega,?_,?_⟩
 ·rw[h2,e,zN];have:=h3.und;rw[show gX (kP g M).cs es=M.cs from this];exact h.und
 ·rw[h2,e];have hlen:(kP g M).cs.length=M.cs.length:=h3.len;intro x hx;rw[hlen];rcases abM.1 hx with hx|hx
  ·exact h.ent x hx
  ·exact h3.ent x hx
theorem Rst.undo{c:List Int}(h:Rst M mk c)(h1:mk<=M.base+(n:Int))(h2:n<=M.lg.length):Rst (mm M n) mk c:=by
 have hl:=h.lo;have e:M.lg.drop (mk-M.base).toNat=(M.lg.take n).drop (mk-M.base).toNat++M.lg.drop n:=by
  conv=>lhs;rw[<- abg n M.lg]
  rw[abH (by rw[aaL];omega)]
 refine⟨hl,by show mk<=M.base+((M.lg.take n).length:Int);rw[aaL,adY h2];exact h1,?_,?_⟩
 ·show gX (gX M.cs (M.lg.drop n)) ((M.lg.take n).drop (mk-M.base).toNat)=c;rw[<- zN,<- e];exact h.und
 ·intro x hx;show 0<=x.1/\x.1<((gX M.cs (M.lg.drop n)).length:Int);rw[vz];exact h.ent x (by rw[e];exact aaC _ hx)
theorem Rst.disc{c:List Int}(h:Rst M mk c)(h1:M.base+(n:Int)<=mk)(h2:n<=M.lg.length):Rst (iz M n) mk c:=by
 have hh:=h.hi;have hl:=h.lo;have e:(M.lg.drop n).drop (mk-(M.base+(n:Int))).toNat=M.lg.drop (mk-M.base).toNat:=by
  rw[adm];congr 1;omega
 refine⟨h1,by show mk<=M.base+(n:Int)+((M.lg.drop n).length:Int);rw[aaM];omega,?_,?_⟩
 ·show gX M.cs ((M.lg.drop n).drop (mk-(M.base+(n:Int))).toNat)=c;rw[e];exact h.und
 ·show ∀x∈(M.lg.drop n).drop (mk-(M.base+(n:Int))).toNat,_;rw[e];exact h.ent
section
variable {ρ:Type} (g:Nat->ρ->Gm)
def Cm:Nat->List Int->List ρ->List Int
 |_,c,[]=>c
 |t,c,r::V=>Cm (t+1) (kP (g t r) ⟨c,[],0⟩).cs V
def GM:Nat->List Int->List ρ->List (List Eff)
 |_,_,[]=>[]
 |t,c,r::V=>qL (g t r) ⟨c,[],0⟩::GM (t+1) (kP (g t r) ⟨c,[],0⟩).cs V
theorem tj(r:ρ):∀ (V:List ρ) (t:Nat) (c:List Int),Cm g t c (V++[r])=(kP (g (t+V.length) r) ⟨Cm g t c V,[],0⟩).cs
 | [],_,_=>rfl
 |x::V,t,c=>by
  show Cm g (t+1) _ (V++[r])=_;rw[tj r V (t+1)];show _=(kP (g (t+(V.length+1)) r) ⟨Cm g (t+1) _ V,[],0⟩).cs;rw[show t+1+V.length=t+(V.length+1) by omega]
theorem zO(r:ρ):∀ (V:List ρ) (t:Nat) (c:List Int),GM g t c (V++[r])=GM g t c V++[qL (g (t+V.length) r) ⟨Cm g t c V,[],0⟩]
 | [],_,_=>rfl
 |x::V,t,c=>by
  show _::GM g (t+1) _ (V++[r])=_;rw[zO r V (t+1)];show _=_::(GM g (t+1) _ V++[qL (g (t+(V.length+1)) r) ⟨Cm g (t+1) _ V,[],0⟩]);rw[show t+1+V.length=t+(V.length+1) by omega]
theorem DQ:∀ (V:List ρ) (t:Nat) (c:List Int),(GM g t c V).length=V.length
 | [],_,_=>rfl
 |x::V,t,c=>by
  show (GM g (t+1) _ V).length+1=V.length+1;rw[DQ V]
theorem zP:∀ (V:List ρ) (t:Nat) (c:List Int) (n:Nat),(GM g t c V).take n=GM g t c (V.take n)
 | [],_,_,n=>by cases n <;> rfl
 |x::V,t,c,0=>rfl
 |x::V,t,c,n+1=>by
  show _::(GM g (t+1) _ V).take n=_::GM g (t+1) _ (V.take n);rw[zP V]
structure PS(ρ:Type) where
 M:MemS
 a:Nat
 ms:List Int
 rows:List ρ
 ck:Nat
 used:List ρ
 effs:List (List Eff)
 rb:Nat
variable (c0:List Int) (w:Nat)
structure PInv(S:PS ρ)(V:List ρ)(m:Nat):Prop where
 cs:S.M.cs=Cm g 0 c0 V
 effs:S.effs=GM g 0 c0 V
 ck:S.ck<=m
 mV:m<=V.length
 mR:m<=S.rows.length
 eq:V.take m=S.rows.take m
 used:S.used=V.drop S.ck
 win:V.length<=S.rows.length+w
 ring:(S.ms=[]/\V=[])\/(S.ms≠[]/\(S.a+S.ms.length=V.length\/S.a+S.ms.length=V.length+1))
 rst:∀ (i:Nat) (k:Int),S.ms[i]?=some k->Rst S.M k (Cm g 0 c0 (V.take (S.a+i)))
 mono:∀ (i j:Nat) (k l:Int),i<=j->S.ms[i]?=some k->S.ms[j]?=some l->k<=l
 back:S.ms≠[]->S.a<=m
 room:S.ms.length<=w
variable {g c0 w}
variable {S:PS ρ} {V:List ρ} {m:Nat}
theorem tn(M:MemS)(a:Nat):PInv g M.cs w (⟨M,a,[],[],0,[],[],0⟩:PS ρ) [] 0 :=
 ⟨rfl,rfl,aaI _,aaI _,aaI _,rfl,rfl,aaJ _,.inl ⟨rfl,rfl⟩,λ i k h=>(by cases i <;> cases h),λ i j k l _ h=>(by cases i <;> cases h),λ h=>absurd rfl h,aaJ _⟩
def ie(S:PS ρ)(r:ρ):PS ρ:={ S with rows:=S.rows++[r] }
theorem PInv.conf(h:PInv g c0 w S V m)(r:ρ):PInv g c0 w (ie S r) V m:=by
 have h1:=h.mR;refine⟨h.cs,h.effs,h.ck,h.mV,by show m<=(S.rows++[r]).length;rw[aaK];omega,?_,h.used,by show _<=(S.rows++[r]).length+w;rw[aaK];have:=h.win;omega,h.ring,h.rst,h.mono,h.back,h.room⟩;show V.take m=(S.rows++[r]).take m;rw[WF h1];exact h.eq
def zQ(S:PS ρ)(x:Nat):PS ρ:={ S with M:=mm S.M ((S.ms.getD (x-S.a) 0)-S.M.base).toNat,ms:=S.ms.take (x-S.a+1),used:=S.used.take (x-S.ck),effs:=S.effs.take x,rb:=S.rb+1 }
theorem PInv.roll(h:PInv g c0 w S V m){x:Nat}(h1:m<=x)(h2:x<V.length)(h3:∀t,m<=t->t<x->V[t]?=S.rows[t]?)(h4:x<=S.rows.length):PInv g c0 w (zQ S x) (V.take x) x:=by
 have Yp:=h.ck;have hmV:=h.mV;have DO:S.ms≠[]:=by
  rcases h.ring with ⟨_,e⟩|⟨e,_⟩
  ·rw[e] at h2;simp at h2
  ·exact e
 have hba:=h.back DO;have hlen:x-S.a<S.ms.length:=by
  rcases h.ring with ⟨e,_⟩|⟨_,e|e⟩
  ·exact absurd e DO
  ·omega
  ·omega
 obtain⟨mk,XG⟩:∃mk,S.ms[x-S.a]?=some mk:=⟨_,aaP hlen⟩;have hr:=h.rst _ _ XG;have hlo:=hr.lo;have hhi:=hr.hi;have eg:S.ms.getD (x-S.a) 0=mk:=by rw[aaG,XG];rfl
 have ex:S.a+(x-S.a)=x:=by omega
 rw[ex] at hr;have hn:(mk-S.M.base).toNat<=S.M.lg.length:=by omega
 have hn2:S.M.base+((mk-S.M.base).toNat:Int)=mk:=by omega
 have lV:(V.take x).length=x:=by rw[aaL];omega
 refine⟨?_,?_,by show S.ck<=x;omega,by rw[lV];exact aaI _,h4,?_,?_,by rw[lV];show x<=S.rows.length+w;omega,?_,?_,?_,λ _=>by show S.a<=x;omega,by show (S.ms.take _).length<=w;rw[aaL];have:=h.room;omega⟩
 ·show gX S.M.cs (S.M.lg.drop (S.ms.getD (x-S.a) 0-S.M.base).toNat)=_;rw[eg];exact hr.und
 ·show S.effs.take x=_;rw[h.effs,zP]
 ·show (V.take x).take x=S.rows.take x;rw[adR,Nat.min_self];apply abP;intro t;rw[abe,abe];split
  ·next ht=>
   by_cases hm:m<=t
   ·exact h3 t hm ht
   ·have:=congrArg (·[t]?) h.eq;simpa [abe,show t<m by omega] using this
  ·rfl
 ·show S.used.take (x-S.ck)=(V.take x).drop S.ck;rw[h.used,List.drop_take]
 ·right;refine⟨?_,.inr ?_⟩
  ·show S.ms.take (x-S.a+1)≠[];intro e;have:=congrArg List.length e;rw[aaL,adH] at this;omega
  ·show S.a+(S.ms.take (x-S.a+1)).length=_;rw[aaL,lV];omega
 ·intro i k hk;have hk:(S.ms.take (x-S.a+1))[i]?=some k:=hk;rw[abe] at hk;split at hk
  ·next hi=>
   have hri:=h.rst i k hk;have hle:=h.mono i (x-S.a) k mk (by omega) hk XG;have:=hri.undo (n:=(S.ms.getD (x-S.a) 0-S.M.base).toNat) (by rw[eg];omega) (by rw[eg];exact hn);show Rst (mm S.M _) k (Cm g 0 c0 ((V.take x).take (S.a+i)));rw[adR,adY (by omega)];exact this
  ·cases hk
 ·intro i j k l hij hk hl;have hk:(S.ms.take (x-S.a+1))[i]?=some k:=hk;have hl:(S.ms.take (x-S.a+1))[j]?=some l:=hl;rw[abe] at hk hl;split at hk
  ·split at hl
   ·exact h.mono i j k l hij hk hl
   ·cases hl
  ·cases hk
def d8(w:Nat)(S:PS ρ)(now:Nat):PS ρ :=
 if S.ms≠[]/\S.a+S.ms.length=now+1 then S else
 let mk:=S.M.base+(S.M.lg.length:Int)
 let a:=if S.ms=[] then now else S.a
 if w<S.ms.length+1 then { S with M:=iz S.M (((S.ms++[mk]).getD 1 0)-S.M.base).toNat,a:=a+1,ms:=(S.ms++[mk]).drop 1 } else { S with a:=a,ms:=S.ms++[mk] }
def mr(g:Nat->ρ->Gm)(w:Nat)(S:PS ρ)(now:Nat)(r:ρ):PS ρ :=
 { d8 w S now with M:=kP (g now r) (d8 w S now).M,used:=S.used++[r],effs:=S.effs++[qL (g now r) (d8 w S now).M] }
structure PInvP(S:PS ρ)(V:List ρ)(m:Nat):Prop where
 inv:PInv g c0 w S V m
 full:S.ms≠[]/\S.a+S.ms.length=V.length+1
theorem oh(w:Nat)(S:PS ρ)(now:Nat):(d8 w S now).M.cs=S.M.cs/\(d8 w S now).rows=S.rows/\(d8 w S now).ck=S.ck/\(d8 w S now).used=S.used/\(d8 w S now).effs=S.effs/\(d8 w S now).rb=S.rb:=by
 unfold d8;split
 ·exact⟨rfl,rfl,rfl,rfl,rfl,rfl⟩
 ·dsimp only;split <;> exact⟨rfl,rfl,rfl,rfl,rfl,rfl⟩
theorem PInv.push(h:PInv g c0 w S V m)(hw:1<=w)(hm:m=min V.length S.rows.length)(hv:V.length<S.rows.length+w):PInvP (g:=g) (c0:=c0) (w:=w) (d8 w S V.length) V m:=by
 obtain⟨r1,r2,r3,r4,r5,r6⟩:=oh w S V.length
 by_cases hk:S.ms≠[]/\S.a+S.ms.length=V.length+1
 ·have e:d8 w S V.length=S:=by unfold d8;rw[if_pos hk]
  rw[e];exact⟨h,hk⟩
 ·-- one mark more
  have YF:=Rst.now S.M;generalize XG:S.M.base+(S.M.lg.length:Int)=mk at YF;obtain⟨a,ha⟩:∃a,a=if S.ms=[] then V.length else S.a:=⟨_,rfl⟩
  have hal:a+S.ms.length=V.length:=by
   rcases h.ring with ⟨e1,e2⟩|⟨e1,e2|e2⟩
   ·rw[ha,if_pos e1,e1];simp
   ·rw[ha,if_neg e1];exact e2
   ·exact absurd ⟨e1,e2⟩ hk
  have Ym:∀ (i:Nat) (k:Int),(S.ms++[mk])[i]?=some k->Rst S.M k (Cm g 0 c0 (V.take (a+i))):=by
   intro i k hi;rcases aaV i S.ms.length with g_|VT
   ·rw[aaQ g_] at hi;have DO:S.ms≠[]:=by intro e;rw[e] at g_;simp at g_
    have:=h.rst i k hi;rw[ha,if_neg DO];exact this
   ·rw[aaR VT] at hi;have h0:i-S.ms.length=0:=by
     rcases abI (i-S.ms.length) with h0|h0
     ·exact h0
     ·rw[vo (by simp;omega)] at hi;cases hi
    rw[h0] at hi;have e:k=mk:=by simpa using hi.symm
    subst e;rw[show a+i=V.length by omega,acm,<- h.cs];exact YF
  have IF:∀ (i j:Nat) (k l:Int),i<=j->(S.ms++[mk])[i]?=some k->(S.ms++[mk])[j]?=some l->k<=l:=by
   intro i j k l hij hi hj;rcases aaV j S.ms.length with g_|VT
   ·rw[aaQ g_] at hj;rw[aaQ (by omega)] at hi;exact h.mono i j k l hij hi hj
   ·rw[aaR VT] at hj;have h0:j-S.ms.length=0:=by
     rcases abI (j-S.ms.length) with h0|h0
     ·exact h0
     ·rw[vo (by simp;omega)] at hj;cases hj
    rw[h0] at hj;have e:l=mk:=by simpa using hj.symm
    subst e;have:=(Ym i k hi).hi;omega
  by_cases hlen:w<S.ms.length+1
  ·-- the ahH goes
   have e:d8 w S V.length={ S with M:=iz S.M (((S.ms++[mk]).getD 1 0)-S.M.base).toNat,a:=a+1,ms:=(S.ms++[mk]).drop 1 }:=by
    unfold d8;rw[if_neg hk];dsimp only;rw[XG,if_pos hlen,<- ha]
   rw[e];have AT:=h.room;have hl1:1<(S.ms++[mk]).length:=by rw[aaK,abw];omega
   obtain⟨k1,Wl⟩:∃k1,(S.ms++[mk])[1]?=some k1:=⟨_,aaP hl1⟩;have eg:(S.ms++[mk]).getD 1 0=k1:=by rw[aaG,Wl];rfl
   have Z9:=Ym 1 k1 Wl;have hlo:=Z9.lo;have hhi:=Z9.hi;refine⟨⟨h.cs,h.effs,h.ck,h.mV,h.mR,h.eq,h.used,h.win,.inr ⟨?_,.inr ?_⟩,?_,?_,λ _=>?_,?_⟩,?_,?_⟩
   ·intro e2;have e3:((S.ms++[mk]).drop 1).length=0:=congrArg List.length e2;rw[aaM,aaK,abw] at e3;omega
   ·show a+1+((S.ms++[mk]).drop 1).length=_;rw[aaM,aaK,abw];omega
   ·intro i k hi;have hi:((S.ms++[mk]).drop 1)[i]?=some k:=hi;rw[abd] at hi;have h5:=Ym (1+i) k hi;have h6:=IF 1 (1+i) k1 k (by omega) Wl hi;have:=h5.disc (n:=((S.ms++[mk]).getD 1 0-S.M.base).toNat) (by rw[eg];omega) (by rw[eg];omega);show Rst (iz S.M _) k (Cm g 0 c0 (V.take (a+1+i)));rw[show a+1+i=a+(1+i) by omega];exact this
   ·intro i j k l hij hi hj;have hi:((S.ms++[mk]).drop 1)[i]?=some k:=hi;have hj:((S.ms++[mk]).drop 1)[j]?=some l:=hj;rw[abd] at hi hj;exact IF (1+i) (1+j) k l (by omega) hi hj
   ·show a+1<=m;omega
   ·show ((S.ms++[mk]).drop 1).length<=w;rw[aaM,aaK,abw];omega
   ·intro e2;have e3:((S.ms++[mk]).drop 1).length=0:=congrArg List.length e2;rw[aaM,aaK,abw] at e3;omega
   ·show a+1+((S.ms++[mk]).drop 1).length=_;rw[aaM,aaK,abw];omega
  ·have e:d8 w S V.length={ S with a:=a,ms:=S.ms++[mk] }:=by
    unfold d8;rw[if_neg hk];dsimp only;rw[XG,if_neg hlen,<- ha]
   rw[e];refine⟨⟨h.cs,h.effs,h.ck,h.mV,h.mR,h.eq,h.used,h.win,.inr ⟨by simp,.inr ?_⟩,Ym,IF,λ _=>?_,?_⟩,by simp,?_⟩
   ·show a+(S.ms++[mk]).length=_;rw[aaK,abw];omega
   ·show a<=m
    by_cases e0:S.ms=[]
    ·rcases h.ring with ⟨_,e2⟩|⟨e1,_⟩
     ·rw[ha,if_pos e0,e2];simp
     ·exact absurd e0 e1
    ·rw[ha,if_neg e0];exact h.back e0
   ·show (S.ms++[mk]).length<=w;rw[aaK,abw];omega
   ·show a+(S.ms++[mk]).length=_;rw[aaK,abw];omega
theorem PInv.sim(h:PInv g c0 w S V m)(hw:1<=w)(hm:m=min V.length S.rows.length)(hv:V.length<S.rows.length+w)(r:ρ)(hr:V.length<S.rows.length->S.rows[V.length]?=some r):PInv g c0 w (mr g w S V.length r) (V++[r]) (min (V++[r]).length S.rows.length):=by
 obtain⟨r1,r2,r3,r4,r5,r6⟩:=oh w S V.length;obtain⟨hp,DO,Xw⟩:=h.push hw hm hv;unfold mr;generalize d8 w S V.length=S1 at *;have hmR:=h.mR;have Yp:=h.ck;have lV:(V++[r]).length=V.length+1:=by rw[aaK];rfl
 rw[lV];refine⟨?_,?_,by show S1.ck<=_;rw[r3];omega,by rw[lV];omega,by show _<=S1.rows.length;rw[r2];omega,?_,?_,by rw[lV];show _<=S1.rows.length+w;rw[r2];omega,.inr ⟨DO,.inl (by rw[lV];exact Xw)⟩,?_,hp.mono,λ hn=>by have:=hp.back hn;show S1.a<=_;omega,hp.room⟩
 ·show (kP (g V.length r) S1.M).cs=_;rw[tj,abp];exact I4 hp.cs
 ·show S.effs++[qL (g V.length r) S1.M]=_;rw[zO,abp,h.effs];congr 2;exact PE hp.cs
 ·show (V++[r]).take (min (V.length+1) S.rows.length)=S1.rows.take _;rw[r2]
  by_cases g_:V.length<S.rows.length
  ·have e1:min (V.length+1) S.rows.length=V.length+1:=by omega
   have e2:m=V.length:=by omega
   have heq:=h.eq;rw[e2,acm] at heq;rw[e1,abF (by rw[lV];exact aaI _),adO,hr g_,<- heq];rfl
  ·have e1:min (V.length+1) S.rows.length=m:=by omega
   rw[e1,WF (by omega)];exact h.eq
 ·show S.used++[r]=(V++[r]).drop S1.ck;rw[r3,abH (by have:=h.mV;omega),h.used]
 ·intro i k hi;have h5:=(hp.rst i k hi).tick (g V.length r);have hi2:i<S1.ms.length:=(bt.1 hi).1;show Rst (kP (g V.length r) S1.M) k (Cm g 0 c0 ((V++[r]).take (S1.a+i)));rw[WF (by omega)];exact h5
def Ny(S:PS ρ)(now:Nat):PS ρ:={ S with used:=S.used.drop (min now S.rows.length-S.ck),ck:=min now S.rows.length }
theorem PInv.settle(h:PInv g c0 w S V m)(hm:m=min V.length S.rows.length):PInv g c0 w (Ny S V.length) V m:=by
 have Yp:=h.ck;refine⟨h.cs,h.effs,by show min V.length S.rows.length<=m;omega,h.mV,h.mR,h.eq,?_,h.win,h.ring,h.rst,h.mono,h.back,h.room⟩;show S.used.drop (min V.length S.rows.length-S.ck)=V.drop (min V.length S.rows.length);rw[h.used,adm];congr 1;omega
theorem PInv.clean(h:PInv g c0 w S V m)(hc:∀t,m<=t->t<V.length->t<S.rows.length->V[t]?=S.rows[t]?):PInv g c0 w S V (min V.length S.rows.length):=by
 have h1:=h.mV;have h2:=h.mR;have h3:=h.ck;refine⟨h.cs,h.effs,by omega,by omega,by omega,?_,h.used,h.win,h.ring,h.rst,h.mono,λ e=>by have:=h.back e;omega,h.room⟩;apply abP;intro t;rw[abe,abe];split
 ·next ht=>
  by_cases hm:m<=t
  ·exact hc t hm (by omega) (by omega)
  ·have:=congrArg (·[t]?) h.eq;simpa [abe,show t<m by omega] using this
 ·rfl
def wr [DecidableEq ρ](rows:List ρ):Nat->List ρ->Option Nat
 |_,[]=>none
 |t,u::l=>match rows[t]? with
  |none=>none
  |some r=>if u=r then wr rows (t+1) l else some t
theorem DS [DecidableEq ρ]{rows:List ρ}:∀ {l:List ρ} {t:Nat},wr rows t l=none->∀i,i<l.length->t+i<rows.length->l[i]?=rows[t+i]?
 | [],_,_,i,hi,_=>by cases hi
 |u::l,t,h,i,hi,hr=>by
  rw[wr] at h;have ht:t<rows.length:=by omega
  rw[aaP ht] at h;simp only at h;split at h
  ·next e=>
   cases i with
   |zero=>rw[abZ,aaP ht,<- e];rfl
   |succ i=>
    have:=DS h i (by simpa using hi) (by omega);rw[abA,this];congr 1;omega
  ·cases h
theorem wZ [DecidableEq ρ]{rows:List ρ}:∀ {l:List ρ} {t x:Nat},wr rows t l=some x->t<=x/\x<t+l.length/\x<rows.length/\(∀i,t+i<x->l[i]?=rows[t+i]?)/\l[x-t]? ≠rows[x]?
 | [],_,_,h=>by cases h
 |u::l,t,x,h=>by
  rw[wr] at h;split at h
  ·cases h
  ·next r hr=>
   have ht:t<rows.length:=(bt.1 hr).1;split at h
   ·next e=>
    obtain⟨h1,h2,h3,h4,h5⟩:=wZ h;refine⟨by omega,by simp only[aaN];omega,h3,?_,?_⟩
    ·intro i hi;cases i with
     |zero=>rw[abZ,hr,<- e];rfl
     |succ i=>
      rw[abA,h4 i (by omega)];congr 1;omega
    ·rw[show x-t=(x-(t+1))+1 by omega,abA];exact h5
   ·next e=>
    simp only[de] at h;subst h;refine⟨aaI _,by simp,ht,λ i hi=>absurd hi (by omega),?_⟩;rw[aej,hr];intro e2;exact e (by simpa using e2)
def gw(g:Nat->ρ->Gm)(w:Nat)(rf:Nat->ρ):Nat->PS ρ->Nat->PS ρ
 |0,S,_=>S
 |n+1,S,now=>gw g w rf n (mr g w S now (rf now)) (now+1)
def jL(rf:Nat->ρ):Nat->Nat->List ρ
 |0,_=>[]
 |n+1,now=>rf now::jL rf n (now+1)
theorem p7(rf:Nat->ρ):∀ (n now:Nat),(jL rf n now).length=n
 |0,_=>rfl
 |n+1,now=>by rw[jL,aaN,p7 rf n]
theorem gK(S:PS ρ)(now:Nat)(r:ρ):(mr g w S now r).rows=S.rows/\(mr g w S now r).rb=S.rb/\(mr g w S now r).ck=S.ck:=by
 obtain⟨r1,r2,r3,r4,r5,r6⟩:=oh w S now;exact⟨r2,r6,r3⟩
theorem k8(rf:Nat->ρ):∀ (n:Nat) (S:PS ρ) (now:Nat),(gw g w rf n S now).rows=S.rows/\(gw g w rf n S now).rb=S.rb/\(gw g w rf n S now).ck=S.ck
 |0,_,_=>⟨rfl,rfl,rfl⟩
 |n+1,S,now=>by
  rw[gw];obtain⟨h1,h2,h3⟩:=k8 rf n (mr g w S now (rf now)) (now+1);obtain⟨k1,k2,k3⟩:=gK (g:=g) (w:=w) S now (rf now);exact⟨h1.trans k1,h2.trans k2,h3.trans k3⟩
theorem p9(hw:1<=w)(rf:Nat->ρ):∀ (n:Nat) (S:PS ρ) (V:List ρ),PInv g c0 w S V (min V.length S.rows.length)->V.length+n<=S.rows.length+w->(∀t,t<S.rows.length->S.rows[t]?=some (rf t))->
  PInv g c0 w (gw g w rf n S V.length) (V++jL rf n V.length) (min (V.length+n) S.rows.length)
 |0,S,V,h,_,_=>by rw[gw,jL,ace];exact h
 |n+1,S,V,h,hn,hr=>by
  rw[gw,jL];obtain⟨k1,k2,k3⟩:=gK (g:=g) (w:=w) S V.length (rf V.length);have h1:=h.sim hw rfl (by omega) (rf V.length) (hr V.length);have lV:(V++[rf V.length]).length=V.length+1:=by rw[aaK];rfl
  have h2:=p9 hw rf n (mr g w S V.length (rf V.length)) (V++[rf V.length]) (by rw[k1];exact h1) (by rw[k1,lV];omega) (by rw[k1];exact hr);rw[lV,k1,aaF] at h2;rw[show V.length+(n+1)=V.length+1+n by omega];exact h2
def adv1 [DecidableEq ρ](S:PS ρ):PS ρ:=match wr S.rows S.ck S.used with
 |some x=>zQ S x
 |none=>S
def fl [DecidableEq ρ](S:PS ρ)(now:Nat):Nat:=(wr S.rows S.ck S.used).getD now
def Cn [DecidableEq ρ](g:Nat->ρ->Gm)(w:Nat)(S:PS ρ)(now T:Nat)(rf:Nat->ρ):PS ρ :=
 Ny (gw g w rf (T-fl S now) (adv1 S) (fl S now)) T
def Ql [DecidableEq ρ](S:PS ρ)(V:List ρ)(T:Nat)(rf:Nat->ρ):List ρ:=V.take (fl S V.length)++jL rf (T-fl S V.length) (fl S V.length)
theorem PInv.adv1 [DecidableEq ρ](h:PInv g c0 w S V m):PInv g c0 w (adv1 S) (V.take (fl S V.length)) (min (fl S V.length) S.rows.length)/\(Go.Proofs.YtogafelgppjklaaGreatDoor.adv1 S).rows=S.rows/\fl S V.length<=V.length/\m<=fl S V.length/\(Go.Proofs.YtogafelgppjklaaGreatDoor.adv1 S).rb=S.rb+(if fl S V.length<V.length then 1 else 0):=by
 have hu:=h.used;have h1:=h.mV;have h2:=h.ck;have h3:=h.mR;unfold Go.Proofs.YtogafelgppjklaaGreatDoor.adv1 fl;cases hx:wr S.rows S.ck S.used with
 |none=>
  have hc:=DS hx;simp only[Option.getD_none];refine⟨?_,by trivial,aaI _,h1,by simp⟩;rw[acm];refine h.clean λ t ht1 ht2 ht3=>?_;have:=hc (t-S.ck) (by rw[hu,aaM];omega) (by omega);rw[hu,abd,show S.ck+(t-S.ck)=t by omega] at this;exact this
 |some x=>
  obtain⟨k1,k2,k3,k4,k5⟩:=wZ hx;rw[hu,aaM] at k2;simp only[aed];have hxV:x<V.length:=by omega
  have hmx:m<=x:=by
   rcases aaV x m with g_|VT
   ·exfalso;apply k5;rw[hu,abd,show S.ck+(x-S.ck)=x by omega];have:=congrArg (·[x]?) h.eq;simpa [abe,g_] using this
   ·exact VT
  have hr:=h.roll hmx hxV (λ t ht1 ht2=>by
   have:=k4 (t-S.ck) (by omega);rw[hu,abd,show S.ck+(t-S.ck)=t by omega] at this;exact this) (by omega)
  refine⟨?_,rfl,by omega,hmx,?_⟩
  ·rw[show min x S.rows.length=x by omega];exact hr
  ·rw[if_pos hxV];rfl
theorem PInv.adv [DecidableEq ρ](h:PInv g c0 w S V m)(hw:1<=w){T:Nat}(h1:V.length<=T)(h2:T<=S.rows.length+w)(rf:Nat->ρ)(hr:∀t,t<S.rows.length->S.rows[t]?=some (rf t)) :
  PInv g c0 w (Cn g w S V.length T rf) (Ql S V T rf) (min T S.rows.length)/\(Ql S V T rf).length=T/\(Cn g w S V.length T rf).rows=S.rows/\(Cn g w S V.length T rf).rb=S.rb+(if fl S V.length<V.length then 1 else 0):=by
 obtain⟨k1,k2,k3,k4,k5⟩:=h.adv1;unfold Cn Ql;generalize Go.Proofs.YtogafelgppjklaaGreatDoor.adv1 S=S1 at *;generalize fl S V.length=n1 at *;have lV:(V.take n1).length=n1:=by rw[aaL];omega
 have h3:=p9 hw rf (T-n1) S1 (V.take n1) (by rw[lV,k2];exact k1) (by rw[lV,k2];omega) (by rw[k2];exact hr);rw[lV,k2] at h3;obtain⟨r1,r2,r3⟩:=k8 (g:=g) (w:=w) rf (T-n1) S1 n1;have lT:(V.take n1++jL rf (T-n1) n1).length=T:=by rw[aaK,p7,lV];omega
 have e:n1+(T-n1)=T:=by omega
 rw[e] at h3;have h4:=h3.settle (by rw[lT,r1,k2]);rw[lT] at h4;exact⟨h4,lT,r1.trans k2,r2.trans k5⟩
end
end
section
variable {A:Option Addr} {F F' G H Hl T:HL} {M:MemS} {P:Program} {R:Value->HL->Prop} {a cap k k2 m mb n n0 t w:Nat} {args:Array Value} {ms xs:List Int} {α ρ:Type} (rb i:Nat)
theorem SlIs.dropI{e:Enc α}{T:TypeId}{l:List α}(h:SlIs e T l A cap Hl)(hk:k=0\/k<l.length):SlIs e T (l.drop k) (slA A k e.w cap) (cap-k) Hl:=by
 rcases hk with rfl|hk
 ·have e1:slA A 0 e.w cap=A:=by
   unfold slA;split
   ·rfl
   ·rcases h with ⟨rfl,_⟩|⟨b,o,full,rfl,_⟩
    ·rfl
    ·rw[abK,gO rfl];simp[tK]
  rw[e1];exact h
 ·rcases h with ⟨_,_,rfl,_⟩|⟨b,o,full,rfl,rfl,h1,h2,h3⟩
  ·simp at hk
  ·refine .inr ⟨b,o+k,full,?_,by rw[show o+k+(cap-k)=o+cap by omega],by omega,by rw[aaM];omega,?_⟩
   ·unfold slA;rw[if_neg (by omega),abK,gO rfl];simp[tK,abX]
   ·rw[aaM]
    conv=>rhs;rw[<- h3]
    rw[List.drop_take,adm]
theorem Nz(mb cb:Nat) (k:Nat)(M:MemS) (F:HL)(hs:SlIs rO 218 M.lg A cap Hl)(hc:M.cs.length<=1000000)(hl:M.lg.length<=100000000)(hb:0<=M.base/\M.base<=1000000000)(U2:n0<=M.lg.length)(hk:M.lg.length-n0+k<=100000000):aeo 90 #[vP mb 0,vI (M.base+(n0:Int))] (ap [(mb,.lit [vS cb 0 M.cs.length M.cs.length,.slice A M.lg.length cap,vI M.base] 164 (0,0)),(cb,.rows 1 M.cs.length (bF M.cs) 3 (0,0))] [Hl]) F (λ u H'=>u=vI 0/\MemH mb (iz M n0) k H'):=by
 have ac7:M.lg.length<=cap:=hs.capLe;refine QS Tryz.func90 mn<|OU 10<|aal (zM (mb:=mb) (cb:=cb) (n:=M.cs.length) (A:=A) (m:=M.lg.length) (cap:=cap) (M.base+(n0:Int)) (aw 0) hb (by omega) (by omega) (by omega))<|ah 24 [.o 0,.nw] [aI ((M.base+(n0:Int))-M.base)] λ _=>aM 6 (congrArg (λ v_=>(vI v_:Value)) (show M.base+(n0:Int)-M.base=(n0:Int) by omega))<|SO 16 (aab 2)<|RN.slA (A:=A) (n:=M.lg.length) (cap:=cap) (l:=n0) (sz:=2) rfl (by omega) ac7<|SO 17 (aab 2)<|aaq ((((M.lg.length-n0):Nat):Int)<(n0:Int)) 38 (λ h1=>?_) λ h1=>?_
 ·refine SO 7 [.o 0]<|aau<|aaj (c':=(cap-n0)) (tx:=162) AZ ([]:List (Int×Int)) (M.lg.drop n0) 0 rfl (aay _ _) (by rw[aaM];simp;omega) (RowL.src AZ (by decide) (hs.drop (ay 1) rfl U2)) ?_;rintro A2 c3 T4 ⟨XE,hz6⟩;refine ae 10 [.o 0] λ _=>?_;rw[abz] at XE;have h_:=MemH.mk (mb:=mb) (M:=iz M n0) (k:=k) cb A2 c3 T4 XE hc (by show (M.lg.drop n0).length+k<=_;rw[aaM];omega);have YT:(iz M n0).lg.length=0+(M.lg.drop n0).length:=(abp _).symm;rw[YT] at h_;exact aav [] [0,1] [0] (v:=vI 0) ⟨rfl,h_⟩
 ·refine ae 8 [] λ _=>?_;have h_:=MemH.mk (mb:=mb) (M:=iz M n0) (k:=k) cb (slA A n0 2 cap) (cap-n0) Hl (hs.dropI (by omega)) hc (by show (M.lg.drop n0).length+k<=_;rw[aaM];omega);have YT:(iz M n0).lg.length=M.lg.length-n0:=aaM;rw[YT] at h_;exact aav [] [0,1] [0] (v:=vI 0) ⟨rfl,h_⟩
theorem Qm(h:MemH mb M k T)(hb:0<=M.base/\M.base<=1000000000)(U2:n0<=M.lg.length)(hk:k2<=k){v:Int}(hv:v=M.base+(n0:Int)):aeo 90 #[vP mb 0,vI v] (ap [] [T]) F (λ u H'=>∃x,H'=ap [] [x]/\(u=vI 0/\MemH mb (iz M n0) k2 x)):=by
 subst hv;rw[br];cases h with
 |mk cb A cap Hl hs hc hl=>exact(Nz mb cb k2 M F hs hc (by omega) hb U2 (by omega)).tl
theorem KL{b o wd l:Nat}(h:m≠l):Bv (some ⟨b,o*wd,none⟩) l wd m=some ⟨b,(o+l)*wd,none⟩:=by
 unfold Bv slA;rw[if_neg h,abK,gO rfl];simp[tK,abX]
theorem Gg(a:Nat)(l:List Int):(rh a l).drop 1=rh (a+1) (l.drop 1):=by cases l <;> rfl
theorem vA{b:Int}{L:Nat}(hr:∀k∈ms,b<=k/\k<=b+(L:Int)){i:Nat}(hi:i<ms.length+1):b<=(ms++[b+(L:Int)]).getD i 0/\(ms++[b+(L:Int)]).getD i 0<=b+(L:Int):=by
 have hm:=jK (l:=ms++[b+(L:Int)]) (i:=i) (by simpa using hi) 0;rcases abM.1 hm with h|h
 ·exact hr _ h
 ·rw[jt] at h;omega
inductive RingH(rb mb w a:Nat)(ms:List Int):HL->Prop
 |mk {A:Option Addr} {cap n:Nat} {Hl:HL} (hs:SlX lH 171 (rh a ms) A cap Hl) (hn:n=ms.length) (h0:ms=[]->A=none/\cap=0/\Hl=[]):RingH rb mb w a ms (ap [(rb,.lit [vP mb 0,vI (w:Int),.slice A n cap] 128 (0,0))] [Hl])
def eo(w:Nat)(M:MemS)(a:Nat)(ms:List Int)(t:Nat):MemS×Nat×List Int :=
 let mk:=M.base+(M.lg.length:Int)
 let a0:=if ms=[] then t else a
 if w<ms.length+1 then (iz M (((ms++[mk]).getD 1 0)-M.base).toNat,a0+1,(ms++[mk]).drop 1) else (M,a0,ms++[mk])
theorem qa(M:MemS)(a t:Nat)(h:1<=w):eo w M a [] t=(M,t,[M.base+(M.lg.length:Int)]):=by
 unfold eo;dsimp only;rw[if_neg (by simp;omega),if_pos rfl];rfl
theorem Co(M:MemS)(h:w<ms.length+1)(hn:ms≠[]):eo w M a ms t=(iz M (((ms++[M.base+(M.lg.length:Int)]).getD 1 0)-M.base).toNat,a+1,(ms++[M.base+(M.lg.length:Int)]).drop 1):=by
 unfold eo;dsimp only;rw[if_pos h,if_neg hn]
theorem KM(M:MemS)(h:¬ w<ms.length+1)(hn:ms≠[]):eo w M a ms t=(M,a,ms++[M.base+(M.lg.length:Int)]):=by
 unfold eo;dsimp only;rw[if_neg h,if_neg hn]
theorem KN (cap:Nat) (F:HL)(hM:MemH mb M k T)(hb:0<=M.base/\M.base<=1000000000)(hw:1<=w/\w<=13)(XH:k2<=k)(ht0:t<=1000000):aeo 58 #[vP rb 0,vI (t:Int)] (ap [(rb,.lit [vP mb 0,vI (w:Int),.slice none 0 0] 128 (0,0))] [T]) F (λ u H'=>∃x:HL×HL,H'=ap [] [x.1,x.2]/\(u=vI 0/\RingH rb mb w (eo w M 0 [] t).2.1 (eo w M 0 [] t).2.2 x.1/\MemH mb (eo w M 0 [] t).1 k2 x.2)):=by
 refine QS Tryz.func58 mn<|OU 12<|aaq ((t:Int)<0) 7 (λ h1=>?_) λ h1=>?_
 ·(exfalso;omega)
 ·refine SO 25 [.o 0]<|aap [13,16] []<|ag [] [0,1,5,6,2,7,3,8,4,9] (aab 2)<|aae [] 10 (λ X_=>(KB hM (aY 0) hb))<|aem [11]<|aag 12 (aai [] [] λ n3=>?_);refine RD.nt<|aag 13 (RDO.appX [] Ow ([]:List (Int×Int)) [((t:Int),(M.base+(M.lg.length:Int)))] 0 0 rfl (SlX.nil _ _) (by simp) ?_);rintro A4 c5 T6 ⟨Z8,hz8⟩;refine aem [14,15]<|SV 16 [] [.o 1]<|aaf<|ae 3 [] λ _=>?_;have U7:SlX lH 171 (rh t (([]:List Int)++[(M.base+(M.lg.length:Int))])) A4 c5 T6:=by
   exact Z8
  clear Z8;refine SO 19 [.o 1,.o 1]<|aaq ((((0+1):Nat):Int)>(w:Int)) 47 (λ h9=>?_) λ h9=>?_
  ·(exfalso;omega)
  ·refine OU 8<|QV [] [1] [0,1] (vI 0) (ap [(rb,.lit [vP mb 0,vI (w:Int),.slice A4 (0+1) c5] 128 (0,0))] [T6,T]) ?_;rw[qa M 0 t hw.1];exact⟨(_,_),by simp[ap],rfl,.mk U7 rfl (λ e_=>by cases e_),hM.weak XH⟩
theorem Gh (F:HL)(hs:SlX lH 171 (rh a ms) A cap Hl)(hn:n=ms.length)(VE:1<=n)(hn8:n<=100000000)(ht:t=a+n)(hr:∀k∈ms,M.base<=k/\k<=(M.base+(M.lg.length:Int)))(hM:MemH mb M k T)(hb:0<=M.base/\M.base<=1000000000)(hw:1<=w/\w<=13)(XH:k2<=k)(ht0:t<=1000000):aeo 58 #[vP rb 0,vI (t:Int)] (ap [(rb,.lit [vP mb 0,vI (w:Int),.slice A n cap] 128 (0,0))] [Hl,T]) F (λ u H'=>∃x:HL×HL,H'=ap [] [x.1,x.2]/\(u=vI 0/\RingH rb mb w (eo w M a ms t).2.1 (eo w M a ms t).2.2 x.1/\MemH mb (eo w M a ms t).1 k2 x.2)):=by
 have hw_:CY a ms+1=(t:Int):=by unfold CY;rw[if_neg (by rintro rfl;simp at hn;omega)];omega
 refine QS Tryz.func58 mn<|OU 12<|aaq ((t:Int)<0) 7 (λ h1=>?_) λ h1=>?_
 ·(exfalso;omega)
 ·refine SO 13 [.o 0]<|aaq ((n:Int)>0) 14 (λ h2=>?_) λ h2=>?_
  ·refine OU 2<|aal (CZ (rb:=rb) (mb:=mb) (w:=w) hs (ay 0) hn hn8 (aw 0))<|ah 5 [.nw] [aI ((CY a ms)+1)] λ _=>aar ((t:Int)=(CY a ms)+1) 20 (λ h3=>?_) λ h3=>?_
   ·refine OU 4<|aap [13,16] []<|ag [] [0,1,5,6,2,7,3,8,4,9] (aab 2)<|aae [] 10 (λ X_=>(KB hM (aY 1) hb))<|aem [11]<|aag 12 (aai [] [] λ n5=>?_);refine aag 13 (RDO.appX [] Ow (rh a ms) [((t:Int),(M.base+(M.lg.length:Int)))] 0 0 (hn.trans (kM a ms).symm) hs (by rw[kM];simp;omega) ?_);rintro A6 c7 T8 ⟨hs9,aoG⟩;refine aem [14,15]<|SV 16 [] [.o 1]<|aaf<|ae 3 [] λ _=>?_;have U7:SlX lH 171 (rh a (ms++[(M.base+(M.lg.length:Int))])) A6 c7 T8:=by
     rw[yl,<- hn,<- ht];exact hs9
    clear hs9;refine SO 19 [.o 1,.o 1]<|aaq ((((n+1):Nat):Int)>(w:Int)) 47 (λ IN=>?_) λ IN=>?_
    ·refine ae 2 [] λ _=>?_;have aaZ:=U7;obtain⟨b1,o1,M1,f1,rfl,rfl,hf1,hM1,hc1,hd1,Xv⟩:=wp U7 (by simp);rw[aaK,abw,<- hn] at hc1;refine RN.ot 0 (x:=(b1,.rows 2 M1 (ak lH f1) 171 (0,0))) ?_;have Y1:=vA hr (i:=1) (by omega);have ajw:((ms++[(M.base+(M.lg.length:Int))]).getD 1 0-M.base).toNat<=M.lg.length:=by omega
     have ajv:(ms++[(M.base+(M.lg.length:Int))]).getD 1 0=M.base+((((ms++[(M.base+(M.lg.length:Int))]).getD 1 0-M.base).toNat:Nat):Int):=by omega
     refine SO 8 [.o 2]<|Bw (A:=some ⟨b1,o1*2,none⟩) (n:=(n+1)) (cap:=c7) (l:=1) (h:=n+1) (m:=n+1) (sz:=2) (li:=some 1) (hi:=some (((n+1):Nat):Int)) (mi:=some (((n+1):Nat):Int)) rfl rfl rfl (by omega) (by omega) hc1<|aM 55 (congrArg (λ v_=>(.slice v_ (n+1-1) (n+1-1):Value)) (KL (b:=b1) (o:=o1) (wd:=2) (l:=1) (m:=n+1) (by omega)))<|SO 5 [.o 2]<|aap [11] []<|aA [] [0,4,1,5,2,6,3,7,8,9,10] [.o 2,.o 2,.ix 0,.row 0 ((o1+1)+0) 1] [(((o1+1)*2+0*2)+1)=((o1+1)+0)*2+1/\((o1+1)+0)<M1,0=((0:Nat):Int)/\0<(n+1-1)]<|gT 68 (congrArg (λ v_=>(vI v_:Value)) (congrArg Prod.snd (Xv 1 (by simp;omega))))<|aag 11 (aah [] [] [0] (Qm (n0:=((ms++[(M.base+(M.lg.length:Int))]).getD 1 0-M.base).toNat) (k2:=k2) hM hb ajw XH ajv) ?_);rintro _ T12 ⟨rfl,ZV⟩;refine Q2 6<|QV [] [2,0] [0] (vI 0) (ap [(rb,.lit [vP mb 0,vI (w:Int),vS b1 ((o1+1)*2) (n+1-1) (n+1-1)] 128 (0,0)),(b1,.rows 2 M1 (ak lH f1) 171 (0,0))] [T12]) ?_;rw[Co M (by omega) (by rintro rfl;simp at hn;omega)];have UD:=aaZ.cut (k:=1) (h:=n+1) (m:=n+1) (by omega) (by rw[kM];simp;omega) (by omega) hc1;rw[abF (by rw[kM];simp;omega),Gg] at UD;have hb_:Bv (some ⟨b1,o1*2,none⟩) 1 2 (n+1)=some ⟨b1,(o1+1)*2,none⟩:=KL (by omega);rw[show lH.w=2 from rfl,hb_] at UD;exact⟨(_,_),by simp[ap],rfl,.mk (n:=n+1-1) UD (by simp;omega) (λ e_=>by have h_:=congrArg List.length e_;rw[aaM,aaK,abw,adH] at h_;omega),ZV⟩
    ·refine OU 8<|QV [] [1] [0,1] (vI 0) (ap [(rb,.lit [vP mb 0,vI (w:Int),.slice A6 (n+1) c7] 128 (0,0))] [T8,T]) ?_;rw[KM M (by omega) (by rintro rfl;simp at hn;omega)];exact⟨(_,_),by simp[ap],rfl,.mk (n:=n+1) U7 (by simp;omega) (λ e_=>by simp at e_),hM.weak XH⟩
   ·(exfalso;omega)
  ·(exfalso;omega)
theorem SlX.take{e:Enc α}{T:TypeId}{l:List α}(h:SlX e T l A cap Hl)(k:Nat):SlX e T (l.take k) A cap Hl:=by
 rcases h with ⟨rfl,rfl,rfl,rfl⟩|⟨b,o,M,full,h1,h2,h3,h3',h4,h5⟩
 ·rw[List.take_nil];exact SlX.nil _ _
 ·refine .inr ⟨b,o,M,full,h1,h2,h3,h3',by rw[aaL];omega,?_⟩;rw[aaL]
  conv=>rhs;rw[<- h5]
  rw[adR]
theorem Qn(h:MemH mb M k T)(hk:k2<=k)(hb:0<=M.base/\M.base<=1000000000)(U2:n0<=M.lg.length)(Vd:∀e∈M.lg.drop n0,0<=e.1/\e.1<(M.cs.length:Int)){v:Int}(hv:v=M.base+(n0:Int)):aeo 88 #[vP mb 0,vI v] (ap [] [T]) F (λ u H'=>∃x,H'=ap [] [x]/\(u=vI 0/\MemH mb (mm M n0) k2 x)):=by
 subst hv;exact KJ F h hk hb U2 Vd
theorem NA (w:Nat) {x b1:Nat} (o1:Nat) {M1:Nat}{f1:List (Int×Int)} (F:HL)(hs:SlX lH 171 (rh a ms) (some ⟨b1,o1*2,none⟩) cap [(b1,.rows 2 M1 (ak lH f1) 171 (0,0))])(hn:n=ms.length)(VE:1<=n)(hn8:n<=100000000)(hx:a<=x/\x<a+n)(hx8:x<=1000000)(hcap:n<=cap)(hM1:o1+cap<=M1)(hg:∀k,k<n->f1.getD (o1+k) lH.dflt=(((a+k:Nat):Int),ms.getD k 0))(hr:M.base<=(ms.getD (x-a) 0)/\(ms.getD (x-a) 0)<=(M.base+(M.lg.length:Int)))(Vd:∀e∈M.lg.drop ((ms.getD (x-a) 0)-M.base).toNat,0<=e.1/\e.1<(M.cs.length:Int))(hM:MemH mb M k T)(hb:0<=M.base/\M.base<=1000000000)(XH:k2<=k):aeo 55 #[vP rb 0,vI (x:Int)] (ap [(rb,.lit [vP mb 0,vI (w:Int),vS b1 (o1*2) n cap] 128 (0,0)),(b1,.rows 2 M1 (ak lH f1) 171 (0,0))] [T]) F (λ u H'=>∃y:HL×HL,H'=ap [] [y.1,y.2]/\(u=vI 0/\RingH rb mb w a (ms.take (x-a+1)) y.1/\MemH mb (mm M ((ms.getD (x-a) 0)-M.base).toNat) k2 y.2)):=by
 have hi_:(f1.getD (o1+(x-a)) lH.dflt).1=(x:Int):=by rw[hg _ (by omega)];show ((a+(x-a):Nat):Int)=x;omega
 have Yn:∀k,k<x-a->¬ (f1.getD (o1+k) lH.dflt).1=(x:Int):=by intro k hk;rw[hg _ (by omega)];show ¬ ((a+k:Nat):Int)=x;omega
 have apu:(f1.getD (o1+(n-1)) lH.dflt).1=((a+(n-1):Nat):Int):=by rw[hg _ (by omega)]
 have apq:(f1.getD o1 lH.dflt).1=((a+0:Nat):Int):=by have h_:=hg 0 (by omega);rw[abZ] at h_;rw[h_]
 refine QS Tryz.func55 mn<|ae 8 [] λ n1=>aap [] []<|ag [] [0,1,2,3,4,5,6] [.o 1]<|RD.em ((n:Int)=0) 13 (λ h2=>?_) λ h2=>?_
 ·(exfalso;omega)
 ·refine ag [] [7,8] [.o 0]<|aae [] 9 (λ X_=>(Ir (rb:=rb) (mb:=mb) (b:=b1) o1 (M:=M1) (cap:=cap) (w:=w) (full:=f1) (fD 1) (fD 2) VE (by omega) hn8))<|aem [10,11]<|Q2 1<|aaq ((x:Int)<(f1.getD o1 lH.dflt).1) 18 (λ h3=>?_) λ h3=>?_
  ·(exfalso;omega)
  ·refine OU 5<|aap [] []<|ag [] [0,1] [.o 0]<|aae [] 2 (λ X_=>(yn (rb:=rb) (mb:=mb) (b:=b1) o1 (M:=M1) (cap:=cap) (w:=w) (full:=f1) (fD 1) (fD 2) VE (by omega) hn8))<|aem [3]<|Q2 1<|aaq ((x:Int)>(f1.getD (o1+(n-1)) lH.dflt).1) 22 (λ h4=>?_) λ h4=>?_
   ·(exfalso;omega)
   ·refine SO 10 [.o 1]<|aal (Ms (b:=b1) o1 (M:=M1) cap (tq:=n1+0) (x-a) (full:=f1) (aw 0) (aw 2) (by omega) hn8 (by omega) hi_ Yn)<|OU 5<|aap [12] []<|aA [] [0,4,8,1,5,2,6,3,7,9,10,11] [.o 1,.o 1,.ix (x-a),.row 2 (o1+(x-a)) 1] [((o1*2+(x-a)*2)+1)=(o1+(x-a))*2+1/\(o1+(x-a))<M1,((x-a:Nat):Int)=(((x-a):Nat):Int)/\(x-a)<n]<|gT 40 (congrArg (λ v_=>(vI v_:Value)) (congrArg Prod.snd (hg (x-a) (by omega))))<|aag 12 (aah [] [] [0] (Qn (n0:=((ms.getD (x-a) 0)-M.base).toNat) (k2:=k2) hM XH hb (by omega) Vd (show (ms.getD (x-a) 0)=M.base+((((ms.getD (x-a) 0)-M.base).toNat:Nat):Int) by omega)) ?_);rintro _ T5 ⟨rfl,VJ⟩;refine aem [13]<|aaf<|ah 30 [.o 1,.nw,.sl 0 ((x-a)+1) false,.o 1] [0=0/\((x-a:Nat):Int)+1=((((x-a)+1):Nat):Int)/\0<=((x-a)+1)/\((x-a)+1)<=cap/\cap≠0,aI (((x-a:Nat):Int)+1)] λ _=>QV [] [1,2] [0] (vI 0) (ap [(rb,.lit [vP mb 0,vI (w:Int),vS b1 (o1*2+0*2) (((x-a)+1)-0) (cap-0)] 128 (0,0)),(b1,.rows 2 M1 (ak lH f1) 171 (0,0))] [T5]) ?_;have UD:=hs.take (x-a+1);rw[ym] at UD;exact⟨(_,_),by simp[ap],rfl,.mk (n:=x-a+1) UD (by rw[aaL];omega) (λ e_=>by have h_:=congrArg List.length e_;rw[aaL,adH] at h_;omega),VJ⟩
theorem KO{rb:Nat}(F:HL)(hG:RingH rb mb w a ms G)(ht:ms≠[]->t=a+ms.length)(hr:∀k∈ms,M.base<=k/\k<=M.base+(M.lg.length:Int))(hM:MemH mb M k T)(hb:0<=M.base/\M.base<=1000000000)(hw:1<=w/\w<=13)(XH:k2<=k)(ht0:t<=1000000)(hl:ms.length<=100000000):aeo 58 #[vP rb 0,vI (t:Int)] (ap [] [G,T]) F (λ u H'=>∃x:HL×HL,H'=ap [] [x.1,x.2]/\(u=vI 0/\RingH rb mb w (eo w M a ms t).2.1 (eo w M a ms t).2.2 x.1/\MemH mb (eo w M a ms t).1 k2 x.2)):=by
 cases hG with
 | @mk A cap n Hl hs hn h0=>
  by_cases e:ms=[]
  ·obtain⟨rfl,rfl,rfl⟩:=h0 e;subst e;obtain rfl:n=0:=hn;have h:=KN rb 0 F hM hb hw XH ht0;rw[qa M 0 t hw.1] at h;rw[qa M a t hw.1];simpa [ap] using h
  ·have hp:1<=n:=by
    cases ms with
    |nil=>exact absurd rfl e
    |cons _ _=>rw[hn];simp
   have h:=Gh rb F hs hn hp (by omega) (by rw[hn];exact ht e) hr hM hb hw XH ht0;simpa [ap] using h
theorem NB{rb x:Nat}(F:HL)(hG:RingH rb mb w a ms G)(hx:a<=x/\x<a+ms.length)(hx8:x<=1000000)(hl:ms.length<=100000000)(hr:M.base<=ms.getD (x-a) 0/\ms.getD (x-a) 0<=M.base+(M.lg.length:Int))(Vd:∀e∈M.lg.drop (ms.getD (x-a) 0-M.base).toNat,0<=e.1/\e.1<(M.cs.length:Int))(hM:MemH mb M k T)(hb:0<=M.base/\M.base<=1000000000)(XH:k2<=k):aeo 55 #[vP rb 0,vI (x:Int)] (ap [] [G,T]) F (λ u H'=>∃y:HL×HL,H'=ap [] [y.1,y.2]/\(u=vI 0/\RingH rb mb w a (ms.take (x-a+1)) y.1/\MemH mb (mm M (ms.getD (x-a) 0-M.base).toNat) k2 y.2)):=by
 cases hG with
 | @mk A cap n Hl hs hn h0=>
  have e:ms≠[]:=by rintro rfl;simp at hx;omega
  have hs2:=hs;obtain⟨b,o,M1,full,rfl,rfl,h3,h4,h5,h6,h7⟩:=wp hs e;have h:=NA rb w o F hs2 hn (by omega) (by omega) (by omega) hx8 (by omega) h4 (λ k hk=>h7 k (by omega)) hr Vd hM hb XH;simpa [ap] using h
theorem zR{d:α}{l m:List α}(h1:l.length=m.length)(h2:∀k,k<l.length->l.getD k d=m.getD k d):l=m:=by
 apply List.ext_getElem h1;intro i h3 h4;have:=h2 i h3;rwa [aaG,aaG,aaP h3,aaP h4] at this
theorem DT{x y:Inp}(h1:x.dx=y.dx)(h2:x.dy=y.dy)(h3:x.act=y.act):x=y:=by cases x;cases y;simp_all
theorem NC{now:Nat}{S:PS ρ}(h:¬ (S.ms≠[]/\S.a+S.ms.length=now+1)):((d8 w S now).M,(d8 w S now).a,(d8 w S now).ms)=eo w S.M S.a S.ms now:=by
 unfold d8 eo;rw[if_neg h];dsimp only;split <;> rfl
theorem w7{now:Nat}:CY a ms=(now:Int)↔(ms≠[]/\a+ms.length=now+1):=by
 unfold CY;split
 ·next e=>subst e;simp
 ·next e=>
  constructor
  ·intro h;exact⟨e,by omega⟩
  ·rintro⟨_,h⟩;omega
theorem PInv.marks{g:Nat->ρ->Gm}{c0:List Int}{S:PS ρ}{V:List ρ}(h:PInv g c0 w S V m):∀k∈S.ms,S.M.base<=k/\k<=S.M.base+(S.M.lg.length:Int):=by
 intro k hk;obtain⟨i,hi,rfl⟩:=adU.1 hk;have h1:=h.rst i _ (aaP hi);exact⟨h1.lo,h1.hi⟩
def kB(x:Inp):Inp:=⟨x.dx,x.dy,0⟩
instance:DecidableEq Inp:=λ x y=>decidable_of_iff (x.dx=y.dx/\x.dy=y.dy/\x.act=y.act) ⟨λ h=>DT h.1 h.2.1 h.2.2,λ h=>by rw[h];exact⟨rfl,rfl,rfl⟩⟩
theorem KP{B:Option Addr} (c:Nat) (d:Nat){xs ys:List Inp}(hl:RowL bS 24 F A n xs)(Vo:RowL bS 24 F B m ys)(hb:n<=1000000):aen 54 #[.slice A n c,.slice B m d] F (.bool (decide (xs=ys))):=by
 have ZB:=hl.len;have aiP:=Vo.len;refine QT Tryz.func54<|OU 15<|aar ((n:Int)=(m:Int)) 10 (λ h1=>?_) λ h1=>?_
 ·refine OU 12<|aat (σ:=Nat) (λ k_=>⟨[(0,.slice A n c),(1,.slice B m d),(12,vI (n:Int)),(13,vI (k_:Int))],[],[],k_<=n/\∀j,j<k_->xs.getD j dI=ys.getD j dI,n-k_⟩) 0 [] [] (⟨aaJ _,λ j hj=>absurd hj (pt _)⟩) ?_;rintro k_ ⟨YJ,VH⟩ OF;refine OU 6<|aaq ((k_:Int)<(n:Int)) 14 (λ h4=>?_) λ h4=>?_
  ·refine OU 12<|aap [] []<|aem [0,1,4,5] ?_;obtain⟨anX,VG,adL,aru,amJ,agt,abV,al0,afO⟩:=hl.at (k:=k_) (by omega);refine gT 16 (congrArg (λ v_=>(.slice v_ n c:Value)) agt)<|RD.ro (λ _=>(mc abV mn)) ?_;obtain⟨anW,VF,adK,art,amI,ags,afk,alZ,afN⟩:=Vo.at (k:=k_) (by omega);refine gT 20 (congrArg (λ v_=>(.slice v_ m d:Value)) ags)<|RD.ro (λ _=>(mc abV (mc afk mn)))<|aA [] [2,6,3,7] [.ix k_,.ix k_,.rorow 0 (VG+k_) 0,.rorow 0 (VG+k_) 1,.rorow 0 (VG+k_) 2,.rorow 1 (VF+k_) 0,.rorow 1 (VF+k_) 1,.rorow 1 (VF+k_) 2] [((VF*3+k_*3)+2)=(VF+k_)*3+2/\(VF+k_)<adK,((VF*3+k_*3)+1)=(VF+k_)*3+1/\(VF+k_)<adK,(VF*3+k_*3)=(VF+k_)*3+0/\(VF+k_)<adK,((VG*3+k_*3)+2)=(VG+k_)*3+2/\(VG+k_)<adL,((VG*3+k_*3)+1)=(VG+k_)*3+1/\(VG+k_)<adL,(VG*3+k_*3)=(VG+k_)*3+0/\(VG+k_)<adL,(k_:Int)=((k_:Nat):Int)/\k_<m,(k_:Int)=((k_:Nat):Int)/\k_<n]<|gT 19 (congrArg (λ v_=>(.agg #[vI v_.dx,vI v_.dy,vI v_.act]:Value)) afO)<|gT 23 (congrArg (λ v_=>(.agg #[vI v_.dx,vI v_.dy,vI v_.act]:Value)) afN)<|ag [] [8] [.sq]<|Q2 1<|oK ((decide ((xs.getD k_ dI).dx=(ys.getD k_ dI).dx) && (decide ((xs.getD k_ dI).dy=(ys.getD k_ dI).dy) && (decide ((xs.getD k_ dI).act=(ys.getD k_ dI).act) && true)))) 24 (λ h5=>?_) λ h5=>?_
   ·refine ah 8 [.nw] [aI ((k_:Int)+1)] λ _=>OF (k_+1) [] [] ?_
    try dsimp only
    have Va:=h5;simp only[aaW,decide_eq_true_eq] at Va;refine⟨⟨by omega,λ j hj=>?_⟩,by omega⟩
    by_cases ej:j=k_
    ·rw[ej];exact DT Va.1 Va.2.1 Va.2.2.1
    ·exact VH j (by omega)
   ·refine ae 6 [] λ _=>QW (.bool false) _ ⟨by rw[abh (λ e_=>h5 (by rw[e_];simp))],rfl⟩
  ·refine ae 11 [] λ _=>?_;obtain rfl:k_=n:=by omega
   exact QW (.bool true) _ ⟨by rw[abk (zR (by omega) (λ k hk=>VH k (by omega)))],rfl⟩
 ·refine ae 6 [] λ _=>QW (.bool false) _ ⟨by rw[abh (λ e_=>h1 (by rw[<- ZB,e_,aiP]))],rfl⟩
theorem KQ(x:Inp):aen 56 #[.agg #[vI x.dx,vI x.dy,vI x.act]] F (.agg #[vI (kB x).dx,vI (kB x).dy,vI (kB x).act]):=by
 refine QT Tryz.func56<|ae 18 (ow 1 4++aab 3) λ n1=>aav (aab 3) [] [] ⟨rfl,rfl⟩
theorem KR{n:Int}(h:qK n):0<=uy n/\uy n<1000:=ee h 1000 (by decide)
theorem xa{n m:Int}(h0:0<=n)(h1:n<m):bj n m=n:=by
 unfold bj;rw[if_neg (by omega)];exact Int.tmod_eq_of_lt h0 h1
theorem Cp{n:Int}(h:qK n):cH (uy n)=cH n:=by
 have hb:=KR h;have e:uy (uy n)=uy n:=xa hb.1 hb.2;unfold cH sd;rw[e]
theorem Gi:∀k:Fin 1000,kf ⟨(cH ((k.1:Nat):Int)).1,(cH ((k.1:Nat):Int)).2,none,0⟩:=by decide+kernel
theorem KS{n:Int}(h:qK n)(A:Option Addr)(c:Nat):kf ⟨(cH n).1,(cH n).2,A,c⟩:=by
 have hb:=KR h;have:=Gi ⟨(uy n).toNat,by omega⟩;simp only at this;rw[Int.toNat_of_nonneg hb.1,Cp h] at this;exact this
theorem Qo:0<=([1024,1024,512,2048,0]:List Int).getD i 0/\([1024,1024,512,2048,0]:List Int).getD i 0<=4096:=by
 rcases i with _|_|_|_|_|i
 all_goals first|decide|simp
section
variable {xs:List Int} {F:HL} {A:Option Addr} {n:Nat} {S:Setup} {T:HL}
theorem ND(hl:ArgL F A n xs)(k:Nat)(B:Option Addr)(c:Nat):fR (uO xs k B c) ⟨-12000,-9000,12000,9000⟩:=by
 have h1:=iG hl (4+2*k);have h2:=iG hl (5+2*k);have h3:=Qo ((bM xs k/5000)%5).toNat
 simp only[fR,uO,pM,sD,and_true];rw[show kv xs (4+2*k)=bN xs k from rfl] at h1;rw[show kv xs (5+2*k)=bM xs k from rfl] at h2;refine⟨h3,⟨⟨?_,?_⟩,?_,?_⟩,⟨?_,?_⟩,⟨?_,?_⟩,⟨?_,?_⟩,?_,?_⟩ <;> omega
theorem KT:(kc i:Int)<=16/\∀k,k<kc i->sF 3 ((kL i).getD k nT.dflt):=by
 rcases i with _|_|i
 ·exact⟨by decide,λ k hk=>absurd hk (pt _)⟩
 ·exact⟨by decide,by decide⟩
 ·exact⟨by show ((2:Nat):Int)<=16;decide,by show ∀k,k<2->sF 3 (([⟨0,2⟩,⟨1,2⟩]:List Dr).getD k nT.dflt);decide⟩
theorem Gj(hl:ArgL F A n xs)(h:SetG xs S T):gq S sf (kL (kv xs 3%3).toNat)=0:=by
 have h1:=ru hl;have h2:=wD hl;have hn:=h.nb;have k0:=iG hl 0;have k1:=iG hl 1;have k2:=iG hl 2;obtain⟨e1,e2,e3,e4,e5,e6,e7,e8⟩:=h.nums;obtain⟨⟨m1,m2⟩,-⟩:=h.maps;have hd:=KT (kv xs 3%3).toNat
 unfold gq;rw[if_pos,if_pos,if_pos]
 ·intro k hk;obtain⟨B,c,hb⟩:=h.bod k hk;rw[hb,e1];exact ND hl k B c
 ·refine⟨?_,?_,⟨?_,?_⟩,?_,?_⟩
  ·have hpl:=h.pl;simp only[ke,pM,sD,and_true,e2,e3,e4,e5,e6,e7,e8,hpl];refine⟨⟨?_,?_⟩,⟨?_,?_⟩,⟨?_,?_⟩,⟨⟨?_,?_⟩,?_,?_⟩,⟨?_,?_⟩,⟨⟨?_,?_⟩,?_,?_⟩,⟨?_,?_⟩,?_,?_⟩ <;> omega
  ·rw[e1];decide
  ·rw[m1];decide
  ·rw[m2];exact hd.1
  ·rw[m1];decide
  ·rw[m1,m2];exact hd.2
 ·intro k hk;obtain⟨B,c,hb⟩:=h.bod k hk;rw[hb];have:=iG hl (4+2*k);exact KS ⟨by show _<=kv xs (4+2*k);omega,by show kv xs (4+2*k)<=_;omega⟩ B c
end
theorem Sp.den{f:FuncId}(h:Sp P f args H F R)(e:dU F=dU F'):Sp P f args H F' R:=by
 have e2:∀X:HL,dU (X++F)=dU (X++F'):=λ X=>by simp only[dU,abJ] at e ⊢;rw[e]
 intro w hR;refine(h w (hR.den (e2 H).symm)).mono ?_;rintro e' w' ⟨v,H',h1,h2,h3,h4⟩;exact⟨v,H',h1,h2,h3.den (e2 H'),h4⟩
def ArgD(F:HL)(A:Option Addr)(n:Nat)(xs:List Int):Prop:=∃F',dU F'=dU F/\ArgL F' A n xs
theorem ArgL.d(h:ArgL F A n xs)(e:dU F=dU F'):ArgD F' A n xs:=⟨F,e,h⟩
theorem ArgD.up{X:HL}(h:ArgD F A n xs):ArgD (X++F) A n xs:=by
 obtain⟨F',e,h⟩:=h;exact⟨X++F',by simp only[dU,abJ] at e ⊢;rw[e],h.up⟩
theorem ArgD.ex(h:ArgD F A n xs):∃F',ArgL F' A n xs:=by
 obtain⟨F',e,h⟩:=h;exact⟨F',h⟩
theorem ArgD.use(h:ArgD F A n xs){f:FuncId}(k:∀F',ArgL F' A n xs->Sp P f args H F' R):Sp P f args H F R:=by
 obtain⟨F',e,h⟩:=h;exact(k F' h).den e

noncomputable section
end
structure GF(xs:List Int)(S:Setup):Prop where
 pl:1<=S.players/\S.players<=3
 nb:1<=S.nb/\S.nb<=5
 rn:S.rn=3
 dn:S.dn<=2
 sz:48<=sizeOf S/\sizeOf S<=100
 val:gq S sf (kL (kv xs 3%3).toNat)=0
theorem Qp(hl:ArgD F A n xs){S:Setup}(h:SetG xs S T):GF xs S:=by
 obtain⟨F',hl⟩:=hl.ex;have h1:=ru hl;have h2:=wD hl;have hn:=h.nb;have hp:=h.pl;obtain⟨⟨m1,m2⟩,-⟩:=h.maps;have hd:kc (kv xs 3%3).toNat<=2:=by
  generalize (kv xs 3%3).toNat=i;rcases i with _|_|i
  ·exact aaJ _
  ·exact aaH rfl
  ·exact aaI 2
 exact⟨by omega,by omega,m1,by omega,by unfold sizeOf;omega,Gj hl h⟩
end
section
variable {A M N:MemS} {P a b fu i j k n p sp u:Int} {S:Setup} {g:Gm} {ins:Nat->Inp} {t:Stp}
structure SetV(S:Setup):Prop where
 pl:1<=S.players/\S.players<=3
 nb:1<=S.nb/\S.nb<=5
 ro:1<=S.rounds/\S.rounds<=3
 fu:0<=S.fuel/\S.fuel<=60
theorem aP{v:Int}:(M.set i v).cs.length=M.cs.length:=by
 unfold MemS.set;split <;> simp
theorem bx{v:Int}(h:j≠i):(M.set i v).get j=M.get j:=by
 unfold MemS.set;split
 ·next hi=>
  unfold MemS.get;simp only[abE];split
  ·next hj=>
   rw[aaG,aaG,List.getElem?_set_ne (by omega)]
  ·rfl
 ·rfl
theorem jM{v:Int}(h:0<=i/\i<M.cs.length):(M.set i v).get i=v:=by
 unfold MemS.set;rw[if_pos h];unfold MemS.get;simp only[abE];rw[if_pos h,aaG,List.getElem?_set_self (by omega)];rfl
theorem bJ{v:Int}(h:48<=M.cs.length)(h0:0<=i)(h1:i<48)(j:Int):(M.set i v).get j=if j=i then v else M.get j:=by
 by_cases e:j=i
 ·rw[if_pos e,e,jM (by omega)]
 ·rw[if_neg e,bx e]
theorem pm(hp:0<=S.players)(k:Int):af S k=-1\/(0<=k/\k<S.nb/\af S k=48+4*S.players+8*k):=by
 unfold af;split
 ·exact .inl rfl
 ·split
  ·exact .inl rfl
  ·exact .inr ⟨by omega,by omega,rfl⟩
theorem vB(k:Int):(ai S k=-1/\(k<0\/S.players<=k))\/(0<=k/\k<S.players/\ai S k=48+4*k):=by
 unfold ai;split
 ·exact .inl ⟨rfl,by omega⟩
 ·split
  ·exact .inl ⟨rfl,by omega⟩
  ·exact .inr ⟨by omega,by omega,rfl⟩
structure Hi(P:Int)(M M':MemS):Prop where
 len:M'.cs.length=M.cs.length
 get:∀j,j<48+4*P->M'.get j=M.get j
theorem Hi.refl:Hi P M M:=⟨rfl,λ _ _=>rfl⟩
theorem Hi.set(h:Hi P A M)(hk:48+4*P<=k)(v:Int):Hi P A (M.set k v):=⟨(aP).trans h.len,λ j hj=>(bx (by omega)).trans (h.get j hj)⟩
theorem Hi.setB(hp:0<=S.players)(h:Hi S.players A M){c:Int}(hb:af S k>=0)(hc:0<=c)(v:Int):Hi S.players A (M.set (af S k+c) v):=by
 rcases pm hp k with e|⟨h0,h1,e⟩
 ·omega
 ·exact h.set (by omega) v
structure Kp(P:Int)(M M':MemS):Prop where
 len:M'.cs.length=M.cs.length
 get:∀j,j<=5\/(48<=j/\j<48+4*P)->M'.get j=M.get j
theorem Kp.refl:Kp P M M:=⟨rfl,λ _ _=>rfl⟩
theorem Kp.set(h:Kp P A M)(hk:5<k/\(k<48\/48+4*P<=k))(v:Int):Kp P A (M.set k v):=⟨(aP).trans h.len,λ j hj=>(bx (by omega)).trans (h.get j hj)⟩
theorem Kp.trans{B C:MemS}(h:Kp P A B)(h':Kp P B C):Kp P A C:=⟨h'.len.trans h.len,λ j hj=>(h'.get j hj).trans (h.get j hj)⟩
structure Ef(M:MemS)(r:VR):Prop where
 yes:r.em=true->r.e.t=M.get 0/\r.e.i=M.get 11/\M.get 11<40/\r.M.get 11=M.get 11+1
 no:r.em=false->r.M.get 11=M.get 11
theorem Us{op:Int}(h:1<=op/\op<=21):(0<=eP op/\eP op<=2)/\(0<=eQ op/\eQ op<=1):=by
 obtain⟨n,rfl⟩:=Int.eq_ofNat_of_zero_le (show 0<=op by omega);have hn:n<22:=by omega
 have key:∀n:Fin 22,(0<=(oT.getD n.1 (0,0,0)).1/\(oT.getD n.1 (0,0,0)).1<=2)/\(0<=(oT.getD n.1 (0,0,0)).2.1/\(oT.getD n.1 (0,0,0)).2.1<=1):=by decide
 exact key ⟨n,hn⟩
theorem KU{op:Int}(h:fe op n sp=true):(1<=op/\op<=21)/\sp<=16/\eP op<=sp/\¬ aR (aR (sp-eP op)+eQ op)>16/\(eN op=0\/(0<=n/\n<eN op)):=by
 unfold fe at h;split at h
 ·cases h
 split at h
 ·cases h
 split at h
 ·cases h
 split at h
 ·cases h
 split at h
 ·cases h
 refine⟨by omega,by omega,by omega,by assumption,?_⟩;split at h
 ·left;assumption
 ·split at h
  ·right;exact⟨by omega,aa9 h⟩
  ·cases h
theorem NE{v:Int}(hl:48<=M.cs.length)(h0:0<=M.get 11/\M.get 11<=40):Kp P M (cY k v M).M/\(cY k v M).M.get 8=M.get 8/\Ef M (cY k v M):=by
 unfold cY;split
 ·exact⟨.refl,rfl,⟨λ h=>by simp at h,λ _=>rfl⟩⟩
 ·refine⟨((Kp.refl).set (by omega) _).set (by omega) _,?_,⟨λ _=>⟨rfl,rfl,by omega,?_⟩,λ h=>by simp at h⟩⟩
  ·simp only;rw[bx (by decide),bx (by decide)]
  ·simp only;rw[jM (by rw[aP];omega),cV (by omega)]
def Gd(P:Int)(M:MemS)(r:VR):Prop:=Kp P M r.M/\r.M.get 8=M.get 8/\Ef M r
theorem ol{c:Prop}[Decidable c]{x y:VR}(hx:c->Gd P M x)(hy:¬ c->Gd P M y):Gd P M (if c then x else y):=by
 split
 ·exact hx (by assumption)
 ·exact hy (by assumption)
theorem Gd.base{v:Int}:Gd P M ⟨M,v,aL,false⟩:=⟨.refl,rfl,⟨λ h=>by simp at h,λ _=>rfl⟩⟩
theorem Gd.st{v:Int}(hk:(5<k/\k≠8/\k≠11)/\(k<48\/48+4*P<=k)):Gd P M ⟨M.set k v,u,aL,false⟩ :=
 ⟨(Kp.refl).set (by omega) _,bx (by omega),⟨λ h=>by simp at h,λ _=>bx (by omega)⟩⟩
theorem Gd.mite{X Y:MemS}{c:Prop}[Decidable c](hx:c->Gd P M ⟨X,u,aL,false⟩)(hy:¬ c->Gd P M ⟨Y,u,aL,false⟩):Gd P M ⟨if c then X else Y,u,aL,false⟩:=by
 split
 ·exact hx (by assumption)
 ·exact hy (by assumption)
theorem NF(hS:SetV S){op:Int}(hl:48<=M.cs.length)(h0:0<=M.get 11/\M.get 11<=40)(hn:eN op=0\/(0<=n/\n<eN op)):Gd S.players M (dH S op n a b M):=by
 have hpl:=hS.pl;have hnb:=hS.nb;unfold dH
 iterate 14 (refine ol (λ _=>.base) λ _=>?_)
 refine ol (λ e=>?_) λ _=>?_
 ·subst e;have U4:0<=n/\n<16:=by
   rcases hn with h|h
   ·exact absurd h (by decide)
   ·exact h
  rw[cV (by omega)];exact .st (by omega)
 refine ol (λ _=>.base) λ _=>ol (λ e=>?_) λ _=>?_
 ·subst e;have h8:0<=n/\n<8:=by
   rcases hn with h|h
   ·exact absurd h (by decide)
   ·exact h
  refine Gd.mite (λ hb=>?_) λ _=>.base;rcases pm (S:=S) (by omega) a with e|⟨b0,b1,e⟩
  ·omega
  ·rw[cV (by omega)];exact .st (by omega)
 refine ol (λ _=>.st (by omega)) λ _=>ol (λ _=>.mite (λ _=>.st (by omega)) λ _=>.base) λ _=>ol (λ _=>?_) λ _=>.base;obtain⟨q1,q2,q3⟩:=NE (P:=S.players) (k:=a) (v:=b) hl h0;exact⟨q1,q2,⟨q3.yes,q3.no⟩⟩
theorem NG{op pc fuel:Int}(hl:48<=M.cs.length):Kp P M (m5 op sp pc fuel M)/\(m5 op sp pc fuel M).get 8=aR (fuel-1)/\(m5 op sp pc fuel M).get 11=M.get 11:=by
 unfold m5;split
 ·exact⟨((Kp.refl).set (by omega) _).set (by omega) _,by rw[bx (by decide),jM (by omega)],by rw[bx (by decide),bx (by decide)]⟩
 ·exact⟨(((Kp.refl).set (by omega) _).set (by omega) _).set (by omega) _,by rw[bx (by decide),bx (by decide),jM (by omega)],by rw[bx (by decide),bx (by decide),bx (by decide)]⟩
theorem zS(hS:SetV S){code:List Ins}{n:Nat}(hl:48<=M.cs.length)(h0:0<=M.get 11/\M.get 11<=40)(hf:0<=M.get 8/\M.get 8<=60) :
  Kp S.players M (aj S code n M).M/\Ef M (aj S code n M)/\((gu code n M/\(aj S code n M).M.get 8=M.get 8-1/\1<=M.get 8)\/(¬ gu code n M/\cQ code n M=true/\(aj S code n M).M.get 8=M.get 8)):=by
 unfold aj
 by_cases hr:gu code n M
 ·rw[if_pos hr];obtain⟨r1,r2,r3,r4⟩:=hr;obtain⟨x1,x2,x3,x4,x5⟩:=KU r4;have hp:=NG (P:=S.players) (op:=(fC code M).op) (sp:=M.get 7) (pc:=M.get 6) (fuel:=M.get 8) hl;generalize hM1:m5 (fC code M).op (M.get 7) (M.get 6) (M.get 8) M=M1 at *;obtain⟨p1,p2,p3⟩:=hp;rw[cV (by omega)] at p2;have he:=NF hS (M:=M1) (op:=(fC code M).op) (n:=(fC code M).n) (a:=pC (fC code M).op (M.get 7) M) (b:=pD (fC code M).op (M.get 7) M) (by rw[p1.len];exact hl) (by rw[p3];exact h0) x5;unfold iE;rw[hM1];generalize dH S (fC code M).op (fC code M).n (pC (fC code M).op (M.get 7) M) (pD (fC code M).op (M.get 7) M) M1=r at *;obtain⟨g1,g2,g3⟩:=he;have hE:Ef M r:=⟨λ h=>by
   obtain⟨a1,a2,a3,a4⟩:=g3.yes h;rw[p1.get 0 (by omega)] at a1;rw[p3] at a2 a3 a4;exact⟨a1,a2,a3,a4⟩,λ h=>by rw[g3.no h,p3]⟩
  have hb:=Us x1;unfold j5;split
  ·have hq:aR (aR (16+M.get 7)-eP (fC code M).op)=16+M.get 7-eP (fC code M).op:=by rw[cV (x:=16+M.get 7) (by omega),cV (by omega)]
   rw[cV (x:=M.get 7-eP (fC code M).op) (by omega),cV (by omega)] at x4;rw[hq];refine⟨(p1.trans g1).set (by omega) _,⟨λ h=>?_,λ h=>?_⟩,.inl ⟨⟨r1,r2,r3,r4⟩,?_,by omega⟩⟩
   ·obtain⟨a1,a2,a3,a4⟩:=hE.yes h;exact⟨a1,a2,a3,(bx (by omega)).trans a4⟩
   ·exact(bx (by omega)).trans (hE.no h)
   ·simp only;rw[bx (by omega),g2,p2]
  ·exact⟨p1.trans g1,hE,.inl ⟨⟨r1,r2,r3,r4⟩,by rw[g2,p2],by omega⟩⟩
 ·rw[if_neg hr];exact⟨.refl,⟨λ h=>by simp at h,λ _=>rfl⟩,.inr ⟨hr,by unfold cQ;rw[if_neg hr],rfl⟩⟩
def l6(n i j fu:Int):Int:=(if j=0 then (n-i)*62 else (n-i-1)*62+fu+1)+1+n
def l5(n i j:Int):Int:=n*(n+1)-(i*(n+1)+j)+l6 n 0 0 0
def OH(n i:Int):Int:=if i=0 then 0 else if i=1 then n-1 else if i=2 then 2*n-3 else 3*n-6
def Qq(n:Int):Int:=if n=2 then 1 else if n=3 then 3 else if n=4 then 6 else if n=5 then 10 else 0
def l4(n R i j r:Int):Int:=(if n<2 then 0 else (R-r)*Qq n-(OH n i+(j-i-1)))+1+l5 n 0 0
def l3(n R i:Int):Int:=n-i+l4 n R 0 1 0
def l2(n R j fu:Int):Int:=(if j=0 then 62 else fu+1)+l3 n R 0
def l1(P n R i j fu:Int):Int:=(if j=0 then (P-i)*62 else (P-i-1)*62+fu+1)+1+l2 n R 0 0
def l0(P n R i:Int):Int:=P-i+l1 P n R 0 0 0
def GN(P n R p i j r fu:Int):Int:=if p=0 then l0 P n R i else if p=1 then l1 P n R i j fu else if p=2 then l2 n R j fu else if p=3 then l3 n R i else if p=4 then l4 n R i j r else if p=5 then l5 n i j else if p=6 then l6 n i j fu else n-i
def QN(P n R p i j r fu:Int):Prop :=
 (p=0/\0<=i/\i<P)\/(p=1/\0<=i/\i<=P/\(j=0\/(j=1/\i<P/\0<=fu/\fu<=60)))\/(p=2/\(j=0\/(j=1/\0<=fu/\fu<=60)))\/(p=3/\0<=i/\i<n)\/
 (p=4/\0<=r/\r<=R/\(2<=n->0<=i/\i<j/\j<n/\(r=R->i=0/\j=1)))\/(p=5/\0<=i/\i<n/\0<=j/\j<=n)\/(p=6/\0<=i/\i<=n/\(j=0\/(j=1/\i<n/\0<=fu/\fu<=60)))\/(p=7/\0<=i/\i<n)
theorem KV(hn:1<=n/\n<=5)(hi:0<=i/\i<n)(hj:0<=j/\j<=n):0<l5 n i j:=by
 unfold l5 l6;obtain h|h|h|h|h:n=1\/n=2\/n=3\/n=4\/n=5:=by omega
 all_goals subst h;simp;omega
theorem DU{R r:Int}(hP:1<=P/\P<=3)(hn:1<=n/\n<=5)(hR:1<=R/\R<=3)(h:QN P n R p i j r fu):0<GN P n R p i j r fu:=by
 have h5:=KV hn (i:=0) (j:=0) (by omega) (by omega);have h4:∀i j r,0<=r->r<=R->(2<=n->0<=i/\i<j/\j<n)-> -9<=(if n<2 then 0 else (R-r)*Qq n-(OH n i+(j-i-1)))->0<l4 n R i j r+9:=λ i j r _ _ _ h=>by unfold l4;omega
 have k4:0<l4 n R 0 1 0:=by
  unfold l4 Qq OH;obtain h|h|h|h|h:n=1\/n=2\/n=3\/n=4\/n=5:=by omega
  all_goals subst h;simp;omega
 have k3:0<l3 n R 0:=by unfold l3;omega
 have k2:∀j fu,(j=0\/(j=1/\0<=fu/\fu<=60))->0<l2 n R j fu:=λ j fu h=>by unfold l2;split <;> omega
 have k20:=k2 0 0 (.inl rfl);have k1:∀i j fu,0<=i->i<=P->(j=0\/(j=1/\i<P/\0<=fu/\fu<=60))->0<l1 P n R i j fu:=λ i j fu _ _ h=>by unfold l1;split <;> omega
 have k10:=k1 0 0 0 (by omega) (by omega) (.inl rfl);rcases h with h|h|h|h|h|h|h|h <;> obtain⟨rfl,h⟩:=h
 ·show 0<l0 P n R i;unfold l0;omega
 ·exact k1 i j fu h.1 h.2.1 h.2.2
 ·exact k2 j fu h
 ·show 0<l3 n R i;unfold l3;omega
 ·show 0<l4 n R i j r;unfold l4;split
  ·omega
  ·obtain⟨h1,h2,h3⟩:=h;obtain⟨h3,h4',h5',-⟩:=h3 (by omega);have:100<l5 n 0 0:=by
    unfold l5 l6;obtain h|h|h|h|h:n=1\/n=2\/n=3\/n=4\/n=5:=by omega
    all_goals first|omega|(subst h;simp)
   have h6:OH n i<=9:=by unfold OH;(repeat' split) <;> omega
   have h7:0<=(R-r)*Qq n:=Int.mul_nonneg (by omega) (by unfold Qq;(repeat' split) <;> omega);omega
 ·exact KV hn ⟨h.1,h.2.1⟩ h.2.2
 ·show 0<l6 n i j fu;unfold l6;split <;> omega
 ·show 0<n-i;omega
abbrev GO(M:MemS):Prop:=M.get 1=0/\M.get 2=0
structure TV(S:Setup)(ins:Nat->Inp)(M:MemS):Prop where
 len:(M.cs.length:Int)=sizeOf S
 t0:0<=M.get 0/\M.get 0<=1000000
 ct:QN S.players S.nb S.rounds (M.get 1) (M.get 2) (M.get 3) (M.get 4) (M.get 8)
 pl:∀q:Nat,(q:Int)<(if M.get 1=0 then M.get 2 else S.players)->M.get (48+4*q)=(ins q).dx/\M.get (48+4*q+1)=(ins q).dy/\M.get (48+4*q+2)=(ins q).act
 ec:GO M\/(0<=M.get 11/\M.get 11<=40)
abbrev oA(S:Setup)(M:MemS):Int:=GN S.players S.nb S.rounds (M.get 1) (M.get 2) (M.get 3) (M.get 4) (M.get 8)
structure Nx(S:Setup)(ins:Nat->Inp)(M:MemS)(r:VR):Prop where
 tv:TV S ins r.M
 lt:oA S r.M<oA S M
 ph:M.get 1<=r.M.get 1
 t0:r.M.get 0=M.get 0
 ns:¬ GO r.M
 yes:r.em=true->¬ GO M/\r.e.t=M.get 0/\r.e.i=M.get 11/\r.M.get 11=M.get 11+1
 no:r.em=false->r.M.get 11=if GO M then 0 else M.get 11
 up:r.M.get 1<=M.get 1+1
theorem TV.l48(hS:SetV S)(h:TV S ins M):48<=M.cs.length:=by
 have:=h.len;have:=hS.pl;unfold sizeOf at *;omega
theorem iI(hS:SetV S){r:VR}{q x:Int}(h:TV S ins M)(hp:1<=M.get 1)(hN:Kp S.players M N)(hlen:r.M.cs.length=N.cs.length)
  (g:∀k,r.M.get k=if k=1 then p else if k=2 then i else if k=3 then j else if k=4 then q else if k=5 then x else N.get k) (h8:N.get 8=fu)
  (hE:Ef M ⟨N,r.v,r.e,r.em⟩) (hc:QN S.players S.nb S.rounds p i j q fu) (X5:M.get 1<=p) (g_:GN S.players S.nb S.rounds p i j q fu<oA S M) (Zp:p<=M.get 1+1:=by omega):Nx S ins M r:=by
 have ha:¬ GO M:=λ e=>by have:=e.1;omega
 have g0:r.M.get 0=M.get 0:=by rw[g];simp;exact hN.get 0 (by omega)
 have g1:r.M.get 1=p:=by rw[g];simp
 have g2:r.M.get 2=i:=by rw[g];simp
 have g3:r.M.get 3=j:=by rw[g];simp
 have g4:r.M.get 4=q:=by rw[g];simp
 have g8:r.M.get 8=fu:=by rw[g];simp;exact h8
 have g11:r.M.get 11=N.get 11:=by rw[g];simp
 have gp:∀k,48<=k->k<48+4*S.players->r.M.get k=M.get k:=λ k h1 h2=>by
  rw[g,if_neg (by omega),if_neg (by omega),if_neg (by omega),if_neg (by omega),if_neg (by omega)];exact hN.get k (by omega)
 have hec:0<=M.get 11/\M.get 11<=40:=by
  rcases h.ec with e|e
  ·exact absurd e ha
  ·exact e
 refine⟨⟨by rw[hlen,hN.len];exact h.len,by rw[g0];exact h.t0,by rw[g1,g2,g3,g4,g8];exact hc,λ k hk=>?_,.inr ?_⟩,?_,by rw[g1];exact X5,g0,λ e=>by rw[GO,g1] at e;have:=e.1;omega,λ e=>?_,λ e=>?_,by rw[g1];exact Zp⟩
 ·rw[g1,if_neg (by omega)] at hk;have:=h.pl k (by rw[if_neg (by omega)];exact hk);rw[gp _ (by omega) (by omega),gp _ (by omega) (by omega),gp _ (by omega) (by omega)];exact this
 ·rw[g11];cases he:r.em with
  |true=>obtain⟨a,b,c,d⟩:=hE.yes he;simp only at d;omega
  |false=>have:=hE.no he;simp only at this;omega
 ·unfold oA;rw[g1,g2,g3,g4,g8];exact g_
 ·obtain⟨a,b,c,d⟩:=hE.yes e;exact⟨ha,a,b,by rw[g11];exact d⟩
 ·rw[if_neg ha,g11];exact hE.no e
theorem Hi.kp(h:Hi P M N)(hP:0<=P):Kp P M N:=⟨h.len,λ j hj=>h.get j (by omega)⟩
theorem Hi.ef(h:Hi P M N)(hP:0<=P){v:Int}{e:Eff}:Ef M ⟨N,v,e,false⟩:=⟨λ h=>by simp at h,λ _=>h.get 11 (by omega)⟩
theorem kC(h:48<=M.cs.length)(t:Stp)(a b j:Int):(bd t a b M).get j=if j=3 then b else if j=2 then 0 else if j=1 then a else M.get j:=by
 unfold bd;rw[bJ (by simp only[aP];exact h) (by omega) (by omega),bJ (by simp only[aP];exact h) (by omega) (by omega),bJ h (by omega) (by omega)]
theorem gj(t:Stp):(bd t a b M).cs.length=M.cs.length:=by unfold bd;simp only[aP]
theorem if5{q x z:Int}{f:Int->Int}(h:(if k=3 then j else if k=2 then i else if k=1 then p else f k)=z)(hq:q=f 4)(hx:x=f 5):z=if k=1 then p else if k=2 then i else if k=3 then j else if k=4 then q else if k=5 then x else f k:=by
 subst h hq hx
 by_cases e1:k=1
 ·subst e1;simp
 by_cases e2:k=2
 ·subst e2;simp
 by_cases e3:k=3
 ·subst e3;simp
 by_cases e4:k=4
 ·subst e4;simp
 by_cases e5:k=5
 ·subst e5;simp
 simp[e1,e2,e3,e4,e5]
theorem Ut{z:Int}{f:Int->Int}(h:(if k=2 then i else f k)=z):z=if k=1 then f 1 else if k=2 then i else if k=3 then f 3 else if k=4 then f 4 else if k=5 then f 5 else f k:=by
 subst h
 by_cases e1:k=1
 ·subst e1;simp
 by_cases e2:k=2
 ·subst e2;simp
 by_cases e3:k=3
 ·subst e3;simp
 by_cases e4:k=4
 ·subst e4;simp
 by_cases e5:k=5
 ·subst e5;simp
 simp[e1,e2,e3,e4,e5]
theorem KW(hS:SetV S)(ht:t.S=S)(M:MemS):Hi S.players M (eC t (eU t M)):=by
 have hp:0<=S.players:=by have:=hS.pl;omega
 subst ht;have ha:Hi t.S.players M (eU t M):=by
  unfold eU;split
  ·exact(Hi.refl).setB hp (by omega) (by omega) _
  ·exact .refl
 unfold eC;split
 ·next hm=>
  have hb:af t.S t.i>=0:=by
   rcases pm hp t.i with e|⟨_,_,e⟩
   ·unfold af at e;rw[if_neg (by have:=hm.1;omega),if_neg (by have:=hm.1;omega)] at e;have:=hm.1;omega
   ·omega
  exact(ha.setB hp hb (by omega) _).setB hp hb (by omega) _
 ·exact ha
theorem q3(hS:SetV S)(hg:g.S=S)(h:TV S ins M)(hp:M.get 1=3):Nx S ins M ⟨dW (g.step M) M,0,aL,false⟩:=by
 have hpl:=hS.pl;have hnb:=hS.nb;have Vy:=hS.ro;have hc:0<=M.get 2/\M.get 2<S.nb:=by rcases h.ct with h|h|h|h|h|h|h|h <;> omega
 have hh:=KW hS (t:=g.step M) hg M;have hl:=h.l48 hS;unfold dW ge;generalize eC (g.step M) (eU (g.step M) M)=N at *;have Vn:48<=N.cs.length:=by rw[hh.len];exact hl
 have e1:=hh.get 1 (by omega);have e2:=hh.get 2 (by omega);have e3:=hh.get 3 (by omega);have e4:=hh.get 4 (by omega);have e8:=hh.get 8 (by omega);show Nx S ins M ⟨if aR (M.get 2+1)<g.S.nb then N.set 2 (aR (M.get 2+1)) else _,0,aL,false⟩;rw[cV (by omega),hg];split
 ·refine iI hS h (by omega) (hh.kp (by omega)) (aP) (λ k=>Ut (f:=N.get) (bJ Vn (by omega) (by omega) k).symm) e8 (hh.ef (by omega)) ?_ (by omega) ?_
  ·rw[e1,e3,e4,hp];exact .inr (.inr (.inr (.inl ⟨rfl,by omega,by omega⟩)))
  ·unfold oA;rw[e1,e3,e4,hp];show l3 S.nb S.rounds (M.get 2+1)<l3 S.nb S.rounds (M.get 2);unfold l3;omega
 ·refine iI hS h (by omega) (hh.kp (by omega)) ((aP).trans (gj _)) (p:=4) (i:=0) (j:=1) (q:=0) (x:=N.get 5) (λ k=>?_) e8 (hh.ef (by omega)) ?_ (by omega) ?_
  ·rw[bJ (by rw[gj];exact Vn) (by omega) (by omega),kC Vn]
   by_cases k4:k=4
   ·subst k4;simp
   ·rw[if_neg k4]
    by_cases k1:k=1
    ·subst k1;simp
    by_cases k2:k=2
    ·subst k2;simp
    by_cases k3:k=3
    ·subst k3;simp
    by_cases k5:k=5
    ·subst k5;simp
    simp[k1,k2,k3,k4,k5]
  ·exact .inr (.inr (.inr (.inr (.inl ⟨rfl,by omega,by omega,λ _=>by omega⟩))))
  ·unfold oA;rw[hp];show l4 S.nb S.rounds 0 1 0<l3 S.nb S.rounds (M.get 2);unfold l3;omega
theorem qb(hp:0<=S.players)(h:0<=k/\k<S.nb):af S k>=0:=by
 unfold af;rw[if_neg (by omega),if_neg (by omega)];omega
theorem Hi.setMot(hp:0<=S.players)(h:Hi S.players A M)(ht:t.S=S)(hb:af S k>=0)(m:Mot):Hi S.players A (dh t k m M):=by
 subst ht;unfold dh;exact(((h.setB hp hb (by omega) _).setB hp hb (by omega) _).setB hp hb (by omega) _).setB hp hb (by omega) _
theorem KX(hS:SetV S)(ht:t.S=S)(M:MemS):Hi S.players M (dE t M):=by
 have hp:0<=S.players:=by have:=hS.pl;omega
 unfold dE;rw[ht];split
 ·next h1=>
  split
  ·next h2=>
   split
   ·have b1:=qb hp h1;have b2:=qb hp h2;unfold fH;rw[ht];exact(((((Hi.refl).setMot hp ht b1 _).setMot hp ht b2 _).setB hp b1 (by omega) _).setB hp b2 (by omega) _)
   ·exact .refl
  ·exact .refl
 ·exact .refl
theorem q4(hS:SetV S)(hg:g.S=S)(h:TV S ins M)(hp:M.get 1=4):Nx S ins M ⟨bA (g.step M) M,0,aL,false⟩:=by
 have hpl:=hS.pl;have hnb:=hS.nb;have Vy:=hS.ro;have hc:0<=M.get 4/\M.get 4<=S.rounds/\(2<=(S.nb:Int)->0<=M.get 2/\M.get 2<M.get 3/\M.get 3<S.nb/\(M.get 4=S.rounds->M.get 2=0/\M.get 3=1)):=by rcases h.ct with h|h|h|h|h|h|h|h <;> omega
 have hl:=h.l48 hS;have hh:=KX hS (t:=g.step M) hg M;have fin:oA S M>l5 S.nb 0 0->Nx S ins M ⟨(bd (g.step M) 5 0 M).set 5 1024,0,aL,false⟩:=λ g_=>by
  refine iI hS h (by omega) ((Hi.refl (P:=S.players)).kp (by omega)) ((aP).trans (gj _)) (p:=5) (i:=0) (j:=0) (q:=M.get 4) (x:=1024) (fu:=M.get 8) (λ k=>?_) rfl ((Hi.refl (P:=S.players)).ef (by omega)) (.inr (.inr (.inr (.inr (.inr (.inl ⟨rfl,by omega,by omega,by omega,by omega⟩)))))) (by omega) g_;rw[bJ (by rw[gj];exact hl) (by omega) (by omega),kC hl]
  by_cases k5:k=5
  ·subst k5;simp
  ·rw[if_neg k5]
   by_cases k1:k=1
   ·subst k1;simp
   by_cases k2:k=2
   ·subst k2;simp
   by_cases k3:k=3
   ·subst k3;simp
   by_cases k4:k=4
   ·subst k4;simp
   simp[k1,k2,k3,k4,k5]
 have e4l:oA S M=l4 S.nb S.rounds (M.get 2) (M.get 3) (M.get 4):=by unfold oA;rw[hp];rfl
 unfold bA;show Nx S ins M ⟨if (g.S.nb:Int)<2 then _ else if M.get 4>=g.S.rounds then _ else _,0,aL,false⟩;rw[hg];split
 ·next h2=>exact fin (by rw[e4l];unfold l4;rw[if_pos h2];omega)
 split
 ·next h2 h3=>
  refine fin ?_;have e:M.get 4=S.rounds:=by omega
  obtain⟨c1,c2,c3,c4⟩:=hc.2.2 (by omega);obtain⟨d1,d2⟩:=c4 e;rw[e4l,e,d1,d2];unfold l4;rw[if_neg (by omega),Int.sub_self,Int.zero_mul];show _>_;unfold OH;simp only[if_true];omega
 next h2 h3=>
 obtain⟨c1,c2,c3,-⟩:=hc.2.2 (by omega);show Nx S ins M ⟨(((dE (g.step M) M).set 4 (dp (M.get 2) (M.get 3) g.S.nb (M.get 4)).1).set 2 (dp (M.get 2) (M.get 3) g.S.nb (M.get 4)).2.1).set 3 (dp (M.get 2) (M.get 3) g.S.nb (M.get 4)).2.2,0,aL,false⟩;rw[hg];generalize dE (g.step M) M=N at *;have Vn:48<=N.cs.length:=by rw[hh.len];exact hl
 have e1:=hh.get 1 (by omega);have e5:=hh.get 5 (by omega);have e8:=hh.get 8 (by omega);have hq:(0<=(dp (M.get 2) (M.get 3) S.nb (M.get 4)).1/\(dp (M.get 2) (M.get 3) S.nb (M.get 4)).1<=S.rounds)/\(0<=(dp (M.get 2) (M.get 3) S.nb (M.get 4)).2.1/\(dp (M.get 2) (M.get 3) S.nb (M.get 4)).2.1<(dp (M.get 2) (M.get 3) S.nb (M.get 4)).2.2/\(dp (M.get 2) (M.get 3) S.nb (M.get 4)).2.2<S.nb/\((dp (M.get 2) (M.get 3) S.nb (M.get 4)).1=S.rounds->(dp (M.get 2) (M.get 3) S.nb (M.get 4)).2.1=0/\(dp (M.get 2) (M.get 3) S.nb (M.get 4)).2.2=1))/\
   l4 S.nb S.rounds (dp (M.get 2) (M.get 3) S.nb (M.get 4)).2.1 (dp (M.get 2) (M.get 3) S.nb (M.get 4)).2.2 (dp (M.get 2) (M.get 3) S.nb (M.get 4)).1<l4 S.nb S.rounds (M.get 2) (M.get 3) (M.get 4):=by
  have hn2:(2:Int)<=S.nb/\(S.nb:Int)<=5:=by omega
  have X2:M.get 4<S.rounds:=by omega
  have hq0:=hc.1;unfold dp;rw[cV (by omega),cV (by omega),cV (by omega),cV (by omega)];clear e1 e5 e8 e4l fin hc h;generalize M.get 2=i at *;generalize M.get 3=j at *;generalize M.get 4=q at *;generalize S.rounds=R at *;generalize (S.nb:Int)=n at *;split
  ·simp only;refine⟨⟨by omega,by omega⟩,⟨by omega,by omega,by omega,λ e=>by omega⟩,?_⟩;unfold l4;rw[if_neg (by omega),if_neg (by omega)];omega
  ·split
   ·refine⟨⟨by simp only;omega,by simp only;omega⟩,⟨by simp only;omega,by simp only;omega,by simp only;omega,λ e=>by simp only at e;omega⟩,?_⟩;simp only;unfold l4 OH Qq;obtain h|h|h|h:n=2\/n=3\/n=4\/n=5:=by omega
    all_goals subst h
    all_goals (have:i=0\/i=1\/i=2:=by omega)
    all_goals (rcases this with rfl|rfl|rfl)
    all_goals first|omega|(simp;omega)
   ·refine⟨⟨by simp only;omega,by simp only;omega⟩,⟨by simp only;omega,by simp only;omega,by simp only;omega,λ e=>⟨rfl,rfl⟩⟩,?_⟩;simp only;unfold l4 OH Qq;obtain h|h|h|h:n=2\/n=3\/n=4\/n=5:=by omega
    all_goals subst h
    all_goals (have:i=0\/i=1\/i=2\/i=3:=by omega)
    all_goals (rcases this with rfl|rfl|rfl|rfl)
    all_goals first|omega|(simp;omega)
 generalize dp (M.get 2) (M.get 3) S.nb (M.get 4)=z at *;refine iI hS h (by omega) (hh.kp (by omega)) (by simp only[aP]) (p:=4) (i:=z.2.1) (j:=z.2.2) (q:=z.1) (x:=N.get 5) (λ k=>?_) e8 (hh.ef (by omega)) (.inr (.inr (.inr (.inr (.inl ⟨rfl,hq.1.1,hq.1.2,λ _=>hq.2.1⟩))))) (by omega) (by rw[e4l];exact hq.2.2);rw[bJ (by simp only[aP];exact Vn) (by omega) (by omega),bJ (by simp only[aP];exact Vn) (by omega) (by omega),bJ Vn (by omega) (by omega)]
 by_cases k1:k=1
 ·subst k1;simp;omega
 by_cases k2:k=2
 ·subst k2;simp
 by_cases k3:k=3
 ·subst k3;simp
 by_cases k4:k=4
 ·subst k4;simp
 by_cases k5:k=5
 ·subst k5;simp
 simp[k1,k2,k3,k4,k5]
theorem zT(hp:0<=S.players)(h:Hi S.players A M){c d:Int}(hb:af S k>=0)(hc:0<=c)(hd:0<=d){pos lo hi:Int}:Hi S.players A (dL t (af S k+c) (af S k+d) pos lo hi M):=by
 unfold dL;split
 ·exact h.setB hp hb hc _
 ·exact(h.setB hp hb hc _).setB hp hb hd _
theorem Gk(hp:0<=S.players)(ht:t.S=S)(M:MemS)(hb:af S t.i>=0):Hi S.players M (cL t M):=by
 subst ht;unfold cL;exact zT hp (zT hp .refl hb (by omega) (by omega)) hb (by omega) (by omega)
theorem KY(t:Stp)(hl:48<=M.cs.length)(k:Int):(eI t M).get k=(if k=5 then (eI t M).get 5 else M.get k)/\(eI t M).cs.length=M.cs.length:=by
 have id5:M.get k=if k=5 then M.get 5 else M.get k:=by
  by_cases e:k=5
  ·rw[if_pos e,e]
  ·rw[if_neg e]
 unfold eI;split
 ·exact⟨id5,rfl⟩
 ·split
  ·split
   ·refine⟨?_,aP⟩;rw[bJ hl (by omega) (by omega),bJ hl (by omega) (by omega)];split <;> simp
   ·exact⟨id5,rfl⟩
  ·exact⟨id5,rfl⟩
theorem q5(hS:SetV S)(hg:g.S=S)(h:TV S ins M)(hp:M.get 1=5):Nx S ins M ⟨dJ (g.step M) M,0,aL,false⟩:=by
 have hpl:=hS.pl;have hnb:=hS.nb;have Vy:=hS.ro;have hc:(0<=M.get 2/\M.get 2<S.nb)/\0<=M.get 3/\M.get 3<=S.nb:=by rcases h.ct with h|h|h|h|h|h|h|h <;> omega
 have hl:=h.l48 hS;have e5l:oA S M=l5 S.nb (M.get 2) (M.get 3):=by unfold oA;rw[hp];rfl
 unfold dJ;show Nx S ins M ⟨if 0<=M.get 3/\M.get 3<g.S.nb then (eI (g.step M) M).set 3 (aR (M.get 3+1)) else fI (g.step M) (if movP g.S (M.get 2) then cL (g.step M) M else M),0,aL,false⟩;rw[hg];split
 ·next hj=>
  rw[cV (by omega)];have ht:=KY (g.step M) hl;refine iI hS h (by omega) ((Hi.refl (P:=S.players)).kp (by omega)) ((aP).trans (ht 0).2) (p:=5) (i:=M.get 2) (j:=M.get 3+1) (q:=M.get 4) (x:=(eI (g.step M) M).get 5) (fu:=M.get 8) (λ k=>?_) rfl ((Hi.refl (P:=S.players)).ef (by omega)) (.inr (.inr (.inr (.inr (.inr (.inl ⟨rfl,by omega,by omega,by omega,by omega⟩)))))) (by omega) ?_
  ·rw[bJ (by rw[(ht 0).2];exact hl) (by omega) (by omega),(ht k).1]
   by_cases k1:k=1
   ·subst k1;simp;omega
   by_cases k2:k=2
   ·subst k2;simp
   by_cases k3:k=3
   ·subst k3;simp
   by_cases k4:k=4
   ·subst k4;simp
   by_cases k5:k=5
   ·subst k5;simp
   simp[k1,k2,k3,k4,k5]
  ·rw[e5l];show l5 S.nb (M.get 2) (M.get 3+1)<_;unfold l5;omega
 ·next hj=>
  have ej:M.get 3=S.nb:=by omega
  have hh:Hi S.players M (if movP S (M.get 2) then cL (g.step M) M else M):=by
   split
   ·next hm=>exact Gk (by omega) hg M (qb (by omega) hc.1)
   ·exact .refl
  generalize (if movP S (M.get 2) then cL (g.step M) M else M)=N at *;have Vn:48<=N.cs.length:=by rw[hh.len];exact hl
  have e1:=hh.get 1 (by omega);have e4:=hh.get 4 (by omega);have e8:=hh.get 8 (by omega);unfold fI;show Nx S ins M ⟨if aR (M.get 2+1)<g.S.nb then ((N.set 2 (aR (M.get 2+1))).set 3 0).set 5 1024 else (bd (g.step M) 6 0 N).set 5 0,0,aL,false⟩;rw[cV (by omega),hg];split
  ·refine iI hS h (by omega) (hh.kp (by omega)) (by simp only[aP]) (p:=5) (i:=M.get 2+1) (j:=0) (q:=N.get 4) (x:=1024) (λ k=>?_) e8 (hh.ef (by omega)) (.inr (.inr (.inr (.inr (.inr (.inl ⟨rfl,by omega,by omega,by omega,by omega⟩)))))) (by omega) ?_
   ·rw[bJ (by simp only[aP];exact Vn) (by omega) (by omega),bJ (by simp only[aP];exact Vn) (by omega) (by omega),bJ Vn (by omega) (by omega)]
    by_cases k1:k=1
    ·subst k1;simp;omega
    by_cases k2:k=2
    ·subst k2;simp
    by_cases k3:k=3
    ·subst k3;simp
    by_cases k4:k=4
    ·subst k4;simp
    by_cases k5:k=5
    ·subst k5;simp
    simp[k1,k2,k3,k4,k5]
   ·rw[e5l,ej];show l5 S.nb (M.get 2+1) 0<_;unfold l5;generalize M.get 2=i at *;obtain h|h|h|h|h:(S.nb:Int)=1\/(S.nb:Int)=2\/(S.nb:Int)=3\/(S.nb:Int)=4\/(S.nb:Int)=5:=by omega
    all_goals rw[h];omega
  ·refine iI hS h (by omega) (hh.kp (by omega)) ((aP).trans (gj _)) (p:=6) (i:=0) (j:=0) (q:=N.get 4) (x:=0) (λ k=>?_) e8 (hh.ef (by omega)) (.inr (.inr (.inr (.inr (.inr (.inr (.inl ⟨rfl,by omega,by omega,.inl rfl⟩))))))) (by omega) ?_
   ·rw[bJ (by rw[gj];exact Vn) (by omega) (by omega),kC Vn]
    by_cases k1:k=1
    ·subst k1;simp
    by_cases k2:k=2
    ·subst k2;simp
    by_cases k3:k=3
    ·subst k3;simp
    by_cases k4:k=4
    ·subst k4;simp
    by_cases k5:k=5
    ·subst k5;simp
    simp[k1,k2,k3,k4,k5]
   ·rw[e5l,ej];show l6 S.nb 0 0 _<_;unfold l5 l6;generalize M.get 2=i at *;obtain h|h|h|h|h:(S.nb:Int)=1\/(S.nb:Int)=2\/(S.nb:Int)=3\/(S.nb:Int)=4\/(S.nb:Int)=5:=by omega
    all_goals rw[h];simp;omega
theorem zU{e:Int}(hl:48<=M.cs.length)(he:¬ e<0):Kp P M (aN e fu a b M)/\(aN e fu a b M).get 8=fu/\(aN e fu a b M).get 11=M.get 11:=by
 unfold aN;rw[if_neg he];refine⟨(((((Kp.refl).set (by omega) _).set (by omega) _).set (by omega) _).set (by omega) _).set (by omega) _,?_,?_⟩
 ·rw[bx (by decide),bx (by decide),jM (by simp only[aP];omega)]
 ·rw[bx (by decide),bx (by decide),bx (by decide),bx (by decide),bx (by decide)]
theorem DV(hS:SetV S)(hg:g.S=S)(h:TV S ins M)(hp:M.get 1=p)(hp1:1<=p)(e a:Int) {o:Int}{c:Bool}(hi:0<=M.get 2/\M.get 2<=5)(hj:M.get 3=0\/(M.get 3=1/\0<=M.get 8/\M.get 8<=60))
  (hc0:∀fu,QN S.players S.nb S.rounds p (M.get 2+1) 0 (M.get 4) fu) (hc1:∀fu,0<=fu->fu<=60->QN S.players S.nb S.rounds p (M.get 2) 1 (M.get 4) fu)
  (l0:∀f f',GN S.players S.nb S.rounds p (M.get 2+1) 0 (M.get 4) f<GN S.players S.nb S.rounds p (M.get 2) 0 (M.get 4) f') (l1:∀f fu,fu<=60->GN S.players S.nb S.rounds p (M.get 2) 1 (M.get 4) fu<GN S.players S.nb S.rounds p (M.get 2) 0 (M.get 4) f)
  (l2:∀f f',0<=f'->GN S.players S.nb S.rounds p (M.get 2+1) 0 (M.get 4) f<GN S.players S.nb S.rounds p (M.get 2) 1 (M.get 4) f') (l3:∀f,GN S.players S.nb S.rounds p (M.get 2) 1 (M.get 4) (f-1)<GN S.players S.nb S.rounds p (M.get 2) 1 (M.get 4) f) :
  Nx S ins M (dm (eH e (g.step M) a o M) (dt e (g.step M) a o M) (g.step M) c M).z:=by
 have hl:=h.l48 hS;have hpl:=hS.pl;have hec:0<=M.get 11/\M.get 11<=40:=by
  rcases h.ec with e|e
  ·have:=e.1;omega
  ·exact e
 have skip:M.get 3=0->Nx S ins M ⟨M.set 2 (aR (M.get 2+1)),0,aL,false⟩:=λ V7=>by
  rw[cV (by omega)];refine iI hS h (by omega) ((Hi.refl (P:=S.players)).kp (by omega)) (aP) (p:=M.get 1) (i:=M.get 2+1) (j:=M.get 3) (q:=M.get 4) (x:=M.get 5) (fu:=M.get 8) (λ k=>Ut (f:=M.get) (bJ hl (by omega) (by omega) k).symm) rfl ((Hi.refl (P:=S.players)).ef (by omega)) ?_ (by omega) ?_
  ·rw[hp,V7];exact hc0 _
  ·unfold oA;rw[hp,V7];exact l0 _ _
 unfold dm eH dt;show Nx S ins M (VR.z (if M.get 3=0 then _ else _))
 by_cases V7:M.get 3=0
 ·rw[if_pos V7];cases c with
  |false=>exact skip V7
  |true=>
   rw[if_pos rfl]
   by_cases he:e<0
   ·show Nx S ins M (VR.z (if (if M.get 3=0 then decide (e<0) else _)=true then _ else _));rw[if_pos V7,if_pos (by simpa using he)];show Nx S ins M ⟨(if M.get 3=0 then (if e<0 then (⟨aN e _ a o M,0,_,_⟩:VR) else _) else _).M.set 2 _,0,(if M.get 3=0 then (if e<0 then (⟨aN e _ a o M,0,_,_⟩:VR) else _) else _).e,(if M.get 3=0 then (if e<0 then (⟨aN e _ a o M,0,_,_⟩:VR) else _) else _).em⟩;rw[if_pos V7,if_pos he];show Nx S ins M ⟨(aN e _ a o M).set 2 _,0,aL,false⟩;rw[show aN e g.S.fuel a o M=M by unfold aN;rw[if_pos he]];exact skip V7
   ·show Nx S ins M (VR.z (if (if M.get 3=0 then decide (e<0) else _)=true then _ else _));rw[if_pos V7,if_neg (by simpa using he)];show Nx S ins M ⟨(if M.get 3=0 then (if e<0 then _ else (⟨(aN e g.S.fuel a o M).set 3 1,0,aL,false⟩:VR)) else _).M,0,(if M.get 3=0 then (if e<0 then _ else (⟨(aN e g.S.fuel a o M).set 3 1,0,aL,false⟩:VR)) else _).e,(if M.get 3=0 then (if e<0 then _ else (⟨(aN e g.S.fuel a o M).set 3 1,0,aL,false⟩:VR)) else _).em⟩;rw[if_pos V7,if_neg he,hg];obtain⟨s1,s2,s3⟩:=zU (P:=S.players) (M:=M) (fu:=S.fuel) (a:=a) (b:=o) hl he;generalize aN e S.fuel a o M=N at *;have Vn:48<=N.cs.length:=by rw[s1.len];exact hl
    refine iI hS h (by omega) s1 (aP) (p:=p) (i:=M.get 2) (j:=1) (q:=M.get 4) (x:=M.get 5) (fu:=S.fuel) (λ k=>?_) s2 ⟨λ h=>by simp at h,λ _=>s3⟩ ?_ (by omega) ?_
    ·rw[bJ Vn (by omega) (by omega)];have n1:=s1.get 1 (by omega);have n2:=s1.get 2 (by omega);have n4:=s1.get 4 (by omega);have n5:=s1.get 5 (by omega)
     by_cases k1:k=1
     ·subst k1;simp;omega
     by_cases k2:k=2
     ·subst k2;simp;omega
     by_cases k3:k=3
     ·subst k3;simp
     by_cases k4:k=4
     ·subst k4;simp;omega
     by_cases k5:k=5
     ·subst k5;simp;omega
     simp[k1,k2,k3,k4,k5]
    ·exact hc1 S.fuel hS.fu.1 hS.fu.2
    ·unfold oA;rw[hp,V7];exact l1 _ _ hS.fu.2
 ·rw[if_neg V7];obtain⟨hj1,hf⟩:M.get 3=1/\(0<=M.get 8/\M.get 8<=60):=by omega
  obtain⟨s1,s2,s3⟩:=zS hS (M:=M) (code:=g.code) (n:=g.cn) hl hec hf;show Nx S ins M (VR.z (if (if M.get 3=0 then _ else cQ g.code g.cn M)=true then _ else _));rw[if_neg V7];show Nx S ins M (VR.z (if cQ g.code g.cn M=true then ⟨((if M.get 3=0 then _ else (⟨(aj g.S g.code g.cn M).M,0,(aj g.S g.code g.cn M).e,(aj g.S g.code g.cn M).em⟩:VR)).M.set 3 0).set 2 _,0,(if M.get 3=0 then _ else (⟨(aj g.S g.code g.cn M).M,0,(aj g.S g.code g.cn M).e,(aj g.S g.code g.cn M).em⟩:VR)).e,(if M.get 3=0 then _ else (⟨(aj g.S g.code g.cn M).M,0,(aj g.S g.code g.cn M).e,(aj g.S g.code g.cn M).em⟩:VR)).em⟩ else ⟨(if M.get 3=0 then _ else (⟨(aj g.S g.code g.cn M).M,0,(aj g.S g.code g.cn M).e,(aj g.S g.code g.cn M).em⟩:VR)).M,0,(if M.get 3=0 then _ else (⟨(aj g.S g.code g.cn M).M,0,(aj g.S g.code g.cn M).e,(aj g.S g.code g.cn M).em⟩:VR)).e,(if M.get 3=0 then _ else (⟨(aj g.S g.code g.cn M).M,0,(aj g.S g.code g.cn M).e,(aj g.S g.code g.cn M).em⟩:VR)).em⟩));rw[if_neg V7,hg];generalize aj S g.code g.cn M=r at *;have Vn:48<=r.M.cs.length:=by rw[s1.len];exact hl
  have n1:=s1.get 1 (by omega);have n2:=s1.get 2 (by omega);have n3:=s1.get 3 (by omega);have n4:=s1.get 4 (by omega);have n5:=s1.get 5 (by omega)
  by_cases he:cQ g.code g.cn M=true
  ·rw[if_pos he];show Nx S ins M ⟨(r.M.set 3 0).set 2 (aR (M.get 2+1)),0,r.e,r.em⟩;rw[cV (by omega)];refine iI hS h (by omega) s1 (by simp only[aP]) (p:=p) (i:=M.get 2+1) (j:=0) (q:=M.get 4) (x:=M.get 5) (fu:=r.M.get 8) (λ k=>?_) rfl ⟨s2.yes,s2.no⟩ (hc0 _) (by omega) ?_
   ·rw[bJ (by simp only[aP];exact Vn) (by omega) (by omega),bJ Vn (by omega) (by omega)]
    by_cases k1:k=1
    ·subst k1;simp;omega
    by_cases k2:k=2
    ·subst k2;simp
    by_cases k3:k=3
    ·subst k3;simp
    by_cases k4:k=4
    ·subst k4;simp;omega
    by_cases k5:k=5
    ·subst k5;simp;omega
    simp[k1,k2,k3,k4,k5]
   ·unfold oA;rw[hp,hj1];exact l2 _ _ hf.1
  ·rw[if_neg he];show Nx S ins M ⟨r.M,0,r.e,r.em⟩;rcases s3 with ⟨s4,s5,s6⟩|⟨s4,s5,s6⟩
   ·refine iI hS h (by omega) s1 rfl (p:=p) (i:=M.get 2) (j:=1) (q:=M.get 4) (x:=M.get 5) (fu:=M.get 8-1) (λ k=>?_) s5 ⟨s2.yes,s2.no⟩ (hc1 _ (by omega) (by omega)) (by omega) ?_
    ·show r.M.get k=_
     by_cases k1:k=1
     ·subst k1;simp;omega
     by_cases k2:k=2
     ·subst k2;simp;omega
     by_cases k3:k=3
     ·subst k3;simp;omega
     by_cases k4:k=4
     ·subst k4;simp;omega
     by_cases k5:k=5
     ·subst k5;simp;omega
     simp[k1,k2,k3,k4,k5]
    ·unfold oA;rw[hp,hj1];exact l3 _
   ·exact absurd s5 he
end
section
variable {Aa Ab:Option Addr} {F TB:HL} {M:MemS} {S S1 S2:Setup} {b bp cb i j1 j2 n o:Nat} {g:Gm} {ins:Nat->Inp} {t:Int} {xs:List Inp}
theorem KZ(hS:SetV S)(h:TV S ins M)(h1:1<=M.get 1){p:Int}(hc:QN S.players S.nb S.rounds p 0 0 (M.get 4) (M.get 8))(hp:M.get 1<=p)(hl:GN S.players S.nb S.rounds p 0 0 (M.get 4) (M.get 8)<oA S M)(Zp:p<=M.get 1+1:=by omega) :
  Nx S ins M ⟨bd (g.step M) p 0 M,0,aL,false⟩:=by
 have ai2:=h.l48 hS;have hpl:=hS.pl;refine iI hS h h1 ((Hi.refl (P:=S.players)).kp (by omega)) (gj (g.step M)) (p:=p) (i:=0) (j:=0) (q:=M.get 4) (x:=M.get 5) (fu:=M.get 8) (λ k=>?_) rfl ((Hi.refl (P:=S.players)).ef (by omega)) hc hp hl;exact if5 (f:=M.get) (kC ai2 (g.step M) _ _ k).symm rfl rfl
theorem q1(hS:SetV S)(hg:g.S=S)(h:TV S ins M)(hp:M.get 1=1):Nx S ins M (fO (g.step M) M):=by
 have hpl:=hS.pl;have hnb:=hS.nb;have Vy:=hS.ro;have hc:0<=M.get 2/\M.get 2<=S.players/\(M.get 3=0\/(M.get 3=1/\M.get 2<S.players/\0<=M.get 8/\M.get 8<=60)):=by rcases h.ct with h|h|h|h|h|h|h|h <;> omega
 unfold fO;show Nx S ins M (if ai g.S (M.get 2)<0 then ⟨bd (g.step M) 2 0 M,0,aL,false⟩ else _);rw[hg];rcases vB (S:=S) (M.get 2) with ⟨e,e2⟩|⟨e1,e2,e3⟩
 ·rw[e,if_pos (by decide)];have ei:M.get 2=S.players:=by omega
  refine KZ hS h (by omega) (.inr (.inr (.inl ⟨rfl,.inl rfl⟩))) (by omega) ?_;unfold oA;rw[hp];show l2 _ _ 0 _<l1 _ _ _ (M.get 2) (M.get 3) (M.get 8);have:M.get 3=0:=by omega
  rw[this,ei];unfold l1 l2;simp;omega
 ·rw[if_neg (by omega)];refine DV hS hg h hp (by omega) g.e0 (M.get 2) (by omega) (by omega) (λ fu=>.inr (.inl ⟨rfl,by omega,by omega,.inl rfl⟩)) (λ fu f0 f1=>.inr (.inl ⟨rfl,by omega,by omega,.inr ⟨rfl,by omega,f0,f1⟩⟩)) (λ f f'=>?_) (λ f fu hfu=>?_) (λ f f' hf=>?_) (λ f=>?_)
  all_goals (show l1 _ _ _ _ _ _<l1 _ _ _ _ _ _;unfold l1;simp;omega)
theorem q6(hS:SetV S)(hg:g.S=S)(h:TV S ins M)(hp:M.get 1=6):Nx S ins M (fP (g.step M) M):=by
 have hpl:=hS.pl;have hnb:=hS.nb;have Vy:=hS.ro;have hc:0<=M.get 2/\M.get 2<=S.nb/\(M.get 3=0\/(M.get 3=1/\M.get 2<S.nb/\0<=M.get 8/\M.get 8<=60)):=by rcases h.ct with h|h|h|h|h|h|h|h <;> omega
 unfold fP;show Nx S ins M (if af g.S (M.get 2)<0 then ⟨bd (g.step M) 7 0 M,0,aL,false⟩ else _);rw[hg]
 by_cases hb:af S (M.get 2)<0
 ·rw[if_pos hb];have ei:M.get 2=S.nb:=by
   unfold af at hb;rw[if_neg (by omega)] at hb;split at hb <;> omega
  refine KZ hS h (by omega) (.inr (.inr (.inr (.inr (.inr (.inr (.inr ⟨rfl,by omega,by omega⟩))))))) (by omega) ?_;unfold oA;rw[hp];show (S.nb:Int)-0<l6 _ (M.get 2) (M.get 3) (M.get 8);have:M.get 3=0:=by omega
  rw[this,ei];unfold l6;simp;omega
 ·rw[if_neg hb];have hi:M.get 2<S.nb:=by
   rcases pm (S:=S) (by omega) (M.get 2) with e|⟨_,e,_⟩ <;> omega
  refine DV hS hg h hp (by omega) g.e2 (M.get 2) (by omega) (by omega) (λ fu=>.inr (.inr (.inr (.inr (.inr (.inr (.inl ⟨rfl,by omega,by omega,.inl rfl⟩))))))) (λ fu f0 f1=>.inr (.inr (.inr (.inr (.inr (.inr (.inl ⟨rfl,by omega,by omega,.inr ⟨rfl,by omega,f0,f1⟩⟩))))))) (λ f f'=>?_) (λ f fu hfu=>?_) (λ f f' hf=>?_) (λ f=>?_)
  all_goals (show l6 _ _ _ _<l6 _ _ _ _;unfold l6;simp;omega)
theorem q2(hS:SetV S)(hg:g.S=S)(h:TV S ins M)(hp:M.get 1=2):Nx S ins M (dC (g.step M) M):=by
 have hpl:=hS.pl;have hnb:=hS.nb;have Vy:=hS.ro;have hl:=h.l48 hS;have hec:0<=M.get 11/\M.get 11<=40:=by
  rcases h.ec with e|e
  ·have:=e.1;omega
  ·exact e
 have hj:M.get 3=0\/(M.get 3=1/\0<=M.get 8/\M.get 8<=60):=by rcases h.ct with h|h|h|h|h|h|h|h <;> omega
 have done:∀ (N:MemS) (e:Eff) (em:Bool),Kp S.players M N->Ef M ⟨N,0,e,em⟩->Nx S ins M ⟨bd (g.step M) 3 0 N,0,e,em⟩:=λ N e em hN hE=>by
  have Vn:48<=N.cs.length:=by rw[hN.len];exact hl
  refine iI hS h (by omega) hN (gj (g.step M)) (p:=3) (i:=0) (j:=0) (q:=N.get 4) (x:=N.get 5) (fu:=N.get 8) (λ k=>if5 (f:=N.get) (kC Vn (g.step M) _ _ k).symm rfl rfl) rfl ⟨hE.yes,hE.no⟩ (.inr (.inr (.inr (.inl ⟨rfl,by omega,by omega⟩)))) (by omega) ?_;unfold oA;rw[hp];show l3 _ _ 0<l2 _ _ (M.get 3) (M.get 8);unfold l2;split <;> omega
 unfold dC cZ j6 eH dt;show Nx S ins M (if (if M.get 3=0 then decide (g.e1<0) else cQ g.code g.cn M)=true then ⟨bd (g.step M) 3 0 (if M.get 3=0 then (if g.e1<0 then (⟨aN g.e1 g.S.fuel 0 0 M,0,aL,false⟩:VR) else ⟨(aN g.e1 g.S.fuel 0 0 M).set 3 1,0,aL,false⟩) else ⟨(aj g.S g.code g.cn M).M,0,(aj g.S g.code g.cn M).e,(aj g.S g.code g.cn M).em⟩).M,0,(if M.get 3=0 then (if g.e1<0 then (⟨aN g.e1 g.S.fuel 0 0 M,0,aL,false⟩:VR) else ⟨(aN g.e1 g.S.fuel 0 0 M).set 3 1,0,aL,false⟩) else ⟨(aj g.S g.code g.cn M).M,0,(aj g.S g.code g.cn M).e,(aj g.S g.code g.cn M).em⟩).e,(if M.get 3=0 then (if g.e1<0 then (⟨aN g.e1 g.S.fuel 0 0 M,0,aL,false⟩:VR) else ⟨(aN g.e1 g.S.fuel 0 0 M).set 3 1,0,aL,false⟩) else ⟨(aj g.S g.code g.cn M).M,0,(aj g.S g.code g.cn M).e,(aj g.S g.code g.cn M).em⟩).em⟩
  else ⟨(if M.get 3=0 then (if g.e1<0 then (⟨aN g.e1 g.S.fuel 0 0 M,0,aL,false⟩:VR) else ⟨(aN g.e1 g.S.fuel 0 0 M).set 3 1,0,aL,false⟩) else ⟨(aj g.S g.code g.cn M).M,0,(aj g.S g.code g.cn M).e,(aj g.S g.code g.cn M).em⟩).M,0,(if M.get 3=0 then (if g.e1<0 then (⟨aN g.e1 g.S.fuel 0 0 M,0,aL,false⟩:VR) else ⟨(aN g.e1 g.S.fuel 0 0 M).set 3 1,0,aL,false⟩) else ⟨(aj g.S g.code g.cn M).M,0,(aj g.S g.code g.cn M).e,(aj g.S g.code g.cn M).em⟩).e,(if M.get 3=0 then (if g.e1<0 then (⟨aN g.e1 g.S.fuel 0 0 M,0,aL,false⟩:VR) else ⟨(aN g.e1 g.S.fuel 0 0 M).set 3 1,0,aL,false⟩) else ⟨(aj g.S g.code g.cn M).M,0,(aj g.S g.code g.cn M).e,(aj g.S g.code g.cn M).em⟩).em⟩)
 by_cases V7:M.get 3=0
 ·rw[if_pos V7,if_pos V7]
  by_cases he:g.e1<0
  ·rw[if_pos (by simpa using he),if_pos he];show Nx S ins M ⟨bd (g.step M) 3 0 (aN g.e1 g.S.fuel 0 0 M),0,aL,false⟩;rw[show aN g.e1 g.S.fuel 0 0 M=M by unfold aN;rw[if_pos he]];exact done M aL false .refl ⟨λ h=>by simp at h,λ _=>rfl⟩
  ·rw[if_neg (by simpa using he),if_neg he];show Nx S ins M ⟨(aN g.e1 g.S.fuel 0 0 M).set 3 1,0,aL,false⟩;rw[hg];obtain⟨s1,s2,s3⟩:=zU (P:=S.players) (M:=M) (fu:=S.fuel) (a:=0) (b:=0) hl he;generalize aN g.e1 S.fuel 0 0 M=N at *;have Vn:48<=N.cs.length:=by rw[s1.len];exact hl
   have n1:=s1.get 1 (by omega);have n2:=s1.get 2 (by omega);have n4:=s1.get 4 (by omega);have n5:=s1.get 5 (by omega);refine iI hS h (by omega) s1 (aP) (p:=2) (i:=M.get 2) (j:=1) (q:=M.get 4) (x:=M.get 5) (fu:=S.fuel) (λ k=>?_) s2 ⟨λ h=>by simp at h,λ _=>s3⟩ (.inr (.inr (.inl ⟨rfl,.inr ⟨rfl,by have:=hS.fu;omega,by have:=hS.fu;omega⟩⟩))) (by omega) ?_
   ·show (N.set 3 1).get k=_;rw[bJ Vn (by omega) (by omega)]
    by_cases k1:k=1
    ·subst k1;simp;omega
    by_cases k2:k=2
    ·subst k2;simp;omega
    by_cases k3:k=3
    ·subst k3;simp
    by_cases k4:k=4
    ·subst k4;simp;omega
    by_cases k5:k=5
    ·subst k5;simp;omega
    simp[k1,k2,k3,k4,k5]
   ·have hfu:=hS.fu.2;unfold oA;rw[hp,V7];show l2 _ _ 1 S.fuel<l2 _ _ 0 _;unfold l2;first|(simp;done)|(simp;omega)
 ·rw[if_neg V7,if_neg V7];obtain⟨hj1,hf⟩:M.get 3=1/\(0<=M.get 8/\M.get 8<=60):=by omega
  obtain⟨s1,s2,s3⟩:=zS hS (M:=M) (code:=g.code) (n:=g.cn) hl hec hf;rw[hg];generalize aj S g.code g.cn M=r at *;have n1:=s1.get 1 (by omega);have n2:=s1.get 2 (by omega);have n3:=s1.get 3 (by omega);have n4:=s1.get 4 (by omega);have n5:=s1.get 5 (by omega)
  by_cases he:cQ g.code g.cn M=true
  ·rw[if_pos he];exact done r.M r.e r.em s1 ⟨s2.yes,s2.no⟩
  ·rw[if_neg he];show Nx S ins M ⟨r.M,0,r.e,r.em⟩;rcases s3 with ⟨s4,s5,s6⟩|⟨s4,s5,s6⟩
   ·refine iI hS h (by omega) s1 rfl (p:=2) (i:=M.get 2) (j:=1) (q:=M.get 4) (x:=M.get 5) (fu:=M.get 8-1) (λ k=>?_) s5 ⟨s2.yes,s2.no⟩ (.inr (.inr (.inl ⟨rfl,.inr ⟨rfl,by omega,by omega⟩⟩))) (by omega) ?_
    ·show r.M.get k=_
     by_cases k1:k=1
     ·subst k1;simp;omega
     by_cases k2:k=2
     ·subst k2;simp;omega
     by_cases k3:k=3
     ·subst k3;simp;omega
     by_cases k4:k=4
     ·subst k4;simp;omega
     by_cases k5:k=5
     ·subst k5;simp;omega
     simp[k1,k2,k3,k4,k5]
    ·unfold oA;rw[hp,hj1];show l2 _ _ 1 _<l2 _ _ 1 _;unfold l2;first|(simp;done)|(simp;omega)
   ·exact absurd s5 he
structure En(S:Setup)(ins:Nat->Inp)(M N:MemS):Prop where
 len:(N.cs.length:Int)=sizeOf S
 z:∀k:Int,1<=k->k<=10->N.get k=0
 t0:N.get 0=M.get 0+1
 pl:∀q:Nat,(q:Int)<S.players->N.get (48+4*q)=(ins q).dx/\N.get (48+4*q+1)=(ins q).dy/\N.get (48+4*q+2)=(ins q).act
 n11:N.get 11=M.get 11
theorem tp{M:MemS}(hl:48<=M.cs.length):∀ (n:Nat),n<=10->(∀k:Int,(eT M n).get k=if 1<=k/\k<=n then 0 else M.get k)/\(eT M n).cs.length=M.cs.length
 |0,_=>⟨λ k=>by rw[if_neg (by omega)];rfl,rfl⟩
 |n+1,hn=>by
  obtain⟨h1,h2⟩:=tp hl n (by omega);refine⟨λ k=>?_,?_⟩
  ·rw[eT,bJ (by rw[h2];exact hl) (by omega) (by omega),h1]
   by_cases e:k=((n+1:Nat):Int)
   ·rw[if_pos e,if_pos (by omega)]
   ·rw[if_neg e]
    by_cases e2:1<=k/\k<=n
    ·rw[if_pos e2,if_pos (by omega)]
    ·rw[if_neg e2,if_neg (by omega)]
  ·rw[eT,aP];exact h2
theorem NH(hp:0<=S.players){t:Stp}(ht:t.S=S)(M:MemS):Hi S.players M (fF t M):=by
 subst ht;unfold fF;split
 ·next hb=>exact(Hi.refl).setB hp hb (by omega) _
 ·exact .refl
theorem q7(hS:SetV S)(hg:g.S=S)(h:TV S ins M)(hp:M.get 1=7):(j0 (g.step M)=false/\Nx S ins M ⟨fX (g.step M) M,0,aL,false⟩)\/(j0 (g.step M)=true/\En S ins M (fX (g.step M) M)):=by
 have hpl:=hS.pl;have hnb:=hS.nb;have hc:0<=M.get 2/\M.get 2<S.nb:=by rcases h.ct with h|h|h|h|h|h|h|h <;> omega
 have hl:=h.l48 hS;have ht0:=h.t0;have hh:=NH (S:=S) (by omega) (t:=g.step M) hg M;unfold j0 fX lq;generalize fF (g.step M) M=N at *;have Vn:48<=N.cs.length:=by rw[hh.len];exact hl
 have e0:=hh.get 0 (by omega);have e1:=hh.get 1 (by omega);have e3:=hh.get 3 (by omega);have e4:=hh.get 4 (by omega);have e8:=hh.get 8 (by omega);show ((if aR (M.get 2+1)<g.S.nb then false else true)=false/\Nx S ins M ⟨if aR (M.get 2+1)<g.S.nb then N.set 2 (aR (M.get 2+1)) else eT (N.set 0 (aR (N.get 0+1))) 10,0,aL,false⟩)\/((if aR (M.get 2+1)<g.S.nb then false else true)=true/\En S ins M (if aR (M.get 2+1)<g.S.nb then N.set 2 (aR (M.get 2+1)) else eT (N.set 0 (aR (N.get 0+1))) 10));rw[cV (by omega),cV (by omega),hg]
 by_cases hi:M.get 2+1<S.nb
 ·rw[if_pos hi,if_pos hi];refine .inl ⟨rfl,iI hS h (by omega) (hh.kp (by omega)) (aP) (λ k=>Ut (f:=N.get) (bJ Vn (by omega) (by omega) k).symm) e8 (hh.ef (by omega)) ?_ (by omega) ?_⟩
  ·rw[e1,e3,e4,hp];exact .inr (.inr (.inr (.inr (.inr (.inr (.inr ⟨rfl,by omega,by omega⟩))))))
  ·unfold oA;rw[e1,e3,e4,hp];show (S.nb:Int)-(M.get 2+1)<(S.nb:Int)-M.get 2;omega
 ·rw[if_neg hi,if_neg hi];obtain⟨z1,z2⟩:=tp (M:=N.set 0 (N.get 0+1)) (by rw[aP];exact Vn) 10 (aaI _);have g0:=bJ (M:=N) (i:=0) (v:=N.get 0+1) Vn (by omega) (by omega);refine .inr ⟨rfl,⟨by rw[z2,aP,hh.len];exact h.len,λ k k1 k2=>by rw[z1,if_pos (by omega)],by rw[z1,if_neg (by omega),g0,if_pos rfl,e0],λ q hq=>?_,by rw[z1,if_neg (by omega),g0,if_neg (by omega)];exact hh.get 11 (by omega)⟩⟩;have:=h.pl q (by rw[hp,if_neg (by omega)];exact hq);rw[z1,if_neg (by omega),g0,if_neg (by omega),hh.get _ (by omega),z1,if_neg (by omega),g0,if_neg (by omega),hh.get _ (by omega),z1,if_neg (by omega),g0,if_neg (by omega),hh.get _ (by omega)];exact this
theorem q0(hS:SetV S)(hg:g.S=S)(hi:∀q:Nat,(q:Int)<S.players->g.ins.getD (g.io+q) dI=ins q)(UL:S.players<=g.ni)(h:TV S ins M)(hp:M.get 1=0):Nx S ins M ⟨dV (g.step M) M,0,aL,false⟩:=by
 have hpl:=hS.pl;have hnb:=hS.nb;have hc:0<=M.get 2/\M.get 2<S.players:=by rcases h.ct with h|h|h|h|h|h|h|h <;> omega
 have hl:=h.l48 hS;obtain⟨i,hii⟩:=Int.eq_ofNat_of_zero_le hc.1;have hpa:ai S (M.get 2)=48+4*(i:Int):=by
  rcases vB (S:=S) (M.get 2) with ⟨e,e2⟩|⟨e1,e2,e3⟩
  ·omega
  ·rw[e3,hii]
 have hlen:=h.len;have hA:(cW (g.step M) M).cs.length=M.cs.length/\∀k,(k<=10\/48<=k\/k=11)->(cW (g.step M) M).get k=if k=11 then (if M.get 2=0 then 0 else M.get 11) else M.get k:=by
  unfold cW;show (if M.get 2=0 then (M.set 13 g.version).set 11 0 else M).cs.length=_/\_
  by_cases h0:M.get 2=0
  ·rw[if_pos h0];refine⟨by simp only[aP],λ k hk=>?_⟩;rw[if_pos h0,bJ (by rw[aP];exact hl) (by omega) (by omega),bJ hl (by omega) (by omega)]
   by_cases e:k=11
   ·rw[if_pos e,if_pos e]
   ·rw[if_neg e,if_neg e,if_neg (by omega)]
  ·rw[if_neg h0];refine⟨rfl,λ k hk=>?_⟩;rw[if_neg h0]
   by_cases e:k=11
   ·rw[if_pos e,e]
   ·rw[if_neg e]
 have hB:(di (g.step M) (cW (g.step M) M)).cs.length=M.cs.length/\(∀k,(k<=11\/(48<=k/\(k<48+4*(i:Int)\/51+4*(i:Int)<=k)))->(di (g.step M) (cW (g.step M) M)).get k=if k=11 then (if M.get 2=0 then 0 else M.get 11) else M.get k)/\
   (di (g.step M) (cW (g.step M) M)).get (48+4*(i:Int))=(ins i).dx/\(di (g.step M) (cW (g.step M) M)).get (48+4*(i:Int)+1)=(ins i).dy/\(di (g.step M) (cW (g.step M) M)).get (48+4*(i:Int)+2)=(ins i).act:=by
  generalize cW (g.step M) M=A at *;obtain⟨a1,a2⟩:=hA;have e:di (g.step M) A=((A.set (48+4*(i:Int)+0) (ins i).dx).set (48+4*(i:Int)+1) (ins i).dy).set (48+4*(i:Int)+2) (ins i).act:=by
   unfold di Stp.inp;show (if ai g.S (M.get 2)>=0 then if M.get 2<(g.ni:Int) then ((A.set (ai g.S (M.get 2)+0) (g.ins.getD (g.io+(M.get 2).toNat) dI).dx).set (ai g.S (M.get 2)+1) (g.ins.getD (g.io+(M.get 2).toNat) dI).dy).set (ai g.S (M.get 2)+2) (g.ins.getD (g.io+(M.get 2).toNat) dI).act else A else A)=_;rw[hg,hpa,if_pos (by omega),if_pos (by omega),hii,Int.toNat_natCast,hi i (by omega)]
  rw[e];have hal:48+4*(i:Int)+2<A.cs.length:=by rw[a1];unfold sizeOf at hlen;omega
  refine⟨by simp only[aP];exact a1,λ k hk=>?_,?_,?_,?_⟩
  ·rw[bx (by omega),bx (by omega),bx (by omega)];exact a2 k (by omega)
  ·rw[bx (by omega),bx (by omega),Int.add_zero,jM (by omega)]
  ·rw[bx (by omega),jM (by rw[aP];omega)]
  ·rw[jM (by simp only[aP];omega)]
 unfold dV;generalize di (g.step M) (cW (g.step M) M)=N at *;obtain⟨b1,b2,b3,b4,b5⟩:=hB;have Vn:48<=N.cs.length:=by rw[b1];exact hl
 have n0:=b2 0 (by omega);have n1:=b2 1 (by omega);have n2:=b2 2 (by omega);have n3:=b2 3 (by omega);have n4:=b2 4 (by omega);have n8:=b2 8 (by omega);have n11:=b2 11 (by omega);simp only[show ¬ ((0:Int)=11) by decide,show ¬ ((1:Int)=11) by decide,show ¬ ((2:Int)=11) by decide,show ¬ ((3:Int)=11) by decide,show ¬ ((4:Int)=11) by decide,show ¬ ((8:Int)=11) by decide,if_false,if_true] at n0 n1 n2 n3 n4 n8 n11;have XF:∀q:Nat,(q:Int)<(i:Int)+1->N.get (48+4*q)=(ins q).dx/\N.get (48+4*q+1)=(ins q).dy/\N.get (48+4*q+2)=(ins q).act:=λ q hq=>by
  by_cases e:q=i
  ·subst e;exact⟨b3,b4,b5⟩
  ·have h2:=h.pl q (by rw[if_pos hp,hii];omega);rw[b2 _ (by omega),b2 _ (by omega),b2 _ (by omega),if_neg (by omega),if_neg (by omega),if_neg (by omega)];exact h2
 have hsv:GO M↔M.get 2=0:=⟨λ e=>e.2,λ e=>⟨hp,e⟩⟩;have IN:N.get 11=if GO M then 0 else M.get 11:=by
  rw[n11]
  by_cases e:M.get 2=0
  ·rw[if_pos e,if_pos (hsv.2 e)]
  ·rw[if_neg e,if_neg (λ x=>e (hsv.1 x))]
 have hec:0<=N.get 11/\N.get 11<=40:=by
  rw[IN];split
  ·omega
  ·rcases h.ec with e|e
   ·contradiction
   ·exact e
 unfold ga;show Nx S ins M ⟨if aR (M.get 2+1)<g.S.players then N.set 2 (aR (M.get 2+1)) else bd (g.step M) 1 0 N,0,aL,false⟩;rw[cV (by omega),hg];split
 ·have gg:=bJ (M:=N) (i:=2) (v:=M.get 2+1) Vn (by omega) (by omega);have g1:(N.set 2 (M.get 2+1)).get 1=0:=by rw[gg,if_neg (by decide),n1,hp]
  have g2:(N.set 2 (M.get 2+1)).get 2=M.get 2+1:=by rw[gg,if_pos rfl]
  refine⟨⟨by rw[aP,b1];exact hlen,by rw[gg,if_neg (by decide),n0];exact h.t0,by rw[g1,g2];exact .inl ⟨rfl,by omega,by omega⟩,λ q hq=>?_,.inr (by rw[gg,if_neg (by decide)];exact hec)⟩,?_,by rw[g1,hp];exact acn _,by rw[gg,if_neg (by decide),n0],λ e=>by have:=e.2;rw[g2] at this;omega,λ e=>by simp at e,λ _=>by rw[gg,if_neg (by decide)];exact IN,by rw[g1,hp];decide⟩
  ·rw[g1,if_pos rfl,g2,hii] at hq;rw[gg,if_neg (by omega),gg,if_neg (by omega),gg,if_neg (by omega)];exact XF q hq
  ·unfold oA;rw[g1,g2,hp];show l0 _ _ _ (M.get 2+1)<l0 _ _ _ (M.get 2);unfold l0;omega
 ·have gg:=kC Vn (g.step M) 1 0;have g1:(bd (g.step M) 1 0 N).get 1=1:=by rw[gg];simp
  have g2:(bd (g.step M) 1 0 N).get 2=0:=by rw[gg];simp
  have g3:(bd (g.step M) 1 0 N).get 3=0:=by rw[gg];simp
  have gk:∀k,3<k->(bd (g.step M) 1 0 N).get k=N.get k:=λ k hk=>by rw[gg,if_neg (by omega),if_neg (by omega),if_neg (by omega)]
  refine⟨⟨by rw[gj,b1];exact hlen,by rw[gg,if_neg (by decide),if_neg (by decide),if_neg (by decide),n0];exact h.t0,by rw[g1,g2,g3];exact .inr (.inl ⟨rfl,by omega,by omega,.inl rfl⟩),λ q hq=>?_,.inr (by rw[gk 11 (by omega)];exact hec)⟩,?_,by rw[g1,hp];decide,by rw[gg,if_neg (by decide),if_neg (by decide),if_neg (by decide),n0],λ e=>by have:=e.1;rw[g1] at this;omega,λ e=>by simp at e,λ _=>by rw[gk 11 (by omega)];exact IN,by rw[g1,hp];decide⟩
  ·rw[g1,if_neg (by decide)] at hq;rw[gk _ (by omega),gk _ (by omega),gk _ (by omega)];exact XF q (by omega)
  ·unfold oA;rw[g1,g2,g3,hp];show l1 _ _ _ 0 0 _<l0 _ _ _ (M.get 2);unfold l0 l1;simp;omega
theorem Su(hS:SetV S)(hg:g.S=S)(hi:∀q:Nat,(q:Int)<S.players->g.ins.getD (g.io+q) dI=ins q)(UL:S.players<=g.ni)(h:TV S ins M) :
  EL M/\((js g M=false/\Nx S ins M (eD g M))\/(js g M=true/\En S ins M (jH g M)/\(eD g M).em=false/\¬ GO M/\(0<=M.get 11/\M.get 11<=40))):=by
 have X5:EL M:=by
  rcases h.ct with h|h|h|h|h|h|h|h <;> (refine⟨?_,?_⟩ <;> omega)
 refine⟨X5,?_⟩
 by_cases h0:M.get 1=0
 ·left;rw[show eD g M=⟨dV (g.step M) M,0,aL,false⟩ by simp[eD,h0]];exact⟨by simp[js,h0],q0 hS hg hi UL h h0⟩
 by_cases h1:M.get 1=1
 ·left;rw[show eD g M=fO (g.step M) M by simp[eD,h1]];exact⟨by simp[js,h1],q1 hS hg h h1⟩
 by_cases h2:M.get 1=2
 ·left;rw[show eD g M=dC (g.step M) M by simp[eD,h2]];exact⟨by simp[js,h2],q2 hS hg h h2⟩
 by_cases h3:M.get 1=3
 ·left;rw[show eD g M=⟨dW (g.step M) M,0,aL,false⟩ by simp[eD,h3]];exact⟨by simp[js,h3],q3 hS hg h h3⟩
 by_cases h4:M.get 1=4
 ·left;rw[show eD g M=⟨bA (g.step M) M,0,aL,false⟩ by simp[eD,h4]];exact⟨by simp[js,h4],q4 hS hg h h4⟩
 by_cases h5:M.get 1=5
 ·left;rw[show eD g M=⟨dJ (g.step M) M,0,aL,false⟩ by simp[eD,h5]];exact⟨by simp[js,h5],q5 hS hg h h5⟩
 by_cases h6:M.get 1=6
 ·left;rw[show eD g M=fP (g.step M) M by simp[eD,h6]];exact⟨by simp[js,h6],q6 hS hg h h6⟩
 have h7:M.get 1=7:=by have:=X5.1;have:=X5.2;omega
 have e:eD g M=⟨fX (g.step M) M,0,aL,false⟩:=by simp[eD,h7]
 rw[jH,e];have e2:js g M=j0 (g.step M):=by simp[js,h7]
 rw[e2];rcases q7 hS hg h h7 with ⟨a,b⟩|⟨a,b⟩
 ·exact .inl ⟨a,b⟩
 ·refine .inr ⟨a,b,rfl,λ e=>by have:=e.1;omega,?_⟩;rcases h.ec with e|e
  ·have:=e.1;omega
  ·exact e
def Numb(t c:Int)(es:List Eff):Prop:=∀k,k<es.length->(es.getD k aL).t=t/\(es.getD k aL).i=c+k
theorem Numb.nil{c:Int}:Numb t c []:=λ k hk=>by simp at hk
theorem Numb.cons{c:Int}{e:Eff}{es:List Eff}(h1:e.t=t)(h2:e.i=c)(h:Numb t (c+1) es):Numb t c (e::es):=λ k hk=>by
 rcases k with _|k
 ·exact⟨h1,by rw[adB,h2];omega⟩
 ·have:=h k (by simpa using hk);rw[adD];exact⟨this.1,by rw[this.2];omega⟩
theorem DW{S:Setup}(hS:SetV S){g:Gm}(hg:g.S=S){ins:Nat->Inp}(hi:∀q:Nat,(q:Int)<S.players->g.ins.getD (g.io+q) dI=ins q)(UL:S.players<=g.ni):∀ (n:Nat) (M:MemS),TV S ins M->oA S M<=n->
  ∃m,m+1<=n/\dR g (m+1) M/\(∀k:Int,1<=k->k<=10->(gh g (m+1) M).get k=0)/\((gh g (m+1) M).cs.length:Int)=sizeOf S/\(gh g (m+1) M).get 0=M.get 0+1/\
   Numb (M.get 0) (if GO M then 0 else M.get 11) (d7 g (m+1) M)/\(gh g (m+1) M).get 11=(if GO M then 0 else M.get 11)+(d7 g (m+1) M).length/\(gh g (m+1) M).get 11<=40
 |0,M,h,hl=>by
  have:=DU hS.pl ⟨by have:=hS.nb;omega,by have:=hS.nb;omega⟩ hS.ro h.ct;unfold oA at hl;omega
 |n+1,M,h,hl=>by
  obtain⟨X5,⟨e1,hx⟩|⟨e1,hx,hem,iN,IN⟩⟩:=Su hS hg hi UL h
  ·obtain⟨m,hm,k1,k2,k3,k4,k5,k6,k7⟩:=DW hS hg hi UL n (eD g M).M hx.tv (by have:=hx.lt;omega);rw[if_neg hx.ns] at k5 k6;have er:gh g (m+1+1) M=gh g (m+1) (eD g M).M:=rfl;refine⟨m+1,by omega,⟨X5,.inr ⟨e1,k1⟩⟩,by rw[er];exact k2,by rw[er];exact k3,by rw[er,k4,hx.t0],?_,?_,by rw[er];exact k7⟩
   ·cases he:(eD g M).em with
    |true=>
     obtain⟨a1,a2,a3,a4⟩:=hx.yes he;rw[ux he,if_neg a1];refine Numb.cons a2 a3 ?_;rw[hx.t0,a4] at k5;exact k5
    |false=>
     rw[oW (by rw[he];decide)];have:=hx.no he;rw[hx.t0,this] at k5;exact k5
   ·rw[er];cases he:(eD g M).em with
    |true=>
     obtain⟨a1,a2,a3,a4⟩:=hx.yes he;rw[ux he,if_neg a1,aaN,k6,a4];show _+(List.length (d7 g (m+1) (jH g M)):Int)=_;omega
    |false=>
     rw[oW (by rw[he];decide),k6,hx.no he]
  ·refine⟨0,by omega,⟨X5,.inl ⟨rfl,e1⟩⟩,hx.z,hx.len,hx.t0,?_,?_,?_⟩
   ·rw[oW (by rw[hem];decide)];exact .nil
   ·rw[oW (by rw[hem];decide),if_neg iN];show (jH g M).get 11=M.get 11+(([]:List Eff).length:Int);rw[hx.n11];simp
   ·show (jH g M).get 11<=40;rw[hx.n11];exact IN.2
def K3(p n r f:Int):Int:=i64.wrap ((i64.wrap ((i64.wrap ((i64.wrap ((i64.wrap (p+(i64.wrap ((i64.wrap ((i64.wrap (p+1))+n))*(i64.wrap (f+3))))))+(i64.wrap (2*n))))+3))+(i64.wrap ((i64.wrap ((i64.wrap (r*n))*(i64.wrap (n-1)))).tdiv 2))))+(i64.wrap (n*(i64.wrap (n+1)))))
theorem zV(hS:SetV S):l0 S.players S.nb S.rounds 0<=K3 S.players S.nb S.rounds 60/\K3 S.players S.nb S.rounds 60<=650:=by
 have hp:=hS.pl;have hn:=hS.nb;have hr:=hS.ro;have key:∀p:Fin 3,∀n:Fin 5,∀r:Fin 3,l0 ((p.1+1:Nat):Int) ((n.1+1:Nat):Int) ((r.1+1:Nat):Int) 0<=K3 ((p.1+1:Nat):Int) ((n.1+1:Nat):Int) ((r.1+1:Nat):Int) 60/\K3 ((p.1+1:Nat):Int) ((n.1+1:Nat):Int) ((r.1+1:Nat):Int) 60<=650:=by decide+kernel
 have:=key ⟨S.players.toNat-1,by omega⟩ ⟨S.nb-1,by omega⟩ ⟨S.rounds.toNat-1,by omega⟩;dsimp only at this;rwa [show ((S.players.toNat-1+1:Nat):Int)=S.players by omega,show S.nb-1+1=S.nb by omega,show ((S.rounds.toNat-1+1:Nat):Int)=S.rounds by omega] at this
theorem setV{xs:List Int}{A:Option Addr}(hl:ArgL F A n xs){T:HL}(h:SetG xs S T):SetV S:=by
 have h1:=ru hl;have h2:=wD hl;have hn:=h.nb;have k2:=iG hl 2;obtain⟨e1,e2,e3,e4,e5,e6,e7,e8⟩:=h.nums;exact⟨by rw[h.pl];exact h2,by omega,by rw[e7];omega,by rw[e8];omega⟩
theorem kD{l:List Int}{j:Nat}{v:Int}(h:i≠j):(l.set i v).getD j 0=l.getD j 0:=by
 rw[aaG,aaG,List.getElem?_set_ne h]
theorem kF{S:Setup}(hp:0<=S.players){j:Nat}(hj:j<48):∀i,i<=S.nb->(b8 S i).getD j 0=0
 |0,_=>by
  rw[b8,aaG,ab3];split <;> rfl
 |i+1,hi=>by
  have hb:af S (i:Int)=48+4*S.players+8*(i:Int):=by
   rcases pm hp (i:Int) with e|⟨_,_,e⟩
   ·unfold af at e;rw[if_neg (by omega),if_neg (by omega)] at e;omega
   ·exact e
  rw[b8,kD (by omega),kD (by omega),kD (by omega),kD (by omega),kD (by omega),kD (by omega)];exact kF hp hj i (by omega)
structure TE2(S:Setup)(t:Int)(M:MemS):Prop where
 len:(M.cs.length:Int)=sizeOf S
 z:∀k:Int,1<=k->k<=10->M.get k=0
 t0:M.get 0=t
theorem NI(hS:SetV S):TE2 S 0 ⟨b8 S S.nb,[],0⟩:=by
 have hp:=hS.pl;have hlen:(((⟨b8 S S.nb,[],0⟩:MemS).cs.length:Nat):Int)=sizeOf S:=by
  show ((b8 S S.nb).length:Int)=_;rw[j7];unfold sizeOf;omega
 have g:∀k:Int,0<=k->k<48->(⟨b8 S S.nb,[],0⟩:MemS).get k=0:=λ k h0 h1=>by
  unfold MemS.get;split
  ·exact kF (by omega) (by omega) S.nb (aaI _)
  ·rfl
 exact⟨hlen,λ k h1 h2=>g k (by omega) (by omega),g 0 (by omega) (by omega)⟩
theorem TE2.tv(hS:SetV S)(ht:0<=t/\t<=1000)(h:TE2 S t M)(ins:Nat->Inp):TV S ins M/\oA S M=l0 S.players S.nb S.rounds 0/\GO M:=by
 have h1:=h.z 1 (by omega) (by omega);have h2:=h.z 2 (by omega) (by omega);have hp:=hS.pl;refine⟨⟨h.len,by rw[h.t0];omega,by rw[h1,h2];exact .inl ⟨rfl,by omega,by omega⟩,λ q hq=>by rw[h1,if_pos rfl,h2] at hq;omega,.inl ⟨h1,h2⟩⟩,?_,h1,h2⟩;unfold oA;rw[h1,h2];rfl
theorem Sv(hS:SetV S)(hg:g.S=S)(UL:S.players<=g.ni)(ht:0<=t/\t<=1000)(h:TE2 S t M):∃m,((m+1:Nat):Int)<=K3 S.players S.nb S.rounds 60/\dR g (m+1) M/\TE2 S (t+1) (gh g (m+1) M)/\
  Numb t 0 (d7 g (m+1) M)/\(gh g (m+1) M).get 11=((d7 g (m+1) M).length:Int)/\((d7 g (m+1) M).length:Int)<=40:=by
 obtain⟨h1,h2,h3⟩:=h.tv hS ht (λ q=>g.ins.getD (g.io+q) dI);have hb:=zV hS;have Zy:=DU hS.pl ⟨by have:=hS.nb;omega,by have:=hS.nb;omega⟩ hS.ro h1.ct;unfold oA at h2;obtain⟨m,a1,a2,a3,a4,a5,a6,a7,a8⟩:=DW hS hg (λ _ _=>rfl) UL (l0 S.players S.nb S.rounds 0).toNat M h1 (by unfold oA;omega);rw[if_pos h3] at a6 a7;rw[h.t0] at a5 a6;exact⟨m,by omega,a2,⟨a4,a3,a5⟩,a6,by rw[a7];omega,by omega⟩
theorem SetEq.pl(h:SetEq S S1):S1.players=S.players:=h.nums.1
theorem SetEq.nb(h:SetEq S S1):S1.nb=S.nb:=h.nums.2.1
theorem SetEq.size(h:SetEq S S1):sizeOf S1=sizeOf S:=by unfold sizeOf;rw[h.pl,h.nb]
theorem SetEq.setV(h:SetEq S S1)(hV:SetV S):SetV S1:=by
 obtain⟨e1,e2,_,_,_,_,_,_,_,_,e3,e4⟩:=h.nums;exact⟨by rw[e1];exact hV.pl,by rw[e2];exact hV.nb,by rw[e3];exact hV.ro,by rw[e4];exact hV.fu⟩
theorem TE2.eq(h:SetEq S S1)(hT:TE2 S t M):TE2 S1 t M:=⟨by rw[h.size];exact hT.len,hT.z,hT.t0⟩
theorem DX{S':Setup}(h:SetEq S S'):(S'.bods.drop S'.bo).map Bod.nm=(List.range S.nb).map λ k=>(S.body k).nm:=by
 rw[h.whole.1,adl];apply abP;intro k
 by_cases hk:k<S.nb
 ·obtain⟨A,c,e⟩:=h.bod k hk;have hl:k<S'.bods.length:=by rw[h.whole.2];exact hk
  have e2:S'.bods[k]?=some (S'.body k):=by
   show _=some (S'.bods.getD (S'.bo+k) dB);rw[h.whole.1,abp,aaG,aaP hl];rfl
  rw[abf,e2,e];simp[hk];rfl
 ·rw[vo (by rw[ab2,h.whole.2];omega),vo (by simp;omega)]
theorem SetEq.nm2(h1:SetEq S S1)(h2:SetEq S S2):S1.nm=S2.nm:=by
 have b1:=DX h1;have b2:=DX h2;obtain⟨x1,x2,x3,x4,x5,x6,x7,x8,x9,x10,x11,Z3⟩:=h1.nums;obtain⟨y1,y2,y3,y4,y5,y6,y7,y8,y9,y10,y11,y12⟩:=h2.nums;unfold Setup.nm;rw[b1,b2,x1,x2,x3,x4,x5,x6,x7,x8,x9,x10,x11,Z3,y1,y2,y3,y4,y5,y6,y7,y8,y9,y10,y11,y12]
theorem xb(h:S1.nm=S2.nm){j:Nat×Int}:GEq (gN S1 j n xs) (gN S2 j n xs):=by
 refine⟨?_,λ k hk=>rfl⟩;unfold Gm.nm;simp only[h]
theorem Cq{G G':Nat->Gm}(h:∀k,GEq (G k) (G' k))(M:MemS):∀k,Aw G M k=Aw G' M k
 |0=>rfl
 |k+1=>by rw[Aw,Aw,Cq h M k,BJ (h k)]
theorem Sw(h1:SetEq S S1)(h2:SetEq S S2)(J:Nat->Nat×Int)(xss:List (List Inp)):∀k,GEq (rG S1 J xss k) (rG S2 J xss k):=λ k=>xb (h1.nm2 h2)
theorem Qr{pl:Int}{now:Int}(h1:(n:Int)=pl)(h2:∀k,k<n->cS (xs.getD k dI))(h3:now<6000):bm pl n xs now=0:=by
 unfold bm;rw[if_pos h1,if_pos h2,if_neg (by omega)]
theorem K4(hV:SetV S1)(ht:0<=t/\t<=1000)(hT:TE2 S1 t M)(h1:(xs.length:Int)=S1.players)(h2:∀k,k<xs.length->cS (xs.getD k dI))(j:Nat×Int):TkOk S1 j xs M/\TE2 S1 (t+1) (kP (Ay S1 j xs) M):=by
 obtain⟨m,a1,a2,a3,_⟩:=Sv hV (g:=Ay S1 j xs) rfl (by show S1.players<=(xs.length:Int);omega) ht hT;have hb:=(zV hV).2;refine⟨⟨⟨m,by omega,a2⟩,by rw[hT.t0];exact ht.1,by rw[hT.t0];exact Qr h1 h2 (by omega)⟩,?_⟩;rw[<- (OG (by omega) a2).1];exact a3
def RowOk(pl:Int)(xs:List Inp):Prop:=(xs.length:Int)=pl/\∀k,k<xs.length->cS (xs.getD k dI)
theorem K5{S1:Setup}(hV:SetV S1){M0:MemS}(hT:TE2 S1 0 M0){xss:List (List Inp)}(J:Nat->Nat×Int){n:Nat}(hn:n<=50)(hr:∀i,i<n->RowOk S1.players (xss.getD i [])):∀i,i<=n->TE2 S1 (i:Int) (Aw (rG S1 J xss) M0 i)
 |0,_=>hT
 |i+1,h=>by
  have ih:=K5 hV hT J hn hr i (by omega);have:=(K4 hV (t:=(i:Int)) (by omega) ih (hr i (by omega)).1 (hr i (by omega)).2 (J i)).2;rw[Aw]
  exact_mod_cast this
theorem Sx(hV:SetV S1){M0:MemS}(hT:TE2 S1 0 M0){xss:List (List Inp)}(J:Nat->Nat×Int)(hn:n<=50)(hr:∀i,i<n->RowOk S1.players (xss.getD i []))(hi:i<n):TkOk S1 (J i) (xss.getD i []) (Aw (rG S1 J xss) M0 i) :=
 (K4 hV (t:=(i:Int)) (by omega) (K5 hV hT J hn hr i (by omega)) (hr i hi).1 (hr i hi).2 (J i)).1
theorem K6(hV:SetV S)(he:SetEq S S1):TE2 S1 0 ⟨b8 S S.nb,[],0⟩:=(NI hV).eq he
section
variable {S S1:Setup} {rs_:List Bx} {ds_:List Dr} {bp n cap:Nat} {j:Nat×Int} {A:Option Addr} {rs:List Rw} {xss:List (List Inp)} {F:HL}
end
theorem zW{n m k:Int}(e:bj n m=k)(hm:0<m):aen 12 #[vI n,vI m] F (vI k):=e▸kK n m (by omega) (F:=F)
theorem nG{α:Type}{l r:List α}(h:(l.drop o).take r.length=r){k:Nat}(hk:k<r.length)(d:α):l.getD (o+k) d=r.getD k d:=by
 have h1:((l.drop o).take r.length)[k]?=r[k]?:=by rw[h]
 rw[abe,if_pos hk,abd] at h1;rw[aaG,aaG,h1]
structure Ver where (t:Int) (A:Option Addr) (n c:Nat) (e0 e1 e2:Int)
def fT:Enc Ver:=⟨5,λ p k=>match k with|0=>vI p.t|1=>.slice p.A p.n p.c|2=>vI p.e0|3=>vI p.e1|_=>vI p.e2,⟨0,none,0,0,0,0,0⟩⟩
noncomputable def OI:TypeInfo:=match Tryz.prog.info? 115 with | some i=>i | none=>⟨.bool,"",0,0,false,0,0,none,false,#[]⟩
noncomputable def OJ:Value:=match OI.zero with|some z=>z|none=>.bool false
theorem Qs:EncOk fT Tryz.prog 115 OI OJ where
 info:=by kernel_rfl
 zero:=by kernel_rfl
 size:=by kernel_rfl
 zsize:=by kernel_rfl
 zcell:=λ k hk=>by
  have h:∀k<5,OJ.cells[k]?=some (fT.cell fT.dflt k):=by intro k hk;(iterate 5 (rcases k with _|k;· kernel_rfl));omega
  exact h k hk
 one:=λ x k=>by unfold fT;dsimp only;split <;> rfl
 bytes:=aaH (by kernel_rfl)
abbrev k9(t:Int)(j:Nat)(A:Option Addr)(c:Nat):Ver:=⟨t,A,gt j,c,cE j 0,cE j 1,cE j 2⟩
inductive Book2(tk:Int)(j1 j2 bp:Nat):HL->Prop
 |mk (A:Option Addr) (c:Nat) (A1 A2:Option Addr) (c1 c2:Nat) (Hl T1 T2:HL) (hs:SlIs fT 115 [k9 0 j1 A1 c1,k9 tk j2 A2 c2] A c Hl) (h1:CodT j1 A1 T1) (h2:CodT j2 A2 T2):Book2 tk j1 j2 bp (ap [(bp,.lit [.slice A 2 c] 118 (0,0))] [Hl,T1,T2])
theorem NJ{tk:Int}(htk:0<tk) (bp q:Nat)(ca:Nat){Tz:HL}(YK:j2<5)(hE:qD F)(h1:CodT j1 Aa Tz):aeo 21 #[vP bp 0,vI tk,.string (qC j2)] (ap [(bp,.lit [vS q 0 1 1] 118 (0,0)),(q,.lit [vI 0,.slice Aa (gt j1) ca,vI (cE j1 0),vI (cE j1 1),vI (cE j1 2)] 115 (0,0))] [Tz]) F (λ u H'=>∃x:HL,H'=ap [] [x]/\(u=vI 0/\Book2 tk j1 j2 bp x)):=by
 refine QS Tryz.func21 mn<|SO 21 [.o 0]<|aap [] []<|ag [] [0,1,5,2,6,3,7,4,8,9,10,11,12,13,14] [.o 0,.o 0,.o 1]<|Q2 1<|aas 29 (abh (show ¬ tk<=0 by omega))<|OU 6<|SP (Kv YK (aC hE)) ?_;rintro _ ⟨A1,c2,T3⟩ ⟨rfl,hC4⟩;dsimp only at hC4;refine ae 19 (aab 4) λ n5=>aap [9,12] []<|ag [] [0,1,5,6,2,7,3,4] (aab 4++[.o 1])<|aag 8 (aai [] [] λ n7=>?_);refine RD.dn 3 (.rows 5 1 (ak fT [k9 0 j1 Aa ca]) 115 (0,0))<|Rf 3<|aag 9 (iK [] Qs (l:=[k9 0 j1 Aa ca]) [k9 tk j2 A1 c2] 0 0 rfl (SlIs.one (b:=q)) (aaH rfl) ?_);rintro A8 c9 W7 ⟨air,aoF⟩;refine aem [10,11]<|SV 12 [] [.o 2]<|Q2 6<|QV [] [2] [0,2,1] (vI 0) (ap [(bp,.lit [.slice A8 2 c9] 118 (0,0))] [W7,Tz,T3]) ⟨ap [(bp,.lit [.slice A8 2 c9] 118 (0,0))] [W7,Tz,T3],by simp[ap],rfl,.mk _ _ _ _ _ _ _ _ _ air h1 hC4⟩
theorem NK(hB:Book1 j1 bp TB)(tk:Int)(htk:0<tk)(j2:Nat)(YK:j2<5)(hE:qD F):aeo 21 #[vP bp 0,vI tk,.string (qC j2)] (ap [] [TB]) F (λ u H'=>∃x:HL,H'=ap [] [x]/\(u=vI 0/\Book2 tk j1 j2 bp x)):=by
 cases hB with
 |mk q A c T h=>
  rw[br];exact NJ htk bp q c YK hE h
theorem Sy{q2 q3:Nat}{tk:Int}{c:Nat}{full:List Ver}{ca:Nat}(hb:(bp,.lit [vS b (o*5) 2 c] 118 (0,0))∈F)(hq:(b,.rows 5 (o+c) (ak fT full) 115 (0,0))∈F)(hc:2<=c)(Yb:full.getD o fT.dflt=k9 0 j1 Aa ca)(Xv:full.getD (1+o) fT.dflt=k9 tk j2 Ab cb)(ht:0<=t)(h2:(q2,.lit [vP bp 0] 36 (0,0))∈F)(h3:(q3,.lit [vI t] 3 (0,0))∈F):aen 169 #[vI 0,vP q2 0,vP q3 0] F (.bool false):=by
 refine rI Tryz.func169 (mc h2 (mc h3 (mc hb (mc hq mn)))) [] []<|OU 6<|aap [] []<|aA [] [0,4,8,1,2,3,5,6,7] [.ro 0,.ro 1,.ro 2,.rorow 3 o 0] [o*5=o*5+0/\o<(o+c)]<|gT 12 (congrArg (λ v_:Ver=>vI v_.t) Yb)<|aem [9,10]<|aaf<|ae 1 [] λ _=>QW (.bool (decide (0>t))) _ ⟨congrArg Value.bool (abh (by omega)),rfl⟩
theorem OL{q2 q3:Nat}{tk:Int}{c:Nat}{full:List Ver}{ca:Nat}(hb:(bp,.lit [vS b (o*5) 2 c] 118 (0,0))∈F)(hq:(b,.rows 5 (o+c) (ak fT full) 115 (0,0))∈F)(hc:2<=c)(Yb:full.getD o fT.dflt=k9 0 j1 Aa ca)(Xv:full.getD (1+o) fT.dflt=k9 tk j2 Ab cb)(ht:0<=t)(h2:(q2,.lit [vP bp 0] 36 (0,0))∈F)(h3:(q3,.lit [vI t] 3 (0,0))∈F):aen 169 #[vI 1,vP q2 0,vP q3 0] F (.bool (decide (tk>t))):=by
 refine rI Tryz.func169 (mc h2 (mc h3 (mc hb (mc hq mn)))) [] []<|OU 6<|aap [] []<|aA [] [0,4,8,1,2,3,5,6,7] [.ro 0,.ro 1,.ro 2,.rorow 3 (1+o) 0] [(o*5+5)=(1+o)*5+0/\(1+o)<(o+c)]<|gT 12 (congrArg (λ v_:Ver=>vI v_.t) Xv)<|aem [9,10]<|aaf<|ae 1 [] λ _=>QW _ _ ⟨rfl,rfl⟩
theorem K7{q2 q3:Nat}{tk:Int}{c:Nat}{full:List Ver}{ca:Nat}(hb:(bp,.lit [vS b (o*5) 2 c] 118 (0,0))∈F)(hq:(b,.rows 5 (o+c) (ak fT full) 115 (0,0))∈F)(hc:2<=c)(Yb:full.getD o fT.dflt=k9 0 j1 Aa ca)(Xv:full.getD (1+o) fT.dflt=k9 tk j2 Ab cb)(ht:0<=t)(h2:(q2,.lit [vP bp 0] 36 (0,0))∈F)(h3:(q3,.lit [vI t] 3 (0,0))∈F)(Y6:tk>t):aen 168 #[vI 2,.func (.func 169) #[] #[vP q2 0,vP q3 0]] F (vI 1):=by
 refine rI Tryz.func168 (mc h2 (mc h3 (mc hb (mc hq mn)))) [] []<|OU 14<|aaw 4<|OU 27<|aal (OL (aC hb) (aC hq) hc Yb Xv ht (aC h2) (aC h3))<|OU 3<|aas 21 (nt (abk Y6))<|OU 34<|aal (Sy (aC hb) (aC hq) hc Yb Xv ht (aC h2) (aC h3))<|ae 31 [] λ _=>QW _ _ ⟨rfl,rfl⟩
theorem K8{q2 q3:Nat}{tk:Int}{c:Nat}{full:List Ver}{ca:Nat}(hb:(bp,.lit [vS b (o*5) 2 c] 118 (0,0))∈F)(hq:(b,.rows 5 (o+c) (ak fT full) 115 (0,0))∈F)(hc:2<=c)(Yb:full.getD o fT.dflt=k9 0 j1 Aa ca)(Xv:full.getD (1+o) fT.dflt=k9 tk j2 Ab cb)(ht:0<=t)(h2:(q2,.lit [vP bp 0] 36 (0,0))∈F)(h3:(q3,.lit [vI t] 3 (0,0))∈F)(Y6:¬ tk>t):aen 168 #[vI 2,.func (.func 169) #[] #[vP q2 0,vP q3 0]] F (vI 2):=by
 refine rI Tryz.func168 (mc h2 (mc h3 (mc hb (mc hq mn)))) [] []<|OU 14<|aaw 4<|OU 27<|aal (OL (aC hb) (aC hq) hc Yb Xv ht (aC h2) (aC h3))<|OU 3<|aas 21 (nf (abh Y6))<|ae 28 [] λ _=>QW _ _ ⟨rfl,rfl⟩
theorem Uu{tk:Int}{c:Nat}{full:List Ver}{ca:Nat}(hb:(bp,.lit [vS b (o*5) 2 c] 118 (0,0))∈F)(hq:(b,.rows 5 (o+c) (ak fT full) 115 (0,0))∈F)(hc:2<=c)(Yb:full.getD o fT.dflt=k9 0 j1 Aa ca)(Xv:full.getD (1+o) fT.dflt=k9 tk j2 Ab cb)(ht:0<=t)(hj:j1<5)(hC:SrcIn Tryz.prog lF F Aa (gt j1) (kZ j1))(Y6:tk>t):aeo 123 #[vP bp 0,vI t] [] F (λ u H'=>∃x:Option Addr×Nat×HL,H'=ap [] [x.2.2]/\(u=.tuple #[vI 0,.agg #[.slice x.1 (gt j1) x.2.1,vI (cE j1 0),vI (cE j1 1),vI (cE j1 2)]]/\ClS lF 212 (kZ j1) x.1 x.2.1 x.2.2)):=by
 refine rI Tryz.func123 (mc hb (mc hq mn)) [] []<|ae 16 [.o 2,.ro 0] λ n1=>aal (K7 (q2:=n1+0) (q3:=n1+1) (aC hb) (aC hq) hc Yb Xv ht (aw 2) (aw 1) Y6)<|ah 21 [.o 2,.ro 0,.rorow 1 o 1,.rorow 1 o 2,.rorow 1 o 3,.rorow 1 o 4] [(o*5+4)=o*5+4/\o<(o+c),(o*5+3)=o*5+3/\o<(o+c),(o*5+2)=o*5+2/\o<(o+c),(o*5+1)=o*5+1/\o<(o+c)] λ _=>aM 26 (congrArg (λ v_:Ver=>(.agg #[.slice v_.A v_.n v_.c,vI v_.e0,vI v_.e1,vI v_.e2]:Value)) Yb)<|ae 5 (aab 4) λ n2=>aap [8] []<|ag [] [0,1,4,2,5] (aab 4)<|aag 3 (Q1 [] (nz ca hC.up (by have:=wW hj;omega)) ?_);rintro _ ⟨A3,c4,T5⟩ ⟨rfl,hc6⟩;dsimp only at hc6;refine aem [6,7]<|SV 8 [] (ow 1 4)<|aaf<|ae 1 [] λ _=>aav (ow 1 4) [] [0] ⟨(A3,c4,T5),rfl,rfl,hc6⟩
theorem Uv{tk:Int}{c:Nat}{full:List Ver}{ca:Nat}(hb:(bp,.lit [vS b (o*5) 2 c] 118 (0,0))∈F)(hq:(b,.rows 5 (o+c) (ak fT full) 115 (0,0))∈F)(hc:2<=c)(Yb:full.getD o fT.dflt=k9 0 j1 Aa ca)(Xv:full.getD (1+o) fT.dflt=k9 tk j2 Ab cb)(ht:0<=t)(hj:j2<5)(hC:SrcIn Tryz.prog lF F Ab (gt j2) (kZ j2))(Y6:¬ tk>t):aeo 123 #[vP bp 0,vI t] [] F (λ u H'=>∃x:Option Addr×Nat×HL,H'=ap [] [x.2.2]/\(u=.tuple #[vI 1,.agg #[.slice x.1 (gt j2) x.2.1,vI (cE j2 0),vI (cE j2 1),vI (cE j2 2)]]/\ClS lF 212 (kZ j2) x.1 x.2.1 x.2.2)):=by
 refine rI Tryz.func123 (mc hb (mc hq mn)) [] []<|ae 16 [.o 2,.ro 0] λ n1=>aal (K8 (q2:=n1+0) (q3:=n1+1) (aC hb) (aC hq) hc Yb Xv ht (aw 2) (aw 1) Y6)<|ah 21 [.o 2,.ro 0,.rorow 1 (1+o) 1,.rorow 1 (1+o) 2,.rorow 1 (1+o) 3,.rorow 1 (1+o) 4] [(o*5+9)=(1+o)*5+4/\(1+o)<(o+c),(o*5+8)=(1+o)*5+3/\(1+o)<(o+c),(o*5+7)=(1+o)*5+2/\(1+o)<(o+c),(o*5+6)=(1+o)*5+1/\(1+o)<(o+c)] λ _=>aM 26 (congrArg (λ v_:Ver=>(.agg #[.slice v_.A v_.n v_.c,vI v_.e0,vI v_.e1,vI v_.e2]:Value)) Xv)<|ae 5 (aab 4) λ n2=>aap [8] []<|ag [] [0,1,4,2,5] (aab 4)<|aag 3 (Q1 [] (nz cb hC.up (by have:=wW hj;omega)) ?_);rintro _ ⟨A3,c4,T5⟩ ⟨rfl,hc6⟩;dsimp only at hc6;refine aem [6,7]<|SV 8 [] (ow 1 4)<|aaf<|ae 1 [] λ _=>aav (ow 1 4) [] [0] ⟨(A3,c4,T5),rfl,rfl,hc6⟩
theorem Book2.at{tk:Int}(hB:Book2 tk j1 j2 bp TB)(hT:∀x∈TB,x∈F)(hj1:j1<5)(YK:j2<5)(t:Int)(ht:0<=t):AtOk F bp t (if tk>t then (j1,0) else (j2,1)):=λ F' hF=>by
 cases hB with
 |mk A c A1 A2 c1 c2 Hl T1 T2 hs h1 h2=>
  rcases hs with ⟨_,_,h,_⟩|⟨b,o,full,rfl,rfl,e1,e2,e3⟩
  ·cases h
  ·have hc:2<=c:=e2;have Yb:full.getD o fT.dflt=k9 0 j1 A1 c1:=by have:=nG e3 (k:=0) (by simp) fT.dflt;rw[abZ] at this;exact this
   have Xv:full.getD (1+o) fT.dflt=k9 tk j2 A2 c2:=by have:=nG e3 (k:=1) (by simp) fT.dflt;rw[Nat.add_comm o 1] at this;exact this
   have hm:∀x,x∈ap [(bp,Blk.lit [.slice (some ⟨b,o*fT.w,none⟩) 2 c] 118 (0,0))] [[(b,.rows fT.w (o+c) (ak fT full) 115 (0,0))],T1,T2]->x∈F':=λ x hx=>hF x (hT x hx)
   by_cases Y6:tk>t
   ·rw[if_pos Y6];exact Uu (hm _ (aaC _ aaD)) (hm _ (aaB _ aaD)) hc Yb Xv ht hj1 (h1.src F' λ x hx=>hm x (by simp[ap,hx])) Y6
   ·rw[if_neg Y6];exact Uv (hm _ (aaC _ aaD)) (hm _ (aaB _ aaD)) hc Yb Xv ht YK (h2.src F' λ x hx=>hm x (by simp[ap,hx])) Y6
end
section
variable {F:HL} {M:MemS} {N V0 b bp i p:Nat} {O:Obj} {P:Program} {S:Setup} {et kt t:TypeId} {ik:IntKind} {k:Int} {loc:Int->Option Inp} {oo:Option Oper} {rs:List Rw} {s:Cfg} {w:World} {xss:List (List Inp)}
def J2(tk:Int)(j1 j2 i:Nat):Nat×Int:=if tk>(i:Int) then (j1,0) else (j2,1)
theorem vC{tk:Int}{j1 j2:Nat}{TB:HL}(hB:Book2 tk j1 j2 bp TB)(hT:∀x∈TB,x∈F)(hj1:j1<5)(YK:j2<5){t:Nat}{v:Int}(e:v=(t:Int)):(J2 tk j1 j2 t).1<5/\AtOk F bp v (J2 tk j1 j2 t):=by
 subst e;refine⟨?_,hB.at hT hj1 YK _ (by omega)⟩;unfold J2;split
 ·exact hj1
 ·exact YK
theorem TE2.cs{t:Int}{N:MemS}(h:M.cs=N.cs)(hT:TE2 S t M):TE2 S t N:=by
 have hg:∀k,N.get k=M.get k:=λ k=>by unfold MemS.get;rw[h]
 exact⟨by rw[<- h];exact hT.len,λ k h1 h2=>by rw[hg];exact hT.z k h1 h2,by rw[hg];exact hT.t0⟩
theorem RwsIn.take(h:RwsIn F rs xss)(k:Nat):RwsIn F (rs.take k) (xss.take k):=by
 refine⟨by rw[aaL,aaL,h.len],λ i hi=>?_⟩;rw[aaL] at hi;have e1:(xss.take k).getD i []=xss.getD i []:=by rw[aaG,aaG,abe,if_pos (by omega)]
 have e2:(rs.take k).getD i jo.dflt=rs.getD i jo.dflt:=by rw[aaG,aaG,abe,if_pos (by omega)]
 rw[e1,e2];exact h.row i (by omega)
theorem RwsIn.drop(h:RwsIn F rs xss)(k:Nat):RwsIn F (rs.drop k) (xss.drop k):=by
 refine⟨by rw[aaM,aaM,h.len],λ i hi=>?_⟩;rw[aaM] at hi;have e1:(xss.drop k).getD i []=xss.getD (k+i) []:=by rw[aaG,aaG,abd]
 have e2:(rs.drop k).getD i jo.dflt=rs.getD (k+i) jo.dflt:=by rw[aaG,aaG,abd]
 rw[e1,e2];exact h.row (k+i) (by omega)
abbrev QO(tk:Int)(j1 j2 t:Nat):Nat->Nat×Int:=λ i=>J2 tk j1 j2 (t+i)
section
variable {tk:Int} {S S1 S2:Setup} {rs_:List Bx} {ds_:List Dr} {bp gb n cap k t j1 j2:Nat} {A:Option Addr} {rs:List Rw} {xss:List (List Inp)} {M R:MemS} {G0 F TB:HL}
end
def Setup.std(S:Setup):Setup:={ S with bo:=0,bods:=l9 S }
theorem om(S:Setup):SetEq S S.std:=⟨⟨rfl,rfl,rfl,rfl,rfl,rfl,rfl,rfl,rfl,rfl,rfl,rfl⟩,λ k hk=>⟨(S.body k).sh.A,(S.body k).sh.cap,by
 show (l9 S).getD (0+k) dB=_;rw[abp,mL hk];rfl⟩,rfl,kg S⟩
def WS(S:Setup)(J:Nat->Nat×Int)(xss:List (List Inp))(i:Nat):List Int:=(Aw (rG S.std J xss) ⟨b8 S S.nb,[],0⟩ i).cs
theorem SetEq.refl0{S2:Setup}(h:SetEq S S2)(J:Nat->Nat×Int)(xss:List (List Inp)):∀k,GEq (rG S.std J xss k) (rG S2 J xss k):=Sw (om S) h J xss
section
variable {S S2:Setup} {J:Nat->Nat×Int} {xss:List (List Inp)} {n:Nat}
theorem Sz(hV:SetV S)(he:SetEq S S2)(hn:n<=50)(WT:∀i,i<n->RowOk S.players (xss.getD i []))(hi:i<=n):TE2 S2 (i:Int) ⟨WS S J xss i,[],0⟩:=by
 have h:=K5 (he.setV hV) (K6 hV he) (xss:=xss) J hn (λ i hi=>by rw[he.pl];exact WT i hi) i hi;exact TE2.cs (show (Aw (rG S2 J xss) _ i).cs=(⟨WS S J xss i,[],0⟩:MemS).cs by rw[<- Cq (he.refl0 J xss)];rfl) h
theorem SA(hV:SetV S)(he:SetEq S S2)(hn:n<=50)(WT:∀i,i<n->RowOk S.players (xss.getD i []))(hi:i<n):TkOk S2 (J i) (xss.getD i []) ⟨WS S J xss i,[],0⟩:=by
 have h:=Sx (he.setV hV) (K6 hV he) (xss:=xss) J hn (λ i hi=>by rw[he.pl];exact WT i hi) hi;exact TkOk.cs (show (Aw (rG S2 J xss) _ i).cs=(⟨WS S J xss i,[],0⟩:MemS).cs by rw[<- Cq (he.refl0 J xss)];rfl) h
theorem NL(he:SetEq S S2)(i:Nat):WS S J xss (i+1)=(kP (Ay S2 (J i) (xss.getD i [])) ⟨WS S J xss i,[],0⟩).cs:=by
 unfold WS;rw[Aw,BJ (he.refl0 J xss i)];exact I4 rfl
theorem Gl{α:Type}{l:List α}(h:i<l.length)(d:α):l.take (i+1)=l.take i++[l.getD i d]:=by
 rw[adO,aaP h,aaG,aaP h];rfl
end
theorem DY{G G':Nat->Gm}{M:MemS}:∀k,(∀i,i<k->G i=G' i)->Aw G M k=Aw G' M k
 |0,_=>rfl
 |k+1,h=>by rw[Aw,Aw,DY k λ i hi=>h i (by omega),h k (by omega)]
theorem DZ(S:Setup)(J:Nat->Nat×Int)(xss:List (List Inp))(k:Nat):WS S J (xss.take k) k=WS S J xss k:=by
 unfold WS;refine congrArg MemS.cs (DY k λ i hi=>?_);show Ay _ _ _=Ay _ _ _;rw[show (xss.take k).getD i []=xss.getD i [] by rw[aaG,aaG,abe,if_pos hi]]
def xc(pl:Nat)(rows:List (List Inp)):List Inp:=match rows.getLast? with
 |none=>List.replicate pl dI
 |some r=>r.map kB
def ig(pl V0:Nat)(rows:List (List Inp))(loc:Int->Option Inp)(t:Nat):List Inp :=
 if t<rows.length then rows.getD t [] else match loc (t:Int) with
 |none=>xc pl rows
 |some x=>(xc pl rows).set V0 x
theorem vD:cS dI:=by decide
theorem K9{x:Inp}(h:cS x):cS (kB x):=by
 obtain⟨h1,h2,h3⟩:=h;exact⟨h1,h2,by show ¬ (0:Int)<0;decide,by show ¬ (0:Int)>3;decide⟩
theorem mt{pl:Int}{r:List Inp}(h1:(r.length:Int)=pl)(h2:∀x∈r,cS x):RowOk pl r:=⟨h1,λ k hk=>h2 _ (jK hk _)⟩
theorem RowOk.mem{pl:Int}{r:List Inp}(h:RowOk pl r):∀x∈r,cS x:=λ x hx=>by
 obtain⟨i,hi,rfl⟩:=adU.1 hx;have:=h.2 i hi;rwa [aaG,aaP hi] at this
theorem D1{pl:Nat}{rows:List (List Inp)}(h:∀r∈rows,RowOk pl r):RowOk pl (xc pl rows):=by
 unfold xc;split
 ·exact mt (by simp) (λ x hx=>by rw[(List.mem_replicate.1 hx).2];exact vD)
 ·next r hr=>
  have h1:=h r (List.mem_of_getLast? hr);refine mt (by rw[ab2];exact h1.1) λ x hx=>?_;obtain⟨y,hy,rfl⟩:=abG.1 hx;exact K9 (h1.mem y hy)
theorem D2{pl:Nat}{rows:List (List Inp)}(h:∀r∈rows,RowOk pl r)(hk:∀t x,loc t=some x->cS x)(t:Nat):RowOk pl (ig pl V0 rows loc t):=by
 unfold ig;split
 ·next ht=>exact h _ (jK ht _)
 ·split
  ·exact D1 h
  ·next x hx=>
   have hb:=D1 h;refine mt (by rw[abE];exact hb.1) λ y hy=>?_;rcases List.mem_or_eq_of_mem_set hy with h1|rfl
   ·exact hb.mem y h1
   ·exact hk _ _ hx
theorem vE{pl:Nat}{rows:List (List Inp)}{t:Nat}(h:t<rows.length):rows[t]?=some (ig pl V0 rows loc t):=by
 unfold ig;rw[if_pos h,aaG,aaP h];rfl
def gP(S:Setup)(J:Nat->Nat×Int):Nat->List Inp->Gm:=λ t xs=>Ay S.std (J t) xs
theorem Lb(S:Setup)(J:Nat->Nat×Int)(V:List (List Inp)):∀n,n<=V.length->Cm (gP S J) 0 (b8 S S.nb) (V.take n)=WS S J V n
 |0,_=>rfl
 |n+1,h=>by
  have hl:(V.take n).length=n:=by rw[aaL];omega
  rw[Gl (by omega) [],tj,hl,Lb S J V n (by omega),NL (om S) n,abp];rfl
theorem Cr(S:Setup)(J:Nat->Nat×Int)(V:List (List Inp)):Cm (gP S J) 0 (b8 S S.nb) V=WS S J V V.length:=by
 have h:=Lb S J V V.length (aaI _);rwa [acm] at h
section
variable {ρ:Type} {g:Nat->ρ->Gm} {c0:List Int} {w m:Nat} {P:PS ρ} {V:List ρ}
theorem PInv.len_cs(h:PInv g c0 w P V m):P.effs.length=V.length:=by rw[h.effs,DQ]
end
section
variable {S S2:Setup} {J:Nat->Nat×Int} {w m:Nat} {P:PS (List Inp)} {V:List (List Inp)}
theorem PInv.ws(h:PInv (gP S J) (b8 S S.nb) w P V m):P.M.cs=(⟨WS S J V V.length,[],0⟩:MemS).cs:=by rw[h.cs,Cr]
theorem PInv.te(h:PInv (gP S J) (b8 S S.nb) w P V m)(hV:SetV S)(he:SetEq S S2)(hn:V.length<=50)(hr:∀r∈V,RowOk S.players r):TE2 S2 (V.length:Int) P.M :=
 TE2.cs h.ws.symm (Sz hV he (n:=V.length) hn (λ i hi=>hr _ (jK hi _)) (aaI _))
theorem xd(r:List Inp)(hi:i<=V.length):WS S J (V++[r]) i=WS S J V i:=by
 rw[<- DZ S J (V++[r]) i,WF hi,DZ]
theorem PInv.tk(h:PInv (gP S J) (b8 S S.nb) w P V m)(hV:SetV S)(he:SetEq S S2)(hn:V.length<50)(hr:∀r∈V,RowOk S.players r){r:List Inp}(h1:RowOk S.players r):TkOk S2 (J V.length) r P.M:=by
 have h2:=SA (J:=J) (xss:=V++[r]) hV he (n:=V.length+1) (by omega) (λ i hi=>by
  refine(show ∀x∈V++[r],RowOk S.players x from λ x hx=>?_) _ (jK (by simpa using hi) _);rcases abM.1 hx with hx|hx
  ·exact hr x hx
  ·rw[jt.1 hx];exact h1) (i:=V.length) (by omega)
 rw[xd r (aaI _),gJ,if_neg (by omega),if_pos rfl] at h2;exact h2.cs h.ws.symm
theorem NM(he:SetEq S S2)(t:Nat)(r:List Inp)(M:MemS):kP (Ay S2 (J t) r) M=kP (gP S J t r) M:=BJ (xb (he.nm2 (om S))) M
theorem NN(he:SetEq S S2)(t:Nat)(r:List Inp)(M:MemS):qL (Ay S2 (J t) r) M=qL (gP S J t r) M:=PD (xb (he.nm2 (om S))) M
end
theorem Sp.fr{f:FuncId}{args:Array Value}{H H2 X:HL}{R R2:Value->HL->Prop}(hp:H2.Perm (H++X))(h:Sp P f args H (X++F) R)(hr:∀u Y,R u Y->∃H',R2 u H'/\H'.Perm (Y++X)):Sp P f args H2 F R2:=λ w hR=>
 (h w (by rw[<- aaF];exact hR.perm (hp.symm.append_right F))).mono λ e w' ⟨v,Y,h1,h2,h3,h4⟩=>by
  obtain⟨H',h5,h6⟩:=hr v Y h2;exact⟨v,H',h1,h5,(by rw[<- aaF] at h3;exact h3.perm (h6.append_right F)),h4⟩
inductive GameX(rs:List Bx)(ds:List Dr)(bp gb mb:Nat)(S:Setup)(M:MemS)(k:Nat):HL->Prop
 |mk (T U:HL) (hM:MemH mb M k T) (hU:De S rs ds U):GameX rs ds bp gb mb S M k (ap [(gb,.lit (gv S bp mb) 125 (0,0))] [T,U])
section
variable {rs:List Bx} {ds:List Dr} {bp gb mb:Nat} {S:Setup} {M:MemS} {k:Nat} {G0:HL}
theorem GameH.x(h:GameH rs ds bp gb S M k G0):∃mb,GameX rs ds bp gb mb S M k G0:=by
 cases h with
 |mk mb T U hM hU=>exact⟨mb,.mk T U hM hU⟩
theorem GameX.h(h:GameX rs ds bp gb mb S M k G0):GameH rs ds bp gb S M k G0:=by
 cases h with
 |mk T U hM hU=>exact .mk mb T U hM hU
theorem GameX.weak(h:GameX rs ds bp gb mb S M k G0){k':Nat}(hk:k'<=k):GameX rs ds bp gb mb S M k' G0:=by
 cases h with
 |mk T U hM hU=>exact .mk T U (hM.weak hk) hU
theorem GameX.mem(h:GameX rs ds bp gb mb S M k G0):∃T,MemH mb M k T/\∀x∈T,x∈G0:=by
 cases h with
 |mk T U hM hU=>exact⟨T,hM,λ x hx=>by simp[ap,hx]⟩
theorem SB(h:GameX rs ds bp gb mb S M k G0)(hF:∀x∈G0,x∈F):aen 24 #[vP gb 0] F (vP mb 0):=by
 cases h with
 |mk T U hM hU=>exact Js (S:=S) (bp:=bp) (gb:=gb) (mb:=mb) (F:=F) (hF _ (by simp[ap]))
end
theorem Lc{rs:List Bx}{ds:List Dr}{gb mb a c k:Nat}{j:Nat×Int}{xs:List Inp}{G0:HL}(hG:GameX rs ds bp gb mb S M (k+20000) G0)(hj:j.1<5)(hA:AtOk F bp (M.get 0) j)(hE:cU F)(hI:InB F b a xs.length λ k=>xs.getD k dI)(UL:xs.length<=1000000)(hk:TkOk S j xs M) :
  aeo 59 #[vP gb 0,vS b a xs.length c] (ap [] [G0]) F (λ u H'=>∃x:(Option Addr×Nat×Nat)×HL×HL,H'=ap [] [x.2.1,x.2.2]/\(GameX rs ds bp gb mb S (kP (Ay S j xs) M) k x.2.1/\SlIs sc 177 (qL (Ay S j xs) M) x.1.1 x.1.2.1 x.2.2/\u=.tuple #[.slice x.1.1 (qL (Ay S j xs) M).length x.1.2.1,vI ((x.1.2.2+1:Nat):Int),vI 0])):=by
 obtain⟨m,hm,hg⟩:=hk.ex;obtain⟨e1,e2⟩:=OG hm hg;cases hG with
 |mk T U hM hU=>
  rw[br];refine(KA gb b a c m k hj hA hU hE hI UL (by omega) (hM.weak (by omega)) hk.now hg hk.ok).mono λ u H' h=>?_;obtain⟨x,rfl,h1,h2,h3⟩:=h;rw[e1] at h1;rw[e2] at h2 h3;exact⟨((x.2.1,x.2.2.1,m),ap [(gb,.lit (gv S bp mb) 125 (0,0))] [x.1,U],x.2.2.2),by simp[ap],.mk x.1 U h1 hU,h2,h3⟩
section
variable {r:Option Nat} {P:Program} {N:Nat} {D:List Deferred} {F:HL} {w0:World} {R:HL} {s:Cfg} {Q:Exit->Act->World->Prop} {hards:List Nat} {Rd:HL}
def SC(p:Nat)(O:Obj)(s:Cfg):Cfg:=match s with
 | ⟨c,k,L,A,Ts⟩=>⟨c,k,L,match A[p]? with|some x=>aO A p (x.1,.obj O)|none=>A,Ts⟩
end
open Go.Shelf
def t1(x:Int×Value×Nat):MapEntry:={ key:=vI x.1,val:=x.2.1,born:=x.2.2 }
abbrev bn(kv:List (Int×Value×Nat))(c:Nat):Obj:=.map ⟨kv.map t1⟩ c
def fB:List (Int×Value×Nat)->Int->Nat->Option (Nat×Value)
 | [],_,_=>none
 |x::l,k,i=>if (k == x.1)=true then some (i,x.2.1) else fB l k (i+1)
def nh(kv:List (Int×Value×Nat))(k:Int):Option Value:=(fB kv k 0).map (·.2)
def lc(kv:List (Int×Value×Nat))(c:Nat)(k:Int)(v:Value):List (Int×Value×Nat):=match fB kv k 0 with
 |some (i,_)=>kv.modify i (λ x=>(k,v,x.2.2))
 |none=>kv++[(k,v,c)]
def jq(kv:List (Int×Value×Nat))(c:Nat)(k:Int):Nat:=match fB kv k 0 with
 |some _=>c
 |none=>c+1
def ld(kv:List (Int×Value×Nat))(k:Int):List (Int×Value×Nat):=match fB kv k 0 with
 |some (i,_)=>kv.eraseIdx i
 |none=>kv
theorem kG(k:Int):∀ (kv:List (Int×Value×Nat)) (i j:Nat) (v:Value),fB kv k i=some (j,v)->i<=j/\∃n,kv[j-i]?=some (k,v,n)
 | [],_,_,_,h=>by cases h
 |x::l,i,j,v,h=>by
  rw[fB] at h;split at h
  ·rename_i hk;simp only[de,df] at h;obtain⟨rfl,rfl⟩:=h;have e:k=x.1:=by simpa using hk
   subst e;exact⟨aaI _,x.2.2,by simp⟩
  ·obtain⟨h1,n,h2⟩:=kG k l (i+1) j v h;refine⟨by omega,n,?_⟩;rw[show j-i=(j-(i+1))+1 by omega,abA];exact h2
theorem vF(ik:IntKind)(k:Int):∀ (kv:List (Int×Value×Nat)) (i:Nat),Instr.findNow (.int ik) (vI k) (kv.map t1) i=some (fB kv k i)
 | [],_=>rfl
 |x::l,i=>by
  rw[ab7,Instr.findNow,fB];simp only[Instr.sameNow,t1,if_true];cases h:(k == x.1) with
  |true=>simp
  |false=>simp[vF ik k l (i+1)]
theorem qd(hk:P.underlying kt=some (.int ik))(k:Int)(kv:List (Int×Value×Nat))(w:World):(Instr.findKey kt (vI k) (kv.map t1)).run P w=.ok (fB kv k 0) w:=by
 unfold Instr.findKey;rw[aa8,aG hk];simp only[Result.andThen,vF];rfl
theorem oq(hk:P.underlying kt=some (.int ik))(e:Bool)(k:Int)(w:World):(Instr.checkKey e 10000 kt (vI k)).run P w=.ok () w:=by
 rw[show (10000:Nat)=9999+1 from rfl,Instr.checkKey.eq_def];simp only;rw[aa8,aG hk];rfl
abbrev GP(kv:List (Int×Value×Nat))(k:Int)(ok:Bool)(z:Value):Value:=if ok=true then .tuple #[(nh kv k).getD z,.bool (nh kv k).isSome] else (nh kv k).getD z
theorem zX{c:Nat}{kv:List (Int×Value×Nat)}{z:Value}{i:TypeInfo}(ok:Bool)(ht:P.underlying t=some (.map kt et))(hk:P.underlying kt=some (.int ik))(hi:P.info? et=some i)(hz:i.zero=some z)(hb:w.heap[b]?=some (bn kv c)) :
  (Instr.lookup t (.map (some b)) (vI k) ok).run P w=.ok (GP kv k ok z) w:=by
 unfold Instr.lookup;rw[aa8,aG ht];simp only[Result.andThen,aa8,gx hb,ci,oq hk,qd hk];unfold GP nh;cases h:fB kv k 0 with
 |some x=>
  obtain⟨j,v⟩:=x;cases ok <;> rfl
 |none=>
  simp only[zeroValue,aa8,cO hi,Result.andThen,hz,ci];cases ok <;> rfl
theorem lh{n:Nat}{es:Array MapEntry}(hb:w.heap[b]?=some (.map es n)){o:Obj}:(setObj b o).run P w=.ok () { w with heap:=w.heap.setIfInBounds b o }:=by
 unfold setObj;rw[ab8];simp only[hb];rfl
theorem qE{c:Nat}{kv:List (Int×Value×Nat)}{v:Value}(ht:P.underlying t=some (.map kt et))(hk:P.underlying kt=some (.int ik))(hb:w.heap[b]?=some (bn kv c)) :
  (Instr.mapUpdate t (.map (some b)) (vI k) v).run P w=.ok () { w with heap:=w.heap.setIfInBounds b (bn (lc kv c k v) (jq kv c k)) }:=by
 unfold Instr.mapUpdate;rw[aa8,aG ht];simp only[Result.andThen,aa8,gx hb,oq hk,qd hk];unfold lc jq;cases h:fB kv k 0 with
 |none=>
  simp only[lh hb];congr 3;simp[t1]
 |some x=>
  obtain⟨j,u⟩:=x;obtain⟨h1,n,h2⟩:=kG k kv 0 j u h;rw[aek] at h2;have hks:((⟨kv.map t1⟩:Array MapEntry)[j]?).map (·.key)=some (vI k):=by simp[h2,t1]
  simp only[aa8,hks,aed];have ae6:(Instr.keyThatStays (vI k) (vI k)).run P w=.ok (vI k) w:=by
   unfold Instr.keyThatStays;rw[show (10000:Nat)=9999+1 from rfl,if_pos (by simp[Instr.sameBits])];rfl
  rw[ae6];refine(lh hb).trans ?_;congr 3;simp only[Obj.map.injEq,and_true];apply aea.1;simp only[Array.toList_modify];apply abP;intro m;simp only[List.getElem?_modify,abf]
  by_cases e:j=m
  ·subst e;simp[h2,t1]
  ·simp[e]
theorem nH{α β:Type}(f:α->β):∀ (l:List α) (j:Nat),(l.map f).eraseIdx j=(l.eraseIdx j).map f
 | [],_=>rfl
 |_::_,0=>rfl
 |x::l,j+1=>by simp[nH f l j]
theorem zY{ty x:TypeId}{c:Nat}{kv:List (Int×Value×Nat)}(ht:P.underlying t=some (.map kt et))(hk:P.underlying kt=some (.int ik))(hb:w.heap[b]?=some (bn kv c)) :
  (Builtin.delete_ #[t,x] ty #[.map (some b),vI k]).run P w=.ok (.tuple #[]) { w with heap:=w.heap.setIfInBounds b (bn (ld kv k) c) }:=by
 unfold Builtin.delete_;simp only[ab9,acd,abA];rw[aa8,aG ht];simp only[Result.andThen,aa8,gx hb,oq hk,qd hk];unfold ld;cases h:fB kv k 0 with
 |none=>
  simp only[aa8,lh hb];rfl
 |some x=>
  obtain⟨j,u⟩:=x;obtain⟨h1,n,h2⟩:=kG k kv 0 j u h;rw[aek] at h2;have hj:j<kv.length:=(bt.1 h2).1;simp only[aa8,lh hb];show Result.ok _ _=_;congr 3;simp only[Obj.map.injEq,and_true];apply aea.1;rw[Array.eraseIdxIfInBounds,dif_pos (by simpa using hj)];show ((kv.map t1).toArray.eraseIdx j _).toList=_;rw[List.eraseIdx_toArray];exact nH t1 kv j
def Ld(P:Program)(N p:Nat)(oo:Option Oper)(s:Cfg):Option (Int×Bool×Value×Nat×Nat×Obj):=match oo with
 |some o=>match o.guard,o.op,(dK N o.dst undef s.L).isSome with
  |none,.lookup t x ix ok,true=>match gm s.L x && gm s.L ix,eY s.L x,eY s.L ix,P.underlying t,s.A[p]? with
   |true,.map (some b),.int .i64 k,some (.map kt et),some (b',.obj O)=>match P.underlying kt,(P.info? et).bind (·.zero) with
    |some (.int _),some z=>some (k,ok,z,b,b',O)
    |_,_=>none
   |_,_,_,_,_=>none
  |_,_,_=>none
 |none=>none
def SD(x:Option (Int×Bool×Value×Nat×Nat×Obj)):Nat:=match x with
 |some (_,_,_,_,b,_)=>b
 |none=>0
theorem Gn{ok:Bool}{z:Value}(h:Ld P N p oo s=some (k,ok,z,b,b,O)) :
  ∃o t x ix kt et i ik,oo=some o/\o.guard=none/\o.op=.lookup t x ix ok/\(gm s.L x && gm s.L ix)=true/\eY s.L x=.map (some b)/\eY s.L ix=.int .i64 k/\P.underlying t=some (.map kt et)/\P.underlying kt=some (.int ik)/\P.info? et=some i/\i.zero=some z/\s.A[p]?=some (b,.obj O)/\(dK N o.dst undef s.L).isSome=true:=by
 unfold Ld at h;split at h
 case h_2=>cases h
 rename_i o;split at h
 case h_2=>cases h
 rename_i t x ix ok' h1 h2 h3;split at h
 case h_2=>cases h
 rename_i b1 k1 kt et b2 O1 h4 h5 h6 h7 h8;split at h
 case h_2=>cases h
 rename_i ik z1 h9 No;simp only[de,df] at h;obtain⟨e1,e2,e3,e4,e5,e6⟩:=h;subst e1;subst e2;subst e3;subst e4;subst e5;subst e6;rw[Option.bind_eq_some_iff] at No;obtain⟨i,hi,hz⟩:=No;exact⟨o,t,x,ix,kt,et,i,ik,rfl,h1,h2,h4,h5,h6,h7,h9,hi,hz,h8,h3⟩
section
variable {r:Option Nat} {P:Program} {N:Nat} {D:List Deferred} {F:HL} {w0:World} {R:HL} {s:Cfg} {Q:Exit->Act->World->Prop} {hards:List Nat} {Rd:HL}
theorem qf(p:Nat){kv:List (Int×Value×Nat)}{cl:Nat}{ok:Bool}{z v:Value}(ev:GP kv k ok z=v)(hk:RN r P N D F w0 R (db N v s) Q)
  (h:Ld P N p (fZ s) s=some (k,ok,z,SD (Ld P N p (fZ s) s),SD (Ld P N p (fZ s) s),bn kv cl):=by kernel_rfl):RN r P N D F w0 R s Q:=by
 subst ev;obtain⟨o,t,x,ix,kt,et,i,ik,q0,q1,q2,q3,q4,q5,q6,q7,q8,q9,P_,U5⟩:=Gn h;refine⟨λ hR a w hF aT hB=>?_⟩;obtain⟨c,kk,L,A,Ts⟩:=s;unfold fZ at q0;cases c with
 |code c=>cases q0
 |ex c=>cases q0
 |drw _ _=>cases q0
 |ops ops j=>
  simp only at q0 q3 q4 q5 P_ U5 hF aT;have iF:ops.toList.drop j=o::ops.toList.drop (j+1):=by
   have g_:j<ops.toList.length:=(bt.1 q0).1;rw[eB g_,(bt.1 q0).2]
  show wpListIn _ _ _ _ _ _ _ _;rw[iF,wpListIn,if_pos (by simp[Region.wanted,q1])];refine⟨λ _ _=>trivial,?_⟩;rw[aaW] at q3;have hb:=aT.holds _ (aaC _ (aaC _ (np P_)));simp only[Blk.den] at hb;obtain⟨L',hl⟩:=b7 U5 (GP kv k ok z);have UF:db N (GP kv k ok z) ⟨.ops ops j,kk,L,A,Ts⟩=⟨.ops ops (j+1),kk,L',A,Ts⟩:=by
   unfold db;simp only[q0,hl]
  have hh:=hk.h hR;rw[UF] at hh;have hex:(execOp a.eval o).run P w=.ok (.value (GP kv k ok z)) w:=by
   have e1:a.eval x=.map (some _):=(hF.eval q3.1).trans q4;have e2:a.eval ix=.int .i64 k:=(hF.eval q3.2).trans q5;have:=zX (P:=P) (w:=w) (k:=k) ok q6 q7 q8 q9 hb;simp only[execOp,q2,e1,e2,aa8,this,Result.andThen];rfl
  rw[Oper.semAt_eq _ _ _ (by rw[q2];intro c hc;cases hc),hex,Oper.uponIn_value];exact hh _ w (hF.put hl) aT hB
def t2(P:Program)(N p:Nat)(oo:Option Oper)(s:Cfg):Option (Int×Value×Nat×Nat×Obj):=match oo with
 |some o=>match o.guard,o.op,(dK N o.dst undef s.L).isSome with
  |none,.mapUpdate t m x v,true=>match gm s.L m && (gm s.L x && gm s.L v),eY s.L m,eY s.L x,P.underlying t,s.A[p]? with
   |true,.map (some b),.int .i64 k,some (.map kt _),some (b',.obj O)=>match P.underlying kt with
    |some (.int _)=>some (k,eY s.L v,b,b',O)
    |_=>none
   |_,_,_,_,_=>none
  |none,.insert t m x v,true=>match gm s.L m && (gm s.L x && gm s.L v),eY s.L m,eY s.L x,P.underlying t,s.A[p]? with
   |true,.map (some b),.int .i64 k,some (.map kt _),some (b',.obj O)=>match P.underlying kt with
    |some (.int _)=>some (k,eY s.L v,b,b',O)
    |_=>none
   |_,_,_,_,_=>none
  |_,_,_=>none
 |none=>none
def Gp(x:Option (Int×Value×Nat×Nat×Obj)):Nat:=match x with
 |some (_,_,_,b,_)=>b
 |none=>0
theorem vG{P:Program}{N:Nat}{s:Cfg}{v:Value}(h:t2 P N p oo s=some (k,v,b,b,O)) :
  ∃o t m x y kt et ik,oo=some o/\o.guard=none/\(o.op=.mapUpdate t m x y\/o.op=.insert t m x y)/\gm s.L m=true/\gm s.L x=true/\gm s.L y=true/\eY s.L m=.map (some b)/\eY s.L x=.int .i64 k/\eY s.L y=v/\P.underlying t=some (.map kt et)/\P.underlying kt=some (.int ik)/\s.A[p]?=some (b,.obj O)/\(dK N o.dst undef s.L).isSome=true:=by
 unfold t2 at h;split at h
 case h_2=>cases h
 rename_i o;split at h
 case h_3=>cases h
 all_goals
  rename_i t m x y h1 h2 h3;split at h
  case h_2=>cases h
  rename_i b1 k1 kt et b2 O1 h4 h5 h6 h7 h8;split at h
  case h_2=>cases h
  rename_i ik h9;simp only[de,df] at h;obtain⟨e1,e2,e3,e4,e5⟩:=h;subst e1;subst e3;subst e4;subst e5;rw[aaW,aaW] at h4
 ·exact⟨o,t,m,x,y,kt,et,ik,rfl,h1,.inl h2,h4.1,h4.2.1,h4.2.2,h5,h6,e2,h7,h9,h8,h3⟩
 ·exact⟨o,t,m,x,y,kt,et,ik,rfl,h1,.inr h2,h4.1,h4.2.1,h4.2.2,h5,h6,e2,h7,h9,h8,h3⟩
theorem Uw(p:Nat){kv:List (Int×Value×Nat)}{cl:Nat}{v:Value}(hk:RN r P N D F w0 R (SC p (bn (lc kv cl k v) (jq kv cl k)) (db N undef s)) Q)
  (h:t2 P N p (fZ s) s=some (k,v,Gp (t2 P N p (fZ s) s),Gp (t2 P N p (fZ s) s),bn kv cl):=by kernel_rfl):RN r P N D F w0 R s Q:=by
 obtain⟨o,t,m,x,y,kt,et,ik,q0,q1,q2,q3,q3',Zb,q4,q5,q5',q6,q7,P_,U5⟩:=vG h;refine⟨λ hR a w hF aT hB=>?_⟩;generalize Gp (t2 P N p (fZ s) s)=b at *;obtain⟨c,kk,L,A,Ts⟩:=s;unfold fZ at q0;cases c with
 |code c=>cases q0
 |ex c=>cases q0
 |drw _ _=>cases q0
 |ops ops j=>
  simp only at q0 q3 q3' Zb q4 q5 q5' P_ U5 hF aT;have iF:ops.toList.drop j=o::ops.toList.drop (j+1):=by
   have g_:j<ops.toList.length:=(bt.1 q0).1;rw[eB g_,(bt.1 q0).2]
  show wpListIn _ _ _ _ _ _ _ _;rw[iF,wpListIn,if_pos (by simp[Region.wanted,q1])];refine⟨λ _ _=>trivial,?_⟩;have hb:=aT.holds _ (aaC _ (aaC _ (np P_)));simp only[Blk.den] at hb;obtain⟨L',hl⟩:=b7 U5 undef;have UF:db N undef ⟨.ops ops j,kk,L,A,Ts⟩=⟨.ops ops (j+1),kk,L',A,Ts⟩:=by
   unfold db;simp only[q0,hl]
  have hh:=hk.h hR;rw[UF] at hh;have e1:a.eval m=.map (some b):=(hF.eval q3).trans q4;have e2:a.eval x=.int .i64 k:=(hF.eval q3').trans q5;have e3:a.eval y=v:=(hF.eval Zb).trans q5';have Zp:=qE (P:=P) (w:=w) (k:=k) (v:=v) q6 q7 hb;have hex:(execOp a.eval o).run P w=.ok .skip { w with heap:=w.heap.setIfInBounds b (bn (lc kv cl k v) (jq kv cl k)) }:=by
   rcases q2 with q2|q2
   ·simp only[execOp,q2,e1,e2,e3,aa8,Zp,Result.andThen];rfl
   ·simp only[execOp,q2,e1,e2,e3,aa8,Zp,Result.andThen];rfl
  have W_:∀c,o.op≠ .defer c:=by
   intro c hc;rcases q2 with q2|q2 <;> rw[q2] at hc <;> cases hc
  rw[Oper.semAt_eq _ _ _ W_,hex,Oper.uponIn_skip];have g_:=bX hb;rw[eF] at aT;have By:=aT.upd (w':={ w with heap:=w.heap.setIfInBounds b (bn (lc kv cl k v) (jq kv cl k)) }) (bl':=.obj (bn (lc kv cl k v) (jq kv cl k))) P_ (by
   show (w.heap.setIfInBounds b _)[b]?=_;rw[lv g_];rfl) (λ k' XI=>by
   show (w.heap.setIfInBounds b _)[k']?=_;rw[WP (λ e=>XI e.symm)])
  refine hh _ _ (hF.put hl) ?_ (hB.trans ⟨rfl,rfl,rfl,by simp,λ k hk=>by omega⟩);show Rel (ap (match A[p]? with|some x=>aO A p (x.1,.obj (bn (lc kv cl k v) (jq kv cl k)))|none=>A) Ts++F) _;rw[P_,eF];exact By
end
def Gq(P:Program)(N p:Nat)(s:Cfg):Option (Int×Nat×Nat×Obj):=match fZ s with
 |some o=>match o.guard,o.op,(dK N o.dst undef s.L).isSome with
  |none,.call c,true=>match c.callee,c.args.toList,c.argTypes.toList with
   | .builtin .delete,[m,x],[t,_]=>match gm s.L m && gm s.L x,eY s.L m,eY s.L x,P.underlying t,s.A[p]? with
    |true,.map (some b),.int .i64 k,some (.map kt _),some (b',.obj O)=>match P.underlying kt with
     |some (.int _)=>some (k,b,b',O)
     |_=>none
    |_,_,_,_,_=>none
   |_,_,_=>none
  |_,_,_=>none
 |none=>none
def Qt(x:Option (Int×Nat×Nat×Obj)):Nat:=match x with
 |some (_,b,_,_)=>b
 |none=>0
theorem Gr(h:Gq P N p s=some (k,b,b,O)) :
  ∃o t tx m x kt et ik,fZ s=some o/\o.guard=none/\o.op=.call { callee:=.builtin .delete,args:=#[m,x],argTypes:=#[t,tx] } /\gm s.L m=true/\gm s.L x=true/\eY s.L m=.map (some b)/\eY s.L x=vI k/\P.underlying t=some (.map kt et)/\P.underlying kt=some (.int ik)/\s.A[p]?=some (b,.obj O)/\(dK N o.dst undef s.L).isSome=true:=by
 unfold Gq at h;split at h
 case h_2=>cases h
 rename_i o ho;split at h
 case h_2=>cases h
 rename_i c h1 h2 h3;split at h
 case h_2=>cases h
 rename_i m x t tx g1 g2 g3;split at h
 case h_2=>cases h
 rename_i b1 k1 kt et b2 O1 h4 h5 h6 h7 h8;split at h
 case h_2=>cases h
 rename_i ik h9;simp only[de,df] at h;obtain⟨e1,e2,e3,e4⟩:=h;subst e1;subst e2;subst e3;subst e4;rw[aaW] at h4;refine⟨o,t,tx,m,x,kt,et,ik,ho,h1,?_,h4.1,h4.2,h5,h6,h7,h9,h8,h3⟩;obtain⟨cal,args,ats⟩:=c;simp only at g1 g2 g3;subst g1;have e1:args=#[m,x]:=by cases args;simp_all
 have e2:ats=#[t,tx]:=by cases ats;simp_all
 rw[h2,e1,e2]
section
variable {r:Option Nat} {P:Program} {N:Nat} {D:List Deferred} {F:HL} {w0:World} {R:HL} {s:Cfg} {Q:Exit->Act->World->Prop}
theorem Lf(p:Nat){kv:List (Int×Value×Nat)}{cl:Nat}(hk:RN r P N D F w0 R (SC p (bn (ld kv k) cl) (db N (.tuple #[]) s)) Q)
  (h:Gq P N p s=some (k,Qt (Gq P N p s),Qt (Gq P N p s),bn kv cl):=by kernel_rfl):RN r P N D F w0 R s Q:=by
 obtain⟨o,t,tx,m,x,kt,et,ik,q0,q1,q2,q3,q3',q4,q5,q6,q7,P_,U5⟩:=Gr h;refine⟨λ hR a w hF aT hB=>?_⟩;generalize Qt (Gq P N p s)=b at *;obtain⟨c,kk,L,A,Ts⟩:=s;unfold fZ at q0;cases c with
 |code c=>cases q0
 |ex c=>cases q0
 |drw _ _=>cases q0
 |ops ops j=>
  simp only at q0 q3 q3' q4 q5 P_ U5 hF aT;have iF:ops.toList.drop j=o::ops.toList.drop (j+1):=by
   have g_:j<ops.toList.length:=(bt.1 q0).1;rw[eB g_,(bt.1 q0).2]
  show wpListIn _ _ _ _ _ _ _ _;rw[iF,wpListIn,if_pos (by simp[Region.wanted,q1])];refine⟨λ _ _=>trivial,?_⟩;have hb:=aT.holds _ (aaC _ (aaC _ (np P_)));simp only[Blk.den] at hb;have g_:=bX hb;have key:cI P o a w λ u w'=>u=.tuple #[]/\Rel (ap (match A[p]? with|some x=>aO A p (x.1,.obj (bn (ld kv k) cl))|none=>A) Ts++F) w'/\Below 0 w w':=by
   have e1:a.eval m=.map (some b):=(hF.eval q3).trans q4;have e2:a.eval x=vI k:=(hF.eval q3').trans q5;have f_:=zY (P:=P) (w:=w) (x:=tx) (ty:=o.type) (k:=k) q6 q7 hb;unfold cI;have he:(execOp a.eval o).run P w=.ok (.value (.tuple #[])) { w with heap:=w.heap.setIfInBounds b (bn (ld kv k) cl) }:=by
    simp[execOp,q2,resolve,invoke,builtin,aa8,e1,e2,f_]
   rw[he];rw[eF] at aT;have By:=aT.upd (w':={ w with heap:=w.heap.setIfInBounds b (bn (ld kv k) cl) }) (bl':=.obj (bn (ld kv k) cl)) P_ (by
    show (w.heap.setIfInBounds b _)[b]?=_;rw[lv g_];rfl) (λ k' XI=>by
    show (w.heap.setIfInBounds b _)[k']?=_;rw[WP (λ e=>XI e.symm)])
   refine⟨rfl,?_,⟨rfl,rfl,rfl,by simp,λ k hk=>by omega⟩⟩;rw[P_,eF];exact By
  refine dT (by rw[q2];intro c hc;cases hc) key ?_;rintro u w' ⟨rfl,By,VL⟩;obtain⟨L',hl⟩:=b7 U5 (.tuple #[]);have hh:=hk.h hR;have UF:db N (.tuple #[]) ⟨.ops ops j,kk,L,A,Ts⟩=⟨.ops ops (j+1),kk,L',A,Ts⟩:=by
   unfold db;simp only[q0,hl]
  rw[UF] at hh;exact hh _ w' (hF.put hl) By (hB.trans VL)
end
end
end Go.Proofs.YtogafelgppjklaaGreatDoor
