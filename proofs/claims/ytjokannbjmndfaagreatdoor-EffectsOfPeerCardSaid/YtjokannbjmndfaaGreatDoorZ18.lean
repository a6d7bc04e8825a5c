import Derived.Test.YtjokannbjmndfaaGreatDoorZ17
set_option linter.all false
set_option maxHeartbeats 4000000
set_option maxRecDepth 100000
namespace Go.Proofs.YtjokannbjmndfaaGreatDoor
open Go.RowKit
variable {g':Gm} {i:Nat} {p:MemS->Prop} (g:Gm) (e:Int) (S:Setup) (t:Stp) (r:VR) (ph:Int) (over:Bool) (o k self j other:Int) (m:Mot) (M:MemS) (l_:List (Int×Int)) (b_:Int)
def MemS.sh(M:MemS)(l:List (Int×Int))(b:Int):MemS:=⟨M.cs,l++M.lg,b⟩
def VR.sh(r:VR)(l:List (Int×Int))(b:Int):VR:={ r with M:=r.M.sh l b }
theorem aO(l:List (Int×Int))(b i:Int):(M.sh l b).get i=M.get i:=rfl
theorem aP(l:List (Int×Int))(b i v:Int):(M.sh l b).set i v=(M.set i v).sh l b:=by
 unfold MemS.set MemS.sh;dsimp only;split
 ·simp
 ·rfl
theorem aU(N:MemS)(l:List (Int×Int))(b:Int)(c:Prop)[Decidable c]:(if c then M.sh l b else N.sh l b)=(if c then M else N).sh l b:=by split <;> rfl
theorem aG(M N:VR)(l:List (Int×Int))(b:Int)(c:Prop)[Decidable c]:(if c then M.sh l b else N.sh l b)=(if c then M else N).sh l b:=by split <;> rfl
theorem aQ(l:List (Int×Int))(b v:Int)(e:Eff)(em:Bool):(⟨M.sh l b,v,e,em⟩:VR)=VR.sh ⟨M,v,e,em⟩ l b:=rfl
theorem az(code:List Ins)(M:MemS)(l:List (Int×Int))(b:Int):fp code (M.sh l b)=fp code M:=rfl
theorem bP(l:List (Int×Int))(b:Int):(r.sh l b).z=r.z.sh l b:=rfl
theorem bE(l:List (Int×Int))(b:Int):(r.sh l b).M=r.M.sh l b:=rfl
theorem bQ(l:List (Int×Int))(b:Int):(r.sh l b).v=r.v:=rfl
theorem bI(l:List (Int×Int))(b:Int):(r.sh l b).e=r.e:=rfl
theorem aR(l:List (Int×Int))(b:Int):(r.sh l b).em=r.em:=rfl
theorem om(k:Int)(l_:List (Int×Int))(b_:Int):au S (M.sh l_ b_) k=au S M k:=by
 unfold au;simp only[aO,aP,aU,aG,aQ,bE,bQ,bI,aR,az,bP] <;> rfl
theorem gq:aZ t ph j (M.sh l_ b_)=(aZ t ph j M).sh l_ b_:=by
 unfold aZ;simp only[aO,aP,aU,aG,aQ,bE,bQ,bI,aR,az,bP] <;> rfl
theorem Bt:cX t k m (M.sh l_ b_)=(cX t k m M).sh l_ b_:=by
 unfold cX;simp only[aO,aP,aU,aG,aQ,bE,bQ,bI,aR,az,bP] <;> rfl
theorem EZ(c sp pos lo hi:Int)(M:MemS)(l_:List (Int×Int))(b_:Int):dD t c sp pos lo hi (M.sh l_ b_)=(dD t c sp pos lo hi M).sh l_ b_:=by
 unfold dD;simp only[aO,aP,aU,aG,aQ,bE,bQ,bI,aR,az,bP] <;> rfl
theorem E0:cQ t (M.sh l_ b_)=(cQ t M).sh l_ b_:=by
 unfold cQ;simp only[aO,aP,aU,aG,aQ,bE,bQ,bI,aR,az,bP] <;> rfl
theorem E1:cY t (M.sh l_ b_)=(cY t M).sh l_ b_:=by
 unfold cY;simp only[aO,aP,aU,aG,aQ,bE,bQ,bI,aR,az,bP] <;> rfl
theorem E2:fT t (M.sh l_ b_)=(fT t M).sh l_ b_:=by
 unfold fT;simp only[aO,aP,aU,aG,aQ,bE,bQ,bI,aR,az,bP,gq] <;> rfl
theorem E3:dN t (M.sh l_ b_)=(dN t M).sh l_ b_:=by
 unfold dN;simp only[aO,aP,aU,aG,aQ,bE,bQ,bI,aR,az,bP,E0,E1,E2] <;> rfl
theorem H4:fB t (M.sh l_ b_)=(fB t M).sh l_ b_:=by
 unfold fB;simp only[aO,aP,aU,aG,aQ,bE,bQ,bI,aR,az,bP] <;> rfl
theorem uy(M:MemS)(l_:List (Int×Int))(b_:Int):∀n,eI (M.sh l_ b_) n=(eI M n).sh l_ b_
 |0=>rfl
 |n+1=>by rw[eI,eI,uy M l_ b_ n,aP]
theorem H5:kT t (M.sh l_ b_)=(kT t M).sh l_ b_:=by
 unfold kT;simp only[aO,aP,aU,aG,aQ,bE,bQ,bI,aR,az,bP,uy] <;> rfl
theorem H6:fN t (M.sh l_ b_)=(fN t M).sh l_ b_:=by
 unfold fN;simp only[aO,aP,aU,aG,aQ,bE,bQ,bI,aR,az,bP,H4,H5] <;> rfl
theorem E4:fU t (M.sh l_ b_)=fU t M:=by
 unfold fU;simp only[aO,aP,aU,aG,aQ,bE,bQ,bI,aR,az,bP,om] <;> rfl
theorem E5:eJ t (M.sh l_ b_)=(eJ t M).sh l_ b_:=by
 unfold eJ;simp only[aO,aP,aU,aG,aQ,bE,bQ,bI,aR,az,bP] <;> rfl
theorem E6:d7 t (M.sh l_ b_)=(d7 t M).sh l_ b_:=by
 unfold d7;simp only[aO,aP,aU,aG,aQ,bE,bQ,bI,aR,az,bP,E4] <;> rfl
theorem E7:fV t (M.sh l_ b_)=(fV t M).sh l_ b_:=by
 unfold fV;simp only[aO,aP,aU,aG,aQ,bE,bQ,bI,aR,az,bP,gq] <;> rfl
theorem E8:dP t (M.sh l_ b_)=(dP t M).sh l_ b_:=by
 unfold dP;simp only[aO,aP,aU,aG,aQ,bE,bQ,bI,aR,az,bP,E5,E6,E7] <;> rfl
theorem Bu:lX (M.sh l_ b_)=lX M:=by
 unfold lX;simp only[aO,aP,aU,aG,aQ,bE,bQ,bI,aR,az,bP] <;> rfl
theorem Bv:gE t (M.sh l_ b_)=gE t M:=by
 unfold gE;simp only[aO,aP,aU,aG,aQ,bE,bQ,bI,aR,az,bP,om,Bu] <;> rfl
theorem Bw:cI t (M.sh l_ b_)=(cI t M).sh l_ b_:=by
 unfold cI;simp only[aO,aP,aU,aG,aQ,bE,bQ,bI,aR,az,bP,EZ,Bv] <;> rfl
theorem H7(v:Int)(M:MemS)(l_:List (Int×Int))(b_:Int):cy k v (M.sh l_ b_)=(cy k v M).sh l_ b_:=by
 unfold cy;simp only[aO,aP,aU,aG,aQ,bE,bQ,bI,aR,az,bP] <;> rfl
theorem H8(op n a b:Int)(M:MemS)(l_:List (Int×Int))(b_:Int):dz S op n a b (M.sh l_ b_)=(dz S op n a b M).sh l_ b_:=by
 unfold dz;simp only[aO,aP,aU,aG,aQ,bE,bQ,bI,aR,az,bP,H7] <;> rfl
theorem L3(op sp:Int)(M:MemS)(l_:List (Int×Int))(b_:Int):pj op sp (M.sh l_ b_)=pj op sp M:=by
 unfold pj;simp only[aO,aP,aU,aG,aQ,bE,bQ,bI,aR,az,bP] <;> rfl
theorem L4(op sp:Int)(M:MemS)(l_:List (Int×Int))(b_:Int):pk op sp (M.sh l_ b_)=pk op sp M:=by
 unfold pk;simp only[aO,aP,aU,aG,aQ,bE,bQ,bI,aR,az,bP] <;> rfl
theorem L5(op sp pc fuel:Int)(M:MemS)(l_:List (Int×Int))(b_:Int):mB op sp pc fuel (M.sh l_ b_)=(mB op sp pc fuel M).sh l_ b_:=by
 unfold mB;simp only[aO,aP,aU,aG,aQ,bE,bQ,bI,aR,az,bP] <;> rfl
theorem H9(op n sp pc fuel:Int)(M:MemS)(l_:List (Int×Int))(b_:Int):iq S op n sp pc fuel (M.sh l_ b_)=(iq S op n sp pc fuel M).sh l_ b_:=by
 unfold iq;simp only[aO,aP,aU,aG,aQ,bE,bQ,bI,aR,az,bP,H8,L3,L4,L5] <;> rfl
theorem ym(code:List Ins)(n:Nat)(M:MemS)(l_:List (Int×Int))(b_:Int):(gc code n (M.sh l_ b_))=(gc code n M):=by
 unfold gc;simp only[aO,aP,aU,aG,aQ,bE,bQ,bI,aR,az,bP] <;> rfl
theorem Ib(op sp:Int)(r:VR)(l_:List (Int×Int))(b_:Int):jN op sp (r.sh l_ b_)=(jN op sp r).sh l_ b_:=by
 unfold jN;simp only[aO,aP,aU,aG,aQ,bE,bQ,bI,aR,az,bP] <;> rfl
theorem Ic(code:List Ins)(n:Nat)(M:MemS)(l_:List (Int×Int))(b_:Int):aj S code n (M.sh l_ b_)=(aj S code n M).sh l_ b_:=by
 unfold aj;simp only[aO,aP,aU,aG,aQ,bE,bQ,bI,aR,az,bP,H9,ym,Ib] <;> rfl
theorem L6(code:List Ins)(n:Nat)(M:MemS)(l_:List (Int×Int))(b_:Int):cM code n (M.sh l_ b_)=cM code n M:=by
 unfold cM;simp only[aO,aP,aU,aG,aQ,bE,bQ,bI,aR,az,bP,ym] <;> rfl
theorem E9(fuel self other:Int)(M:MemS)(l_:List (Int×Int))(b_:Int):aK e fuel self other (M.sh l_ b_)=(aK e fuel self other M).sh l_ b_:=by
 unfold aK;simp only[aO,aP,aU,aG,aQ,bE,bQ,bI,aR,az,bP] <;> rfl
theorem wg:ep e t self other (M.sh l_ b_)=(ep e t self other M).sh l_ b_:=by
 unfold ep;simp only[aO,aP,aU,aG,aQ,bE,bQ,bI,aR,az,bP,Ic,E9] <;> rfl
theorem wh:di e t self other (M.sh l_ b_)=di e t self other M:=by
 unfold di;simp only[aO,aP,aU,aG,aQ,bE,bQ,bI,aR,az,bP,L6] <;> rfl
theorem yn(t:Stp)(UP:Bool)(M:MemS)(l_:List (Int×Int))(b_:Int):c6 (r.sh l_ b_) over t UP (M.sh l_ b_)=(c6 r over t UP M).sh l_ b_:=by
 unfold c6;simp only[aO,aP,aU,aG,aQ,bE,bQ,bI,aR,az,bP] <;> rfl
theorem Ie(c:Bool)(M:MemS)(l_:List (Int×Int))(b_:Int):cz t o c (M.sh l_ b_)=(cz t o c M).sh l_ b_:=by
 unfold cz bT ji;rw[wg,wh,yn]
theorem Ig(c:Bool)(M:MemS)(l_:List (Int×Int))(b_:Int):cB t o c (M.sh l_ b_)=(cB t o c M).sh l_ b_:=by
 unfold cB bU jj;rw[wg,wh,yn]
theorem L7:eR t (M.sh l_ b_)=(eR t M).sh l_ b_:=by
 unfold eR;simp only[aO,aP,aU,aG,aQ,bE,bQ,bI,aR,az,bP,gq,Ie] <;> rfl
theorem Ii:cG t (M.sh l_ b_)=(cG t M).sh l_ b_:=by
 unfold cG;simp only[aO,aP,aU,aG,aQ,bE,bQ,bI,aR,az,bP,gq,wg,wh] <;> rfl
theorem C4:tD t (M.sh l_ b_)=tD t M:=by
 unfold tD;simp only[aO,aP,aU,aG,aQ,bE,bQ,bI,aR,az,bP,om] <;> rfl
theorem L8:ya t (M.sh l_ b_)=ya t M:=by
 unfold ya;simp only[aO,aP,aU,aG,aQ,bE,bQ,bI,aR,az,bP,om,C4] <;> rfl
theorem yo:fD t (M.sh l_ b_)=(fD t M).sh l_ b_:=by
 unfold fD;simp only[aO,aP,aU,aG,aQ,bE,bQ,bI,aR,az,bP,Bt,L8] <;> rfl
theorem Fa:dp t (M.sh l_ b_)=(dp t M).sh l_ b_:=by
 unfold dp;simp only[aO,aP,aU,aG,aQ,bE,bQ,bI,aR,az,bP,C4,yo] <;> rfl
theorem L9:tE t (M.sh l_ b_)=tE t M:=by
 unfold tE;simp only[aO,aP,aU,aG,aQ,bE,bQ,bI,aR,az,bP,om] <;> rfl
theorem Ij:ew t (M.sh l_ b_)=(ew t M).sh l_ b_:=by
 unfold ew;simp only[aO,aP,aU,aG,aQ,bE,bQ,bI,aR,az,bP,L9] <;> rfl
theorem Ik:fE t (M.sh l_ b_)=(fE t M).sh l_ b_:=by
 unfold fE;simp only[aO,aP,aU,aG,aQ,bE,bQ,bI,aR,az,bP,gq] <;> rfl
theorem Il:dC t (M.sh l_ b_)=(dC t M).sh l_ b_:=by
 unfold dC;simp only[aO,aP,aU,aG,aQ,bE,bQ,bI,aR,az,bP,Bw,Ij,Ik] <;> rfl
theorem yp:bD t (M.sh l_ b_)=(bD t M).sh l_ b_:=by
 unfold bD;simp only[aO,aP,aU,aG,aQ,bE,bQ,bI,aR,az,bP,gq,Fa] <;> rfl
theorem Ma:eS t (M.sh l_ b_)=(eS t M).sh l_ b_:=by
 unfold eS;simp only[aO,aP,aU,aG,aQ,bE,bQ,bI,aR,az,bP,gq,Ig] <;> rfl
theorem Mb(l:List (Int×Int))(b:Int):g.step (M.sh l b)=g.step M:=rfl
theorem wi(l:List (Int×Int))(b:Int):d8 g (M.sh l b)=(d8 g M).sh l b:=by
 unfold d8;simp only[Mb,aO,E3,L7,Ii,E8,yp,Il,Ma,H6,aQ,aG]
theorem Im(l:List (Int×Int))(b:Int):jf g (M.sh l b)=jf g M:=rfl
theorem C5(g:Gm)(l:List (Int×Int))(b:Int):∀ (n:Nat) (M:MemS),fW g n (M.sh l b)=(fW g n M).sh l b
 |0,_=>rfl
 |n+1,M=>by rw[fW,fW,jg,jg,wi,bE];exact C5 g l b n _
theorem yq(g:Gm)(l:List (Int×Int))(b:Int):∀ (n:Nat) (M:MemS),effsV g n (M.sh l b)=effsV g n M
 |0,_=>rfl
 |n+1,M=>by rw[effsV,effsV,jg,jg,wi,bE,bI,aR,yq g l b n]
def yr(g:Gm):Nat->MemS->Nat
 |0,_=>0
 |f+1,M=>if jf g M=true then 0 else yr g f (jg g M)+1
theorem Ip{g:Gm}:∀ (m f:Nat) (M:MemS),dK g (m+1) M->m<f->yr g f M=m
 |m,0,M,_,h=>by omega
 |0,f+1,M,h,_=>by
  rcases h.2 with ⟨_,e⟩|⟨_,e⟩
  ·rw[yr,if_pos e]
  ·exact e.elim
 |m+1,f+1,M,h,hf=>by
  rcases h.2 with ⟨e,_⟩|⟨e1,e2⟩
  ·omega
  ·rw[yr,if_neg (by rw[e1];simp),Ip m f _ e2 (by omega)]
def iK(g:Gm)(M:MemS):MemS:=fW g (yr g 1000 M+1) M
def l7(g:Gm)(M:MemS):List Eff:=effsV g (yr g 1000 M+1) M
theorem Bz{g g':Gm}(h:GEq g g'):∀ (f:Nat) (M:MemS),yr g f M=yr g' f M
 |0,_=>rfl
 |f+1,M=>by rw[yr,yr,H3 h,jg,jg,we h,Bz h f]
theorem BA{g:Gm}(h:GEq g g')(M:MemS):iK g M=iK g' M:=by rw[iK,iK,Bz h,C3 h]
theorem Iq{g:Gm}(h:GEq g g')(M:MemS):l7 g M=l7 g' M:=by rw[l7,l7,Bz h,yl h]
theorem BB(g:Gm)(l:List (Int×Int))(b:Int):∀ (f:Nat) (M:MemS),yr g f (M.sh l b)=yr g f M
 |0,_=>rfl
 |f+1,M=>by rw[yr,yr,Im,jg,jg,wi,bE,BB g l b f]
theorem wj(l:List (Int×Int))(b:Int):iK g (M.sh l b)=(iK g M).sh l b:=by rw[iK,iK,BB,C5]
theorem Ir(l:List (Int×Int))(b:Int):l7 g (M.sh l b)=l7 g M:=by rw[l7,l7,BB,yq]
theorem lC:(MemS.sh ⟨M.cs,[],0⟩ M.lg M.base)=M:=by cases M;simp[MemS.sh]
theorem BC{g:Gm}{M N:MemS}(h:M.cs=N.cs):(iK g M).cs=(iK g N).cs:=by
 rw[<- lC M,<- lC N,wj,wj,h];rfl
theorem wl{g:Gm}{M N:MemS}(h:M.cs=N.cs):l7 g M=l7 g N:=by
 rw[<- lC M,<- lC N,Ir,Ir,h]
def i7(g:Gm):Nat->MemS->List (Eff×Bool)
 |0,_=>[]
 |n+1,M=>((d8 g M).e,(d8 g M).em)::i7 g n (jg g M)
theorem i8(g:Gm):∀ (n:Nat) (M:MemS),(i7 g n M).length=n
 |0,_=>rfl
 |n+1,M=>by rw[i7,aaZ,i8 g n]
def mC:List (Eff×Bool)->List Eff
 | []=>[]
 |x::l=>(if x.2=true then [x.1] else [])++mC l
theorem yt(g:Gm):∀ (n:Nat) (M:MemS),mC (i7 g n M)=effsV g n M
 |0,_=>rfl
 |n+1,M=>by rw[i7,mC,yt g n,effsV]
theorem rN:∀ (l m:List (Eff×Bool)),mC (l++m)=mC l++mC m
 | [],m=>rfl
 |x::l,m=>by rw[abB,mC,mC,rN l m,aaF]
theorem yu:∀ (l:List (Eff×Bool)),(mC l).length<=l.length
 | []=>aaI _
 |x::l=>by
  have:=yu l;rw[mC,aaK,aaZ];split
  ·simp;omega
  ·simp;omega
theorem Iu{l:List (Eff×Bool)}{x:Eff×Bool}(h:l[i]?=some x)(e:x.2=true):mC (l.take (i+1))=mC (l.take i)++[x.1]:=by
 rw[aeq,h,rN];show _++((if x.2=true then [x.1] else [])++[])=_;rw[if_pos e];rfl
theorem Mc{l:List (Eff×Bool)}{x:Eff×Bool}(h:l[i]?=some x)(e:¬ x.2=true):mC (l.take (i+1))=mC (l.take i):=by
 rw[aeq,h,rN];show _++((if x.2=true then [x.1] else [])++[])=_;rw[if_neg e];simp
theorem gN{g:Gm}{l:List (Eff×Bool)}{r:Nat}{M:MemS}(h:l.drop i=i7 g (r+1) M):l[i]?=some ((d8 g M).e,(d8 g M).em)/\l.drop (i+1)=i7 g r (jg g M):=by
 constructor
 ·have:=congrArg (·[0]?) h;simpa [i7] using this
 ·have:=congrArg List.tail h;rwa [List.tail_drop] at this
theorem bJ{c:Prop}[Decidable c]{A B:MemS}(h1:p A)(h2:p B):p (if c then A else B):=by split <;> assumption
theorem bg{c:Prop}[Decidable c]{A B:VR}(h1:p A.M)(h2:p B.M):p (if c then A else B).M:=by split <;> assumption
theorem cW{r:VR}(h:p r.M):p r.z.M:=h
theorem gt(hp:∀ (M:MemS) (i v:Int),p M->p (M.set i v))(t:Stp)(ph j:Int)(M:MemS)(S_:p M):p (aZ t ph j M):=by
 unfold aZ
 repeat' (first|with_reducible assumption|with_reducible apply hp|with_reducible apply bJ|with_reducible apply bg|with_reducible apply cW|split|assumption)
theorem BD(hp:∀ (M:MemS) (i v:Int),p M->p (M.set i v))(t:Stp)(k:Int)(m:Mot)(M:MemS)(S_:p M):p (cX t k m M):=by
 unfold cX
 repeat' (first|with_reducible assumption|with_reducible apply hp|with_reducible apply bJ|with_reducible apply bg|with_reducible apply cW|split|assumption)
theorem Fb(hp:∀ (M:MemS) (i v:Int),p M->p (M.set i v))(t:Stp)(c sp pos lo hi:Int)(M:MemS)(S_:p M):p (dD t c sp pos lo hi M):=by
 unfold dD
 repeat' (first|with_reducible assumption|with_reducible apply hp|with_reducible apply bJ|with_reducible apply bg|with_reducible apply cW|split|assumption)
theorem Fc(hp:∀ (M:MemS) (i v:Int),p M->p (M.set i v))(t:Stp)(M:MemS)(S_:p M):p (cQ t M):=by
 unfold cQ
 repeat' (first|with_reducible assumption|with_reducible apply hp|with_reducible apply bJ|with_reducible apply bg|with_reducible apply cW|split|assumption)
theorem Fd(hp:∀ (M:MemS) (i v:Int),p M->p (M.set i v))(t:Stp)(M:MemS)(S_:p M):p (cY t M):=by
 unfold cY
 repeat' (first|with_reducible assumption|with_reducible apply hp|with_reducible apply bJ|with_reducible apply bg|with_reducible apply cW|split|assumption)
theorem Ff(hp:∀ (M:MemS) (i v:Int),p M->p (M.set i v))(t:Stp)(M:MemS)(S_:p M):p (fT t M):=by
 unfold fT
 repeat' (first|with_reducible assumption|with_reducible apply hp|with_reducible apply gt hp|with_reducible apply bJ|with_reducible apply bg|with_reducible apply cW|split|assumption)
theorem Fg(hp:∀ (M:MemS) (i v:Int),p M->p (M.set i v))(t:Stp)(M:MemS)(S_:p M):p (dN t M):=by
 unfold dN
 repeat' (first|with_reducible assumption|with_reducible apply hp|with_reducible apply Fc hp|with_reducible apply Fd hp|with_reducible apply Ff hp|with_reducible apply bJ|with_reducible apply bg|with_reducible apply cW|split|assumption)
theorem Iv(hp:∀ (M:MemS) (i v:Int),p M->p (M.set i v))(t:Stp)(M:MemS)(S_:p M):p (fB t M):=by
 unfold fB
 repeat' (first|with_reducible assumption|with_reducible apply hp|with_reducible apply bJ|with_reducible apply bg|with_reducible apply cW|split|assumption)
theorem uz{p:MemS->Prop}(hp:∀ (M:MemS) (i v:Int),p M->p (M.set i v))(M:MemS)(h:p M):∀n,p (eI M n)
 |0=>h
 |n+1=>by rw[eI];exact hp _ _ _ (uz hp M h n)
theorem Iw(hp:∀ (M:MemS) (i v:Int),p M->p (M.set i v))(t:Stp)(M:MemS)(S_:p M):p (kT t M):=by
 unfold kT
 repeat' (first|with_reducible assumption|with_reducible apply hp|with_reducible apply uz hp|with_reducible apply bJ|with_reducible apply bg|with_reducible apply cW|split|assumption)
theorem Iy(hp:∀ (M:MemS) (i v:Int),p M->p (M.set i v))(t:Stp)(M:MemS)(S_:p M):p (fN t M):=by
 unfold fN
 repeat' (first|with_reducible assumption|with_reducible apply hp|with_reducible apply Iv hp|with_reducible apply Iw hp|with_reducible apply bJ|with_reducible apply bg|with_reducible apply cW|split|assumption)
theorem Fh(hp:∀ (M:MemS) (i v:Int),p M->p (M.set i v))(t:Stp)(M:MemS)(S_:p M):p (eJ t M):=by
 unfold eJ
 repeat' (first|with_reducible assumption|with_reducible apply hp|with_reducible apply bJ|with_reducible apply bg|with_reducible apply cW|split|assumption)
theorem Fi(hp:∀ (M:MemS) (i v:Int),p M->p (M.set i v))(t:Stp)(M:MemS)(S_:p M):p (d7 t M):=by
 unfold d7
 repeat' (first|with_reducible assumption|with_reducible apply hp|with_reducible apply bJ|with_reducible apply bg|with_reducible apply cW|split|assumption)
theorem Fj(hp:∀ (M:MemS) (i v:Int),p M->p (M.set i v))(t:Stp)(M:MemS)(S_:p M):p (fV t M):=by
 unfold fV
 repeat' (first|with_reducible assumption|with_reducible apply hp|with_reducible apply gt hp|with_reducible apply bJ|with_reducible apply bg|with_reducible apply cW|split|assumption)
theorem Fk(hp:∀ (M:MemS) (i v:Int),p M->p (M.set i v))(t:Stp)(M:MemS)(S_:p M):p (dP t M):=by
 unfold dP
 repeat' (first|with_reducible assumption|with_reducible apply hp|with_reducible apply Fh hp|with_reducible apply Fi hp|with_reducible apply Fj hp|with_reducible apply bJ|with_reducible apply bg|with_reducible apply cW|split|assumption)
theorem BE(hp:∀ (M:MemS) (i v:Int),p M->p (M.set i v))(t:Stp)(M:MemS)(S_:p M):p (cI t M):=by
 unfold cI
 repeat' (first|with_reducible assumption|with_reducible apply hp|with_reducible apply Fb hp|with_reducible apply bJ|with_reducible apply bg|with_reducible apply cW|split|assumption)
theorem Iz(hp:∀ (M:MemS) (i v:Int),p M->p (M.set i v))(k v:Int)(M:MemS)(S_:p M):p (cy k v M).M:=by
 unfold cy
 repeat' (first|with_reducible assumption|with_reducible apply hp|with_reducible apply bJ|with_reducible apply bg|with_reducible apply cW|split|assumption)
theorem IA(hp:∀ (M:MemS) (i v:Int),p M->p (M.set i v))(S:Setup)(op n a b:Int)(M:MemS)(S_:p M):p (dz S op n a b M).M:=by
 unfold dz
 repeat' (first|with_reducible assumption|with_reducible apply hp|with_reducible apply Iz hp|with_reducible apply bJ|with_reducible apply bg|with_reducible apply cW|split|assumption)
theorem Md(hp:∀ (M:MemS) (i v:Int),p M->p (M.set i v))(op sp pc fuel:Int)(M:MemS)(S_:p M):p (mB op sp pc fuel M):=by
 unfold mB
 repeat' (first|with_reducible assumption|with_reducible apply hp|with_reducible apply bJ|with_reducible apply bg|with_reducible apply cW|split|assumption)
theorem IB(hp:∀ (M:MemS) (i v:Int),p M->p (M.set i v))(S:Setup)(op n sp pc fuel:Int)(M:MemS)(S_:p M):p (iq S op n sp pc fuel M).M:=by
 unfold iq
 repeat' (first|with_reducible assumption|with_reducible apply hp|with_reducible apply IA hp|with_reducible apply Md hp|with_reducible apply bJ|with_reducible apply bg|with_reducible apply cW|split|assumption)
theorem IC(hp:∀ (M:MemS) (i v:Int),p M->p (M.set i v))(op sp:Int)(r:VR)(S_:p r.M):p (jN op sp r).M:=by
 unfold jN
 repeat' (first|with_reducible assumption|with_reducible apply hp|with_reducible apply bJ|with_reducible apply bg|with_reducible apply cW|split|assumption)
theorem IE(hp:∀ (M:MemS) (i v:Int),p M->p (M.set i v))(S:Setup)(code:List Ins)(n:Nat)(M:MemS)(S_:p M):p (aj S code n M).M:=by
 unfold aj
 repeat' (first|with_reducible assumption|with_reducible apply hp|with_reducible apply IB hp|with_reducible apply IC hp|with_reducible apply bJ|with_reducible apply bg|with_reducible apply cW|split|assumption)
theorem Fl(hp:∀ (M:MemS) (i v:Int),p M->p (M.set i v))(e fuel self other:Int)(M:MemS)(S_:p M):p (aK e fuel self other M):=by
 unfold aK
 repeat' (first|with_reducible assumption|with_reducible apply hp|with_reducible apply bJ|with_reducible apply bg|with_reducible apply cW|split|assumption)
theorem wm(hp:∀ (M:MemS) (i v:Int),p M->p (M.set i v))(e:Int)(t:Stp)(self other:Int)(M:MemS)(S_:p M):p (ep e t self other M).M:=by
 unfold ep
 repeat' (first|with_reducible assumption|with_reducible apply hp|with_reducible apply IE hp|with_reducible apply Fl hp|with_reducible apply bJ|with_reducible apply bg|with_reducible apply cW|split|assumption)
theorem jP(hp:∀ (M:MemS) (i v:Int),p M->p (M.set i v))(r:VR)(over:Bool)(t:Stp)(UP:Bool)(M:MemS)(S_:p r.M)(VZ:p M):p (c6 r over t UP M).M:=by
 unfold c6
 repeat' (first|with_reducible assumption|with_reducible apply hp|with_reducible apply bJ|with_reducible apply bg|with_reducible apply cW|split|assumption)
theorem IG(hp:∀ (M:MemS) (i v:Int),p M->p (M.set i v))(t:Stp)(o:Int)(c:Bool)(M:MemS)(h:p M):p (cz t o c M).M:=by
 unfold cz bT ji
 first|exact jP hp _ _ _ _ _ h|exact jP hp _ _ _ _ h|(repeat' (first|assumption|apply jP hp|apply wm hp|split))
theorem IH(hp:∀ (M:MemS) (i v:Int),p M->p (M.set i v))(t:Stp)(o:Int)(c:Bool)(M:MemS)(h:p M):p (cB t o c M).M:=by
 unfold cB bU jj
 first|exact jP hp _ _ _ _ _ h|exact jP hp _ _ _ _ h|(repeat' (first|assumption|apply jP hp|apply wm hp|split))
theorem Me(hp:∀ (M:MemS) (i v:Int),p M->p (M.set i v))(t:Stp)(M:MemS)(S_:p M):p (eR t M).M:=by
 unfold eR
 repeat' (first|with_reducible assumption|with_reducible apply hp|with_reducible apply gt hp|with_reducible apply IG hp|with_reducible apply bJ|with_reducible apply bg|with_reducible apply cW|split|assumption)
theorem II(hp:∀ (M:MemS) (i v:Int),p M->p (M.set i v))(t:Stp)(M:MemS)(S_:p M):p (cG t M).M:=by
 unfold cG
 repeat' (first|with_reducible assumption|with_reducible apply hp|with_reducible apply gt hp|with_reducible apply wm hp|with_reducible apply bJ|with_reducible apply bg|with_reducible apply cW|split|assumption)
theorem yv(hp:∀ (M:MemS) (i v:Int),p M->p (M.set i v))(t:Stp)(M:MemS)(S_:p M):p (fD t M):=by
 unfold fD
 repeat' (first|with_reducible assumption|with_reducible apply hp|with_reducible apply BD hp|with_reducible apply bJ|with_reducible apply bg|with_reducible apply cW|split|assumption)
theorem Fp(hp:∀ (M:MemS) (i v:Int),p M->p (M.set i v))(t:Stp)(M:MemS)(S_:p M):p (dp t M):=by
 unfold dp
 repeat' (first|with_reducible assumption|with_reducible apply hp|with_reducible apply yv hp|with_reducible apply bJ|with_reducible apply bg|with_reducible apply cW|split|assumption)
theorem IJ(hp:∀ (M:MemS) (i v:Int),p M->p (M.set i v))(t:Stp)(M:MemS)(S_:p M):p (ew t M):=by
 unfold ew
 repeat' (first|with_reducible assumption|with_reducible apply hp|with_reducible apply bJ|with_reducible apply bg|with_reducible apply cW|split|assumption)
theorem IK(hp:∀ (M:MemS) (i v:Int),p M->p (M.set i v))(t:Stp)(M:MemS)(S_:p M):p (fE t M):=by
 unfold fE
 repeat' (first|with_reducible assumption|with_reducible apply hp|with_reducible apply gt hp|with_reducible apply bJ|with_reducible apply bg|with_reducible apply cW|split|assumption)
theorem IL(hp:∀ (M:MemS) (i v:Int),p M->p (M.set i v))(t:Stp)(M:MemS)(S_:p M):p (dC t M):=by
 unfold dC
 repeat' (first|with_reducible assumption|with_reducible apply hp|with_reducible apply BE hp|with_reducible apply IJ hp|with_reducible apply IK hp|with_reducible apply bJ|with_reducible apply bg|with_reducible apply cW|split|assumption)
theorem yw(hp:∀ (M:MemS) (i v:Int),p M->p (M.set i v))(t:Stp)(M:MemS)(S_:p M):p (bD t M):=by
 unfold bD
 repeat' (first|with_reducible assumption|with_reducible apply hp|with_reducible apply gt hp|with_reducible apply Fp hp|with_reducible apply bJ|with_reducible apply bg|with_reducible apply cW|split|assumption)
theorem Mf(hp:∀ (M:MemS) (i v:Int),p M->p (M.set i v))(t:Stp)(M:MemS)(S_:p M):p (eS t M).M:=by
 unfold eS
 repeat' (first|with_reducible assumption|with_reducible apply hp|with_reducible apply gt hp|with_reducible apply IH hp|with_reducible apply bJ|with_reducible apply bg|with_reducible apply cW|split|assumption)
theorem Pj(hp:∀ (M:MemS) (i v:Int),p M->p (M.set i v))(g:Gm){M:MemS}(h:p M):p (d8 g M).M:=by
 unfold d8
 repeat' (first|with_reducible assumption|with_reducible apply Fg hp|with_reducible apply Iy hp|with_reducible apply Fk hp|with_reducible apply Me hp|with_reducible apply II hp|with_reducible apply IL hp|with_reducible apply yw hp|with_reducible apply Mf hp|with_reducible apply bJ|with_reducible apply bg|split)
theorem C6{p:MemS->Prop}(hp:∀ (M:MemS) (i v:Int),p M->p (M.set i v))(g:Gm):∀ (n:Nat) (M:MemS),p M->p (fW g n M)
 |0,_,h=>h
 |n+1,M,h=>by rw[fW,jg];exact C6 hp g n _ (Pj hp g h)
theorem Pk(hp:∀ (M:MemS) (i v:Int),p M->p (M.set i v))(g:Gm){M:MemS}(h:p M):p (iK g M):=C6 hp g _ M h
def gO(cs:List Int)(es:List (Int×Int)):List Int:=es.foldr (λ e c=>c.set e.1.toNat e.2) cs
structure UndP(c:List Int)(M:MemS):Prop where
 und:gO M.cs M.lg=c
 len:M.cs.length=c.length
 ent:∀e∈M.lg,0<=e.1/\e.1<(c.length:Int)
theorem UndP.set{c:List Int}(M:MemS)(i v:Int)(h:UndP c M):UndP c (M.set i v):=by
 unfold MemS.set;split
 ·next hi=>
  have hl:=h.len;refine⟨?_,by show (M.cs.set _ _).length=_;rw[ack];exact hl,?_⟩
  ·show gO (M.cs.set _ _) (M.lg++[_])=c;unfold gO;rw[List.foldr_append];show M.lg.foldr _ ((M.cs.set i.toNat v).set i.toNat (M.cs.getD i.toNat 0))=c;have e:(M.cs.set i.toNat v).set i.toNat (M.cs.getD i.toNat 0)=M.cs:=by
    rw[List.set_set];apply acg;intro k;rw[acS];split
    ·next e=>subst e;rw[if_pos (by omega),aaG,aa1 (by omega)];rfl
    ·rfl
   rw[e];exact h.und
  ·intro e he;rcases np.1 he with he|he
   ·exact h.ent e he
   ·rw[eb] at he;subst he;exact⟨by omega,by show i<_;omega⟩
 ·exact h
theorem BF(c:List Int)(b:Int):UndP c ⟨c,[],b⟩:=⟨rfl,rfl,λ _ h=>by cases h⟩
theorem Pm:∃es,(iK g M).lg=M.lg++es/\(iK g M).base=M.base/\UndP M.cs ⟨(iK g M).cs,es,0⟩:=by
 have h:=Pk (p:=UndP M.cs) UndP.set g (M:=⟨M.cs,[],0⟩) (BF M.cs 0);have e:iK g M=(iK g ⟨M.cs,[],0⟩).sh M.lg M.base:=by rw[<- wj,lC]
 rw[e];refine⟨(iK g ⟨M.cs,[],0⟩).lg,rfl,rfl,?_⟩;exact⟨h.und,h.len,h.ent⟩
end Go.Proofs.YtjokannbjmndfaaGreatDoor
