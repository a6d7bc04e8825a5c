import Derived.Test.YtghjbimijeinfaaGreatDoorV13
set_option maxHeartbeats 4000000
set_option maxRecDepth 100000
set_option linter.all false
namespace Go.Proofs.YtghjbimijeinfaaGreatDoor
open IntKind
open Go.RowKit
def MemS.sh(M:MemS)(l:List (Int × Int))(b:Int):MemS:=⟨M.cs,l++M.lg,b⟩
def VR.sh(r:VR)(l:List (Int × Int))(b:Int):VR:={ r with M:=r.M.sh l b }
theorem aX(M:MemS)(l:List (Int × Int))(b i:Int):(M.sh l b).get i=M.get i:=rfl
theorem aY(M:MemS)(l:List (Int × Int))(b i v:Int):(M.sh l b).set i v=(M.set i v).sh l b:=by
 unfold MemS.set MemS.sh;dsimp only;split
 ·simp
 ·rfl
theorem bg(M N:MemS)(l:List (Int × Int))(b:Int)(c:Prop)[Decidable c]:(if c then M.sh l b else N.sh l b)=(if c then M else N).sh l b:=by split <;> rfl
theorem aJ(M N:VR)(l:List (Int × Int))(b:Int)(c:Prop)[Decidable c]:(if c then M.sh l b else N.sh l b)=(if c then M else N).sh l b:=by split <;> rfl
theorem aZ(M:MemS)(l:List (Int × Int))(b v:Int)(e:Eff)(em:Bool):(⟨M.sh l b,v,e,em⟩:VR)=VR.sh ⟨M,v,e,em⟩ l b:=rfl
theorem az(code:List Ins)(M:MemS)(l:List (Int × Int))(b:Int):aU code (M.sh l b)=aU code M:=rfl
theorem bX(r:VR)(l:List (Int × Int))(b:Int):(r.sh l b).z=r.z.sh l b:=rfl
theorem bI(r:VR)(l:List (Int × Int))(b:Int):(r.sh l b).M=r.M.sh l b:=rfl
theorem bZ(r:VR)(l:List (Int × Int))(b:Int):(r.sh l b).v=r.v:=rfl
theorem bS(r:VR)(l:List (Int × Int))(b:Int):(r.sh l b).e=r.e:=rfl
theorem bd(r:VR)(l:List (Int × Int))(b:Int):(r.sh l b).em=r.em:=rfl
theorem oX(S:Setup)(M:MemS)(k:Int)(l_:List (Int × Int))(b_:Int):al S (M.sh l_ b_) k=al S M k:=by
 unfold al;simp only[aX,aY,bg,aJ,aZ,bI,bZ,bS,bd,az,bX] <;> rfl
theorem gE(t:Stp)(ph j:Int)(M:MemS)(l_:List (Int × Int))(b_:Int):aO t ph j (M.sh l_ b_)=(aO t ph j M).sh l_ b_:=by
 unfold aO;simp only[aX,aY,bg,aJ,aZ,bI,bZ,bS,bd,az,bX] <;> rfl
theorem Bd(t:Stp)(k:Int)(m:Mot)(M:MemS)(l_:List (Int × Int))(b_:Int):du t k m (M.sh l_ b_)=(du t k m M).sh l_ b_:=by
 unfold du;simp only[aX,aY,bg,aJ,aZ,bI,bZ,bS,bd,az,bX] <;> rfl
theorem ET(t:Stp)(c sp pos lo hi:Int)(M:MemS)(l_:List (Int × Int))(b_:Int):dK t c sp pos lo hi (M.sh l_ b_)=(dK t c sp pos lo hi M).sh l_ b_:=by
 unfold dK;simp only[aX,aY,bg,aJ,aZ,bI,bZ,bS,bd,az,bX] <;> rfl
theorem EU(t:Stp)(M:MemS)(l_:List (Int × Int))(b_:Int):aW t (M.sh l_ b_)=(aW t M).sh l_ b_:=by
 unfold aW;simp only[aX,aY,bg,aJ,aZ,bI,bZ,bS,bd,az,bX] <;> rfl
theorem EV(t:Stp)(M:MemS)(l_:List (Int × Int))(b_:Int):br t (M.sh l_ b_)=(br t M).sh l_ b_:=by
 unfold br;simp only[aX,aY,bg,aJ,aZ,bI,bZ,bS,bd,az,bX] <;> rfl
theorem EW(t:Stp)(M:MemS)(l_:List (Int × Int))(b_:Int):b6 t (M.sh l_ b_)=(b6 t M).sh l_ b_:=by
 unfold b6;simp only[aX,aY,bg,aJ,aZ,bI,bZ,bS,bd,az,bX,gE] <;> rfl
theorem EY(t:Stp)(M:MemS)(l_:List (Int × Int))(b_:Int):aP t (M.sh l_ b_)=(aP t M).sh l_ b_:=by
 unfold aP;simp only[aX,aY,bg,aJ,aZ,bI,bZ,bS,bd,az,bX,EU,EV,EW] <;> rfl
theorem Hz(t:Stp)(M:MemS)(l_:List (Int × Int))(b_:Int):fq t (M.sh l_ b_)=(fq t M).sh l_ b_:=by
 unfold fq;simp only[aX,aY,bg,aJ,aZ,bI,bZ,bS,bd,az,bX] <;> rfl
theorem uW(M:MemS)(l_:List (Int × Int))(b_:Int):∀n,ci (M.sh l_ b_) n=(ci M n).sh l_ b_
 | 0=>rfl
 | n+1=>by rw[ci,ci,uW M l_ b_ n,aY]
theorem HA(t:Stp)(M:MemS)(l_:List (Int × Int))(b_:Int):gP t (M.sh l_ b_)=(gP t M).sh l_ b_:=by
 unfold gP;simp only[aX,aY,bg,aJ,aZ,bI,bZ,bS,bd,az,bX,uW] <;> rfl
theorem HB(t:Stp)(M:MemS)(l_:List (Int × Int))(b_:Int):dm t (M.sh l_ b_)=(dm t M).sh l_ b_:=by
 unfold dm;simp only[aX,aY,bg,aJ,aZ,bI,bZ,bS,bd,az,bX,Hz,HA] <;> rfl
theorem EZ(t:Stp)(M:MemS)(l_:List (Int × Int))(b_:Int):bF t (M.sh l_ b_)=bF t M:=by
 unfold bF;simp only[aX,aY,bg,aJ,aZ,bI,bZ,bS,bd,az,bX,oX] <;> rfl
theorem E0(t:Stp)(M:MemS)(l_:List (Int × Int))(b_:Int):bA t (M.sh l_ b_)=(bA t M).sh l_ b_:=by
 unfold bA;simp only[aX,aY,bg,aJ,aZ,bI,bZ,bS,bd,az,bX] <;> rfl
theorem E1(t:Stp)(M:MemS)(l_:List (Int × Int))(b_:Int):bB t (M.sh l_ b_)=(bB t M).sh l_ b_:=by
 unfold bB;simp only[aX,aY,bg,aJ,aZ,bI,bZ,bS,bd,az,bX,EZ] <;> rfl
theorem E2(t:Stp)(M:MemS)(l_:List (Int × Int))(b_:Int):b7 t (M.sh l_ b_)=(b7 t M).sh l_ b_:=by
 unfold b7;simp only[aX,aY,bg,aJ,aZ,bI,bZ,bS,bd,az,bX,gE] <;> rfl
theorem E3(t:Stp)(M:MemS)(l_:List (Int × Int))(b_:Int):aL t (M.sh l_ b_)=(aL t M).sh l_ b_:=by
 unfold aL;simp only[aX,aY,bg,aJ,aZ,bI,bZ,bS,bd,az,bX,E0,E1,E2] <;> rfl
theorem Be(M:MemS)(l_:List (Int × Int))(b_:Int):jH (M.sh l_ b_)=jH M:=by
 unfold jH;simp only[aX,aY,bg,aJ,aZ,bI,bZ,bS,bd,az,bX] <;> rfl
theorem Bf(t:Stp)(M:MemS)(l_:List (Int × Int))(b_:Int):eM t (M.sh l_ b_)=eM t M:=by
 unfold eM;simp only[aX,aY,bg,aJ,aZ,bI,bZ,bS,bd,az,bX,oX,Be] <;> rfl
theorem Bg(t:Stp)(M:MemS)(l_:List (Int × Int))(b_:Int):bH t (M.sh l_ b_)=(bH t M).sh l_ b_:=by
 unfold bH;simp only[aX,aY,bg,aJ,aZ,bI,bZ,bS,bd,az,bX,ET,Bf] <;> rfl
theorem HC(k v:Int)(M:MemS)(l_:List (Int × Int))(b_:Int):cG k v (M.sh l_ b_)=(cG k v M).sh l_ b_:=by
 unfold cG;simp only[aX,aY,bg,aJ,aZ,bI,bZ,bS,bd,az,bX] <;> rfl
theorem HD(S:Setup)(op n a b:Int)(M:MemS)(l_:List (Int × Int))(b_:Int):aD S op n a b (M.sh l_ b_)=(aD S op n a b M).sh l_ b_:=by
 unfold aD;simp only[aX,aY,bg,aJ,aZ,bI,bZ,bS,bd,az,bX,HC] <;> rfl
theorem Ld(op sp:Int)(M:MemS)(l_:List (Int × Int))(b_:Int):dC op sp (M.sh l_ b_)=dC op sp M:=by
 unfold dC;simp only[aX,aY,bg,aJ,aZ,bI,bZ,bS,bd,az,bX] <;> rfl
theorem Lg(op sp:Int)(M:MemS)(l_:List (Int × Int))(b_:Int):dQ op sp (M.sh l_ b_)=dQ op sp M:=by
 unfold dQ;simp only[aX,aY,bg,aJ,aZ,bI,bZ,bS,bd,az,bX] <;> rfl
theorem Lh(op sp pc fuel:Int)(M:MemS)(l_:List (Int × Int))(b_:Int):dD op sp pc fuel (M.sh l_ b_)=(dD op sp pc fuel M).sh l_ b_:=by
 unfold dD;simp only[aX,aY,bg,aJ,aZ,bI,bZ,bS,bd,az,bX] <;> rfl
theorem HE(S:Setup)(op n sp pc fuel:Int)(M:MemS)(l_:List (Int × Int))(b_:Int):bP S op n sp pc fuel (M.sh l_ b_)=(bP S op n sp pc fuel M).sh l_ b_:=by
 unfold bP;simp only[aX,aY,bg,aJ,aZ,bI,bZ,bS,bd,az,bX,HD,Ld,Lg,Lh] <;> rfl
theorem yu(code:List Ins)(n:Nat)(M:MemS)(l_:List (Int × Int))(b_:Int):(cY code n (M.sh l_ b_))=(cY code n M):=by
 unfold cY;simp only[aX,aY,bg,aJ,aZ,bI,bZ,bS,bd,az,bX] <;> rfl
theorem HF(op sp:Int)(r:VR)(l_:List (Int × Int))(b_:Int):cr op sp (r.sh l_ b_)=(cr op sp r).sh l_ b_:=by
 unfold cr;simp only[aX,aY,bg,aJ,aZ,bI,bZ,bS,bd,az,bX] <;> rfl
theorem HG(S:Setup)(code:List Ins)(n:Nat)(M:MemS)(l_:List (Int × Int))(b_:Int):ak S code n (M.sh l_ b_)=(ak S code n M).sh l_ b_:=by
 unfold ak;simp only[aX,aY,bg,aJ,aZ,bI,bZ,bS,bd,az,bX,HE,yu,HF] <;> rfl
theorem Li(code:List Ins)(n:Nat)(M:MemS)(l_:List (Int × Int))(b_:Int):bn code n (M.sh l_ b_)=bn code n M:=by
 unfold bn;simp only[aX,aY,bg,aJ,aZ,bI,bZ,bS,bd,az,bX,yu] <;> rfl
theorem E4(e fuel self other:Int)(M:MemS)(l_:List (Int × Int))(b_:Int):aN e fuel self other (M.sh l_ b_)=(aN e fuel self other M).sh l_ b_:=by
 unfold aN;simp only[aX,aY,bg,aJ,aZ,bI,bZ,bS,bd,az,bX] <;> rfl
theorem wM(e:Int)(t:Stp)(self other:Int)(M:MemS)(l_:List (Int × Int))(b_:Int):eO e t self other (M.sh l_ b_)=(eO e t self other M).sh l_ b_:=by
 unfold eO;simp only[aX,aY,bg,aJ,aZ,bI,bZ,bS,bd,az,bX,HG,E4] <;> rfl
theorem wN(e:Int)(t:Stp)(self other:Int)(M:MemS)(l_:List (Int × Int))(b_:Int):db e t self other (M.sh l_ b_)=db e t self other M:=by
 unfold db;simp only[aX,aY,bg,aJ,aZ,bI,bZ,bS,bd,az,bX,Li] <;> rfl
theorem yv(r:VR)(over:Bool)(t:Stp)(Tb:Bool)(M:MemS)(l_:List (Int × Int))(b_:Int):dq (r.sh l_ b_) over t Tb (M.sh l_ b_)=(dq r over t Tb M).sh l_ b_:=by
 unfold dq;simp only[aX,aY,bg,aJ,aZ,bI,bZ,bS,bd,az,bX] <;> rfl
theorem HH(t:Stp)(o:Int)(c:Bool)(M:MemS)(l_:List (Int × Int))(b_:Int):cP t o c (M.sh l_ b_)=(cP t o c M).sh l_ b_:=by
 unfold cP cj jv;rw[wM,wN,yv]
theorem HI(t:Stp)(o:Int)(c:Bool)(M:MemS)(l_:List (Int × Int))(b_:Int):cQ t o c (M.sh l_ b_)=(cQ t o c M).sh l_ b_:=by
 unfold cQ cm jx;rw[wM,wN,yv]
theorem Lj(t:Stp)(M:MemS)(l_:List (Int × Int))(b_:Int):ff t (M.sh l_ b_)=(ff t M).sh l_ b_:=by
 unfold ff;simp only[aX,aY,bg,aJ,aZ,bI,bZ,bS,bd,az,bX,gE,HH] <;> rfl
theorem HJ(t:Stp)(M:MemS)(l_:List (Int × Int))(b_:Int):cS t (M.sh l_ b_)=(cS t M).sh l_ b_:=by
 unfold cS;simp only[aX,aY,bg,aJ,aZ,bI,bZ,bS,bd,az,bX,gE,wM,wN] <;> rfl
theorem CW(t:Stp)(M:MemS)(l_:List (Int × Int))(b_:Int):mW t (M.sh l_ b_)=mW t M:=by
 unfold mW;simp only[aX,aY,bg,aJ,aZ,bI,bZ,bS,bd,az,bX,oX] <;> rfl
theorem Lk(t:Stp)(M:MemS)(l_:List (Int × Int))(b_:Int):pT t (M.sh l_ b_)=pT t M:=by
 unfold pT;simp only[aX,aY,bg,aJ,aZ,bI,bZ,bS,bd,az,bX,oX,CW] <;> rfl
theorem yw(t:Stp)(M:MemS)(l_:List (Int × Int))(b_:Int):fS t (M.sh l_ b_)=(fS t M).sh l_ b_:=by
 unfold fS;simp only[aX,aY,bg,aJ,aZ,bI,bZ,bS,bd,az,bX,Bd,Lk] <;> rfl
theorem E6(t:Stp)(M:MemS)(l_:List (Int × Int))(b_:Int):cT t (M.sh l_ b_)=(cT t M).sh l_ b_:=by
 unfold cT;simp only[aX,aY,bg,aJ,aZ,bI,bZ,bS,bd,az,bX,CW,yw] <;> rfl
theorem Ll(t:Stp)(M:MemS)(l_:List (Int × Int))(b_:Int):nO t (M.sh l_ b_)=nO t M:=by
 unfold nO;simp only[aX,aY,bg,aJ,aZ,bI,bZ,bS,bd,az,bX,oX] <;> rfl
theorem HK(t:Stp)(M:MemS)(l_:List (Int × Int))(b_:Int):dZ t (M.sh l_ b_)=(dZ t M).sh l_ b_:=by
 unfold dZ;simp only[aX,aY,bg,aJ,aZ,bI,bZ,bS,bd,az,bX,Ll] <;> rfl
theorem HM(t:Stp)(M:MemS)(l_:List (Int × Int))(b_:Int):fM t (M.sh l_ b_)=(fM t M).sh l_ b_:=by
 unfold fM;simp only[aX,aY,bg,aJ,aZ,bI,bZ,bS,bd,az,bX,gE] <;> rfl
theorem HN(t:Stp)(M:MemS)(l_:List (Int × Int))(b_:Int):dg t (M.sh l_ b_)=(dg t M).sh l_ b_:=by
 unfold dg;simp only[aX,aY,bg,aJ,aZ,bI,bZ,bS,bd,az,bX,Bg,HK,HM] <;> rfl
theorem yx(t:Stp)(M:MemS)(l_:List (Int × Int))(b_:Int):bq t (M.sh l_ b_)=(bq t M).sh l_ b_:=by
 unfold bq;simp only[aX,aY,bg,aJ,aZ,bI,bZ,bS,bd,az,bX,gE,E6] <;> rfl
theorem Lm(t:Stp)(M:MemS)(l_:List (Int × Int))(b_:Int):fg t (M.sh l_ b_)=(fg t M).sh l_ b_:=by
 unfold fg;simp only[aX,aY,bg,aJ,aZ,bI,bZ,bS,bd,az,bX,gE,HI] <;> rfl
theorem Lo(g:Gm)(M:MemS)(l:List (Int × Int))(b:Int):g.step (M.sh l b)=g.step M:=rfl
theorem wO(g:Gm)(M:MemS)(l:List (Int × Int))(b:Int):eV g (M.sh l b)=(eV g M).sh l b:=by
 unfold eV;simp only[Lo,aX,EY,Lj,HJ,E3,yx,HN,Lm,HB,aZ,aJ]
theorem HO(g:Gm)(M:MemS)(l:List (Int × Int))(b:Int):gS g (M.sh l b)=gS g M:=rfl
theorem CX(g:Gm)(l:List (Int × Int))(b:Int):∀ (n:Nat) (M:MemS),eI g n (M.sh l b)=(eI g n M).sh l b
 | 0,_=>rfl
 | n+1,M=>by rw[eI,eI,eR,eR,wO,bI];exact CX g l b n _
theorem yz(g:Gm)(l:List (Int × Int))(b:Int):∀ (n:Nat) (M:MemS),dP g n (M.sh l b)=dP g n M
 | 0,_=>rfl
 | n+1,M=>by rw[dP,dP,eR,eR,wO,bI,bS,bd,yz g l b n]
def yA(g:Gm):Nat -> MemS -> Nat
 | 0,_=>0
 | f+1,M=>if gS g M=true then 0 else yA g f (eR g M)+1
theorem HP{g:Gm}:∀ (m f:Nat) (M:MemS),cH g (m+1) M -> m<f -> yA g f M=m
 | m,0,M,_,h=>by omega
 | 0,f+1,M,h,_=>by
  rcases h.2 with ⟨_,e⟩|⟨_,e⟩
  ·rw[yA,if_pos e]
  ·exact e.elim
 | m+1,f+1,M,h,hf=>by
  rcases h.2 with ⟨e,_⟩|⟨e1,e2⟩
  ·omega
  ·rw[yA,if_neg (by rw[e1];simp),HP m f _ e2 (by omega)]
def rm(g:Gm)(M:MemS):MemS:=eI g (yA g 1000 M+1) M
def wP(g:Gm)(M:MemS):List Eff:=dP g (yA g 1000 M+1) M
theorem Bh{g g':Gm}(h:GEq g g'):∀ (f:Nat) (M:MemS),yA g f M=yA g' f M
 | 0,_=>rfl
 | f+1,M=>by rw[yA,yA,Bc h,eR,eR,nP h,Bh h f]
theorem OD{g g':Gm}(h:GEq g g')(M:MemS):rm g M=rm g' M:=by rw[rm,rm,Bh h,CV h]
theorem OE{g g':Gm}(h:GEq g g')(M:MemS):wP g M=wP g' M:=by rw[wP,wP,Bh h,yt h]
theorem Bi(g:Gm)(l:List (Int × Int))(b:Int):∀ (f:Nat) (M:MemS),yA g f (M.sh l b)=yA g f M
 | 0,_=>rfl
 | f+1,M=>by rw[yA,yA,HO,eR,eR,wO,bI,Bi g l b f]
theorem Bj(g:Gm)(M:MemS)(l:List (Int × Int))(b:Int):rm g (M.sh l b)=(rm g M).sh l b:=by rw[rm,rm,Bi,CX]
theorem HQ(g:Gm)(M:MemS)(l:List (Int × Int))(b:Int):wP g (M.sh l b)=wP g M:=by rw[wP,wP,Bi,yz]
theorem nQ(M:MemS):(MemS.sh ⟨M.cs,[],0⟩ M.lg M.base)=M:=by cases M;simp[MemS.sh]
theorem OG(g:Gm){M N:MemS}(h:M.cs=N.cs):(rm g M).cs=(rm g N).cs:=by
 rw[<- nQ M,<- nQ N,Bj,Bj,h];rfl
theorem HS(g:Gm){M N:MemS}(h:M.cs=N.cs):wP g M=wP g N:=by
 rw[<- nQ M,<- nQ N,HQ,HQ,h]
def jb(g:Gm):Nat -> MemS -> List (Eff × Bool)
 | 0,_=>[]
 | n+1,M=>((eV g M).e,(eV g M).em)::jb g n (eR g M)
theorem jc(g:Gm):∀ (n:Nat) (M:MemS),(jb g n M).length=n
 | 0,_=>rfl
 | n+1,M=>by rw[jb,aaY,jc g n]
def mY:List (Eff × Bool) -> List Eff
 | []=>[]
 | x::l=>(if x.2=true then [x.1] else [])++mY l
theorem yB(g:Gm):∀ (n:Nat) (M:MemS),mY (jb g n M)=dP g n M
 | 0,_=>rfl
 | n+1,M=>by rw[jb,mY,yB g n,dP]
theorem sB:∀ (l m:List (Eff × Bool)),mY (l++m)=mY l++mY m
 | [],m=>rfl
 | x::l,m=>by rw[List.cons_append,mY,mY,sB l m,aaF]
theorem yC:∀ (l:List (Eff × Bool)),(mY l).length <= l.length
 | []=>aaS _
 | x::l=>by
  have:=yC l;rw[mY,aaV,aaY];split
  ·simp;omega
  ·simp;omega
theorem HT{l:List (Eff × Bool)}{i:Nat}{x:Eff × Bool}(h:l[i]?=some x)(e:x.2=true):mY (l.take (i+1))=mY (l.take i)++[x.1]:=by
 rw[List.take_add_one,h,sB];show _++((if x.2=true then [x.1] else [])++[])=_;rw[if_pos e];rfl
theorem Lp{l:List (Eff × Bool)}{i:Nat}{x:Eff × Bool}(h:l[i]?=some x)(e:¬ x.2=true):mY (l.take (i+1))=mY (l.take i):=by
 rw[List.take_add_one,h,sB];show _++((if x.2=true then [x.1] else [])++[])=_;rw[if_neg e];simp
theorem gT{g:Gm}{l:List (Eff × Bool)}{i r:Nat}{M:MemS}(h:l.drop i=jb g (r+1) M):l[i]?=some ((eV g M).e,(eV g M).em) /\ l.drop (i+1)=jb g r (eR g M):=by
 constructor
 ·have:=congrArg (·[0]?) h;simpa [jb] using this
 ·have:=congrArg List.tail h;rwa [List.tail_drop] at this
def xA(cs:List Int)(i:Nat):List Int:=cs.take i++List.replicate (cs.length-i) 0
theorem pV(n:Nat):mU [vI 0]=aM (List.replicate n 0):=by
 funext i k;rcases k with _|k
 ·have:(List.replicate n (0:Int)).getD i 0=0:=by
   rw[aaK,List.getElem?_replicate];split <;> rfl
  show vI 0=vI _;rw[this]
 ·simp[mU,aM]
theorem yD(cs:List Int):mU [vI 0]=aM (xA cs 0):=by rw[pV cs.length];simp[xA]
theorem CY(cs:List Int):xA cs cs.length=cs:=by simp[xA]
theorem yE{cs:List Int}{i:Nat}(h:i<cs.length):eF (aM (xA cs i)) i 0 (vI (cs.getD i 0))=aM (xA cs (i+1)):=by
 rw[gt (by simp[xA];omega)];congr 1;unfold xA;rw[List.set_append_right _ _ (by simp;omega)];have e:cs.length-i=(cs.length-(i+1))+1:=by omega
 rw[e,List.replicate_succ,List.take_succ_eq_append_getElem h,aaF];simp[aaW,Nat.min_eq_left (Nat.le_of_lt h),h]
theorem MemH.len{mb:Nat}{M:MemS}{k:Nat}{T:HL}(h:MemH mb M k T):M.cs.length <= 1000000:=by
 cases h with
 | mk cb A cap Hl hs hc hl=>exact hc
theorem Lq(mb cb n:Nat)(A:Option Addr)(m cap:Nat)(base:Int)(F:HL)(hm:(mb,.lit [vS cb 0 n n,.slice A m cap,vI base] 119 (0,0))∈F):Sp Tryz.prog 40 #[vP mb 0] [] F (λ u H'=>u=vI (n:Int) /\ H'=[]):=by
 refine aas Tryz.func40 rfl (mc hm mn) (A:=[]) (Ts:=[]) rfl λ w0=>?_;refine ae 15 [.ro 0] λ _=>?_;exact aap [] [] [] ⟨rfl,rfl⟩
theorem CZ{mb:Nat}{M:MemS}{k:Nat}{T:HL}{F:HL}(h:MemH mb M k T)(hs:∀x∈T,x∈F):Sp Tryz.prog 40 #[vP mb 0] [] F (λ u H'=>u=vI (M.cs.length:Int) /\ H'=[]):=by
 cases h with
 | mk cb A cap Hl hsl hc hl=>exact Lq mb cb M.cs.length A M.lg.length cap M.base F (hs _ (by simp))
theorem oY{M:MemS}{i:Nat}(h:i<M.cs.length):M.get (i:Int)=M.cs.getD i 0:=by
 unfold MemS.get;rw[if_pos (by omega),Int.toNat_natCast]
theorem mA(mb:Nat)(M:MemS)(k:Nat)(T F:HL)(hM:MemH mb M k T)(hT:∀x∈T,x∈F):Sp Tryz.prog 13 #[vP mb 0] (ap [] []) F (λ u H'=>∃q,H'=ap [(q,.rows 1 M.cs.length (aM M.cs) 3 (0,0))] [] /\ u=vS q 0 M.cs.length M.cs.length):=by
 have hl:=hM.len;refine aas Tryz.func13 rfl mn (A:=[]) (Ts:=[]) rfl λ w0=>?_;refine ae 8 [] λ _=>aah (CZ hM (λ x hx=>aau _ (hT x hx)))<|ai 8 [.mk M.cs.length M.cs.length] [(M.cs.length:Int)=((M.cs.length:Nat):Int) /\ (M.cs.length:Int)=((M.cs.length:Nat):Int) /\ M.cs.length <= M.cs.length /\ 8*M.cs.length <= 140737488355328 /\ 1=1 /\ M.cs.length <= 9223372036854775807] λ n1=>aah (CZ hM (λ x hx=>aau _ (hT x hx)))<|ae 4 [] λ _=>ez 0 (congrArg (λ v_=>(.rows 1 M.cs.length v_ 3 (0,0):Blk)) (show (mU [vI 0])=(aM (xA M.cs 0)) from (by rw[yD M.cs])))<|aan (σ:=Nat) (λ i=>⟨[(0,vP mb 0),(3,vS (n1+0) 0 M.cs.length M.cs.length),(9,vI (M.cs.length:Int)),(10,vI (i:Int))],[((n1+0),.rows 1 M.cs.length (aM (xA M.cs i)) 3 (0,0))],[],i <= M.cs.length,M.cs.length-i⟩) 0 [0] [] (aaU _) ?_;rintro i hI2 Uj;refine ae 6 [] λ _=>aal ((i:Int)<(M.cs.length:Int)) 11 (λ h4=>?_) λ h4=>?_
 ·refine ae 16 [] λ _=>aah (ar (i:Int) hM (λ x hx=>aau _ (hT x hx)))<|ai 9 [.ix i,.row 0 i 0,.nw] [bm ((i:Int)+1),(0+i*1)=i*1+0 /\ i<M.cs.length,(i:Int)=((i:Nat):Int) /\ i<M.cs.length] λ _=>ez 0 (congrArg (λ v_=>(.rows 1 M.cs.length v_ 3 (0,0):Blk)) (show (eF (aM (xA M.cs i)) i 0 (vI (M.get (i:Int))))=(aM (xA M.cs (i+1))) from (by rw[<- yE (cs:=M.cs) (i:=i) (by omega)];rw[oY (by omega)]))) ?_;refine Uj (i+1) [0] [] ?_
  try dsimp only
  exact⟨by omega,by omega⟩
 ·refine ae 12 [] λ _=>aap [] [0] [] (v:=vS (n1+0) 0 M.cs.length M.cs.length) (H':=[((n1+0),.rows 1 M.cs.length (aM (xA M.cs i)) 3 (0,0))]) ?_;have ei:i=M.cs.length:=by omega
  subst ei;exact⟨_,by rw[CY];rfl,rfl⟩
theorem Lr(q:Nat)(cs:List Int)(k cap:Nat)(F:HL)(hq:(q,.rows 1 cs.length (aM cs) 3 (0,0))∈F)(hc:cs.length <= 1000000)(hk:k <= 100000000)(hcap:cs.length <= cap):Sp Tryz.prog 14 #[vS q 0 cs.length cap] [] F (λ u H'=>∃x:Nat × HL,H'=ap [] [x.2] /\ (u=vP x.1 0 /\ MemH x.1 ⟨cs,[],0⟩ k x.2)):=by
 refine aas Tryz.func14 rfl (mc hq mn) (A:=[]) (Ts:=[]) rfl λ w0=>?_;refine ai 24 [.mk cs.length cs.length] [(cs.length:Int)=((cs.length:Nat):Int) /\ (cs.length:Int)=((cs.length:Nat):Int) /\ cs.length <= cs.length /\ 8*cs.length <= 140737488355328 /\ 1=1 /\ cs.length <= 9223372036854775807] λ n1=>ez 1 (congrArg (λ v_=>(.rows 1 cs.length v_ 3 (0,0):Blk)) (show (mU [vI 0])=(aM (xA cs 0)) from (by rw[yD cs])))<|aan (σ:=Nat) (λ i=>⟨[(0,vS q 0 cs.length cap),(3,vP (n1+1) 0),(11,vI (cs.length:Int)),(12,vI (i:Int))],[((n1+1),.lit [vS (n1+0) 0 cs.length cs.length,.slice none 0 0,vI 0] 119 (0,0)),((n1+0),.rows 1 cs.length (aM (xA cs i)) 3 (0,0))],[],i <= cs.length,cs.length-i⟩) 0 [0,1] [] (aaU _) ?_;rintro i hI2 Uj;refine ae 6 [] λ _=>aal ((i:Int)<(cs.length:Int)) 13 (λ h4=>?_) λ h4=>?_
 ·refine ae 11 [] λ _=>aak [10] []<|aF [] [0,4,5,6,1,7,2,8,3,9] [.ix i,.rorow 0 i 0,.own 0,.ix i] [(i:Int)=((i:Nat):Int) /\ i<cs.length,(0+i*1)=i*1+0 /\ i<cs.length,(i:Int)=((i:Nat):Int) /\ i<cs.length]<|aae 10 (eh [] [.row 1 i 0] [(0+i*1)=i*1+0 /\ i<cs.length] λ _=>?_);refine aad<|ai 6 [.nw] [bm ((i:Int)+1)] λ _=>ez 1 (congrArg (λ v_=>(.rows 1 cs.length v_ 3 (0,0):Blk)) (show (eF (aM (xA cs i)) i 0 (vI (cs.getD i 0)))=(aM (xA cs (i+1))) from (by rw[<- yE (cs:=cs) (i:=i) (by omega)]))) ?_;refine Uj (i+1) [0,1] [] ?_
  try dsimp only
  exact⟨by omega,by omega⟩
 ·refine ae 12 [] λ _=>aap [] [0,1] [] (v:=vP (n1+1) 0) (H':=[((n1+1),.lit [vS (n1+0) 0 cs.length cs.length,.slice none 0 0,vI 0] 119 (0,0)),((n1+0),.rows 1 cs.length (aM (xA cs i)) 3 (0,0))]) ?_;have ei:i=cs.length:=by omega
  subst ei;rw[CY];have hmm:=MemH.mk (mb:=(n1+1)) (M:=⟨cs,[],0⟩) (k:=k) (n1+0) none 0 [] (aar _ _) hc (show ([]:List (Int × Int)).length+k <= 100000000 by simpa using hk);exact⟨((n1+1),_),rfl,rfl,hmm⟩
def aB(n Tj:Int):Int:=(if n<0 then aV (0-aV (n+1)) else n).tmod Tj
theorem gF(n:Int)(Tj:Int)(h0:Tj≠0)(F:HL):Sp Tryz.prog 11 #[vI n,vI Tj] [] F (λ u H'=>u=vI (aB n Tj) /\ H'=[]):=by
 refine aas Tryz.func11 rfl mn (A:=[]) (Ts:=[]) rfl λ w0=>?_;refine ae 12 [] λ _=>aal (n<0) 6 (λ h1=>?_) λ h1=>?_
 ·refine sg 16 [.gen,.dv] (λ _=>[Tj≠0]) (λ _=>(ac h0 an)) λ _=>aap [] [] [] (v:=vI ((i64.wrap (0-(i64.wrap (n+1)))).tmod Tj)) (H':=[]) ?_;exact⟨by unfold aB;simp[*],rfl⟩
 ·refine sg 11 [.dv] (λ _=>[Tj≠0]) (λ _=>(ac h0 an)) λ _=>aap [] [] [] (v:=vI (n.tmod Tj)) (H':=[]) ?_;exact⟨by unfold aB;simp[*],rfl⟩
def sC(n:Int):Int:=aB n 1000
def pW(n:Int):Int:=aV (512*aV (1+(aV ((sC n).tdiv 7)).tmod 5))
def ug(r:Int):List V2:=[⟨aV (0-r),aV (0-r)⟩,⟨r,aV (0-r)⟩,⟨r,r⟩,⟨aV (0-r),r⟩]
def yF(r:Int):List V2:=[⟨aV (0-r),aV (0-r)⟩,⟨r,aV (0-r)⟩,⟨0,r⟩]
def yG(r:Int):List V2:=[⟨aV (-2*r),-300⟩,⟨aV (2*r),-300⟩,⟨aV (2*r),300⟩,⟨aV (-2*r),300⟩]
def cU(n:Int):Int × List V2:=if (sC n).tmod 7=0 then (pW n,[]) else if (sC n).tmod 7=1 then (pW n,[]) else if (sC n).tmod 7=2 then (pW n,[]) else if (sC n).tmod 7=3 then (0,ug (pW n)) else if (sC n).tmod 7=4 then (0,ug (pW n)) else if (sC n).tmod 7=5 then (0,yF (pW n)) else (0,yG (pW n))
def ShH(s:Shp)(T:HL):Prop:=∀F,(∀x∈T,x∈F) -> ShIn F s
theorem ShH.circle(r:Int)(A:Option Addr)(cap:Nat):ShH ⟨r,[],A,cap⟩ []:=λ F _=>.circle r A cap
theorem ShH.poly(r:Int)(l:List V2)(b cap:Nat)(h3:3 <= l.length)(h4:l.length <= cap)(h5:l.length <= 1000000):ShH ⟨r,l,some ⟨b,0,none⟩,cap⟩ [(b,.rows 2 cap (j7 l) 29 (0,0))]:=λ F h=>.poly r l b cap (h _ (by simp)) h3 h4 h5
theorem yH(n:Int)(F:HL):Sp Tryz.prog 34 #[vI n] [] F (λ u H'=>∃x:Option Addr × Nat × HL,H'=ap [] [x.2.2] /\ (u=PW ⟨(cU n).1,(cU n).2,x.1,x.2.1⟩ /\ ShH ⟨(cU n).1,(cU n).2,x.1,x.2.1⟩ x.2.2)):=by
 refine aas Tryz.func34 rfl mn (A:=[]) (Ts:=[]) rfl λ w0=>?_;refine ae 8 [] λ n1=>aah (gF n 1000 (by decide) _)<|ae 28 [] λ _=>aal ((sC n).tmod 7=0) 14 (λ h2=>?_) λ h2=>?_
 ·refine ae 11 (aab 2) λ _=>aap (aab 2) [] [] (v:=.agg #[vI (i64.wrap (512*(i64.wrap (1+((i64.wrap ((sC n).tdiv 7)).tmod 5))))),.slice none 0 0]) (H':=[]) ?_;have e:cU n=(pW n,[]):=by simp only[cU,if_pos h2]
  rw[e];exact⟨(none,0,[]),rfl,rfl,ShH.circle _ _ _⟩
 ·refine ae 7 [] λ _=>aal ((sC n).tmod 7=1) 14 (λ h3=>?_) λ h3=>?_
  ·refine ae 11 (aab 2) λ _=>aap (aab 2) [] [] (v:=.agg #[vI (i64.wrap (512*(i64.wrap (1+((i64.wrap ((sC n).tdiv 7)).tmod 5))))),.slice none 0 0]) (H':=[]) ?_;have e:cU n=(pW n,[]):=by simp only[cU,if_neg h2,if_pos h3]
   rw[e];exact⟨(none,0,[]),rfl,rfl,ShH.circle _ _ _⟩
  ·refine ae 6 [] λ _=>aal ((sC n).tmod 7=2) 14 (λ h4=>?_) λ h4=>?_
   ·refine ae 8 (aab 2) λ _=>aap (aab 2) [] [] (v:=.agg #[vI (i64.wrap (512*(i64.wrap (1+((i64.wrap ((sC n).tdiv 7)).tmod 5))))),.slice none 0 0]) (H':=[]) ?_;have e:cU n=(pW n,[]):=by simp only[cU,if_neg h2,if_neg h3,if_pos h4]
    rw[e];exact⟨(none,0,[]),rfl,rfl,ShH.circle _ _ _⟩
   ·refine ae 8 [] λ _=>aal ((sC n).tmod 7=3) 20 (λ h5=>?_) λ h5=>?_
    ·refine ae 27 [.own 1,.own 1] λ n6=>aaj 0 (.rows 2 4 (j7 (ug (pW n))) 29 (0,0))<|aap [.own 1,.own 1] [0] [] (v:=.agg #[vI 0,vS (n6+0) 0 4 4]) (H':=[((n6+0),.rows 2 4 (j7 (ug (pW n))) 29 (0,0))]) ?_;have e:cU n=(0,ug (pW n)):=by simp only[cU,if_neg h2,if_neg h3,if_neg h4,if_pos h5]
     rw[e];exact⟨(some ⟨(n6+0),0,none⟩,4,_),rfl,rfl,ShH.poly 0 (ug (pW n)) (n6+0) 4 (aaN rfl) (aaN rfl) (aaN rfl)⟩
    ·refine ae 6 [] λ _=>aal ((sC n).tmod 7=4) 20 (λ h7=>?_) λ h7=>?_
     ·refine ae 24 [.own 1,.own 1] λ n8=>aaj 0 (.rows 2 4 (j7 (ug (pW n))) 29 (0,0))<|aap [.own 1,.own 1] [0] [] (v:=.agg #[vI 0,vS (n8+0) 0 4 4]) (H':=[((n8+0),.rows 2 4 (j7 (ug (pW n))) 29 (0,0))]) ?_;have e:cU n=(0,ug (pW n)):=by simp only[cU,if_neg h2,if_neg h3,if_neg h4,if_neg h5,if_pos h7]
      rw[e];exact⟨(some ⟨(n8+0),0,none⟩,4,_),rfl,rfl,ShH.poly 0 (ug (pW n)) (n8+0) 4 (aaN rfl) (aaN rfl) (aaN rfl)⟩
     ·refine ae 7 [] λ _=>aal ((sC n).tmod 7=5) 41 (λ h9=>?_) λ h9=>?_
      ·refine ae 19 [.own 1,.own 1] λ UF=>aaj 0 (.rows 2 3 (j7 (yF (pW n))) 29 (0,0))<|aap [.own 1,.own 1] [0] [] (v:=.agg #[vI 0,vS (UF+0) 0 3 3]) (H':=[((UF+0),.rows 2 3 (j7 (yF (pW n))) 29 (0,0))]) ?_;have e:cU n=(0,yF (pW n)):=by simp only[cU,if_neg h2,if_neg h3,if_neg h4,if_neg h5,if_neg h7,if_pos h9]
       rw[e];exact⟨(some ⟨(UF+0),0,none⟩,3,_),rfl,rfl,ShH.poly 0 (yF (pW n)) (UF+0) 3 (aaN rfl) (aaN rfl) (aaN rfl)⟩
      ·refine ae 23 [.own 1,.own 1] λ n11=>aaj 0 (.rows 2 4 (j7 (yG (pW n))) 29 (0,0))<|aap [.own 1,.own 1] [0] [] (v:=.agg #[vI 0,vS (n11+0) 0 4 4]) (H':=[((n11+0),.rows 2 4 (j7 (yG (pW n))) 29 (0,0))]) ?_;have e:cU n=(0,yG (pW n)):=by simp only[cU,if_neg h2,if_neg h3,if_neg h4,if_neg h5,if_neg h7,if_neg h9]
       rw[e];exact⟨(some ⟨(n11+0),0,none⟩,4,_),rfl,rfl,ShH.poly 0 (yG (pW n)) (n11+0) 4 (aaN rfl) (aaN rfl) (aaN rfl)⟩
theorem pX{S:Setup}(h:SetN S){i:Nat}(hi:i<S.nb):0 <= af S i /\ af S i+8 <= sizeOf S /\ sizeOf S <= 20000000:=by
 have:=h.pl;have:=h.nb;unfold af sizeOf;rw[if_neg (by omega),if_neg (by omega)];omega
theorem E7{S:Setup}(h:SetN S):48 <= sizeOf S /\ sizeOf S <= 20000000:=by
 have:=h.pl;have:=h.nb;unfold sizeOf;omega
def bJ(S:Setup):Nat -> List Int
 | 0=>List.replicate (sizeOf S).toNat 0
 | i+1=>((((((bJ S i).set (af S i).toNat (S.body i).mot.px).set (af S i+1).toNat (S.body i).mot.py).set (af S i+2).toNat (S.body i).mot.vx).set (af S i+3).toNat (S.body i).mot.vy).set (af S i+4).toNat (S.body i).a).set (af S i+5).toNat (S.body i).b
theorem fU(S:Setup):∀i,(bJ S i).length=(sizeOf S).toNat
 | 0=>by simp[bJ]
 | i+1=>by simp[bJ,fU S i]
theorem E8{S:Setup}(h:SetN S){i:Nat}(hi:i<S.nb):eF (eF (eF (eF (eF (eF (aM (bJ S i)) (af S i).toNat 0 (vI (S.body i).mot.px)) (af S i+1).toNat 0 (vI (S.body i).mot.py)) (af S i+2).toNat 0 (vI (S.body i).mot.vx)) (af S i+3).toNat 0 (vI (S.body i).mot.vy)) (af S i+4).toNat 0 (vI (S.body i).a)) (af S i+5).toNat 0 (vI (S.body i).b)=aM (bJ S (i+1)):=by
 have:=pX h hi;rw[gt,gt,gt,gt,gt,gt,bJ] <;> (simp only[List.length_set,fU];omega)
open Go.Shelf
section
variable {r:Option Nat} {P:Program} {N:Nat} {D:List Deferred} {F:HL} {w0:World} {R:HL} {s:Cfg} {Q:Exit -> Act -> World -> Prop}
variable {α:Type} {e:Enc α} {T:TypeId} {inf:TypeInfo} {z:Value}
def C0(P:Program)(N j:Nat)(oo:Option Oper)(s:Cfg):Option (Option Addr × Nat × Nat × TypeId × Option Addr × Nat × Nat × TypeId × HL):=match oo with
 | some o=>match KR P o s.L,s.Ts[j]?,([j]++oth [j] s.Ts.length).isPerm (List.range s.Ts.length) && (dV N o.dst undef s.L).isSome with
  | some (A,n,cap,T,B,m,c',tx),some Hl,true=>some (A,n,cap,T,B,m,c',tx,Hl)
  | _,_,_=>none
 | none=>none
theorem sD{j:Nat}{oo:Option Oper}{A:Option Addr}{n cap m c':Nat}{B:Option Addr}{tx:TypeId}{Hl:HL}(h:C0 P N j oo s=some (A,n,cap,T,B,m,c',tx,Hl)) :
  ∃o a1 a2 t e',oo=some o /\ o.guard=none /\ o.op=.call { callee:=.builtin .append,args:=#[a1,a2],argTypes:=#[t,tx] } /\ (gB s.L a1 && gB s.L a2)=true /\ fG s.L a1=.slice A n cap /\ fG s.L a2=.slice B m c' /\ P.underlying t=some (.slice T) /\ P.underlying tx=some (.slice e') /\
   s.Ts[j]?=some Hl /\ ([j]++oth [j] s.Ts.length).isPerm (List.range s.Ts.length)=true /\ (dV N o.dst undef s.L).isSome=true:=by
 unfold C0 at h;split at h
 case h_2=>cases h
 rename_i o;split at h
 case h_2=>cases h
 rename_i A' n' f_ T' B' m' c2 tx' Is h1 h3 h4;simp only[Option.some.injEq,Prod.mk.injEq] at h;obtain⟨e1,e2,e3,e4,e5,e6,e7,e8,e9⟩:=h;subst e1;subst e2;subst e3;subst e4;subst e5;subst e6;subst e7;subst e8;subst e9;obtain⟨a1,a2,t,e',q1,q2,q3,q4,q5,q6,q7⟩:=uH h1;rw[abe] at h4;exact⟨o,a1,a2,t,e',rfl,q1,q2,q3,q4,q5,q6,q7,h3,h4.1,h4.2⟩
end
inductive RowL{α:Type}(e:Enc α)(T:TypeId)(F:HL):Option Addr -> Nat -> List α -> Prop
 | zero (A:Option Addr):RowL e T F A 0 []
 | rows (q o N:Nat) (full:List α) (fz:Nat × Nat) (n:Nat) (xs:List α) (hq:(q,.rows e.w N (bu e full) T fz)∈F) (ho:o+n <= N) (hn:xs.length=n) (hx:∀k,k<n -> full.getD (o+k) e.dflt=xs.getD k e.dflt):RowL e T F (some ⟨q,o*e.w,none⟩) n xs
section
variable {α:Type} {e:Enc α} {T:TypeId} {F:HL} {A:Option Addr} {n:Nat} {xs:List α}
theorem RowL.mono{F':HL}(h:RowL e T F A n xs)(hs:∀x∈F,x∈F'):RowL e T F' A n xs:=by
 cases h with
 | zero=>exact .zero _
 | rows q o N full fz n xs hq ho hn hx=>exact .rows q o N full fz n xs (hs _ hq) ho hn hx
theorem RowL.up{X:HL}(h:RowL e T F A n xs):RowL e T (X++F) A n xs:=h.mono λ x hx=>aau _ hx
theorem RowL.len(h:RowL e T F A n xs):xs.length=n:=by
 cases h with
 | zero=>rfl
 | rows q o N full fz n xs hq ho hn hx=>exact hn
theorem RowL.at(h:RowL e T F A n xs){k:Nat}(hk:k<n):∃q o N full fz,A=some ⟨q,o*e.w,none⟩ /\ (q,.rows e.w N (bu e full) T fz)∈F /\ o+k<N /\ full.getD (o+k) e.dflt=xs.getD k e.dflt:=by
 cases h with
 | zero=>omega
 | rows q o N full fz n xs hq ho hn hx=>exact⟨q,o,N,full,fz,rfl,hq,by omega,hx k hk⟩
theorem RowL.whole{q N:Nat}{fz:Nat × Nat}(hq:(q,.rows e.w N (bu e xs) T fz)∈F)(h:xs.length <= N):RowL e T F (some ⟨q,0,none⟩) xs.length xs:=by
 have:=RowL.rows (e:=e) (T:=T) (F:=F) q 0 N xs fz xs.length xs hq (by omega) rfl (λ k hk=>by rw[Nat.zero_add]);rwa [Nat.zero_mul] at this
end
section
variable {α:Type} {e:Enc α} {P:Program} {t tx ty T:TypeId} {inf:TypeInfo} {z:Value} {F:HL}
theorem Bk(l:List α)(hw:0<e.w):∀ {j:Nat},j<l.length*e.w -> (aw e l)[j]?=some (e.cell (l.getD (j / e.w) e.dflt) (j % e.w)):=by
 induction l with
 | nil=>intro j hj;simp at hj
 | cons x l ih =>
  intro j hj;have hc:aw e (x::l)=(List.range e.w).map (e.cell x)++aw e l:=by simp[aw]
  rw[hc]
  by_cases h:j<e.w
  ·rw[aa4 (by simpa using h),Nat.div_eq_of_lt h,Nat.mod_eq_of_lt h];simp[h]
  ·rw[aa6 (by simp;omega)];simp only[List.length_map,List.length_range];have h2:j=(j-e.w)+e.w:=by omega
   rw[ih (by simp only[aaY,Nat.add_mul,Nat.one_mul] at hj;omega)]
   conv=>rhs;rw[h2,Nat.add_div_right _ hw,Nat.add_mod_right]
   rfl
theorem HU(ok:EncOk e P T inf z)(hw:0<e.w){F:HL}{A:Option Addr}{n:Nat}{xs:List α}(hl:RowL e T F A n xs){c:Nat}{e':TypeId}(hk:P.underlying tx=some (.slice e'))(X:HL)(w:World)(hR:Rel (X++F) w):Src P inf.size tx (.slice A n c) xs.length (aw e xs) w:=by
 cases hl with
 | zero =>
  cases A with
  | none=>exact Src.ofNil w hk c
  | some a=>exact Src.ofSlice w hk a 0 c [] (by simp) (λ j u h=>by simp at h) (λ u h=>by simp at h)
 | rows q o N full fz n xs hq ho hn hx =>
  subst hn;refine Src.ofSlice w hk _ _ _ _ (by rw[bQ,ok.size]) ?_ ?_
  ·intro j u hj;have VZ:j<xs.length*e.w:=by rw[<- bQ];exact(List.getElem?_eq_some_iff.1 hj).1
   rw[Bk xs hw VZ] at hj;have hd:j / e.w<xs.length:=Nat.div_lt_of_lt_mul (by rw[Nat.mul_comm];exact VZ);have hb:=hR.holds _ (aau X hq);rw[Addr.add_lit];have XO:o*e.w+j=(o+j / e.w)*e.w+j % e.w:=by
    rw[Nat.add_mul,Nat.add_assoc,Nat.mul_comm (j / e.w) e.w,Nat.div_add_mod]
   rw[jZ (i:=o+j / e.w) (k:=j % e.w) hb rfl rfl XO (by omega) (Nat.mod_lt _ hw)];rw[<- hj];show some (bu e full (o+j / e.w) (j % e.w))=_;unfold bu;rw[hx _ hd]
  ·intro u hu;simp only[aw,List.mem_flatMap,List.mem_map] at hu;obtain⟨x,_,k,_,rfl⟩:=hu;exact ok.one x k
def SrcIn(P:Program)(e:Enc α)(F:HL)(A:Option Addr)(n:Nat)(xs:List α):Prop :=
 (xs.length=n /\ (A=none -> n=0)) /\ ∀ {tx e':TypeId} (c:Nat),P.underlying tx=some (.slice e') -> ∀X w,Rel (X++F) w -> Src P e.w tx (.slice A n c) xs.length (aw e xs) w
theorem SrcIn.mono{F F':HL}{A:Option Addr}{n:Nat}{xs:List α}(h:SrcIn P e F A n xs)(hs:∃X,F'.Perm (X++F)):SrcIn P e F' A n xs:=by
 obtain⟨X,hX⟩:=hs;refine⟨h.1,λ c hk Y w hR=>h.2 c hk (Y++X) w ?_⟩;rw[aaF];exact hR.perm (List.Perm.append_left Y hX.symm)
theorem SrcIn.up{F X:HL}{A:Option Addr}{n:Nat}{xs:List α}(h:SrcIn P e F A n xs):SrcIn P e (X++F) A n xs:=h.mono ⟨X,List.Perm.refl _⟩
theorem SrcIn.none:SrcIn P e F Option.none 0 []:=⟨⟨rfl,λ _=>rfl⟩,λ c hk X w hR=>Src.ofNil w hk c⟩
theorem RowL.src(ok:EncOk e P T inf z)(hw:0<e.w){F:HL}{A:Option Addr}{n:Nat}{xs:List α}(hl:RowL e T F A n xs):SrcIn P e F A n xs:=by
 refine⟨⟨hl.len,λ h=>?_⟩,λ c hk X w hR=>?_⟩
 ·subst h;cases hl;rfl
 ·have:=HU (c:=c) ok hw hl hk X w hR;rwa [ok.size] at this
theorem SrcIn.lit(ok:EncOk e P T inf z){F:HL}{q:Nat}{xs:List α}{rest:List Value}{ty:TypeId}{fz:Nat × Nat}(hq:(q,.lit (aw e xs++rest) ty fz)∈F):SrcIn P e F (some ⟨q,0,Option.none⟩) xs.length xs:=by
 refine⟨⟨rfl,λ h=>by cases h⟩,λ c hk X w hR=>Src.ofSlice w hk _ _ _ _ (by rw[bQ]) ?_ ?_⟩
 ·intro j u hj;have hb:=hR.holds _ (aau X hq);have hl:j<(aw e xs).length:=(List.getElem?_eq_some_iff.1 hj).1;simp only[Blk.den] at hb;rw[Addr.add_lit];simp[World.cell?,hb,aa4 hl,hj]
 ·intro u hu;simp only[aw,List.mem_flatMap,List.mem_map] at hu;obtain⟨x,_,k,_,rfl⟩:=hu;exact ok.one x k
def NewS(e:Enc α)(T:TypeId)(src:List α)(A A':Option Addr)(f_:Nat)(Is:HL):Prop :=
 (src=[] /\ A'=A /\ f_=0 /\ Is=[]) \/ ∃b,A'=some ⟨b,0,none⟩ /\ Is=[(b,.rows e.w f_ (bu e src) T (0,0))] /\ src.length <= f_
theorem NewS.rowL{src:List α}{A A':Option Addr}{f_:Nat}{Is:HL}(h:NewS e T src A A' f_ Is){F:HL}(hF:∀x∈Is,x∈F):RowL e T F A' src.length src:=by
 rcases h with ⟨rfl,rfl,rfl,rfl⟩|⟨b,rfl,rfl,hc⟩
 ·exact .zero _
 ·exact RowL.whole (hF _ (List.mem_singleton.2 rfl)) hc
theorem oZ(l:List α)(k:Nat):bu e (l++List.replicate k e.dflt)=bu e l:=by
 funext i j;unfold bu;congr 1;rw[aaK,aaK]
 by_cases h:i<l.length
 ·rw[aa4 h]
 ·rw[aa6 (by omega),List.getElem?_replicate,List.getElem?_eq_none (by omega)];split <;> rfl
theorem Bl(ok:EncOk e P T inf z)(ht:P.underlying t=some (.slice T)){A:Option Addr}{G:HL}{w:World}(hA:∀a,A=some a -> a.spot=none)(hR:Rel G w)(src:List α)(x:Value)
  (hs:Src P inf.size tx x src.length (aw e src) w) (hb:src.length <= 100000000) :
  ∃A' f_ Is w',(Builtin.append_ #[t,tx] ty #[.slice A 0 0,x]).run P w=.ok (.slice A' src.length f_) w' /\ NewS e T src A A' f_ Is /\ Rel (Is++G) w' /\ Below 0 w w':=by
 rcases Nat.eq_zero_or_pos src.length with h0|h0
 ·obtain rfl:src=[]:=abb h0;cases A with
  | none =>
   refine⟨none,0,[],w,?_,.inl ⟨rfl,rfl,rfl,rfl⟩,hR,Below.refl _ _⟩;have hc:(Builtin.firstCells inf.size 0 x).run P w=.ok #[] w:=hs.cells;rcases hs.kind with ⟨e',hk⟩|hk <;> simp[Builtin.append_,run_underlying ht,run_underlying hk,Go.sizeOf,typeInfo,ok.info,hs.len,hc]
  | some a =>
   obtain⟨b,off,spot⟩:=a;obtain rfl:spot=none:=hA _ rfl;refine⟨some ⟨b,off,none⟩,0,[],w,?_,.inl ⟨rfl,rfl,rfl,rfl⟩,hR,Below.refl _ _⟩;have:=run_append_room_src (P:=P) w t tx ty T inf ht ok.info b off 0 0 x 0 (aw e ([]:List α)) hs (aaS _) (λ j hj=>by simp[aw] at hj) (λ j hj=>by simp[aw] at hj);exact this
 ·have hby:=ok.bytes;have U9:Builtin.nextslicecap (0+src.length) 0*inf.bytes <= 281474976710656:=by
   have h1:=lu (0+src.length) 0 (by omega);have h2:Builtin.nextslicecap (0+src.length) 0*inf.bytes <= (2*100000000+192)*1000:=Nat.mul_le_mul (by omega) hby;omega
  have hold:(Builtin.firstCells inf.size 0 (.slice A 0 0)).run P w.drew=.ok ([]:List Value).toArray w.drew:=by
   cases A with
   | none=>exact run_firstCells_none w.drew inf.size 0 0 0
   | some a =>
    obtain⟨b,off,spot⟩:=a;obtain rfl:spot=none:=hA _ rfl;exact run_firstCells_some w.drew inf.size 0 ⟨b,off,none⟩ 0 0 [] (by simp) (λ j u hj=>by simp at hj)
  have bY:=run_append_grow_src (P:=P) w t tx ty T inf z ht ok.info ok.zero A 0 0 [] hold x src.length (aw e src) hs (by omega) (by omega) U9;have Yx:=grownCap_ge w (0+src.length) 0 T;generalize grownCap w (0+src.length) 0 T=nc at *;rw[Nat.zero_add] at bY Yx;refine⟨_,nc,[(w.heap.size,.rows e.w nc (bu e src) T (0,0))],_,bY,.inr ⟨_,rfl,rfl,Yx⟩,?_,?_⟩
  ·have:=(Rel.cons (.rows e.w nc (bu e src) T (0,0)) (o:=.cells (([]++aw e src).toArray++Builtin.zeroCells z.cells (nc-src.length)) T (0,0)) ?_ (hR.world (w':=w.drew) rfl))
   ·exact this
   ·show Obj.cells _ _ _=_;congr 1;apply Array.ext';show bC _ _ _=_;have hl:nc=(src++List.replicate (nc-src.length) e.dflt).length:=by simp;omega
    have h3:=j5 e (src++List.replicate (nc-src.length) e.dflt);rw[<- hl,oZ] at h3;rw[h3,cF,List.nil_append,Array.toList_append,qJ ok]
  ·exact⟨rfl,rfl,rfl,by simp,λ k hk=>by omega⟩
end
section
variable {r:Option Nat} {P:Program} {N:Nat} {D:List Deferred} {F:HL} {w0:World} {R:HL} {s:Cfg} {Q:Exit -> Act -> World -> Prop}
variable {α:Type} {e:Enc α} {T:TypeId} {inf:TypeInfo} {z:Value}
theorem jL(ok:EncOk e P T inf z)(src:List α)(j:Nat){A:Option Addr}{B:Option Addr}{m c':Nat}{tx:TypeId}(hA:∀a,A=some a -> a.spot=none)(hm:m=src.length)(hb:src.length <= 100000000)
  (hs:∀e',P.underlying tx=some (.slice e') -> ∀X w,Rel (X++F) w -> Src P inf.size tx (.slice B m c') src.length (aw e src) w)
  (hk:∀ (A':Option Addr) (f_:Nat) (Is:HL),NewS e T src A A' f_ Is -> RN r P N D F w0 R (Qf j Is (eH N (.slice A' src.length f_) s)) Q)
  (h:C0 P N j (fN s) s=some (A,0,0,T,B,m,c',tx,([]:HL)):=by kernel_rfl):RN r P N D F w0 R s Q:=by
 obtain⟨o,a1,a2,t,e',q0,q1,q2,q3,q4,q5,q6,q7,q9,D_,SY⟩:=sD h;refine⟨λ hR a w hF aT hB=>?_⟩;obtain⟨c,k,L,Bs,Ts⟩:=s;unfold fN at q0;cases c with
 | code c=>cases q0
 | ex c=>cases q0
 | drw _ _=>cases q0
 | ops ops i =>
  simp only at q0 q3 q4 q5 q9 D_ SY hF aT;have rW:ops.toList.drop i=o::ops.toList.drop (i+1):=by
   have g_:i<ops.toList.length:=(List.getElem?_eq_some_iff.1 q0).1;rw[List.drop_eq_getElem_cons g_,(List.getElem?_eq_some_iff.1 q0).2]
  show wpListIn _ _ _ _ _ _ _ _;rw[rW,wpListIn,if_pos (by simp[Region.wanted,q1])];refine⟨λ _ _=>trivial,?_⟩;have AT:=j8 (A:=Bs) q9 D_;have key:dW P o a w λ u w'=>∃y:Option Addr × Nat × HL,(u=.slice y.1 src.length y.2.1 /\ NewS e T src A y.1 y.2.1 y.2.2) /\ Rel ((y.2.2++(Bs++((oth [j] Ts.length).filterMap (Ts[·]?)).flatten))++F) w' /\ Below 0 w w':=by
   simp only[abe] at q3;have e1:=(hF.eval q3.1).trans q4;have e2:=(hF.eval q3.2).trans q5;have G_:Rel ((Bs++((oth [j] Ts.length).filterMap (Ts[·]?)).flatten)++F) w:=by
    have:=aT.perm (AT.append_right F);exact this
   obtain⟨A',f_,Is,w',r1,r2,r3,r4⟩:=Bl (ty:=o.type) ok q6 hA G_ src (.slice B m c') (hs e' q7 _ w aT) hb;unfold dW;have bY:(execOp a.eval o).run P w=.ok (.value (.slice A' src.length f_)) w':=by
    simp[execOp,q2,resolve,invoke,builtin,abp,e1,e2,r1]
   rw[bY];exact⟨(A',f_,Is),⟨rfl,r2⟩,by rw[aaF];exact r3,r4⟩
  refine iY (by rw[q2];intro c hc;cases hc) key ?_;rintro u w' ⟨⟨A',f_,Is⟩,⟨rfl,WY⟩,G_,Wl⟩;obtain⟨L',p1⟩:=dU SY (.slice A' src.length f_);have hh:=(hk A' f_ Is WY).h hR;have Tf:eH N (.slice A' src.length f_) ⟨.ops ops i,k,L,Bs,Ts⟩=⟨.ops ops (i+1),k,L',Bs,Ts⟩:=by
   unfold eH;simp only[q0,p1]
  rw[Tf] at hh;refine hh _ w' (hF.put p1) (G_.perm (aa8 F ?_)) (hB.trans Wl);show (Bs++(Is::(oth [j] Ts.length).filterMap (Ts[·]?)).flatten).Perm _;rw[List.flatten_cons,<- aaF,<- aaF];exact aa8 _ aa7
end
def dE:Enc Int:=⟨1,λ p k=>match k with|0=>vI p|_=>vI p,0⟩
noncomputable def Nr:TypeInfo:=match Tryz.prog.info? 3 with | some i=>i | none=>⟨.bool,"",0,0,false,0,0,none,false,#[]⟩
noncomputable def Ns:Value:=match Nr.zero with|some z=>z|none=>.bool false
theorem jd:EncOk dE Tryz.prog 3 Nr Ns where
 info:=by kernel_rfl
 zero:=by kernel_rfl
 size:=by kernel_rfl
 zsize:=by kernel_rfl
 zcell:=λ k hk=>by
  have h:∀k<1,Ns.cells[k]?=some (dE.cell dE.dflt k):=by intro k hk;(iterate 1 (rcases k with _|k;· kernel_rfl));omega
  exact h k hk
 one:=λ x k=>by unfold dE;dsimp only;split <;> rfl
 bytes:=aaN (by kernel_rfl)
abbrev rp(n:Int):Prop:=-9223372036854775808 <= n /\ n <= 9223372036854775807
theorem eC{n:Int}(hn:rp n)(Tj:Int)(h:0<Tj):0 <= aB n Tj /\ aB n Tj<Tj:=by
 unfold aB;have hx:0 <= (if n<0 then aV (0-aV (n+1)) else n):=by
  split
  ·rw[bU (x:=n+1) (by omega),bU (by omega)];omega
  ·omega
 exact⟨Int.tmod_nonneg _ hx,Int.tmod_lt_of_pos _ h⟩
inductive ArgL(F:HL):Option Addr -> Nat -> List Int -> Prop
 | zero (A:Option Addr):ArgL F A 0 []
 | cells (q o N:Nat) (g:Nat -> Nat -> Value) (ty:TypeId) (fz:Nat × Nat) (xs:List Int) (hq:(q,.rows 1 N g ty fz)∈F) (ho:o+xs.length <= N) (hx:∀k,k<xs.length -> g (o+k) 0=vI (xs.getD k 0)) (hb:∀k,k<xs.length -> rp (xs.getD k 0)):ArgL F (some ⟨q,o,none⟩) xs.length xs
theorem ArgL.up{F X:HL}{A:Option Addr}{n:Nat}{xs:List Int}(h:ArgL F A n xs):ArgL (X++F) A n xs:=by
 cases h with
 | zero=>exact .zero _
 | cells q o N g ty fz xs hq ho hx hb=>exact .cells q o N g ty fz xs (aau _ hq) ho hx hb
theorem ArgL.len{F:HL}{A:Option Addr}{n:Nat}{xs:List Int}(h:ArgL F A n xs):xs.length=n:=by
 cases h <;> rfl
theorem ArgL.at{F:HL}{A:Option Addr}{n:Nat}{xs:List Int}(h:ArgL F A n xs){k:Nat}(hk:k<n):∃q o N g ty fz,A=some ⟨q,o,none⟩ /\ (q,.rows 1 N g ty fz)∈F /\ o+k<N /\ g (o+k) 0=vI (xs.getD k 0) /\ rp (xs.getD k 0):=by
 cases h with
 | zero=>omega
 | cells q o N g ty fz xs hq ho hx hb=>exact⟨q,o,N,g,ty,fz,rfl,hq,by omega,hx k hk,hb k hk⟩
def kv(xs:List Int)(i:Nat):Int:=if i<xs.length then aB (xs.getD i 0) 1000000 else 0
theorem iz{F:HL}{A:Option Addr}{n:Nat}{xs:List Int}(h:ArgL F A n xs)(i:Nat):0 <= kv xs i /\ kv xs i<1000000:=by
 unfold kv;split
 ·next hi =>
  rw[h.len] at hi;obtain⟨_,_,_,_,_,_,_,_,_,_,hr⟩:=h.at hi;exact eC hr 1000000 (by decide)
 ·omega
def ks(xs:List Int)(n:Nat):List Int:=(List.range n).map (kv xs)
theorem nR(xs:List Int)(n:Nat):(ks xs n).length=n:=by simp[ks]
theorem C1(xs:List Int)(n:Nat):ks xs (n+1)=ks xs n++[kv xs n]:=by simp[ks,List.range_succ]
theorem OH{xs:List Int}{n i:Nat}(h:i<n):(ks xs n).getD i 0=kv xs i:=by simp[ks,h]
structure Dr where (a b:Int)
def lY:Enc V2:=⟨2,λ p k=>match k with|0=>vI p.x|_=>vI p.y,⟨0,0⟩⟩
noncomputable def Nt:TypeInfo:=match Tryz.prog.info? 29 with | some i=>i | none=>⟨.bool,"",0,0,false,0,0,none,false,#[]⟩
noncomputable def Nv:Value:=match Nt.zero with|some z=>z|none=>.bool false
theorem Bm:EncOk lY Tryz.prog 29 Nt Nv where
 info:=by kernel_rfl
 zero:=by kernel_rfl
 size:=by kernel_rfl
 zsize:=by kernel_rfl
 zcell:=λ k hk=>by
  have h:∀k<2,Nv.cells[k]?=some (lY.cell lY.dflt k):=by intro k hk;(iterate 2 (rcases k with _|k;· kernel_rfl));omega
  exact h k hk
 one:=λ x k=>by unfold lY;dsimp only;split <;> rfl
 bytes:=aaN (by kernel_rfl)
def yI:Enc Bx:=⟨4,λ p k=>match k with|0=>vI p.x0|1=>vI p.y0|2=>vI p.x1|_=>vI p.y1,⟨0,0,0,0⟩⟩
noncomputable def QA:TypeInfo:=match Tryz.prog.info? 25 with | some i=>i | none=>⟨.bool,"",0,0,false,0,0,none,false,#[]⟩
noncomputable def QB:Value:=match QA.zero with|some z=>z|none=>.bool false
theorem HV:EncOk yI Tryz.prog 25 QA QB where
 info:=by kernel_rfl
 zero:=by kernel_rfl
 size:=by kernel_rfl
 zsize:=by kernel_rfl
 zcell:=λ k hk=>by
  have h:∀k<4,QB.cells[k]?=some (yI.cell yI.dflt k):=by intro k hk;(iterate 4 (rcases k with _|k;· kernel_rfl));omega
  exact h k hk
 one:=λ x k=>by unfold yI;dsimp only;split <;> rfl
 bytes:=aaN (by kernel_rfl)
def nS:Enc Dr:=⟨2,λ p k=>match k with|0=>vI p.a|_=>vI p.b,⟨0,0⟩⟩
noncomputable def QC:TypeInfo:=match Tryz.prog.info? 97 with | some i=>i | none=>⟨.bool,"",0,0,false,0,0,none,false,#[]⟩
noncomputable def QD:Value:=match QC.zero with|some z=>z|none=>.bool false
theorem HW:EncOk nS Tryz.prog 97 QC QD where
 info:=by kernel_rfl
 zero:=by kernel_rfl
 size:=by kernel_rfl
 zsize:=by kernel_rfl
 zcell:=λ k hk=>by
  have h:∀k<2,QD.cells[k]?=some (nS.cell nS.dflt k):=by intro k hk;(iterate 2 (rcases k with _|k;· kernel_rfl));omega
  exact h k hk
 one:=λ x k=>by unfold nS;dsimp only;split <;> rfl
 bytes:=aaN (by kernel_rfl)
structure MapIn(F:HL)(S:Setup)(rs:List Bx)(ds:List Dr):Prop where
 rooms:RowL yI 25 F S.rA S.rn rs
 doors:RowL nS 97 F S.dA S.dn ds
theorem MapIn.up{F X:HL}{S:Setup}{rs:List Bx}{ds:List Dr}(h:MapIn F S rs ds):MapIn (X++F) S rs ds:=⟨h.rooms.up,h.doors.up⟩
abbrev yJ:List Bx:=[⟨-12000,-9000,-1,9000⟩,⟨0,0,12000,9000⟩,⟨0,-9000,12000,-1⟩]
abbrev mZ(i:Nat):List Dr:=match i with|0=>[]|1=>[⟨0,1⟩]|_=>[⟨0,2⟩,⟨1,2⟩]
def ClS{α:Type}(e:Enc α)(T:TypeId)(xs:List α)(A':Option Addr)(c':Nat)(Hl:HL):Prop:=∃A0,NewS e T xs A0 A' c' Hl
theorem ClS.rowL{α:Type}{e:Enc α}{T:TypeId}{xs:List α}{A':Option Addr}{c':Nat}{Hl:HL}(h:ClS e T xs A' c' Hl){F:HL}(hF:∀x∈Hl,x∈F):RowL e T F A' xs.length xs:=h.elim λ _ h=>h.rowL hF
theorem ClS.nil{α:Type}(e:Enc α)(T:TypeId)(A:Option Addr):ClS e T [] A 0 []:=⟨A,.inl ⟨rfl,rfl,rfl,rfl⟩⟩
end Go.Proofs.YtghjbimijeinfaaGreatDoor
