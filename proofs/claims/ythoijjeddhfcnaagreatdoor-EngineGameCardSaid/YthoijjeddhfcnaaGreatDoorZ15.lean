import Derived.Test.YthoijjeddhfcnaaGreatDoorZ14
import Derived.Test.YthoijjeddhfcnaaGreatDoorZ06
set_option maxHeartbeats 4000000
set_option maxRecDepth 100000
set_option linter.unusedSimpArgs false
set_option linter.unusedVariables false
namespace Go.Proofs.YthoijjeddhfcnaaGreatDoor
open IntKind
open Go.RowKit
def MemS.sh(M:MemS)(l:List (Int × Int))(b:Int):MemS:=⟨M.cs,l++M.lg,b⟩
def VR.sh(r:VR)(l:List (Int × Int))(b:Int):VR:={ r with M:=r.M.sh l b }
theorem bm(M:MemS)(l:List (Int × Int))(b i:Int):(M.sh l b).get i=M.get i:=rfl
theorem bn(M:MemS)(l:List (Int × Int))(b i v:Int):(M.sh l b).set i v=(M.set i v).sh l b:=by
 unfold MemS.set MemS.sh
 dsimp only
 split
 ·simp
 ·rfl
theorem bz(M N:MemS)(l:List (Int × Int))(b:Int)(c:Prop)[Decidable c]:(if c then M.sh l b else N.sh l b)=(if c then M else N).sh l b:=by split <;> rfl
theorem aR(M N:VR)(l:List (Int × Int))(b:Int)(c:Prop)[Decidable c]:(if c then M.sh l b else N.sh l b)=(if c then M else N).sh l b:=by split <;> rfl
theorem bq(M:MemS)(l:List (Int × Int))(b v:Int)(e:Eff)(em:Bool):(⟨M.sh l b,v,e,em⟩:VR)=VR.sh ⟨M,v,e,em⟩ l b:=rfl
theorem aF(code:List Ins)(M:MemS)(l:List (Int × Int))(b:Int):aX code (M.sh l b)=aX code M:=rfl
theorem ck(r:VR)(l:List (Int × Int))(b:Int):(r.sh l b).z=r.z.sh l b:=rfl
theorem bS(r:VR)(l:List (Int × Int))(b:Int):(r.sh l b).M=r.M.sh l b:=rfl
theorem cm(r:VR)(l:List (Int × Int))(b:Int):(r.sh l b).v=r.v:=rfl
theorem b6(r:VR)(l:List (Int × Int))(b:Int):(r.sh l b).e=r.e:=rfl
theorem br(r:VR)(l:List (Int × Int))(b:Int):(r.sh l b).em=r.em:=rfl
theorem mV(S:Setup)(M:MemS)(k:Int)(l_:List (Int × Int))(b_:Int):ai S (M.sh l_ b_) k=ai S M k:=by
 unfold ai
 simp only[bm,bn,bz,aR,bq,bS,cm,b6,br,aF,ck] <;> rfl
theorem fY(t:Stp)(ph j:Int)(M:MemS)(l_:List (Int × Int))(b_:Int):aQ t ph j (M.sh l_ b_)=(aQ t ph j M).sh l_ b_:=by
 unfold aQ
 simp only[bm,bn,bz,aR,bq,bS,cm,b6,br,aF,ck] <;> rfl
theorem xQ(t:Stp)(k:Int)(m:Mot)(M:MemS)(l_:List (Int × Int))(b_:Int):bG t k m (M.sh l_ b_)=(bG t k m M).sh l_ b_:=by
 unfold bG
 simp only[bm,bn,bz,aR,bq,bS,cm,b6,br,aF,ck] <;> rfl
theorem BP(t:Stp)(c sp pos lo hi:Int)(M:MemS)(l_:List (Int × Int))(b_:Int):b7 t c sp pos lo hi (M.sh l_ b_)=(b7 t c sp pos lo hi M).sh l_ b_:=by
 unfold b7
 simp only[bm,bn,bz,aR,bq,bS,cm,b6,br,aF,ck] <;> rfl
theorem BQ(t:Stp)(M:MemS)(l_:List (Int × Int))(b_:Int):aZ t (M.sh l_ b_)=(aZ t M).sh l_ b_:=by
 unfold aZ
 simp only[bm,bn,bz,aR,bq,bS,cm,b6,br,aF,ck] <;> rfl
theorem BR(t:Stp)(M:MemS)(l_:List (Int × Int))(b_:Int):bu t (M.sh l_ b_)=(bu t M).sh l_ b_:=by
 unfold bu
 simp only[bm,bn,bz,aR,bq,bS,cm,b6,br,aF,ck] <;> rfl
theorem BS(t:Stp)(M:MemS)(l_:List (Int × Int))(b_:Int):b8 t (M.sh l_ b_)=(b8 t M).sh l_ b_:=by
 unfold b8
 simp only[bm,bn,bz,aR,bq,bS,cm,b6,br,aF,ck,fY] <;> rfl
theorem BT(t:Stp)(M:MemS)(l_:List (Int × Int))(b_:Int):aW t (M.sh l_ b_)=(aW t M).sh l_ b_:=by
 unfold aW
 simp only[bm,bn,bz,aR,bq,bS,cm,b6,br,aF,ck,BQ,BR,BS] <;> rfl
theorem El(t:Stp)(M:MemS)(l_:List (Int × Int))(b_:Int):eA t (M.sh l_ b_)=(eA t M).sh l_ b_:=by
 unfold eA
 simp only[bm,bn,bz,aR,bq,bS,cm,b6,br,aF,ck] <;> rfl
theorem rS(M:MemS)(l_:List (Int × Int))(b_:Int):∀n,cf (M.sh l_ b_) n=(cf M n).sh l_ b_
 | 0=>rfl
 | n+1=>by rw[cf,cf,rS M l_ b_ n,bn]
theorem Em(t:Stp)(M:MemS)(l_:List (Int × Int))(b_:Int):fT t (M.sh l_ b_)=(fT t M).sh l_ b_:=by
 unfold fT
 simp only[bm,bn,bz,aR,bq,bS,cm,b6,br,aF,ck,rS] <;> rfl
theorem Eo(t:Stp)(M:MemS)(l_:List (Int × Int))(b_:Int):dg t (M.sh l_ b_)=(dg t M).sh l_ b_:=by
 unfold dg
 simp only[bm,bn,bz,aR,bq,bS,cm,b6,br,aF,ck,El,Em] <;> rfl
theorem BU(t:Stp)(M:MemS)(l_:List (Int × Int))(b_:Int):bO t (M.sh l_ b_)=bO t M:=by
 unfold bO
 simp only[bm,bn,bz,aR,bq,bS,cm,b6,br,aF,ck,mV] <;> rfl
theorem BV(t:Stp)(M:MemS)(l_:List (Int × Int))(b_:Int):bA t (M.sh l_ b_)=(bA t M).sh l_ b_:=by
 unfold bA
 simp only[bm,bn,bz,aR,bq,bS,cm,b6,br,aF,ck] <;> rfl
theorem BW(t:Stp)(M:MemS)(l_:List (Int × Int))(b_:Int):bB t (M.sh l_ b_)=(bB t M).sh l_ b_:=by
 unfold bB
 simp only[bm,bn,bz,aR,bq,bS,cm,b6,br,aF,ck,BU] <;> rfl
theorem BX(t:Stp)(M:MemS)(l_:List (Int × Int))(b_:Int):bW t (M.sh l_ b_)=(bW t M).sh l_ b_:=by
 unfold bW
 simp only[bm,bn,bz,aR,bq,bS,cm,b6,br,aF,ck,fY] <;> rfl
theorem BZ(t:Stp)(M:MemS)(l_:List (Int × Int))(b_:Int):aM t (M.sh l_ b_)=(aM t M).sh l_ b_:=by
 unfold aM
 simp only[bm,bn,bz,aR,bq,bS,cm,b6,br,aF,ck,BV,BW,BX] <;> rfl
theorem xR(M:MemS)(l_:List (Int × Int))(b_:Int):iQ (M.sh l_ b_)=iQ M:=by
 unfold iQ
 simp only[bm,bn,bz,aR,bq,bS,cm,b6,br,aF,ck] <;> rfl
theorem xS(t:Stp)(M:MemS)(l_:List (Int × Int))(b_:Int):eC t (M.sh l_ b_)=eC t M:=by
 unfold eC
 simp only[bm,bn,bz,aR,bq,bS,cm,b6,br,aF,ck,mV,xR] <;> rfl
theorem xT(t:Stp)(M:MemS)(l_:List (Int × Int))(b_:Int):bI t (M.sh l_ b_)=(bI t M).sh l_ b_:=by
 unfold bI
 simp only[bm,bn,bz,aR,bq,bS,cm,b6,br,aF,ck,BP,xS] <;> rfl
theorem Ep(k v:Int)(M:MemS)(l_:List (Int × Int))(b_:Int):cN k v (M.sh l_ b_)=(cN k v M).sh l_ b_:=by
 unfold cN
 simp only[bm,bn,bz,aR,bq,bS,cm,b6,br,aF,ck] <;> rfl
theorem Er(S:Setup)(op n a b:Int)(M:MemS)(l_:List (Int × Int))(b_:Int):aH S op n a b (M.sh l_ b_)=(aH S op n a b M).sh l_ b_:=by
 unfold aH
 simp only[bm,bn,bz,aR,bq,bS,cm,b6,br,aF,ck,Ep] <;> rfl
theorem H6(op sp:Int)(M:MemS)(l_:List (Int × Int))(b_:Int):dC op sp (M.sh l_ b_)=dC op sp M:=by
 unfold dC
 simp only[bm,bn,bz,aR,bq,bS,cm,b6,br,aF,ck] <;> rfl
theorem H7(op sp:Int)(M:MemS)(l_:List (Int × Int))(b_:Int):dQ op sp (M.sh l_ b_)=dQ op sp M:=by
 unfold dQ
 simp only[bm,bn,bz,aR,bq,bS,cm,b6,br,aF,ck] <;> rfl
theorem H8(op sp pc fuel:Int)(M:MemS)(l_:List (Int × Int))(b_:Int):dw op sp pc fuel (M.sh l_ b_)=(dw op sp pc fuel M).sh l_ b_:=by
 unfold dw
 simp only[bm,bn,bz,aR,bq,bS,cm,b6,br,aF,ck] <;> rfl
theorem Es(S:Setup)(op n sp pc fuel:Int)(M:MemS)(l_:List (Int × Int))(b_:Int):bQ S op n sp pc fuel (M.sh l_ b_)=(bQ S op n sp pc fuel M).sh l_ b_:=by
 unfold bQ
 simp only[bm,bn,bz,aR,bq,bS,cm,b6,br,aF,ck,Er,H6,H7,H8] <;> rfl
theorem vd(code:List Ins)(n:Nat)(M:MemS)(l_:List (Int × Int))(b_:Int):(c7 code n (M.sh l_ b_))=(c7 code n M):=by
 unfold c7
 simp only[bm,bn,bz,aR,bq,bS,cm,b6,br,aF,ck] <;> rfl
theorem Et(op sp:Int)(r:VR)(l_:List (Int × Int))(b_:Int):cz op sp (r.sh l_ b_)=(cz op sp r).sh l_ b_:=by
 unfold cz
 simp only[bm,bn,bz,aR,bq,bS,cm,b6,br,aF,ck] <;> rfl
theorem Eu(S:Setup)(code:List Ins)(n:Nat)(M:MemS)(l_:List (Int × Int))(b_:Int):ao S code n (M.sh l_ b_)=(ao S code n M).sh l_ b_:=by
 unfold ao
 simp only[bm,bn,bz,aR,bq,bS,cm,b6,br,aF,ck,Es,vd,Et] <;> rfl
theorem H9(code:List Ins)(n:Nat)(M:MemS)(l_:List (Int × Int))(b_:Int):bE code n (M.sh l_ b_)=bE code n M:=by
 unfold bE
 simp only[bm,bn,bz,aR,bq,bS,cm,b6,br,aF,ck,vd] <;> rfl
theorem B0(e fuel self other:Int)(M:MemS)(l_:List (Int × Int))(b_:Int):aU e fuel self other (M.sh l_ b_)=(aU e fuel self other M).sh l_ b_:=by
 unfold aU
 simp only[bm,bn,bz,aR,bq,bS,cm,b6,br,aF,ck] <;> rfl
theorem tp(e:Int)(t:Stp)(self other:Int)(M:MemS)(l_:List (Int × Int))(b_:Int):ew e t self other (M.sh l_ b_)=(ew e t self other M).sh l_ b_:=by
 unfold ew
 simp only[bm,bn,bz,aR,bq,bS,cm,b6,br,aF,ck,Eu,B0] <;> rfl
theorem tq(e:Int)(t:Stp)(self other:Int)(M:MemS)(l_:List (Int × Int))(b_:Int):dh e t self other (M.sh l_ b_)=dh e t self other M:=by
 unfold dh
 simp only[bm,bn,bz,aR,bq,bS,cm,b6,br,aF,ck,H9] <;> rfl
theorem ve(r:VR)(over:Bool)(t:Stp)(IT:Bool)(M:MemS)(l_:List (Int × Int))(b_:Int):di (r.sh l_ b_) over t IT (M.sh l_ b_)=(di r over t IT M).sh l_ b_:=by
 unfold di
 simp only[bm,bn,bz,aR,bq,bS,cm,b6,br,aF,ck] <;> rfl
theorem Ev(t:Stp)(o:Int)(c:Bool)(M:MemS)(l_:List (Int × Int))(b_:Int):cW t o c (M.sh l_ b_)=(cW t o c M).sh l_ b_:=by
 unfold cW cB iC
 rw[tp,tq,ve]
theorem Ew(t:Stp)(o:Int)(c:Bool)(M:MemS)(l_:List (Int × Int))(b_:Int):cX t o c (M.sh l_ b_)=(cX t o c M).sh l_ b_:=by
 unfold cX cC iE
 rw[tp,tq,ve]
theorem Ib(t:Stp)(M:MemS)(l_:List (Int × Int))(b_:Int):eF t (M.sh l_ b_)=(eF t M).sh l_ b_:=by
 unfold eF
 simp only[bm,bn,bz,aR,bq,bS,cm,b6,br,aF,ck,fY,Ev] <;> rfl
theorem Ey(t:Stp)(M:MemS)(l_:List (Int × Int))(b_:Int):cS t (M.sh l_ b_)=(cS t M).sh l_ b_:=by
 unfold cS
 simp only[bm,bn,bz,aR,bq,bS,cm,b6,br,aF,ck,fY,tp,tq] <;> rfl
theorem zG(t:Stp)(M:MemS)(l_:List (Int × Int))(b_:Int):jO t (M.sh l_ b_)=jO t M:=by
 unfold jO
 simp only[bm,bn,bz,aR,bq,bS,cm,b6,br,aF,ck,mV] <;> rfl
theorem Ic(t:Stp)(M:MemS)(l_:List (Int × Int))(b_:Int):fA t (M.sh l_ b_)=fA t M:=by
 unfold fA
 simp only[bm,bn,bz,aR,bq,bS,cm,b6,br,aF,ck,mV,zG] <;> rfl
theorem vf(t:Stp)(M:MemS)(l_:List (Int × Int))(b_:Int):dY t (M.sh l_ b_)=(dY t M).sh l_ b_:=by
 unfold dY
 simp only[bm,bn,bz,aR,bq,bS,cm,b6,br,aF,ck,xQ,Ic] <;> rfl
theorem B1(t:Stp)(M:MemS)(l_:List (Int × Int))(b_:Int):cq t (M.sh l_ b_)=(cq t M).sh l_ b_:=by
 unfold cq
 simp only[bm,bn,bz,aR,bq,bS,cm,b6,br,aF,ck,zG,vf] <;> rfl
theorem Ie(t:Stp)(M:MemS)(l_:List (Int × Int))(b_:Int):kq t (M.sh l_ b_)=kq t M:=by
 unfold kq
 simp only[bm,bn,bz,aR,bq,bS,cm,b6,br,aF,ck,mV] <;> rfl
theorem Ez(t:Stp)(M:MemS)(l_:List (Int × Int))(b_:Int):dH t (M.sh l_ b_)=(dH t M).sh l_ b_:=by
 unfold dH
 simp only[bm,bn,bz,aR,bq,bS,cm,b6,br,aF,ck,Ie] <;> rfl
theorem EA(t:Stp)(M:MemS)(l_:List (Int × Int))(b_:Int):eH t (M.sh l_ b_)=(eH t M).sh l_ b_:=by
 unfold eH
 simp only[bm,bn,bz,aR,bq,bS,cm,b6,br,aF,ck,fY] <;> rfl
theorem EB(t:Stp)(M:MemS)(l_:List (Int × Int))(b_:Int):cY t (M.sh l_ b_)=(cY t M).sh l_ b_:=by
 unfold cY
 simp only[bm,bn,bz,aR,bq,bS,cm,b6,br,aF,ck,xT,Ez,EA] <;> rfl
theorem vg(t:Stp)(M:MemS)(l_:List (Int × Int))(b_:Int):bj t (M.sh l_ b_)=(bj t M).sh l_ b_:=by
 unfold bj
 simp only[bm,bn,bz,aR,bq,bS,cm,b6,br,aF,ck,fY,B1] <;> rfl
theorem Ig(t:Stp)(M:MemS)(l_:List (Int × Int))(b_:Int):eG t (M.sh l_ b_)=(eG t M).sh l_ b_:=by
 unfold eG
 simp only[bm,bn,bz,aR,bq,bS,cm,b6,br,aF,ck,fY,Ew] <;> rfl
theorem Ii(g:Gm)(M:MemS)(l:List (Int × Int))(b:Int):g.step (M.sh l b)=g.step M:=rfl
theorem xU(g:Gm)(M:MemS)(l:List (Int × Int))(b:Int):cF g (M.sh l b)=(cF g M).sh l b:=by
 unfold cF
 simp only[Ii,bm,BT,Ib,Ey,BZ,vg,EB,Ig,Eo,bq,aR]
theorem Lb(g:Gm)(M:MemS)(l:List (Int × Int))(b:Int):fB g (M.sh l b)=fB g M:=rfl
theorem zH(g:Gm)(l:List (Int × Int))(b:Int):∀ (n:Nat) (M:MemS),dD g n (M.sh l b)=(dD g n M).sh l b
 | 0,_=>rfl
 | n+1,M=>by rw[dD,dD,dp,dp,xU,bS];exact zH g l b n _
theorem vh(g:Gm)(l:List (Int × Int))(b:Int):∀ (n:Nat) (M:MemS),cK g n (M.sh l b)=cK g n M
 | 0,_=>rfl
 | n+1,M=>by rw[cK,cK,dp,dp,xU,bS,b6,br,vh g l b n]
def qR(g:Gm):Nat -> MemS -> Nat
 | 0,_=>0
 | f+1,M=>if fB g M=true then 0 else qR g f (dp g M)+1
theorem EC{g:Gm}:∀ (m f:Nat) (M:MemS),eL g (m+1) M -> m<f -> qR g f M=m
 | m,0,M,_,h=>by omega
 | 0,f+1,M,h,_=>by
  rcases h.2 with ⟨_,e⟩|⟨_,e⟩
  ·rw[qR,if_pos e]
  ·exact e.elim
 | m+1,f+1,M,h,hf=>by
  rcases h.2 with ⟨e,_⟩|⟨e1,e2⟩
  ·omega
  ·rw[qR,if_neg (by rw[e1];simp),EC m f _ e2 (by omega)]
def oC(g:Gm)(M:MemS):MemS:=dD g (qR g 1000 M+1) M
def ov(g:Gm)(M:MemS):List Eff:=cK g (qR g 1000 M+1) M
theorem xV{g g':Gm}(h:GEq g g'):∀ (f:Nat) (M:MemS),qR g f M=qR g' f M
 | 0,_=>rfl
 | f+1,M=>by rw[qR,qR,Ek h,dp,dp,tn h,xV h f]
theorem Lc{g g':Gm}(h:GEq g g')(M:MemS):oC g M=oC g' M:=by rw[oC,oC,xV h,zF h]
theorem Ld{g g':Gm}(h:GEq g g')(M:MemS):ov g M=ov g' M:=by rw[ov,ov,xV h,vc h]
theorem xW(g:Gm)(l:List (Int × Int))(b:Int):∀ (f:Nat) (M:MemS),qR g f (M.sh l b)=qR g f M
 | 0,_=>rfl
 | f+1,M=>by rw[qR,qR,Lb,dp,dp,xU,bS,xW g l b f]
theorem ED(g:Gm)(M:MemS)(l:List (Int × Int))(b:Int):oC g (M.sh l b)=(oC g M).sh l b:=by rw[oC,oC,xW,zH]
theorem EE(g:Gm)(M:MemS)(l:List (Int × Int))(b:Int):ov g (M.sh l b)=ov g M:=by rw[ov,ov,xW,vh]
theorem tu(M:MemS):(MemS.sh ⟨M.cs,[],0⟩ M.lg M.base)=M:=by cases M;simp[MemS.sh]
theorem Lf(g:Gm){M N:MemS}(h:M.cs=N.cs):(oC g M).cs=(oC g N).cs:=by
 rw[<- tu M,<- tu N,ED,ED,h];rfl
theorem Lg(g:Gm){M N:MemS}(h:M.cs=N.cs):ov g M=ov g N:=by
 rw[<- tu M,<- tu N,EE,EE,h]
def ie(g:Gm):Nat -> MemS -> List (Eff × Bool)
 | 0,_=>[]
 | n+1,M=>((cF g M).e,(cF g M).em)::ie g n (dp g M)
theorem ig(g:Gm):∀ (n:Nat) (M:MemS),(ie g n M).length=n
 | 0,_=>rfl
 | n+1,M=>by rw[ie,List.length_cons,ig g n]
def lH:List (Eff × Bool) -> List Eff
 | []=>[]
 | x::l=>(if x.2=true then [x.1] else [])++lH l
theorem vi(g:Gm):∀ (n:Nat) (M:MemS),lH (ie g n M)=cK g n M
 | 0,_=>rfl
 | n+1,M=>by rw[ie,lH,vi g n,cK]
theorem pw:∀ (l m:List (Eff × Bool)),lH (l++m)=lH l++lH m
 | [],m=>rfl
 | x::l,m=>by rw[List.cons_append,lH,lH,pw l m,List.append_assoc]
theorem vj:∀ (l:List (Eff × Bool)),(lH l).length <= l.length
 | []=>Nat.le_refl _
 | x::l=>by
  have:=vj l
  rw[lH,List.length_append,List.length_cons]
  split
  ·simp;omega
  ·simp;omega
theorem EF{l:List (Eff × Bool)}{i:Nat}{x:Eff × Bool}(h:l[i]?=some x)(e:x.2=true):lH (l.take (i+1))=lH (l.take i)++[x.1]:=by
 rw[List.take_add_one,h,pw]
 show _++((if x.2=true then [x.1] else [])++[])=_
 rw[if_pos e];rfl
theorem Ij{l:List (Eff × Bool)}{i:Nat}{x:Eff × Bool}(h:l[i]?=some x)(e:¬ x.2=true):lH (l.take (i+1))=lH (l.take i):=by
 rw[List.take_add_one,h,pw]
 show _++((if x.2=true then [x.1] else [])++[])=_
 rw[if_neg e];simp
theorem gm{g:Gm}{l:List (Eff × Bool)}{i r:Nat}{M:MemS}(h:l.drop i=ie g (r+1) M):l[i]?=some ((cF g M).e,(cF g M).em) /\ l.drop (i+1)=ie g r (dp g M):=by
 constructor
 ·have:=congrArg (·[0]?) h
  simpa [ie] using this
 ·have:=congrArg List.tail h
  rwa [List.tail_drop] at this
def ul(cs:List Int)(i:Nat):List Int:=cs.take i++List.replicate (cs.length-i) 0
theorem rT(n:Nat):lX [vI 0]=bk (List.replicate n 0):=by
 funext i k
 rcases k with _|k
 ·have:(List.replicate n (0:Int)).getD i 0=0:=by
   rw[List.getD_eq_getElem?_getD,List.getElem?_replicate];split <;> rfl
  show vI 0=vI _
  rw[this]
 ·simp[lX,bk]
theorem vk(cs:List Int):lX [vI 0]=bk (ul cs 0):=by rw[rT cs.length];simp[ul]
theorem zI(cs:List Int):ul cs cs.length=cs:=by simp[ul]
theorem vl{cs:List Int}{i:Nat}(h:i<cs.length):cM (bk (ul cs i)) i 0 (vI (cs.getD i 0))=bk (ul cs (i+1)):=by
 rw[eV (by simp[ul];omega)]
 congr 1
 unfold ul
 rw[List.set_append_right _ _ (by simp;omega)]
 have e:cs.length-i=(cs.length-(i+1))+1:=by omega
 rw[e,List.replicate_succ,List.take_succ_eq_append_getElem h,List.append_assoc]
 simp[List.length_take,Nat.min_eq_left (Nat.le_of_lt h),h]
theorem MemH.len{mb:Nat}{M:MemS}{k:Nat}{T:HL}(h:MemH mb M k T):M.cs.length <= 1000000:=by
 cases h with
 | mk cb A cap Hl hs hc hl=>exact hc
theorem Ik(mb cb n:Nat)(A:Option Addr)(m cap:Nat)(base:Int)(F:HL)(hm:(mb,.lit [vS cb 0 n n,.slice A m cap,vI base] 89 (0,0))∈F):Sp Tryz.prog 42 #[vP mb 0] [] F (λ u H'=>u=vI (n:Int) /\ H'=[]):=by
 refine Sp.run Tryz.func42 rfl (mc hm mn) (A:=[]) (Ts:=[]) rfl λ w0=>?_
 refine aa 15 [.ro 0] λ _=>?_
 exact RN.ret [] [] [] ⟨rfl,rfl⟩
theorem zJ{mb:Nat}{M:MemS}{k:Nat}{T:HL}{F:HL}(h:MemH mb M k T)(hs:∀x∈T,x∈F):Sp Tryz.prog 42 #[vP mb 0] [] F (λ u H'=>u=vI (M.cs.length:Int) /\ H'=[]):=by
 cases h with
 | mk cb A cap Hl Tl hc hl=>exact Ik mb cb M.cs.length A M.lg.length cap M.base F (hs _ (by simp))
theorem tw{M:MemS}{i:Nat}(h:i<M.cs.length):M.get (i:Int)=M.cs.getD i 0:=by
 unfold MemS.get
 rw[if_pos (by omega),Int.toNat_natCast]
theorem B2(mb:Nat)(M:MemS)(k:Nat)(T F:HL)(hM:MemH mb M k T)(hT:∀x∈T,x∈F):Sp Tryz.prog 18 #[vP mb 0] [] F (λ u H'=>∃q,H'=ap [(q,.rows 1 M.cs.length (bk M.cs) 3 (0,0))] [] /\ u=vS q 0 M.cs.length M.cs.length):=by
 have hl:=hM.len
 refine Sp.run Tryz.func18 rfl mn (A:=[]) (Ts:=[]) rfl λ w0=>?_
 refine aa 8 [] λ _=>al (zJ hM (λ x hx=>List.mem_append_right _ (hT x hx)))<|aq 8 [.mk M.cs.length M.cs.length] [(M.cs.length:Int)=((M.cs.length:Nat):Int) /\ (M.cs.length:Int)=((M.cs.length:Nat):Int) /\ M.cs.length <= M.cs.length /\ 8*M.cs.length <= 140737488355328 /\ 1=1 /\ M.cs.length <= 9223372036854775807] λ n1=>al (zJ hM (λ x hx=>List.mem_append_right _ (hT x hx)))<|aa 4 [] λ _=>fS 0 (congrArg (λ v_=>(.rows 1 M.cs.length v_ 3 (0,0):Blk)) (show (lX [vI 0])=(bk (ul M.cs 0)) from (by rw[vk M.cs])))<|RN.loop (σ:=Nat) (λ i=>⟨[(0,vP mb 0),(3,vS (n1+0) 0 M.cs.length M.cs.length),(9,vI (M.cs.length:Int)),(10,vI (i:Int))],[((n1+0),.rows 1 M.cs.length (bk (ul M.cs i)) 3 (0,0))],[],i <= M.cs.length,M.cs.length-i⟩) 0 [0] [] (Nat.zero_le _) ?_
 rintro i Wi PK
 refine aa 6 [] λ _=>RN.em ((i:Int)<(M.cs.length:Int)) 11 (λ h4=>?_) λ h4=>?_
 ·refine aa 16 [] λ _=>al (aB (i:Int) hM (λ x hx=>List.mem_append_right _ (hT x hx)))<|aq 9 [.ix i,.row 0 i 0,.nw] [bF ((i:Int)+1),(0+i*1)=i*1+0 /\ i<M.cs.length,(i:Int)=((i:Nat):Int) /\ i<M.cs.length] λ _=>fS 0 (congrArg (λ v_=>(.rows 1 M.cs.length v_ 3 (0,0):Blk)) (show (cM (bk (ul M.cs i)) i 0 (vI (M.get (i:Int))))=(bk (ul M.cs (i+1))) from (by rw[<- vl (cs:=M.cs) (i:=i) (by omega)];rw[tw (by omega)]))) ?_
  refine PK (i+1) [0] [] ?_
  try dsimp only
  exact⟨by omega,by omega⟩
 ·refine aa 12 [] λ _=>RN.ret [] [0] [] (v:=vS (n1+0) 0 M.cs.length M.cs.length) (H':=[((n1+0),.rows 1 M.cs.length (bk (ul M.cs i)) 3 (0,0))]) ?_
  have ei:i=M.cs.length:=by omega
  subst ei
  exact⟨_,by rw[zI];rfl,rfl⟩
theorem Il(q:Nat)(cs:List Int)(k cap:Nat)(F:HL)(hq:(q,.rows 1 cs.length (bk cs) 3 (0,0))∈F)(hc:cs.length <= 1000000)(hk:k <= 100000000)(hcap:cs.length <= cap):Sp Tryz.prog 8 #[vS q 0 cs.length cap] [] F (λ u H'=>∃x:Nat × HL,H'=ap [] [x.2] /\ (u=vP x.1 0 /\ MemH x.1 ⟨cs,[],0⟩ k x.2)):=by
 refine Sp.run Tryz.func8 rfl (mc hq mn) (A:=[]) (Ts:=[]) rfl λ w0=>?_
 refine aq 24 [.mk cs.length cs.length] [(cs.length:Int)=((cs.length:Nat):Int) /\ (cs.length:Int)=((cs.length:Nat):Int) /\ cs.length <= cs.length /\ 8*cs.length <= 140737488355328 /\ 1=1 /\ cs.length <= 9223372036854775807] λ n1=>fS 1 (congrArg (λ v_=>(.rows 1 cs.length v_ 3 (0,0):Blk)) (show (lX [vI 0])=(bk (ul cs 0)) from (by rw[vk cs])))<|RN.loop (σ:=Nat) (λ i=>⟨[(0,vS q 0 cs.length cap),(3,vP (n1+1) 0),(11,vI (cs.length:Int)),(12,vI (i:Int))],[((n1+1),.lit [vS (n1+0) 0 cs.length cs.length,.slice none 0 0,vI 0] 89 (0,0)),((n1+0),.rows 1 cs.length (bk (ul cs i)) 3 (0,0))],[],i <= cs.length,cs.length-i⟩) 0 [0,1] [] (Nat.zero_le _) ?_
 rintro i Wi PK
 refine aa 6 [] λ _=>RN.em ((i:Int)<(cs.length:Int)) 13 (λ h4=>?_) λ h4=>?_
 ·refine aa 11 [] λ _=>RN.draw [10] []<|aL [] [0,4,5,6,1,7,2,8,3,9] [.ix i,.rorow 0 i 0,.own 0,.ix i] [(i:Int)=((i:Nat):Int) /\ i<cs.length,(0+i*1)=i*1+0 /\ i<cs.length,(i:Int)=((i:Nat):Int) /\ i<cs.length]<|RD.one 10 (bT [] [.row 1 i 0] [(0+i*1)=i*1+0 /\ i<cs.length] λ _=>?_)
  refine RD.fin<|aq 6 [.nw] [bF ((i:Int)+1)] λ _=>fS 1 (congrArg (λ v_=>(.rows 1 cs.length v_ 3 (0,0):Blk)) (show (cM (bk (ul cs i)) i 0 (vI (cs.getD i 0)))=(bk (ul cs (i+1))) from (by rw[<- vl (cs:=cs) (i:=i) (by omega)]))) ?_
  refine PK (i+1) [0,1] [] ?_
  try dsimp only
  exact⟨by omega,by omega⟩
 ·refine aa 12 [] λ _=>RN.ret [] [0,1] [] (v:=vP (n1+1) 0) (H':=[((n1+1),.lit [vS (n1+0) 0 cs.length cs.length,.slice none 0 0,vI 0] 89 (0,0)),((n1+0),.rows 1 cs.length (bk (ul cs i)) 3 (0,0))]) ?_
  have ei:i=cs.length:=by omega
  subst ei
  rw[zI]
  have YH:=MemH.mk (mb:=(n1+1)) (M:=⟨cs,[],0⟩) (k:=k) (n1+0) none 0 [] (SlIs.nil _ _) hc (show ([]:List (Int × Int)).length+k <= 100000000 by simpa using hk)
  exact⟨((n1+1),_),rfl,rfl,YH⟩
def aP(n PF:Int):Int:=(if n<0 then aV (0-aV (n+1)) else n).tmod PF
theorem fZ(n:Int)(PF:Int)(h0:PF≠0)(F:HL):Sp Tryz.prog 24 #[vI n,vI PF] [] F (λ u H'=>u=vI (aP n PF) /\ H'=[]):=by
 refine Sp.run Tryz.func24 rfl mn (A:=[]) (Ts:=[]) rfl λ w0=>?_
 refine aa 12 [] λ _=>RN.em (n<0) 6 (λ h1=>?_) λ h1=>?_
 ·refine pn 16 [.gen,.dv] (λ _=>[PF≠0]) (λ _=>(ac h0 an)) λ _=>RN.ret [] [] [] (v:=vI ((i64.wrap (0-(i64.wrap (n+1)))).tmod PF)) (H':=[]) ?_
  exact⟨by unfold aP;simp[*],rfl⟩
 ·refine pn 11 [.dv] (λ _=>[PF≠0]) (λ _=>(ac h0 an)) λ _=>RN.ret [] [] [] (v:=vI (n.tmod PF)) (H':=[]) ?_
  exact⟨by unfold aP;simp[*],rfl⟩
def pz(n:Int):Int:=aP n 1000
def nB(n:Int):Int:=aV (512*aV (1+(aV ((pz n).tdiv 7)).tmod 5))
def qS(r:Int):List V2:=[⟨aV (0-r),aV (0-r)⟩,⟨r,aV (0-r)⟩,⟨r,r⟩,⟨aV (0-r),r⟩]
def vn(r:Int):List V2:=[⟨aV (0-r),aV (0-r)⟩,⟨r,aV (0-r)⟩,⟨0,r⟩]
def vp(r:Int):List V2:=[⟨aV (-2*r),-300⟩,⟨aV (2*r),-300⟩,⟨aV (2*r),300⟩,⟨aV (-2*r),300⟩]
def c6(n:Int):Int × List V2:=if (pz n).tmod 7=0 then (nB n,[]) else if (pz n).tmod 7=1 then (nB n,[]) else if (pz n).tmod 7=2 then (nB n,[]) else if (pz n).tmod 7=3 then (0,qS (nB n)) else if (pz n).tmod 7=4 then (0,qS (nB n)) else if (pz n).tmod 7=5 then (0,vn (nB n)) else (0,vp (nB n))
def ShH(s:Shp)(T:HL):Prop:=∀F,(∀x∈T,x∈F) -> ShIn F s
theorem ShH.circle(r:Int)(A:Option Addr)(cap:Nat):ShH ⟨r,[],A,cap⟩ []:=λ F _=>.circle r A cap
theorem ShH.poly(r:Int)(l:List V2)(b cap:Nat)(h3:3 <= l.length)(h4:l.length <= cap)(h5:l.length <= 1000000):ShH ⟨r,l,some ⟨b,0,none⟩,cap⟩ [(b,.rows 2 cap (jh l) 29 (0,0))]:=λ F h=>.poly r l b cap (h _ (by simp)) h3 h4 h5
theorem vq(n:Int)(F:HL):Sp Tryz.prog 44 #[vI n] [] F (λ u H'=>∃x:Option Addr × Nat × HL,H'=ap [] [x.2.2] /\ (u=Mw ⟨(c6 n).1,(c6 n).2,x.1,x.2.1⟩ /\ ShH ⟨(c6 n).1,(c6 n).2,x.1,x.2.1⟩ x.2.2)):=by
 refine Sp.run Tryz.func44 rfl mn (A:=[]) (Ts:=[]) rfl λ w0=>?_
 refine aa 8 [] λ n1=>al (fZ n 1000 (by decide) _)<|aa 28 [] λ _=>RN.em ((pz n).tmod 7=0) 14 (λ h2=>?_) λ h2=>?_
 ·refine aa 11 [.own 0,.own 0] λ _=>RN.ret [.own 0,.own 0] [] [] (v:=.agg #[vI (i64.wrap (512*(i64.wrap (1+((i64.wrap ((pz n).tdiv 7)).tmod 5))))),.slice none 0 0]) (H':=[]) ?_
  have e:c6 n=(nB n,[]):=by simp only[c6,if_pos h2]
  rw[e]
  exact⟨(none,0,[]),rfl,rfl,ShH.circle _ _ _⟩
 ·refine aa 7 [] λ _=>RN.em ((pz n).tmod 7=1) 14 (λ h3=>?_) λ h3=>?_
  ·refine aa 11 [.own 0,.own 0] λ _=>RN.ret [.own 0,.own 0] [] [] (v:=.agg #[vI (i64.wrap (512*(i64.wrap (1+((i64.wrap ((pz n).tdiv 7)).tmod 5))))),.slice none 0 0]) (H':=[]) ?_
   have e:c6 n=(nB n,[]):=by simp only[c6,if_neg h2,if_pos h3]
   rw[e]
   exact⟨(none,0,[]),rfl,rfl,ShH.circle _ _ _⟩
  ·refine aa 6 [] λ _=>RN.em ((pz n).tmod 7=2) 14 (λ h4=>?_) λ h4=>?_
   ·refine aa 8 [.own 0,.own 0] λ _=>RN.ret [.own 0,.own 0] [] [] (v:=.agg #[vI (i64.wrap (512*(i64.wrap (1+((i64.wrap ((pz n).tdiv 7)).tmod 5))))),.slice none 0 0]) (H':=[]) ?_
    have e:c6 n=(nB n,[]):=by simp only[c6,if_neg h2,if_neg h3,if_pos h4]
    rw[e]
    exact⟨(none,0,[]),rfl,rfl,ShH.circle _ _ _⟩
   ·refine aa 8 [] λ _=>RN.em ((pz n).tmod 7=3) 20 (λ h5=>?_) λ h5=>?_
    ·refine aa 27 [.own 1,.own 1] λ n6=>RN.dn 0 (.rows 2 4 (jh (qS (nB n))) 29 (0,0))<|RN.ret [.own 1,.own 1] [0] [] (v:=.agg #[vI 0,vS (n6+0) 0 4 4]) (H':=[((n6+0),.rows 2 4 (jh (qS (nB n))) 29 (0,0))]) ?_
     have e:c6 n=(0,qS (nB n)):=by simp only[c6,if_neg h2,if_neg h3,if_neg h4,if_pos h5]
     rw[e]
     exact⟨(some ⟨(n6+0),0,none⟩,4,_),rfl,rfl,ShH.poly 0 (qS (nB n)) (n6+0) 4 (Nat.le_of_ble_eq_true rfl) (Nat.le_of_ble_eq_true rfl) (Nat.le_of_ble_eq_true rfl)⟩
    ·refine aa 6 [] λ _=>RN.em ((pz n).tmod 7=4) 20 (λ h7=>?_) λ h7=>?_
     ·refine aa 24 [.own 1,.own 1] λ n8=>RN.dn 0 (.rows 2 4 (jh (qS (nB n))) 29 (0,0))<|RN.ret [.own 1,.own 1] [0] [] (v:=.agg #[vI 0,vS (n8+0) 0 4 4]) (H':=[((n8+0),.rows 2 4 (jh (qS (nB n))) 29 (0,0))]) ?_
      have e:c6 n=(0,qS (nB n)):=by simp only[c6,if_neg h2,if_neg h3,if_neg h4,if_neg h5,if_pos h7]
      rw[e]
      exact⟨(some ⟨(n8+0),0,none⟩,4,_),rfl,rfl,ShH.poly 0 (qS (nB n)) (n8+0) 4 (Nat.le_of_ble_eq_true rfl) (Nat.le_of_ble_eq_true rfl) (Nat.le_of_ble_eq_true rfl)⟩
     ·refine aa 7 [] λ _=>RN.em ((pz n).tmod 7=5) 41 (λ h9=>?_) λ h9=>?_
      ·refine aa 19 [.own 1,.own 1] λ Qw=>RN.dn 0 (.rows 2 3 (jh (vn (nB n))) 29 (0,0))<|RN.ret [.own 1,.own 1] [0] [] (v:=.agg #[vI 0,vS (Qw+0) 0 3 3]) (H':=[((Qw+0),.rows 2 3 (jh (vn (nB n))) 29 (0,0))]) ?_
       have e:c6 n=(0,vn (nB n)):=by simp only[c6,if_neg h2,if_neg h3,if_neg h4,if_neg h5,if_neg h7,if_pos h9]
       rw[e]
       exact⟨(some ⟨(Qw+0),0,none⟩,3,_),rfl,rfl,ShH.poly 0 (vn (nB n)) (Qw+0) 3 (Nat.le_of_ble_eq_true rfl) (Nat.le_of_ble_eq_true rfl) (Nat.le_of_ble_eq_true rfl)⟩
      ·refine aa 23 [.own 1,.own 1] λ n11=>RN.dn 0 (.rows 2 4 (jh (vp (nB n))) 29 (0,0))<|RN.ret [.own 1,.own 1] [0] [] (v:=.agg #[vI 0,vS (n11+0) 0 4 4]) (H':=[((n11+0),.rows 2 4 (jh (vp (nB n))) 29 (0,0))]) ?_
       have e:c6 n=(0,vp (nB n)):=by simp only[c6,if_neg h2,if_neg h3,if_neg h4,if_neg h5,if_neg h7,if_neg h9]
       rw[e]
       exact⟨(some ⟨(n11+0),0,none⟩,4,_),rfl,rfl,ShH.poly 0 (vp (nB n)) (n11+0) 4 (Nat.le_of_ble_eq_true rfl) (Nat.le_of_ble_eq_true rfl) (Nat.le_of_ble_eq_true rfl)⟩
theorem lj{S:Setup}(h:SetN S){i:Nat}(hi:i<S.nb):0 <= ae S i /\ ae S i+8 <= sizeOf S /\ sizeOf S <= 20000000:=by
 have:=h.pl
 have:=h.nb
 unfold ae sizeOf
 rw[if_neg (by omega),if_neg (by omega)]
 omega
theorem nC{S:Setup}(h:SetN S):48 <= sizeOf S /\ sizeOf S <= 20000000:=by
 have:=h.pl
 have:=h.nb
 unfold sizeOf
 omega
def d7(S:Setup):Nat -> List Int
 | 0=>List.replicate (sizeOf S).toNat 0
 | i+1=>((((((d7 S i).set (ae S i).toNat (S.body i).mot.px).set (ae S i+1).toNat (S.body i).mot.py).set (ae S i+2).toNat (S.body i).mot.vx).set (ae S i+3).toNat (S.body i).mot.vy).set (ae S i+4).toNat (S.body i).a).set (ae S i+5).toNat (S.body i).b
theorem ii(S:Setup):∀i,(d7 S i).length=(sizeOf S).toNat
 | 0=>by simp[d7]
 | i+1=>by simp[d7,ii S i]
theorem B3{S:Setup}(h:SetN S){i:Nat}(hi:i<S.nb):cM (cM (cM (cM (cM (cM (bk (d7 S i)) (ae S i).toNat 0 (vI (S.body i).mot.px)) (ae S i+1).toNat 0 (vI (S.body i).mot.py)) (ae S i+2).toNat 0 (vI (S.body i).mot.vx)) (ae S i+3).toNat 0 (vI (S.body i).mot.vy)) (ae S i+4).toNat 0 (vI (S.body i).a)) (ae S i+5).toNat 0 (vI (S.body i).b)=bk (d7 S (i+1)):=by
 have:=lj h hi
 rw[eV,eV,eV,eV,eV,eV,d7] <;> (simp only[List.length_set,ii];omega)
open Go.Shelf
section
variable {r:Option Nat} {P:Program} {N:Nat} {D:List Deferred} {F:HL} {w0:World} {R:HL} {s:Cfg} {Q:Exit -> Act -> World -> Prop}
variable {α:Type} {e:Enc α} {T:TypeId} {inf:TypeInfo} {z:Value}
def EG(P:Program)(N j:Nat)(oo:Option Oper)(s:Cfg):Option (Option Addr × Nat × Nat × TypeId × Option Addr × Nat × Nat × TypeId × HL):=match oo with
 | some o=>match HI P o s.L,s.Ts[j]?,([j]++oth [j] s.Ts.length).isPerm (List.range s.Ts.length) && (fG N o.dst undef s.L).isSome with
  | some (A,n,cap,T,B,m,c',tx),some Hl,true=>some (A,n,cap,T,B,m,c',tx,Hl)
  | _,_,_=>none
 | none=>none
theorem xX{j:Nat}{oo:Option Oper}{A:Option Addr}{n cap m c':Nat}{B:Option Addr}{tx:TypeId}{Hl:HL}(h:EG P N j oo s=some (A,n,cap,T,B,m,c',tx,Hl)) :
  ∃o a1 a2 t e',oo=some o /\ o.guard=none /\ o.op=.call { callee:=.builtin .append,args:=#[a1,a2],argTypes:=#[t,tx] } /\ (nX s.L a1 && nX s.L a2)=true /\ jJ s.L a1=.slice A n cap /\ jJ s.L a2=.slice B m c' /\ P.underlying t=some (.slice T) /\ P.underlying tx=some (.slice e') /\
   s.Ts[j]?=some Hl /\ ([j]++oth [j] s.Ts.length).isPerm (List.range s.Ts.length)=true /\ (fG N o.dst undef s.L).isSome=true:=by
 unfold EG at h
 split at h
 case h_2=>cases h
 rename_i o
 split at h
 case h_2=>cases h
 rename_i A' n' g_ T' B' m' c2 tx' K_ h1 h3 h4
 simp only[Option.some.injEq,Prod.mk.injEq] at h
 obtain⟨e1,e2,e3,e4,e5,e6,e7,e8,e9⟩:=h
 subst e1;subst e2;subst e3;subst e4;subst e5;subst e6;subst e7;subst e8;subst e9
 obtain⟨a1,a2,t,e',q1,q2,q3,q4,q5,q6,q7⟩:=rF h1
 rw[Bool.and_eq_true] at h4
 exact⟨o,a1,a2,t,e',rfl,q1,q2,q3,q4,q5,q6,q7,h3,h4.1,h4.2⟩
end
end Go.Proofs.YthoijjeddhfcnaaGreatDoor
