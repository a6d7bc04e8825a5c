import Derived.Test.YtghjbimijeinfaaGreatDoorY16
import Derived.Test.YtghjbimijeinfaaGreatDoorY07
set_option maxHeartbeats 4000000
set_option maxRecDepth 100000
set_option linter.unusedSimpArgs false
set_option linter.unusedVariables false
namespace Go.Proofs.YtghjbimijeinfaaGreatDoor
open Go.RowKit
def MemS.sh (M:MemS) (l:List (Int × Int)) (b:Int):MemS:=⟨M.cs,l++M.lg,b⟩
def VR.sh (r:VR) (l:List (Int × Int)) (b:Int):VR:={ r with M:=r.M.sh l b }
theorem aS (M:MemS) (l:List (Int × Int)) (b i:Int):(M.sh l b).get i=M.get i:=rfl
theorem aU (M:MemS) (l:List (Int × Int)) (b i v:Int):(M.sh l b).set i v=(M.set i v).sh l b:=by
 unfold MemS.set MemS.sh
 dsimp only
 split
 ·simp
 ·rfl
theorem aX (M N:MemS) (l:List (Int × Int)) (b:Int) (c:Prop) [Decidable c]:(if c then M.sh l b else N.sh l b)=(if c then M else N).sh l b:=by split <;> rfl
theorem aH (M N:VR) (l:List (Int × Int)) (b:Int) (c:Prop) [Decidable c]:(if c then M.sh l b else N.sh l b)=(if c then M else N).sh l b:=by split <;> rfl
theorem aV (M:MemS) (l:List (Int × Int)) (b v:Int) (e:Eff) (em:Bool):(⟨M.sh l b,v,e,em⟩:VR)=VR.sh ⟨M,v,e,em⟩ l b:=rfl
theorem az (code:List Ins) (M:MemS) (l:List (Int × Int)) (b:Int):aZ code (M.sh l b)=aZ code M:=rfl
theorem bL (r:VR) (l:List (Int × Int)) (b:Int):(r.sh l b).z=r.z.sh l b:=rfl
theorem bz (r:VR) (l:List (Int × Int)) (b:Int):(r.sh l b).M=r.M.sh l b:=rfl
theorem bO (r:VR) (l:List (Int × Int)) (b:Int):(r.sh l b).v=r.v:=rfl
theorem bG (r:VR) (l:List (Int × Int)) (b:Int):(r.sh l b).e=r.e:=rfl
theorem aW (r:VR) (l:List (Int × Int)) (b:Int):(r.sh l b).em=r.em:=rfl
theorem mY (S:Setup) (M:MemS) (k:Int) (l_:List (Int × Int)) (b_:Int):aq S (M.sh l_ b_) k=aq S M k:=by
 unfold aq
 simp only [aS,aU,aX,aH,aV,bz,bO,bG,aW,az,bL] <;> rfl
theorem fY (t:Stp) (ph j:Int) (M:MemS) (l_:List (Int × Int)) (b_:Int):aM t ph j (M.sh l_ b_)=(aM t ph j M).sh l_ b_:=by
 unfold aM
 simp only [aS,aU,aX,aH,aV,bz,bO,bG,aW,az,bL] <;> rfl
theorem xP (t:Stp) (k:Int) (m:Mot) (M:MemS) (l_:List (Int × Int)) (b_:Int):dD t k m (M.sh l_ b_)=(dD t k m M).sh l_ b_:=by
 unfold dD
 simp only [aS,aU,aX,aH,aV,bz,bO,bG,aW,az,bL] <;> rfl
theorem BH (t:Stp) (c sp pos lo hi:Int) (M:MemS) (l_:List (Int × Int)) (b_:Int):dU t c sp pos lo hi (M.sh l_ b_)=(dU t c sp pos lo hi M).sh l_ b_:=by
 unfold dU
 simp only [aS,aU,aX,aH,aV,bz,bO,bG,aW,az,bL] <;> rfl
theorem BI (t:Stp) (M:MemS) (l_:List (Int × Int)) (b_:Int):bd t (M.sh l_ b_)=(bd t M).sh l_ b_:=by
 unfold bd
 simp only [aS,aU,aX,aH,aV,bz,bO,bG,aW,az,bL] <;> rfl
theorem BJ (t:Stp) (M:MemS) (l_:List (Int × Int)) (b_:Int):bq t (M.sh l_ b_)=(bq t M).sh l_ b_:=by
 unfold bq
 simp only [aS,aU,aX,aH,aV,bz,bO,bG,aW,az,bL] <;> rfl
theorem BK (t:Stp) (M:MemS) (l_:List (Int × Int)) (b_:Int):bU t (M.sh l_ b_)=(bU t M).sh l_ b_:=by
 unfold bU
 simp only [aS,aU,aX,aH,aV,bz,bO,bG,aW,az,bL,fY] <;> rfl
theorem BL (t:Stp) (M:MemS) (l_:List (Int × Int)) (b_:Int):aP t (M.sh l_ b_)=(aP t M).sh l_ b_:=by
 unfold aP
 simp only [aS,aU,aX,aH,aV,bz,bO,bG,aW,az,bL,BI,BJ,BK] <;> rfl
theorem DQ (t:Stp) (M:MemS) (l_:List (Int × Int)) (b_:Int):fU t (M.sh l_ b_)=(fU t M).sh l_ b_:=by
 unfold fU
 simp only [aS,aU,aX,aH,aV,bz,bO,bG,aW,az,bL] <;> rfl
theorem su (M:MemS) (l_:List (Int × Int)) (b_:Int):∀ n,cE (M.sh l_ b_) n=(cE M n).sh l_ b_
 | 0=>rfl
 | n+1=>by rw [cE,cE,su M l_ b_ n,aU]
theorem DS (t:Stp) (M:MemS) (l_:List (Int × Int)) (b_:Int):gK t (M.sh l_ b_)=(gK t M).sh l_ b_:=by
 unfold gK
 simp only [aS,aU,aX,aH,aV,bz,bO,bG,aW,az,bL,su] <;> rfl
theorem DT (t:Stp) (M:MemS) (l_:List (Int × Int)) (b_:Int):dp t (M.sh l_ b_)=(dp t M).sh l_ b_:=by
 unfold dp
 simp only [aS,aU,aX,aH,aV,bz,bO,bG,aW,az,bL,DQ,DS] <;> rfl
theorem BM (t:Stp) (M:MemS) (l_:List (Int × Int)) (b_:Int):bV t (M.sh l_ b_)=bV t M:=by
 unfold bV
 simp only [aS,aU,aX,aH,aV,bz,bO,bG,aW,az,bL,mY] <;> rfl
theorem BN (t:Stp) (M:MemS) (l_:List (Int × Int)) (b_:Int):bE t (M.sh l_ b_)=(bE t M).sh l_ b_:=by
 unfold bE
 simp only [aS,aU,aX,aH,aV,bz,bO,bG,aW,az,bL] <;> rfl
theorem BO (t:Stp) (M:MemS) (l_:List (Int × Int)) (b_:Int):bI t (M.sh l_ b_)=(bI t M).sh l_ b_:=by
 unfold bI
 simp only [aS,aU,aX,aH,aV,bz,bO,bG,aW,az,bL,BM] <;> rfl
theorem BP (t:Stp) (M:MemS) (l_:List (Int × Int)) (b_:Int):bW t (M.sh l_ b_)=(bW t M).sh l_ b_:=by
 unfold bW
 simp only [aS,aU,aX,aH,aV,bz,bO,bG,aW,az,bL,fY] <;> rfl
theorem BQ (t:Stp) (M:MemS) (l_:List (Int × Int)) (b_:Int):aQ t (M.sh l_ b_)=(aQ t M).sh l_ b_:=by
 unfold aQ
 simp only [aS,aU,aX,aH,aV,bz,bO,bG,aW,az,bL,BN,BO,BP] <;> rfl
theorem xQ (M:MemS) (l_:List (Int × Int)) (b_:Int):lh (M.sh l_ b_)=lh M:=by
 unfold lh
 simp only [aS,aU,aX,aH,aV,bz,bO,bG,aW,az,bL] <;> rfl
theorem xR (t:Stp) (M:MemS) (l_:List (Int × Int)) (b_:Int):gc t (M.sh l_ b_)=gc t M:=by
 unfold gc
 simp only [aS,aU,aX,aH,aV,bz,bO,bG,aW,az,bL,mY,xQ] <;> rfl
theorem xS (t:Stp) (M:MemS) (l_:List (Int × Int)) (b_:Int):cZ t (M.sh l_ b_)=(cZ t M).sh l_ b_:=by
 unfold cZ
 simp only [aS,aU,aX,aH,aV,bz,bO,bG,aW,az,bL,BH,xR] <;> rfl
theorem DU (k v:Int) (M:MemS) (l_:List (Int × Int)) (b_:Int):cH k v (M.sh l_ b_)=(cH k v M).sh l_ b_:=by
 unfold cH
 simp only [aS,aU,aX,aH,aV,bz,bO,bG,aW,az,bL] <;> rfl
theorem DV (S:Setup) (op n a b:Int) (M:MemS) (l_:List (Int × Int)) (b_:Int):aD S op n a b (M.sh l_ b_)=(aD S op n a b M).sh l_ b_:=by
 unfold aD
 simp only [aS,aU,aX,aH,aV,bz,bO,bG,aW,az,bL,DU] <;> rfl
theorem HC (op sp:Int) (M:MemS) (l_:List (Int × Int)) (b_:Int):dP op sp (M.sh l_ b_)=dP op sp M:=by
 unfold dP
 simp only [aS,aU,aX,aH,aV,bz,bO,bG,aW,az,bL] <;> rfl
theorem HD (op sp:Int) (M:MemS) (l_:List (Int × Int)) (b_:Int):dQ op sp (M.sh l_ b_)=dQ op sp M:=by
 unfold dQ
 simp only [aS,aU,aX,aH,aV,bz,bO,bG,aW,az,bL] <;> rfl
theorem HE (op sp pc fuel:Int) (M:MemS) (l_:List (Int × Int)) (b_:Int):du op sp pc fuel (M.sh l_ b_)=(du op sp pc fuel M).sh l_ b_:=by
 unfold du
 simp only [aS,aU,aX,aH,aV,bz,bO,bG,aW,az,bL] <;> rfl
theorem DW (S:Setup) (op n sp pc fuel:Int) (M:MemS) (l_:List (Int × Int)) (b_:Int):bQ S op n sp pc fuel (M.sh l_ b_)=(bQ S op n sp pc fuel M).sh l_ b_:=by
 unfold bQ
 simp only [aS,aU,aX,aH,aV,bz,bO,bG,aW,az,bL,DV,HC,HD,HE] <;> rfl
theorem vz (code:List Ins) (n:Nat) (M:MemS) (l_:List (Int × Int)) (b_:Int):(dK code n (M.sh l_ b_))=(dK code n M):=by
 unfold dK
 simp only [aS,aU,aX,aH,aV,bz,bO,bG,aW,az,bL] <;> rfl
theorem DX (op sp:Int) (r:VR) (l_:List (Int × Int)) (b_:Int):cg op sp (r.sh l_ b_)=(cg op sp r).sh l_ b_:=by
 unfold cg
 simp only [aS,aU,aX,aH,aV,bz,bO,bG,aW,az,bL] <;> rfl
theorem DY (S:Setup) (code:List Ins) (n:Nat) (M:MemS) (l_:List (Int × Int)) (b_:Int):ak S code n (M.sh l_ b_)=(ak S code n M).sh l_ b_:=by
 unfold ak
 simp only [aS,aU,aX,aH,aV,bz,bO,bG,aW,az,bL,DW,vz,DX] <;> rfl
theorem HF (code:List Ins) (n:Nat) (M:MemS) (l_:List (Int × Int)) (b_:Int):bg code n (M.sh l_ b_)=bg code n M:=by
 unfold bg
 simp only [aS,aU,aX,aH,aV,bz,bO,bG,aW,az,bL,vz] <;> rfl
theorem BR (e fuel self other:Int) (M:MemS) (l_:List (Int × Int)) (b_:Int):aN e fuel self other (M.sh l_ b_)=(aN e fuel self other M).sh l_ b_:=by
 unfold aN
 simp only [aS,aU,aX,aH,aV,bz,bO,bG,aW,az,bL] <;> rfl
theorem tW (e:Int) (t:Stp) (self other:Int) (M:MemS) (l_:List (Int × Int)) (b_:Int):eC e t self other (M.sh l_ b_)=(eC e t self other M).sh l_ b_:=by
 unfold eC
 simp only [aS,aU,aX,aH,aV,bz,bO,bG,aW,az,bL,DY,BR] <;> rfl
theorem tX (e:Int) (t:Stp) (self other:Int) (M:MemS) (l_:List (Int × Int)) (b_:Int):de e t self other (M.sh l_ b_)=de e t self other M:=by
 unfold de
 simp only [aS,aU,aX,aH,aV,bz,bO,bG,aW,az,bL,HF] <;> rfl
theorem vA (r:VR) (over:Bool) (t:Stp) (cause:Bool) (M:MemS) (l_:List (Int × Int)) (b_:Int):dq (r.sh l_ b_) over t cause (M.sh l_ b_)=(dq r over t cause M).sh l_ b_:=by
 unfold dq
 simp only [aS,aU,aX,aH,aV,bz,bO,bG,aW,az,bL] <;> rfl
theorem DZ (t:Stp) (o:Int) (c:Bool) (M:MemS) (l_:List (Int × Int)) (b_:Int):cJ t o c (M.sh l_ b_)=(cJ t o c M).sh l_ b_:=by
 unfold cJ bX jc
 rw [tW,tX,vA]
theorem D1 (t:Stp) (o:Int) (c:Bool) (M:MemS) (l_:List (Int × Int)) (b_:Int):cK t o c (M.sh l_ b_)=(cK t o c M).sh l_ b_:=by
 unfold cK bZ jd
 rw [tW,tX,vA]
theorem HG (t:Stp) (M:MemS) (l_:List (Int × Int)) (b_:Int):eU t (M.sh l_ b_)=(eU t M).sh l_ b_:=by
 unfold eU
 simp only [aS,aU,aX,aH,aV,bz,bO,bG,aW,az,bL,fY,DZ] <;> rfl
theorem D2 (t:Stp) (M:MemS) (l_:List (Int × Int)) (b_:Int):cS t (M.sh l_ b_)=(cS t M).sh l_ b_:=by
 unfold cS
 simp only [aS,aU,aX,aH,aV,bz,bO,bG,aW,az,bL,fY,tW,tX] <;> rfl
theorem zK (t:Stp) (M:MemS) (l_:List (Int × Int)) (b_:Int):ry t (M.sh l_ b_)=ry t M:=by
 unfold ry
 simp only [aS,aU,aX,aH,aV,bz,bO,bG,aW,az,bL,mY] <;> rfl
theorem HH (t:Stp) (M:MemS) (l_:List (Int × Int)) (b_:Int):vh t (M.sh l_ b_)=vh t M:=by
 unfold vh
 simp only [aS,aU,aX,aH,aV,bz,bO,bG,aW,az,bL,mY,zK] <;> rfl
theorem vB (t:Stp) (M:MemS) (l_:List (Int × Int)) (b_:Int):gt t (M.sh l_ b_)=(gt t M).sh l_ b_:=by
 unfold gt
 simp only [aS,aU,aX,aH,aV,bz,bO,bG,aW,az,bL,xP,HH] <;> rfl
theorem BS (t:Stp) (M:MemS) (l_:List (Int × Int)) (b_:Int):dH t (M.sh l_ b_)=(dH t M).sh l_ b_:=by
 unfold dH
 simp only [aS,aU,aX,aH,aV,bz,bO,bG,aW,az,bL,zK,vB] <;> rfl
theorem HI (t:Stp) (M:MemS) (l_:List (Int × Int)) (b_:Int):rz t (M.sh l_ b_)=rz t M:=by
 unfold rz
 simp only [aS,aU,aX,aH,aV,bz,bO,bG,aW,az,bL,mY] <;> rfl
theorem D3 (t:Stp) (M:MemS) (l_:List (Int × Int)) (b_:Int):eL t (M.sh l_ b_)=(eL t M).sh l_ b_:=by
 unfold eL
 simp only [aS,aU,aX,aH,aV,bz,bO,bG,aW,az,bL,HI] <;> rfl
theorem D4 (t:Stp) (M:MemS) (l_:List (Int × Int)) (b_:Int):fH t (M.sh l_ b_)=(fH t M).sh l_ b_:=by
 unfold fH
 simp only [aS,aU,aX,aH,aV,bz,bO,bG,aW,az,bL,fY] <;> rfl
theorem D5 (t:Stp) (M:MemS) (l_:List (Int × Int)) (b_:Int):dM t (M.sh l_ b_)=(dM t M).sh l_ b_:=by
 unfold dM
 simp only [aS,aU,aX,aH,aV,bz,bO,bG,aW,az,bL,xS,D3,D4] <;> rfl
theorem vC (t:Stp) (M:MemS) (l_:List (Int × Int)) (b_:Int):bK t (M.sh l_ b_)=(bK t M).sh l_ b_:=by
 unfold bK
 simp only [aS,aU,aX,aH,aV,bz,bO,bG,aW,az,bL,fY,BS] <;> rfl
theorem HJ (t:Stp) (M:MemS) (l_:List (Int × Int)) (b_:Int):eV t (M.sh l_ b_)=(eV t M).sh l_ b_:=by
 unfold eV
 simp only [aS,aU,aX,aH,aV,bz,bO,bG,aW,az,bL,fY,D1] <;> rfl
theorem HK (g:Gm) (M:MemS) (l:List (Int × Int)) (b:Int):g.step (M.sh l b)=g.step M:=rfl
theorem tY (g:Gm) (M:MemS) (l:List (Int × Int)) (b:Int):eD g (M.sh l b)=(eD g M).sh l b:=by
 unfold eD
 simp only [HK,aS,BL,HG,D2,BQ,vC,D5,HJ,DT,aV,aH]
theorem D6 (g:Gm) (M:MemS) (l:List (Int × Int)) (b:Int):gM g (M.sh l b)=gM g M:=rfl
theorem zL (g:Gm) (l:List (Int × Int)) (b:Int):∀ (n:Nat) (M:MemS),fI g n (M.sh l b)=(fI g n M).sh l b
 | 0,_=>rfl
 | n+1,M=>by rw [fI,fI,fO,fO,tY,bz];exact zL g l b n _
theorem vD (g:Gm) (l:List (Int × Int)) (b:Int):∀ (n:Nat) (M:MemS),dt g n (M.sh l b)=dt g n M
 | 0,_=>rfl
 | n+1,M=>by rw [dt,dt,fO,fO,tY,bz,bG,aW,vD g l b n]
def vE (g:Gm):Nat -> MemS -> Nat
 | 0,_=>0
 | f+1,M=>if gM g M=true then 0 else vE g f (fO g M)+1
theorem D7 {g:Gm}:∀ (m f:Nat) (M:MemS),dE g (m+1) M -> m < f -> vE g f M=m
 | m,0,M,_,h=>by omega
 | 0,f+1,M,h,_=>by
  rcases h.2 with ⟨_,e⟩ | ⟨_,e⟩
  ·rw [vE,if_pos e]
  ·exact e.elim
 | m+1,f+1,M,h,hf=>by
  rcases h.2 with ⟨e,_⟩ | ⟨e1,e2⟩
  ·omega
  ·rw [vE,if_neg (by rw [e1];simp),D7 m f _ e2 (by omega)]
def lJ (g:Gm) (M:MemS):MemS:=fI g (vE g 1000 M+1) M
def rB (g:Gm) (M:MemS):List Eff:=dt g (vE g 1000 M+1) M
theorem xT {g g':Gm} (h:GEq g g'):∀ (f:Nat) (M:MemS),vE g f M=vE g' f M
 | 0,_=>rfl
 | f+1,M=>by rw [vE,vE,xO h,fO,fO,nJ h,xT h f]
theorem KA {g g':Gm} (h:GEq g g') (M:MemS):lJ g M=lJ g' M:=by rw [lJ,lJ,xT h,zJ h]
theorem KB {g g':Gm} (h:GEq g g') (M:MemS):rB g M=rB g' M:=by rw [rB,rB,xT h,vw h]
theorem xU (g:Gm) (l:List (Int × Int)) (b:Int):∀ (f:Nat) (M:MemS),vE g f (M.sh l b)=vE g f M
 | 0,_=>rfl
 | f+1,M=>by rw [vE,vE,D6,fO,fO,tY,bz,xU g l b f]
theorem xV (g:Gm) (M:MemS) (l:List (Int × Int)) (b:Int):lJ g (M.sh l b)=(lJ g M).sh l b:=by rw [lJ,lJ,xU,zL]
theorem D8 (g:Gm) (M:MemS) (l:List (Int × Int)) (b:Int):rB g (M.sh l b)=rB g M:=by rw [rB,rB,xU,vD]
theorem mf (M:MemS):(MemS.sh ⟨M.cs,[],0⟩ M.lg M.base)=M:=by cases M;simp [MemS.sh]
theorem D9 (g:Gm) {M N:MemS} (h:M.cs=N.cs):(lJ g M).cs=(lJ g N).cs:=by
 rw [<- mf M,<- mf N,xV,xV,h];rfl
theorem tZ (g:Gm) {M N:MemS} (h:M.cs=N.cs):rB g M=rB g N:=by
 rw [<- mf M,<- mf N,D8,D8,h]
def iz (g:Gm):Nat -> MemS -> List (Eff × Bool)
 | 0,_=>[]
 | n+1,M=>((eD g M).e,(eD g M).em) :: iz g n (fO g M)
theorem iA (g:Gm):∀ (n:Nat) (M:MemS),(iz g n M).length=n
 | 0,_=>rfl
 | n+1,M=>by rw [iz,List.length_cons,iA g n]
def lK:List (Eff × Bool) -> List Eff
 | []=>[]
 | x :: l=>(if x.2=true then [x.1] else [])++lK l
theorem vF (g:Gm):∀ (n:Nat) (M:MemS),lK (iz g n M)=dt g n M
 | 0,_=>rfl
 | n+1,M=>by rw [iz,lK,vF g n,dt]
theorem pZ:∀ (l m:List (Eff × Bool)),lK (l++m)=lK l++lK m
 | [],m=>rfl
 | x :: l,m=>by rw [List.cons_append,lK,lK,pZ l m,List.append_assoc]
theorem vG:∀ (l:List (Eff × Bool)),(lK l).length <= l.length
 | []=>Nat.le_refl _
 | x :: l=>by
  have:=vG l
  rw [lK,List.length_append,List.length_cons]
  split
  ·simp;omega
  ·simp;omega
theorem Ea {l:List (Eff × Bool)} {i:Nat} {x:Eff × Bool} (h:l[i]?=some x) (e:x.2=true):lK (l.take (i+1))=lK (l.take i)++[x.1]:=by
 rw [List.take_add_one,h,pZ]
 show _++((if x.2=true then [x.1] else [])++[])=_
 rw [if_pos e];rfl
theorem HM {l:List (Eff × Bool)} {i:Nat} {x:Eff × Bool} (h:l[i]?=some x) (e:¬ x.2=true):lK (l.take (i+1))=lK (l.take i):=by
 rw [List.take_add_one,h,pZ]
 show _++((if x.2=true then [x.1] else [])++[])=_
 rw [if_neg e];simp
theorem gu {g:Gm} {l:List (Eff × Bool)} {i r:Nat} {M:MemS} (h:l.drop i=iz g (r+1) M):l[i]?=some ((eD g M).e,(eD g M).em) /\ l.drop (i+1)=iz g r (fO g M):=by
 constructor
 ·have:=congrArg (·[0]?) h
  simpa [iz] using this
 ·have:=congrArg List.tail h
  rwa [List.tail_drop] at this
def uy (cs:List Int) (i:Nat):List Int:=cs.take i++List.replicate (cs.length - i) 0
theorem sw (n:Nat):oV [vI 0]=aL (List.replicate n 0):=by
 funext i k
 rcases k with _ | k
 ·have:(List.replicate n (0:Int)).getD i 0=0:=by
   rw [List.getD_eq_getElem?_getD,List.getElem?_replicate];split <;> rfl
  show vI 0=vI _
  rw [this]
 ·simp [oV,aL]
theorem vH (cs:List Int):oV [vI 0]=aL (uy cs 0):=by rw [sw cs.length];simp [uy]
theorem zM (cs:List Int):uy cs cs.length=cs:=by simp [uy]
theorem vJ {cs:List Int} {i:Nat} (h:i < cs.length):dN (aL (uy cs i)) i 0 (vI (cs.getD i 0))=aL (uy cs (i+1)):=by
 rw [gj (by simp [uy];omega)]
 congr 1
 unfold uy
 rw [List.set_append_right _ _ (by simp;omega)]
 have e:cs.length - i=(cs.length - (i+1))+1:=by omega
 rw [e,List.replicate_succ,List.take_succ_eq_append_getElem h,List.append_assoc]
 simp [List.length_take,Nat.min_eq_left (Nat.le_of_lt h),h]
theorem MemH.len {mb:Nat} {M:MemS} {k:Nat} {T:HL} (h:MemH mb M k T):M.cs.length <= 1000000:=by
 cases h with
 | mk cb A cap Hl hs hc hl=>exact hc
theorem HN (mb cb n:Nat) (A:Option Addr) (m cap:Nat) (base:Int) (F:HL) (hm:(mb,.lit [vS cb 0 n n,.slice A m cap,vI base] 119 (0,0)) ∈ F):Sp Tryz.prog 40 #[vP mb 0] [] F (λ u H'=>u=vI (n:Int) /\ H'=[]):=by
 refine Sp.run Tryz.func40 rfl (mc hm mn) (A:=[]) (Ts:=[]) rfl λ w0=>?_
 refine ae 15 [.ro 0] λ _=>?_
 exact RN.ret [] [] [] ⟨rfl,rfl⟩
theorem zN {mb:Nat} {M:MemS} {k:Nat} {T:HL} {F:HL} (h:MemH mb M k T) (hs:∀ x ∈ T,x ∈ F):Sp Tryz.prog 40 #[vP mb 0] [] F (λ u H'=>u=vI (M.cs.length:Int) /\ H'=[]):=by
 cases h with
 | mk cb A cap Hl hsl hc hl=>exact HN mb cb M.cs.length A M.lg.length cap M.base F (hs _ (by simp))
theorem HO {M:MemS} {i:Nat} (h:i < M.cs.length):M.get (i:Int)=M.cs.getD i 0:=by
 unfold MemS.get
 rw [if_pos (by omega),Int.toNat_natCast]
theorem BT (mb:Nat) (M:MemS) (k:Nat) (T F:HL) (hM:MemH mb M k T) (hT:∀ x ∈ T,x ∈ F):Sp Tryz.prog 13 #[vP mb 0] [] F (λ u H'=>∃ q,H'=ap [(q,.rows 1 M.cs.length (aL M.cs) 3 (0,0))] [] /\ u=vS q 0 M.cs.length M.cs.length):=by
 have hl:=hM.len
 refine Sp.run Tryz.func13 rfl mn (A:=[]) (Ts:=[]) rfl λ w0=>?_
 refine ae 8 [] λ _=>aj (zN hM (λ x hx=>List.mem_append_right _ (hT x hx)))<|al 8 [.mk M.cs.length M.cs.length] [(M.cs.length:Int)=((M.cs.length:Nat):Int) /\ (M.cs.length:Int)=((M.cs.length:Nat):Int) /\ M.cs.length <= M.cs.length /\ 8 * M.cs.length <= 140737488355328 /\ 1=1 /\ M.cs.length <= 9223372036854775807] λ n1=>aj (zN hM (λ x hx=>List.mem_append_right _ (hT x hx)))<|ae 4 [] λ _=>eI 0 (congrArg (λ v_=>(.rows 1 M.cs.length v_ 3 (0,0):Blk)) (show (oV [vI 0])=(aL (uy M.cs 0)) from (by rw [vH M.cs])))<|RN.loop (σ:=Nat) (λ i=>⟨[(0,vP mb 0),(3,vS (n1+0) 0 M.cs.length M.cs.length),(9,vI (M.cs.length:Int)),(10,vI (i:Int))],[((n1+0),.rows 1 M.cs.length (aL (uy M.cs i)) 3 (0,0))],[],i <= M.cs.length,M.cs.length - i⟩) 0 [0] [] (Nat.zero_le _) ?_
 rintro i hI2 mt3
 refine ae 6 [] λ _=>RN.em ((i:Int) < (M.cs.length:Int)) 11 (λ h4=>?_) λ h4=>?_
 ·refine ae 16 [] λ _=>aj (aw (i:Int) hM (λ x hx=>List.mem_append_right _ (hT x hx)))<|al 9 [.ix i,.row 0 i 0,.nw] [br ((i:Int)+1),(0+i * 1)=i * 1+0 /\ i < M.cs.length,(i:Int)=((i:Nat):Int) /\ i < M.cs.length] λ _=>eI 0 (congrArg (λ v_=>(.rows 1 M.cs.length v_ 3 (0,0):Blk)) (show (dN (aL (uy M.cs i)) i 0 (vI (M.get (i:Int))))=(aL (uy M.cs (i+1))) from (by rw [<- vJ (cs:=M.cs) (i:=i) (by omega)];rw [HO (by omega)]))) ?_
  refine mt3 (i+1) [0] [] ?_
  try dsimp only
  exact ⟨by omega,by omega⟩
 ·refine ae 12 [] λ _=>RN.ret [] [0] [] (v:=vS (n1+0) 0 M.cs.length M.cs.length) (H':=[((n1+0),.rows 1 M.cs.length (aL (uy M.cs i)) 3 (0,0))]) ?_
  have ei:i=M.cs.length:=by omega
  subst ei
  exact ⟨_,by rw [zM];rfl,rfl⟩
theorem HP (q:Nat) (cs:List Int) (k cap:Nat) (F:HL) (hq:(q,.rows 1 cs.length (aL cs) 3 (0,0)) ∈ F) (hc:cs.length <= 1000000) (hk:k <= 100000000) (hcap:cs.length <= cap):Sp Tryz.prog 14 #[vS q 0 cs.length cap] [] F (λ u H'=>∃ x:Nat × HL,H'=ap [] [x.2] /\ (u=vP x.1 0 /\ MemH x.1 ⟨cs,[],0⟩ k x.2)):=by
 refine Sp.run Tryz.func14 rfl (mc hq mn) (A:=[]) (Ts:=[]) rfl λ w0=>?_
 refine al 24 [.mk cs.length cs.length] [(cs.length:Int)=((cs.length:Nat):Int) /\ (cs.length:Int)=((cs.length:Nat):Int) /\ cs.length <= cs.length /\ 8 * cs.length <= 140737488355328 /\ 1=1 /\ cs.length <= 9223372036854775807] λ n1=>eI 1 (congrArg (λ v_=>(.rows 1 cs.length v_ 3 (0,0):Blk)) (show (oV [vI 0])=(aL (uy cs 0)) from (by rw [vH cs])))<|RN.loop (σ:=Nat) (λ i=>⟨[(0,vS q 0 cs.length cap),(3,vP (n1+1) 0),(11,vI (cs.length:Int)),(12,vI (i:Int))],[((n1+1),.lit [vS (n1+0) 0 cs.length cs.length,.slice none 0 0,vI 0] 119 (0,0)),((n1+0),.rows 1 cs.length (aL (uy cs i)) 3 (0,0))],[],i <= cs.length,cs.length - i⟩) 0 [0,1] [] (Nat.zero_le _) ?_
 rintro i hI2 mt3
 refine ae 6 [] λ _=>RN.em ((i:Int) < (cs.length:Int)) 13 (λ h4=>?_) λ h4=>?_
 ·refine ae 11 [] λ _=>RN.draw [10] []<|aJ [] [0,4,5,6,1,7,2,8,3,9] [.ix i,.rorow 0 i 0,.own 0,.ix i] [(i:Int)=((i:Nat):Int) /\ i < cs.length,(0+i * 1)=i * 1+0 /\ i < cs.length,(i:Int)=((i:Nat):Int) /\ i < cs.length]<|RD.one 10 (dX [] [.row 1 i 0] [(0+i * 1)=i * 1+0 /\ i < cs.length] λ _=>?_)
  refine RD.fin<|al 6 [.nw] [br ((i:Int)+1)] λ _=>eI 1 (congrArg (λ v_=>(.rows 1 cs.length v_ 3 (0,0):Blk)) (show (dN (aL (uy cs i)) i 0 (vI (cs.getD i 0)))=(aL (uy cs (i+1))) from (by rw [<- vJ (cs:=cs) (i:=i) (by omega)]))) ?_
  refine mt3 (i+1) [0,1] [] ?_
  try dsimp only
  exact ⟨by omega,by omega⟩
 ·refine ae 12 [] λ _=>RN.ret [] [0,1] [] (v:=vP (n1+1) 0) (H':=[((n1+1),.lit [vS (n1+0) 0 cs.length cs.length,.slice none 0 0,vI 0] 119 (0,0)),((n1+0),.rows 1 cs.length (aL (uy cs i)) 3 (0,0))]) ?_
  have ei:i=cs.length:=by omega
  subst ei
  rw [zM]
  have hmm:=MemH.mk (mb:=(n1+1)) (M:=⟨cs,[],0⟩) (k:=k) (n1+0) none 0 [] (SlIs.nil _ _) hc (show ([]:List (Int × Int)).length+k <= 100000000 by simpa using hk)
  exact ⟨((n1+1),_),rfl,rfl,hmm⟩
def aE (n most:Int):Int:=(if n < 0 then aY (0 - aY (n+1)) else n).tmod most
theorem iB (n:Int) (most:Int) (h0:most ≠ 0) (F:HL):Sp Tryz.prog 11 #[vI n,vI most] [] F (λ u H'=>u=vI (aE n most) /\ H'=[]):=by
 refine Sp.run Tryz.func11 rfl mn (A:=[]) (Ts:=[]) rfl λ w0=>?_
 refine ae 12 [] λ _=>RN.em (n < 0) 6 (λ h1=>?_) λ h1=>?_
 ·refine pM 16 [.gen,.dv] (λ _=>[most ≠ 0]) (λ _=>(ac h0 an)) λ _=>RN.ret [] [] [] (v:=vI ((IntKind.i64.wrap (0 - (IntKind.i64.wrap (n+1)))).tmod most)) (H':=[]) ?_
  exact ⟨by unfold aE;simp [*],rfl⟩
 ·refine pM 11 [.dv] (λ _=>[most ≠ 0]) (λ _=>(ac h0 an)) λ _=>RN.ret [] [] [] (v:=vI (n.tmod most)) (H':=[]) ?_
  exact ⟨by unfold aE;simp [*],rfl⟩
def p7 (n:Int):Int:=aE n 1000
def nK (n:Int):Int:=aY (512 * aY (1+(aY ((p7 n).tdiv 7)).tmod 5))
def rC (r:Int):List V2:=[⟨aY (0 - r),aY (0 - r)⟩,⟨r,aY (0 - r)⟩,⟨r,r⟩,⟨aY (0 - r),r⟩]
def vK (r:Int):List V2:=[⟨aY (0 - r),aY (0 - r)⟩,⟨r,aY (0 - r)⟩,⟨0,r⟩]
def vL (r:Int):List V2:=[⟨aY (-2 * r),-300⟩,⟨aY (2 * r),-300⟩,⟨aY (2 * r),300⟩,⟨aY (-2 * r),300⟩]
def cG (n:Int):Int × List V2:=if (p7 n).tmod 7=0 then (nK n,[]) else if (p7 n).tmod 7=1 then (nK n,[]) else if (p7 n).tmod 7=2 then (nK n,[]) else if (p7 n).tmod 7=3 then (0,rC (nK n)) else if (p7 n).tmod 7=4 then (0,rC (nK n)) else if (p7 n).tmod 7=5 then (0,vK (nK n)) else (0,vL (nK n))
def ShH (s:Shp) (T:HL):Prop:=∀ F,(∀ x ∈ T,x ∈ F) -> ShIn F s
theorem ShH.circle (r:Int) (A:Option Addr) (cap:Nat):ShH ⟨r,[],A,cap⟩ []:=λ F _=>.circle r A cap
theorem ShH.poly (r:Int) (l:List V2) (b cap:Nat) (h3:3 <= l.length) (h4:l.length <= cap) (h5:l.length <= 1000000):ShH ⟨r,l,some ⟨b,0,none⟩,cap⟩ [(b,.rows 2 cap (jm l) 29 (0,0))]:=λ F h=>.poly r l b cap (h _ (by simp)) h3 h4 h5
theorem vM (n:Int) (F:HL):Sp Tryz.prog 34 #[vI n] [] F (λ u H'=>∃ x:Option Addr × Nat × HL,H'=ap [] [x.2.2] /\ (u=LI ⟨(cG n).1,(cG n).2,x.1,x.2.1⟩ /\ ShH ⟨(cG n).1,(cG n).2,x.1,x.2.1⟩ x.2.2)):=by
 refine Sp.run Tryz.func34 rfl mn (A:=[]) (Ts:=[]) rfl λ w0=>?_
 refine ae 8 [] λ n1=>aj (iB n 1000 (by decide) _)<|ae 28 [] λ _=>RN.em ((p7 n).tmod 7=0) 14 (λ h2=>?_) λ h2=>?_
 ·refine ae 11 [.own 0,.own 0] λ _=>RN.ret [.own 0,.own 0] [] [] (v:=.agg #[vI (IntKind.i64.wrap (512 * (IntKind.i64.wrap (1+((IntKind.i64.wrap ((p7 n).tdiv 7)).tmod 5))))),.slice none 0 0]) (H':=[]) ?_
  have e:cG n=(nK n,[]):=by simp only [cG,if_pos h2]
  rw [e]
  exact ⟨(none,0,[]),rfl,rfl,ShH.circle _ _ _⟩
 ·refine ae 7 [] λ _=>RN.em ((p7 n).tmod 7=1) 14 (λ h3=>?_) λ h3=>?_
  ·refine ae 11 [.own 0,.own 0] λ _=>RN.ret [.own 0,.own 0] [] [] (v:=.agg #[vI (IntKind.i64.wrap (512 * (IntKind.i64.wrap (1+((IntKind.i64.wrap ((p7 n).tdiv 7)).tmod 5))))),.slice none 0 0]) (H':=[]) ?_
   have e:cG n=(nK n,[]):=by simp only [cG,if_neg h2,if_pos h3]
   rw [e]
   exact ⟨(none,0,[]),rfl,rfl,ShH.circle _ _ _⟩
  ·refine ae 6 [] λ _=>RN.em ((p7 n).tmod 7=2) 14 (λ h4=>?_) λ h4=>?_
   ·refine ae 8 [.own 0,.own 0] λ _=>RN.ret [.own 0,.own 0] [] [] (v:=.agg #[vI (IntKind.i64.wrap (512 * (IntKind.i64.wrap (1+((IntKind.i64.wrap ((p7 n).tdiv 7)).tmod 5))))),.slice none 0 0]) (H':=[]) ?_
    have e:cG n=(nK n,[]):=by simp only [cG,if_neg h2,if_neg h3,if_pos h4]
    rw [e]
    exact ⟨(none,0,[]),rfl,rfl,ShH.circle _ _ _⟩
   ·refine ae 8 [] λ _=>RN.em ((p7 n).tmod 7=3) 20 (λ h5=>?_) λ h5=>?_
    ·refine ae 27 [.own 1,.own 1] λ n6=>RN.dn 0 (.rows 2 4 (jm (rC (nK n))) 29 (0,0))<|RN.ret [.own 1,.own 1] [0] [] (v:=.agg #[vI 0,vS (n6+0) 0 4 4]) (H':=[((n6+0),.rows 2 4 (jm (rC (nK n))) 29 (0,0))]) ?_
     have e:cG n=(0,rC (nK n)):=by simp only [cG,if_neg h2,if_neg h3,if_neg h4,if_pos h5]
     rw [e]
     exact ⟨(some ⟨(n6+0),0,none⟩,4,_),rfl,rfl,ShH.poly 0 (rC (nK n)) (n6+0) 4 (Nat.le_of_ble_eq_true rfl) (Nat.le_of_ble_eq_true rfl) (Nat.le_of_ble_eq_true rfl)⟩
    ·refine ae 6 [] λ _=>RN.em ((p7 n).tmod 7=4) 20 (λ h7=>?_) λ h7=>?_
     ·refine ae 24 [.own 1,.own 1] λ n8=>RN.dn 0 (.rows 2 4 (jm (rC (nK n))) 29 (0,0))<|RN.ret [.own 1,.own 1] [0] [] (v:=.agg #[vI 0,vS (n8+0) 0 4 4]) (H':=[((n8+0),.rows 2 4 (jm (rC (nK n))) 29 (0,0))]) ?_
      have e:cG n=(0,rC (nK n)):=by simp only [cG,if_neg h2,if_neg h3,if_neg h4,if_neg h5,if_pos h7]
      rw [e]
      exact ⟨(some ⟨(n8+0),0,none⟩,4,_),rfl,rfl,ShH.poly 0 (rC (nK n)) (n8+0) 4 (Nat.le_of_ble_eq_true rfl) (Nat.le_of_ble_eq_true rfl) (Nat.le_of_ble_eq_true rfl)⟩
     ·refine ae 7 [] λ _=>RN.em ((p7 n).tmod 7=5) 41 (λ h9=>?_) λ h9=>?_
      ·refine ae 19 [.own 1,.own 1] λ n10=>RN.dn 0 (.rows 2 3 (jm (vK (nK n))) 29 (0,0))<|RN.ret [.own 1,.own 1] [0] [] (v:=.agg #[vI 0,vS (n10+0) 0 3 3]) (H':=[((n10+0),.rows 2 3 (jm (vK (nK n))) 29 (0,0))]) ?_
       have e:cG n=(0,vK (nK n)):=by simp only [cG,if_neg h2,if_neg h3,if_neg h4,if_neg h5,if_neg h7,if_pos h9]
       rw [e]
       exact ⟨(some ⟨(n10+0),0,none⟩,3,_),rfl,rfl,ShH.poly 0 (vK (nK n)) (n10+0) 3 (Nat.le_of_ble_eq_true rfl) (Nat.le_of_ble_eq_true rfl) (Nat.le_of_ble_eq_true rfl)⟩
      ·refine ae 23 [.own 1,.own 1] λ n11=>RN.dn 0 (.rows 2 4 (jm (vL (nK n))) 29 (0,0))<|RN.ret [.own 1,.own 1] [0] [] (v:=.agg #[vI 0,vS (n11+0) 0 4 4]) (H':=[((n11+0),.rows 2 4 (jm (vL (nK n))) 29 (0,0))]) ?_
       have e:cG n=(0,vL (nK n)):=by simp only [cG,if_neg h2,if_neg h3,if_neg h4,if_neg h5,if_neg h7,if_neg h9]
       rw [e]
       exact ⟨(some ⟨(n11+0),0,none⟩,4,_),rfl,rfl,ShH.poly 0 (vL (nK n)) (n11+0) 4 (Nat.le_of_ble_eq_true rfl) (Nat.le_of_ble_eq_true rfl) (Nat.le_of_ble_eq_true rfl)⟩
theorem nL {S:Setup} (h:SetN S) {i:Nat} (hi:i < S.nb):0 <= af S i /\ af S i+8 <= sizeOf S /\ sizeOf S <= 20000000:=by
 have:=h.pl
 have:=h.nb
 unfold af sizeOf
 rw [if_neg (by omega),if_neg (by omega)]
 omega
theorem BU {S:Setup} (h:SetN S):48 <= sizeOf S /\ sizeOf S <= 20000000:=by
 have:=h.pl
 have:=h.nb
 unfold sizeOf
 omega
def aK (S:Setup):Nat -> List Int
 | 0=>List.replicate (sizeOf S).toNat 0
 | i+1=>((((((aK S i).set (af S i).toNat (S.body i).mot.px).set (af S i+1).toNat (S.body i).mot.py).set (af S i+2).toNat (S.body i).mot.vx).set (af S i+3).toNat (S.body i).mot.vy).set (af S i+4).toNat (S.body i).a).set (af S i+5).toNat (S.body i).b
theorem fk (S:Setup):∀ i,(aK S i).length=(sizeOf S).toNat
 | 0=>by simp [aK]
 | i+1=>by simp [aK,fk S i]
theorem BV {S:Setup} (h:SetN S) {i:Nat} (hi:i < S.nb):dN (dN (dN (dN (dN (dN (aL (aK S i)) (af S i).toNat 0 (vI (S.body i).mot.px)) (af S i+1).toNat 0 (vI (S.body i).mot.py)) (af S i+2).toNat 0 (vI (S.body i).mot.vx)) (af S i+3).toNat 0 (vI (S.body i).mot.vy)) (af S i+4).toNat 0 (vI (S.body i).a)) (af S i+5).toNat 0 (vI (S.body i).b)=aL (aK S (i+1)):=by
 have:=nL h hi
 rw [gj,gj,gj,gj,gj,gj,aK] <;> (simp only [List.length_set,fk];omega)
open Go.Shelf
section
variable {r:Option Nat} {P:Program} {N:Nat} {D:List Deferred} {F:HL} {w0:World} {R:HL} {s:Cfg} {Q:Exit -> Act -> World -> Prop}
variable {α:Type} {e:Enc α} {T:TypeId} {inf:TypeInfo} {z:Value}
def zO (P:Program) (N j:Nat) (oo:Option Oper) (s:Cfg):Option (Option Addr × Nat × Nat × TypeId × Option Addr × Nat × Nat × TypeId × HL):=match oo with
 | some o=>match Hc P o s.L,s.Ts[j]?,([j]++oth [j] s.Ts.length).isPerm (List.range s.Ts.length) && (fi N o.dst undef s.L).isSome with
  | some (A,n,cap,T,B,m,c',tx),some Hl,true=>some (A,n,cap,T,B,m,c',tx,Hl)
  | _,_,_=>none
 | none=>none
theorem p8 {j:Nat} {oo:Option Oper} {A:Option Addr} {n cap m c':Nat} {B:Option Addr} {tx:TypeId} {Hl:HL} (h:zO P N j oo s=some (A,n,cap,T,B,m,c',tx,Hl)) :
  ∃ o a1 a2 t e',oo=some o /\ o.guard=none /\ o.op=.call { callee:=.builtin .append,args:=#[a1,a2],argTypes:=#[t,tx] } /\ (mC s.L a1 && mC s.L a2)=true /\ i5 s.L a1=.slice A n cap /\ i5 s.L a2=.slice B m c' /\ P.underlying t=some (.slice T) /\ P.underlying tx=some (.slice e') /\
   s.Ts[j]?=some Hl /\ ([j]++oth [j] s.Ts.length).isPerm (List.range s.Ts.length)=true /\ (fi N o.dst undef s.L).isSome=true:=by
 unfold zO at h
 split at h
 case h_2=>cases h
 rename_i o
 split at h
 case h_2=>cases h
 rename_i A' n' cap' T' B' m' c2 tx' Hl' h1 h3 h4
 simp only [Option.some.injEq,Prod.mk.injEq] at h
 obtain ⟨e1,e2,e3,e4,e5,e6,e7,e8,e9⟩:=h
 subst e1;subst e2;subst e3;subst e4;subst e5;subst e6;subst e7;subst e8;subst e9
 obtain ⟨a1,a2,t,e',q1,q2,q3,q4,q5,q6,q7⟩:=r9 h1
 rw [Bool.and_eq_true] at h4
 exact ⟨o,a1,a2,t,e',rfl,q1,q2,q3,q4,q5,q6,q7,h3,h4.1,h4.2⟩
end
inductive RowL {α:Type} (e:Enc α) (T:TypeId) (F:HL):Option Addr -> Nat -> List α -> Prop
 | zero (A:Option Addr):RowL e T F A 0 []
 | rows (q o N:Nat) (full:List α) (fz:Nat × Nat) (n:Nat) (xs:List α) (hq:(q,.rows e.w N (cu e full) T fz) ∈ F) (ho:o+n <= N) (hn:xs.length=n) (hx:∀ k,k < n -> full.getD (o+k) e.dflt=xs.getD k e.dflt):RowL e T F (some ⟨q,o * e.w,none⟩) n xs
section
variable {α:Type} {e:Enc α} {T:TypeId} {F:HL} {A:Option Addr} {n:Nat} {xs:List α}
theorem RowL.mono {F':HL} (h:RowL e T F A n xs) (hs:∀ x ∈ F,x ∈ F'):RowL e T F' A n xs:=by
 cases h with
 | zero=>exact .zero _
 | rows q o N full fz n xs hq ho hn hx=>exact .rows q o N full fz n xs (hs _ hq) ho hn hx
theorem RowL.up {X:HL} (h:RowL e T F A n xs):RowL e T (X++F) A n xs:=h.mono λ x hx=>List.mem_append_right _ hx
theorem RowL.len (h:RowL e T F A n xs):xs.length=n:=by
 cases h with
 | zero=>rfl
 | rows q o N full fz n xs hq ho hn hx=>exact hn
theorem RowL.at (h:RowL e T F A n xs) {k:Nat} (hk:k < n):∃ q o N full fz,A=some ⟨q,o * e.w,none⟩ /\ (q,.rows e.w N (cu e full) T fz) ∈ F /\ o+k < N /\ full.getD (o+k) e.dflt=xs.getD k e.dflt:=by
 cases h with
 | zero=>omega
 | rows q o N full fz n xs hq ho hn hx=>exact ⟨q,o,N,full,fz,rfl,hq,by omega,hx k hk⟩
theorem RowL.whole {q N:Nat} {fz:Nat × Nat} (hq:(q,.rows e.w N (cu e xs) T fz) ∈ F) (h:xs.length <= N):RowL e T F (some ⟨q,0,none⟩) xs.length xs:=by
 have:=RowL.rows (e:=e) (T:=T) (F:=F) q 0 N xs fz xs.length xs hq (by omega) rfl (λ k hk=>by rw [Nat.zero_add])
 rwa [Nat.zero_mul] at this
end
section
variable {α:Type} {e:Enc α} {P:Program} {t tx ty T:TypeId} {inf:TypeInfo} {z:Value} {F:HL}
theorem xW (l:List α) (hw:0 < e.w):∀ {j:Nat},j < l.length * e.w -> (ay e l)[j]?=some (e.cell (l.getD (j / e.w) e.dflt) (j % e.w)):=by
 induction l with
 | nil=>intro j hj;simp at hj
 | cons x l ih =>
  intro j hj
  have hc:ay e (x :: l)=(List.range e.w).map (e.cell x)++ay e l:=by simp [ay]
  rw [hc]
  by_cases h:j < e.w
  ·rw [List.getElem?_append_left (by simpa using h),Nat.div_eq_of_lt h,Nat.mod_eq_of_lt h]
   simp [h]
  ·rw [List.getElem?_append_right (by simp;omega)]
   simp only [List.length_map,List.length_range]
   have h2:j=(j - e.w)+e.w:=by omega
   rw [ih (by simp only [List.length_cons,Nat.add_mul,Nat.one_mul] at hj;omega)]
   conv=>rhs;rw [h2,Nat.add_div_right _ hw,Nat.add_mod_right]
   rfl
theorem Eb (ok:EncOk e P T inf z) (hw:0 < e.w) {F:HL} {A:Option Addr} {n:Nat} {xs:List α} (hl:RowL e T F A n xs) {c:Nat} {e':TypeId} (hk:P.underlying tx=some (.slice e')) (X:HL) (w:World) (hR:Rel (X++F) w):Src P inf.size tx (.slice A n c) xs.length (ay e xs) w:=by
 cases hl with
 | zero =>
  cases A with
  | none=>exact Src.ofNil w hk c
  | some a=>exact Src.ofSlice w hk a 0 c [] (by simp) (λ j u h=>by simp at h) (λ u h=>by simp at h)
 | rows q o N full fz n xs hq ho hn hx =>
  subst hn
  refine Src.ofSlice w hk _ _ _ _ (by rw [bF,ok.size]) ?_ ?_
  ·intro j u hj
   have hjl:j < xs.length * e.w:=by rw [<- bF];exact (List.getElem?_eq_some_iff.1 hj).1
   rw [xW xs hw hjl] at hj
   have hd:j / e.w < xs.length:=Nat.div_lt_of_lt_mul (by rw [Nat.mul_comm];exact hjl)
   have hb:=hR.holds _ (List.mem_append_right X hq)
   rw [Addr.add_lit]
   have hj2:o * e.w+j=(o+j / e.w) * e.w+j % e.w:=by
    rw [Nat.add_mul,Nat.add_assoc,Nat.mul_comm (j / e.w) e.w,Nat.div_add_mod]
   rw [jg (i:=o+j / e.w) (k:=j % e.w) hb rfl rfl hj2 (by omega) (Nat.mod_lt _ hw)]
   rw [<- hj]
   show some (cu e full (o+j / e.w) (j % e.w))=_
   unfold cu
   rw [hx _ hd]
  ·intro u hu
   simp only [ay,List.mem_flatMap,List.mem_map] at hu
   obtain ⟨x,_,k,_,rfl⟩:=hu
   exact ok.one x k
def SrcIn (P:Program) (e:Enc α) (F:HL) (A:Option Addr) (n:Nat) (xs:List α):Prop :=
 (xs.length=n /\ (A=none -> n=0)) /\ ∀ {tx e':TypeId} (c:Nat),P.underlying tx=some (.slice e') -> ∀ X w,Rel (X++F) w -> Src P e.w tx (.slice A n c) xs.length (ay e xs) w
theorem SrcIn.mono {F F':HL} {A:Option Addr} {n:Nat} {xs:List α} (h:SrcIn P e F A n xs) (hs:∃ X,F'.Perm (X++F)):SrcIn P e F' A n xs:=by
 obtain ⟨X,hX⟩:=hs
 refine ⟨h.1,λ c hk Y w hR=>h.2 c hk (Y++X) w ?_⟩
 rw [List.append_assoc]
 exact hR.perm (List.Perm.append_left Y hX.symm)
theorem SrcIn.up {F X:HL} {A:Option Addr} {n:Nat} {xs:List α} (h:SrcIn P e F A n xs):SrcIn P e (X++F) A n xs:=h.mono ⟨X,List.Perm.refl _⟩
theorem SrcIn.none:SrcIn P e F Option.none 0 []:=⟨⟨rfl,λ _=>rfl⟩,λ c hk X w hR=>Src.ofNil w hk c⟩
theorem RowL.src (ok:EncOk e P T inf z) (hw:0 < e.w) {F:HL} {A:Option Addr} {n:Nat} {xs:List α} (hl:RowL e T F A n xs):SrcIn P e F A n xs:=by
 refine ⟨⟨hl.len,λ h=>?_⟩,λ c hk X w hR=>?_⟩
 ·subst h;cases hl;rfl
 ·have:=Eb (c:=c) ok hw hl hk X w hR
  rwa [ok.size] at this
theorem SrcIn.lit (ok:EncOk e P T inf z) {F:HL} {q:Nat} {xs:List α} {rest:List Value} {ty:TypeId} {fz:Nat × Nat} (hq:(q,.lit (ay e xs++rest) ty fz) ∈ F):SrcIn P e F (some ⟨q,0,Option.none⟩) xs.length xs:=by
 refine ⟨⟨rfl,λ h=>by cases h⟩,λ c hk X w hR=>Src.ofSlice w hk _ _ _ _ (by rw [bF]) ?_ ?_⟩
 ·intro j u hj
  have hb:=hR.holds _ (List.mem_append_right X hq)
  have hl:j < (ay e xs).length:=(List.getElem?_eq_some_iff.1 hj).1
  simp only [Blk.den] at hb
  rw [Addr.add_lit]
  simp [World.cell?,hb,List.getElem?_append_left hl,hj]
 ·intro u hu
  simp only [ay,List.mem_flatMap,List.mem_map] at hu
  obtain ⟨x,_,k,_,rfl⟩:=hu
  exact ok.one x k
def NewS (e:Enc α) (T:TypeId) (src:List α) (A A':Option Addr) (cap':Nat) (Hl':HL):Prop :=
 (src=[] /\ A'=A /\ cap'=0 /\ Hl'=[]) \/ ∃ b,A'=some ⟨b,0,none⟩ /\ Hl'=[(b,.rows e.w cap' (cu e src) T (0,0))] /\ src.length <= cap'
theorem NewS.rowL {src:List α} {A A':Option Addr} {cap':Nat} {Hl':HL} (h:NewS e T src A A' cap' Hl') {F:HL} (hF:∀ x ∈ Hl',x ∈ F):RowL e T F A' src.length src:=by
 rcases h with ⟨rfl,rfl,rfl,rfl⟩ | ⟨b,rfl,rfl,hc⟩
 ·exact .zero _
 ·exact RowL.whole (hF _ (List.mem_singleton.2 rfl)) hc
theorem p9 (l:List α) (k:Nat):cu e (l++List.replicate k e.dflt)=cu e l:=by
 funext i j
 unfold cu
 congr 1
 rw [List.getD_eq_getElem?_getD,List.getD_eq_getElem?_getD]
 by_cases h:i < l.length
 ·rw [List.getElem?_append_left h]
 ·rw [List.getElem?_append_right (by omega),List.getElem?_replicate,List.getElem?_eq_none (by omega)]
  split <;> rfl
theorem xX (ok:EncOk e P T inf z) (ht:P.underlying t=some (.slice T)) {A:Option Addr} {G:HL} {w:World} (hA:∀ a,A=some a -> a.spot=none) (hR:Rel G w) (src:List α) (x:Value)
  (hs:Src P inf.size tx x src.length (ay e src) w) (hb:src.length <= 100000000) :
  ∃ A' cap' Hl' w',(Builtin.append_ #[t,tx] ty #[.slice A 0 0,x]).run P w=.ok (.slice A' src.length cap') w' /\ NewS e T src A A' cap' Hl' /\ Rel (Hl'++G) w' /\ Below 0 w w':=by
 rcases Nat.eq_zero_or_pos src.length with h0 | h0
 ·obtain rfl:src=[]:=List.eq_nil_of_length_eq_zero h0
  cases A with
  | none =>
   refine ⟨none,0,[],w,?_,.inl ⟨rfl,rfl,rfl,rfl⟩,hR,Below.refl _ _⟩
   have hc:(Builtin.firstCells inf.size 0 x).run P w=.ok #[] w:=hs.cells
   rcases hs.kind with ⟨e',hk⟩ | hk <;> simp [Builtin.append_,run_underlying ht,run_underlying hk,Go.sizeOf,typeInfo,ok.info,hs.len,hc]
  | some a =>
   obtain ⟨b,off,spot⟩:=a
   obtain rfl:spot=none:=hA _ rfl
   refine ⟨some ⟨b,off,none⟩,0,[],w,?_,.inl ⟨rfl,rfl,rfl,rfl⟩,hR,Below.refl _ _⟩
   have:=run_append_room_src (P:=P) w t tx ty T inf ht ok.info b off 0 0 x 0 (ay e ([]:List α)) hs (Nat.le_refl _) (λ j hj=>by simp [ay] at hj) (λ j hj=>by simp [ay] at hj)
   exact this
 ·have hby:=ok.bytes
  have hfit:Builtin.nextslicecap (0+src.length) 0 * inf.bytes <= 281474976710656:=by
   have h1:=j6 (0+src.length) 0 (by omega)
   have h2:Builtin.nextslicecap (0+src.length) 0 * inf.bytes <= (2 * 100000000+192) * 1000:=Nat.mul_le_mul (by omega) hby
   omega
  have hold:(Builtin.firstCells inf.size 0 (.slice A 0 0)).run P w.drew=.ok ([]:List Value).toArray w.drew:=by
   cases A with
   | none=>exact run_firstCells_none w.drew inf.size 0 0 0
   | some a =>
    obtain ⟨b,off,spot⟩:=a
    obtain rfl:spot=none:=hA _ rfl
    exact run_firstCells_some w.drew inf.size 0 ⟨b,off,none⟩ 0 0 [] (by simp) (λ j u hj=>by simp at hj)
  have hrun:=run_append_grow_src (P:=P) w t tx ty T inf z ht ok.info ok.zero A 0 0 [] hold x src.length (ay e src) hs (by omega) (by omega) hfit
  have hge:=grownCap_ge w (0+src.length) 0 T
  generalize grownCap w (0+src.length) 0 T=nc at *
  rw [Nat.zero_add] at hrun hge
  refine ⟨_,nc,[(w.heap.size,.rows e.w nc (cu e src) T (0,0))],_,hrun,.inr ⟨_,rfl,rfl,hge⟩,?_,?_⟩
  ·have:=(Rel.cons (.rows e.w nc (cu e src) T (0,0)) (o:=.cells (([]++ay e src).toArray++Builtin.zeroCells z.cells (nc - src.length)) T (0,0)) ?_ (hR.world (w':=w.drew) rfl))
   ·exact this
   ·show Obj.cells _ _ _=_
    congr 1
    apply Array.ext'
    show bA _ _ _=_
    have hl:nc=(src++List.replicate (nc - src.length) e.dflt).length:=by simp;omega
    have h3:=ku e (src++List.replicate (nc - src.length) e.dflt)
    rw [<- hl,p9] at h3
    rw [h3,cq,List.nil_append,Array.toList_append,oA ok]
  ·exact ⟨rfl,rfl,rfl,by simp,λ k hk=>by omega⟩
end
section
variable {r:Option Nat} {P:Program} {N:Nat} {D:List Deferred} {F:HL} {w0:World} {R:HL} {s:Cfg} {Q:Exit -> Act -> World -> Prop}
variable {α:Type} {e:Enc α} {T:TypeId} {inf:TypeInfo} {z:Value}
theorem iX (ok:EncOk e P T inf z) (src:List α) (j:Nat) {A:Option Addr} {B:Option Addr} {m c':Nat} {tx:TypeId} (hA:∀ a,A=some a -> a.spot=none) (hm:m=src.length) (hb:src.length <= 100000000)
  (hs:∀ e',P.underlying tx=some (.slice e') -> ∀ X w,Rel (X++F) w -> Src P inf.size tx (.slice B m c') src.length (ay e src) w)
  (hk:∀ (A':Option Addr) (cap':Nat) (Hl':HL),NewS e T src A A' cap' Hl' -> RN r P N D F w0 R (L4 j Hl' (fP N (.slice A' src.length cap') s)) Q)
  (h:zO P N j (rx s) s=some (A,0,0,T,B,m,c',tx,([]:HL)):=by kernel_rfl):RN r P N D F w0 R s Q:=by
 obtain ⟨o,a1,a2,t,e',q0,q1,q2,q3,q4,q5,q6,q7,q9,q10,q11⟩:=p8 h
 refine ⟨λ hR a w hF hRel hB=>?_⟩
 obtain ⟨c,k,L,Bs,Ts⟩:=s
 unfold rx at q0
 cases c with
 | code c=>cases q0
 | ex c=>cases q0
 | drw _ _=>cases q0
 | ops ops i =>
  simp only at q0 q3 q4 q5 q9 q10 q11 hF hRel
  have hdrop:ops.toList.drop i=o :: ops.toList.drop (i+1):=by
   have hlt:i < ops.toList.length:=(List.getElem?_eq_some_iff.1 q0).1
   rw [List.drop_eq_getElem_cons hlt,(List.getElem?_eq_some_iff.1 q0).2]
  show wpListIn _ _ _ _ _ _ _ _
  rw [hdrop,wpListIn,if_pos (by simp [Region.wanted,q1])]
  refine ⟨λ _ _=>trivial,?_⟩
  have hperm:=jn (A:=Bs) q9 q10
  have key:eo P o a w λ u w'=>∃ y:Option Addr × Nat × HL,(u=.slice y.1 src.length y.2.1 /\ NewS e T src A y.1 y.2.1 y.2.2) /\ Rel ((y.2.2++(Bs++((oth [j] Ts.length).filterMap (Ts[·]?)).flatten))++F) w' /\ Below 0 w w':=by
   simp only [Bool.and_eq_true] at q3
   have e1:=(hF.eval q3.1).trans q4
   have e2:=(hF.eval q3.2).trans q5
   have hR':Rel ((Bs++((oth [j] Ts.length).filterMap (Ts[·]?)).flatten)++F) w:=by
    have:=hRel.perm (hperm.append_right F)
    exact this
   obtain ⟨A',cap',Hl',w',r1,r2,r3,r4⟩:=xX (ty:=o.type) ok q6 hA hR' src (.slice B m c') (hs e' q7 _ w hRel) hb
   unfold eo
   have hrun:(execOp a.eval o).run P w=.ok (.value (.slice A' src.length cap')) w':=by
    simp [execOp,q2,resolve,invoke,builtin,Sem.run_bind,e1,e2,r1]
   rw [hrun]
   exact ⟨(A',cap',Hl'),⟨rfl,r2⟩,by rw [List.append_assoc];exact r3,r4⟩
  refine ie (by rw [q2];intro c hc;cases hc) key ?_
  rintro u w' ⟨⟨A',cap',Hl'⟩,⟨rfl,hsl'⟩,hR',hB'⟩
  obtain ⟨L',p1⟩:=eT q11 (.slice A' src.length cap')
  have hh:=(hk A' cap' Hl' hsl').h hR
  have hpc:fP N (.slice A' src.length cap') ⟨.ops ops i,k,L,Bs,Ts⟩=⟨.ops ops (i+1),k,L',Bs,Ts⟩:=by
   unfold fP
   simp only [q0,p1]
  rw [hpc] at hh
  refine hh _ w' (hF.put p1) (hR'.perm (List.Perm.append_right F ?_)) (hB.trans hB')
  show (Bs++(Hl' :: (oth [j] Ts.length).filterMap (Ts[·]?)).flatten).Perm _
  rw [List.flatten_cons,<- List.append_assoc,<- List.append_assoc]
  exact List.Perm.append_right _ List.perm_append_comm
end
def t2:Enc Int:=⟨1,λ p k=>match k with | 0=>vI p | _=>vI p,0⟩
noncomputable def Jz:TypeInfo:=match Tryz.prog.info? 3 with | some i=>i | none=>⟨.bool,"",0,0,false,0,0,none,false,#[]⟩
noncomputable def JA:Value:=match Jz.zero with | some z=>z | none=>.bool false
theorem xY:EncOk t2 Tryz.prog 3 Jz JA where
 info:=by kernel_rfl
 zero:=by kernel_rfl
 size:=by kernel_rfl
 zsize:=by kernel_rfl
 zcell:=λ k hk=>by
  have h:∀ k < 1,JA.cells[k]?=some (t2.cell t2.dflt k):=by intro k hk;(iterate 1 (rcases k with _ | k;· kernel_rfl));omega
  exact h k hk
 one:=λ x k=>by unfold t2;dsimp only;split <;> rfl
 bytes:=Nat.le_of_ble_eq_true (by kernel_rfl)
abbrev qa (n:Int):Prop:=-9223372036854775808 <= n /\ n <= 9223372036854775807
theorem eY {n:Int} (hn:qa n) (most:Int) (h:0 < most):0 <= aE n most /\ aE n most < most:=by
 unfold aE
 have hx:0 <= (if n < 0 then aY (0 - aY (n+1)) else n):=by
  split
  ·rw [cT (x:=n+1) (by omega),cT (by omega)];omega
  ·omega
 exact ⟨Int.tmod_nonneg _ hx,Int.tmod_lt_of_pos _ h⟩
inductive ArgL (F:HL):Option Addr -> Nat -> List Int -> Prop
 | zero (A:Option Addr):ArgL F A 0 []
 | cells (q o N:Nat) (g:Nat -> Nat -> Value) (ty:TypeId) (fz:Nat × Nat) (xs:List Int) (hq:(q,.rows 1 N g ty fz) ∈ F) (ho:o+xs.length <= N) (hx:∀ k,k < xs.length -> g (o+k) 0=vI (xs.getD k 0)) (hb:∀ k,k < xs.length -> qa (xs.getD k 0)):ArgL F (some ⟨q,o,none⟩) xs.length xs
theorem ArgL.up {F X:HL} {A:Option Addr} {n:Nat} {xs:List Int} (h:ArgL F A n xs):ArgL (X++F) A n xs:=by
 cases h with
 | zero=>exact .zero _
 | cells q o N g ty fz xs hq ho hx hb=>exact .cells q o N g ty fz xs (List.mem_append_right _ hq) ho hx hb
theorem ArgL.len {F:HL} {A:Option Addr} {n:Nat} {xs:List Int} (h:ArgL F A n xs):xs.length=n:=by
 cases h <;> rfl
theorem ArgL.at {F:HL} {A:Option Addr} {n:Nat} {xs:List Int} (h:ArgL F A n xs) {k:Nat} (hk:k < n):∃ q o N g ty fz,A=some ⟨q,o,none⟩ /\ (q,.rows 1 N g ty fz) ∈ F /\ o+k < N /\ g (o+k) 0=vI (xs.getD k 0) /\ qa (xs.getD k 0):=by
 cases h with
 | zero=>omega
 | cells q o N g ty fz xs hq ho hx hb=>exact ⟨q,o,N,g,ty,fz,rfl,hq,by omega,hx k hk,hb k hk⟩
def kv (xs:List Int) (i:Nat):Int:=if i < xs.length then aE (xs.getD i 0) 1000000 else 0
theorem gN {F:HL} {A:Option Addr} {n:Nat} {xs:List Int} (h:ArgL F A n xs) (i:Nat):0 <= kv xs i /\ kv xs i < 1000000:=by
 unfold kv
 split
 ·next hi =>
  rw [h.len] at hi
  obtain ⟨_,_,_,_,_,_,_,_,_,_,hr⟩:=h.at hi
  exact eY hr 1000000 (by decide)
 ·omega
def ks (xs:List Int) (n:Nat):List Int:=(List.range n).map (kv xs)
theorem mg (xs:List Int) (n:Nat):(ks xs n).length=n:=by simp [ks]
theorem zP (xs:List Int) (n:Nat):ks xs (n+1)=ks xs n++[kv xs n]:=by simp [ks,List.range_succ]
theorem KC {xs:List Int} {n i:Nat} (h:i < n):(ks xs n).getD i 0=kv xs i:=by simp [ks,h]
structure Dr where (a b:Int)
def kH:Enc V2:=⟨2,λ p k=>match k with | 0=>vI p.x | _=>vI p.y,⟨0,0⟩⟩
noncomputable def JB:TypeInfo:=match Tryz.prog.info? 29 with | some i=>i | none=>⟨.bool,"",0,0,false,0,0,none,false,#[]⟩
noncomputable def JC:Value:=match JB.zero with | some z=>z | none=>.bool false
theorem xZ:EncOk kH Tryz.prog 29 JB JC where
 info:=by kernel_rfl
 zero:=by kernel_rfl
 size:=by kernel_rfl
 zsize:=by kernel_rfl
 zcell:=λ k hk=>by
  have h:∀ k < 2,JC.cells[k]?=some (kH.cell kH.dflt k):=by intro k hk;(iterate 2 (rcases k with _ | k;· kernel_rfl));omega
  exact h k hk
 one:=λ x k=>by unfold kH;dsimp only;split <;> rfl
 bytes:=Nat.le_of_ble_eq_true (by kernel_rfl)
def vN:Enc Bx:=⟨4,λ p k=>match k with | 0=>vI p.x0 | 1=>vI p.y0 | 2=>vI p.x1 | _=>vI p.y1,⟨0,0,0,0⟩⟩
noncomputable def Mq:TypeInfo:=match Tryz.prog.info? 25 with | some i=>i | none=>⟨.bool,"",0,0,false,0,0,none,false,#[]⟩
noncomputable def Mr:Value:=match Mq.zero with | some z=>z | none=>.bool false
theorem Ec:EncOk vN Tryz.prog 25 Mq Mr where
 info:=by kernel_rfl
 zero:=by kernel_rfl
 size:=by kernel_rfl
 zsize:=by kernel_rfl
 zcell:=λ k hk=>by
  have h:∀ k < 4,Mr.cells[k]?=some (vN.cell vN.dflt k):=by intro k hk;(iterate 4 (rcases k with _ | k;· kernel_rfl));omega
  exact h k hk
 one:=λ x k=>by unfold vN;dsimp only;split <;> rfl
 bytes:=Nat.le_of_ble_eq_true (by kernel_rfl)
def mh:Enc Dr:=⟨2,λ p k=>match k with | 0=>vI p.a | _=>vI p.b,⟨0,0⟩⟩
noncomputable def Ms:TypeInfo:=match Tryz.prog.info? 97 with | some i=>i | none=>⟨.bool,"",0,0,false,0,0,none,false,#[]⟩
noncomputable def Mt:Value:=match Ms.zero with | some z=>z | none=>.bool false
theorem Ed:EncOk mh Tryz.prog 97 Ms Mt where
 info:=by kernel_rfl
 zero:=by kernel_rfl
 size:=by kernel_rfl
 zsize:=by kernel_rfl
 zcell:=λ k hk=>by
  have h:∀ k < 2,Mt.cells[k]?=some (mh.cell mh.dflt k):=by intro k hk;(iterate 2 (rcases k with _ | k;· kernel_rfl));omega
  exact h k hk
 one:=λ x k=>by unfold mh;dsimp only;split <;> rfl
 bytes:=Nat.le_of_ble_eq_true (by kernel_rfl)
structure MapIn (F:HL) (S:Setup) (rs:List Bx) (ds:List Dr):Prop where
 rooms:RowL vN 25 F S.rA S.rn rs
 doors:RowL mh 97 F S.dA S.dn ds
theorem MapIn.up {F X:HL} {S:Setup} {rs:List Bx} {ds:List Dr} (h:MapIn F S rs ds):MapIn (X++F) S rs ds:=⟨h.rooms.up,h.doors.up⟩
abbrev rD:List Bx:=[⟨-12000,-9000,-1,9000⟩,⟨0,0,12000,9000⟩,⟨0,-9000,12000,-1⟩]
abbrev ko (i:Nat):List Dr:=match i with | 0=>[] | 1=>[⟨0,1⟩] | _=>[⟨0,2⟩,⟨1,2⟩]
def ClS {α:Type} (e:Enc α) (T:TypeId) (xs:List α) (A':Option Addr) (c':Nat) (Hl:HL):Prop:=∃ A0,NewS e T xs A0 A' c' Hl
theorem ClS.rowL {α:Type} {e:Enc α} {T:TypeId} {xs:List α} {A':Option Addr} {c':Nat} {Hl:HL} (h:ClS e T xs A' c' Hl) {F:HL} (hF:∀ x ∈ Hl,x ∈ F):RowL e T F A' xs.length xs:=h.elim λ _ h=>h.rowL hF
theorem ClS.nil {α:Type} (e:Enc α) (T:TypeId) (A:Option Addr):ClS e T [] A 0 []:=⟨A,.inl ⟨rfl,rfl,rfl,rfl⟩⟩
end Go.Proofs.YtghjbimijeinfaaGreatDoor
