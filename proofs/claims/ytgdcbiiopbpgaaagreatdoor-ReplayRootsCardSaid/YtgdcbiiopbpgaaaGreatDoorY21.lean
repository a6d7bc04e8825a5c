import Derived.Test.YtgdcbiiopbpgaaaGreatDoorY20
import Derived.Test.YtgdcbiiopbpgaaaGreatDoorY08
set_option maxHeartbeats 4000000
set_option maxRecDepth 100000
set_option linter.unusedSimpArgs false
set_option linter.unusedVariables false
namespace Go.Proofs.YtgdcbiiopbpgaaaGreatDoor
open Go.RowKit
def MemS.sh (M:MemS) (l:List (Int × Int)) (b:Int):MemS:=⟨M.cs,l++M.lg,b⟩
def VR.sh (r:VR) (l:List (Int × Int)) (b:Int):VR:={ r with M:=r.M.sh l b }
theorem aS (M:MemS) (l:List (Int × Int)) (b i:Int):(M.sh l b).get i=M.get i:=rfl
theorem aU (M:MemS) (l:List (Int × Int)) (b i v:Int):(M.sh l b).set i v=(M.set i v).sh l b:=by
 unfold MemS.set MemS.sh
 dsimp only
 split
 ·simp
 ·rfl
theorem aW (M N:MemS) (l:List (Int × Int)) (b:Int) (c:Prop) [Decidable c]:(if c then M.sh l b else N.sh l b)=(if c then M else N).sh l b:=by split <;> rfl
theorem aI (M N:VR) (l:List (Int × Int)) (b:Int) (c:Prop) [Decidable c]:(if c then M.sh l b else N.sh l b)=(if c then M else N).sh l b:=by split <;> rfl
theorem aV (M:MemS) (l:List (Int × Int)) (b v:Int) (e:Eff) (em:Bool):(⟨M.sh l b,v,e,em⟩:VR)=VR.sh ⟨M,v,e,em⟩ l b:=rfl
theorem aC (code:List Ins) (M:MemS) (l:List (Int × Int)) (b:Int):bj code (M.sh l b)=bj code M:=rfl
theorem bQ (r:VR) (l:List (Int × Int)) (b:Int):(r.sh l b).z=r.z.sh l b:=rfl
theorem bF (r:VR) (l:List (Int × Int)) (b:Int):(r.sh l b).M=r.M.sh l b:=rfl
theorem bS (r:VR) (l:List (Int × Int)) (b:Int):(r.sh l b).v=r.v:=rfl
theorem bT (r:VR) (l:List (Int × Int)) (b:Int):(r.sh l b).e=r.e:=rfl
theorem aX (r:VR) (l:List (Int × Int)) (b:Int):(r.sh l b).em=r.em:=rfl
theorem nk (S:Setup) (M:MemS) (k:Int) (l_:List (Int × Int)) (b_:Int):aq S (M.sh l_ b_) k=aq S M k:=by
 unfold aq
 simp only [aS,aU,aW,aI,aV,bF,bS,bT,aX,aC,bQ] <;> rfl
theorem fV (t:Stp) (ph j:Int) (M:MemS) (l_:List (Int × Int)) (b_:Int):aM t ph j (M.sh l_ b_)=(aM t ph j M).sh l_ b_:=by
 unfold aM
 simp only [aS,aU,aW,aI,aV,bF,bS,bT,aX,aC,bQ] <;> rfl
theorem yd (t:Stp) (k:Int) (m:Mot) (M:MemS) (l_:List (Int × Int)) (b_:Int):dF t k m (M.sh l_ b_)=(dF t k m M).sh l_ b_:=by
 unfold dF
 simp only [aS,aU,aW,aI,aV,bF,bS,bT,aX,aC,bQ] <;> rfl
theorem BS (t:Stp) (c sp pos lo hi:Int) (M:MemS) (l_:List (Int × Int)) (b_:Int):d8 t c sp pos lo hi (M.sh l_ b_)=(d8 t c sp pos lo hi M).sh l_ b_:=by
 unfold d8
 simp only [aS,aU,aW,aI,aV,bF,bS,bT,aX,aC,bQ] <;> rfl
theorem BT (t:Stp) (M:MemS) (l_:List (Int × Int)) (b_:Int):bm t (M.sh l_ b_)=(bm t M).sh l_ b_:=by
 unfold bm
 simp only [aS,aU,aW,aI,aV,bF,bS,bT,aX,aC,bQ] <;> rfl
theorem BU (t:Stp) (M:MemS) (l_:List (Int × Int)) (b_:Int):bB t (M.sh l_ b_)=(bB t M).sh l_ b_:=by
 unfold bB
 simp only [aS,aU,aW,aI,aV,bF,bS,bT,aX,aC,bQ] <;> rfl
theorem BV (t:Stp) (M:MemS) (l_:List (Int × Int)) (b_:Int):bW t (M.sh l_ b_)=(bW t M).sh l_ b_:=by
 unfold bW
 simp only [aS,aU,aW,aI,aV,bF,bS,bT,aX,aC,bQ,fV] <;> rfl
theorem BW (t:Stp) (M:MemS) (l_:List (Int × Int)) (b_:Int):aP t (M.sh l_ b_)=(aP t M).sh l_ b_:=by
 unfold aP
 simp only [aS,aU,aW,aI,aV,bF,bS,bT,aX,aC,bQ,BT,BU,BV] <;> rfl
theorem Ed (t:Stp) (M:MemS) (l_:List (Int × Int)) (b_:Int):fR t (M.sh l_ b_)=(fR t M).sh l_ b_:=by
 unfold fR
 simp only [aS,aU,aW,aI,aV,bF,bS,bT,aX,aC,bQ] <;> rfl
theorem sE (M:MemS) (l_:List (Int × Int)) (b_:Int):∀ n,cD (M.sh l_ b_) n=(cD M n).sh l_ b_
 | 0=>rfl
 | n+1=>by rw [cD,cD,sE M l_ b_ n,aU]
theorem Ee (t:Stp) (M:MemS) (l_:List (Int × Int)) (b_:Int):gL t (M.sh l_ b_)=(gL t M).sh l_ b_:=by
 unfold gL
 simp only [aS,aU,aW,aI,aV,bF,bS,bT,aX,aC,bQ,sE] <;> rfl
theorem Eg (t:Stp) (M:MemS) (l_:List (Int × Int)) (b_:Int):du t (M.sh l_ b_)=(du t M).sh l_ b_:=by
 unfold du
 simp only [aS,aU,aW,aI,aV,bF,bS,bT,aX,aC,bQ,Ed,Ee] <;> rfl
theorem BX (t:Stp) (M:MemS) (l_:List (Int × Int)) (b_:Int):bX t (M.sh l_ b_)=bX t M:=by
 unfold bX
 simp only [aS,aU,aW,aI,aV,bF,bS,bT,aX,aC,bQ,nk] <;> rfl
theorem B0 (t:Stp) (M:MemS) (l_:List (Int × Int)) (b_:Int):bH t (M.sh l_ b_)=(bH t M).sh l_ b_:=by
 unfold bH
 simp only [aS,aU,aW,aI,aV,bF,bS,bT,aX,aC,bQ] <;> rfl
theorem B1 (t:Stp) (M:MemS) (l_:List (Int × Int)) (b_:Int):bJ t (M.sh l_ b_)=(bJ t M).sh l_ b_:=by
 unfold bJ
 simp only [aS,aU,aW,aI,aV,bF,bS,bT,aX,aC,bQ,BX] <;> rfl
theorem B2 (t:Stp) (M:MemS) (l_:List (Int × Int)) (b_:Int):bZ t (M.sh l_ b_)=(bZ t M).sh l_ b_:=by
 unfold bZ
 simp only [aS,aU,aW,aI,aV,bF,bS,bT,aX,aC,bQ,fV] <;> rfl
theorem B3 (t:Stp) (M:MemS) (l_:List (Int × Int)) (b_:Int):aQ t (M.sh l_ b_)=(aQ t M).sh l_ b_:=by
 unfold aQ
 simp only [aS,aU,aW,aI,aV,bF,bS,bT,aX,aC,bQ,B0,B1,B2] <;> rfl
theorem ye (M:MemS) (l_:List (Int × Int)) (b_:Int):ln (M.sh l_ b_)=ln M:=by
 unfold ln
 simp only [aS,aU,aW,aI,aV,bF,bS,bT,aX,aC,bQ] <;> rfl
theorem yf (t:Stp) (M:MemS) (l_:List (Int × Int)) (b_:Int):ge t (M.sh l_ b_)=ge t M:=by
 unfold ge
 simp only [aS,aU,aW,aI,aV,bF,bS,bT,aX,aC,bQ,nk,ye] <;> rfl
theorem yg (t:Stp) (M:MemS) (l_:List (Int × Int)) (b_:Int):cZ t (M.sh l_ b_)=(cZ t M).sh l_ b_:=by
 unfold cZ
 simp only [aS,aU,aW,aI,aV,bF,bS,bT,aX,aC,bQ,BS,yf] <;> rfl
theorem Eh (k v:Int) (M:MemS) (l_:List (Int × Int)) (b_:Int):cL k v (M.sh l_ b_)=(cL k v M).sh l_ b_:=by
 unfold cL
 simp only [aS,aU,aW,aI,aV,bF,bS,bT,aX,aC,bQ] <;> rfl
theorem Ei (S:Setup) (op n a b:Int) (M:MemS) (l_:List (Int × Int)) (b_:Int):aE S op n a b (M.sh l_ b_)=(aE S op n a b M).sh l_ b_:=by
 unfold aE
 simp only [aS,aU,aW,aI,aV,bF,bS,bT,aX,aC,bQ,Eh] <;> rfl
theorem HU (op sp:Int) (M:MemS) (l_:List (Int × Int)) (b_:Int):dV op sp (M.sh l_ b_)=dV op sp M:=by
 unfold dV
 simp only [aS,aU,aW,aI,aV,bF,bS,bT,aX,aC,bQ] <;> rfl
theorem HV (op sp:Int) (M:MemS) (l_:List (Int × Int)) (b_:Int):dW op sp (M.sh l_ b_)=dW op sp M:=by
 unfold dW
 simp only [aS,aU,aW,aI,aV,bF,bS,bT,aX,aC,bQ] <;> rfl
theorem HW (op sp pc fuel:Int) (M:MemS) (l_:List (Int × Int)) (b_:Int):dz op sp pc fuel (M.sh l_ b_)=(dz op sp pc fuel M).sh l_ b_:=by
 unfold dz
 simp only [aS,aU,aW,aI,aV,bF,bS,bT,aX,aC,bQ] <;> rfl
theorem Ej (S:Setup) (op n sp pc fuel:Int) (M:MemS) (l_:List (Int × Int)) (b_:Int):bV S op n sp pc fuel (M.sh l_ b_)=(bV S op n sp pc fuel M).sh l_ b_:=by
 unfold bV
 simp only [aS,aU,aW,aI,aV,bF,bS,bT,aX,aC,bQ,Ei,HU,HV,HW] <;> rfl
theorem vF (code:List Ins) (n:Nat) (M:MemS) (l_:List (Int × Int)) (b_:Int):(dQ code n (M.sh l_ b_))=(dQ code n M):=by
 unfold dQ
 simp only [aS,aU,aW,aI,aV,bF,bS,bT,aX,aC,bQ] <;> rfl
theorem Ek (op sp:Int) (r:VR) (l_:List (Int × Int)) (b_:Int):ci op sp (r.sh l_ b_)=(ci op sp r).sh l_ b_:=by
 unfold ci
 simp only [aS,aU,aW,aI,aV,bF,bS,bT,aX,aC,bQ] <;> rfl
theorem El (S:Setup) (code:List Ins) (n:Nat) (M:MemS) (l_:List (Int × Int)) (b_:Int):al S code n (M.sh l_ b_)=(al S code n M).sh l_ b_:=by
 unfold al
 simp only [aS,aU,aW,aI,aV,bF,bS,bT,aX,aC,bQ,Ej,vF,Ek] <;> rfl
theorem HX (code:List Ins) (n:Nat) (M:MemS) (l_:List (Int × Int)) (b_:Int):bn code n (M.sh l_ b_)=bn code n M:=by
 unfold bn
 simp only [aS,aU,aW,aI,aV,bF,bS,bT,aX,aC,bQ,vF] <;> rfl
theorem B4 (e fuel self other:Int) (M:MemS) (l_:List (Int × Int)) (b_:Int):aN e fuel self other (M.sh l_ b_)=(aN e fuel self other M).sh l_ b_:=by
 unfold aN
 simp only [aS,aU,aW,aI,aV,bF,bS,bT,aX,aC,bQ] <;> rfl
theorem ua (e:Int) (t:Stp) (self other:Int) (M:MemS) (l_:List (Int × Int)) (b_:Int):eG e t self other (M.sh l_ b_)=(eG e t self other M).sh l_ b_:=by
 unfold eG
 simp only [aS,aU,aW,aI,aV,bF,bS,bT,aX,aC,bQ,El,B4] <;> rfl
theorem ub (e:Int) (t:Stp) (self other:Int) (M:MemS) (l_:List (Int × Int)) (b_:Int):dj e t self other (M.sh l_ b_)=dj e t self other M:=by
 unfold dj
 simp only [aS,aU,aW,aI,aV,bF,bS,bT,aX,aC,bQ,HX] <;> rfl
theorem vG (r:VR) (over:Bool) (t:Stp) (cause:Bool) (M:MemS) (l_:List (Int × Int)) (b_:Int):dw (r.sh l_ b_) over t cause (M.sh l_ b_)=(dw r over t cause M).sh l_ b_:=by
 unfold dw
 simp only [aS,aU,aW,aI,aV,bF,bS,bT,aX,aC,bQ] <;> rfl
theorem Em (t:Stp) (o:Int) (c:Bool) (M:MemS) (l_:List (Int × Int)) (b_:Int):cM t o c (M.sh l_ b_)=(cM t o c M).sh l_ b_:=by
 unfold cM b6 jl
 rw [ua,ub,vG]
theorem Eo (t:Stp) (o:Int) (c:Bool) (M:MemS) (l_:List (Int × Int)) (b_:Int):cN t o c (M.sh l_ b_)=(cN t o c M).sh l_ b_:=by
 unfold cN b7 jm
 rw [ua,ub,vG]
theorem HY (t:Stp) (M:MemS) (l_:List (Int × Int)) (b_:Int):eV t (M.sh l_ b_)=(eV t M).sh l_ b_:=by
 unfold eV
 simp only [aS,aU,aW,aI,aV,bF,bS,bT,aX,aC,bQ,fV,Em] <;> rfl
theorem Ep (t:Stp) (M:MemS) (l_:List (Int × Int)) (b_:Int):cU t (M.sh l_ b_)=(cU t M).sh l_ b_:=by
 unfold cU
 simp only [aS,aU,aW,aI,aV,bF,bS,bT,aX,aC,bQ,fV,ua,ub] <;> rfl
theorem zP (t:Stp) (M:MemS) (l_:List (Int × Int)) (b_:Int):rO t (M.sh l_ b_)=rO t M:=by
 unfold rO
 simp only [aS,aU,aW,aI,aV,bF,bS,bT,aX,aC,bQ,nk] <;> rfl
theorem HZ (t:Stp) (M:MemS) (l_:List (Int × Int)) (b_:Int):vq t (M.sh l_ b_)=vq t M:=by
 unfold vq
 simp only [aS,aU,aW,aI,aV,bF,bS,bT,aX,aC,bQ,nk,zP] <;> rfl
theorem vH (t:Stp) (M:MemS) (l_:List (Int × Int)) (b_:Int):gu t (M.sh l_ b_)=(gu t M).sh l_ b_:=by
 unfold gu
 simp only [aS,aU,aW,aI,aV,bF,bS,bT,aX,aC,bQ,yd,HZ] <;> rfl
theorem B5 (t:Stp) (M:MemS) (l_:List (Int × Int)) (b_:Int):dL t (M.sh l_ b_)=(dL t M).sh l_ b_:=by
 unfold dL
 simp only [aS,aU,aW,aI,aV,bF,bS,bT,aX,aC,bQ,zP,vH] <;> rfl
theorem H3 (t:Stp) (M:MemS) (l_:List (Int × Int)) (b_:Int):rP t (M.sh l_ b_)=rP t M:=by
 unfold rP
 simp only [aS,aU,aW,aI,aV,bF,bS,bT,aX,aC,bQ,nk] <;> rfl
theorem Er (t:Stp) (M:MemS) (l_:List (Int × Int)) (b_:Int):eO t (M.sh l_ b_)=(eO t M).sh l_ b_:=by
 unfold eO
 simp only [aS,aU,aW,aI,aV,bF,bS,bT,aX,aC,bQ,H3] <;> rfl
theorem Es (t:Stp) (M:MemS) (l_:List (Int × Int)) (b_:Int):fJ t (M.sh l_ b_)=(fJ t M).sh l_ b_:=by
 unfold fJ
 simp only [aS,aU,aW,aI,aV,bF,bS,bT,aX,aC,bQ,fV] <;> rfl
theorem Et (t:Stp) (M:MemS) (l_:List (Int × Int)) (b_:Int):dS t (M.sh l_ b_)=(dS t M).sh l_ b_:=by
 unfold dS
 simp only [aS,aU,aW,aI,aV,bF,bS,bT,aX,aC,bQ,yg,Er,Es] <;> rfl
theorem vJ (t:Stp) (M:MemS) (l_:List (Int × Int)) (b_:Int):bP t (M.sh l_ b_)=(bP t M).sh l_ b_:=by
 unfold bP
 simp only [aS,aU,aW,aI,aV,bF,bS,bT,aX,aC,bQ,fV,B5] <;> rfl
theorem H4 (t:Stp) (M:MemS) (l_:List (Int × Int)) (b_:Int):eX t (M.sh l_ b_)=(eX t M).sh l_ b_:=by
 unfold eX
 simp only [aS,aU,aW,aI,aV,bF,bS,bT,aX,aC,bQ,fV,Eo] <;> rfl
theorem H5 (g:Gm) (M:MemS) (l:List (Int × Int)) (b:Int):g.step (M.sh l b)=g.step M:=rfl
theorem yh (g:Gm) (M:MemS) (l:List (Int × Int)) (b:Int):eH g (M.sh l b)=(eH g M).sh l b:=by
 unfold eH
 simp only [H5,aS,BW,HY,Ep,B3,vJ,Et,H4,Eg,aV,aI]
theorem Eu (g:Gm) (M:MemS) (l:List (Int × Int)) (b:Int):iU g (M.sh l b)=iU g M:=rfl
theorem zQ (g:Gm) (l:List (Int × Int)) (b:Int):∀ (n:Nat) (M:MemS),fU g n (M.sh l b)=(fU g n M).sh l b
 | 0,_=>rfl
 | n+1,M=>by rw [fU,fU,kl,kl,yh,bF];exact zQ g l b n _
def zR (g:Gm):Nat -> MemS -> Nat
 | 0,_=>0
 | f+1,M=>if iU g M=true then 0 else zR g f (kl g M)+1
theorem Ev {g:Gm}:∀ (m f:Nat) (M:MemS),dG g (m+1) M -> m < f -> zR g f M=m
 | m,0,M,_,h=>by omega
 | 0,f+1,M,h,_=>by
  rcases h.2 with ⟨_,e⟩ | ⟨_,e⟩
  ·rw [zR,if_pos e]
  ·exact e.elim
 | m+1,f+1,M,h,hf=>by
  rcases h.2 with ⟨e,_⟩ | ⟨e1,e2⟩
  ·omega
  ·rw [zR,if_neg (by rw [e1];simp),Ev m f _ e2 (by omega)]
def nl (g:Gm) (M:MemS):MemS:=fU g (zR g 1000 M+1) M
def NP (g:Gm) (M:MemS):List Eff:=fA g (zR g 1000 M+1) M
theorem Ew {g g':Gm} (h:GEq g g'):∀ (f:Nat) (M:MemS),zR g f M=zR g' f M
 | 0,_=>rfl
 | f+1,M=>by rw [zR,zR,Ec h,kl,kl,yc h,Ew h f]
theorem Ey {g g':Gm} (h:GEq g g') (M:MemS):nl g M=nl g' M:=by rw [nl,nl,Ew h,zO h]
theorem Ez (g:Gm) (l:List (Int × Int)) (b:Int):∀ (f:Nat) (M:MemS),zR g f (M.sh l b)=zR g f M
 | 0,_=>rfl
 | f+1,M=>by rw [zR,zR,Eu,kl,kl,yh,bF,Ez g l b f]
theorem yi (g:Gm) (M:MemS) (l:List (Int × Int)) (b:Int):nl g (M.sh l b)=(nl g M).sh l b:=by rw [nl,nl,Ez,zQ]
theorem qg (M:MemS):(MemS.sh ⟨M.cs,[],0⟩ M.lg M.base)=M:=by cases M;simp [MemS.sh]
theorem qh (g:Gm) {M N:MemS} (h:M.cs=N.cs):(nl g M).cs=(nl g N).cs:=by
 rw [<- qg M,<- qg N,yi,yi,h];rfl
def iC (g:Gm):Nat -> MemS -> List (Eff × Bool)
 | 0,_=>[]
 | n+1,M=>((eH g M).e,(eH g M).em) :: iC g n (kl g M)
theorem iE (g:Gm):∀ (n:Nat) (M:MemS),(iC g n M).length=n
 | 0,_=>rfl
 | n+1,M=>by rw [iC,List.length_cons,iE g n]
def lO:List (Eff × Bool) -> List Eff
 | []=>[]
 | x :: l=>(if x.2=true then [x.1] else [])++lO l
theorem vK (g:Gm):∀ (n:Nat) (M:MemS),lO (iC g n M)=fA g n M
 | 0,_=>rfl
 | n+1,M=>by rw [iC,lO,vK g n,fA]
theorem qj:∀ (l m:List (Eff × Bool)),lO (l++m)=lO l++lO m
 | [],m=>rfl
 | x :: l,m=>by rw [List.cons_append,lO,lO,qj l m,List.append_assoc]
theorem vL:∀ (l:List (Eff × Bool)),(lO l).length <= l.length
 | []=>Nat.le_refl _
 | x :: l=>by
  have:=vL l
  rw [lO,List.length_append,List.length_cons]
  split
  ·simp;omega
  ·simp;omega
theorem EA {l:List (Eff × Bool)} {i:Nat} {x:Eff × Bool} (h:l[i]?=some x) (e:x.2=true):lO (l.take (i+1))=lO (l.take i)++[x.1]:=by
 rw [List.take_add_one,h,qj]
 show _++((if x.2=true then [x.1] else [])++[])=_
 rw [if_pos e];rfl
theorem H6 {l:List (Eff × Bool)} {i:Nat} {x:Eff × Bool} (h:l[i]?=some x) (e:¬ x.2=true):lO (l.take (i+1))=lO (l.take i):=by
 rw [List.take_add_one,h,qj]
 show _++((if x.2=true then [x.1] else [])++[])=_
 rw [if_neg e];simp
theorem gv {g:Gm} {l:List (Eff × Bool)} {i r:Nat} {M:MemS} (h:l.drop i=iC g (r+1) M):l[i]?=some ((eH g M).e,(eH g M).em) /\ l.drop (i+1)=iC g r (kl g M):=by
 constructor
 ·have:=congrArg (·[0]?) h
  simpa [iC] using this
 ·have:=congrArg List.tail h
  rwa [List.tail_drop] at this
def uG (cs:List Int) (i:Nat):List Int:=cs.take i++List.replicate (cs.length - i) 0
theorem sF (n:Nat):iT [vI 0]=aK (List.replicate n 0):=by
 funext i k
 rcases k with _ | k
 ·have:(List.replicate n (0:Int)).getD i 0=0:=by
   rw [List.getD_eq_getElem?_getD,List.getElem?_replicate];split <;> rfl
  show vI 0=vI _
  rw [this]
 ·simp [iT,aK]
theorem vM (cs:List Int):iT [vI 0]=aK (uG cs 0):=by rw [sF cs.length];simp [uG]
theorem zS (cs:List Int):uG cs cs.length=cs:=by simp [uG]
theorem vN {cs:List Int} {i:Nat} (h:i < cs.length):dU (aK (uG cs i)) i 0 (vI (cs.getD i 0))=aK (uG cs (i+1)):=by
 rw [gl (by simp [uG];omega)]
 congr 1
 unfold uG
 rw [List.set_append_right _ _ (by simp;omega)]
 have e:cs.length - i=(cs.length - (i+1))+1:=by omega
 rw [e,List.replicate_succ,List.take_succ_eq_append_getElem h,List.append_assoc]
 simp [List.length_take,Nat.min_eq_left (Nat.le_of_lt h),h]
theorem MemH.len {mb:Nat} {M:MemS} {k:Nat} {T:HL} (h:MemH mb M k T):M.cs.length <= 1000000:=by
 cases h with
 | mk cb A cap Hl hs hc hl=>exact hc
theorem H7 (mb cb n:Nat) (A:Option Addr) (m cap:Nat) (base:Int) (F:HL) (hm:(mb,.lit [vS cb 0 n n,.slice A m cap,vI base] 186 (0,0)) ∈ F):Sp Tryz.prog 65 #[vP mb 0] [] F (λ u H'=>u=vI (n:Int) /\ H'=[]):=by
 refine Sp.run Tryz.func65 rfl (mc hm mn) (A:=[]) (Ts:=[]) rfl λ w0=>?_
 refine ae 15 [.ro 0] λ _=>?_
 exact RN.ret [] [] [] ⟨rfl,rfl⟩
theorem uc {mb:Nat} {M:MemS} {k:Nat} {T:HL} {F:HL} (h:MemH mb M k T) (hs:∀ x ∈ T,x ∈ F):Sp Tryz.prog 65 #[vP mb 0] [] F (λ u H'=>u=vI (M.cs.length:Int) /\ H'=[]):=by
 cases h with
 | mk cb A cap Hl hsl hc hl=>exact H7 mb cb M.cs.length A M.lg.length cap M.base F (hs _ (by simp))
theorem H8 {M:MemS} {i:Nat} (h:i < M.cs.length):M.get (i:Int)=M.cs.getD i 0:=by
 unfold MemS.get
 rw [if_pos (by omega),Int.toNat_natCast]
theorem B6 (mb:Nat) (M:MemS) (k:Nat) (T F:HL) (hM:MemH mb M k T) (hT:∀ x ∈ T,x ∈ F):Sp Tryz.prog 39 #[vP mb 0] [] F (λ u H'=>∃ q,H'=ap [(q,.rows 1 M.cs.length (aK M.cs) 3 (0,0))] [] /\ u=vS q 0 M.cs.length M.cs.length):=by
 have hl:=hM.len
 refine Sp.run Tryz.func39 rfl mn (A:=[]) (Ts:=[]) rfl λ w0=>?_
 refine ae 8 [] λ _=>aj (uc hM (λ x hx=>List.mem_append_right _ (hT x hx)))<|ai 8 [.mk M.cs.length M.cs.length] [(M.cs.length:Int)=((M.cs.length:Nat):Int) /\ (M.cs.length:Int)=((M.cs.length:Nat):Int) /\ M.cs.length <= M.cs.length /\ 8 * M.cs.length <= 140737488355328 /\ 1=1 /\ M.cs.length <= 9223372036854775807] λ n1=>aj (uc hM (λ x hx=>List.mem_append_right _ (hT x hx)))<|ae 4 [] λ _=>cR 0 (congrArg (λ v_=>(.rows 1 M.cs.length v_ 3 (0,0):Blk)) (show (iT [vI 0])=(aK (uG M.cs 0)) from (by rw [vM M.cs])))<|RN.loop (σ:=Nat) (λ i=>⟨[(0,vP mb 0),(3,vS (n1+0) 0 M.cs.length M.cs.length),(9,vI (M.cs.length:Int)),(10,vI (i:Int))],[((n1+0),.rows 1 M.cs.length (aK (uG M.cs i)) 3 (0,0))],[],i <= M.cs.length,M.cs.length - i⟩) 0 [0] [] (Nat.zero_le _) ?_
 rintro i hI2 mt3
 refine ae 6 [] λ _=>RN.em ((i:Int) < (M.cs.length:Int)) 11 (λ h4=>?_) λ h4=>?_
 ·refine ae 16 [] λ _=>aj (av (i:Int) hM (λ x hx=>List.mem_append_right _ (hT x hx)))<|ai 9 [.ix i,.row 0 i 0,.nw] [bd ((i:Int)+1),(0+i * 1)=i * 1+0 /\ i < M.cs.length,(i:Int)=((i:Nat):Int) /\ i < M.cs.length] λ _=>cR 0 (congrArg (λ v_=>(.rows 1 M.cs.length v_ 3 (0,0):Blk)) (show (dU (aK (uG M.cs i)) i 0 (vI (M.get (i:Int))))=(aK (uG M.cs (i+1))) from (by rw [<- vN (cs:=M.cs) (i:=i) (by omega)];rw [H8 (by omega)]))) ?_
  refine mt3 (i+1) [0] [] ?_
  try dsimp only
  exact ⟨by omega,by omega⟩
 ·refine ae 12 [] λ _=>RN.ret [] [0] [] (v:=vS (n1+0) 0 M.cs.length M.cs.length) (H':=[((n1+0),.rows 1 M.cs.length (aK (uG M.cs i)) 3 (0,0))]) ?_
  have ei:i=M.cs.length:=by omega
  subst ei
  exact ⟨_,by rw [zS];rfl,rfl⟩
theorem H9 (q:Nat) (cs:List Int) (k cap:Nat) (F:HL) (hq:(q,.rows 1 cs.length (aK cs) 3 (0,0)) ∈ F) (hc:cs.length <= 1000000) (hk:k <= 100000000) (hcap:cs.length <= cap):Sp Tryz.prog 63 #[vS q 0 cs.length cap] [] F (λ u H'=>∃ x:Nat × HL,H'=ap [] [x.2] /\ (u=vP x.1 0 /\ MemH x.1 ⟨cs,[],0⟩ k x.2)):=by
 refine Sp.run Tryz.func63 rfl (mc hq mn) (A:=[]) (Ts:=[]) rfl λ w0=>?_
 refine ai 24 [.mk cs.length cs.length] [(cs.length:Int)=((cs.length:Nat):Int) /\ (cs.length:Int)=((cs.length:Nat):Int) /\ cs.length <= cs.length /\ 8 * cs.length <= 140737488355328 /\ 1=1 /\ cs.length <= 9223372036854775807] λ n1=>cR 1 (congrArg (λ v_=>(.rows 1 cs.length v_ 3 (0,0):Blk)) (show (iT [vI 0])=(aK (uG cs 0)) from (by rw [vM cs])))<|RN.loop (σ:=Nat) (λ i=>⟨[(0,vS q 0 cs.length cap),(3,vP (n1+1) 0),(11,vI (cs.length:Int)),(12,vI (i:Int))],[((n1+1),.lit [vS (n1+0) 0 cs.length cs.length,.slice none 0 0,vI 0] 186 (0,0)),((n1+0),.rows 1 cs.length (aK (uG cs i)) 3 (0,0))],[],i <= cs.length,cs.length - i⟩) 0 [0,1] [] (Nat.zero_le _) ?_
 rintro i hI2 mt3
 refine ae 6 [] λ _=>RN.em ((i:Int) < (cs.length:Int)) 13 (λ h4=>?_) λ h4=>?_
 ·refine ae 11 [] λ _=>RN.draw [10] []<|aH [] [0,4,5,6,1,7,2,8,3,9] [.ix i,.rorow 0 i 0,.own 0,.ix i] [(i:Int)=((i:Nat):Int) /\ i < cs.length,(0+i * 1)=i * 1+0 /\ i < cs.length,(i:Int)=((i:Nat):Int) /\ i < cs.length]<|RD.one 10 (ee [] [.row 1 i 0] [(0+i * 1)=i * 1+0 /\ i < cs.length] λ _=>?_)
  refine RD.fin<|ai 6 [.nw] [bd ((i:Int)+1)] λ _=>cR 1 (congrArg (λ v_=>(.rows 1 cs.length v_ 3 (0,0):Blk)) (show (dU (aK (uG cs i)) i 0 (vI (cs.getD i 0)))=(aK (uG cs (i+1))) from (by rw [<- vN (cs:=cs) (i:=i) (by omega)]))) ?_
  refine mt3 (i+1) [0,1] [] ?_
  try dsimp only
  exact ⟨by omega,by omega⟩
 ·refine ae 12 [] λ _=>RN.ret [] [0,1] [] (v:=vP (n1+1) 0) (H':=[((n1+1),.lit [vS (n1+0) 0 cs.length cs.length,.slice none 0 0,vI 0] 186 (0,0)),((n1+0),.rows 1 cs.length (aK (uG cs i)) 3 (0,0))]) ?_
  have ei:i=cs.length:=by omega
  subst ei
  rw [zS]
  have hmm:=MemH.mk (mb:=(n1+1)) (M:=⟨cs,[],0⟩) (k:=k) (n1+0) none 0 [] (SlIs.nil _ _) hc (show ([]:List (Int × Int)).length+k <= 100000000 by simpa using hk)
  exact ⟨((n1+1),_),rfl,rfl,hmm⟩
def au (n most:Int):Int:=(if n < 0 then aY (0 - aY (n+1)) else n).tmod most
theorem fW (n:Int) (most:Int) (h0:most ≠ 0) (F:HL):Sp Tryz.prog 10 #[vI n,vI most] [] F (λ u H'=>u=vI (au n most) /\ H'=[]):=by
 refine Sp.run Tryz.func10 rfl mn (A:=[]) (Ts:=[]) rfl λ w0=>?_
 refine ae 12 [] λ _=>RN.em (n < 0) 6 (λ h1=>?_) λ h1=>?_
 ·refine pY 16 [.gen,.dv] (λ _=>[most ≠ 0]) (λ _=>(ac h0 an)) λ _=>RN.ret [] [] [] (v:=vI ((IntKind.i64.wrap (0 - (IntKind.i64.wrap (n+1)))).tmod most)) (H':=[]) ?_
  exact ⟨by unfold au;simp [*],rfl⟩
 ·refine pY 11 [.dv] (λ _=>[most ≠ 0]) (λ _=>(ac h0 an)) λ _=>RN.ret [] [] [] (v:=vI (n.tmod most)) (H':=[]) ?_
  exact ⟨by unfold au;simp [*],rfl⟩
def ql (n:Int):Int:=au n 1000
def oc (n:Int):Int:=aY (512 * aY (1+(aY ((ql n).tdiv 7)).tmod 5))
def rQ (r:Int):List V2:=[⟨aY (0 - r),aY (0 - r)⟩,⟨r,aY (0 - r)⟩,⟨r,r⟩,⟨aY (0 - r),r⟩]
def vO (r:Int):List V2:=[⟨aY (0 - r),aY (0 - r)⟩,⟨r,aY (0 - r)⟩,⟨0,r⟩]
def vQ (r:Int):List V2:=[⟨aY (-2 * r),-300⟩,⟨aY (2 * r),-300⟩,⟨aY (2 * r),300⟩,⟨aY (-2 * r),300⟩]
def cJ (n:Int):Int × List V2:=if (ql n).tmod 7=0 then (oc n,[]) else if (ql n).tmod 7=1 then (oc n,[]) else if (ql n).tmod 7=2 then (oc n,[]) else if (ql n).tmod 7=3 then (0,rQ (oc n)) else if (ql n).tmod 7=4 then (0,rQ (oc n)) else if (ql n).tmod 7=5 then (0,vO (oc n)) else (0,vQ (oc n))
def ShH (s:Shp) (T:HL):Prop:=∀ F,(∀ x ∈ T,x ∈ F) -> ShIn F s
theorem ShH.circle (r:Int) (A:Option Addr) (cap:Nat):ShH ⟨r,[],A,cap⟩ []:=λ F _=>.circle r A cap
theorem ShH.poly (r:Int) (l:List V2) (b cap:Nat) (h3:3 <= l.length) (h4:l.length <= cap) (h5:l.length <= 1000000):ShH ⟨r,l,some ⟨b,0,none⟩,cap⟩ [(b,.rows 2 cap (jz l) 29 (0,0))]:=λ F h=>.poly r l b cap (h _ (by simp)) h3 h4 h5
theorem vR (n:Int) (F:HL):Sp Tryz.prog 30 #[vI n] [] F (λ u H'=>∃ x:Option Addr × Nat × HL,H'=ap [] [x.2.2] /\ (u=LN ⟨(cJ n).1,(cJ n).2,x.1,x.2.1⟩ /\ ShH ⟨(cJ n).1,(cJ n).2,x.1,x.2.1⟩ x.2.2)):=by
 refine Sp.run Tryz.func30 rfl mn (A:=[]) (Ts:=[]) rfl λ w0=>?_
 refine ae 8 [] λ n1=>aj (fW n 1000 (by decide) _)<|ae 28 [] λ _=>RN.em ((ql n).tmod 7=0) 14 (λ h2=>?_) λ h2=>?_
 ·refine ae 11 [.own 0,.own 0] λ _=>RN.ret [.own 0,.own 0] [] [] (v:=.agg #[vI (IntKind.i64.wrap (512 * (IntKind.i64.wrap (1+((IntKind.i64.wrap ((ql n).tdiv 7)).tmod 5))))),.slice none 0 0]) (H':=[]) ?_
  have e:cJ n=(oc n,[]):=by simp only [cJ,if_pos h2]
  rw [e]
  exact ⟨(none,0,[]),rfl,rfl,ShH.circle _ _ _⟩
 ·refine ae 7 [] λ _=>RN.em ((ql n).tmod 7=1) 14 (λ h3=>?_) λ h3=>?_
  ·refine ae 11 [.own 0,.own 0] λ _=>RN.ret [.own 0,.own 0] [] [] (v:=.agg #[vI (IntKind.i64.wrap (512 * (IntKind.i64.wrap (1+((IntKind.i64.wrap ((ql n).tdiv 7)).tmod 5))))),.slice none 0 0]) (H':=[]) ?_
   have e:cJ n=(oc n,[]):=by simp only [cJ,if_neg h2,if_pos h3]
   rw [e]
   exact ⟨(none,0,[]),rfl,rfl,ShH.circle _ _ _⟩
  ·refine ae 6 [] λ _=>RN.em ((ql n).tmod 7=2) 14 (λ h4=>?_) λ h4=>?_
   ·refine ae 8 [.own 0,.own 0] λ _=>RN.ret [.own 0,.own 0] [] [] (v:=.agg #[vI (IntKind.i64.wrap (512 * (IntKind.i64.wrap (1+((IntKind.i64.wrap ((ql n).tdiv 7)).tmod 5))))),.slice none 0 0]) (H':=[]) ?_
    have e:cJ n=(oc n,[]):=by simp only [cJ,if_neg h2,if_neg h3,if_pos h4]
    rw [e]
    exact ⟨(none,0,[]),rfl,rfl,ShH.circle _ _ _⟩
   ·refine ae 8 [] λ _=>RN.em ((ql n).tmod 7=3) 20 (λ h5=>?_) λ h5=>?_
    ·refine ae 27 [.own 1,.own 1] λ n6=>RN.dn 0 (.rows 2 4 (jz (rQ (oc n))) 29 (0,0))<|RN.ret [.own 1,.own 1] [0] [] (v:=.agg #[vI 0,vS (n6+0) 0 4 4]) (H':=[((n6+0),.rows 2 4 (jz (rQ (oc n))) 29 (0,0))]) ?_
     have e:cJ n=(0,rQ (oc n)):=by simp only [cJ,if_neg h2,if_neg h3,if_neg h4,if_pos h5]
     rw [e]
     exact ⟨(some ⟨(n6+0),0,none⟩,4,_),rfl,rfl,ShH.poly 0 (rQ (oc n)) (n6+0) 4 (Nat.le_of_ble_eq_true rfl) (Nat.le_of_ble_eq_true rfl) (Nat.le_of_ble_eq_true rfl)⟩
    ·refine ae 6 [] λ _=>RN.em ((ql n).tmod 7=4) 20 (λ h7=>?_) λ h7=>?_
     ·refine ae 24 [.own 1,.own 1] λ n8=>RN.dn 0 (.rows 2 4 (jz (rQ (oc n))) 29 (0,0))<|RN.ret [.own 1,.own 1] [0] [] (v:=.agg #[vI 0,vS (n8+0) 0 4 4]) (H':=[((n8+0),.rows 2 4 (jz (rQ (oc n))) 29 (0,0))]) ?_
      have e:cJ n=(0,rQ (oc n)):=by simp only [cJ,if_neg h2,if_neg h3,if_neg h4,if_neg h5,if_pos h7]
      rw [e]
      exact ⟨(some ⟨(n8+0),0,none⟩,4,_),rfl,rfl,ShH.poly 0 (rQ (oc n)) (n8+0) 4 (Nat.le_of_ble_eq_true rfl) (Nat.le_of_ble_eq_true rfl) (Nat.le_of_ble_eq_true rfl)⟩
     ·refine ae 7 [] λ _=>RN.em ((ql n).tmod 7=5) 41 (λ h9=>?_) λ h9=>?_
      ·refine ae 19 [.own 1,.own 1] λ n10=>RN.dn 0 (.rows 2 3 (jz (vO (oc n))) 29 (0,0))<|RN.ret [.own 1,.own 1] [0] [] (v:=.agg #[vI 0,vS (n10+0) 0 3 3]) (H':=[((n10+0),.rows 2 3 (jz (vO (oc n))) 29 (0,0))]) ?_
       have e:cJ n=(0,vO (oc n)):=by simp only [cJ,if_neg h2,if_neg h3,if_neg h4,if_neg h5,if_neg h7,if_pos h9]
       rw [e]
       exact ⟨(some ⟨(n10+0),0,none⟩,3,_),rfl,rfl,ShH.poly 0 (vO (oc n)) (n10+0) 3 (Nat.le_of_ble_eq_true rfl) (Nat.le_of_ble_eq_true rfl) (Nat.le_of_ble_eq_true rfl)⟩
      ·refine ae 23 [.own 1,.own 1] λ n11=>RN.dn 0 (.rows 2 4 (jz (vQ (oc n))) 29 (0,0))<|RN.ret [.own 1,.own 1] [0] [] (v:=.agg #[vI 0,vS (n11+0) 0 4 4]) (H':=[((n11+0),.rows 2 4 (jz (vQ (oc n))) 29 (0,0))]) ?_
       have e:cJ n=(0,vQ (oc n)):=by simp only [cJ,if_neg h2,if_neg h3,if_neg h4,if_neg h5,if_neg h7,if_neg h9]
       rw [e]
       exact ⟨(some ⟨(n11+0),0,none⟩,4,_),rfl,rfl,ShH.poly 0 (vQ (oc n)) (n11+0) 4 (Nat.le_of_ble_eq_true rfl) (Nat.le_of_ble_eq_true rfl) (Nat.le_of_ble_eq_true rfl)⟩
theorem od {S:Setup} (h:SetN S) {i:Nat} (hi:i < S.nb):0 <= af S i /\ af S i+8 <= sizeOf S /\ sizeOf S <= 20000000:=by
 have:=h.pl
 have:=h.nb
 unfold af sizeOf
 rw [if_neg (by omega),if_neg (by omega)]
 omega
theorem B7 {S:Setup} (h:SetN S):48 <= sizeOf S /\ sizeOf S <= 20000000:=by
 have:=h.pl
 have:=h.nb
 unfold sizeOf
 omega
def eo (S:Setup):Nat -> List Int
 | 0=>List.replicate (sizeOf S).toNat 0
 | i+1=>((((((eo S i).set (af S i).toNat (S.body i).mot.px).set (af S i+1).toNat (S.body i).mot.py).set (af S i+2).toNat (S.body i).mot.vx).set (af S i+3).toNat (S.body i).mot.vy).set (af S i+4).toNat (S.body i).a).set (af S i+5).toNat (S.body i).b
theorem gw (S:Setup):∀ i,(eo S i).length=(sizeOf S).toNat
 | 0=>by simp [eo]
 | i+1=>by simp [eo,gw S i]
theorem B8 {S:Setup} (h:SetN S) {i:Nat} (hi:i < S.nb):dU (dU (dU (dU (dU (dU (aK (eo S i)) (af S i).toNat 0 (vI (S.body i).mot.px)) (af S i+1).toNat 0 (vI (S.body i).mot.py)) (af S i+2).toNat 0 (vI (S.body i).mot.vx)) (af S i+3).toNat 0 (vI (S.body i).mot.vy)) (af S i+4).toNat 0 (vI (S.body i).a)) (af S i+5).toNat 0 (vI (S.body i).b)=aK (eo S (i+1)):=by
 have:=od h hi
 rw [gl,gl,gl,gl,gl,gl,eo] <;> (simp only [List.length_set,gw];omega)
open Go.Shelf
section
variable {r:Option Nat} {P:Program} {N:Nat} {D:List Deferred} {F:HL} {w0:World} {R:HL} {s:Cfg} {Q:Exit -> Act -> World -> Prop}
variable {α:Type} {e:Enc α} {T:TypeId} {inf:TypeInfo} {z:Value}
def vT (P:Program) (N j:Nat) (oo:Option Oper) (s:Cfg):Option (Option Addr × Nat × Nat × TypeId × Option Addr × Nat × Nat × TypeId × HL):=match oo with
 | some o=>match Hz P o s.L,s.Ts[j]?,([j]++oth [j] s.Ts.length).isPerm (List.range s.Ts.length) && (fe N o.dst undef s.L).isSome with
  | some (A,n,cap,T,B,m,c',tx),some Hl,true=>some (A,n,cap,T,B,m,c',tx,Hl)
  | _,_,_=>none
 | none=>none
theorem mu {j:Nat} {oo:Option Oper} {A:Option Addr} {n cap m c':Nat} {B:Option Addr} {tx:TypeId} {Hl:HL} (h:vT P N j oo s=some (A,n,cap,T,B,m,c',tx,Hl)) :
  ∃ o a1 a2 t e',oo=some o /\ o.guard=none /\ o.op=.call { callee:=.builtin .append,args:=#[a1,a2],argTypes:=#[t,tx] } /\ (mO s.L a1 && mO s.L a2)=true /\ jd s.L a1=.slice A n cap /\ jd s.L a2=.slice B m c' /\ P.underlying t=some (.slice T) /\ P.underlying tx=some (.slice e') /\
   s.Ts[j]?=some Hl /\ ([j]++oth [j] s.Ts.length).isPerm (List.range s.Ts.length)=true /\ (fe N o.dst undef s.L).isSome=true:=by
 unfold vT at h
 split at h
 case h_2=>cases h
 rename_i o
 split at h
 case h_2=>cases h
 rename_i A' n' cap' T' B' m' c2 tx' Hl' h1 h3 h4
 simp only [Option.some.injEq,Prod.mk.injEq] at h
 obtain ⟨e1,e2,e3,e4,e5,e6,e7,e8,e9⟩:=h
 subst e1;subst e2;subst e3;subst e4;subst e5;subst e6;subst e7;subst e8;subst e9
 obtain ⟨a1,a2,t,e',q1,q2,q3,q4,q5,q6,q7⟩:=sm h1
 rw [Bool.and_eq_true] at h4
 exact ⟨o,a1,a2,t,e',rfl,q1,q2,q3,q4,q5,q6,q7,h3,h4.1,h4.2⟩
end
end Go.Proofs.YtgdcbiiopbpgaaaGreatDoor
