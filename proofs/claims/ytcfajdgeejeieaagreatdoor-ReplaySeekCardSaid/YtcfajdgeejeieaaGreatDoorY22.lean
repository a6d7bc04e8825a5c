import Derived.Test.YtcfajdgeejeieaaGreatDoorY21
import Derived.Test.YtcfajdgeejeieaaGreatDoorY08
set_option maxHeartbeats 4000000
set_option maxRecDepth 100000
set_option linter.unusedSimpArgs false
set_option linter.unusedVariables false
namespace Go.Proofs.YtcfajdgeejeieaaGreatDoor
open Go.RowKit
def MemS.sh (M:MemS) (l:List (Int × Int)) (b:Int):MemS:=⟨M.cs,l++M.lg,b⟩
def VR.sh (r:VR) (l:List (Int × Int)) (b:Int):VR:={ r with M:=r.M.sh l b }
theorem aS (M:MemS) (l:List (Int × Int)) (b i:Int):(M.sh l b).get i=M.get i:=rfl
theorem aU (M:MemS) (l:List (Int × Int)) (b i v:Int):(M.sh l b).set i v=(M.set i v).sh l b:=by
 unfold MemS.set MemS.sh
 dsimp only
 split
 ·simp
 ·rfl
theorem aX (M N:MemS) (l:List (Int × Int)) (b:Int) (c:Prop) [Decidable c]:(if c then M.sh l b else N.sh l b)=(if c then M else N).sh l b:=by split <;> rfl
theorem aI (M N:VR) (l:List (Int × Int)) (b:Int) (c:Prop) [Decidable c]:(if c then M.sh l b else N.sh l b)=(if c then M else N).sh l b:=by split <;> rfl
theorem aV (M:MemS) (l:List (Int × Int)) (b v:Int) (e:Eff) (em:Bool):(⟨M.sh l b,v,e,em⟩:VR)=VR.sh ⟨M,v,e,em⟩ l b:=rfl
theorem aC (code:List Ins) (M:MemS) (l:List (Int × Int)) (b:Int):aZ code (M.sh l b)=aZ code M:=rfl
theorem bP (r:VR) (l:List (Int × Int)) (b:Int):(r.sh l b).z=r.z.sh l b:=rfl
theorem bA (r:VR) (l:List (Int × Int)) (b:Int):(r.sh l b).M=r.M.sh l b:=rfl
theorem bQ (r:VR) (l:List (Int × Int)) (b:Int):(r.sh l b).v=r.v:=rfl
theorem bH (r:VR) (l:List (Int × Int)) (b:Int):(r.sh l b).e=r.e:=rfl
theorem aW (r:VR) (l:List (Int × Int)) (b:Int):(r.sh l b).em=r.em:=rfl
theorem mQ (S:Setup) (M:MemS) (k:Int) (l_:List (Int × Int)) (b_:Int):aq S (M.sh l_ b_) k=aq S M k:=by
 unfold aq
 simp only [aS,aU,aX,aI,aV,bA,bQ,bH,aW,aC,bP] <;> rfl
theorem fP (t:Stp) (ph j:Int) (M:MemS) (l_:List (Int × Int)) (b_:Int):aL t ph j (M.sh l_ b_)=(aL t ph j M).sh l_ b_:=by
 unfold aL
 simp only [aS,aU,aX,aI,aV,bA,bQ,bH,aW,aC,bP] <;> rfl
theorem xC (t:Stp) (k:Int) (m:Mot) (M:MemS) (l_:List (Int × Int)) (b_:Int):dC t k m (M.sh l_ b_)=(dC t k m M).sh l_ b_:=by
 unfold dC
 simp only [aS,aU,aX,aI,aV,bA,bQ,bH,aW,aC,bP] <;> rfl
theorem Bq (t:Stp) (c sp pos lo hi:Int) (M:MemS) (l_:List (Int × Int)) (b_:Int):dT t c sp pos lo hi (M.sh l_ b_)=(dT t c sp pos lo hi M).sh l_ b_:=by
 unfold dT
 simp only [aS,aU,aX,aI,aV,bA,bQ,bH,aW,aC,bP] <;> rfl
theorem Br (t:Stp) (M:MemS) (l_:List (Int × Int)) (b_:Int):bd t (M.sh l_ b_)=(bd t M).sh l_ b_:=by
 unfold bd
 simp only [aS,aU,aX,aI,aV,bA,bQ,bH,aW,aC,bP] <;> rfl
theorem Bt (t:Stp) (M:MemS) (l_:List (Int × Int)) (b_:Int):br t (M.sh l_ b_)=(br t M).sh l_ b_:=by
 unfold br
 simp only [aS,aU,aX,aI,aV,bA,bQ,bH,aW,aC,bP] <;> rfl
theorem Bu (t:Stp) (M:MemS) (l_:List (Int × Int)) (b_:Int):bV t (M.sh l_ b_)=(bV t M).sh l_ b_:=by
 unfold bV
 simp only [aS,aU,aX,aI,aV,bA,bQ,bH,aW,aC,bP,fP] <;> rfl
theorem Bv (t:Stp) (M:MemS) (l_:List (Int × Int)) (b_:Int):aO t (M.sh l_ b_)=(aO t M).sh l_ b_:=by
 unfold aO
 simp only [aS,aU,aX,aI,aV,bA,bQ,bH,aW,aC,bP,Br,Bt,Bu] <;> rfl
theorem DF (t:Stp) (M:MemS) (l_:List (Int × Int)) (b_:Int):fK t (M.sh l_ b_)=(fK t M).sh l_ b_:=by
 unfold fK
 simp only [aS,aU,aX,aI,aV,bA,bQ,bH,aW,aC,bP] <;> rfl
theorem rX (M:MemS) (l_:List (Int × Int)) (b_:Int):∀ n,cC (M.sh l_ b_) n=(cC M n).sh l_ b_
 | 0=>rfl
 | n+1=>by rw [cC,cC,rX M l_ b_ n,aU]
theorem DG (t:Stp) (M:MemS) (l_:List (Int × Int)) (b_:Int):gF t (M.sh l_ b_)=(gF t M).sh l_ b_:=by
 unfold gF
 simp only [aS,aU,aX,aI,aV,bA,bQ,bH,aW,aC,bP,rX] <;> rfl
theorem DH (t:Stp) (M:MemS) (l_:List (Int × Int)) (b_:Int):dp t (M.sh l_ b_)=(dp t M).sh l_ b_:=by
 unfold dp
 simp only [aS,aU,aX,aI,aV,bA,bQ,bH,aW,aC,bP,DF,DG] <;> rfl
theorem Bw (t:Stp) (M:MemS) (l_:List (Int × Int)) (b_:Int):bW t (M.sh l_ b_)=bW t M:=by
 unfold bW
 simp only [aS,aU,aX,aI,aV,bA,bQ,bH,aW,aC,bP,mQ] <;> rfl
theorem Bz (t:Stp) (M:MemS) (l_:List (Int × Int)) (b_:Int):bE t (M.sh l_ b_)=(bE t M).sh l_ b_:=by
 unfold bE
 simp only [aS,aU,aX,aI,aV,bA,bQ,bH,aW,aC,bP] <;> rfl
theorem BA (t:Stp) (M:MemS) (l_:List (Int × Int)) (b_:Int):bJ t (M.sh l_ b_)=(bJ t M).sh l_ b_:=by
 unfold bJ
 simp only [aS,aU,aX,aI,aV,bA,bQ,bH,aW,aC,bP,Bw] <;> rfl
theorem BB (t:Stp) (M:MemS) (l_:List (Int × Int)) (b_:Int):bX t (M.sh l_ b_)=(bX t M).sh l_ b_:=by
 unfold bX
 simp only [aS,aU,aX,aI,aV,bA,bQ,bH,aW,aC,bP,fP] <;> rfl
theorem BC (t:Stp) (M:MemS) (l_:List (Int × Int)) (b_:Int):aP t (M.sh l_ b_)=(aP t M).sh l_ b_:=by
 unfold aP
 simp only [aS,aU,aX,aI,aV,bA,bQ,bH,aW,aC,bP,Bz,BA,BB] <;> rfl
theorem xD (M:MemS) (l_:List (Int × Int)) (b_:Int):kV (M.sh l_ b_)=kV M:=by
 unfold kV
 simp only [aS,aU,aX,aI,aV,bA,bQ,bH,aW,aC,bP] <;> rfl
theorem xE (t:Stp) (M:MemS) (l_:List (Int × Int)) (b_:Int):fX t (M.sh l_ b_)=fX t M:=by
 unfold fX
 simp only [aS,aU,aX,aI,aV,bA,bQ,bH,aW,aC,bP,mQ,xD] <;> rfl
theorem xF (t:Stp) (M:MemS) (l_:List (Int × Int)) (b_:Int):cY t (M.sh l_ b_)=(cY t M).sh l_ b_:=by
 unfold cY
 simp only [aS,aU,aX,aI,aV,bA,bQ,bH,aW,aC,bP,Bq,xE] <;> rfl
theorem DI (k v:Int) (M:MemS) (l_:List (Int × Int)) (b_:Int):cJ k v (M.sh l_ b_)=(cJ k v M).sh l_ b_:=by
 unfold cJ
 simp only [aS,aU,aX,aI,aV,bA,bQ,bH,aW,aC,bP] <;> rfl
theorem DJ (S:Setup) (op n a b:Int) (M:MemS) (l_:List (Int × Int)) (b_:Int):aE S op n a b (M.sh l_ b_)=(aE S op n a b M).sh l_ b_:=by
 unfold aE
 simp only [aS,aU,aX,aI,aV,bA,bQ,bH,aW,aC,bP,DI] <;> rfl
theorem G7 (op sp:Int) (M:MemS) (l_:List (Int × Int)) (b_:Int):dN op sp (M.sh l_ b_)=dN op sp M:=by
 unfold dN
 simp only [aS,aU,aX,aI,aV,bA,bQ,bH,aW,aC,bP] <;> rfl
theorem G8 (op sp:Int) (M:MemS) (l_:List (Int × Int)) (b_:Int):dP op sp (M.sh l_ b_)=dP op sp M:=by
 unfold dP
 simp only [aS,aU,aX,aI,aV,bA,bQ,bH,aW,aC,bP] <;> rfl
theorem G9 (op sp pc fuel:Int) (M:MemS) (l_:List (Int × Int)) (b_:Int):dt op sp pc fuel (M.sh l_ b_)=(dt op sp pc fuel M).sh l_ b_:=by
 unfold dt
 simp only [aS,aU,aX,aI,aV,bA,bQ,bH,aW,aC,bP] <;> rfl
theorem DL (S:Setup) (op n sp pc fuel:Int) (M:MemS) (l_:List (Int × Int)) (b_:Int):bU S op n sp pc fuel (M.sh l_ b_)=(bU S op n sp pc fuel M).sh l_ b_:=by
 unfold bU
 simp only [aS,aU,aX,aI,aV,bA,bQ,bH,aW,aC,bP,DJ,G7,G8,G9] <;> rfl
theorem uX (code:List Ins) (n:Nat) (M:MemS) (l_:List (Int × Int)) (b_:Int):(dK code n (M.sh l_ b_))=(dK code n M):=by
 unfold dK
 simp only [aS,aU,aX,aI,aV,bA,bQ,bH,aW,aC,bP] <;> rfl
theorem DM (op sp:Int) (r:VR) (l_:List (Int × Int)) (b_:Int):ci op sp (r.sh l_ b_)=(ci op sp r).sh l_ b_:=by
 unfold ci
 simp only [aS,aU,aX,aI,aV,bA,bQ,bH,aW,aC,bP] <;> rfl
theorem DN (S:Setup) (code:List Ins) (n:Nat) (M:MemS) (l_:List (Int × Int)) (b_:Int):al S code n (M.sh l_ b_)=(al S code n M).sh l_ b_:=by
 unfold al
 simp only [aS,aU,aX,aI,aV,bA,bQ,bH,aW,aC,bP,DL,uX,DM] <;> rfl
theorem Hb (code:List Ins) (n:Nat) (M:MemS) (l_:List (Int × Int)) (b_:Int):bg code n (M.sh l_ b_)=bg code n M:=by
 unfold bg
 simp only [aS,aU,aX,aI,aV,bA,bQ,bH,aW,aC,bP,uX] <;> rfl
theorem BD (e fuel self other:Int) (M:MemS) (l_:List (Int × Int)) (b_:Int):aM e fuel self other (M.sh l_ b_)=(aM e fuel self other M).sh l_ b_:=by
 unfold aM
 simp only [aS,aU,aX,aI,aV,bA,bQ,bH,aW,aC,bP] <;> rfl
theorem tw (e:Int) (t:Stp) (self other:Int) (M:MemS) (l_:List (Int × Int)) (b_:Int):eC e t self other (M.sh l_ b_)=(eC e t self other M).sh l_ b_:=by
 unfold eC
 simp only [aS,aU,aX,aI,aV,bA,bQ,bH,aW,aC,bP,DN,BD] <;> rfl
theorem tz (e:Int) (t:Stp) (self other:Int) (M:MemS) (l_:List (Int × Int)) (b_:Int):dg e t self other (M.sh l_ b_)=dg e t self other M:=by
 unfold dg
 simp only [aS,aU,aX,aI,aV,bA,bQ,bH,aW,aC,bP,Hb] <;> rfl
theorem uY (r:VR) (over:Bool) (t:Stp) (cause:Bool) (M:MemS) (l_:List (Int × Int)) (b_:Int):dq (r.sh l_ b_) over t cause (M.sh l_ b_)=(dq r over t cause M).sh l_ b_:=by
 unfold dq
 simp only [aS,aU,aX,aI,aV,bA,bQ,bH,aW,aC,bP] <;> rfl
theorem DP (t:Stp) (o:Int) (c:Bool) (M:MemS) (l_:List (Int × Int)) (b_:Int):cL t o c (M.sh l_ b_)=(cL t o c M).sh l_ b_:=by
 unfold cL bZ i4
 rw [tw,tz,uY]
theorem DQ (t:Stp) (o:Int) (c:Bool) (M:MemS) (l_:List (Int × Int)) (b_:Int):cM t o c (M.sh l_ b_)=(cM t o c M).sh l_ b_:=by
 unfold cM b6 i8
 rw [tw,tz,uY]
theorem Hc (t:Stp) (M:MemS) (l_:List (Int × Int)) (b_:Int):eT t (M.sh l_ b_)=(eT t M).sh l_ b_:=by
 unfold eT
 simp only [aS,aU,aX,aI,aV,bA,bQ,bH,aW,aC,bP,fP,DP] <;> rfl
theorem DS (t:Stp) (M:MemS) (l_:List (Int × Int)) (b_:Int):cT t (M.sh l_ b_)=(cT t M).sh l_ b_:=by
 unfold cT
 simp only [aS,aU,aX,aI,aV,bA,bQ,bH,aW,aC,bP,fP,tw,tz] <;> rfl
theorem zn (t:Stp) (M:MemS) (l_:List (Int × Int)) (b_:Int):re t (M.sh l_ b_)=re t M:=by
 unfold re
 simp only [aS,aU,aX,aI,aV,bA,bQ,bH,aW,aC,bP,mQ] <;> rfl
theorem He (t:Stp) (M:MemS) (l_:List (Int × Int)) (b_:Int):uN t (M.sh l_ b_)=uN t M:=by
 unfold uN
 simp only [aS,aU,aX,aI,aV,bA,bQ,bH,aW,aC,bP,mQ,zn] <;> rfl
theorem uZ (t:Stp) (M:MemS) (l_:List (Int × Int)) (b_:Int):gl t (M.sh l_ b_)=(gl t M).sh l_ b_:=by
 unfold gl
 simp only [aS,aU,aX,aI,aV,bA,bQ,bH,aW,aC,bP,xC,He] <;> rfl
theorem BE (t:Stp) (M:MemS) (l_:List (Int × Int)) (b_:Int):dH t (M.sh l_ b_)=(dH t M).sh l_ b_:=by
 unfold dH
 simp only [aS,aU,aX,aI,aV,bA,bQ,bH,aW,aC,bP,zn,uZ] <;> rfl
theorem Hf (t:Stp) (M:MemS) (l_:List (Int × Int)) (b_:Int):rf t (M.sh l_ b_)=rf t M:=by
 unfold rf
 simp only [aS,aU,aX,aI,aV,bA,bQ,bH,aW,aC,bP,mQ] <;> rfl
theorem DT (t:Stp) (M:MemS) (l_:List (Int × Int)) (b_:Int):eK t (M.sh l_ b_)=(eK t M).sh l_ b_:=by
 unfold eK
 simp only [aS,aU,aX,aI,aV,bA,bQ,bH,aW,aC,bP,Hf] <;> rfl
theorem DU (t:Stp) (M:MemS) (l_:List (Int × Int)) (b_:Int):fD t (M.sh l_ b_)=(fD t M).sh l_ b_:=by
 unfold fD
 simp only [aS,aU,aX,aI,aV,bA,bQ,bH,aW,aC,bP,fP] <;> rfl
theorem DV (t:Stp) (M:MemS) (l_:List (Int × Int)) (b_:Int):dM t (M.sh l_ b_)=(dM t M).sh l_ b_:=by
 unfold dM
 simp only [aS,aU,aX,aI,aV,bA,bQ,bH,aW,aC,bP,xF,DT,DU] <;> rfl
theorem u9 (t:Stp) (M:MemS) (l_:List (Int × Int)) (b_:Int):bO t (M.sh l_ b_)=(bO t M).sh l_ b_:=by
 unfold bO
 simp only [aS,aU,aX,aI,aV,bA,bQ,bH,aW,aC,bP,fP,BE] <;> rfl
theorem Hg (t:Stp) (M:MemS) (l_:List (Int × Int)) (b_:Int):eU t (M.sh l_ b_)=(eU t M).sh l_ b_:=by
 unfold eU
 simp only [aS,aU,aX,aI,aV,bA,bQ,bH,aW,aC,bP,fP,DQ] <;> rfl
theorem Hh (g:Gm) (M:MemS) (l:List (Int × Int)) (b:Int):g.step (M.sh l b)=g.step M:=rfl
theorem tC (g:Gm) (M:MemS) (l:List (Int × Int)) (b:Int):eD g (M.sh l b)=(eD g M).sh l b:=by
 unfold eD
 simp only [Hh,aS,Bv,Hc,DS,BC,u9,DV,Hg,DH,aV,aI]
theorem DW (g:Gm) (M:MemS) (l:List (Int × Int)) (b:Int):iy g (M.sh l b)=iy g M:=rfl
theorem zo (g:Gm) (l:List (Int × Int)) (b:Int):∀ (n:Nat) (M:MemS),fO g n (M.sh l b)=(fO g n M).sh l b
 | 0,_=>rfl
 | n+1,M=>by rw [fO,fO,jc,jc,tC,bA];exact zo g l b n _
theorem vc (g:Gm) (l:List (Int × Int)) (b:Int):∀ (n:Nat) (M:MemS),dW g n (M.sh l b)=dW g n M
 | 0,_=>rfl
 | n+1,M=>by rw [dW,dW,jc,jc,tC,bA,bH,aW,vc g l b n]
def vd (g:Gm):Nat -> MemS -> Nat
 | 0,_=>0
 | f+1,M=>if iy g M=true then 0 else vd g f (jc g M)+1
theorem DX {g:Gm}:∀ (m f:Nat) (M:MemS),dD g (m+1) M -> m < f -> vd g f M=m
 | m,0,M,_,h=>by omega
 | 0,f+1,M,h,_=>by
  rcases h.2 with ⟨_,e⟩ | ⟨_,e⟩
  ·rw [vd,if_pos e]
  ·exact e.elim
 | m+1,f+1,M,h,hf=>by
  rcases h.2 with ⟨e,_⟩ | ⟨e1,e2⟩
  ·omega
  ·rw [vd,if_neg (by rw [e1];simp),DX m f _ e2 (by omega)]
def j8 (g:Gm) (M:MemS):MemS:=fO g (vd g 1000 M+1) M
def ve (g:Gm) (M:MemS):List Eff:=dW g (vd g 1000 M+1) M
theorem DY {g g':Gm} (h:GEq g g'):∀ (f:Nat) (M:MemS),vd g f M=vd g' f M
 | 0,_=>rfl
 | f+1,M=>by rw [vd,vd,DE h,jc,jc,xB h,DY h f]
theorem DZ {g g':Gm} (h:GEq g g') (M:MemS):j8 g M=j8 g' M:=by rw [j8,j8,DY h,zm h]
theorem xG (g:Gm) (l:List (Int × Int)) (b:Int):∀ (f:Nat) (M:MemS),vd g f (M.sh l b)=vd g f M
 | 0,_=>rfl
 | f+1,M=>by rw [vd,vd,DW,jc,jc,tC,bA,xG g l b f]
theorem xH (g:Gm) (M:MemS) (l:List (Int × Int)) (b:Int):j8 g (M.sh l b)=(j8 g M).sh l b:=by rw [j8,j8,xG,zo]
theorem D1 (g:Gm) (M:MemS) (l:List (Int × Int)) (b:Int):ve g (M.sh l b)=ve g M:=by rw [ve,ve,xG,vc]
theorem lY (M:MemS):(MemS.sh ⟨M.cs,[],0⟩ M.lg M.base)=M:=by cases M;simp [MemS.sh]
theorem nE (g:Gm) {M N:MemS} (h:M.cs=N.cs):(j8 g M).cs=(j8 g N).cs:=by
 rw [<- lY M,<- lY N,xH,xH,h];rfl
theorem D2 (g:Gm) {M N:MemS} (h:M.cs=N.cs):ve g M=ve g N:=by
 rw [<- lY M,<- lY N,D1,D1,h]
def ig (g:Gm):Nat -> MemS -> List (Eff × Bool)
 | 0,_=>[]
 | n+1,M=>((eD g M).e,(eD g M).em) :: ig g n (jc g M)
theorem ii (g:Gm):∀ (n:Nat) (M:MemS),(ig g n M).length=n
 | 0,_=>rfl
 | n+1,M=>by rw [ig,List.length_cons,ii g n]
def lw:List (Eff × Bool) -> List Eff
 | []=>[]
 | x :: l=>(if x.2=true then [x.1] else [])++lw l
theorem vf (g:Gm):∀ (n:Nat) (M:MemS),lw (ig g n M)=dW g n M
 | 0,_=>rfl
 | n+1,M=>by rw [ig,lw,vf g n,dW]
theorem pM:∀ (l m:List (Eff × Bool)),lw (l++m)=lw l++lw m
 | [],m=>rfl
 | x :: l,m=>by rw [List.cons_append,lw,lw,pM l m,List.append_assoc]
theorem vg:∀ (l:List (Eff × Bool)),(lw l).length <= l.length
 | []=>Nat.le_refl _
 | x :: l=>by
  have:=vg l
  rw [lw,List.length_append,List.length_cons]
  split
  ·simp;omega
  ·simp;omega
theorem D3 {l:List (Eff × Bool)} {i:Nat} {x:Eff × Bool} (h:l[i]?=some x) (e:x.2=true):lw (l.take (i+1))=lw (l.take i)++[x.1]:=by
 rw [List.take_add_one,h,pM]
 show _++((if x.2=true then [x.1] else [])++[])=_
 rw [if_pos e];rfl
theorem Hj {l:List (Eff × Bool)} {i:Nat} {x:Eff × Bool} (h:l[i]?=some x) (e:¬ x.2=true):lw (l.take (i+1))=lw (l.take i):=by
 rw [List.take_add_one,h,pM]
 show _++((if x.2=true then [x.1] else [])++[])=_
 rw [if_neg e];simp
theorem gm {g:Gm} {l:List (Eff × Bool)} {i r:Nat} {M:MemS} (h:l.drop i=ig g (r+1) M):l[i]?=some ((eD g M).e,(eD g M).em) /\ l.drop (i+1)=ig g r (jc g M):=by
 constructor
 ·have:=congrArg (·[0]?) h
  simpa [ig] using this
 ·have:=congrArg List.tail h
  rwa [List.tail_drop] at this
def ud (cs:List Int) (i:Nat):List Int:=cs.take i++List.replicate (cs.length - i) 0
theorem rY (n:Nat):lS [vI 0]=aJ (List.replicate n 0):=by
 funext i k
 rcases k with _ | k
 ·have:(List.replicate n (0:Int)).getD i 0=0:=by
   rw [List.getD_eq_getElem?_getD,List.getElem?_replicate];split <;> rfl
  show vI 0=vI _
  rw [this]
 ·simp [lS,aJ]
theorem vh (cs:List Int):lS [vI 0]=aJ (ud cs 0):=by rw [rY cs.length];simp [ud]
theorem zp (cs:List Int):ud cs cs.length=cs:=by simp [ud]
theorem vi {cs:List Int} {i:Nat} (h:i < cs.length):dX (aJ (ud cs i)) i 0 (vI (cs.getD i 0))=aJ (ud cs (i+1)):=by
 rw [gc (by simp [ud];omega)]
 congr 1
 unfold ud
 rw [List.set_append_right _ _ (by simp;omega)]
 have e:cs.length - i=(cs.length - (i+1))+1:=by omega
 rw [e,List.replicate_succ,List.take_succ_eq_append_getElem h,List.append_assoc]
 simp [List.length_take,Nat.min_eq_left (Nat.le_of_lt h),h]
theorem MemH.len {mb:Nat} {M:MemS} {k:Nat} {T:HL} (h:MemH mb M k T):M.cs.length <= 1000000:=by
 cases h with
 | mk cb A cap Hl hs hc hl=>exact hc
theorem Hk (mb cb n:Nat) (A:Option Addr) (m cap:Nat) (base:Int) (F:HL) (hm:(mb,.lit [vS cb 0 n n,.slice A m cap,vI base] 125 (0,0)) ∈ F):Sp Tryz.prog 49 #[vP mb 0] [] F (λ u H'=>u=vI (n:Int) /\ H'=[]):=by
 refine Sp.run Tryz.func49 rfl (mc hm mn) (A:=[]) (Ts:=[]) rfl λ w0=>?_
 refine ae 15 [.ro 0] λ _=>?_
 exact RN.ret [] [] [] ⟨rfl,rfl⟩
theorem tD {mb:Nat} {M:MemS} {k:Nat} {T:HL} {F:HL} (h:MemH mb M k T) (hs:∀ x ∈ T,x ∈ F):Sp Tryz.prog 49 #[vP mb 0] [] F (λ u H'=>u=vI (M.cs.length:Int) /\ H'=[]):=by
 cases h with
 | mk cb A cap Hl hsl hc hl=>exact Hk mb cb M.cs.length A M.lg.length cap M.base F (hs _ (by simp))
theorem Hm {M:MemS} {i:Nat} (h:i < M.cs.length):M.get (i:Int)=M.cs.getD i 0:=by
 unfold MemS.get
 rw [if_pos (by omega),Int.toNat_natCast]
theorem BF (mb:Nat) (M:MemS) (k:Nat) (T F:HL) (hM:MemH mb M k T) (hT:∀ x ∈ T,x ∈ F):Sp Tryz.prog 14 #[vP mb 0] [] F (λ u H'=>∃ q,H'=ap [(q,.rows 1 M.cs.length (aJ M.cs) 3 (0,0))] [] /\ u=vS q 0 M.cs.length M.cs.length):=by
 have hl:=hM.len
 refine Sp.run Tryz.func14 rfl mn (A:=[]) (Ts:=[]) rfl λ w0=>?_
 refine ae 8 [] λ _=>ai (tD hM (λ x hx=>List.mem_append_right _ (hT x hx)))<|ak 8 [.mk M.cs.length M.cs.length] [(M.cs.length:Int)=((M.cs.length:Nat):Int) /\ (M.cs.length:Int)=((M.cs.length:Nat):Int) /\ M.cs.length <= M.cs.length /\ 8 * M.cs.length <= 140737488355328 /\ 1=1 /\ M.cs.length <= 9223372036854775807] λ n1=>ai (tD hM (λ x hx=>List.mem_append_right _ (hT x hx)))<|ae 4 [] λ _=>eH 0 (congrArg (λ v_=>(.rows 1 M.cs.length v_ 3 (0,0):Blk)) (show (lS [vI 0])=(aJ (ud M.cs 0)) from (by rw [vh M.cs])))<|RN.loop (σ:=Nat) (λ i=>⟨[(0,vP mb 0),(3,vS (n1+0) 0 M.cs.length M.cs.length),(9,vI (M.cs.length:Int)),(10,vI (i:Int))],[((n1+0),.rows 1 M.cs.length (aJ (ud M.cs i)) 3 (0,0))],[],i <= M.cs.length,M.cs.length - i⟩) 0 [0] [] (Nat.zero_le _) ?_
 rintro i hI2 mt3
 refine ae 6 [] λ _=>RN.em ((i:Int) < (M.cs.length:Int)) 11 (λ h4=>?_) λ h4=>?_
 ·refine ae 16 [] λ _=>ai (ay (i:Int) hM (λ x hx=>List.mem_append_right _ (hT x hx)))<|ak 9 [.ix i,.row 0 i 0,.nw] [bn ((i:Int)+1),(0+i * 1)=i * 1+0 /\ i < M.cs.length,(i:Int)=((i:Nat):Int) /\ i < M.cs.length] λ _=>eH 0 (congrArg (λ v_=>(.rows 1 M.cs.length v_ 3 (0,0):Blk)) (show (dX (aJ (ud M.cs i)) i 0 (vI (M.get (i:Int))))=(aJ (ud M.cs (i+1))) from (by rw [<- vi (cs:=M.cs) (i:=i) (by omega)];rw [Hm (by omega)]))) ?_
  refine mt3 (i+1) [0] [] ?_
  try dsimp only
  exact ⟨by omega,by omega⟩
 ·refine ae 12 [] λ _=>RN.ret [] [0] [] (v:=vS (n1+0) 0 M.cs.length M.cs.length) (H':=[((n1+0),.rows 1 M.cs.length (aJ (ud M.cs i)) 3 (0,0))]) ?_
  have ei:i=M.cs.length:=by omega
  subst ei
  exact ⟨_,by rw [zp];rfl,rfl⟩
theorem Hn (q:Nat) (cs:List Int) (k cap:Nat) (F:HL) (hq:(q,.rows 1 cs.length (aJ cs) 3 (0,0)) ∈ F) (hc:cs.length <= 1000000) (hk:k <= 100000000) (hcap:cs.length <= cap):Sp Tryz.prog 76 #[vS q 0 cs.length cap] [] F (λ u H'=>∃ x:Nat × HL,H'=ap [] [x.2] /\ (u=vP x.1 0 /\ MemH x.1 ⟨cs,[],0⟩ k x.2)):=by
 refine Sp.run Tryz.func76 rfl (mc hq mn) (A:=[]) (Ts:=[]) rfl λ w0=>?_
 refine ak 24 [.mk cs.length cs.length] [(cs.length:Int)=((cs.length:Nat):Int) /\ (cs.length:Int)=((cs.length:Nat):Int) /\ cs.length <= cs.length /\ 8 * cs.length <= 140737488355328 /\ 1=1 /\ cs.length <= 9223372036854775807] λ n1=>eH 1 (congrArg (λ v_=>(.rows 1 cs.length v_ 3 (0,0):Blk)) (show (lS [vI 0])=(aJ (ud cs 0)) from (by rw [vh cs])))<|RN.loop (σ:=Nat) (λ i=>⟨[(0,vS q 0 cs.length cap),(3,vP (n1+1) 0),(11,vI (cs.length:Int)),(12,vI (i:Int))],[((n1+1),.lit [vS (n1+0) 0 cs.length cs.length,.slice none 0 0,vI 0] 125 (0,0)),((n1+0),.rows 1 cs.length (aJ (ud cs i)) 3 (0,0))],[],i <= cs.length,cs.length - i⟩) 0 [0,1] [] (Nat.zero_le _) ?_
 rintro i hI2 mt3
 refine ae 6 [] λ _=>RN.em ((i:Int) < (cs.length:Int)) 13 (λ h4=>?_) λ h4=>?_
 ·refine ae 11 [] λ _=>RN.draw [10] []<|aF [] [0,4,5,6,1,7,2,8,3,9] [.ix i,.rorow 0 i 0,.own 0,.ix i] [(i:Int)=((i:Nat):Int) /\ i < cs.length,(0+i * 1)=i * 1+0 /\ i < cs.length,(i:Int)=((i:Nat):Int) /\ i < cs.length]<|RD.one 10 (dY [] [.row 1 i 0] [(0+i * 1)=i * 1+0 /\ i < cs.length] λ _=>?_)
  refine RD.fin<|ak 6 [.nw] [bn ((i:Int)+1)] λ _=>eH 1 (congrArg (λ v_=>(.rows 1 cs.length v_ 3 (0,0):Blk)) (show (dX (aJ (ud cs i)) i 0 (vI (cs.getD i 0)))=(aJ (ud cs (i+1))) from (by rw [<- vi (cs:=cs) (i:=i) (by omega)]))) ?_
  refine mt3 (i+1) [0,1] [] ?_
  try dsimp only
  exact ⟨by omega,by omega⟩
 ·refine ae 12 [] λ _=>RN.ret [] [0,1] [] (v:=vP (n1+1) 0) (H':=[((n1+1),.lit [vS (n1+0) 0 cs.length cs.length,.slice none 0 0,vI 0] 125 (0,0)),((n1+0),.rows 1 cs.length (aJ (ud cs i)) 3 (0,0))]) ?_
  have ei:i=cs.length:=by omega
  subst ei
  rw [zp]
  have hmm:=MemH.mk (mb:=(n1+1)) (M:=⟨cs,[],0⟩) (k:=k) (n1+0) none 0 [] (SlIs.nil _ _) hc (show ([]:List (Int × Int)).length+k <= 100000000 by simpa using hk)
  exact ⟨((n1+1),_),rfl,rfl,hmm⟩
def av (n most:Int):Int:=(if n < 0 then aY (0 - aY (n+1)) else n).tmod most
theorem fl (n:Int) (most:Int) (h0:most ≠ 0) (F:HL):Sp Tryz.prog 10 #[vI n,vI most] [] F (λ u H'=>u=vI (av n most) /\ H'=[]):=by
 refine Sp.run Tryz.func10 rfl mn (A:=[]) (Ts:=[]) rfl λ w0=>?_
 refine ae 12 [] λ _=>RN.em (n < 0) 6 (λ h1=>?_) λ h1=>?_
 ·refine pA 16 [.gen,.dv] (λ _=>[most ≠ 0]) (λ _=>(ac h0 an)) λ _=>RN.ret [] [] [] (v:=vI ((IntKind.i64.wrap (0 - (IntKind.i64.wrap (n+1)))).tmod most)) (H':=[]) ?_
  exact ⟨by unfold av;simp [*],rfl⟩
 ·refine pA 11 [.dv] (λ _=>[most ≠ 0]) (λ _=>(ac h0 an)) λ _=>RN.ret [] [] [] (v:=vI (n.tmod most)) (H':=[]) ?_
  exact ⟨by unfold av;simp [*],rfl⟩
def pN (n:Int):Int:=av n 1000
def nF (n:Int):Int:=aY (512 * aY (1+(aY ((pN n).tdiv 7)).tmod 5))
def rg (r:Int):List V2:=[⟨aY (0 - r),aY (0 - r)⟩,⟨r,aY (0 - r)⟩,⟨r,r⟩,⟨aY (0 - r),r⟩]
def vj (r:Int):List V2:=[⟨aY (0 - r),aY (0 - r)⟩,⟨r,aY (0 - r)⟩,⟨0,r⟩]
def vk (r:Int):List V2:=[⟨aY (-2 * r),-300⟩,⟨aY (2 * r),-300⟩,⟨aY (2 * r),300⟩,⟨aY (-2 * r),300⟩]
def cH (n:Int):Int × List V2:=if (pN n).tmod 7=0 then (nF n,[]) else if (pN n).tmod 7=1 then (nF n,[]) else if (pN n).tmod 7=2 then (nF n,[]) else if (pN n).tmod 7=3 then (0,rg (nF n)) else if (pN n).tmod 7=4 then (0,rg (nF n)) else if (pN n).tmod 7=5 then (0,vj (nF n)) else (0,vk (nF n))
def ShH (s:Shp) (T:HL):Prop:=∀ F,(∀ x ∈ T,x ∈ F) -> ShIn F s
theorem ShH.circle (r:Int) (A:Option Addr) (cap:Nat):ShH ⟨r,[],A,cap⟩ []:=λ F _=>.circle r A cap
theorem ShH.poly (r:Int) (l:List V2) (b cap:Nat) (h3:3 <= l.length) (h4:l.length <= cap) (h5:l.length <= 1000000):ShH ⟨r,l,some ⟨b,0,none⟩,cap⟩ [(b,.rows 2 cap (jj l) 29 (0,0))]:=λ F h=>.poly r l b cap (h _ (by simp)) h3 h4 h5
theorem vl (n:Int) (F:HL):Sp Tryz.prog 36 #[vI n] [] F (λ u H'=>∃ x:Option Addr × Nat × HL,H'=ap [] [x.2.2] /\ (u=KY ⟨(cH n).1,(cH n).2,x.1,x.2.1⟩ /\ ShH ⟨(cH n).1,(cH n).2,x.1,x.2.1⟩ x.2.2)):=by
 refine Sp.run Tryz.func36 rfl mn (A:=[]) (Ts:=[]) rfl λ w0=>?_
 refine ae 8 [] λ n1=>ai (fl n 1000 (by decide) _)<|ae 28 [] λ _=>RN.em ((pN n).tmod 7=0) 14 (λ h2=>?_) λ h2=>?_
 ·refine ae 11 [.own 0,.own 0] λ _=>RN.ret [.own 0,.own 0] [] [] (v:=.agg #[vI (IntKind.i64.wrap (512 * (IntKind.i64.wrap (1+((IntKind.i64.wrap ((pN n).tdiv 7)).tmod 5))))),.slice none 0 0]) (H':=[]) ?_
  have e:cH n=(nF n,[]):=by simp only [cH,if_pos h2]
  rw [e]
  exact ⟨(none,0,[]),rfl,rfl,ShH.circle _ _ _⟩
 ·refine ae 7 [] λ _=>RN.em ((pN n).tmod 7=1) 14 (λ h3=>?_) λ h3=>?_
  ·refine ae 11 [.own 0,.own 0] λ _=>RN.ret [.own 0,.own 0] [] [] (v:=.agg #[vI (IntKind.i64.wrap (512 * (IntKind.i64.wrap (1+((IntKind.i64.wrap ((pN n).tdiv 7)).tmod 5))))),.slice none 0 0]) (H':=[]) ?_
   have e:cH n=(nF n,[]):=by simp only [cH,if_neg h2,if_pos h3]
   rw [e]
   exact ⟨(none,0,[]),rfl,rfl,ShH.circle _ _ _⟩
  ·refine ae 6 [] λ _=>RN.em ((pN n).tmod 7=2) 14 (λ h4=>?_) λ h4=>?_
   ·refine ae 8 [.own 0,.own 0] λ _=>RN.ret [.own 0,.own 0] [] [] (v:=.agg #[vI (IntKind.i64.wrap (512 * (IntKind.i64.wrap (1+((IntKind.i64.wrap ((pN n).tdiv 7)).tmod 5))))),.slice none 0 0]) (H':=[]) ?_
    have e:cH n=(nF n,[]):=by simp only [cH,if_neg h2,if_neg h3,if_pos h4]
    rw [e]
    exact ⟨(none,0,[]),rfl,rfl,ShH.circle _ _ _⟩
   ·refine ae 8 [] λ _=>RN.em ((pN n).tmod 7=3) 20 (λ h5=>?_) λ h5=>?_
    ·refine ae 27 [.own 1,.own 1] λ n6=>RN.dn 0 (.rows 2 4 (jj (rg (nF n))) 29 (0,0))<|RN.ret [.own 1,.own 1] [0] [] (v:=.agg #[vI 0,vS (n6+0) 0 4 4]) (H':=[((n6+0),.rows 2 4 (jj (rg (nF n))) 29 (0,0))]) ?_
     have e:cH n=(0,rg (nF n)):=by simp only [cH,if_neg h2,if_neg h3,if_neg h4,if_pos h5]
     rw [e]
     exact ⟨(some ⟨(n6+0),0,none⟩,4,_),rfl,rfl,ShH.poly 0 (rg (nF n)) (n6+0) 4 (Nat.le_of_ble_eq_true rfl) (Nat.le_of_ble_eq_true rfl) (Nat.le_of_ble_eq_true rfl)⟩
    ·refine ae 6 [] λ _=>RN.em ((pN n).tmod 7=4) 20 (λ h7=>?_) λ h7=>?_
     ·refine ae 24 [.own 1,.own 1] λ n8=>RN.dn 0 (.rows 2 4 (jj (rg (nF n))) 29 (0,0))<|RN.ret [.own 1,.own 1] [0] [] (v:=.agg #[vI 0,vS (n8+0) 0 4 4]) (H':=[((n8+0),.rows 2 4 (jj (rg (nF n))) 29 (0,0))]) ?_
      have e:cH n=(0,rg (nF n)):=by simp only [cH,if_neg h2,if_neg h3,if_neg h4,if_neg h5,if_pos h7]
      rw [e]
      exact ⟨(some ⟨(n8+0),0,none⟩,4,_),rfl,rfl,ShH.poly 0 (rg (nF n)) (n8+0) 4 (Nat.le_of_ble_eq_true rfl) (Nat.le_of_ble_eq_true rfl) (Nat.le_of_ble_eq_true rfl)⟩
     ·refine ae 7 [] λ _=>RN.em ((pN n).tmod 7=5) 41 (λ h9=>?_) λ h9=>?_
      ·refine ae 19 [.own 1,.own 1] λ n10=>RN.dn 0 (.rows 2 3 (jj (vj (nF n))) 29 (0,0))<|RN.ret [.own 1,.own 1] [0] [] (v:=.agg #[vI 0,vS (n10+0) 0 3 3]) (H':=[((n10+0),.rows 2 3 (jj (vj (nF n))) 29 (0,0))]) ?_
       have e:cH n=(0,vj (nF n)):=by simp only [cH,if_neg h2,if_neg h3,if_neg h4,if_neg h5,if_neg h7,if_pos h9]
       rw [e]
       exact ⟨(some ⟨(n10+0),0,none⟩,3,_),rfl,rfl,ShH.poly 0 (vj (nF n)) (n10+0) 3 (Nat.le_of_ble_eq_true rfl) (Nat.le_of_ble_eq_true rfl) (Nat.le_of_ble_eq_true rfl)⟩
      ·refine ae 23 [.own 1,.own 1] λ n11=>RN.dn 0 (.rows 2 4 (jj (vk (nF n))) 29 (0,0))<|RN.ret [.own 1,.own 1] [0] [] (v:=.agg #[vI 0,vS (n11+0) 0 4 4]) (H':=[((n11+0),.rows 2 4 (jj (vk (nF n))) 29 (0,0))]) ?_
       have e:cH n=(0,vk (nF n)):=by simp only [cH,if_neg h2,if_neg h3,if_neg h4,if_neg h5,if_neg h7,if_neg h9]
       rw [e]
       exact ⟨(some ⟨(n11+0),0,none⟩,4,_),rfl,rfl,ShH.poly 0 (vk (nF n)) (n11+0) 4 (Nat.le_of_ble_eq_true rfl) (Nat.le_of_ble_eq_true rfl) (Nat.le_of_ble_eq_true rfl)⟩
theorem nG {S:Setup} (h:SetN S) {i:Nat} (hi:i < S.nb):0 <= af S i /\ af S i+8 <= sizeOf S /\ sizeOf S <= 20000000:=by
 have:=h.pl
 have:=h.nb
 unfold af sizeOf
 rw [if_neg (by omega),if_neg (by omega)]
 omega
theorem BG {S:Setup} (h:SetN S):48 <= sizeOf S /\ sizeOf S <= 20000000:=by
 have:=h.pl
 have:=h.nb
 unfold sizeOf
 omega
def bC (S:Setup):Nat -> List Int
 | 0=>List.replicate (sizeOf S).toNat 0
 | i+1=>((((((bC S i).set (af S i).toNat (S.body i).mot.px).set (af S i+1).toNat (S.body i).mot.py).set (af S i+2).toNat (S.body i).mot.vx).set (af S i+3).toNat (S.body i).mot.vy).set (af S i+4).toNat (S.body i).a).set (af S i+5).toNat (S.body i).b
theorem gn (S:Setup):∀ i,(bC S i).length=(sizeOf S).toNat
 | 0=>by simp [bC]
 | i+1=>by simp [bC,gn S i]
theorem BH {S:Setup} (h:SetN S) {i:Nat} (hi:i < S.nb):dX (dX (dX (dX (dX (dX (aJ (bC S i)) (af S i).toNat 0 (vI (S.body i).mot.px)) (af S i+1).toNat 0 (vI (S.body i).mot.py)) (af S i+2).toNat 0 (vI (S.body i).mot.vx)) (af S i+3).toNat 0 (vI (S.body i).mot.vy)) (af S i+4).toNat 0 (vI (S.body i).a)) (af S i+5).toNat 0 (vI (S.body i).b)=aJ (bC S (i+1)):=by
 have:=nG h hi
 rw [gc,gc,gc,gc,gc,gc,bC] <;> (simp only [List.length_set,gn];omega)
open Go.Shelf
section
variable {r:Option Nat} {P:Program} {N:Nat} {D:List Deferred} {F:HL} {w0:World} {R:HL} {s:Cfg} {Q:Exit -> Act -> World -> Prop}
variable {α:Type} {e:Enc α} {T:TypeId} {inf:TypeInfo} {z:Value}
def zq (P:Program) (N j:Nat) (oo:Option Oper) (s:Cfg):Option (Option Addr × Nat × Nat × TypeId × Option Addr × Nat × Nat × TypeId × HL):=match oo with
 | some o=>match GO P o s.L,s.Ts[j]?,([j]++oth [j] s.Ts.length).isPerm (List.range s.Ts.length) && (fe N o.dst undef s.L).isSome with
  | some (A,n,cap,T,B,m,c',tx),some Hl,true=>some (A,n,cap,T,B,m,c',tx,Hl)
  | _,_,_=>none
 | none=>none
theorem pO {j:Nat} {oo:Option Oper} {A:Option Addr} {n cap m c':Nat} {B:Option Addr} {tx:TypeId} {Hl:HL} (h:zq P N j oo s=some (A,n,cap,T,B,m,c',tx,Hl)) :
  ∃ o a1 a2 t e',oo=some o /\ o.guard=none /\ o.op=.call { callee:=.builtin .append,args:=#[a1,a2],argTypes:=#[t,tx] } /\ (mu s.L a1 && mu s.L a2)=true /\ iT s.L a1=.slice A n cap /\ iT s.L a2=.slice B m c' /\ P.underlying t=some (.slice T) /\ P.underlying tx=some (.slice e') /\
   s.Ts[j]?=some Hl /\ ([j]++oth [j] s.Ts.length).isPerm (List.range s.Ts.length)=true /\ (fe N o.dst undef s.L).isSome=true:=by
 unfold zq at h
 split at h
 case h_2=>cases h
 rename_i o
 split at h
 case h_2=>cases h
 rename_i A' n' cap' T' B' m' c2 tx' Hl' h1 h3 h4
 simp only [Option.some.injEq,Prod.mk.injEq] at h
 obtain ⟨e1,e2,e3,e4,e5,e6,e7,e8,e9⟩:=h
 subst e1;subst e2;subst e3;subst e4;subst e5;subst e6;subst e7;subst e8;subst e9
 obtain ⟨a1,a2,t,e',q1,q2,q3,q4,q5,q6,q7⟩:=rJ h1
 rw [Bool.and_eq_true] at h4
 exact ⟨o,a1,a2,t,e',rfl,q1,q2,q3,q4,q5,q6,q7,h3,h4.1,h4.2⟩
end
end Go.Proofs.YtcfajdgeejeieaaGreatDoor
