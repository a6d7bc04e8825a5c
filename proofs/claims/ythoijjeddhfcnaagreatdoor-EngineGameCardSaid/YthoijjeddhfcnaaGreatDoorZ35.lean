import Derived.Test.YthoijjeddhfcnaaGreatDoorZ34
import Derived.Test.YthoijjeddhfcnaaGreatDoorZ33
set_option maxHeartbeats 4000000
set_option maxRecDepth 100000
set_option linter.unusedSimpArgs false
set_option linter.unusedVariables false
namespace Go.Proofs.YthoijjeddhfcnaaGreatDoor
open IntKind
open Go.RowKit
def mA(S:Setup)(i j:Int)(M:MemS):Prop:=¬ xh (iy (aI (S.body i.toNat).sh ⟨(ai S M i).px,(ai S M i).py⟩) (aI (S.body i.toNat).sh (ay ⟨(ai S M i).px,(ai S M i).py⟩ ⟨(ai S M i).vx,(ai S M i).vy⟩))) (aI (S.body j.toNat).sh ⟨(ai S M j).px,(ai S M j).py⟩)
instance (S:Setup) (i j:Int) (M:MemS):Decidable (mA S i j M):=inferInstanceAs (Decidable (¬ _))
def gy(S:Setup)(i:Int):Int -> Nat -> Int -> MemS -> Int
 | _,0,f,_=>f
 | j,k+1,f,M=>gy S i (j+1) k (if i=j then f else if mA S i j M then f else if iw S i j M<f then iw S i j M else f) M
theorem CN{S:Setup}{M:MemS}(h:BiA S M){i j:Int}(hi:0 <= i /\ i<S.nb)(hj:0 <= j /\ j<S.nb)(hs:GH (S.body i.toNat).sh)(ha:mA S i j M):iw S i j M=1024:=by
 obtain⟨a1,a2,a3,a4⟩:=uf h hi.1 hi.2
 obtain⟨b1,b2,_,_⟩:=uf h hj.1 hj.2
 show fw (S.body i.toNat).sh ⟨(ai S M i).px,(ai S M i).py⟩ ⟨(ai S M i).vx,(ai S M i).vy⟩ (S.body j.toNat).sh ⟨(ai S M j).px,(ai S M j).py⟩ ⟨0,0⟩=1024
 exact CM hs (by simp only;omega) (by simp only;omega) (by unfold AM;simp only;omega) ha
theorem wU{S:Setup}{M:MemS}(h:BiA S M){i:Int}(hi:0 <= i /\ i<S.nb)(hs:GH (S.body i.toNat).sh):∀ (k:Nat) (j f:Int),0 <= j -> j+k <= S.nb -> f <= 1024 -> gy S i j k f M=ri S i j k f M
 | 0,_,_,_,_,_=>rfl
 | k+1,j,f,h0,hk,hf=>by
  rw[gy,ri]
  have e:(if i=j then f else if mA S i j M then f else if iw S i j M<f then iw S i j M else f)=(if i=j then f else if iw S i j M<f then iw S i j M else f):=by
   by_cases c1:i=j
   ·rw[if_pos c1,if_pos c1]
   ·rw[if_neg c1,if_neg c1]
    by_cases c2:mA S i j M
    ·rw[if_pos c2,CN h hi ⟨h0,by omega⟩ hs c2,if_neg (by omega)]
    ·rw[if_neg c2]
  rw[e]
  refine wU h hi hs k (j+1) _ (by omega) (by omega) ?_
  split
  ·exact hf
  ·split <;> omega
def chC(S:Setup)(y:Int):Prop:=∃k c:Int,0 <= k /\ k<S.nb /\ (c=0 \/ c=1 \/ c=2 \/ c=3 \/ c=6) /\ y=ae S k+c
structure KpB(S:Setup)(A B:MemS):Prop where
 len:B.cs.length=A.cs.length
 get:∀y,¬ chC S y -> B.get y=A.get y
theorem KpB.refl{S:Setup}(A:MemS):KpB S A A:=⟨rfl,λ _ _=>rfl⟩
theorem KpB.trans{S:Setup}{A B C:MemS}(h:KpB S A B)(h':KpB S B C):KpB S A C:=⟨h'.len.trans h.len,λ y hy=>(h'.get y hy).trans (h.get y hy)⟩
theorem KpB.set{S:Setup}{A B:MemS}(h:KpB S A B){k c:Int}(h0:0 <= k)(h1:k<S.nb)(hc:c=0 \/ c=1 \/ c=2 \/ c=3 \/ c=6)(v:Int):KpB S A (B.set (ae S k+c) v):=⟨(aA _ _ _).trans h.len,λ y hy=>by
 rw[av (λ e=>hy ⟨k,c,h0,h1,hc,e⟩)]
 exact h.get y hy⟩
theorem sN{S:Setup}{A B:MemS}(h:KpB S A B)(t:Stp)(ht:t.S=S){k:Int}(hk:0 <= k /\ k<S.nb)(m:Mot):KpB S A (bG t k m B):=by
 unfold bG
 rw[ht]
 exact(((h.set hk.1 hk.2 (by omega) _).set hk.1 hk.2 (by omega) _).set hk.1 hk.2 (by omega) _).set hk.1 hk.2 (by omega) _
theorem yW{S:Setup}{c:Prop}[Decidable c]{M A B:MemS}(h1:c -> KpB S M A)(h2:¬ c -> KpB S M B):KpB S M (if c then A else B):=by
 split
 ·exact h1 (by assumption)
 ·exact h2 (by assumption)
theorem GQ{S:Setup}(i j:Int)(M:MemS):KpB S M (fR S i j M):=by
 unfold fR cq
 refine yW (λ hi=>yW (λ hj=>yW (λ _=>?_) λ _=>.refl M) λ _=>.refl M) λ _=>.refl M
 have PL:0 <= i /\ i<(S.nb:Int):=hi
 have QI:0 <= j /\ j<(S.nb:Int):=hj
 unfold dY
 generalize fA (dt S i j) M=r
 exact((sN (sN (.refl M) (dt S i j) rfl PL r.1) (dt S i j) rfl QI r.2).set PL.1 PL.2 (by omega) _).set QI.1 QI.2 (by omega) _
theorem wV{S:Setup}{A B:MemS}(h:KpB S A B){i:Int}(hi:0 <= i /\ i<S.nb){c:Int}(hc:c=0 \/ c=1)(pos lo up:Int):KpB S A (b7 (dt S i 0) (ae S i+c) (ae S i+(c+2)) pos lo up B):=by
 unfold b7
 split
 ·exact h.set hi.1 hi.2 (by omega) _
 ·exact(h.set hi.1 hi.2 (by omega) _).set hi.1 hi.2 (by omega) _
theorem N0{S:Setup}(i:Int)(M:MemS):KpB S M (yT S i M):=by
 unfold yT
 split
 ·next hm =>
  have h1:=wV (KpB.refl M) hm.has (c:=0) (.inl rfl) (mu S i (ri S i 0 S.nb 1024 M) M).x S.box.x0 S.box.x1
  exact wV h1 hm.has (c:=1) (.inr rfl) (mu S i (ri S i 0 S.nb 1024 M) M).y S.box.y0 S.box.y1
 ·exact .refl M
theorem GR{S:Setup}(i:Int):∀ (k:Nat) (j:Int) (M:MemS),KpB S M (qA S i j k M)
 | 0,_,M=>.refl M
 | k+1,j,M=>(GQ i j M).trans (GR i k (j+1) _)
theorem GS{S:Setup}:∀ (k:Nat) (i:Int) (M:MemS),KpB S M (mt S i k M)
 | 0,_,M=>.refl M
 | k+1,i,M=>(GR i k (i+1) M).trans (GS k (i+1) _)
theorem GT{S:Setup}:∀ (k:Nat) (M:MemS),KpB S M (iH S k M)
 | 0,M=>.refl M
 | k+1,M=>(GS S.nb 0 M).trans (GT k _)
theorem GU{S:Setup}:∀ (k:Nat) (i:Int) (M:MemS),KpB S M (rj S i k M)
 | 0,_,M=>.refl M
 | k+1,i,M=>(N0 i M).trans (GU k (i+1) _)
theorem GV(S:Setup)(M:MemS):KpB S M (nU S M):=by
 unfold nU
 refine KpB.trans ?_ (GU S.nb 0 _)
 split
 ·exact .refl M
 ·exact GT _ M
structure WR(S:Setup)(W:MemS)(bl:List Mot)(hl:List Int)(xl:List Bx):Prop where
 len:(W.cs.length:Int)=sizeOf S
 lb:bl.length=S.nb
 lh:hl.length=S.nb
 lx:xl.length=S.nb
 b:∀k,k<S.nb -> bl.getD k aj=ai S W k
 h:∀k,k<S.nb -> hl.getD k 0=W.get (ae S k+6)
 x:∀k,k<S.nb -> xl.getD k mw=aI (S.body k).sh ⟨(ai S W k).px,(ai S W k).py⟩
theorem fi{α:Type}{l:List α}{i:Nat}(h:i<l.length)(x d:α)(k:Nat):(l.set i x).getD k d=if k=i then x else l.getD k d:=by
 rw[List.getD_eq_getElem?_getD,List.getD_eq_getElem?_getD]
 by_cases e:k=i
 ·subst e
  rw[if_pos rfl,List.getElem?_set_self h]
  rfl
 ·rw[if_neg e,List.getElem?_set_ne (λ h2=>e h2.symm)]
theorem qC{S:Setup}(hP:0 <= S.players){t:Stp}(ht:t.S=S){M:MemS}(hl:(M.cs.length:Int)=sizeOf S){i k:Int}(hi:0 <= i /\ i<S.nb)(hk:0 <= k /\ k<S.nb)(m:Mot):ai S (bG t i m M) k=if k=i then ⟨m.px,m.py,m.vx,m.vy,(S.body k.toNat).mot.inv⟩ else ai S M k:=by
 have e1:=o8 (S:=S) hi.1 hi.2
 have e2:=o8 (S:=S) hk.1 hk.2
 have hz:sizeOf S=48+4*S.players+8*S.nb:=rfl
 unfold bG ai
 rw[ht]
 by_cases e:k=i
 ·subst e
  rw[if_pos rfl]
  rw[av (by omega),av (by omega),av (by omega),bL (by omega)]
  rw[av (by omega),av (by omega),bL (by rw[aA];omega)]
  rw[av (by omega),bL (by simp only[aA];omega)]
  rw[bL (by simp only[aA];omega)]
 ·rw[if_neg e]
  have n:∀c d:Int,0 <= c -> c<4 -> 0 <= d -> d<4 -> ae S k+c≠ae S i+d:=λ c d _ _ _ _=>by omega
  congr 1 <;> (rw[av (n _ _ (by decide) (by decide) (by decide) (by decide)),av (n _ _ (by decide) (by decide) (by decide) (by decide)),av (n _ _ (by decide) (by decide) (by decide) (by decide)),av (n _ _ (by decide) (by decide) (by decide) (by decide))])
theorem JH(a b:Mot)(c:Con)(r:Int):(aJ a b c r).1.inv=a.inv /\ (aJ a b c r).2.inv=b.inv:=by
 unfold aJ
 split
 ·exact⟨rfl,rfl⟩
 ·constructor
  ·show (M8 a b c r).inv=a.inv
   unfold M8
   split <;> rfl
  ·show (M9 a b c r).inv=b.inv
   unfold M9
   split <;> rfl
def yX(S:Setup)(i j:Nat)(a b:Mot):Con × Bool:=aG (S.body i).sh ⟨a.px,a.py⟩ (S.body j).sh ⟨b.px,b.py⟩
def Pm(S:Setup)(i j:Nat)(a b:Mot):Mot × Mot:=aJ a b (yX S i j a b).1 S.rest
theorem GW{S:Setup}{i j:Nat}{W:MemS}(h:(yX S i j (ai S W i) (ai S W j)).2=false):fR S i j W=W:=by
 have e:jO (dt S i j) W=yX S i j (ai S W i) (ai S W j):=rfl
 unfold fR cq
 split
 ·split
  ·rw[e,h,if_neg (by decide)]
  ·rfl
 ·rfl
theorem qD{S:Setup}(hP:0 <= S.players){t:Stp}(ht:t.S=S){M:MemS}{i k:Int}(hi:0 <= i /\ i<S.nb)(hk:0 <= k /\ k<S.nb)(m:Mot){c:Int}(hc:4 <= c /\ c<8):(bG t i m M).get (ae S k+c)=M.get (ae S k+c):=by
 have e1:=o8 (S:=S) hi.1 hi.2
 have e2:=o8 (S:=S) hk.1 hk.2
 unfold bG
 rw[ht,av (by omega),av (by omega),av (by omega),av (by omega)]
theorem iz(t:Stp)(k:Int)(m:Mot)(M:MemS):(bG t k m M).cs.length=M.cs.length:=by
 unfold bG
 simp only[aA]
theorem AQ{S:Setup}{M:MemS}{i k v:Int}(hi:0 <= i /\ i<S.nb)(hk:0 <= k /\ k<S.nb):ai S (M.set (ae S i+6) v) k=ai S M k:=by
 have e1:=o8 (S:=S) hi.1 hi.2
 have e2:=o8 (S:=S) hk.1 hk.2
 unfold ai
 rw[av (by omega),av (by omega),av (by omega),av (by omega)]
theorem WR.con{S:Setup}(hV:SetV S){W:MemS}{bl:List Mot}{hl:List Int}{xl:List Bx}(h:WR S W bl hl xl){i j:Nat}(RZ:i<j)(hj:j<S.nb){a b a' b':Mot}(ha:bl.getD i aj=a)(hb:bl.getD j aj=b)(hc:(yX S i j a b).2=true)(hr:Pm S i j a b=(a',b')) :
  WR S (fR S i j W) ((bl.set i a').set j b') ((hl.set i ((j:Int)+1)).set j ((i:Int)+1)) ((xl.set i (aI (S.body i).sh ⟨a'.px,a'.py⟩)).set j (aI (S.body j).sh ⟨b'.px,b'.py⟩)):=by
 have hP:=hV.pl
 have hN:=hV.nb
 have ea:ai S W i=a:=by rw[<- ha,h.b i (by omega)]
 have eb:ai S W j=b:=by rw[<- hb,h.b j hj]
 have iv:=JH a b (yX S i j a b).1 S.rest
 have RV:aJ a b (yX S i j a b).1 S.rest=(a',b'):=hr
 rw[RV] at iv
 simp only at iv
 have ia:a.inv=(S.body i).mot.inv:=by rw[<- ea];rfl
 have ib:b.inv=(S.body j).mot.inv:=by rw[<- eb];rfl
 have Ub:0 <= (i:Int) /\ (i:Int)<S.nb:=by omega
 have PC:0 <= (j:Int) /\ (j:Int)<S.nb:=by omega
 have eW:fR S i j W=((bG (dt S i j) j b' (bG (dt S i j) i a' W)).set (ae S i+6) ((j:Int)+1)).set (ae S j+6) ((i:Int)+1):=by
  have e:jO (dt S i j) W=yX S i j a b:=by rw[<- ea,<- eb];rfl
  have e2:fA (dt S i j) W=(a',b'):=by rw[<- RV,<- ea,<- eb];rfl
  unfold fR cq
  show (if 0 <= (i:Int) /\ (i:Int)<(S.nb:Int) then if 0 <= (j:Int) /\ (j:Int)<(S.nb:Int) then if (jO (dt S i j) W).2=true then dY (dt S i j) W else W else W else W)=_
  rw[if_pos Ub,if_pos PC,e,hc,if_pos rfl]
  unfold dY
  rw[e2]
  show ((bG (dt S i j) (j:Int) b' (bG (dt S i j) (i:Int) a' W)).set (ae S i+6) (aV ((j:Int)+1))).set (ae S j+6) (aV ((i:Int)+1))=_
  rw[aK (by omega),aK (by omega)]
 have z:=hP
 have hz:sizeOf S=48+4*S.players+8*S.nb:=rfl
 have hlen:=h.len
 have hm:∀k:Nat,k<S.nb -> ai S (fR S i j W) k=if k=j then b' else if k=i then a' else ai S W k:=λ k hk=>by
  have P2:0 <= (k:Int) /\ (k:Int)<S.nb:=by omega
  rw[eW,AQ PC P2,AQ Ub P2,qC (S:=S) (by omega) (t:=dt S i j) rfl (by rw[iz];exact hlen) PC P2,qC (S:=S) (by omega) (t:=dt S i j) rfl hlen Ub P2]
  by_cases c1:k=j
  ·subst c1
   rw[if_pos rfl,if_pos rfl,Int.toNat_natCast,<- ib,<- iv.2]
  ·rw[if_neg (by omega),if_neg c1]
   by_cases c2:k=i
   ·subst c2
    rw[if_pos rfl,if_pos rfl,Int.toNat_natCast,<- ia,<- iv.1]
   ·rw[if_neg (by omega),if_neg c2]
 have lb:=h.lb
 have lh:=h.lh
 have lx:=h.lx
 refine⟨by rw[(GQ i j W).len];exact hlen,by simp only[List.length_set];exact lb,by simp only[List.length_set];exact lh,by simp only[List.length_set];exact lx,λ k hk=>?_,λ k hk=>?_,λ k hk=>?_⟩
 ·rw[fi (by rw[List.length_set];omega),fi (by omega),hm k hk,h.b k hk]
 ·have P2:0 <= (k:Int) /\ (k:Int)<S.nb:=by omega
  have e1:=o8 (S:=S) Ub.1 Ub.2
  have e2:=o8 (S:=S) PC.1 PC.2
  have e3:=o8 (S:=S) P2.1 P2.2
  rw[fi (by rw[List.length_set];omega),fi (by omega),eW]
  by_cases c1:k=j
  ·subst c1
   rw[if_pos rfl,bL (by rw[aA,iz,iz];omega)]
  ·rw[if_neg c1,av (by omega)]
   by_cases c2:k=i
   ·subst c2
    rw[if_pos rfl,bL (by rw[iz,iz];omega)]
   ·rw[if_neg c2,av (by omega),qD (S:=S) (by omega) (t:=dt S i j) rfl PC P2 _ (by omega),qD (S:=S) (by omega) (t:=dt S i j) rfl Ub P2 _ (by omega)]
    exact h.h k hk
 ·rw[fi (by rw[List.length_set];omega),fi (by omega),hm k hk]
  by_cases c1:k=j
  ·subst c1;rw[if_pos rfl,if_pos rfl]
  ·rw[if_neg c1,if_neg c1]
   by_cases c2:k=i
   ·subst c2;rw[if_pos rfl,if_pos rfl]
   ·rw[if_neg c2,if_neg c2];exact h.x k hk
theorem wW{S:Setup}{i c pos lo up:Int}{A:MemS}(hr:0 <= ae S i+c /\ ae S i+(c+2)<A.cs.length)(hc:0 <= c):(b7 (dt S i 0) (ae S i+c) (ae S i+(c+2)) pos lo up A).cs.length=A.cs.length /\ ∀y,(b7 (dt S i 0) (ae S i+c) (ae S i+(c+2)) pos lo up A).get y=if y=ae S i+c then az pos lo up else if y=ae S i+(c+2) then mz pos (A.get y) lo up S.rest else A.get y:=by
 unfold b7 mz
 by_cases h:az pos lo up=pos
 ·rw[if_pos h]
  refine⟨aA _ _ _,λ y=>?_⟩
  by_cases c1:y=ae S i+c
  ·rw[if_pos c1,c1,bL (by omega)]
  ·rw[if_neg c1,av c1]
   split <;> first|rfl|(rw[if_pos h])
 ·rw[if_neg h]
  refine⟨by simp only[aA],λ y=>?_⟩
  by_cases c1:y=ae S i+c
  ·rw[if_pos c1,c1,av (by omega),bL (by omega)]
  ·rw[if_neg c1]
   by_cases c2:y=ae S i+(c+2)
   ·rw[if_pos c2,if_neg h,c2,bL (by rw[aA];omega),av (by omega)]
    rfl
   ·rw[if_neg c2,av c2,av c1]
theorem WR.mv{S:Setup}(hV:SetV S){W:MemS}{bl:List Mot}{hl:List Int}{xl:List Bx}(h:WR S W bl hl xl){i:Nat}(hi:i<S.nb){b:Mot}(hb:bl.getD i aj=b)(c5:Int){f:Int}(hf:(if aV (c5+128)<1024 then aV (c5+128) else 1024)=f) :
  WR S (kT S i c5 W) (bl.set i (gx S b f)) hl (xl.set i (aI (S.body i).sh ⟨(gx S b f).px,(gx S b f).py⟩)):=by
 have hP:=hV.pl
 have hN:=hV.nb
 have hz:sizeOf S=48+4*S.players+8*S.nb:=rfl
 have hlen:=h.len
 have eb:ai S W i=b:=by rw[<- hb,h.b i hi]
 have Ub:0 <= (i:Int) /\ (i:Int)<S.nb:=by omega
 have e1:=o8 (S:=S) Ub.1 Ub.2
 have eP:mu S i c5 W=ay ⟨b.px,b.py⟩ (aY ⟨b.vx,b.vy⟩ f 1024):=by unfold mu;rw[eb,hf]
 have p1:=wW (S:=S) (i:=i) (c:=0) (pos:=(mu S i c5 W).x) (lo:=S.box.x0) (up:=S.box.x1) (A:=W) (by omega) (by decide)
 generalize hA:b7 (dt S i 0) (ae S i+0) (ae S i+(0+2)) (mu S i c5 W).x S.box.x0 S.box.x1 W=A at p1
 have p2:=wW (S:=S) (i:=i) (c:=1) (pos:=(mu S i c5 W).y) (lo:=S.box.y0) (up:=S.box.y1) (A:=A) (by omega) (by decide)
 have eT:kT S i c5 W=b7 (dt S i 0) (ae S i+1) (ae S i+(1+2)) (mu S i c5 W).y S.box.y0 S.box.y1 A:=by rw[<- hA];rfl
 rw[<- eT] at p2
 rw[eP] at p1 p2
 obtain⟨l1,g1⟩:=p1
 obtain⟨l2,g2⟩:=p2
 have m1:W.get (ae S i+2)=b.vx:=by rw[<- eb];rfl
 have m2:W.get (ae S i+3)=b.vy:=by rw[<- eb];rfl
 have ib:(S.body i).mot.inv=b.inv:=by rw[<- eb];rfl
 have hm:∀k:Nat,k<S.nb -> ai S (kT S i c5 W) k=if k=i then gx S b f else ai S W k:=λ k hk=>by
  have P2:0 <= (k:Int) /\ (k:Int)<S.nb:=by omega
  have e3:=o8 (S:=S) P2.1 P2.2
  by_cases c1:k=i
  ·subst c1
   rw[if_pos rfl]
   unfold ai gx
   rw[Int.toNat_natCast,ib]
   congr 1
   ·rw[g2,if_neg (by omega),if_neg (by omega),g1,if_pos rfl]
   ·rw[g2,if_pos rfl]
   ·rw[g2,if_neg (by omega),if_neg (by omega),g1,if_neg (by omega),if_pos (by omega),m1]
   ·rw[g2,if_neg (by omega),if_pos (by omega),g1,if_neg (by omega),if_neg (by omega),m2]
  ·rw[if_neg c1]
   unfold ai
   congr 1 <;> rw[g2,if_neg (by omega),if_neg (by omega),g1,if_neg (by omega),if_neg (by omega)]
 have lb:=h.lb
 have lx:=h.lx
 refine⟨by rw[l2,l1];exact hlen,by rw[List.length_set];exact lb,h.lh,by rw[List.length_set];exact lx,λ k hk=>?_,λ k hk=>?_,λ k hk=>?_⟩
 ·rw[fi (by omega),hm k hk,h.b k hk]
 ·have P2:0 <= (k:Int) /\ (k:Int)<S.nb:=by omega
  have e3:=o8 (S:=S) P2.1 P2.2
  rw[h.h k hk,g2,if_neg (by omega),if_neg (by omega),g1,if_neg (by omega),if_neg (by omega)]
 ·rw[fi (by omega),hm k hk]
  by_cases c1:k=i
  ·subst c1;rw[if_pos rfl,if_pos rfl]
  ·rw[if_neg c1,if_neg c1];exact h.x k hk
def kr(M:MemS)(c v:Int):MemS:=if M.get c=v then M else M.set c v
theorem j4{M:MemS}{c v:Int}(hc:0 <= c /\ c<M.cs.length)(y:Int):(kr M c v).get y=if y=c then v else M.get y:=by
 unfold kr
 split
 ·next h =>
  split
  ·next e=>rw[e,h]
  ·rfl
 ·split
  ·next e=>rw[e,bL hc]
  ·next e=>rw[av e]
theorem j5(M:MemS)(c v:Int):(kr M c v).cs.length=M.cs.length:=by
 unfold kr
 split
 ·rfl
 ·exact aA _ _ _
def CO(S:Setup)(k:Int)(b:Mot)(h:Int)(M:MemS):MemS:=kr (kr (kr (kr (kr M (ae S k+0) b.px) (ae S k+1) b.py) (ae S k+2) b.vx) (ae S k+3) b.vy) (ae S k+6) h
theorem GX(S:Setup)(k:Int)(b:Mot)(h:Int)(M:MemS):(CO S k b h M).cs.length=M.cs.length:=by
 unfold CO
 simp only[j5]
theorem GY{S:Setup}(hP:0 <= S.players){k:Int}(hk:0 <= k /\ k<S.nb){M:MemS}(hl:(M.cs.length:Int)=sizeOf S)(b:Mot)(h y:Int):(CO S k b h M).get y=if y=ae S k+6 then h else if y=ae S k+3 then b.vy else if y=ae S k+2 then b.vx else if y=ae S k+1 then b.py else if y=ae S k+0 then b.px else M.get y:=by
 have e:=o8 (S:=S) hk.1 hk.2
 have hz:sizeOf S=48+4*S.players+8*S.nb:=rfl
 unfold CO
 rw[j4 (by simp only[j5];omega),j4 (by simp only[j5];omega),j4 (by simp only[j5];omega),j4 (by simp only[j5];omega),j4 (by omega)]
structure Sto(S:Setup)(M W N:MemS)(k:Nat):Prop where
 len:(N.cs.length:Int)=sizeOf S
 inn:∀q c:Int,0 <= q -> q<k -> 0 <= c -> c<8 -> N.get (ae S q+c)=W.get (ae S q+c)
 out:∀y,(∀q c:Int,0 <= q -> q<k -> 0 <= c -> c<8 -> y≠ae S q+c) -> N.get y=M.get y
theorem CP{S:Setup}{M W:MemS}(hl:(M.cs.length:Int)=sizeOf S):Sto S M W M 0:=⟨hl,λ q c h0 h1=>by omega,λ y _=>rfl⟩
theorem Sto.step{S:Setup}(hV:SetV S){M W N:MemS}{k:Nat}(h:Sto S M W N k)(hk:k<S.nb)(hW:KpB S M W){bl:List Mot}{hl:List Int}{xl:List Bx}(hr:WR S W bl hl xl):Sto S M W (CO S k (bl.getD k aj) (hl.getD k 0) N) (k+1):=by
 have hP:=hV.pl
 have P2:0 <= (k:Int) /\ (k:Int)<S.nb:=by omega
 have e:=o8 (S:=S) P2.1 P2.2
 have g:=λ y=>GY (S:=S) (by omega) P2 h.len (bl.getD k aj) (hl.getD k 0) y
 rw[hr.b k hk,hr.h k hk] at g ⊢
 refine⟨by rw[GX];exact h.len,λ q c q0 q1 c0 c8=>?_,λ y hy=>?_⟩
 ·have e3:=o8 (S:=S) q0 (by omega)
  by_cases c3:q=k
  ·subst c3
   rw[g]
   by_cases y6:c=6
   ·subst y6;rw[if_pos rfl]
   rw[if_neg (by omega)]
   by_cases y3:c=3
   ·subst y3;rw[if_pos rfl];rfl
   rw[if_neg (by omega)]
   by_cases y2:c=2
   ·subst y2;rw[if_pos rfl];rfl
   rw[if_neg (by omega)]
   by_cases y1:c=1
   ·subst y1;rw[if_pos rfl];rfl
   rw[if_neg (by omega)]
   by_cases y0:c=0
   ·subst y0;rw[if_pos rfl];rfl
   rw[if_neg (by omega),h.out _ (λ q d h0 h1 _ _=>by have e4:=o8 (S:=S) h0 (by omega);omega)]
   refine(hW.get _ ?_).symm
   rintro⟨q,d,h0,h1,hd,e2⟩
   have e4:=o8 (S:=S) h0 h1
   omega
  ·rw[g,if_neg (by omega),if_neg (by omega),if_neg (by omega),if_neg (by omega),if_neg (by omega)]
   exact h.inn q c q0 (by omega) c0 c8
 ·have hn:∀d:Int,0 <= d -> d<8 -> y≠ae S k+d:=λ d d0 d8=>hy k d (by omega) (by omega) d0 d8
  rw[g,if_neg (hn 6 (by decide) (by decide)),if_neg (hn 3 (by decide) (by decide)),if_neg (hn 2 (by decide) (by decide)),if_neg (hn 1 (by decide) (by decide)),if_neg (hn 0 (by decide) (by decide))]
  exact h.out y λ q d h0 h1 h2 h3=>hy q d h0 (by omega) h2 h3
theorem Sto.fin{S:Setup}(hV:SetV S){M W N:MemS}(hM:(M.cs.length:Int)=sizeOf S)(h:Sto S M W N S.nb)(hW:KpB S M W)(e:W=nU S M):ColR S M (kr (kr (kr (kr N 1 6) 2 0) 3 0) 5 0):=by
 have hP:=hV.pl
 have hz:sizeOf S=48+4*S.players+8*S.nb:=rfl
 have hl:=h.len
 have g:∀y,(kr (kr (kr (kr N 1 6) 2 0) 3 0) 5 0).get y=if y=5 then 0 else if y=3 then 0 else if y=2 then 0 else if y=1 then 6 else N.get y:=λ y=>by
  rw[j4 (by simp only[j5];omega),j4 (by simp only[j5];omega),j4 (by simp only[j5];omega),j4 (by omega)]
 refine⟨⟨by simp only[j5];have hk:=(GV S M).len;omega,λ y hy=>?_⟩,by rw[g];rfl,by rw[g];rfl,by rw[g];rfl,by rw[g];rfl⟩
 ·unfold fh at hy
  rw[g,if_neg (by omega),if_neg (by omega),if_neg (by omega),if_neg (by omega),<- e]
  by_cases c:∃q c:Int,0 <= q /\ q<(S.nb:Int) /\ 0 <= c /\ c<8 /\ y=ae S q+c
  ·obtain⟨q,d,q0,q1,d0,d8,ey⟩:=c
   rw[ey]
   exact h.inn q d q0 q1 d0 d8
  ·rw[h.out y λ q d h0 h1 h2 h3 e2=>c ⟨q,d,h0,h1,h2,h3,e2⟩]
   refine(hW.get y ?_).symm
   rintro⟨q,d,q0,q1,hd,e2⟩
   exact c ⟨q,d,q0,q1,by omega,by omega,e2⟩
section
variable {α:Type} {e:Enc α} {T:TypeId} {F:HL} {A:Option Addr} {n cap:Nat} {xs:List α}
end
theorem sO{w:Nat}{g g':Nat -> Nat -> Value}:∀ {n:Nat},(∀i k,i<n -> k<w -> g i k=g' i k) -> bU w g n=bU w g' n
 | 0,_=>rfl
 | n+1,h=>by
  rw[bU,bU,sO λ i k hi hk=>h i k (by omega) hk]
  congr 1
  exact List.map_congr_left λ k hk=>h n k (by omega) (List.mem_range.1 hk)
theorem jH{w n:Nat}{g g':Nat -> Nat -> Value}{ty:TypeId}{fz:Nat × Nat}(h:∀i k,i<n -> k<w -> g i k=g' i k):(Blk.rows w n g ty fz).den=(Blk.rows w n g' ty fz).den:=by
 simp only[Blk.den,sO h]
section
variable {r:Option Nat} {P:Program} {N:Nat} {D:List Deferred} {F:HL} {w0:World} {R:HL} {s:Cfg} {Q:Exit -> Act -> World -> Prop}
theorem sP(i:Nat)(a b:Blk)(e:a.den=b.den)(hk:RN r P N D F w0 R (OD i b s) Q)(h:OE i s=some a.den:=by kernel_rfl):RN r P N D F w0 R s Q:=RN.dn i b hk (h.trans (congrArg some e))
end
def dk:Enc Mot:=⟨5,λ p k=>match k with|0=>vI p.px|1=>vI p.py|2=>vI p.vx|3=>vI p.vy|_=>vI p.inv,aj⟩
theorem GZ(a b:Bx)(F:HL):Sp Tryz.prog 137 #[.agg #[vI a.x0,vI a.y0,vI a.x1,vI a.y1],.agg #[vI b.x0,vI b.y0,vI b.x1,vI b.y1]] [] F (λ u H'=>u=.agg #[vI ((iy a b).x0),vI ((iy a b).y0),vI ((iy a b).x1),vI ((iy a b).y1)] /\ H'=[]):=by
 refine Sp.run Tryz.func137 rfl mn (A:=[]) (Ts:=[]) rfl λ w0=>?_
 refine aa 33 [.own 2,.own 1,.own 2,.own 1,.own 2,.own 1,.own 2,.own 1,.own 0,.own 0,.own 0,.own 0] λ n1=>?_
 exact RN.ret [.own 0,.own 0,.own 0,.own 0] [] [] ⟨rfl,rfl⟩
theorem qE(S:Setup)(wp bb hb xb n:Nat)(sp sc ss x v lo up:Int)(F:HL)(hw:(wp,.lit (Setup.l S++[vS bb 0 n n,vS hb 0 n n,vS xb 0 n n,vI sp,vI sc,vI ss]) 156 (0,0))∈F):Sp Tryz.prog 136 #[vP wp 0,vI x,vI v,vI lo,vI up] [] F (λ u H'=>u=.tuple #[vI (az x lo up),vI (mz x v lo up S.rest)] /\ H'=[]):=by
 refine Sp.run Tryz.func136 rfl (mc hw mn) (A:=[]) (Ts:=[]) rfl λ w0=>?_
 refine aa 11 [] λ _=>al (cJ x lo up  _)<|aa 11 [] λ _=>RN.en (az x lo up=x) 19 (λ h1=>?_) λ h1=>?_
 ·refine aa 11 [] λ _=>RN.ret [] [] [] (v:=.tuple #[vI (az x lo up),vI v]) (H':=[]) ?_
  refine⟨?_,rfl⟩
  unfold mz;rw[if_pos h1]
 ·refine aa 8 [.ro 0] λ _=>al (k8 v S.rest  _)<|aa 12 [] λ _=>RN.ret [] [] [] (v:=.tuple #[vI (az x lo up),vI (i64.wrap (0-(eS v S.rest)))]) (H':=[]) ?_
  refine⟨?_,rfl⟩
  unfold mz;rw[if_neg h1]
theorem wX{α:Type}{l:List α}{i:Nat}{x d:α}(h:i<l.length):(l.set i x).getD i d=x:=by simp[h]
theorem AR{α:Type}{l:List α}{i k:Nat}{x d:α}(h:¬ i=k):(l.set i x).getD k d=l.getD k d:=by simp[List.getElem?_set,h]
theorem Mj{l:List Mot}{n i:Nat}(hl:l.length=n)(h:i<n)(p:Mot):∀i' k',i'<n -> k'<5 -> cM (cM (cM (cM (cM (aD dk l) i 0 (vI p.px)) i 1 (vI p.py)) i 2 (vI p.vx)) i 3 (vI p.vy)) i 4 (vI p.inv) i' k'=aD dk (l.set i p) i' k':=λ i' k' h1 h2=>by
 unfold cM aD
 by_cases h1:i'=i
 ·subst h1
  rw[wX (by omega)]
  obtain rfl|rfl|rfl|rfl|rfl:k'=0 \/ k'=1 \/ k'=2 \/ k'=3 \/ k'=4:=by omega
  ·rw[if_neg (by simp),if_neg (by simp),if_neg (by simp),if_neg (by simp),if_pos ⟨rfl,rfl⟩];rfl
  ·rw[if_neg (by simp),if_neg (by simp),if_neg (by simp),if_pos ⟨rfl,rfl⟩];rfl
  ·rw[if_neg (by simp),if_neg (by simp),if_pos ⟨rfl,rfl⟩];rfl
  ·rw[if_neg (by simp),if_pos ⟨rfl,rfl⟩];rfl
  ·rw[if_pos ⟨rfl,rfl⟩];rfl
 ·rw[AR (λ e=>h1 e.symm),if_neg (λ e=>h1 e.1),if_neg (λ e=>h1 e.1),if_neg (λ e=>h1 e.1),if_neg (λ e=>h1 e.1),if_neg (λ e=>h1 e.1)]
theorem N1{l:List Bx}{n i:Nat}(hl:l.length=n)(h:i<n)(p:Bx):∀i' k',i'<n -> k'<4 -> cM (cM (cM (cM (aD fj l) i 0 (vI p.x0)) i 1 (vI p.y0)) i 2 (vI p.x1)) i 3 (vI p.y1) i' k'=aD fj (l.set i p) i' k':=λ i' k' h1 h2=>by
 unfold cM aD
 by_cases h1:i'=i
 ·subst h1
  rw[wX (by omega)]
  obtain rfl|rfl|rfl|rfl:k'=0 \/ k'=1 \/ k'=2 \/ k'=3:=by omega
  ·rw[if_neg (by simp),if_neg (by simp),if_neg (by simp),if_pos ⟨rfl,rfl⟩];rfl
  ·rw[if_neg (by simp),if_neg (by simp),if_pos ⟨rfl,rfl⟩];rfl
  ·rw[if_neg (by simp),if_pos ⟨rfl,rfl⟩];rfl
  ·rw[if_pos ⟨rfl,rfl⟩];rfl
 ·rw[AR (λ e=>h1 e.symm),if_neg (λ e=>h1 e.1),if_neg (λ e=>h1 e.1),if_neg (λ e=>h1 e.1),if_neg (λ e=>h1 e.1)]
theorem yY(S:Setup)(wp bb hb xb n i:Nat)(sp sc ss:Int)(bl:List Mot)(xl:List Bx)(m:Mot)(F:HL)(hw:(wp,.lit (Setup.l S++[vS bb 0 n n,vS hb 0 n n,vS xb 0 n n,vI sp,vI sc,vI ss]) 156 (0,0))∈F)(hS:SetIn F S)(hn:n=S.nb)(hi:i<n)(QV:bl.length=n)(RF:xl.length=n):Sp Tryz.prog 92 #[vP wp 0,vI (i:Int),.agg #[vI m.px,vI m.py,vI m.vx,vI m.vy,vI m.inv]] [(bb,.rows 5 n (aD dk bl) 68 (0,0)),(xb,.rows 4 n (aD fj xl) 25 (0,0))] F (λ _ H'=>H'=[(bb,.rows 5 n (aD dk (bl.set i m)) 68 (0,0)),(xb,.rows 4 n (aD fj (xl.set i (aI (S.body i).sh ⟨m.px,m.py⟩))) 25 (0,0))]):=by
 have n_:=hS.room
 have RW:=hS.nb
 refine Sp.run Tryz.func92 rfl (mc hw (mc hS.blk mn)) (A:=[(bb,.rows 5 n (aD dk bl) 68 (0,0)),(xb,.rows 4 n (aD fj xl) 25 (0,0))]) (Ts:=[]) rfl λ w0=>?_
 refine aa 6 [] λ n1=>RN.draw [7] []<|aL [] [0,4,5,1,2,3,6] (ow 0 5++[.ro 0,.ix i]) [(i:Int)=((i:Nat):Int) /\ i<n]<|RD.one 7 (bT [] [.row 1 i 0,.row 1 i 1,.row 1 i 2,.row 1 i 3,.row 1 i 4] [((0+i*5)+4)=i*5+4 /\ i<n,((0+i*5)+3)=i*5+3 /\ i<n,((0+i*5)+2)=i*5+2 /\ i<n,((0+i*5)+1)=i*5+1 /\ i<n,(0+i*5)=i*5+0 /\ i<n] λ _=>?_)
 refine RD.fin<|aa 1 [] λ _=>sP 1 (.rows 5 n (cM (cM (cM (cM (cM (aD dk bl) i 0 (vI m.px)) i 1 (vI m.py)) i 2 (vI m.vx)) i 3 (vI m.vy)) i 4 (vI m.inv)) 68 (0,0)) (.rows 5 n (aD dk (bl.set i m)) 68 (0,0)) (jH (Mj QV hi m))<|RN.draw [18] []<|aL [] [0,4,5,10,14,1,6,15,2,7,3,8,9,11,12,13] [.own 0,.own 0,.ro 0,.ro 0,.ix i,.rorow 1 (S.bo+i) 0,.rorow 1 (S.bo+i) 1] [((S.bo*9+i*9)+1)=(S.bo+i)*9+1 /\ (S.bo+i)<S.bR,(S.bo*9+i*9)=(S.bo+i)*9+0 /\ (S.bo+i)<S.bR,(i:Int)=((i:Nat):Int) /\ i<S.nb]<|au [] 16 (λ X_=>(jL (S.bods.getD (S.bo+i) dB).sh (⟨m.px,m.py⟩:V2) _ ((hS.shp i (by omega)).up.up)))<|aL [] [17] [.ix i] [(i:Int)=((i:Nat):Int) /\ i<n]<|RD.one 18 (bT [] [.row 2 i 0,.row 2 i 1,.row 2 i 2,.row 2 i 3] [((0+i*4)+3)=i*4+3 /\ i<n,((0+i*4)+2)=i*4+2 /\ i<n,((0+i*4)+1)=i*4+1 /\ i<n,(0+i*4)=i*4+0 /\ i<n] λ _=>?_)
 refine RD.fin<|sP 2 (.rows 4 n (cM (cM (cM (cM (aD fj xl) i 0 (vI ((aI (S.bods.getD (S.bo+i) dB).sh (⟨m.px,m.py⟩:V2)).x0))) i 1 (vI ((aI (S.bods.getD (S.bo+i) dB).sh (⟨m.px,m.py⟩:V2)).y0))) i 2 (vI ((aI (S.bods.getD (S.bo+i) dB).sh (⟨m.px,m.py⟩:V2)).x1))) i 3 (vI ((aI (S.bods.getD (S.bo+i) dB).sh (⟨m.px,m.py⟩:V2)).y1))) 25 (0,0)) (.rows 4 n (aD fj (xl.set i (aI (S.body i).sh ⟨m.px,m.py⟩))) 25 (0,0)) (jH (N1 RF hi (aI (S.body i).sh ⟨m.px,m.py⟩)))<|RN.ret [] [1,2] [] (v:=.tuple #[]) (H':=[(bb,.rows 5 n (aD dk (bl.set i m)) 68 (0,0)),(xb,.rows 4 n (aD fj (xl.set i (aI (S.body i).sh ⟨m.px,m.py⟩))) 25 (0,0))]) ?_
 rfl
theorem lD(S:Setup)(wp bb hb xb n i:Nat)(sp sc ss:Int)(bl:List Mot)(xl:List Bx)(m:Mot)(F:HL)(hw:(wp,.lit (Setup.l S++[vS bb 0 n n,vS hb 0 n n,vS xb 0 n n,vI sp,vI sc,vI ss]) 156 (0,0))∈F)(hS:SetIn F S)(hn:n=S.nb)(hi:i<n)(QV:bl.length=n)(RF:xl.length=n):Sp Tryz.prog 92 #[vP wp 0,vI (i:Int),.agg #[vI m.px,vI m.py,vI m.vx,vI m.vy,vI m.inv]] (ap [(bb,.rows 5 n (aD dk bl) 68 (0,0)),(xb,.rows 4 n (aD fj xl) 25 (0,0))] []) F (λ u H'=>∃x:Unit,H'=ap [(bb,.rows 5 n (aD dk (bl.set i m)) 68 (0,0)),(xb,.rows 4 n (aD fj (xl.set i (aI (S.body i).sh ⟨m.px,m.py⟩))) 25 (0,0))] [] /\ True) :=
 (yY S wp bb hb xb n i sp sc ss bl xl m F hw hS hn hi QV RF).mono λ u H' h_=>⟨(),by rw[h_];rfl,trivial⟩
end Go.Proofs.YthoijjeddhfcnaaGreatDoor
