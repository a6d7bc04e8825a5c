import Derived.Test.YthoijjeddhfcnaaGreatDoorZ33
import Derived.Test.YthoijjeddhfcnaaGreatDoorZ17
set_option maxHeartbeats 4000000
set_option maxRecDepth 100000
set_option linter.unusedSimpArgs false
set_option linter.unusedVariables false
namespace Go.Proofs.YthoijjeddhfcnaaGreatDoor
open Go.RowKit
def AgD(D:Int -> Prop)(A B:MemS):Prop:=A.cs.length=B.cs.length /\ ∀y,D y -> A.get y=B.get y
theorem t7{D:Int -> Prop}{A B:MemS}{i:Int}(v:Int)(h:AgD D A B):AgD D (A.set i v) (B.set i v):=by
 refine⟨by rw[aA,aA,h.1],λ y hy=>?_⟩
 by_cases e:y=i
 ·subst e
  unfold MemS.set
  rw[h.1]
  split
  ·next c =>
   unfold MemS.get
   simp only[List.length_set]
   rw[h.1,if_pos c,if_pos c,List.getD_eq_getElem?_getD,List.getD_eq_getElem?_getD,List.getElem?_set_self (by rw[h.1];omega),List.getElem?_set_self (by omega)]
  ·exact h.2 y hy
 ·rw[av e,av e]
  exact h.2 y hy
theorem Jw{D:Int -> Prop}(hl:∀i:Int,0 <= i -> i<14 -> i≠4 -> D i):Loc D (AgD D):=⟨⟨λ hi h=>h.2 _ hi,λ v _ h=>t7 v h⟩,hl,λ v h=>t7 v h⟩
theorem GA{a b:List Int}(hl:a.length=b.length)(h:∀y,y<a.length -> a.getD y 0=b.getD y 0):a=b:=by
 apply List.ext_getElem hl
 intro i h1 h2
 have:=h i h1
 rw[List.getD_eq_getElem?_getD,List.getElem?_eq_getElem h1,List.getD_eq_getElem?_getD,List.getElem?_eq_getElem h2] at this
 exact this
def fh(y:Int):Prop:=y<1 \/ 5<y
theorem AgD.refl{D:Int -> Prop}(A:MemS):AgD D A A:=⟨rfl,λ _ _=>rfl⟩
theorem AgD.trans{D:Int -> Prop}{A B C:MemS}(h:AgD D A B)(h':AgD D B C):AgD D A C:=⟨h.1.trans h'.1,λ y hy=>(h.2 y hy).trans (h'.2 y hy)⟩
theorem AgD.off{D:Int -> Prop}{A B:MemS}(h:AgD D A B){i:Int}(hi:¬ D i)(v:Int):AgD D (A.set i v) B:=⟨(aA _ _ _).trans h.1,λ y hy=>by
 rw[av (by intro e;subst e;exact hi hy)]
 exact h.2 y hy⟩
theorem nk(D:Int -> Prop):Loc0 D (AgD D):=⟨λ hi h=>h.2 _ hi,λ v _ h=>t7 v h⟩
def dt(S:Setup)(i j:Int):Stp:=⟨S,none,0,0,0,0,0,0,0,0,0,0,0,[],i,j,false,0,0,0,0,false,[]⟩
def fR(S:Setup)(i j:Int)(M:MemS):MemS:=cq (dt S i j) M
theorem L8(t:Stp)(M:MemS):cq t M=fR t.S t.i t.j M:=rfl
theorem t8{S:Setup}(hp:0 <= S.players)(k:Int):qz fh S k:=λ h c h0 h8=>.inr (by rcases fP (S:=S) hp k with e|⟨_,_,e⟩ <;> omega)
theorem L9{S:Setup}(hp:0 <= S.players)(i j:Int){A B:MemS}(h:AgD fh A B):AgD fh (fR S i j A) (fR S i j B) :=
 wN (nk fh) (dt S i j) hp (t8 hp i) (t8 hp j) h
theorem yR{S:Setup}(hV:SetV S)(i j:Int)(M:MemS):Hi S.players M (fR S i j M):=wJ hV (t:=dt S i j) rfl M
def qA(S:Setup)(i:Int):Int -> Nat -> MemS -> MemS
 | _,0,M=>M
 | j,k+1,M=>qA S i (j+1) k (fR S i j M)
def mt(S:Setup):Int -> Nat -> MemS -> MemS
 | _,0,M=>M
 | i,k+1,M=>mt S (i+1) k (qA S i (i+1) k M)
def iH(S:Setup):Nat -> MemS -> MemS
 | 0,M=>M
 | k+1,M=>iH S k (mt S 0 S.nb M)
structure At(M W:MemS)(p i j r:Int):Prop where
 ag:AgD fh M W
 g1:M.get 1=p
 g2:M.get 2=i
 g3:M.get 3=j
 g4:M.get 4=r
theorem At.l48{S:Setup}(hV:SetV S){M W:MemS}{p i j r:Int}(h:At M W p i j r)(hl:(W.cs.length:Int)=sizeOf S):48 <= M.cs.length:=by
 have h1:=h.ag.1
 have h2:=hV.pl
 unfold sizeOf at hl
 omega
theorem ua{S:Setup}(hV:SetV S)(i:Int):∀ (k:Nat) (j:Int) (M:MemS),(qA S i j k M).cs.length=M.cs.length
 | 0,_,_=>rfl
 | k+1,j,M=>(ua hV i k (j+1) _).trans (yR hV i j M).len
theorem ub{S:Setup}(hV:SetV S):∀ (k:Nat) (i:Int) (M:MemS),(mt S i k M).cs.length=M.cs.length
 | 0,_,_=>rfl
 | k+1,i,M=>(ub hV k (i+1) _).trans (ua hV i k (i+1) M)
theorem uc{S:Setup}(hV:SetV S):∀ (k:Nat) (M:MemS),(iH S k M).cs.length=M.cs.length
 | 0,_=>rfl
 | k+1,M=>(uc hV k _).trans (ub hV S.nb 0 M)
theorem Ou{g:Gm}{M:MemS}(h:M.get 1=4):dp g M=bj (g.step M) M /\ fB g M=false /\ (cF g M).em=false:=by
 unfold dp fB cF
 rw[h]
 simp
theorem Ov{g:Gm}{M:MemS}(h:M.get 1=5):dp g M=cY (g.step M) M /\ fB g M=false /\ (cF g M).em=false:=by
 unfold dp fB cF
 rw[h]
 simp
theorem GB{g:Gm}(hV:SetV g.S){M W:MemS}{i j r:Int}(h:At M W 4 i j r)(hl:(W.cs.length:Int)=sizeOf g.S)(h2:2 <= g.S.nb)(hi:0 <= i /\ i<j)(hj:j<g.S.nb)(hr:0 <= r /\ r<g.S.rounds) :
  At (dp g M) (fR g.S i j W) 4 (if j+1<g.S.nb then i else if i+2<g.S.nb then i+1 else 0) (if j+1<g.S.nb then j+1 else if i+2<g.S.nb then i+2 else 1) (if j+1<g.S.nb then r else if i+2<g.S.nb then r else r+1):=by
 have hn:=hV.nb
 have hR:=hV.ro
 have Qn:=h.l48 hV hl
 obtain⟨ag,g1,g2,g3,g4⟩:=h
 have ht:=yR hV i j M
 have V4:=L9 (S:=g.S) (by have:=hV.pl;omega) i j ag
 rw[(Ou g1).1]
 unfold bj
 rw[if_neg (by show ¬ ((g.S.nb:Int)<2);omega),if_neg (by show ¬ (M.get 4 >= g.S.rounds);omega),L8]
 show At (((MemS.set (fR g.S (M.get 2) (M.get 3) M) 4 (cZ (M.get 2) (M.get 3) g.S.nb (M.get 4)).1).set 2 (cZ (M.get 2) (M.get 3) g.S.nb (M.get 4)).2.1).set 3 (cZ (M.get 2) (M.get 3) g.S.nb (M.get 4)).2.2) _ _ _ _ _
 rw[g2,g3,g4]
 have Qh:48 <= (fR g.S i j M).cs.length:=by rw[ht.len];exact Qn
 have e1:=ht.get 1 (by have:=hV.pl;omega)
 generalize fR g.S i j M=N at *
 have hx:cZ i j g.S.nb r=(if j+1<g.S.nb then r else if i+2<g.S.nb then r else r+1,if j+1<g.S.nb then i else if i+2<g.S.nb then i+1 else 0,if j+1<g.S.nb then j+1 else if i+2<g.S.nb then i+2 else 1):=by
  unfold cZ
  rw[aK (by omega),aK (by omega),aK (by omega),aK (by omega)]
  split
  ·rfl
  ·split <;> rfl
 rw[hx]
 refine⟨((V4.off (by unfold fh;omega) _).off (by unfold fh;omega) _).off (by unfold fh;omega) _,?_,?_,?_,?_⟩
 ·rw[av (by decide),av (by decide),av (by decide),e1,g1]
 ·rw[av (by decide),bL (by rw[aA];omega)]
 ·rw[bL (by simp only[aA];omega)]
 ·rw[av (by decide),av (by decide),bL (by omega)]
def Still(g:Gm):Nat -> MemS -> Prop
 | 0,_=>True
 | k+1,M=>fB g M=false /\ (cF g M).em=false /\ Still g k (dp g M)
theorem Still.add{g:Gm}:∀ (a:Nat) {b:Nat} {M:MemS},Still g a M -> Still g b (dD g a M) -> Still g (a+b) M
 | 0,b,M,_,h=>by rw[Nat.zero_add];exact h
 | a+1,b,M,h,h'=>by
  rw[show a+1+b=(a+b)+1 by omega]
  exact⟨h.1,h.2.1,Still.add a h.2.2 h'⟩
theorem wO(g:Gm):∀ (a b:Nat) (M:MemS),dD g (a+b) M=dD g b (dD g a M)
 | 0,b,M=>by rw[Nat.zero_add];rfl
 | a+1,b,M=>by
  rw[show a+1+b=(a+b)+1 by omega,dD,dD,wO g a b]
def To(g:Gm)(M W:MemS)(p i j r:Int)(Q:MemS -> Prop):Prop:=∃k,Still g k M /\ At (dD g k M) W p i j r /\ Q (dD g k M)
theorem To.step{g:Gm}{M W:MemS}{p i j r:Int}{Q:MemS -> Prop}(h1:fB g M=false)(h2:(cF g M).em=false)(h:To g (dp g M) W p i j r Q):To g M W p i j r Q:=by
 obtain⟨k,a,b⟩:=h
 exact⟨k+1,⟨h1,h2,a⟩,b⟩
abbrev Ow(_:MemS):Prop:=True
theorem yS{g:Gm}(hV:SetV g.S)(h2:2 <= g.S.nb){i r:Int}(hi:0 <= i)(hr:0 <= r /\ r<g.S.rounds):∀ (k:Nat) (j:Int) {M W:MemS},At M W 4 i j r -> (W.cs.length:Int)=sizeOf g.S -> i<j -> j+(k+1:Nat)=g.S.nb ->
  To g M (qA g.S i j (k+1) W) 4 (if i+2<g.S.nb then i+1 else 0) (if i+2<g.S.nb then i+2 else 1) (if i+2<g.S.nb then r else r+1) Ow
 | 0,j,M,W,h,hl,RZ,hj=>by
  have h1:=GB hV h hl h2 ⟨hi,RZ⟩ (by omega) hr
  have hc:¬ (j+1<(g.S.nb:Int)):=by omega
  rw[if_neg hc,if_neg hc,if_neg hc] at h1
  obtain⟨_,e1,e2⟩:=Ou (g:=g) h.g1
  exact .step e1 e2 ⟨0,trivial,h1,trivial⟩
 | k+1,j,M,W,h,hl,RZ,hj=>by
  have h1:=GB hV h hl h2 ⟨hi,RZ⟩ (by omega) hr
  have hc:j+1<(g.S.nb:Int):=by omega
  rw[if_pos hc,if_pos hc,if_pos hc] at h1
  obtain⟨_,e1,e2⟩:=Ou (g:=g) h.g1
  exact .step e1 e2 (yS hV h2 hi hr k (j+1) h1 (by rw[(yR hV i j W).len];exact hl) (by omega) (by omega))
theorem To.then{g:Gm}{M W W2:MemS}{p i j r p2 i2 j2 r2:Int}{Q Q2:MemS -> Prop}(h:To g M W p i j r Q)(h2:∀N,At N W p i j r -> Q N -> To g N W2 p2 i2 j2 r2 Q2):To g M W2 p2 i2 j2 r2 Q2:=by
 obtain⟨k,a,b,c⟩:=h
 obtain⟨k2,a2,b2⟩:=h2 _ b c
 exact⟨k+k2,a.add _ a2,by rw[wO];exact b2⟩
theorem GC{g:Gm}(hV:SetV g.S)(h2:2 <= g.S.nb){r:Int}(hr:0 <= r /\ r<g.S.rounds):∀ (k:Nat) (i:Int) {M W:MemS},At M W 4 i (i+1) r -> (W.cs.length:Int)=sizeOf g.S -> 0 <= i -> i+(k+2:Nat)=g.S.nb ->
  To g M (mt g.S i (k+2) W) 4 0 1 (r+1) Ow
 | 0,i,M,W,h,hl,hi,hk=>by
  have h1:=yS hV h2 hi hr 0 (i+1) h hl (by omega) (by omega)
  have hc:¬ (i+2<(g.S.nb:Int)):=by omega
  rw[if_neg hc,if_neg hc,if_neg hc] at h1
  exact h1
 | k+1,i,M,W,h,hl,hi,hk=>by
  have h1:=yS hV h2 hi hr (k+1) (i+1) h hl (by omega) (by omega)
  have hc:i+2<(g.S.nb:Int):=by omega
  rw[if_pos hc,if_pos hc,if_pos hc] at h1
  refine h1.then λ N hN _=>?_
  exact GC hV h2 hr k (i+1) (by rw[show i+1+1=i+2 by omega];exact hN) (by rw[ua hV];exact hl) (by omega) (by omega)
theorem GD{g:Gm}(hV:SetV g.S)(h2:2 <= g.S.nb):∀ (k:Nat) (r:Int) {M W:MemS},At M W 4 0 1 r -> (W.cs.length:Int)=sizeOf g.S -> 0 <= r -> r+(k:Nat)=g.S.rounds -> To g M (iH g.S k W) 4 0 1 g.S.rounds Ow
 | 0,r,M,W,h,hl,hr,hk=>⟨0,trivial,by rw[show g.S.rounds=r by omega];exact h,trivial⟩
 | k+1,r,M,W,h,hl,hr,hk=>by
  have hn:∃q:Nat,g.S.nb=q+2:=⟨g.S.nb-2,by omega⟩
  obtain⟨q,hq⟩:=hn
  have h1:=GC hV h2 ⟨hr,by omega⟩ q 0 (by rw[Int.zero_add];exact h) hl (by omega) (by omega)
  refine h1.then λ N hN _=>?_
  have e:iH g.S (k+1) W=iH g.S k (mt g.S 0 (q+2) W):=by rw[iH,hq]
  rw[e]
  exact GD hV h2 k (r+1) hN (by rw[ub hV];exact hl) (by omega) (by omega)
theorem Ma{g:Gm}(hV:SetV g.S){M:MemS}(hl:(M.cs.length:Int)=sizeOf g.S)(h1:M.get 1=4)(h2:M.get 2=0)(h3:M.get 3=1)(h4:M.get 4=0) :
  To g M (if g.S.nb<2 then M else iH g.S g.S.rounds.toNat M) 5 0 0 (if g.S.nb<2 then 0 else g.S.rounds) (λ N=>N.get 5=1024):=by
 have hR:=hV.ro
 have hP:=hV.pl
 have fin:∀ {N W:MemS} {i j r:Int},At N W 4 i j r -> (W.cs.length:Int)=sizeOf g.S -> (g.S.nb<2 \/ r=g.S.rounds) -> To g N W 5 0 0 r (λ N=>N.get 5=1024):=λ {N W i j r} h hl hc=>by
  have Qn:=h.l48 hV hl
  obtain⟨e0,e1,e2⟩:=Ou (g:=g) h.g1
  refine .step e1 e2 ⟨0,trivial,?_⟩
  show At (dp g N) _ _ _ _ _ /\ (dp g N).get 5=1024
  have e3:dp g N=(aQ (g.step N) 5 0 N).set 5 1024:=by
   rw[e0]
   unfold bj
   by_cases hn:(g.S.nb:Int)<2
   ·rw[if_pos hn]
   ·rw[if_neg hn,if_pos (by show N.get 4 >= g.S.rounds;rw[h.g4];omega)]
  have hb:=fQ Qn (g.step N) 5 0
  have QV:=eJ (M:=N) (g.step N) 5 0
  rw[e3]
  refine⟨⟨?_,?_,?_,?_,?_⟩,bL (by omega)⟩
  ·refine AgD.off ?_ (by unfold fh;omega) _
   refine⟨QV.trans h.ag.1,λ y hy=>?_⟩
   unfold fh at hy
   rw[hb,if_neg (by omega),if_neg (by omega),if_neg (by omega)]
   exact h.ag.2 y hy
  ·rw[av (by decide),hb];simp
  ·rw[av (by decide),hb];simp
  ·rw[av (by decide),hb];simp
  ·rw[av (by decide),hb];simp;exact h.g4
 have h0:At M M 4 0 1 0:=⟨.refl M,h1,h2,h3,h4⟩
 by_cases hn:g.S.nb<2
 ·rw[if_pos hn,if_pos hn]
  exact fin h0 hl (.inl hn)
 ·rw[if_neg hn,if_neg hn]
  exact(GD hV (by omega) g.S.rounds.toNat 0 h0 hl (by omega) (by omega)).then λ N hN _=>fin hN (by rw[uc hV];exact hl) (.inr rfl)
def iw(S:Setup)(i j:Int)(M:MemS):Int:=kq (dt S i j) M
def ri(S:Setup)(i:Int):Int -> Nat -> Int -> MemS -> Int
 | _,0,f,_=>f
 | j,k+1,f,M=>ri S i (j+1) k (if i=j then f else if iw S i j M<f then iw S i j M else f) M
def mu(S:Setup)(i c5:Int)(M:MemS):V2:=ay ⟨(ai S M i).px,(ai S M i).py⟩ (aY ⟨(ai S M i).vx,(ai S M i).vy⟩ (if aV (c5+128)<1024 then aV (c5+128) else 1024) 1024)
def kT(S:Setup)(i c5:Int)(M:MemS):MemS:=b7 (dt S i 0) (ae S i+1) (ae S i+3) (mu S i c5 M).y S.box.y0 S.box.y1 (b7 (dt S i 0) (ae S i+0) (ae S i+2) (mu S i c5 M).x S.box.x0 S.box.x1 M)
theorem Mb(t:Stp)(M:MemS):bI t M=kT t.S t.i (M.get 5) M:=rfl
def yT(S:Setup)(i:Int)(M:MemS):MemS:=if movP S i then kT S i (ri S i 0 S.nb 1024 M) M else M
def rj(S:Setup):Int -> Nat -> MemS -> MemS
 | _,0,M=>M
 | i,k+1,M=>rj S (i+1) k (yT S i M)
section
variable {S:Setup} (hV:SetV S)
theorem ud(hV:SetV S){i:Int}(hi:0 <= i /\ i<S.nb){A B:MemS}(h:AgD fh A B):ai S A i=ai S B i:=j0 (nk fh) (t8 (by have:=hV.pl;omega) i (nh (by have:=hV.pl;omega) hi)) h
theorem Jy(hV:SetV S){i j:Int}(hi:0 <= i /\ i<S.nb)(hj:0 <= j /\ j<S.nb){A B:MemS}(h:AgD fh A B):iw S i j A=iw S i j B:=by
 show fw _ ⟨(ai S A i).px,(ai S A i).py⟩ ⟨(ai S A i).vx,(ai S A i).vy⟩ _ ⟨(ai S A j).px,(ai S A j).py⟩ _=fw _ ⟨(ai S B i).px,(ai S B i).py⟩ ⟨(ai S B i).vx,(ai S B i).vy⟩ _ ⟨(ai S B j).px,(ai S B j).py⟩ _
 rw[ud hV hi h,ud hV hj h]
theorem Mc(hV:SetV S){i:Int}(hi:0 <= i /\ i<S.nb)(c5:Int){A B:MemS}(h:AgD fh A B):AgD fh (kT S i c5 A) (kT S i c5 B):=by
 have hb:=t8 (S:=S) (by have:=hV.pl;omega) i (nh (by have:=hV.pl;omega) hi)
 have e:mu S i c5 A=mu S i c5 B:=by unfold mu;rw[ud hV hi h]
 unfold kT
 rw[e]
 exact nj (nk fh) (dt S i 0) _ _ _ (hb 1 (by decide) (by decide)) (hb 3 (by decide) (by decide)) (nj (nk fh) (dt S i 0) _ _ _ (hb 0 (by decide) (by decide)) (hb 2 (by decide) (by decide)) h)
theorem GE(hV:SetV S){i:Int}(hi:0 <= i /\ i<S.nb)(c5:Int)(M:MemS):Hi S.players M (kT S i c5 M):=by
 have hb:ae S i >= 0:=nh (by have:=hV.pl;omega) hi
 have hp:0 <= S.players:=by have:=hV.pl;omega
 exact ng hp (ng hp .refl (t:=dt S i 0) hb (c:=0) (d:=2) (by decide) (by decide) _ _ _) (t:=dt S i 0) hb (c:=1) (d:=3) (by decide) (by decide) _ _ _
theorem Md(hV:SetV S){i:Int}(M:MemS):(yT S i M).cs.length=M.cs.length:=by
 unfold yT
 split
 ·next h=>exact(GE hV h.has _ M).len
 ·rfl
end
theorem Jz{g:Gm}(hV:SetV g.S){M W:MemS}{i j r f:Int}(h:At M W 5 i j r)(h5:M.get 5=f)(hl:(W.cs.length:Int)=sizeOf g.S)(hi:0 <= i /\ i<g.S.nb)(hj:0 <= j /\ j<g.S.nb) :
  At (dp g M) W 5 i (j+1) r /\ (dp g M).get 5=(if movP g.S i then (if i=j then f else if iw g.S i j W<f then iw g.S i j W else f) else f):=by
 have hn:=hV.nb
 have Qn:=h.l48 hV hl
 obtain⟨ag,g1,g2,g3,g4⟩:=h
 have e1:kq (g.step M) M=iw g.S i j W:=by
  have e0:kq (g.step M) M=iw g.S (M.get 2) (M.get 3) M:=rfl
  rw[e0,g2,g3]
  exact Jy hV hi hj ag
 obtain⟨t1,t2⟩:=qs (g.step M) Qn 1
 have tk:=λ k=>(qs (g.step M) Qn k).1
 have t5:(dH (g.step M) M).get 5=(if movP g.S i then (if i=j then f else if iw g.S i j W<f then iw g.S i j W else f) else f):=by
  unfold dH
  rw[e1]
  show MemS.get (if M.get 2=M.get 3 then M else if movP g.S (M.get 2) then _ else M) 5=_
  rw[g2,g3,h5]
  by_cases c1:i=j
  ·rw[if_pos c1,if_pos c1,h5];split <;> rfl
  ·rw[if_neg c1,if_neg c1]
   by_cases c2:movP g.S i
   ·rw[if_pos c2,if_pos c2]
    by_cases c3:iw g.S i j W<f
    ·rw[if_pos c3,if_pos c3,bL (by omega)]
    ·rw[if_neg c3,if_neg c3,h5]
   ·rw[if_neg c2,if_neg c2,h5]
 rw[(Ov g1).1]
 unfold cY
 rw[if_pos (by show 0 <= M.get 3 /\ M.get 3<(g.S.nb:Int);omega)]
 show At ((dH (g.step M) M).set 3 (aV (M.get 3+1))) W 5 i (j+1) r /\ _
 rw[g3,aK (by omega)]
 refine⟨⟨AgD.off ⟨t2.trans ag.1,λ y hy=>?_⟩ (by unfold fh;omega) _,?_,?_,?_,?_⟩,?_⟩
 ·rw[tk y,if_neg (by unfold fh at hy;omega)]
  exact ag.2 y hy
 ·rw[av (by decide),tk];exact g1
 ·rw[av (by decide),tk];exact g2
 ·rw[bL (by rw[t2];omega)]
 ·rw[av (by decide),tk];exact g4
 ·rw[av (by decide),t5]
theorem wP{g:Gm}(hV:SetV g.S){i r:Int}(hi:0 <= i /\ i<g.S.nb):∀ (k:Nat) (j f:Int) {M W:MemS},At M W 5 i j r -> M.get 5=f -> (W.cs.length:Int)=sizeOf g.S -> 0 <= j -> j+(k:Nat)=g.S.nb ->
  To g M W 5 i g.S.nb r (λ N=>N.get 5=if movP g.S i then ri g.S i j k f W else f)
 | 0,j,f,M,W,h,h5,hl,h0,hk=>⟨0,trivial,by rw[show (g.S.nb:Int)=j by omega];exact h,by show M.get 5=_;rw[h5];split <;> rfl⟩
 | k+1,j,f,M,W,h,h5,hl,h0,hk=>by
  obtain⟨a1,a2⟩:=Jz hV h h5 hl hi (j:=j) ⟨h0,by omega⟩
  obtain⟨_,e1,e2⟩:=Ov (g:=g) h.g1
  have h1:=wP hV hi k (j+1) _ a1 a2 hl (by omega) (by omega)
  refine .step e1 e2 ?_
  obtain⟨q,b1,b2,b3⟩:=h1
  refine⟨q,b1,b2,?_⟩
  show (dD g q (dp g M)).get 5=_
  rw[b3,ri]
  by_cases c2:movP g.S i
  ·rw[if_pos c2,if_pos c2,if_pos c2]
  ·rw[if_neg c2,if_neg c2,if_neg c2]
theorem NV{g:Gm}(hV:SetV g.S){M W:MemS}{i r f:Int}(h:At M W 5 i g.S.nb r)(h5:M.get 5=f)(hl:(W.cs.length:Int)=sizeOf g.S)(hi:0 <= i /\ i<g.S.nb) :
  At (dp g M) (if movP g.S i then kT g.S i f W else W) (if i+1<g.S.nb then 5 else 6) (if i+1<g.S.nb then i+1 else 0) 0 r /\ (dp g M).get 5=if i+1<g.S.nb then 1024 else 0:=by
 have hn:=hV.nb
 have Qn:=h.l48 hV hl
 obtain⟨ag,g1,g2,g3,g4⟩:=h
 have hN:∃N:MemS,(if movP g.S i then bI (g.step M) M else M)=N /\ AgD fh N (if movP g.S i then kT g.S i f W else W) /\ 48 <= N.cs.length /\ N.get 1=5 /\ N.get 4=r:=by
  refine⟨_,rfl,?_⟩
  by_cases c:movP g.S i
  ·rw[if_pos c,if_pos c,Mb]
   show AgD fh (kT g.S (M.get 2) (M.get 5) M) _ /\ 48 <= (kT g.S (M.get 2) (M.get 5) M).cs.length /\ (kT g.S (M.get 2) (M.get 5) M).get 1=5 /\ (kT g.S (M.get 2) (M.get 5) M).get 4=r
   rw[g2,h5]
   have hh:=GE hV hi f M
   exact⟨Mc hV hi f ag,by rw[hh.len];exact Qn,by rw[hh.get 1 (by have:=hV.pl;omega)];exact g1,by rw[hh.get 4 (by have:=hV.pl;omega)];exact g4⟩
  ·rw[if_neg c,if_neg c]
   exact⟨ag,Qn,g1,g4⟩
 obtain⟨N,eN,V4,Pu,n1,n4⟩:=hN
 have e3:dp g M=eH (g.step M) N:=by
  rw[(Ov g1).1]
  unfold cY
  rw[if_neg (by show ¬ (0 <= M.get 3 /\ M.get 3<(g.S.nb:Int));omega)]
  show eH (g.step M) (if movP g.S (M.get 2) then bI (g.step M) M else M)=_
  rw[g2,eN]
 rw[e3]
 unfold eH
 show At (if aV (M.get 2+1)<(g.S.nb:Int) then ((N.set 2 (aV (M.get 2+1))).set 3 0).set 5 1024 else (aQ (g.step M) 6 0 N).set 5 0) _ _ _ _ _ /\ MemS.get (if aV (M.get 2+1)<(g.S.nb:Int) then ((N.set 2 (aV (M.get 2+1))).set 3 0).set 5 1024 else (aQ (g.step M) 6 0 N).set 5 0) 5=_
 rw[g2,aK (by omega)]
 by_cases c:i+1<(g.S.nb:Int)
 ·rw[if_pos c,if_pos c,if_pos c,if_pos c]
  refine⟨⟨((V4.off (by unfold fh;omega) _).off (by unfold fh;omega) _).off (by unfold fh;omega) _,?_,?_,?_,?_⟩,?_⟩
  ·rw[av (by decide),av (by decide),av (by decide),n1]
  ·rw[av (by decide),av (by decide),bL (by omega)]
  ·rw[av (by decide),bL (by rw[aA];omega)]
  ·rw[av (by decide),av (by decide),av (by decide),n4]
  ·rw[bL (by simp only[aA];omega)]
 ·rw[if_neg c,if_neg c,if_neg c,if_neg c]
  have hb:=fQ Pu (g.step M) 6 0
  have QV:=eJ (M:=N) (g.step M) 6 0
  refine⟨⟨AgD.off ⟨QV.trans V4.1,λ y hy=>?_⟩ (by unfold fh;omega) _,?_,?_,?_,?_⟩,bL (by omega)⟩
  ·unfold fh at hy
   rw[hb,if_neg (by omega),if_neg (by omega),if_neg (by omega)]
   exact V4.2 y hy
  ·rw[av (by decide),hb];simp
  ·rw[av (by decide),hb];simp
  ·rw[av (by decide),hb];simp
  ·rw[av (by decide),hb];simp;exact n4
theorem GG{g:Gm}(hV:SetV g.S){r:Int}:∀ (k:Nat) (i:Int) {M W:MemS},At M W 5 i 0 r -> M.get 5=1024 -> (W.cs.length:Int)=sizeOf g.S -> 0 <= i -> i+(k+1:Nat)=g.S.nb ->
  To g M (rj g.S i (k+1) W) 6 0 0 r (λ N=>N.get 5=0)
 | k,i,M,W,h,h5,hl,h0,hk=>by
  have hi:0 <= i /\ i<(g.S.nb:Int):=⟨h0,by omega⟩
  refine(wP hV hi g.S.nb 0 1024 h h5 hl (by omega) (by omega)).then λ N hN h5N=>?_
  obtain⟨a1,a2⟩:=NV hV hN h5N hl hi
  obtain⟨_,e1,e2⟩:=Ov (g:=g) hN.g1
  have eW:(if movP g.S i then kT g.S i (if movP g.S i then ri g.S i 0 g.S.nb 1024 W else 1024) W else W)=yT g.S i W:=by
   unfold yT
   by_cases c:movP g.S i
   ·rw[if_pos c,if_pos c,if_pos c]
   ·rw[if_neg c,if_neg c]
  rw[eW] at a1
  refine .step e1 e2 ?_
  match k,hk with
  | 0,hk =>
   have c:¬ (i+1<(g.S.nb:Int)):=by omega
   rw[if_neg c,if_neg c] at a1
   rw[if_neg c] at a2
   exact⟨0,trivial,a1,a2⟩
  | k+1,hk =>
   have c:i+1<(g.S.nb:Int):=by omega
   rw[if_pos c,if_pos c] at a1
   rw[if_pos c] at a2
   exact GG hV k (i+1) a1 a2 (by rw[Md hV];exact hl) (by omega) (by omega)
def nU(S:Setup)(M:MemS):MemS:=rj S 0 S.nb (if S.nb<2 then M else iH S S.rounds.toNat M)
theorem JA{g:Gm}(hV:SetV g.S){M:MemS}(hl:(M.cs.length:Int)=sizeOf g.S)(h1:M.get 1=4)(h2:M.get 2=0)(h3:M.get 3=1)(h4:M.get 4=0) :
  To g M (nU g.S M) 6 0 0 (if g.S.nb<2 then 0 else g.S.rounds) (λ N=>N.get 5=0):=by
 have hn:=hV.nb
 refine(Ma hV hl h1 h2 h3 h4).then λ N hN h5=>?_
 obtain⟨k,hk⟩:∃k:Nat,g.S.nb=k+1:=⟨g.S.nb-1,by omega⟩
 have e:nU g.S M=rj g.S 0 (k+1) (if g.S.nb<2 then M else iH g.S g.S.rounds.toNat M):=by unfold nU;rw[hk]
 rw[e]
 refine GG hV k 0 hN h5 ?_ (by omega) (by omega)
 split
 ·exact hl
 ·rw[uc hV];exact hl
abbrev R4(A B:MemS):Prop:=AgD (λ y=>y≠4) A B
theorem JB{g:Gm}(hV:SetV g.S){A B:MemS}(h:R4 A B)(QR:qQ A)(AT:A.get 1≠4):R4 (dp g A) (dp g B) /\ (cF g A).e=(cF g B).e /\ (cF g A).em=(cF g B).em /\ fB g A=fB g B:=by
 have k:=NU hV (D:=λ y=>y≠4) (λ _ _ h=>h) (λ e=>absurd e AT) (Jw λ _ _ _ h=>h) h QR
 exact⟨k.1.1,k.1.2.2.1,k.1.2.2.2,k.2⟩
theorem NW{S:Setup}{ins:Nat -> Inp}{A B:MemS}(hS:0 <= S.players)(h:TV S ins A)(h4:R4 A B)(AT:A.get 1≠4):TV S ins B:=by
 have e:=λ y hy=>h4.2 y hy
 have e0:=e 0 (by decide);have e1:=e 1 (by decide);have e2:=e 2 (by decide);have e3:=e 3 (by decide);have e8:=e 8 (by decide);have e11:=e 11 (by decide)
 refine⟨by rw[<- h4.1];exact h.len,by rw[<- e0];exact h.t0,?_,λ q hq=>?_,?_⟩
 ·rw[<- e1,<- e2,<- e3,<- e8]
  have hc:=h.ct
  rcases hc with a|a|a|a|a|a|a|a
  ·exact .inl a
  ·exact .inr (.inl a)
  ·exact .inr (.inr (.inl a))
  ·exact .inr (.inr (.inr (.inl a)))
  ·exact absurd a.1 AT
  ·exact .inr (.inr (.inr (.inr (.inr (.inl a)))))
  ·exact .inr (.inr (.inr (.inr (.inr (.inr (.inl a))))))
  ·exact .inr (.inr (.inr (.inr (.inr (.inr (.inr a))))))
 ·rw[<- e1,<- e2] at hq
  rw[<- e _ (by omega),<- e _ (by omega),<- e _ (by omega)]
  exact h.pl q hq
 ·rw[CG,<- e1,<- e2,<- e11]
  exact h.ec
def lE(S:Setup)(M:MemS):Int:=if M.get 1 <= 3 then jc S M-(l4 S.nb S.rounds 0 1 0-1-l6 S.nb 0 0 0) else if M.get 1=4 then 1+l6 S.nb 0 0 0 else jc S M
theorem qB{g:Gm}:∀ (k:Nat) {q:Nat} {M:MemS},Still g k M -> eL g (q+1) M -> ∃q',eL g (q'+1) (dD g k M) /\ dD g (q+1) M=dD g (q'+1) (dD g k M) /\ cK g (q+1) M=cK g (q'+1) (dD g k M)
 | 0,q,M,_,h=>⟨q,h,rfl,rfl⟩
 | k+1,q,M,hs,h=>by
  obtain⟨s1,s2,s3⟩:=hs
  rcases h.2 with ⟨_,e⟩|⟨_,e⟩
  ·rw[s1] at e;cases e
  ·cases q with
   | zero=>exact e.elim
   | succ q =>
    obtain⟨q',a1,a2,a3⟩:=qB k s3 e
    refine⟨q',a1,a2,?_⟩
    rw[kJ (by rw[s2];simp)]
    exact a3
section
variable {g:Gm} (hV:SetV g.S) {ins:Nat -> Inp} (hi:∀q:Nat,(q:Int)<g.S.players -> g.ins.getD (g.io+q) dI=ins q) (Pq:g.S.players <= g.ni)
theorem wQ(hV:SetV g.S)(hi:∀q:Nat,(q:Int)<g.S.players -> g.ins.getD (g.io+q) dI=ins q)(Pq:g.S.players <= g.ni):∀ (k:Nat) {M:MemS},Still g k M -> TV g.S ins M -> TV g.S ins (dD g k M)
 | 0,_,_,h=>h
 | k+1,M,hs,h=>by
  obtain⟨s1,s2,s3⟩:=hs
  rcases(AA hV rfl hi Pq h).2 with ⟨_,a⟩|⟨a,_⟩
  ·exact wQ hV hi Pq k s3 a.tv
  ·rw[s1] at a;cases a
theorem sK(hV:SetV g.S){M:MemS}(hl:48 <= M.cs.length)(h3:M.get 1=3)(h4:(dp g M).get 1=4):(dp g M).get 2=0 /\ (dp g M).get 3=1 /\ (dp g M).get 4=0:=by
 have e:dp g M=aM (g.step M) M:=by unfold dp cF;rw[h3];simp
 have hh:=wI hV (t:=g.step M) rfl M
 rw[e] at h4 ⊢
 unfold aM bW at h4 ⊢
 generalize bB (g.step M) (bA (g.step M) M)=N at *
 have Pu:48 <= N.cs.length:=by rw[hh.len];exact hl
 have n1:=hh.get 1 (by have:=hV.pl;omega)
 by_cases c:aV ((g.step M).i+1)<((g.step M).S.nb:Int)
 ·rw[if_pos c,av (by decide),n1,h3] at h4
  cases h4
 ·rw[if_neg c]
  have hb:=fQ Pu (g.step M) 4 1
  have QV:=eJ (M:=N) (g.step M) 4 1
  refine⟨?_,?_,bL (by omega)⟩
  ·rw[av (by decide),hb];simp
  ·rw[av (by decide),hb];simp
structure EnS(g:Gm)(ins:Nat -> Inp)(F:MemS)(fes:List Eff)(B N:MemS)(es:List Eff):Prop where
 tv:TV g.S ins B
 r4:R4 B N
 lo:B.get 1 <= 4 -> B=N
 n5:B.get 1≠5
 c4:B.get 1=4 -> B.get 2=0 /\ B.get 3=1 /\ B.get 4=0
 run:∃q,eL g (q+1) B /\ dD g (q+1) B=F /\ es++cK g (q+1) B=fes
theorem EnS.tr(hV:SetV g.S)(hi:∀q:Nat,(q:Int)<g.S.players -> g.ins.getD (g.io+q) dI=ins q)(Pq:g.S.players <= g.ni){F B N:MemS}{fes es:List Eff}(h:EnS g ins F fes B N es)(AT:N.get 1≠4) :
  qQ N /\ ((fB g N=false /\ EnS g ins F fes (dp g B) (dp g N) (es++if (cF g N).em=true then [(cF g N).e] else []) /\ lE g.S (dp g B)<lE g.S B) \/
   (fB g N=true /\ (dp g N).cs=F.cs /\ (es++if (cF g N).em=true then [(cF g N).e] else [])=fes)):=by
 have e1:B.get 1=N.get 1:=h.r4.2 1 (by decide)
 have VC:B.get 1≠4:=by rw[e1];exact AT
 have hk:=AA hV rfl hi Pq h.tv
 have hP:=hV.pl
 have hNv:=NW (by omega) h.tv h.r4 VC
 have hkN:=AA hV rfl hi Pq hNv
 obtain⟨s1,s2,s3,s4⟩:=JB hV h.r4 hk.1 VC
 obtain⟨q,r1,r2,r3⟩:=h.run
 refine⟨hkN.1,?_⟩
 rcases hk.2 with ⟨a,b⟩|⟨a,b,c,d⟩
 ·left
  refine⟨by rw[<- s4];exact a,⟨b.tv,s1,λ VH=>?_,?_,λ h4=>?_,?_⟩,?_⟩
  ·have QR:=b.ph
   by_cases h4:B.get 1 <= 4
   ·rw[h.lo h4]
   ·have:B.get 1 <= (dp g B).get 1:=QR
    omega
  ·have UF:(dp g B).get 1 <= B.get 1+1:=b.up
   have QR:B.get 1 <= (dp g B).get 1:=b.ph
   have:=h.n5
   omega
  ·have UF:(dp g B).get 1 <= B.get 1+1:=b.up
   have QR:B.get 1 <= (dp g B).get 1:=b.ph
   exact sK hV (h.tv.l48 hV) (by omega) h4
  ·rcases r1.2 with ⟨_,e⟩|⟨_,e⟩
   ·rw[a] at e;cases e
   ·cases q with
    | zero=>exact e.elim
    | succ q =>
     refine⟨q,e,r2,?_⟩
     have e9:cK g (q+1+1) B=(if (cF g B).em=true then [(cF g B).e] else [])++cK g (q+1) (dp g B):=rfl
     rw[<- r3,e9,<- List.append_assoc,s3,s2]
  ·have UF:(dp g B).get 1 <= B.get 1+1:=b.up
   have QR:B.get 1 <= (dp g B).get 1:=b.ph
   have iN:jc g.S (dp g B)<jc g.S B:=b.lt
   have:=h.n5
   unfold lE
   by_cases c1:B.get 1 <= 3
   ·rw[if_pos c1]
    by_cases c2:(dp g B).get 1 <= 3
    ·rw[if_pos c2];omega
    ·have c4:(dp g B).get 1=4:=by omega
     rw[if_neg c2,if_pos c4]
     obtain⟨i2,i3,i4⟩:=sK hV (h.tv.l48 hV) (by omega) c4
     have:jc g.S (dp g B)=l4 g.S.nb g.S.rounds 0 1 0:=by
      unfold jc
      rw[c4,i2,i3,i4]
      rfl
     omega
   ·rw[if_neg c1,if_neg VC,if_neg (by omega),if_neg (by omega)]
    exact iN
 ·right
  have aN:fB g N=true:=by rw[<- s4];exact a
  refine⟨aN,?_,?_⟩
  ·rcases r1.2 with ⟨e,_⟩|⟨e,_⟩
   ·subst e
    have Zf:dp g B=F:=r2
    rw[<- Zf]
    have zB:(dp g B).get 4=0:=b.z 4 (by decide) (by decide)
    have zN:(dp g N).get 4=0:=by
     rcases hkN.2 with ⟨x,_⟩|⟨_,x,_⟩
     ·rw[aN] at x;cases x
     ·exact x.z 4 (by decide) (by decide)
    refine GA s1.1.symm λ y hy=>?_
    have e1:=tw (M:=dp g N) (i:=y) hy
    have e2:=tw (M:=dp g B) (i:=y) (by rw[s1.1];exact hy)
    rw[<- e1,<- e2]
    by_cases c4:(y:Int)=4
    ·rw[c4,zB,zN]
    ·exact(s1.2 _ c4).symm
   ·rw[a] at e;cases e
  ·rcases r1.2 with ⟨e,_⟩|⟨e,_⟩
   ·subst e
    rw[<- r3,cK,cK,List.append_nil,s3,s2]
   ·rw[a] at e;cases e
structure ColR(S:Setup)(N N':MemS):Prop where
 ag:AgD fh N' (nU S N)
 g1:N'.get 1=6
 g2:N'.get 2=0
 g3:N'.get 3=0
 g5:N'.get 5=0
theorem EnS.col(hV:SetV g.S)(hi:∀q:Nat,(q:Int)<g.S.players -> g.ins.getD (g.io+q) dI=ins q)(Pq:g.S.players <= g.ni){F B N N':MemS}{fes es:List Eff}(h:EnS g ins F fes B N es)(h4:N.get 1=4)(hc:ColR g.S N N') :
  ∃B',EnS g ins F fes B' N' es /\ lE g.S B'<lE g.S B:=by
 have e1:B.get 1=N.get 1:=h.r4.2 1 (by decide)
 have h4B:B.get 1=4:=by rw[e1];exact h4
 have eBN:B=N:=h.lo (by omega)
 obtain⟨i2,i3,i4⟩:=h.c4 h4B
 obtain⟨k,p1,p2,p3⟩:=JA hV h.tv.len h4B i2 i3 i4
 obtain⟨q,r1,r2,r3⟩:=h.run
 obtain⟨q',a1,a2,a3⟩:=qB k p1 r1
 have hn:=hV.nb
 refine⟨dD g k B,⟨wQ hV hi Pq k p1 h.tv,⟨?_,λ y hy=>?_⟩,λ VH=>?_,?_,λ h6=>?_,q',a1,a2 ▸ r2,a3 ▸ r3⟩,?_⟩
 ·rw[p2.ag.1,hc.ag.1,eBN]
 ·by_cases c1:y=1
  ·rw[c1,p2.g1,hc.g1]
  by_cases c2:y=2
  ·rw[c2,p2.g2,hc.g2]
  by_cases c3:y=3
  ·rw[c3,p2.g3,hc.g3]
  by_cases c5:y=5
  ·rw[c5,p3,hc.g5]
  have ho:fh y:=by unfold fh;omega
  rw[p2.ag.2 y ho,hc.ag.2 y ho,eBN]
 ·have:=p2.g1;omega
 ·have:=p2.g1;omega
 ·have:=p2.g1;omega
 ·unfold lE
  have g1:=p2.g1
  rw[if_neg (by omega),if_neg (by omega),if_neg (by omega),if_pos h4B]
  have:jc g.S (dD g k B)=l6 g.S.nb 0 0 0:=by
   unfold jc
   rw[g1,p2.g2,p2.g3]
   rfl
  omega
theorem CL(hV:SetV g.S)(Pq:g.S.players <= g.ni){t:Int}(ht:0 <= t /\ t <= 1000){M:MemS}(h:TE2 g.S t M):∃ins,(∀q:Nat,(q:Int)<g.S.players -> g.ins.getD (g.io+q) dI=ins q) /\ EnS g ins (oC g M) (ov g M) M M [] /\
  lE g.S M <= 63*g.S.players+64*g.S.nb+65:=by
 obtain⟨m,a1,a2,a3,_⟩:=Ko hV rfl Pq ht h
 obtain⟨h1,h2,h3⟩:=h.tv hV ht (λ q=>g.ins.getD (g.io+q) dI)
 have hb:=qu hV
 have hm:m <= 999:=by have:=hb.2;omega
 obtain⟨t1,t2⟩:=Gj hm a2
 have hn:=hV.nb
 have hP:=hV.pl
 refine⟨λ q=>g.ins.getD (g.io+q) dI,λ _ _=>rfl,⟨h1,.refl M,λ _=>rfl,by rw[h3.1];decide,(λ e=>by rw[h3.1] at e;cases e),m,a2,t1,t2⟩,?_⟩
 unfold lE
 rw[if_pos (by rw[h3.1];decide),h2]
 unfold l0 l1 l2 l3
 rw[if_pos rfl,if_pos rfl]
 unfold l6
 rw[if_pos rfl]
 omega
end
def Pk(a b:Int):Int:=if b<a then b else a
def Pl(a b:Int):Int:=if b>a then b else a
def iy(a b:Bx):Bx:=⟨Pk a.x0 b.x0,Pk a.y0 b.y0,Pl a.x1 b.x1,Pl a.y1 b.y1⟩
def aj:Mot:=⟨0,0,0,0,0⟩
def mw:Bx:=⟨0,0,0,0⟩
def mz(p v lo hi r:Int):Int:=if az p lo hi=p then v else aV (0-eS v r)
def gx(S:Setup)(b:Mot)(f:Int):Mot:=⟨az (ay ⟨b.px,b.py⟩ (aY ⟨b.vx,b.vy⟩ f 1024)).x S.box.x0 S.box.x1,az (ay ⟨b.px,b.py⟩ (aY ⟨b.vx,b.vy⟩ f 1024)).y S.box.y0 S.box.y1,mz (ay ⟨b.px,b.py⟩ (aY ⟨b.vx,b.vy⟩ f 1024)).x b.vx S.box.x0 S.box.x1 S.rest,mz (ay ⟨b.px,b.py⟩ (aY ⟨b.vx,b.vy⟩ f 1024)).y b.vy S.box.y0 S.box.y1 S.rest,b.inv⟩
theorem NX{x:Int}(h:-16777216 <= x /\ x <= 16777216):iL x 8=x / 8:=by
 unfold iL
 rw[if_neg (by decide)]
 by_cases hx:0 <= x
 ·rw[Int.tdiv_eq_ediv_of_nonneg hx,Int.tmod_eq_emod_of_nonneg hx,if_neg (by omega),aK (by omega)]
 ·obtain⟨y,e⟩:∃y,x=-y:=⟨-x,by omega⟩
  subst e
  rw[Int.neg_tdiv,Int.neg_tmod,Int.tdiv_eq_ediv_of_nonneg (by omega),Int.tmod_eq_emod_of_nonneg (by omega),show aV (-(y / 8))=-(y / 8) from aK (by omega)]
  split
  ·rw[aK (by omega)];omega
  ·omega
theorem AL{v k:Int}(hv:-1000000 <= v /\ v <= 1000000)(hk:0 <= k /\ k <= 8):(0 <= v -> 0 <= aw v k 8 /\ aw v k 8 <= v) /\ (v <= 0 -> v <= aw v k 8 /\ aw v k 8 <= 0):=by
 unfold aw
 obtain h|h|h|h|h|h|h|h|h:k=0 \/ k=1 \/ k=2 \/ k=3 \/ k=4 \/ k=5 \/ k=6 \/ k=7 \/ k=8:=by omega
 all_goals subst h;rw[aK (by omega),NX (by omega)];omega
def GH(s:Shp):Prop:=(-100000 <= s.r /\ s.r <= 100000) /\ ∀i,(-100000 <= (s.poly.getD i ⟨0,0⟩).x /\ (s.poly.getD i ⟨0,0⟩).x <= 100000) /\ (-100000 <= (s.poly.getD i ⟨0,0⟩).y /\ (s.poly.getD i ⟨0,0⟩).y <= 100000)
def MA(l:List V2):Nat -> Bx
 | 0=>⟨(l.getD 0 ⟨0,0⟩).x,(l.getD 0 ⟨0,0⟩).y,(l.getD 0 ⟨0,0⟩).x,(l.getD 0 ⟨0,0⟩).y⟩
 | k+1=>DF (MA l k) (l.getD (1+k) ⟨0,0⟩)
def Me(s:Shp):Bx:=if gZ s then ⟨-s.r,-s.r,s.r,s.r⟩ else MA s.poly (s.poly.length-1)
def NY(p:V2)(b:Bx):Bx:=⟨p.x+b.x0,p.y+b.y0,p.x+b.x1,p.y+b.y1⟩
def AM(p:V2):Prop:=(-10000000 <= p.x /\ p.x <= 10000000) /\ (-10000000 <= p.y /\ p.y <= 10000000)
theorem o7{p q:V2}(hp:AM p)(hq:(-10000000 <= q.x /\ q.x <= 10000000) /\ (-10000000 <= q.y /\ q.y <= 10000000)):ay p q=⟨p.x+q.x,p.y+q.y⟩:=by
 unfold ay AM at *
 rw[aK (by omega),aK (by omega)]
theorem wR{p:V2}(hp:AM p){l:List V2}(hl:∀i,(-100000 <= (l.getD i ⟨0,0⟩).x /\ (l.getD i ⟨0,0⟩).x <= 100000) /\ (-100000 <= (l.getD i ⟨0,0⟩).y /\ (l.getD i ⟨0,0⟩).y <= 100000)):∀k,ji p l k=NY p (MA l k)
 | 0=>by
  have h:=hl 0
  rw[ji,MA,o7 hp (by omega)]
  rfl
 | k+1=>by
  have h:=hl (1+k)
  rw[ji,MA,wR hp hl k,o7 hp (by omega)]
  generalize l.getD (1+k) ⟨0,0⟩=c at *
  generalize MA l k=b
  unfold DF NY
  simp only[Bx.mk.injEq]
  refine⟨?_,?_,?_,?_⟩ <;> (split <;> split <;> omega)
theorem nV{s:Shp}(hs:GH s){p:V2}(hp:AM p):aI s p=NY p (Me s):=by
 unfold aI Me
 by_cases c:gZ s
 ·rw[if_pos c,if_pos c]
  have h:=hs.1
  unfold AM at hp
  rw[aK (by omega),aK (by omega),aK (by omega),aK (by omega)]
  show (⟨p.x-s.r,p.y-s.r,p.x+s.r,p.y+s.r⟩:Bx)=⟨p.x+-s.r,p.y+-s.r,p.x+s.r,p.y+s.r⟩
  rw[Int.sub_eq_add_neg,Int.sub_eq_add_neg]
 ·rw[if_neg c,if_neg c]
  exact wR hp hs.2 _
theorem JC{s t:Shp}(hs:GH s){p v q:V2}(hp:(-2000000 <= p.x /\ p.x <= 2000000) /\ (-2000000 <= p.y /\ p.y <= 2000000))(hv:(-1000000 <= v.x /\ v.x <= 1000000) /\ (-1000000 <= v.y /\ v.y <= 1000000))(hq:AM q)(h:¬ xh (iy (aI s p) (aI s (ay p v))) (aI t q)){k:Int}(hk:0 <= k /\ k <= 8) :
  kI s p v t q ⟨0,0⟩ k=false:=by
 have m1:=AL hv.1 hk
 have m2:=AL hv.2 hk
 have m0:aw 0 k 8=0:=by
  unfold aw
  rw[Int.zero_mul]
  rfl
 have eq:i6 q ⟨0,0⟩ k=q:=by
  unfold i6 aY
  simp only
  rw[m0]
  unfold ay
  simp only[Int.add_zero]
  unfold AM at hq
  rw[aK (by omega),aK (by omega)]
 unfold kI
 rw[eq]
 unfold aG
 rw[if_neg]
 intro ho
 apply h
 have ev:ay p v=⟨p.x+v.x,p.y+v.y⟩:=o7 (by unfold AM;omega) (by omega)
 have ea:i6 p v k=⟨p.x+aw v.x k 8,p.y+aw v.y k 8⟩:=by
  unfold i6 aY
  exact o7 (by unfold AM;omega) (by simp only;omega)
 rw[ea] at ho
 rw[ev]
 rw[nV hs (by unfold AM;simp only;omega)] at ho
 rw[nV hs (p:=p) (by unfold AM;omega),nV hs (by unfold AM;simp only;omega)]
 generalize aI t q=c at *
 generalize Me s=b at *
 generalize aw v.x k 8=mx at *
 generalize aw v.y k 8=my at *
 obtain⟨⟨h1,h2⟩,h3,h4⟩:=ho
 unfold NY at h1 h2 h3 h4
 simp only at h1 h2 h3 h4
 unfold xh mM iy NY Pk Pl
 simp only
 refine⟨⟨?_,?_⟩,?_,?_⟩ <;> (split <;> omega)
theorem sL{s t:Shp}{p v q w:V2}(h:∀k:Int,0 <= k -> k <= 8 -> kI s p v t q w k=false):∀ (n k:Nat),k+n <= 8 -> jl s p v t q w n k=1024
 | 0,_,_=>rfl
 | n+1,k,hk=>by
  rw[jl,h ((k:Int)+1) (by omega) (by omega)]
  simp only[Bool.false_eq_true,if_false]
  exact sL h n (k+1) (by omega)
theorem CM{s t:Shp}(hs:GH s){p v q:V2}(hp:(-2000000 <= p.x /\ p.x <= 2000000) /\ (-2000000 <= p.y /\ p.y <= 2000000))(hv:(-1000000 <= v.x /\ v.x <= 1000000) /\ (-1000000 <= v.y /\ v.y <= 1000000))(hq:AM q)(h:¬ xh (iy (aI s p) (aI s (ay p v))) (aI t q)) :
  fw s p v t q ⟨0,0⟩=1024:=by
 have hk:=λ (k:Int) h0 h8=>JC (t:=t) hs hp hv hq h (k:=k) ⟨h0,h8⟩
 unfold fw
 rw[hk 0 (by decide) (by decide)]
 simp only[Bool.false_eq_true,if_false]
 exact sL hk 8 0 (by omega)
theorem wS{S:Setup}{M:MemS}(h:mt S 0 S.nb M=M):∀k,iH S k M=M
 | 0=>rfl
 | k+1=>by rw[iH,h,wS h k]
structure BoxV(S:Setup):Prop where
 re:0 <= S.rest /\ S.rest <= 1024
 bx:(-1048576 <= S.box.x0 /\ S.box.x0 <= S.box.x1 /\ S.box.x1 <= 1048576) /\ (-1048576 <= S.box.y0 /\ S.box.y0 <= S.box.y1 /\ S.box.y1 <= 1048576)
def BiA(S:Setup)(M:MemS):Prop:=∀k:Int,0 <= k -> k<S.nb -> (-1048576 <= M.get (ae S k+0) /\ M.get (ae S k+0) <= 1048576) /\ (-1048576 <= M.get (ae S k+1) /\ M.get (ae S k+1) <= 1048576) /\ (-16384 <= M.get (ae S k+2) /\ M.get (ae S k+2) <= 16384) /\ (-16384 <= M.get (ae S k+3) /\ M.get (ae S k+3) <= 16384)
theorem o8{S:Setup}{k:Int}(h0:0 <= k)(h1:k<S.nb):ae S k=48+4*S.players+8*k:=by
 unfold ae;rw[if_neg (by omega),if_neg (by omega)]
section
variable {S:Setup}
theorem BiA.low{M:MemS}(h:BiA S M){i:Int}(hi:i<48+4*S.players)(v:Int):BiA S (M.set i v):=λ k h0 h1=>by
 have e:=o8 h0 h1
 rw[av (by omega),av (by omega),av (by omega),av (by omega)]
 exact h k h0 h1
theorem ue{M:MemS}{i j v:Int}{Q:Int -> Prop}(hv:i=j -> Q v)(h:Q (M.get j)):Q ((M.set i v).get j):=by
 by_cases e:j=i
 ·subst e
  by_cases c:0 <= j /\ j<M.cs.length
  ·rw[bL c];exact hv rfl
  ·have:M.set j v=M:=by unfold MemS.set;rw[if_neg c]
   rw[this];exact h
 ·rw[av e];exact h
theorem BiA.bod{M:MemS}(h:BiA S M){k c v:Int}(h0:0 <= k)(h1:k<S.nb)(hc:0 <= c /\ c<8)(hv:(c<2 -> -1048576 <= v /\ v <= 1048576) /\ (2 <= c -> c<4 -> -16384 <= v /\ v <= 16384)):BiA S (M.set (ae S k+c) v):=λ q q0 q1=>by
 have e:=o8 h0 h1
 have e2:=o8 q0 q1
 obtain⟨a1,a2,a3,a4⟩:=h q q0 q1
 refine⟨ue (Q:=λ x=>-1048576 <= x /\ x <= 1048576) (λ e3=>hv.1 ?_) a1,ue (Q:=λ x=>-1048576 <= x /\ x <= 1048576) (λ e3=>hv.1 ?_) a2,ue (Q:=λ x=>-16384 <= x /\ x <= 16384) (λ e3=>hv.2 ?_ ?_) a3,ue (Q:=λ x=>-16384 <= x /\ x <= 16384) (λ e3=>hv.2 ?_ ?_) a4⟩ <;> omega
theorem eE{c:Prop}[Decidable c]{A B:MemS}(h1:c -> BiA S A)(h2:¬ c -> BiA S B):BiA S (if c then A else B):=by
 split
 ·exact h1 (by assumption)
 ·exact h2 (by assumption)
theorem cu{c:Prop}[Decidable c]{A B:VR}(h1:c -> BiA S A.M)(h2:¬ c -> BiA S B.M):BiA S (if c then A else B).M:=by
 split
 ·exact h1 (by assumption)
 ·exact h2 (by assumption)
theorem BiA.beg{M:MemS}(hp:0 <= S.players)(h:BiA S M)(t:Stp)(a b:Int):BiA S (aQ t a b M):=by
 unfold aQ
 exact((h.low (by omega) _).low (by omega) _).low (by omega) _
theorem fp(n:Int){lo hi:Int}(h:lo <= hi):lo <= az n lo hi /\ az n lo hi <= hi:=by
 unfold az
 split
 ·omega
 ·split <;> omega
theorem GI{n b:Int}:(n<2 -> 0 <= n -> -1048576 <= jN n b /\ jN n b <= 1048576) /\ (2 <= n -> n<4 -> -16384 <= jN n b /\ jN n b <= 16384):=by
 have h1:=fp b (lo:=-1048576) (hi:=1048576) (by decide)
 have h2:=fp b (lo:=-16384) (hi:=16384) (by decide)
 unfold jN
 constructor
 ·intro a b
  rcases(show n=0 \/ n=1 by omega) with rfl|rfl <;> simpa using h1
 ·intro a b
  rcases(show n=2 \/ n=3 by omega) with rfl|rfl <;> simpa using h2
theorem JD(hV:SetV S){M:MemS}{op n a b:Int}(hn:eN op=0 \/ (0 <= n /\ n<eN op))(h:BiA S M):BiA S (aH S op n a b M).M:=by
 have hP:=hV.pl
 have hN:=hV.nb
 unfold aH
 iterate 14 (refine cu (λ _=>h) λ _=>?_)
 refine cu (λ e=>?_) λ _=>?_
 ·subst e
  have PZ:0 <= n /\ n<16:=by
   rcases hn with h|h
   ·exact absurd h (by decide)
   ·exact h
  rw[aK (by omega)]
  exact h.low (by omega) _
 refine cu (λ _=>h) λ _=>?_
 refine cu (λ e=>?_) λ _=>?_
 ·subst e
  have h8:0 <= n /\ n<8:=by
   rcases hn with h|h
   ·exact absurd h (by decide)
   ·exact h
  refine eE (λ hb=>?_) λ _=>h
  rcases fP (S:=S) (by omega) a with e|⟨b0,b1,e⟩
  ·omega
  ·rw[aK (by omega)]
   exact h.bod b0 b1 h8 ⟨λ h2=>GI.1 h2 h8.1,GI.2⟩
 refine cu (λ _=>h.low (by omega) _) λ _=>?_
 refine cu (λ _=>eE (λ _=>h.low (by omega) _) λ _=>h) λ _=>?_
 refine cu (λ _=>?_) λ _=>h
 unfold cN
 exact cu (λ _=>h) λ _=>(h.low (by omega) _).low (by omega) _
theorem JE(hV:SetV S){M:MemS}{code:List Ins}{n:Nat}(h:BiA S M):BiA S (ao S code n M).M:=by
 have hP:=hV.pl
 unfold ao
 refine cu (λ hr=>?_) λ _=>h
 obtain⟨r1,r2,r3,r4⟩:=hr
 obtain⟨x1,x2,x3,x4,x5⟩:=qr r4
 have hb:=LY x1
 have h1:BiA S (dw (aX code M).op (M.get 7) (M.get 6) (M.get 8) M):=by
  unfold dw
  exact eE (λ _=>(h.low (by omega) _).low (by omega) _) λ _=>((h.low (by omega) _).low (by omega) _).low (by omega) _
 have h2:=JD hV (op:=(aX code M).op) (n:=(aX code M).n) (a:=dC (aX code M).op (M.get 7) M) (b:=dQ (aX code M).op (M.get 7) M) x5 h1
 unfold cz bQ
 refine cu (λ _=>?_) λ _=>h2
 refine BiA.low h2 ?_ _
 rw[aK (x:=16+M.get 7) (by omega),aK (by omega)]
 omega
theorem wT(hP:0 <= S.players){M:MemS}(h:BiA S M)(e f a b:Int):BiA S (aU e f a b M):=by
 unfold aU
 exact eE (λ _=>h) λ _=>((((h.low (by omega) _).low (by omega) _).low (by omega) _).low (by omega) _).low (by omega) _
theorem yU(hV:SetV S){M:MemS}{t:Stp}(ht:t.S=S)(h:BiA S M)(e a b:Int):BiA S (ew e t a b M).M:=by
 have hP:=hV.pl
 subst ht
 unfold ew
 exact cu (λ _=>cu (λ _=>wT (by omega) h _ _ _ _) λ _=>(wT (by omega) h _ _ _ _).low (by omega) _) λ _=>JE hV h
theorem AO(hV:SetV S){M:MemS}{r:VR}(h:BiA S M)(hr:BiA S r.M)(over IT:Bool)(t:Stp):BiA S (di r over t IT M).M:=by
 have hP:=hV.pl
 unfold di
 exact cu (λ _=>cu (λ _=>cu (λ _=>hr.low (by omega) _) λ _=>hr) λ _=>h.low (by omega) _) λ _=>cu (λ _=>(hr.low (by omega) _).low (by omega) _) λ _=>hr
theorem GJ(hV:SetV S){M:MemS}{t:Stp}(ht:t.S=S)(h:BiA S M):BiA S (aW t M):=by
 have hP:=hV.pl
 subst ht
 unfold aW
 have h1:BiA t.S (aZ t M):=by
  unfold aZ
  exact eE (λ _=>(h.low (by omega) _).low (by omega) _) λ _=>h
 generalize aZ t M=A at h1
 have h2:BiA t.S (bu t A):=by
  unfold bu
  refine eE (λ e=>eE (λ _=>?_) λ _=>h1) λ _=>h1
  rcases lC (S:=t.S) t.i with ⟨e2,_⟩|⟨e1,e2,e3⟩
  ·omega
  ·exact((h1.low (by omega) _).low (by omega) _).low (by omega) _
 generalize bu t A=B at h2
 unfold b8
 exact eE (λ _=>h2.low (by omega) _) λ _=>h2.beg (by omega) t _ _
theorem sM{M:MemS}{t:Stp}(ht:t.S=S)(h:BiA S M){k:Int}(h0:0 <= k)(h1:k<S.nb){m:Mot}(hm:(-1048576 <= m.px /\ m.px <= 1048576) /\ (-1048576 <= m.py /\ m.py <= 1048576) /\ (-16384 <= m.vx /\ m.vx <= 16384) /\ (-16384 <= m.vy /\ m.vy <= 16384)):BiA S (bG t k m M):=by
 obtain⟨m1,m2,m3,m4⟩:=hm
 unfold bG
 rw[ht]
 exact(((h.bod h0 h1 (by omega) ⟨λ _=>m1,λ _=>by omega⟩).bod h0 h1 (by omega) ⟨λ _=>m2,λ _=>by omega⟩).bod h0 h1 (by omega) ⟨λ _=>by omega,λ _ _=>m3⟩).bod h0 h1 (by omega) ⟨λ _=>by omega,λ _ _=>m4⟩
theorem GK(m:Mot):(-1048576 <= (eZ m).px /\ (eZ m).px <= 1048576) /\ (-1048576 <= (eZ m).py /\ (eZ m).py <= 1048576) /\ (-16384 <= (eZ m).vx /\ (eZ m).vx <= 16384) /\ (-16384 <= (eZ m).vy /\ (eZ m).vy <= 16384) :=
 ⟨fp m.px (lo:=-1048576) (by decide),fp m.py (lo:=-1048576) (by decide),fp m.vx (lo:=-16384) (by decide),fp m.vy (lo:=-16384) (by decide)⟩
theorem uf{M:MemS}(h:BiA S M){k:Int}(h0:0 <= k)(h1:k<S.nb):(-1048576 <= (ai S M k).px /\ (ai S M k).px <= 1048576) /\ (-1048576 <= (ai S M k).py /\ (ai S M k).py <= 1048576) /\ (-16384 <= (ai S M k).vx /\ (ai S M k).vx <= 16384) /\ (-16384 <= (ai S M k).vy /\ (ai S M k).vy <= 16384):=h k h0 h1
theorem Mf(i j:Int){M:MemS}(h:BiA S M):BiA S (fR S i j M):=by
 unfold fR cq
 refine eE (λ hi=>eE (λ hj=>eE (λ _=>?_) λ _=>h) λ _=>h) λ _=>h
 have PL:0 <= i /\ i<(S.nb:Int):=hi
 have QI:0 <= j /\ j<(S.nb:Int):=hj
 have hr:((-1048576 <= (fA (dt S i j) M).1.px /\ (fA (dt S i j) M).1.px <= 1048576) /\ (-1048576 <= (fA (dt S i j) M).1.py /\ (fA (dt S i j) M).1.py <= 1048576) /\ (-16384 <= (fA (dt S i j) M).1.vx /\ (fA (dt S i j) M).1.vx <= 16384) /\ (-16384 <= (fA (dt S i j) M).1.vy /\ (fA (dt S i j) M).1.vy <= 16384)) /\
   ((-1048576 <= (fA (dt S i j) M).2.px /\ (fA (dt S i j) M).2.px <= 1048576) /\ (-1048576 <= (fA (dt S i j) M).2.py /\ (fA (dt S i j) M).2.py <= 1048576) /\ (-16384 <= (fA (dt S i j) M).2.vx /\ (fA (dt S i j) M).2.vx <= 16384) /\ (-16384 <= (fA (dt S i j) M).2.vy /\ (fA (dt S i j) M).2.vy <= 16384)):=by
  unfold fA aJ
  split
  ·exact⟨uf h PL.1 PL.2,uf h QI.1 QI.2⟩
  ·exact⟨GK _,GK _⟩
 unfold dY
 generalize fA (dt S i j) M=r at *
 exact((sM (t:=dt S i j) rfl (sM (t:=dt S i j) rfl h PL.1 PL.2 hr.1) QI.1 QI.2 hr.2).bod PL.1 PL.2 (by omega) ⟨λ _=>by omega,λ _ _=>by omega⟩).bod QI.1 QI.2 (by omega) ⟨λ _=>by omega,λ _ _=>by omega⟩
theorem JF(hB:BoxV S){v:Int}(hv:-16384 <= v /\ v <= 16384):-16384 <= aV (0-eS v S.rest) /\ aV (0-eS v S.rest) <= 16384:=by
 have hr:=hB.re
 have h1:v*S.rest <= 16384*S.rest:=Int.mul_le_mul_of_nonneg_right hv.2 hr.1
 have h2:-16384*S.rest <= v*S.rest:=Int.mul_le_mul_of_nonneg_right hv.1 hr.1
 have h3:-16384 <= eS v S.rest /\ eS v S.rest <= 16384:=by
  unfold eS
  rw[aK (by omega)]
  generalize v*S.rest=x at *
  unfold iL
  rw[if_neg (by decide)]
  by_cases hx:0 <= x
  ·rw[Int.tdiv_eq_ediv_of_nonneg hx,Int.tmod_eq_emod_of_nonneg hx,if_neg (by omega),aK (by omega)]
   omega
  ·obtain⟨y,e⟩:∃y,x=-y:=⟨-x,by omega⟩
   subst e
   rw[Int.neg_tdiv,Int.neg_tmod,Int.tdiv_eq_ediv_of_nonneg (by omega),Int.tmod_eq_emod_of_nonneg (by omega),show aV (-(y / 1024))=-(y / 1024) from aK (by omega)]
   split
   ·rw[aK (by omega)];omega
   ·omega
 rw[aK (by omega)]
 omega
theorem Mg(hB:BoxV S){i:Int}(hi:0 <= i /\ i<S.nb)(c5:Int){M:MemS}(h:BiA S M):BiA S (kT S i c5 M):=by
 have key:∀ {A:MemS} (c pos lo PL:Int),BiA S A -> c=0 \/ c=1 -> -1048576 <= lo -> lo <= PL -> PL <= 1048576 -> BiA S (b7 (dt S i 0) (ae S i+c) (ae S i+(c+2)) pos lo PL A):=λ {A} c pos lo PL hA hc l1 l2 l3=>by
  have By:=fp pos l2
  have h1:BiA S (A.set (ae S i+c) (az pos lo PL)):=hA.bod hi.1 hi.2 (by omega) ⟨λ _=>by omega,λ _=>by omega⟩
  unfold b7
  refine eE (λ _=>h1) λ _=>?_
  refine h1.bod hi.1 hi.2 (by omega) ⟨λ _=>by omega,λ _ _=>JF hB ?_⟩
  obtain⟨_,_,a3,a4⟩:=h1 i hi.1 hi.2
  rcases hc with rfl|rfl
  ·exact a3
  ·exact a4
 have k1:=key 0 (mu S i c5 M).x S.box.x0 S.box.x1 h (.inl rfl) hB.bx.1.1 hB.bx.1.2.1 hB.bx.1.2.2
 have k2:=key 1 (mu S i c5 M).y S.box.y0 S.box.y1 k1 (.inr rfl) hB.bx.2.1 hB.bx.2.2.1 hB.bx.2.2.2
 exact k2
theorem GL(hB:BoxV S){i:Int}{M:MemS}(h:BiA S M):BiA S (yT S i M):=by
 unfold yT
 exact eE (λ hm=>Mg hB hm.has _ h) λ _=>h
theorem GM(hV:SetV S){t:Stp}(ht:t.S=S){M:MemS}(h:BiA S M):BiA S (aM t M):=by
 have hP:=hV.pl
 subst ht
 unfold aM
 have h1:BiA t.S (bA t M):=by
  unfold bA
  refine eE (λ e=>?_) λ _=>h
  rcases fP (S:=t.S) (by omega) t.i with e|⟨b0,b1,_⟩
  ·omega
  ·exact h.bod b0 b1 (by omega) ⟨λ _=>by omega,λ _ _=>by omega⟩
 generalize bA t M=A at h1
 have h2:BiA t.S (bB t A):=by
  unfold bB
  refine eE (λ e=>?_) λ _=>h1
  exact(h1.bod e.1.1 e.1.2 (by omega) ⟨λ _=>by omega,λ _ _=>fp _ (lo:=-16384) (by decide)⟩).bod e.1.1 e.1.2 (by omega) ⟨λ _=>by omega,λ _ _=>fp _ (lo:=-16384) (by decide)⟩
 generalize bB t A=B at h2
 unfold bW
 exact eE (λ _=>h2.low (by omega) _) λ _=>(h2.beg (by omega) t _ _).low (by omega) _
theorem AP(hP:0 <= S.players){M:MemS}(h:BiA S M):∀n,n <= 10 -> BiA S (cf M n)
 | 0,_=>h
 | n+1,hn=>by
  rw[cf]
  exact(AP hP h n (by omega)).low (by omega) _
theorem JG(hV:SetV S){t:Stp}(ht:t.S=S){M:MemS}(h:BiA S M):BiA S (dg t M):=by
 have hP:=hV.pl
 subst ht
 unfold dg
 have h1:BiA t.S (eA t M):=by
  unfold eA
  refine eE (λ e=>?_) λ _=>h
  rcases fP (S:=t.S) (by omega) t.i with e|⟨b0,b1,_⟩
  ·omega
  ·exact h.bod b0 b1 (by omega) ⟨λ _=>by omega,λ _ _=>by omega⟩
 generalize eA t M=A at h1
 unfold fT
 exact eE (λ _=>h1.low (by omega) _) λ _=>AP (by omega) (h1.low (by omega) _) 10 (Nat.le_refl _)
theorem NZ{g:Gm}(hV:SetV g.S){M:MemS}(h:BiA g.S M)(h4:M.get 1≠4)(h5:M.get 1≠5):BiA g.S (dp g M):=by
 have hP:=hV.pl
 unfold dp cF
 refine cu (λ _=>GJ hV (t:=g.step M) rfl h) λ _=>cu (λ _=>?_) λ _=>cu (λ _=>?_) λ _=>cu (λ _=>GM hV (t:=g.step M) rfl h) λ _=>cu (λ e=>absurd e h4) λ _=>cu (λ e=>absurd e h5) λ _=>cu (λ _=>?_) λ _=>JG hV (t:=g.step M) rfl h
 ·unfold eF
  exact cu (λ _=>h.beg (by omega) (g.step M) _ _) λ _=>AO hV h (yU hV (t:=g.step M) rfl h _ _ _) _ _ _
 ·have hr:=yU hV (t:=g.step M) rfl h (g.step M).e1 0 0
  unfold cS
  exact cu (λ _=>hr.beg (by omega) (g.step M) _ _) λ _=>hr
 ·unfold eG
  exact cu (λ _=>h.beg (by omega) (g.step M) _ _) λ _=>AO hV h (yU hV (t:=g.step M) rfl h _ _ _) _ _ _
theorem GN(i:Int):∀ (k:Nat) (j:Int) {M:MemS},BiA S M -> BiA S (qA S i j k M)
 | 0,_,_,h=>h
 | k+1,j,_,h=>GN i k (j+1) (Mf i j h)
theorem GO:∀ (k:Nat) (i:Int) {M:MemS},BiA S M -> BiA S (mt S i k M)
 | 0,_,_,h=>h
 | k+1,i,_,h=>GO k (i+1) (GN i k (i+1) h)
theorem yV:∀ (k:Nat) {M:MemS},BiA S M -> BiA S (iH S k M)
 | 0,_,h=>h
 | k+1,_,h=>yV k (GO S.nb 0 h)
theorem GP(hB:BoxV S):∀ (k:Nat) (i:Int) {M:MemS},BiA S M -> BiA S (rj S i k M)
 | 0,_,_,h=>h
 | k+1,i,_,h=>GP hB k (i+1) (GL hB h)
theorem Mh(hB:BoxV S){M:MemS}(h:BiA S M):BiA S (nU S M):=by
 unfold nU
 exact GP hB _ _ (eE (λ _=>h) λ _=>yV _ h)
theorem Mi{A B:MemS}(hP:0 <= S.players)(h:BiA S B)(ha:AgD fh A B):BiA S A:=λ k h0 h1=>by
 have e:=o8 h0 h1
 rw[ha.2 _ (by unfold fh;omega),ha.2 _ (by unfold fh;omega),ha.2 _ (by unfold fh;omega),ha.2 _ (by unfold fh;omega)]
 exact h k h0 h1
end
end Go.Proofs.YthoijjeddhfcnaaGreatDoor
