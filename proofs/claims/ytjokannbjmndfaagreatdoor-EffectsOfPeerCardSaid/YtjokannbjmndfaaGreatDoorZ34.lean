import Derived.Test.YtjokannbjmndfaaGreatDoorZ18
set_option linter.all false
set_option maxHeartbeats 4000000
set_option maxRecDepth 100000
namespace Go.Proofs.YtjokannbjmndfaaGreatDoor
variable {M:MemS} {mk:Int} {n:Nat}
theorem zL(cs:List Int)(a b:List (Int×Int)):gO cs (a++b)=gO (gO cs b) a:=by unfold gO;rw[List.foldr_append]
theorem vp(cs:List Int):∀es:List (Int×Int),(gO cs es).length=cs.length
 | []=>rfl
 |e::es=>by
  show ((gO cs es).set _ _).length=_;rw[ack,vp cs es]
def lL(M:MemS)(n:Nat):MemS:=⟨gO M.cs (M.lg.drop n),M.lg.take n,M.base⟩
def ig(M:MemS)(n:Nat):MemS:=⟨M.cs,M.lg.drop n,M.base+(n:Int)⟩
structure Rst(M:MemS)(mk:Int)(c:List Int):Prop where
 lo:M.base<=mk
 hi:mk<=M.base+(M.lg.length:Int)
 und:gO M.cs (M.lg.drop (mk-M.base).toNat)=c
 ent:∀e∈M.lg.drop (mk-M.base).toNat,0<=e.1/\e.1<(M.cs.length:Int)
theorem Rst.now(M:MemS):Rst M (M.base+(M.lg.length:Int)) M.cs:=by
 have e:(M.base+(M.lg.length:Int)-M.base).toNat=M.lg.length:=by omega
 refine⟨by omega,by omega,?_,?_⟩
 ·rw[e,afX];rfl
 ·rw[e,afX];intro e he;cases he
theorem Rst.tick{c:List Int}(g:Gm)(h:Rst M mk c):Rst (iK g M) mk c:=by
 obtain⟨es,h1,h2,h3⟩:=Pm g M;have hl:=h.lo;have hh:=h.hi;have e:(iK g M).lg.drop (mk-M.base).toNat=M.lg.drop (mk-M.base).toNat++es:=by rw[h1,acn (by omega)]
 refine⟨by rw[h2];exact hl,by rw[h1,h2,aaK];omega,?_,?_⟩
 ·rw[h2,e,zL];have:=h3.und;rw[show gO (iK g M).cs es=M.cs from this];exact h.und
 ·rw[h2,e];have hlen:(iK g M).cs.length=M.cs.length:=h3.len;intro x hx;rw[hlen];rcases np.1 hx with hx|hx
  ·exact h.ent x hx
  ·exact h3.ent x hx
theorem Rst.undo{c:List Int}(h:Rst M mk c)(h1:mk<=M.base+(n:Int))(h2:n<=M.lg.length):Rst (lL M n) mk c:=by
 have hl:=h.lo;have e:M.lg.drop (mk-M.base).toNat=(M.lg.take n).drop (mk-M.base).toNat++M.lg.drop n:=by
  conv=>lhs;rw[<- abt n M.lg]
  rw[acn (by rw[aaN];omega)]
 refine⟨hl,by show mk<=M.base+((M.lg.take n).length:Int);rw[aaN,adm h2];exact h1,?_,?_⟩
 ·show gO (gO M.cs (M.lg.drop n)) ((M.lg.take n).drop (mk-M.base).toNat)=c;rw[<- zL,<- e];exact h.und
 ·intro x hx;show 0<=x.1/\x.1<((gO M.cs (M.lg.drop n)).length:Int);rw[vp];exact h.ent x (by rw[e];exact aaB _ hx)
theorem Rst.disc{c:List Int}(h:Rst M mk c)(h1:M.base+(n:Int)<=mk)(h2:n<=M.lg.length):Rst (ig M n) mk c:=by
 have hh:=h.hi;have hl:=h.lo;have e:(M.lg.drop n).drop (mk-(M.base+(n:Int))).toNat=M.lg.drop (mk-M.base).toNat:=by
  rw[adr];congr 1;omega
 refine⟨h1,by show mk<=M.base+(n:Int)+((M.lg.drop n).length:Int);rw[aaY];omega,?_,?_⟩
 ·show gO M.cs ((M.lg.drop n).drop (mk-(M.base+(n:Int))).toNat)=c;rw[e];exact h.und
 ·show ∀x∈(M.lg.drop n).drop (mk-(M.base+(n:Int))).toNat,_;rw[e];exact h.ent
section
variable {ρ:Type} (g:Nat->ρ->Gm)
def Cg:Nat->List Int->List ρ->List Int
 |_,c,[]=>c
 |t,c,r::V=>Cg (t+1) (iK (g t r) ⟨c,[],0⟩).cs V
def xp:Nat->List Int->List ρ->List (List Eff)
 |_,_,[]=>[]
 |t,c,r::V=>l7 (g t r) ⟨c,[],0⟩::xp (t+1) (iK (g t r) ⟨c,[],0⟩).cs V
theorem sP(r:ρ):∀ (V:List ρ) (t:Nat) (c:List Int),Cg g t c (V++[r])=(iK (g (t+V.length) r) ⟨Cg g t c V,[],0⟩).cs
 | [],_,_=>rfl
 |x::V,t,c=>by
  show Cg g (t+1) _ (V++[r])=_;rw[sP r V (t+1)];show _=(iK (g (t+(V.length+1)) r) ⟨Cg g (t+1) _ V,[],0⟩).cs;rw[show t+1+V.length=t+(V.length+1) by omega]
theorem sQ(r:ρ):∀ (V:List ρ) (t:Nat) (c:List Int),xp g t c (V++[r])=xp g t c V++[l7 (g (t+V.length) r) ⟨Cg g t c V,[],0⟩]
 | [],_,_=>rfl
 |x::V,t,c=>by
  show _::xp g (t+1) _ (V++[r])=_;rw[sQ r V (t+1)];show _=_::(xp g (t+1) _ V++[l7 (g (t+(V.length+1)) r) ⟨Cg g (t+1) _ V,[],0⟩]);rw[show t+1+V.length=t+(V.length+1) by omega]
theorem wQ:∀ (V:List ρ) (t:Nat) (c:List Int),(xp g t c V).length=V.length
 | [],_,_=>rfl
 |x::V,t,c=>by
  show (xp g (t+1) _ V).length+1=V.length+1;rw[wQ V]
theorem oJ:∀ (V:List ρ) (t:Nat) (c:List Int) (n:Nat),(xp g t c V).take n=xp g t c (V.take n)
 | [],_,_,n=>by cases n <;> rfl
 |x::V,t,c,0=>rfl
 |x::V,t,c,n+1=>by
  show _::(xp g (t+1) _ V).take n=_::xp g (t+1) _ (V.take n);rw[oJ V]
structure PS(ρ:Type) where
 M:MemS
 a:Nat
 ms:List Int
 rows:List ρ
 ck:Nat
 used:List ρ
 effs:List (List Eff)
 rb:Nat
variable (c0:List Int) (w:Nat)
structure PInv(S:PS ρ)(V:List ρ)(m:Nat):Prop where
 cs:S.M.cs=Cg g 0 c0 V
 effs:S.effs=xp g 0 c0 V
 ck:S.ck<=m
 mV:m<=V.length
 mR:m<=S.rows.length
 eq:V.take m=S.rows.take m
 used:S.used=V.drop S.ck
 win:V.length<=S.rows.length+w
 ring:(S.ms=[]/\V=[])\/(S.ms≠[]/\(S.a+S.ms.length=V.length\/S.a+S.ms.length=V.length+1))
 rst:∀ (i:Nat) (k:Int),S.ms[i]?=some k->Rst S.M k (Cg g 0 c0 (V.take (S.a+i)))
 mono:∀ (i j:Nat) (k l:Int),i<=j->S.ms[i]?=some k->S.ms[j]?=some l->k<=l
 back:S.ms≠[]->S.a<=m
 room:S.ms.length<=w
variable {g c0 w}
variable {S:PS ρ} {V:List ρ} {m:Nat}
theorem Ch(M:MemS)(a:Nat):PInv g M.cs w (⟨M,a,[],[],0,[],[],0⟩:PS ρ) [] 0 :=
 ⟨rfl,rfl,aaI _,aaI _,aaI _,rfl,rfl,aaJ _,.inl ⟨rfl,rfl⟩,λ i k h=>(by cases i <;> cases h),λ i j k l _ h=>(by cases i <;> cases h),λ h=>absurd rfl h,aaJ _⟩
def qp(S:PS ρ)(r:ρ):PS ρ:={ S with rows:=S.rows++[r] }
theorem PInv.conf(h:PInv g c0 w S V m)(r:ρ):PInv g c0 w (qp S r) V m:=by
 have h1:=h.mR;refine⟨h.cs,h.effs,h.ck,h.mV,by show m<=(S.rows++[r]).length;rw[aaK];omega,?_,h.used,by show _<=(S.rows++[r]).length+w;rw[aaK];have:=h.win;omega,h.ring,h.rst,h.mono,h.back,h.room⟩;show V.take m=(S.rows++[r]).take m;rw[abs h1];exact h.eq
def zM(S:PS ρ)(x:Nat):PS ρ:={ S with M:=lL S.M ((S.ms.getD (x-S.a) 0)-S.M.base).toNat,ms:=S.ms.take (x-S.a+1),used:=S.used.take (x-S.ck),effs:=S.effs.take x,rb:=S.rb+1 }
theorem PInv.roll(h:PInv g c0 w S V m){x:Nat}(h1:m<=x)(h2:x<V.length)(h3:∀t,m<=t->t<x->V[t]?=S.rows[t]?)(h4:x<=S.rows.length):PInv g c0 w (zM S x) (V.take x) x:=by
 have YQ:=h.ck;have hmV:=h.mV;have u_:S.ms≠[]:=by
  rcases h.ring with ⟨_,e⟩|⟨e,_⟩
  ·rw[e] at h2;simp at h2
  ·exact e
 have hba:=h.back u_;have hlen:x-S.a<S.ms.length:=by
  rcases h.ring with ⟨e,_⟩|⟨_,e|e⟩
  ·exact absurd e u_
  ·omega
  ·omega
 obtain⟨mk,WY⟩:∃mk,S.ms[x-S.a]?=some mk:=⟨_,aa1 hlen⟩;have hr:=h.rst _ _ WY;have Zo:=hr.lo;have hhi:=hr.hi;have eg:S.ms.getD (x-S.a) 0=mk:=by rw[aaG,WY];rfl
 have ex:S.a+(x-S.a)=x:=by omega
 rw[ex] at hr;have hn:(mk-S.M.base).toNat<=S.M.lg.length:=by omega
 have hn2:S.M.base+((mk-S.M.base).toNat:Int)=mk:=by omega
 have lV:(V.take x).length=x:=by rw[aaN];omega
 refine⟨?_,?_,by show S.ck<=x;omega,by rw[lV];exact aaI _,h4,?_,?_,by rw[lV];show x<=S.rows.length+w;omega,?_,?_,?_,λ _=>by show S.a<=x;omega,by show (S.ms.take _).length<=w;rw[aaN];have:=h.room;omega⟩
 ·show gO S.M.cs (S.M.lg.drop (S.ms.getD (x-S.a) 0-S.M.base).toNat)=_;rw[eg];exact hr.und
 ·show S.effs.take x=_;rw[h.effs,oJ]
 ·show (V.take x).take x=S.rows.take x;rw[adi,Nat.min_self];apply acg;intro t;rw[abn,abn];split
  ·next ht=>
   by_cases hm:m<=t
   ·exact h3 t hm ht
   ·have:=congrArg (·[t]?) h.eq;simpa [abn,show t<m by omega] using this
  ·rfl
 ·show S.used.take (x-S.ck)=(V.take x).drop S.ck;rw[h.used,List.drop_take]
 ·right;refine⟨?_,.inr ?_⟩
  ·show S.ms.take (x-S.a+1)≠[];intro e;have:=congrArg List.length e;rw[aaN,adl] at this;omega
  ·show S.a+(S.ms.take (x-S.a+1)).length=_;rw[aaN,lV];omega
 ·intro i k hk;have hk:(S.ms.take (x-S.a+1))[i]?=some k:=hk;rw[abn] at hk;split at hk
  ·next hi=>
   have hri:=h.rst i k hk;have hle:=h.mono i (x-S.a) k mk (by omega) hk WY;have:=hri.undo (n:=(S.ms.getD (x-S.a) 0-S.M.base).toNat) (by rw[eg];omega) (by rw[eg];exact hn);show Rst (lL S.M _) k (Cg g 0 c0 ((V.take x).take (S.a+i)));rw[adi,adm (by omega)];exact this
  ·cases hk
 ·intro i j k l VL hk hl;have hk:(S.ms.take (x-S.a+1))[i]?=some k:=hk;have hl:(S.ms.take (x-S.a+1))[j]?=some l:=hl;rw[abn] at hk hl;split at hk
  ·split at hl
   ·exact h.mono i j k l VL hk hl
   ·cases hl
  ·cases hk
def dT(w:Nat)(S:PS ρ)(now:Nat):PS ρ :=
 if S.ms≠[]/\S.a+S.ms.length=now+1 then S else
 let mk:=S.M.base+(S.M.lg.length:Int)
 let a:=if S.ms=[] then now else S.a
 if w<S.ms.length+1 then { S with M:=ig S.M (((S.ms++[mk]).getD 1 0)-S.M.base).toNat,a:=a+1,ms:=(S.ms++[mk]).drop 1 } else { S with a:=a,ms:=S.ms++[mk] }
def lM(g:Nat->ρ->Gm)(w:Nat)(S:PS ρ)(now:Nat)(r:ρ):PS ρ :=
 { dT w S now with M:=iK (g now r) (dT w S now).M,used:=S.used++[r],effs:=S.effs++[l7 (g now r) (dT w S now).M] }
structure PInvP(S:PS ρ)(V:List ρ)(m:Nat):Prop where
 inv:PInv g c0 w S V m
 full:S.ms≠[]/\S.a+S.ms.length=V.length+1
theorem nC(w:Nat)(S:PS ρ)(now:Nat):(dT w S now).M.cs=S.M.cs/\(dT w S now).rows=S.rows/\(dT w S now).ck=S.ck/\(dT w S now).used=S.used/\(dT w S now).effs=S.effs/\(dT w S now).rb=S.rb:=by
 unfold dT;split
 ·exact⟨rfl,rfl,rfl,rfl,rfl,rfl⟩
 ·dsimp only;split <;> exact⟨rfl,rfl,rfl,rfl,rfl,rfl⟩
theorem PInv.push(h:PInv g c0 w S V m)(hw:1<=w)(hm:m=min V.length S.rows.length)(hv:V.length<S.rows.length+w):PInvP (g:=g) (c0:=c0) (w:=w) (dT w S V.length) V m:=by
 obtain⟨r1,r2,r3,r4,r5,r6⟩:=nC w S V.length
 by_cases hk:S.ms≠[]/\S.a+S.ms.length=V.length+1
 ·have e:dT w S V.length=S:=by unfold dT;rw[if_pos hk]
  rw[e];exact⟨h,hk⟩
 ·-- one mark more
  have WD:=Rst.now S.M;generalize WY:S.M.base+(S.M.lg.length:Int)=mk at WD;obtain⟨a,ha⟩:∃a,a=if S.ms=[] then V.length else S.a:=⟨_,rfl⟩
  have hal:a+S.ms.length=V.length:=by
   rcases h.ring with ⟨e1,e2⟩|⟨e1,e2|e2⟩
   ·rw[ha,if_pos e1,e1];simp
   ·rw[ha,if_neg e1];exact e2
   ·exact absurd ⟨e1,e2⟩ hk
  have Xz:∀ (i:Nat) (k:Int),(S.ms++[mk])[i]?=some k->Rst S.M k (Cg g 0 c0 (V.take (a+i))):=by
   intro i k hi;rcases aa9 i S.ms.length with iN|Wq
   ·rw[aa2 iN] at hi;have u_:S.ms≠[]:=by intro e;rw[e] at iN;simp at iN
    have:=h.rst i k hi;rw[ha,if_neg u_];exact this
   ·rw[aa3 Wq] at hi;have h0:i-S.ms.length=0:=by
     rcases acq (i-S.ms.length) with h0|h0
     ·exact h0
     ·rw[abQ (by simp;omega)] at hi;cases hi
    rw[h0] at hi;have e:k=mk:=by simpa using hi.symm
    subst e;rw[show a+i=V.length by omega,ac8,<- h.cs];exact WD
  have Is:∀ (i j:Nat) (k l:Int),i<=j->(S.ms++[mk])[i]?=some k->(S.ms++[mk])[j]?=some l->k<=l:=by
   intro i j k l VL hi hj;rcases aa9 j S.ms.length with iN|Wq
   ·rw[aa2 iN] at hj;rw[aa2 (by omega)] at hi;exact h.mono i j k l VL hi hj
   ·rw[aa3 Wq] at hj;have h0:j-S.ms.length=0:=by
     rcases acq (j-S.ms.length) with h0|h0
     ·exact h0
     ·rw[abQ (by simp;omega)] at hj;cases hj
    rw[h0] at hj;have e:l=mk:=by simpa using hj.symm
    subst e;have:=(Xz i k hi).hi;omega
  by_cases hlen:w<S.ms.length+1
  ·-- the agF goes
   have e:dT w S V.length={ S with M:=ig S.M (((S.ms++[mk]).getD 1 0)-S.M.base).toNat,a:=a+1,ms:=(S.ms++[mk]).drop 1 }:=by
    unfold dT;rw[if_neg hk];dsimp only;rw[WY,if_pos hlen,<- ha]
   rw[e];have DO:=h.room;have ZX:1<(S.ms++[mk]).length:=by rw[aaK,pt];omega
   obtain⟨k1,VK⟩:∃k1,(S.ms++[mk])[1]?=some k1:=⟨_,aa1 ZX⟩;have eg:(S.ms++[mk]).getD 1 0=k1:=by rw[aaG,VK];rfl
   have Yx:=Xz 1 k1 VK;have Zo:=Yx.lo;have hhi:=Yx.hi;refine⟨⟨h.cs,h.effs,h.ck,h.mV,h.mR,h.eq,h.used,h.win,.inr ⟨?_,.inr ?_⟩,?_,?_,λ _=>?_,?_⟩,?_,?_⟩
   ·intro e2;have e3:((S.ms++[mk]).drop 1).length=0:=congrArg List.length e2;rw[aaY,aaK,pt] at e3;omega
   ·show a+1+((S.ms++[mk]).drop 1).length=_;rw[aaY,aaK,pt];omega
   ·intro i k hi;have hi:((S.ms++[mk]).drop 1)[i]?=some k:=hi;rw[abi] at hi;have h5:=Xz (1+i) k hi;have h6:=Is 1 (1+i) k1 k (by omega) VK hi;have:=h5.disc (n:=((S.ms++[mk]).getD 1 0-S.M.base).toNat) (by rw[eg];omega) (by rw[eg];omega);show Rst (ig S.M _) k (Cg g 0 c0 (V.take (a+1+i)));rw[show a+1+i=a+(1+i) by omega];exact this
   ·intro i j k l VL hi hj;have hi:((S.ms++[mk]).drop 1)[i]?=some k:=hi;have hj:((S.ms++[mk]).drop 1)[j]?=some l:=hj;rw[abi] at hi hj;exact Is (1+i) (1+j) k l (by omega) hi hj
   ·show a+1<=m;omega
   ·show ((S.ms++[mk]).drop 1).length<=w;rw[aaY,aaK,pt];omega
   ·intro e2;have e3:((S.ms++[mk]).drop 1).length=0:=congrArg List.length e2;rw[aaY,aaK,pt] at e3;omega
   ·show a+1+((S.ms++[mk]).drop 1).length=_;rw[aaY,aaK,pt];omega
  ·have e:dT w S V.length={ S with a:=a,ms:=S.ms++[mk] }:=by
    unfold dT;rw[if_neg hk];dsimp only;rw[WY,if_neg hlen,<- ha]
   rw[e];refine⟨⟨h.cs,h.effs,h.ck,h.mV,h.mR,h.eq,h.used,h.win,.inr ⟨by simp,.inr ?_⟩,Xz,Is,λ _=>?_,?_⟩,by simp,?_⟩
   ·show a+(S.ms++[mk]).length=_;rw[aaK,pt];omega
   ·show a<=m
    by_cases e0:S.ms=[]
    ·rcases h.ring with ⟨_,e2⟩|⟨e1,_⟩
     ·rw[ha,if_pos e0,e2];simp
     ·exact absurd e0 e1
    ·rw[ha,if_neg e0];exact h.back e0
   ·show (S.ms++[mk]).length<=w;rw[aaK,pt];omega
   ·show a+(S.ms++[mk]).length=_;rw[aaK,pt];omega
theorem PInv.sim(h:PInv g c0 w S V m)(hw:1<=w)(hm:m=min V.length S.rows.length)(hv:V.length<S.rows.length+w)(r:ρ)(hr:V.length<S.rows.length->S.rows[V.length]?=some r):PInv g c0 w (lM g w S V.length r) (V++[r]) (min (V++[r]).length S.rows.length):=by
 obtain⟨r1,r2,r3,r4,r5,r6⟩:=nC w S V.length;obtain⟨hp,u_,WJ⟩:=h.push hw hm hv;unfold lM;generalize dT w S V.length=S1 at *;have hmR:=h.mR;have YQ:=h.ck;have lV:(V++[r]).length=V.length+1:=by rw[aaK];rfl
 rw[lV];refine⟨?_,?_,by show S1.ck<=_;rw[r3];omega,by rw[lV];omega,by show _<=S1.rows.length;rw[r2];omega,?_,?_,by rw[lV];show _<=S1.rows.length+w;rw[r2];omega,.inr ⟨u_,.inl (by rw[lV];exact WJ)⟩,?_,hp.mono,λ hn=>by have:=hp.back hn;show S1.a<=_;omega,hp.room⟩
 ·show (iK (g V.length r) S1.M).cs=_;rw[sP,abP];exact BC hp.cs
 ·show S.effs++[l7 (g V.length r) S1.M]=_;rw[sQ,abP,h.effs];congr 2;exact wl hp.cs
 ·show (V++[r]).take (min (V.length+1) S.rows.length)=S1.rows.take _;rw[r2]
  by_cases iN:V.length<S.rows.length
  ·have e1:min (V.length+1) S.rows.length=V.length+1:=by omega
   have e2:m=V.length:=by omega
   have heq:=h.eq;rw[e2,ac8] at heq;rw[e1,WP (by rw[lV];exact aaI _),aeq,hr iN,<- heq];rfl
  ·have e1:min (V.length+1) S.rows.length=m:=by omega
   rw[e1,abs (by omega)];exact h.eq
 ·show S.used++[r]=(V++[r]).drop S1.ck;rw[r3,acn (by have:=h.mV;omega),h.used]
 ·intro i k hi;have h5:=(hp.rst i k hi).tick (g V.length r);have hi2:i<S1.ms.length:=(bt.1 hi).1;show Rst (iK (g V.length r) S1.M) k (Cg g 0 c0 ((V++[r]).take (S1.a+i)));rw[abs (by omega)];exact h5
def M5(S:PS ρ)(now:Nat):PS ρ:={ S with used:=S.used.drop (min now S.rows.length-S.ck),ck:=min now S.rows.length }
theorem PInv.settle(h:PInv g c0 w S V m)(hm:m=min V.length S.rows.length):PInv g c0 w (M5 S V.length) V m:=by
 have YQ:=h.ck;refine⟨h.cs,h.effs,by show min V.length S.rows.length<=m;omega,h.mV,h.mR,h.eq,?_,h.win,h.ring,h.rst,h.mono,h.back,h.room⟩;show S.used.drop (min V.length S.rows.length-S.ck)=V.drop (min V.length S.rows.length);rw[h.used,adr];congr 1;omega
theorem PInv.clean(h:PInv g c0 w S V m)(hc:∀t,m<=t->t<V.length->t<S.rows.length->V[t]?=S.rows[t]?):PInv g c0 w S V (min V.length S.rows.length):=by
 have h1:=h.mV;have h2:=h.mR;have h3:=h.ck;refine⟨h.cs,h.effs,by omega,by omega,by omega,?_,h.used,h.win,h.ring,h.rst,h.mono,λ e=>by have:=h.back e;omega,h.room⟩;apply acg;intro t;rw[abn,abn];split
 ·next ht=>
  by_cases hm:m<=t
  ·exact hc t hm (by omega) (by omega)
  ·have:=congrArg (·[t]?) h.eq;simpa [abn,show t<m by omega] using this
 ·rfl
def wr [DecidableEq ρ](rows:List ρ):Nat->List ρ->Option Nat
 |_,[]=>none
 |t,u::l=>match rows[t]? with
  |none=>none
  |some r=>if u=r then wr rows (t+1) l else some t
theorem DM [DecidableEq ρ]{rows:List ρ}:∀ {l:List ρ} {t:Nat},wr rows t l=none->∀i,i<l.length->t+i<rows.length->l[i]?=rows[t+i]?
 | [],_,_,i,hi,_=>by cases hi
 |u::l,t,h,i,hi,hr=>by
  rw[wr] at h;have ht:t<rows.length:=by omega
  rw[aa1 ht] at h;simp only at h;split at h
  ·next e=>
   cases i with
   |zero=>rw[acK,aa1 ht,<- e];rfl
   |succ i=>
    have:=DM h i (by simpa using hi) (by omega);rw[ace,this];congr 1;omega
  ·cases h
theorem wR [DecidableEq ρ]{rows:List ρ}:∀ {l:List ρ} {t x:Nat},wr rows t l=some x->t<=x/\x<t+l.length/\x<rows.length/\(∀i,t+i<x->l[i]?=rows[t+i]?)/\l[x-t]? ≠rows[x]?
 | [],_,_,h=>by cases h
 |u::l,t,x,h=>by
  rw[wr] at h;split at h
  ·cases h
  ·next r hr=>
   have ht:t<rows.length:=(bt.1 hr).1;split at h
   ·next e=>
    obtain⟨h1,h2,h3,h4,h5⟩:=wR h;refine⟨by omega,by simp only[aaZ];omega,h3,?_,?_⟩
    ·intro i hi;cases i with
     |zero=>rw[acK,hr,<- e];rfl
     |succ i=>
      rw[ace,h4 i (by omega)];congr 1;omega
    ·rw[show x-t=(x-(t+1))+1 by omega,ace];exact h5
   ·next e=>
    simp only[de] at h;subst h;refine⟨aaI _,by simp,ht,λ i hi=>absurd hi (by omega),?_⟩;rw[aeM,hr];intro e2;exact e (by simpa using e2)
def ge(g:Nat->ρ->Gm)(w:Nat)(rf:Nat->ρ):Nat->PS ρ->Nat->PS ρ
 |0,S,_=>S
 |n+1,S,now=>ge g w rf n (lM g w S now (rf now)) (now+1)
def jz(rf:Nat->ρ):Nat->Nat->List ρ
 |0,_=>[]
 |n+1,now=>rf now::jz rf n (now+1)
theorem pO(rf:Nat->ρ):∀ (n now:Nat),(jz rf n now).length=n
 |0,_=>rfl
 |n+1,now=>by rw[jz,aaZ,pO rf n]
theorem gB(S:PS ρ)(now:Nat)(r:ρ):(lM g w S now r).rows=S.rows/\(lM g w S now r).rb=S.rb/\(lM g w S now r).ck=S.ck:=by
 obtain⟨r1,r2,r3,r4,r5,r6⟩:=nC w S now;exact⟨r2,r6,r3⟩
theorem nD(rf:Nat->ρ):∀ (n:Nat) (S:PS ρ) (now:Nat),(ge g w rf n S now).rows=S.rows/\(ge g w rf n S now).rb=S.rb/\(ge g w rf n S now).ck=S.ck
 |0,_,_=>⟨rfl,rfl,rfl⟩
 |n+1,S,now=>by
  rw[ge];obtain⟨h1,h2,h3⟩:=nD rf n (lM g w S now (rf now)) (now+1);obtain⟨k1,k2,k3⟩:=gB (g:=g) (w:=w) S now (rf now);exact⟨h1.trans k1,h2.trans k2,h3.trans k3⟩
theorem pP(hw:1<=w)(rf:Nat->ρ):∀ (n:Nat) (S:PS ρ) (V:List ρ),PInv g c0 w S V (min V.length S.rows.length)->V.length+n<=S.rows.length+w->(∀t,t<S.rows.length->S.rows[t]?=some (rf t))->
  PInv g c0 w (ge g w rf n S V.length) (V++jz rf n V.length) (min (V.length+n) S.rows.length)
 |0,S,V,h,_,_=>by rw[ge,jz,acm];exact h
 |n+1,S,V,h,hn,hr=>by
  rw[ge,jz];obtain⟨k1,k2,k3⟩:=gB (g:=g) (w:=w) S V.length (rf V.length);have h1:=h.sim hw rfl (by omega) (rf V.length) (hr V.length);have lV:(V++[rf V.length]).length=V.length+1:=by rw[aaK];rfl
  have h2:=pP hw rf n (lM g w S V.length (rf V.length)) (V++[rf V.length]) (by rw[k1];exact h1) (by rw[k1,lV];omega) (by rw[k1];exact hr);rw[lV,k1,aaF] at h2;rw[show V.length+(n+1)=V.length+1+n by omega];exact h2
def adv1 [DecidableEq ρ](S:PS ρ):PS ρ:=match wr S.rows S.ck S.used with
 |some x=>zM S x
 |none=>S
def dY [DecidableEq ρ](S:PS ρ)(now:Nat):Nat:=(wr S.rows S.ck S.used).getD now
def qH [DecidableEq ρ](g:Nat->ρ->Gm)(w:Nat)(S:PS ρ)(now T:Nat)(rf:Nat->ρ):PS ρ :=
 M5 (ge g w rf (T-dY S now) (adv1 S) (dY S now)) T
def sR [DecidableEq ρ](S:PS ρ)(V:List ρ)(T:Nat)(rf:Nat->ρ):List ρ:=V.take (dY S V.length)++jz rf (T-dY S V.length) (dY S V.length)
theorem PInv.adv1 [DecidableEq ρ](h:PInv g c0 w S V m):PInv g c0 w (adv1 S) (V.take (dY S V.length)) (min (dY S V.length) S.rows.length)/\(Go.Proofs.YtjokannbjmndfaaGreatDoor.adv1 S).rows=S.rows/\dY S V.length<=V.length/\m<=dY S V.length/\(Go.Proofs.YtjokannbjmndfaaGreatDoor.adv1 S).rb=S.rb+(if dY S V.length<V.length then 1 else 0):=by
 have hu:=h.used;have h1:=h.mV;have h2:=h.ck;have h3:=h.mR;unfold Go.Proofs.YtjokannbjmndfaaGreatDoor.adv1 dY;cases hx:wr S.rows S.ck S.used with
 |none=>
  have hc:=DM hx;simp only[Option.getD_none];refine⟨?_,by trivial,aaI _,h1,by simp⟩;rw[ac8];refine h.clean λ t ht1 ht2 ht3=>?_;have:=hc (t-S.ck) (by rw[hu,aaY];omega) (by omega);rw[hu,abi,show S.ck+(t-S.ck)=t by omega] at this;exact this
 |some x=>
  obtain⟨k1,k2,k3,k4,k5⟩:=wR hx;rw[hu,aaY] at k2;simp only[adz];have hxV:x<V.length:=by omega
  have hmx:m<=x:=by
   rcases aa9 x m with iN|Wq
   ·exfalso;apply k5;rw[hu,abi,show S.ck+(x-S.ck)=x by omega];have:=congrArg (·[x]?) h.eq;simpa [abn,iN] using this
   ·exact Wq
  have hr:=h.roll hmx hxV (λ t ht1 ht2=>by
   have:=k4 (t-S.ck) (by omega);rw[hu,abi,show S.ck+(t-S.ck)=t by omega] at this;exact this) (by omega)
  refine⟨?_,rfl,by omega,hmx,?_⟩
  ·rw[show min x S.rows.length=x by omega];exact hr
  ·rw[if_pos hxV];rfl
theorem PInv.adv [DecidableEq ρ](h:PInv g c0 w S V m)(hw:1<=w){T:Nat}(h1:V.length<=T)(h2:T<=S.rows.length+w)(rf:Nat->ρ)(hr:∀t,t<S.rows.length->S.rows[t]?=some (rf t)) :
  PInv g c0 w (qH g w S V.length T rf) (sR S V T rf) (min T S.rows.length)/\(sR S V T rf).length=T/\(qH g w S V.length T rf).rows=S.rows/\(qH g w S V.length T rf).rb=S.rb+(if dY S V.length<V.length then 1 else 0):=by
 obtain⟨k1,k2,k3,k4,k5⟩:=h.adv1;unfold qH sR;generalize Go.Proofs.YtjokannbjmndfaaGreatDoor.adv1 S=S1 at *;generalize dY S V.length=n1 at *;have lV:(V.take n1).length=n1:=by rw[aaN];omega
 have h3:=pP hw rf (T-n1) S1 (V.take n1) (by rw[lV,k2];exact k1) (by rw[lV,k2];omega) (by rw[k2];exact hr);rw[lV,k2] at h3;obtain⟨r1,r2,r3⟩:=nD (g:=g) (w:=w) rf (T-n1) S1 n1;have lT:(V.take n1++jz rf (T-n1) n1).length=T:=by rw[aaK,pO,lV];omega
 have e:n1+(T-n1)=T:=by omega
 rw[e] at h3;have h4:=h3.settle (by rw[lT,r1,k2]);rw[lT] at h4;exact⟨h4,lT,r1.trans k2,r2.trans k5⟩
end
end Go.Proofs.YtjokannbjmndfaaGreatDoor
