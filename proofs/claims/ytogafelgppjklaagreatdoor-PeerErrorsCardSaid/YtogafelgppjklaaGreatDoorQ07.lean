import Derived.Test.YtogafelgppjklaaGreatDoorQ06
set_option maxHeartbeats 4000000
set_option maxRecDepth 100000
set_option linter.all false
namespace Go.Proofs.YtogafelgppjklaaGreatDoor
open Go.RowKit
section
variable {D0:List Deferred} {Q:Exit->Act->World->Prop} {S:Nat->Prop} {b be be':List Nat} {i j q:Nat} {listed:Array Bool} {lk:List Tmp} {o o':Oper} {ops:Array Oper} {t:Tmp} {tm:Array Value} {v':Value} {w0:World} {βK βb:Nat->Nat} {βo:Nat->Obj} {ν0:Nu}
theorem Cd:∀ (v v':Value),tI v v'=true->v=v':=by
 intro v;refine Value.rec (motive_1:=λ v=>∀v',tI v v'=true->v=v') (motive_2:=λ a=>∀a',FO a a'=true->a=a') (motive_3:=λ l=>∀l',qR l l'=true->l=l')
  ?_ ?_ ?_ ?_ ?_ ?_ ?_ ?_ ?_ ?_ ?_ ?_ ?_ ?_ ?_ ?_ ?_ ?_ v
 case _=>intro b v' h;cases v' <;> simp[tI] at h;rw[h]
 case _=>
  intro k n v' h;cases v' <;> simp[tI] at h
  split at h
  ·rename_i e;simp at e h;rw[e,h]
  ·cases h
 case _=>intro k b v' h;cases v' <;> simp[tI] at h
 case _=>intro k b c v' h;cases v' <;> simp[tI] at h
 case _=>intro s v' h;cases v' <;> simp[tI] at h;rw[GR.1 h]
 case _=>intro a v' h;cases v' <;> simp[tI] at h;rw[h]
 case _=>
  intro a n c v' h;cases v' <;> simp[tI] at h
  split at h
  ·rename_i e1 e2 e3;simp at e1;rw[e1,aaX e2,aaX e3]
  ·cases h
 case _=>intro a v' h;cases v' <;> simp[tI] at h;rw[h]
 case _=>intro a v' h;cases v' <;> simp[tI] at h
 case _=>
  intro fn f c Zm Zl v' h;cases v' <;> simp[tI] at h
  split at h
  ·rename_i e1 e2;simp at e1;rw[e1,Zm _ e2,Zl _ h]
  ·cases h
 case _=>intro v' h;cases v' <;> simp[tI] at h;rfl
 case _=>
  intro t v ih v' h;cases v' <;> simp[tI] at h
  split at h
  ·rename_i e1;rw[aaX e1,ih _ h]
  ·cases h
 case _=>intro v' h;cases v' <;> simp[tI] at h;rfl
 case _=>intro c ih v' h;cases v' <;> simp[tI] at h;rw[ih _ h]
 case _=>intro c ih v' h;cases v' <;> simp[tI] at h;rw[ih _ h]
 case _=>intro l ih a' h;obtain⟨l'⟩:=a';rw[ih l' (by simpa [FO] using h)]
 case _=>intro l' h;cases l' <;> simp[qR] at h;rfl
 case _=>
  intro v l Zm Zl l' h;cases l' with
  |nil=>simp[qR] at h
  |cons v' l'=>
   rw[qR] at h;split at h
   ·rename_i e;rw[Zm _ e,Zl _ h]
   ·cases h
theorem hZ{l:List Nat}:ko i l=true↔i∈l:=by
 induction l with
 |nil=>simp[ko]
 |cons j l ih=>
  rw[ko];split
  ·rename_i e;simp[aaX e]
  ·rename_i e;have:i≠j:=λ h=>by subst h;simp at e
   simp[ih,this]
theorem MY{α:Type}(l:List α)(i:Nat):MP l i=l[i]?:=by
 induction l generalizing i with
 |nil=>rfl
 |cons v l ih=>cases i with
  |zero=>rfl
  |succ i=>simpa [MP] using ih i
theorem pU{bs:List (List Nat)}:∀ {es:List Edge} {l:List Nat},B0 bs es=some l->(∀e∈es,zb e=true->e.on<bs.length)/\∀x∈l,∃e∈es,zb e=true/\(x=e.on\/∃b,bs[e.on]?=some b/\x∈b)
 | [],l,h=>by rw[B0] at h;cases h;exact⟨λ e he=>(by cases he),λ x hx=>(by cases hx)⟩
 |e::es,l,h=>by
  rw[B0] at h;split at h
  ·cases h
  rename_i l0 h0;obtain⟨q1,q2⟩:=pU h0;split at h
  ·rename_i hb;cases h;refine⟨λ e' he' Ww=>?_,λ x hx=>?_⟩
   ·rcases abs.1 he' with rfl|he'
    ·rw[hb] at Ww;cases Ww
    ·exact q1 e' he' Ww
   ·obtain⟨e',h1,h2⟩:=q2 x hx;exact⟨e',aaE _ h1,h2⟩
  ·rename_i hb;split at h
   ·rename_i b hbs;cases h;rw[MY] at hbs;refine⟨λ e' he' Ww=>?_,λ x hx=>?_⟩
    ·rcases abs.1 he' with rfl|he'
     ·exact(bt.1 hbs).1
     ·exact q1 e' he' Ww
    ·rcases abs.1 hx with rfl|hx
     ·exact⟨e,aaD,hb,.inl rfl⟩
     ·rcases abM.1 hx with hx|hx
      ·exact⟨e,aaD,hb,.inr ⟨b,hbs,hx⟩⟩
      ·obtain⟨e',h1,h2⟩:=q2 x hx;exact⟨e',aaE _ h1,h2⟩
   ·cases h
theorem vn:∀ {l:List Oper} {YU bs:List (List Nat)},JG l YU=some bs->bs.length=YU.length+l.length/\(∀i,i<YU.length->bs[i]?=YU[i]?)/\∀j (hj:j<l.length),∃b,bs[YU.length+j]?=some b/\B0 (bs.take (YU.length+j)) (l[j].after.toList)=some b
 | [],YU,bs,h=>by rw[JG] at h;cases h;exact⟨by simp,λ _ _=>rfl,λ j hj=>(by simp at hj)⟩
 |o::l,YU,bs,h=>by
  rw[JG] at h;split at h
  ·rename_i b hb;obtain⟨q1,q2,q3⟩:=vn h;simp only[aaK,abw] at q1 q2 q3;have U1:bs.take YU.length=YU:=by
    apply abP;intro i;rcases aaV i YU.length with hi|hi
    ·rw[acb hi,q2 i (by omega),aaQ hi]
    ·rw[vo (by rw[aaL];omega),vo hi]
   refine⟨by simp;omega,λ i hi=>by rw[q2 i (by omega),aaQ hi],λ j hj=>?_⟩;cases j with
   |zero=>
    refine⟨b,?_,?_⟩
    ·rw[abZ,q2 _ (by omega)];simp
    ·rw[abZ,U1];exact hb
   |succ j=>
    obtain⟨b',g1,g2⟩:=q3 j (by simpa using hj);have e:YU.length+1+j=YU.length+(j+1):=by omega
    rw[e] at g1 g2;exact⟨b',g1,g2⟩
  ·cases h
structure Stat(P:Program)(G:Nat)(ops:Array Oper)(bs:List (List Nat)):Prop where
 len:bs.length=ops.size
 ok:∀ (i:Nat) (o:Oper),ops[i]?=some o->oz G o=true/\∃l,looks ops o=some l
 pair:∀ (i j:Nat) (o o':Oper) (b':List Nat),i<j->ops[i]?=some o->ops[j]?=some o'->bs[j]?=some b'->sN P ops i o o' b'=true
 lt:∀ (i:Nat) (b:List Nat),bs[i]?=some b->∀x∈b,x<i
 dc:∀ (i:Nat) (o:Oper) (b:List Nat),ops[i]?=some o->bs[i]?=some b->∀x∈b,∃e∈o.after,Region.binds .any e=true/\(x=e.on\/∃b',bs[e.on]?=some b'/\x∈b')
 dir:∀ (i:Nat) (o:Oper) (b:List Nat),ops[i]?=some o->bs[i]?=some b->∀e∈o.after,Region.binds .any e=true->e.on<i
theorem zz(e:Edge):Region.binds .any e=zb e:=by
 unfold Region.binds zb;cases e.ground <;> rfl
theorem qB{P:Program}{ops:Array Oper}{o':Oper}{b':List Nat}:∀ {l:List Oper} {i:Nat},sO P ops o' b' i l=true->∀j (hj:j<l.length),sN P ops (i+j) l[j] o' b'=true
 | [],i,h,j,hj=>by simp at hj
 |o::l,i,h,j,hj=>by
  rw[sO] at h;split at h
  ·rename_i h1;cases j with
   |zero=>exact h1
   |succ j=>
    have:=qB h j (by simpa using hj);rw[show i+(j+1)=i+1+j from by omega];exact this
  ·cases h
theorem s7{P:Program}{G:Nat}{ops:Array Oper}{all:List Oper}:∀ {l:List Oper} {bs:List (List Nat)} {i:Nat},uX P G ops all i l bs=true->bs.length=l.length/\∀j (hj:j<l.length),∃b,bs[j]?=some b/\oz G l[j]=true/\sO P ops l[j] b 0 (all.take (i+j))=true/\(looks ops l[j]).isSome=true
 | [],[],i,h=>⟨rfl,λ j hj=>by simp at hj⟩
 | [],_::_,i,h=>by simp[uX] at h
 |_::_,[],i,h=>by simp[uX] at h
 |o::l,b::bs,i,h=>by
  rw[uX] at h;split at h
  ·rename_i h1 h2 h3;obtain⟨q1,q2⟩:=s7 h;refine⟨by simp[q1],λ j hj=>?_⟩;cases j with
   |zero=>exact⟨b,rfl,h1,h2,h3⟩
   |succ j=>
    obtain⟨b',g1,g2,g3,g4⟩:=q2 j (by simpa using hj);refine⟨b',by simpa using g1,g2,?_,g4⟩;rw[show i+(j+1)=i+1+j from by omega];exact g3
  ·cases h
theorem zA{P:Program}{G:Nat}{bs:List (List Nat)}(h:B1 P G ops=some bs):Stat P G ops bs:=by
 unfold B1 at h;split at h
 case h_2=>cases h
 rename_i bs' hb;split at h
 case h_2=>cases h
 rename_i hs;cases h;obtain⟨q1,-,q3⟩:=vn hb;obtain⟨p1,p2⟩:=s7 hs;simp only[adH,abp] at q1 q3;have g_:∀ {i:Nat} {o:Oper},ops[i]?=some o->∃hi:i<ops.toList.length,ops.toList[i]=o:=λ {i o} h=>by
  obtain⟨h1,h2⟩:=eb.1 h;exact⟨by simpa using h1,by simpa using h2⟩
 have hbe:∀ {i:Nat} {o:Oper} {b:List Nat},ops[i]?=some o->bs[i]?=some b->B0 (bs.take i) o.after.toList=some b:=λ {i o b} ho hb=>by
  obtain⟨hi,IT⟩:=g_ ho;obtain⟨b',g1,g2⟩:=q3 i hi;rw[g1] at hb;cases hb;rw[IT] at g2;exact g2
 have hdc:∀ (i:Nat) (o:Oper) (b:List Nat),ops[i]?=some o->bs[i]?=some b->∀x∈b,∃e∈o.after,Region.binds .any e=true/\(x=e.on\/∃b',bs[e.on]?=some b'/\x∈b'):=λ i o b ho hb x hx=>by
  obtain⟨e,h1,h2,h3⟩:=(pU (hbe ho hb)).2 x hx;refine⟨e,by simpa using h1,by rw[zz];exact h2,?_⟩;rcases h3 with h3|⟨b',h4,h5⟩
  ·exact .inl h3
  ·have:=(bt.1 h4).1;rw[acb (by rw[aaL] at this;omega)] at h4;exact .inr ⟨b',h4,h5⟩
 have afV:∀ (i:Nat) (o:Oper) (b:List Nat),ops[i]?=some o->bs[i]?=some b->∀e∈o.after,Region.binds .any e=true->e.on<i:=λ i o b ho hb e he af4=>by
  have:=(pU (hbe ho hb)).1 e (by simpa using he) (by rw[<- zz];exact af4);rw[aaL] at this;omega
 refine⟨by rw[q1];simp,λ i o ho=>?_,λ i j o o' b' hij ho IT Ww=>?_,?_,hdc,afV⟩
 ·obtain⟨hi,IT⟩:=g_ ho;obtain⟨b,-,g2,-,g4⟩:=p2 i hi;rw[IT] at g2 g4;exact⟨g2,aco.1 g4⟩
 ·obtain⟨hj,hoj⟩:=g_ IT;obtain⟨hi,hoi⟩:=g_ ho;obtain⟨b,g1,-,g3,-⟩:=p2 j hj;rw[g1] at Ww;cases Ww;rw[hoj,abp] at g3;have:=qB g3 i (by rw[aaL];omega);simpa [hoi] using this
 ·intro i
  induction i using Nat.strongRecOn with
  |_ i ih=>
   intro b hb x hx;have XJ:i<ops.size:=by
    have:=(bt.1 hb).1;rw[q1] at this;simpa using this
   have ho:ops[i]?=some ops[i]:=abn XJ;obtain⟨e,h1,h2,h3⟩:=hdc i _ b ho hb x hx;have afA:=afV i _ b ho hb e h1 h2;rcases h3 with rfl|⟨b',h4,h5⟩
   ·exact afA
   ·have:=ih _ afA b' h4 x h5;omega
section dr
variable {ν ν':Nu} {P:Program} {G N:Nat} {T T':Tr Value} {a:Act} {H H':AH} {F:HL} {w w':World} {r r':Option Nat} {ih:Task->Option Rs}
inductive DK(P:Program)(G:Nat)(ih:Task->Option Rs)(r:Option Nat)(N:Nat)(ops:Array Oper)(i:Nat)(o:Oper)(b:List Nat)(s:DSt):Value->DSt->Prop
 |no (T:Tr Value):eL ops o s.T=some false->fy N o.dst undef s.T=some T->DK P G ih r N ops i o b s undef { s with T:=T }
 |pu (v:Value) (T:Tr Value):eL ops o s.T=some true->tH P o.op=.pu->gY P o s.T=some v->fy N o.dst v s.T=some T->DK P G ih r N ops i o b s v { s with T:=T }
 |lo (v:Value) (T:Tr Value):eL ops o s.T=some true->tH P o.op=.lo->jJ P o s.T s.H=some v->fy N o.dst v s.T=some T->DK P G ih r N ops i o b s v { s with T:=T,lds:=⟨i,o,b,s.T,v⟩::s.lds }
 |nw (bl:AB) (m:Mk) (T:Tr Value):eL ops o s.T=some true->tH P o.op=.nw->tX P o s.T=some (bl,m)->fy N o.dst (m.val s.n) s.T=some T->DK P G ih r N ops i o b s (m.val s.n) { s with T:=T,n:=s.n+1,pend:=s.pend++[(s.n,bl)] }
 |ef (v:Value) (H':AH) (n':Nat) (T:Tr Value):eL ops o s.T=some true->tH P o.op=.ef->kl P G ih r o s.T (iu s.H s.pend) s.n=some (.val v H' n')->fy N o.dst v s.T=some T->DK P G ih r N ops i o b s v { s with T:=T,H:=H',n:=n',pend:=[],stg:=s.stg++[(i,b,H')] }
theorem J1{s s':DSt}(h:TX P G ih r N ops i o b s=some s'):∃v,DK P G ih r N ops i o b s v s':=by
 unfold TX at h;split at h
 ·cases h
 ·rename_i hw;split at h
  ·rename_i T1 hp;cases h;exact⟨_,.no _ hw hp⟩
  ·cases h
 ·rename_i hw;split at h
  ·rename_i hc;split at h
   ·rename_i v hv;split at h
    ·rename_i T1 hp;cases h;exact⟨_,.pu _ _ hw hc hv hp⟩
    ·cases h
   ·cases h
  ·rename_i hc;split at h
   ·rename_i v hv;split at h
    ·rename_i T1 hp;cases h;exact⟨_,.lo _ _ hw hc hv hp⟩
    ·cases h
   ·cases h
  ·rename_i hc;split at h
   ·rename_i bl m hv;split at h
    ·rename_i T1 hp;cases h;exact⟨_,.nw _ _ _ hw hc hv hp⟩
    ·cases h
   ·cases h
  ·rename_i hc;simp only at h;split at h
   ·rename_i v H' n' hv;split at h
    ·rename_i T1 hp;cases h;exact⟨_,.ef _ _ _ _ hw hc hv hp⟩
    ·cases h
   ·cases h
theorem s8{ops:Array Oper}:∀ {l:List Oper} {bs:List (List Nat)} {k:Nat} {s d:DSt},zc P G ih r N ops k l bs s=some d->bs.length=l.length->∃ (σ:Nat->DSt) (V:Nat->Value),σ k=s/\σ (k+l.length)=d/\∀j (hj:j<l.length),∃b,bs[j]?=some b/\DK P G ih r N ops (k+j) l[j] b (σ (k+j)) (V (k+j)) (σ (k+j+1))
 | [],bs,k,s,d,h,hl=>by
  rw[zc] at h;cases h;exact⟨λ _=>s,λ _=>undef,rfl,rfl,λ j hj=>(by simp at hj)⟩
 |o::l,[],k,s,d,h,hl=>by simp at hl
 |o::l,b::bs,k,s,d,h,hl=>by
  rw[zc] at h;split at h
  ·rename_i s1 h1;obtain⟨v,hv⟩:=J1 h1;obtain⟨σ,V,e1,e2,e3⟩:=s8 h (by simpa using hl);refine⟨λ x=>if x=k then s else σ x,λ x=>if x=k then v else V x,if_pos rfl,?_,λ j hj=>?_⟩
   ·simp only[aaN];rw[if_neg (by omega),<- e2];congr 1;omega
   ·cases j with
    |zero=>
     refine⟨b,rfl,?_⟩;simp only[abZ,if_true];rw[if_neg (by omega),e1];exact hv
    |succ j=>
     obtain⟨b',g1,g2⟩:=e3 j (by simpa using hj);refine⟨b',by simpa using g1,?_⟩;simp only;rw[if_neg (by omega),if_neg (by omega),if_neg (by omega)];have e:k+(j+1)=k+1+j:=by omega
     rw[e];exact g2
  ·cases h
theorem MZ(AI:kY P G ih){n n':Nat}{v:Value}{H':AH}(iN:kl P G ih r o T H n=some (.val v H' n')):n<=n':=by
 unfold kl at iN;split at iN
 ·cases iN
 rename_i y hy;split at iN
 ·cases iN;exact wN hy
 ·split at iN
  ·rename_i hc;cases iN;exact(AI _ _ hc).1
  ·cases iN
 ·split at iN
  case h_2=>cases iN
  split at iN
  case h_2=>cases iN
  split at iN
  ·rename_i hc;cases iN;exact(AI _ _ hc).1
  ·cases iN
 ·split at iN <;> cases iN
 ·cases iN
theorem mj{dst:Option Tmp}{v:Value}(h:fy N dst v T=some T'):(∀t,cN T' t=if dst=some t then v else cN T t)/\∀d,dst=some d->d<N:=by
 unfold fy at h;split at h
 ·cases h;exact⟨λ t=>by simp,λ d e=>(by cases e)⟩
 ·rename_i d;split at h
  ·rename_i hd;cases h;refine⟨λ t=>?_,λ d' e=>by cases e;exact dN hd⟩;unfold cN tV;rw[jm];simp
  ·cases h
structure Tra(P:Program)(G:Nat)(ih:Task->Option Rs)(r:Option Nat)(N:Nat)(ops:Array Oper)(bs:List (List Nat))(σ:Nat->DSt)(V:Nat->Value):Prop where
 st:Stat P G ops bs
 stp:∀ (i:Nat) (o:Oper) (b:List Nat),ops[i]?=some o->bs[i]?=some b->DK P G ih r N ops i o b (σ i) (V i) (σ (i+1))
def kE(P:Program)(ops:Array Oper)(σ:Nat->DSt)(i:Nat):Prop:=∃o,ops[i]?=some o/\eL ops o (σ i).T=some true/\tH P o.op=.ef
def kA(P:Program)(ops:Array Oper)(σ:Nat->DSt)(i:Nat):Prop:=∃o,ops[i]?=some o/\eL ops o (σ i).T=some true/\tH P o.op=.nw
section tra
variable {ops:Array Oper} {bs:List (List Nat)} {σ:Nat->DSt} {V:Nat->Value}
theorem Tra.bef(h:Tra P G ih r N ops bs σ V)(ho:ops[i]?=some o):∃b,bs[i]?=some b:=by
 have h1:=(eb.1 ho).1;exact⟨_,aaP (by rw[h.st.len];exact h1)⟩
theorem Tra.at(h:Tra P G ih r N ops bs σ V)(hi:i<ops.size):∃o b,ops[i]?=some o/\bs[i]?=some b/\DK P G ih r N ops i o b (σ i) (V i) (σ (i+1)):=by
 have ho:ops[i]?=some ops[i]:=abn hi;obtain⟨b,hb⟩:=h.bef ho;exact⟨_,b,ho,hb,h.stp i _ b ho hb⟩
theorem Tra.notE(h:Tra P G ih r N ops bs σ V)(hi:i<ops.size)(hn:¬ kE P ops σ i):(σ (i+1)).H=(σ i).H/\(σ (i+1)).stg=(σ i).stg:=by
 obtain⟨o,b,ho,hb,hk⟩:=h.at hi;generalize US:σ (i+1)=s' at hk ⊢;generalize V i=v at hk;cases hk with
 |ef v H' n' T hw hc _ _=>exact(hn ⟨o,ho,hw,hc⟩).elim
 |_=>exact⟨rfl,rfl⟩
theorem Tra.notA(h:Tra P G ih r N ops bs σ V)(hi:i<ops.size)(hn:¬ kE P ops σ i)(hn2:¬ kA P ops σ i):(σ (i+1)).pend=(σ i).pend/\(σ (i+1)).n=(σ i).n:=by
 obtain⟨o,b,ho,hb,hk⟩:=h.at hi;generalize US:σ (i+1)=s' at hk ⊢;generalize V i=v at hk;cases hk with
 |ef v H' n' T hw hc _ _=>exact(hn ⟨o,ho,hw,hc⟩).elim
 |nw bl m T hw hc _ _=>exact(hn2 ⟨o,ho,hw,hc⟩).elim
 |_=>exact⟨rfl,rfl⟩
theorem Tra.isA(h:Tra P G ih r N ops bs σ V)(hA:kA P ops σ i):∃o bl m,ops[i]?=some o/\tX P o (σ i).T=some (bl,m)/\V i=m.val (σ i).n/\(σ (i+1)).n=(σ i).n+1/\(σ (i+1)).pend=(σ i).pend++[((σ i).n,bl)]:=by
 obtain⟨o,ho,hw,hc⟩:=hA;obtain⟨b,hb⟩:=h.bef ho;have hk:=h.stp i o b ho hb;generalize US:σ (i+1)=s' at hk ⊢;generalize hv:V i=v at hk ⊢;cases hk with
 |no T hw' _=>rw[hw] at hw';cases hw'
 |pu v T _ VU _ _=>rw[hc] at VU;cases VU
 |lo v T _ VU _ _=>rw[hc] at VU;cases VU
 |ef v H' n' T _ VU _ _=>rw[hc] at VU;cases VU
 |nw bl m T _ _ hn _=>exact⟨o,bl,m,ho,hn,rfl,rfl,rfl⟩
theorem Tra.isE(h:Tra P G ih r N ops bs σ V)(hE:kE P ops σ i):∃o b,ops[i]?=some o/\bs[i]?=some b/\tH P o.op=.ef/\eL ops o (σ i).T=some true/\kl P G ih r o (σ i).T (iu (σ i).H (σ i).pend) (σ i).n=some (.val (V i) (σ (i+1)).H (σ (i+1)).n)/\(σ (i+1)).pend=[]/\(σ (i+1)).stg=(σ i).stg++[(i,b,(σ (i+1)).H)]:=by
 obtain⟨o,ho,hw,hc⟩:=hE;obtain⟨b,hb⟩:=h.bef ho;have hk:=h.stp i o b ho hb;generalize US:σ (i+1)=s' at hk ⊢;generalize hv:V i=v at hk ⊢;cases hk with
 |no T hw' _=>rw[hw] at hw';cases hw'
 |pu v T _ VU _ _=>rw[hc] at VU;cases VU
 |lo v T _ VU _ _=>rw[hc] at VU;cases VU
 |nw bl m T _ VU _ _=>rw[hc] at VU;cases VU
 |ef v H' n' T _ _ iN _=>exact⟨o,b,ho,hb,hc,hw,iN,rfl,rfl⟩
theorem Tra.put(h:Tra P G ih r N ops bs σ V)(ho:ops[i]?=some o):fy N o.dst (V i) (σ i).T=some (σ (i+1)).T:=by
 obtain⟨b,hb⟩:=h.bef ho;have hk:=h.stp i o b ho hb;generalize US:σ (i+1)=s' at hk ⊢;generalize hv:V i=v at hk ⊢;cases hk <;> assumption
theorem Tra.nle(h:Tra P G ih r N ops bs σ V)(AI:kY P G ih)(hi:i<ops.size):(σ i).n<=(σ (i+1)).n:=by
 obtain⟨o,b,ho,hb,hk⟩:=h.at hi;generalize US:σ (i+1)=s' at hk ⊢;generalize hv:V i=v at hk;cases hk with
 |ef v H' n' T hw hc iN _=>exact MZ AI iN
 |nw bl m T _ _ _ _=>exact adZ _
 |_=>exact aaI _
theorem Tra.nles(h:Tra P G ih r N ops bs σ V)(AI:kY P G ih):∀ {i j:Nat},i<=j->j<=ops.size->(σ i).n<=(σ j).n:=by
 intro i j hij
 induction j with
 |zero=>
  intro _;obtain rfl:i=0:=by omega
  exact aaI _
 |succ j ihj=>
  intro hj;rcases aaV i (j+1) with e|e
  ·exact Nat.le_trans (ihj (by omega) (by omega)) (h.nle AI (by omega))
  ·obtain rfl:i=j+1:=by omega
   exact aaI _
theorem Tra.Hsame(h:Tra P G ih r N ops bs σ V):∀ {j:Nat},q<=j->j<=ops.size->(∀k,q<=k->k<j->¬ kE P ops σ k)->(σ j).H=(σ q).H/\(σ j).stg=(σ q).stg:=by
 intro j hq
 induction j with
 |zero=>
  intro _ _;obtain rfl:q=0:=by omega
  exact⟨rfl,rfl⟩
 |succ j ihj=>
  intro hj hn;rcases aaV q (j+1) with e|e
  ·obtain⟨h1,h2⟩:=ihj (by omega) (by omega) (λ k a b=>hn k a (by omega));obtain⟨h3,h4⟩:=h.notE (i:=j) (by omega) (hn j (by omega) (by omega));exact⟨h3.trans h1,h4.trans h2⟩
  ·obtain rfl:q=j+1:=by omega
   exact⟨rfl,rfl⟩
theorem Stat.dst(h:Stat P G ops bs)(ho:ops[i]?=some o)(IT:ops[j]?=some o')(hd:o.dst=some t)(Xb:o'.dst=some t):i=j:=by
 have key:∀ {i j:Nat} {o o':Oper},i<j->ops[i]?=some o->ops[j]?=some o'->o.dst=some t->o'.dst=some t->False:=by
  intro i j o o' hij ho IT hd Xb;have hb:∃b',bs[j]?=some b':=⟨_,aaP (by rw[h.len];exact(eb.1 IT).1)⟩;obtain⟨b',Ww⟩:=hb;have hp:=h.pair i j o o' b' hij ho IT Ww;unfold sN at hp;split at hp
  ·rw[hd,Xb] at hp;simp at hp
  ·split at hp
   ·cases hp
   ·split at hp
    ·rw[hd,Xb] at hp;simp at hp
    ·cases hp
 rcases ad8 i j with e|e|e
 ·exact(key e ho IT hd Xb).elim
 ·exact e
 ·exact(key e IT ho Xb hd).elim
theorem Tra.Tno(h:Tra P G ih r N ops bs σ V):∀ {i:Nat},i<=ops.size->(∀k o,k<i->ops[k]?=some o->o.dst≠some t)->cN (σ i).T t=cN (σ 0).T t:=by
 intro i
 induction i with
 |zero=>intro _ _;rfl
 |succ i ihi=>
  intro hi hn;obtain⟨o,b,ho,hb,hk⟩:=h.at (i:=i) (by omega);rw[(mj (h.put ho)).1 t,if_neg (hn i o (by omega) ho)];exact ihi (by omega) (λ k o hk=>hn k o (by omega))
theorem Tra.Tyes(h:Tra P G ih r N ops bs σ V)(ho:ops[j]?=some o)(hd:o.dst=some t):∀ {i:Nat},j<i->i<=ops.size->cN (σ i).T t=V j:=by
 intro i
 induction i with
 |zero=>intro hj;omega
 |succ i ihi=>
  intro hj hi;obtain⟨o',b,IT,hb,hk⟩:=h.at (i:=i) (by omega);rw[(mj (h.put IT)).1 t]
  by_cases e:i=j
  ·subst e;rw[ho] at IT;cases IT;rw[if_pos hd]
  ·rw[if_neg (λ Xb=>e (h.st.dst IT ho Xb hd))];exact ihi (by omega) (by omega)
inductive Rch:List Nat->AH->List (Nat×List Nat×AH)->List Nat->AH->List (Nat×List Nat×AH)->Prop
 |here (be:List Nat) (H:AH) (l:List (Nat×List Nat×AH)):Rch be H l be H l
 |next {be be' be'':List Nat} {H H' H'':AH} {e:Nat} {l l':List (Nat×List Nat×AH)}:Rch be' H' l be'' H'' l'->Rch be H ((e,be',H')::l) be'' H'' l'
theorem Rch.snoc{H H' h:AH}{e:Nat}{l l':List (Nat×List Nat×AH)}(hr:Rch be H l be' H' ((e,b,h)::l')):Rch be H l b h l':=by
 generalize hx:(e,b,h)::l'=x at hr
 induction hr with
 |here be H l=>subst hx;exact .next (.here _ _ _)
 |next _ ih=>exact .next (ih hx)
theorem FZ{d:DLd}{H H':AH}{l l':List (Nat×List Nat×AH)}(h:tY P d be H l=true)(hr:Rch be H l be' H' l'):d.i∈be'\/(∃e b h x,l'=(e,b,h)::x/\e∈d.b)\/S7 P d H'=true:=by
 induction hr with
 |here be H l=>
  cases l with
  |nil=>
   rw[tY] at h;split at h
   ·rename_i e;exact .inl (hZ.1 e)
   ·exact .inr (.inr h)
  |cons x l=>
   obtain⟨e,b,hh⟩:=x;rw[tY] at h;split at h
   ·rename_i e1;rw[Bool.or_eq_true] at e1;rcases e1 with e1|e1
    ·exact .inl (hZ.1 e1)
    ·exact .inr (.inl ⟨e,b,hh,l,rfl,hZ.1 e1⟩)
   ·split at h
    ·rename_i e2;exact .inr (.inr e2)
    ·cases h
 |next _ ih=>
  rw[tY] at h;split at h
  ·exact ih h
  ·split at h
   ·exact ih h
   ·cases h
theorem s9{H:AH}{stg:List (Nat×List Nat×AH)}:∀ {l:List DLd},Dk P H stg l=true->∀d∈l,tY P d [] H stg=true
 | [],_,d,hd=>by cases hd
 |x::l,h,d,hd=>by
  rw[Dk] at h;split at h
  ·rename_i e;rcases abs.1 hd with rfl|hd
   ·exact e
   ·exact s9 h d hd
  ·cases h
theorem Tra.rch(h:Tra P G ih r N ops bs σ V)(h0:(σ 0).stg=[]):∀ {i:Nat},i<=ops.size->∃be,(∀rest,Rch [] (σ 0).H ((σ i).stg++rest) be (σ i).H rest)/\(be=[]\/∃e,e<i/\kE P ops σ e/\bs[e]?=some be/\∀k,e<k->k<i->¬ kE P ops σ k):=by
 intro i
 induction i with
 |zero=>intro _;exact⟨[],λ rest=>by rw[h0];exact .here _ _ _,.inl rfl⟩
 |succ i ihi=>
  intro hi;obtain⟨be,h1,h2⟩:=ihi (by omega)
  by_cases hE:kE P ops σ i
  ·obtain⟨o,b,ho,hb,hc,hw,iN,hp,hs⟩:=h.isE hE;refine⟨b,λ rest=>?_,.inr ⟨i,by omega,hE,hb,λ k a b=>by omega⟩⟩;rw[hs,aaF];exact(h1 _).snoc
  ·obtain⟨e1,e2⟩:=h.notE (i:=i) (by omega) hE;refine⟨be,λ rest=>by rw[e1,e2];exact h1 rest,?_⟩;rcases h2 with h2|⟨e,g1,g2,g3,g4⟩
   ·exact .inl h2
   ·refine .inr ⟨e,by omega,g2,g3,λ k a b=>?_⟩;rcases aaV k i with hk|hk
    ·exact g4 k a hk
    ·obtain rfl:k=i:=by omega
     exact hE
theorem Tra.stgs(h:Tra P G ih r N ops bs σ V):∀ {j:Nat},q<=j->j<=ops.size->∃rest,(σ j).stg=(σ q).stg++rest/\(rest=[]\/∃e b hh l,rest=(e,b,hh)::l/\q<=e/\kE P ops σ e):=by
 intro j hq
 induction j with
 |zero=>
  intro _;obtain rfl:q=0:=by omega
  exact⟨[],by simp,.inl rfl⟩
 |succ j ihj=>
  intro hj;rcases aaV q (j+1) with e|e
  ·obtain⟨rest,h1,h2⟩:=ihj (by omega) (by omega)
   by_cases hE:kE P ops σ j
   ·obtain⟨o,b,ho,hb,hc,hw,iN,hp,hs⟩:=h.isE hE;refine⟨rest++[(j,b,(σ (j+1)).H)],by rw[hs,h1,aaF],.inr ?_⟩;rcases h2 with rfl|⟨e,b',hh,l,rfl,g2,g3⟩
    ·exact⟨j,b,_,[],rfl,by omega,hE⟩
    ·exact⟨e,b',hh,_,rfl,g2,g3⟩
   ·obtain⟨e1,e2⟩:=h.notE (i:=j) (by omega) hE;exact⟨rest,by rw[e2,h1],h2⟩
  ·obtain rfl:q=j+1:=by omega
   exact⟨[],by simp,.inl rfl⟩
theorem Tra.lds(h:Tra P G ih r N ops bs σ V){d:DLd}:∀ {j:Nat},i<=j->j<=ops.size->d∈(σ i).lds->d∈(σ j).lds:=by
 intro j hij
 induction j with
 |zero=>
  intro _ hd;obtain rfl:i=0:=by omega
  exact hd
 |succ j ihj=>
  intro hj hd;rcases aaV i (j+1) with e|e
  ·have h1:=ihj (by omega) (by omega) hd;obtain⟨o,b,ho,hb,hk⟩:=h.at (i:=j) (by omega);generalize US:σ (j+1)=s' at hk ⊢;generalize hv:V j=v at hk;cases hk <;> first|exact h1|exact aaE _ h1
  ·obtain rfl:i=j+1:=by omega
   exact hd
theorem Tra.opnd(h:Tra P G ih r N ops bs σ V)(ao4:tm.size=N)
  (dc:∀i b,S i->bs[i]?=some b->∀x∈b,S x)
  (tA:∀j o t,S j->ops[j]?=some o->o.dst=some t->∃v',tm[t]?=some v'/\VRi ν (V j) v')
  (tB:∀t,t<N->(∀j o,S j->ops[j]?=some o->o.dst≠some t)->∃v',tm[t]?=some v'/\VRi ν (cN (σ 0).T t) v')
  (tO:∀t,N<=t->cN (σ 0).T t=undef) (ho:ops[i]?=some o) (hb:bs[i]?=some b) (hi:¬ S i) (XL:∀x∈b,S x) {l:List Tmp} (hl:looks ops o=some l) (ht:t∈l) :
  (∃v',tm[t]?=some v'/\VRi ν (cN (σ i).T t) v')\/(tm[t]?=none/\cN (σ i).T t=undef):=by
 have him:i<ops.size:=(eb.1 ho).1
 by_cases hj:∃ (j:Nat) (o':Oper),ops[j]?=some o'/\o'.dst=some t
 ·obtain⟨j,o',IT,hd⟩:=hj;have hjm:j<ops.size:=(eb.1 IT).1;have htN:t<N:=(mj (h.put IT)).2 t hd;have uniq:∀k o2,ops[k]?=some o2->o2.dst=some t->k=j:=λ k o2 h1 h2=>h.st.dst h1 IT h2 hd;rcases ad8 j i with e|e|e
  ·have hp:=h.st.pair j i o' o b e IT ho hb
   by_cases hm:ko j b=true
   ·have hS:=XL j (hZ.1 hm);rw[h.Tyes IT hd e (by omega)];exact .inl (tA j o' t hS IT hd)
   ·exfalso;have hm':ko j b=false:=by simpa using hm
    have hmt:ko t l=true:=hZ.2 ht;obtain⟨l',Ya⟩:=(h.st.ok j o' IT).2;unfold sN at hp;rw[hm'] at hp;simp only[hl,Ya,hd] at hp;split at hp
    ·cases hp
    ·cases hdo:o.dst <;> simp[hdo,hmt] at hp
  ·subst e;rw[ho] at IT;cases IT;rw[h.Tno (by omega) (λ k o2 hk h1 h2=>by have:=uniq k o2 h1 h2;omega)];exact .inl (tB t htN (λ k o2 hS h1 h2=>by have:=uniq k o2 h1 h2;subst this;exact hi hS))
  ·obtain⟨b',Ww⟩:=h.bef IT;have hp:=h.st.pair i j o o' b' e ho IT Ww
   by_cases hm:ko i b'=true
   ·have hnS:¬ S j:=λ hS=>hi (dc j b' hS Ww i (hZ.1 hm));rw[h.Tno (by omega) (λ k o2 hk h1 h2=>by have:=uniq k o2 h1 h2;omega)];exact .inl (tB t htN (λ k o2 hS h1 h2=>by have:=uniq k o2 h1 h2;subst this;exact hnS hS))
   ·exfalso;have hm':ko i b'=false:=by simpa using hm
    have hmt:ko t l=true:=hZ.2 ht;obtain⟨l',Ya⟩:=(h.st.ok j o' IT).2;unfold sN at hp;rw[hm'] at hp;simp only[hl,Ya,hd] at hp;split at hp
    ·cases hp
    ·cases hdo:o.dst <;> simp[hdo,hmt] at hp
 ·have Wj:∀ (k:Nat) (o2:Oper),ops[k]?=some o2->o2.dst≠some t:=λ k o2 h1 h2=>hj ⟨k,o2,h1,h2⟩;rw[h.Tno (by omega) (λ k o2 _ h1=>Wj k o2 h1)];rcases aaV t N with e|e
  ·exact .inl (tB t e (λ k o2 _ h1=>Wj k o2 h1))
  ·exact .inr ⟨acf (by omega),tO t e⟩
theorem HR.mono(hH:HR ν H F w)(hl:ν.Le ν'):HR ν' H F w:=by
 have key:∀h b r K,bP H h=some b->ν' h=some (r,K)->ν h=some (r,K):=λ h b r K hb hν=>by
  obtain⟨r',K',o,h1,-⟩:=hH.blk h b hb;rw[hl _ _ h1] at hν;rw[h1,hν]
 exact⟨λ h b hb=>let ⟨r,K,o,h1,h2,h3⟩:=hH.blk h b hb;⟨r,K,o,hl _ _ h1,h2,h3.mono hl⟩,λ h1 h2 b1 b2 r K1 K2 e1 e2 e3 e4=>hH.inj _ _ _ _ _ _ _ e1 e2 (key _ _ _ _ e1 e3) (key _ _ _ _ e2 e4),hH.frm,λ h b r K e1 e2=>hH.apt h b r K e1 (key _ _ _ _ e1 e2)⟩
theorem HR.less{F':HL}(hH:HR ν H F w)(h:∀x∈F',x∈F):HR ν H F' w:=⟨hH.blk,hH.inj,λ x hx=>hH.frm x (h x hx),λ k b r K e1 e2 x hx=>hH.apt k b r K e1 e2 x (h x hx)⟩
theorem HR.place(hH:HR ν H F w){n r K:Nat}{b:AB}{o:Obj}(hn:ν n=some (r,K))(hr:w.heap[r]?=some o)(ho:OR ν K b o)(hF:∀x∈F,x.1≠r)(Yc:∀k b' r' K',bP H k=some b'->ν k=some (r',K')->r'≠r):HR ν (cM H n (some b)) F w:=by
 have At:∀k b',bP (cM H n (some b)) k=some b'->k≠n->bP H k=some b':=λ k b' hk DO=>by
  rw[dF,if_neg (Ne.symm DO)] at hk;exact hk
 refine⟨λ k b' hk=>?_,λ k1 k2 b1 b2 q K1 K2 h1 h2 h3 h4=>?_,hH.frm,λ k b' q K' hk hq x hx=>?_⟩
 ·by_cases e:k=n
  ·subst e;rw[dF,if_pos rfl] at hk;cases hk;exact⟨r,K,o,hn,hr,ho⟩
  ·exact hH.blk k b' (At k b' hk e)
 ·by_cases e1:k1=n
  ·by_cases e2:k2=n
   ·rw[e1,e2]
   ·subst e1;rw[hn] at h3;cases h3;exact(Yc _ _ _ _ (At _ _ h2 e2) h4 rfl).elim
  ·by_cases e2:k2=n
   ·subst e2;rw[hn] at h4;cases h4;exact(Yc _ _ _ _ (At _ _ h1 e1) h3 rfl).elim
   ·exact hH.inj _ _ _ _ _ _ _ (At _ _ h1 e1) (At _ _ h2 e2) h3 h4
 ·by_cases e:k=n
  ·subst e;rw[hn] at hq;cases hq;exact hF x hx
  ·exact hH.apt _ _ _ _ (At _ _ hk e) hq x hx
theorem zB(H:AH):∀ (l:List (Nat×AB)) (h:Nat) (b:AB),iu H (l++[(h,b)])=cM (iu H l) h (some b):=by
 intro l
 induction l generalizing H with
 |nil=>intro h b;rfl
 |cons x l ih=>obtain⟨h',b'⟩:=x;intro h b;exact ih _ h b
theorem J3(a:Act)(dst:Option Tmp)(v:Value)(t:Nat):(a.put dst v).tmps[t]?=if dst=some t then (if t<a.tmps.size then some v else none) else a.tmps[t]?:=by
 cases dst with
 |none=>simp[Act.put]
 |some d=>
  simp only[Act.put,de];rw[ac5]
  by_cases e:d=t
  ·subst e;simp
  ·simp[e]
theorem J4(a:Act)(dst:Option Tmp)(v:Value):(a.put dst v).tmps.size=a.tmps.size:=by cases dst <;> simp[Act.put]
structure Pen(P:Program)(ops:Array Oper)(σ:Nat->DSt)(S:Nat->Prop)(F:HL)(ν:Nu)(w:World)(q:Nat)(βb βK:Nat->Nat)(βo:Nat->Obj):Prop where
 be:∀k,kA P ops σ k->S k->q<=k->ν (σ k).n=some (βb k,βK k)/\w.heap[βb k]?=some (βo k)/\∀o bl m,ops[k]?=some o->tX P o (σ k).T=some (bl,m)->OR ν (βK k) bl (βo k)
 bi:∀k k',kA P ops σ k->S k->q<=k->kA P ops σ k'->S k'->q<=k'->k≠k'->βb k≠βb k'
 bf:∀k,kA P ops σ k->S k->q<=k->∀x∈F,x.1≠βb k
 bh:∀k,kA P ops σ k->S k->q<=k->∀h b r K,bP (σ q).H h=some b->ν h=some (r,K)->r≠βb k
theorem Tra.placed(h:Tra P G ih r N ops bs σ V)(hp:Pen P ops σ S F ν w q βb βK βo)(hH:HR ν (σ q).H F w)(hq0:(σ q).pend=[]):∀ {j:Nat},q<=j->j<=ops.size->(∀k,q<=k->k<j->¬ kE P ops σ k)->(∀k,q<=k->k<j->kA P ops σ k->S k)->
  HR ν (iu (σ q).H (σ j).pend) F w/\∀hd b r K,bP (iu (σ q).H (σ j).pend) hd=some b->ν hd=some (r,K)->∀k,kA P ops σ k->S k->j<=k->r≠βb k:=by
 intro j hq
 induction j with
 |zero=>
  intro _ _ _;obtain rfl:q=0:=by omega
  rw[hq0];exact⟨hH,λ hd b r K e1 e2 k k1 k2 k3=>hp.bh k k1 k2 k3 hd b r K e1 e2⟩
 |succ j ihj=>
  intro hj hnE hA;rcases aaV q (j+1) with e|e
  ·obtain⟨g1,g2⟩:=ihj (by omega) (by omega) (λ k a b=>hnE k a (by omega)) (λ k a b=>hA k a (by omega));have hE:=hnE j (by omega) (by omega)
   by_cases hAj:kA P ops σ j
   ·obtain⟨o,bl,m,ho,hn,hv,hnn,hpd⟩:=h.isA hAj;have hS:=hA j (by omega) (by omega) hAj;obtain⟨b1,b2,b3⟩:=hp.be j hAj hS (by omega);rw[hpd,zB];refine⟨g1.place b1 b2 (b3 o bl m ho hn) (hp.bf j hAj hS (by omega)) (λ k b' r' K' e1 e2=>g2 k b' r' K' e1 e2 j hAj hS (aaI _)),λ hd b r K e1 e2 k k1 k2 k3=>?_⟩;rw[dF] at e1;split at e1
    ·rename_i e3;subst e3;rw[b1] at e2;cases e2;exact hp.bi j k hAj hS (by omega) k1 k2 (by omega) (by omega)
    ·exact g2 hd b r K e1 e2 k k1 k2 (by omega)
   ·obtain⟨e1,e2⟩:=h.notA (i:=j) (by omega) hE hAj;rw[e1];exact⟨g1,λ hd b r K e1 e2 k k1 k2 k3=>g2 hd b r K e1 e2 k k1 k2 (by omega)⟩
  ·obtain rfl:q=j+1:=by omega
   rw[hq0];exact⟨hH,λ hd b r K e1 e2 k k1 k2 k3=>hp.bh k k1 k2 k3 hd b r K e1 e2⟩
abbrev jy(listed:Array Bool)(j:Nat):Prop:=listed.getD j false=true
structure DInv(P:Program)(G N:Nat)(ops:Array Oper)(bs:List (List Nat))(σ:Nat->DSt)(V:Nat->Value)(F:HL)(ν0:Nu)(D0:List Deferred)(r r':Option Nat)(w0:World)(listed:Array Bool)(ν:Nu)(a:Act)(w:World)(q:Nat)(βb βK:Nat->Nat)(βo:Nat->Obj):Prop where
 sz:listed.size=ops.size
 dc:∀ (i:Nat) (b:List Nat),jy listed i->bs[i]?=some b->∀x∈b,jy listed x
 g:Glb ν G
 rr:RR ν r r'
 tsz:a.tmps.size=N
 tA:∀ (j:Nat) (o:Oper) (t:Tmp),jy listed j->ops[j]?=some o->o.dst=some t->∃v',a.tmps[t]?=some v'/\VRi ν (V j) v'
 tB:∀ (t:Tmp),t<N->(∀ (j:Nat) (o:Oper),jy listed j->ops[j]?=some o->o.dst≠some t)->∃v',a.tmps[t]?=some v'/\VRi ν (cN (σ 0).T t) v'
 fr:∀j,j<ops.size->¬ jy listed j->Fr ν (σ j).n (σ (j+1)).n
 ex:Ext ν0 ν (σ 0).n (σ ops.size).n
 d:DsR ν D0 a.defers
 qq:q<=ops.size/\(q=0\/∃e,q=e+1/\kE P ops σ e/\jy listed e)
 qe:∀e,kE P ops σ e->(jy listed e↔e<q)
 h:HR ν (σ q).H F w
 pen:Pen P ops σ (jy listed) F ν w q βb βK βo
 bw:Below 0 w0 w
theorem M3(hi:i<listed.size):jy (listed.setIfInBounds i true) j↔(jy listed j\/j=i):=by
 unfold jy
 by_cases e:i=j
 ·subst e;simp[UV,hi]
 ·rw[getD_set_ne _ e];constructor
  ·exact .inl
  ·rintro(h|h)
   ·exact h
   ·exact(e h.symm).elim
theorem DInv.step(h:Tra P G ih r N ops bs σ V)(I:DInv P G N ops bs σ V F ν0 D0 r r' w0 listed ν a w q βb βK βo) (ho:ops[i]?=some o) (hb:bs[i]?=some b) (hi:¬ jy listed i) (XL:∀x∈b,jy listed x) (hl:ν.Le ν') (hv:VRi ν' (V i) v') {q':Nat} {βb' βK':Nat->Nat} {βo':Nat->Obj}
  (Yc:∀j,j<ops.size->¬ jy listed j->j≠i->Fr ν' (σ j).n (σ (j+1)).n) (hex:Ext ν0 ν' (σ 0).n (σ ops.size).n)
  (hq:q'<=ops.size/\(q'=0\/∃e,q'=e+1/\kE P ops σ e/\(jy listed e\/e=i))) (hqe:∀e,kE P ops σ e->((jy listed e\/e=i)↔e<q'))
  (hH:HR ν' (σ q').H F w') (aa5:Pen P ops σ (λ j=>jy listed j\/j=i) F ν' w' q' βb' βK' βo') (hw:Below 0 w w') :
  DInv P G N ops bs σ V F ν0 D0 r r' w0 (listed.setIfInBounds i true) ν' (a.put o.dst v') w' q' βb' βK' βo':=by
 have him:i<ops.size:=(eb.1 ho).1;have XJ:i<listed.size:=by rw[I.sz];exact him
 have hS:∀j,jy (listed.setIfInBounds i true) j↔(jy listed j\/j=i):=λ j=>M3 XJ;have hdN:∀d,o.dst=some d->d<N:=(mj (h.put ho)).2;refine⟨by simpa using I.sz,λ j b' hj Ww x hx=>?_,I.g.mono hl,I.rr.mono hl,by rw[J4];exact I.tsz,λ j o' t hj IT hd=>?_,λ t ht Wj=>?_,λ j hj hnj=>?_,hex,by rw[fS];exact I.d.mono hl,?_,λ e he=>?_,hH,?_,I.bw.trans hw⟩
 ·rw[hS] at hj ⊢;rcases hj with hj|rfl
  ·exact .inl (I.dc j b' hj Ww x hx)
  ·rw[hb] at Ww;cases Ww;exact .inl (XL x hx)
 ·rw[hS] at hj;rw[J3];rcases hj with hj|rfl
  ·have DO:o.dst≠some t:=λ e=>by
    have:=h.st.dst ho IT e hd;subst this;exact hi hj
   rw[if_neg DO];obtain⟨v2,e1,e2⟩:=I.tA j o' t hj IT hd;exact⟨v2,e1,e2.mono hl⟩
  ·rw[ho] at IT;cases IT;rw[if_pos hd,if_pos (by rw[I.tsz];exact hdN t hd)];exact⟨v',rfl,hv⟩
 ·rw[J3,if_neg (Wj i o ((hS i).2 (.inr rfl)) ho)];obtain⟨v2,e1,e2⟩:=I.tB t ht (λ j o' hj IT=>Wj j o' ((hS j).2 (.inl hj)) IT);exact⟨v2,e1,e2.mono hl⟩
 ·rw[hS] at hnj;exact Yc j hj (λ e=>hnj (.inl e)) (λ e=>hnj (.inr e))
 ·refine⟨hq.1,?_⟩;rcases hq.2 with e|⟨e,h1,h2,h3⟩
  ·exact .inl e
  ·exact .inr ⟨e,h1,h2,(hS e).2 h3⟩
 ·rw[hS];exact hqe e he
 ·exact⟨λ k k1 k2 k3=>aa5.be k k1 ((hS k).1 k2) k3,λ k k' k1 k2 k3 k4 k5 k6=>aa5.bi k k' k1 ((hS k).1 k2) k3 k4 ((hS k').1 k5) k6,λ k k1 k2 k3=>aa5.bf k k1 ((hS k).1 k2) k3,λ k k1 k2 k3=>aa5.bh k k1 ((hS k).1 k2) k3⟩
theorem DInv.still(h:Tra P G ih r N ops bs σ V)(I:DInv P G N ops bs σ V F ν0 D0 r r' w0 listed ν a w q βb βK βo) (ho:ops[i]?=some o) (hb:bs[i]?=some b) (hi:¬ jy listed i) (XL:∀x∈b,jy listed x) (hv:VRi ν (V i) v') (hnE:¬ kE P ops σ i) (hnA:¬ kA P ops σ i) :
  DInv P G N ops bs σ V F ν0 D0 r r' w0 (listed.setIfInBounds i true) ν (a.put o.dst v') w q βb βK βo:=by
 refine I.step h ho hb hi XL (Nu.Le.refl _) hv (λ j hj hnj _=>I.fr j hj hnj) I.ex ⟨I.qq.1,?_⟩ (λ e he=>?_) I.h ?_ (go _ _)
 ·rcases I.qq.2 with e|⟨e,h1,h2,h3⟩
  ·exact .inl e
  ·exact .inr ⟨e,h1,h2,.inl h3⟩
 ·rw[<- I.qe e he];constructor
  ·rintro(h1|h1)
   ·exact h1
   ·subst h1;exact(hnE he).elim
  ·exact .inl
 ·have key:∀k,kA P ops σ k->(jy listed k\/k=i)->jy listed k:=λ k k1 k2=>by
   rcases k2 with k2|k2
   ·exact k2
   ·subst k2;exact(hnA k1).elim
  exact⟨λ k k1 k2 k3=>I.pen.be k k1 (key k k1 k2) k3,λ k k' k1 k2 k3 k4 k5 k6=>I.pen.bi k k' k1 (key k k1 k2) k3 k4 (key k' k4 k5) k6,λ k k1 k2 k3=>I.pen.bf k k1 (key k k1 k2) k3,λ k k1 k2 k3=>I.pen.bh k k1 (key k k1 k2) k3⟩
theorem J5(h:oz G o=true):∃l,jk o.op=some l/\tW G l=true:=by
 unfold oz at h;split at h
 ·rename_i l hl;exact⟨l,hl,h⟩
 ·cases h
theorem vp{t:Tmp}:∀ {l:List Operand},Operand.tmp t∈l->t∈sM l
 | [],h=>by cases h
 |x::l,h=>by
  rcases abs.1 h with e|h'
  ·subst e;rw[sM];exact aaD
  ·have:=vp h';cases x with
   |tmp t'=>exact aaE _ this
   |const v=>exact this
   |global g=>exact this
   |func f=>exact this
theorem F1{l:List Operand}(hl:jk o.op=some l)(h:looks ops o=some lk):∀t∈sM l,t∈lk:=by
 intro t ht;unfold looks at h;rw[hl] at h;simp only at h;split at h
 ·cases h;exact ht
 ·split at h
  ·cases h;exact aaE _ ht
  ·cases h
theorem zC(h:looks ops o=some lk){want:Bool}(hg:o.guard=some (j,want)){d:Tmp}(hd:(ops[j]?).bind (·.dst)=some d):d∈lk:=by
 unfold looks at h;split at h
 ·cases h
 rw[hg] at h;simp only[hd] at h;cases h;exact aaD
theorem F3{b:Bool}(hv:∀j want,o.guard=some (j,want)->∀d,(ops[j]?).bind (·.dst)=some d->(∃v',tm[d]?=some v'/\VRi ν (cN T d) v')\/(tm[d]?=none/\cN T d=undef))(h:eL ops o T=some b):Region.wanted o (yielded ops tm)=b:=by
 unfold eL at h;unfold Region.wanted;split at h
 ·rename_i hg;rw[hg];cases h;rfl
 ·rename_i j want hg;rw[hg];simp only;split at h
  case h_2=>cases h
  rename_i d hd;have hy:yielded ops tm j=match tm[d]? with|some (.bool b)=>some b|_=>none:=by
   unfold yielded;rw[hd];rfl
  have hv:=hv j want hg d hd;rw[hy];split at h
  ·rename_i b' hb;cases h;rcases hv with ⟨v',e1,e2⟩|⟨e1,e2⟩
   ·rw[hb] at e2;rw[e2.plain_eq rfl] at e1;rw[e1];simp
   ·rw[hb] at e2;cases e2
  ·rename_i vs hb;cases h;rcases hv with ⟨v',e1,e2⟩|⟨e1,e2⟩
   ·rw[hb] at e2;rw[e1];cases e2 with
    |atom _ h=>simp[cw] at h
    |tuple _ _=>rfl
   ·rw[e1];rfl
  ·cases h
theorem wP(h:tH P o.op=.ef):isE P o=true:=by unfold isE;rw[h]
theorem J6(h:tH P o.op=.nw):isN P o=true:=by unfold isN;rw[h]
theorem Stat.before(h:Stat P G ops bs){k:Nat}{b':List Nat}(hkj:k<j)(ho:ops[k]?=some o)(IT:ops[j]?=some o')(Ww:bs[j]?=some b')(hE:isE P o'=true)(hK:(isE P o || isN P o)=true):k∈b':=by
 have hp:=h.pair k j o o' b' hkj ho IT Ww
 by_cases hm:ko k b'=true
 ·exact hZ.1 hm
 ·have hm':ko k b'=false:=by simpa using hm
  unfold sN at hp;rw[hm'] at hp;simp only[hE,hK] at hp;cases hp
theorem Tra.op(h:Tra P G ih r N ops bs σ V)(AI:kY P G ih)(acU:∀d∈(σ ops.size).lds,tY P d [] (σ 0).H (σ ops.size).stg=true)(h0s:(σ 0).stg=[])(h0p:(σ 0).pend=[])(hTO:∀t,N<=t->cN (σ 0).T t=undef) (I:DInv P G N ops bs σ V F ν0 D0 r r' w0 listed ν a w q βb βK βo) (ho:ops[i]?=some o) (hb:bs[i]?=some b) (hi:¬ jy listed i) (XL:∀x∈b,jy listed x)
  {K:Act->World->Prop} (hK:∀ν' a' w' q' βb' βK' βo',DInv P G N ops bs σ V F ν0 D0 r r' w0 (listed.setIfInBounds i true) ν' a' w' q' βb' βK' βo'->K a' w'):wpOpIn (Wr r') 0 P ops Q i K a w:=by
 have him:i<ops.size:=(eb.1 ho).1;obtain⟨aiL,lk,hlk⟩:=h.st.ok i o ho;obtain⟨l,hl,hk⟩:=J5 aiL;have ID:∀t∈lk,(∃v',a.tmps[t]?=some v'/\VRi ν (cN (σ i).T t) v')\/(a.tmps[t]?=none/\cN (σ i).T t=undef):=λ t ht=>h.opnd I.tsz I.dc I.tA I.tB hTO ho hb hi XL hlk ht;have dO:OK ν (σ i).T a l:=λ x hx=>by
  cases x with
  |tmp t=>
   show VRi ν (cN (σ i).T t) (a.tmps.getD t undef);rcases ID t (F1 hl hlk t (vp hx)) with ⟨v',e1,e2⟩|⟨e1,e2⟩
   ·simpa [UV,e1] using e2
   ·rw[e2,UV,e1];exact aaA
  |const v=>exact .plain_refl _ (sT hk _ hx)
  |global g=>
   obtain⟨K,e⟩:=I.g g (dN (sT hk _ hx));exact .ptr 0 e
  |func f=>exact .func (.func f) rfl (by simp) rfl (by simp)
 have Xn:∀bb,eL ops o (σ i).T=some bb->Region.wanted o (yielded ops a.tmps)=bb:=λ bb hw=>F3 (λ j want hg d hd=>ID d (zC hlk hg hd)) hw;have hA:∀f,o.about P w a.eval=some f->(Wr r').fn f:=λ _ _=>trivial;have hkd:=h.stp i o b ho hb;have VD:∀ {o2:Oper},ops[i]?=some o2->o2=o:=λ e=>by rw[ho] at e;cases e;rfl
 have hqi:tH P o.op=.nw->q<=i:=λ hc=>by
  rcases I.qq.2 with e|⟨e,h1,⟨oe,h2,h3,h4⟩,h5⟩
  ·omega
  ·rcases aaV i e with h6|h6
   ·obtain⟨be,hbe⟩:=h.bef h2;have:=h.st.before h6 ho h2 hbe (wP h4) (by rw[J6 hc];simp);exact(hi (I.dc e be h5 hbe i this)).elim
   ·rcases aaV e i with h7|h7
    ·omega
    ·obtain rfl:e=i:=by omega
     exact(hi h5).elim
 unfold wpOpIn;rw[ho];simp only;generalize US:σ (i+1)=s' at hkd;generalize hv:V i=v at hkd;cases hkd with
 |no T1 hw hp=>
  rw[if_neg (by rw[Xn _ hw];simp)];refine⟨hA,hK _ _ _ _ _ _ _ (I.still h ho hb hi XL (by rw[hv];exact aaA) ?_ ?_)⟩
  ·rintro⟨o2,h1,h2,-⟩;rw[VD h1,hw] at h2;cases h2
  ·rintro⟨o2,h1,h2,-⟩;rw[VD h1,hw] at h2;cases h2
 |pu v T1 hw hc hpv hp=>
  rw[if_pos (Xn _ hw)];have W_:∀c,o.op≠ .defer c:=λ c e=>by rw[e] at hc;cases hc
  obtain⟨v',e1,e2⟩:=zo hpv (mP hl W_) dO;refine⟨hA,?_⟩;rw[Oper.semAt_eq _ _ _ W_,e2 w,Oper.uponIn_value];refine hK _ _ _ _ _ _ _ (I.still h ho hb hi XL (by rw[hv];exact e1) ?_ ?_)
  ·rintro⟨o2,h1,h2,h3⟩;rw[VD h1,hc] at h3;cases h3
  ·rintro⟨o2,h1,h2,h3⟩;rw[VD h1,hc] at h3;cases h3
 |lo v T1 hw hc hpv hp=>
  rw[if_pos (Xn _ hw)];have W_:∀c,o.op≠ .defer c:=λ c e=>by rw[e] at hc;cases hc
  have hld:(⟨i,o,b,(σ i).T,v⟩:DLd)∈(σ ops.size).lds:=h.lds (i:=i+1) (by omega) (aaI _) (by rw[US];exact aaD);have hch:=acU _ hld;obtain⟨be,g1,g2⟩:=h.rch h0s I.qq.1;obtain⟨rest,g3,g4⟩:=h.stgs I.qq.1 (aaI _);rw[g3] at hch;have O_:jJ P o (σ i).T (σ q).H=some v:=by
   rcases FZ hch (g1 rest) with c1|⟨e,bb,hh,x,c1,c2⟩|c1
   ·exfalso;simp only at c1;rcases g2 with rfl|⟨e,f1,f2,f3,f4⟩
    ·cases c1
    ·exact hi (I.dc e be ((I.qe e f2).2 f1) f3 i c1)
   ·exfalso;simp only at c2;rcases g4 with g4|⟨e',b',hh',l',g5,g6,g7⟩
    ·rw[g4] at c1;cases c1
    ·rw[g5] at c1;cases c1;have:=(I.qe e g7).1 (XL e c2);omega
   ·unfold S7 at c1;simp only at c1;split at c1
    ·rename_i v2 hv2;rw[hv2,<- Cd _ _ c1]
    ·cases c1
  obtain⟨v',e1,e2⟩:=zu I.h O_ (mP hl W_) dO;refine⟨hA,?_⟩;rw[Oper.semAt_eq _ _ _ W_,e2,Oper.uponIn_value];refine hK _ _ _ _ _ _ _ (I.still h ho hb hi XL (by rw[hv];exact e1) ?_ ?_)
  ·rintro⟨o2,h1,h2,h3⟩;rw[VD h1,hc] at h3;cases h3
  ·rintro⟨o2,h1,h2,h3⟩;rw[VD h1,hc] at h3;cases h3
 |nw bl m T1 hw hc hnv hp=>
  rw[if_pos (Xn _ hw)];have W_:∀c,o.op≠ .defer c:=λ c e=>by rw[e] at hc;cases hc
  obtain⟨e1,e2,o',e3,e4⟩:=Dn hnv (mP hl W_) dO;refine⟨hA,?_⟩;rw[Oper.semAt_eq _ _ _ W_,e4 w,Oper.uponIn_value];have U2:ν (σ i).n=none:=I.fr i him hi _ (aaI _) (by rw[US];exact Nat.lt_succ_self _);have hle:=kq (r:=w.heap.size) (K:=0) U2;have apf:=hqi hc;have hAi:kA P ops σ i:=⟨o,ho,hw,hc⟩;have UL:¬ kE P ops σ i:=by rintro⟨o2,h1,h2,h3⟩;rw[VD h1,hc] at h3;cases h3
  have IF:∀ {x y:Nat},x<=y->y<=ops.size->(σ x).n<=(σ y).n:=λ e1 e2=>h.nles AI e1 e2;have VE:(σ (i+1)).n=(σ i).n+1:=by rw[US]
  have abW:∀k,k<w.heap.size->(w.heap.push o')[k]?=w.heap[k]?:=λ k hk=>by rw[adW,if_neg (by omega)]
  refine hK (ν.upd (σ i).n w.heap.size 0) _ { w with heap:=w.heap.push o' } q (λ k=>if k=i then w.heap.size else βb k) (λ k=>if k=i then 0 else βK k) (λ k=>if k=i then o' else βo k) (I.step h ho hb hi XL hle (by rw[hv];exact JS e2 cf) (λ j hj hnj DO=>?_) ?_ ⟨I.qq.1,?_⟩ (λ e he=>?_) ?_ ?_ ⟨rfl,rfl,rfl,by simp,λ k hk=>by omega⟩)
  ·intro x x1 x2;rw[eO]
   ·exact I.fr j hj hnj x x1 x2
   ·intro ex;subst ex;rcases aaV j i with e|e
    ·have:=IF (x:=j+1) (y:=i) (by omega) (by omega);omega
    ·have h3:=IF (x:=i+1) (y:=j) (by omega) (by omega);omega
  ·have h1:=IF (x:=0) (y:=i) (by omega) (by omega);have h2:=IF (x:=i+1) (y:=ops.size) (by omega) (by omega);exact⟨I.ex.le,λ x hx=>by rw[eO (by omega)];exact I.ex.out x hx⟩
  ·rcases I.qq.2 with e|⟨e,h1,h2,h3⟩
   ·exact .inl e
   ·exact .inr ⟨e,h1,h2,.inl h3⟩
  ·rw[<- I.qe e he];constructor
   ·rintro(h1|h1)
    ·exact h1
    ·subst h1;exact(UL he).elim
   ·exact .inl
  ·exact(I.h.mono hle).world (λ k hk=>abW k hk)
  ·have At:∀k,(jy listed k\/k=i)->k≠i->jy listed k:=λ k k1 k2=>k1.resolve_right k2;have g_:∀k,kA P ops σ k->jy listed k->q<=k->βb k<w.heap.size:=λ k k1 k2 k3=>bX (I.pen.be k k1 k2 k3).2.1;refine⟨λ k k1 k2 k3=>?_,λ k k' k1 k2 k3 k4 k5 k6 k7=>?_,λ k k1 k2 k3 x hx=>?_,λ k k1 k2 k3 hd bb rr KK f1 f2=>?_⟩
   ·by_cases e:k=i
    ·subst e;simp only[if_true];refine⟨cf,by simp,λ o2 bl2 m2 h1 h2=>?_⟩;rw[VD h1,hnv] at h2;cases h2;exact(e3 0).mono hle
    ·simp only[if_neg e];obtain⟨f1,f2,f3⟩:=I.pen.be k k1 (At k k2 e) k3;exact⟨hle _ _ f1,by rw[abW _ (bX f2)];exact f2,λ o2 bl2 m2 h1 h2=>(f3 o2 bl2 m2 h1 h2).mono hle⟩
   ·by_cases e:k=i
    ·by_cases e':k'=i
     ·omega
     ·have:=g_ k' k4 (At k' k5 e') k6;simp only[if_pos e,if_neg e'];omega
    ·have h1:=g_ k k1 (At k k2 e) k3
     by_cases e':k'=i
     ·simp only[if_neg e,if_pos e'];omega
     ·simp only[if_neg e,if_neg e'];exact I.pen.bi k k' k1 (At k k2 e) k3 k4 (At k' k5 e') k6 k7
   ·by_cases e:k=i
    ·simp only[if_pos e];have:=bX (I.h.frm x hx);omega
    ·simp only[if_neg e];exact I.pen.bf k k1 (At k k2 e) k3 x hx
   ·by_cases e:k=i
    ·simp only[if_pos e];have:=(I.h.mono hle).lt f1 f2;omega
    ·simp only[if_neg e];obtain⟨r2,K2,o2,u1,-⟩:=I.h.blk _ _ f1;have f2':=hle _ _ u1;rw[f2] at f2';cases f2';exact I.pen.bh k k1 (At k k2 e) k3 hd bb rr KK f1 u1
 |ef v H' n' T1 hw hc iN hp=>
  rw[if_pos (Xn _ hw)];have IF:∀ {x y:Nat},x<=y->y<=ops.size->(σ x).n<=(σ y).n:=λ e1 e2=>h.nles AI e1 e2;have hEi:kE P ops σ i:=⟨o,ho,hw,hc⟩;have afm:q<=i:=by
   rcases aaV i q with e|e
   ·exact(hi ((I.qe i hEi).2 e)).elim
   ·exact e
  have WZ:∀k o2,k<i->ops[k]?=some o2->(Go.Proofs.YtogafelgppjklaaGreatDoor.isE P o2 || Go.Proofs.YtogafelgppjklaaGreatDoor.isN P o2)=true->jy listed k:=λ k o2 hk h1 h2=>XL k (h.st.before hk h1 ho hb (wP hc) h2);have ZA:∀k,q<=k->k<i->¬ kE P ops σ k:=λ k k1 k2 hk=>by
   obtain⟨o2,h1,h2,h3⟩:=hk;have hS:=WZ k o2 k2 h1 (by rw[wP h3];rfl);have:=(I.qe k ⟨o2,h1,h2,h3⟩).1 hS;omega
  have agc:∀k,q<=k->k<i->kA P ops σ k->jy listed k:=λ k k1 k2 hk=>by
   obtain⟨o2,h1,h2,h3⟩:=hk;exact WZ k o2 k2 h1 (by rw[J6 h3];simp)
  have hqp:(σ q).pend=[]:=by
   rcases I.qq.2 with e|⟨e,h1,h2,h3⟩
   ·rw[e];exact h0p
   ·rw[h1];obtain⟨_,_,_,_,_,_,_,g8,_⟩:=h.isE h2;exact g8
  obtain⟨p1,p2⟩:=h.placed I.pen I.h hqp afm (by omega) ZA agc;obtain⟨s1,s2⟩:=h.Hsame afm (by omega) ZA;rw[s1] at iN;have VE:(σ (i+1)).n=n':=by rw[US]
  have hH1:(σ (i+1)).H=H':=by rw[US]
  classical
  have hex:∃FA:HL,(∀k,kA P ops σ k->jy listed k->i<k->(βb k,Blk.obj (βo k))∈FA)/\(∀x∈FA,∃k,kA P ops σ k/\jy listed k/\i<k/\x=(βb k,Blk.obj (βo k))):=by
   refine⟨((List.range ops.size).filter (λ k=>decide (kA P ops σ k/\jy listed k/\i<k))).map λ k=>(βb k,Blk.obj (βo k)),λ k k1 k2 k3=>?_,λ x hx=>?_⟩
   ·refine abG.2 ⟨k,List.mem_filter.2 ⟨ad6.2 ?_,abk ⟨k1,k2,k3⟩⟩,rfl⟩;obtain⟨o2,h1,-⟩:=k1;exact(eb.1 h1).1
   ·obtain⟨k,h1,h2⟩:=abG.1 hx;obtain⟨-,h3⟩:=List.mem_filter.1 h1;have h4:kA P ops σ k/\jy listed k/\i<k:=aa9 h3;exact⟨k,h4.1,h4.2.1,h4.2.2,h2.symm⟩
  obtain⟨FA,fa1,fa2⟩:=hex;have hH2:HR ν (iu (σ q).H (σ i).pend) (FA++F) w:=by
   refine⟨p1.blk,p1.inj,λ x hx=>?_,λ hd bb rr KK f1 f2 x hx=>?_⟩
   ·rcases abM.1 hx with hx|hx
    ·obtain⟨k,k1,k2,k3,rfl⟩:=fa2 x hx;exact(I.pen.be k k1 k2 (by omega)).2.1
    ·exact p1.frm x hx
   ·rcases abM.1 hx with hx|hx
    ·obtain⟨k,k1,k2,k3,rfl⟩:=fa2 x hx;exact(p2 hd bb rr KK f1 f2 k k1 k2 (by omega)).symm
    ·exact p1.apt hd bb rr KK f1 f2 x hx
  obtain⟨-,hgo⟩:=wO (a:=a) (r':=r') AI I.g I.rr (λ l' Ya _=>by rw[hl] at Ya;cases Ya;exact dO) hH2 iN;have hfi:Fr ν (σ i).n n':=by rw[<- VE];exact I.fr i him hi
  refine hgo hfi _ _ (λ ν' v' w' k1 k2 k3 k4=>?_);have hle:=k2.sub hfi;have afU:∀j,j<ops.size->j≠i->∀x,(σ j).n<=x->x<(σ (j+1)).n->(x<(σ i).n\/n'<=x):=λ j hj DO x x1 x2=>by
   rcases aaV j i with e|e
   ·have:=IF (x:=j+1) (y:=i) (by omega) (by omega);omega
   ·have:=IF (x:=i+1) (y:=j) (by omega) (by omega);omega
  refine hK ν' _ w' (i+1) βb βK βo (I.step h ho hb hi XL hle (by rw[hv];exact k1) (λ j hj hnj DO x x1 x2=>?_) ?_ ⟨by omega,.inr ⟨i,rfl,hEi,.inr rfl⟩⟩ (λ e he=>?_) ?_ ?_ k4)
  ·rw[k2.out x (afU j hj DO x x1 x2)];exact I.fr j hj hnj x x1 x2
  ·have h1:=IF (x:=0) (y:=i) (by omega) (by omega);have h2:=IF (x:=i+1) (y:=ops.size) (by omega) (by omega);exact⟨I.ex.le,λ x hx=>by rw[k2.out x (by omega)];exact I.ex.out x hx⟩
  ·constructor
   ·rintro(h1|h1)
    ·have:=(I.qe e he).1 h1;omega
    ·omega
   ·intro h1
    by_cases e2:e=i
    ·exact .inr e2
    ·obtain⟨o2,u1,u2,u3⟩:=he;exact .inl (WZ e o2 (by omega) u1 (by rw[wP u3];rfl))
  ·rw[hH1];exact k3.less (λ x hx=>aaB _ hx)
  ·have At:∀k,(jy listed k\/k=i)->i+1<=k->jy listed k:=λ k u1 u2=>u1.resolve_right (by omega);refine⟨λ k u1 u2 u3=>?_,λ k k' u1 u2 u3 u4 u5 u6 u7=>I.pen.bi k k' u1 (At k u2 u3) (by omega) u4 (At k' u5 u6) (by omega) u7,λ k u1 u2 u3=>I.pen.bf k u1 (At k u2 u3) (by omega),λ k u1 u2 u3 hd bb rr KK f1 f2=>?_⟩
   ·obtain⟨f1,f2,f3⟩:=I.pen.be k u1 (At k u2 u3) (by omega);exact⟨hle _ _ f1,k3.frm _ (aaC _ (fa1 k u1 (At k u2 u3) (by omega))),λ o2 bl2 m2 h1 h2=>(f3 o2 bl2 m2 h1 h2).mono hle⟩
   ·rw[hH1] at f1;exact(k3.apt hd bb rr KK f1 f2 _ (aaC _ (fa1 k u1 (At k u2 u3) (by omega)))).symm
theorem Tra.all(h:Tra P G ih r N ops bs σ V)(RW:listed.size=ops.size)(hr:Region.ready .any ops listed=[]):∀i,i<ops.size->jy listed i:=by
 intro i
 induction i using Nat.strongRecOn with
 |_ i ihi=>
  intro hi
  by_cases hS:jy listed i
  ·exact hS
  ·exfalso;obtain⟨o,b,ho,hb,-⟩:=h.at hi;have hm:i∈Region.ready .any ops listed:=by
    refine mem_ready.2 ⟨?_,o,ho,λ e he hbd=>?_⟩
    ·have XJ:i<listed.size:=by omega
     unfold jy at hS;rw[UV,abn XJ] at hS ⊢;simpa using hS
    ·have g_:=h.st.dir i o b ho hb e he hbd;exact ihi _ g_ (by omega)
   rw[hr] at hm;cases hm
theorem DInv.fin(h:Tra P G ih r N ops bs σ V)(h0p:(σ 0).pend=[])(hTO:∀t,N<=t->cN (σ 0).T t=undef)(I:DInv P G N ops bs σ V F ν0 D0 r r' w0 listed ν a w q βb βK βo)(Q_:∀i,i<ops.size->jy listed i) :
  SR ν G N ⟨(σ ops.size).T,D0,iu (σ ops.size).H (σ ops.size).pend,(σ ops.size).n⟩ F a w:=by
 have g_:∀ {k:Nat} {o:Oper},ops[k]?=some o->k<ops.size:=λ h=>(eb.1 h).1;have ZA:∀k,q<=k->k<ops.size->¬ kE P ops σ k:=λ k k1 k2 hk=>by
  have:=(I.qe k hk).1 (Q_ k k2);omega
 have hqp:(σ q).pend=[]:=by
  rcases I.qq.2 with e|⟨e,h1,h2,h3⟩
  ·rw[e];exact h0p
  ·rw[h1];obtain⟨_,_,_,_,_,_,_,g8,_⟩:=h.isE h2;exact g8
 obtain⟨p1,-⟩:=h.placed I.pen I.h hqp I.qq.1 (aaI _) ZA (λ k k1 k2 _=>Q_ k k2);obtain⟨s1,-⟩:=h.Hsame I.qq.1 (aaI _) ZA;refine⟨I.g,⟨I.tsz,λ t ht=>?_,λ t ht=>?_⟩,I.d,by simp only;rw[s1];exact p1⟩
 ·by_cases hj:∃ (j:Nat) (o:Oper),ops[j]?=some o/\o.dst=some t
  ·obtain⟨j,o,ho,hd⟩:=hj;rw[h.Tyes ho hd (g_ ho) (aaI _)];exact I.tA j o t (Q_ j (g_ ho)) ho hd
  ·rw[h.Tno (aaI _) (λ k o _ h1 h2=>hj ⟨k,o,h1,h2⟩)];exact I.tB t ht (λ j o _ h1 h2=>hj ⟨j,o,h1,h2⟩)
 ·rw[h.Tno (aaI _) (λ k o _ h1 h2=>by
   exact absurd ((mj (h.put h1)).2 t h2) (Nat.not_lt.2 ht))]
  exact hTO t ht
theorem Tra.any(h:Tra P G ih r N ops bs σ V)(AI:kY P G ih)(acU:∀d∈(σ ops.size).lds,tY P d [] (σ 0).H (σ ops.size).stg=true)(h0s:(σ 0).stg=[])(h0p:(σ 0).pend=[])(hTO:∀t,N<=t->cN (σ 0).T t=undef) (hQ:∀ν a w,Ext ν0 ν (σ 0).n (σ ops.size).n->SR ν G N ⟨(σ ops.size).T,D0,iu (σ ops.size).H (σ ops.size).pend,(σ ops.size).n⟩ F a w->Below 0 w0 w->Q .normal a w) :
  ∀ (fuel:Nat) (listed:Array Bool) (ν:Nu) (a:Act) (w:World) (q:Nat) (βb βK:Nat->Nat) (βo:Nat->Obj),DInv P G N ops bs σ V F ν0 D0 r r' w0 listed ν a w q βb βK βo->listed.toList.count false<=fuel->wpAnyIn (Wr r') 0 P .any ops Q fuel listed a w:=by
 have done:∀ (listed:Array Bool) (ν:Nu) (a:Act) (w:World) (q:Nat) (βb βK:Nat->Nat) (βo:Nat->Obj),DInv P G N ops bs σ V F ν0 D0 r r' w0 listed ν a w q βb βK βo->Region.ready .any ops listed=[]->Q .normal a w:=λ listed ν a w q βb βK βo I hr=>
  hQ ν a w I.ex (I.fin h h0p hTO (h.all I.sz hr)) I.bw
 have unl:∀ (listed:Array Bool) (i:Nat),listed.size=ops.size->i∈Region.ready .any ops listed->∃XJ:i<listed.toList.length,listed.toList[i]=false:=λ listed i RW hi=>by
  obtain⟨h1,o,h2,-⟩:=mem_ready.1 hi;have him:=(eb.1 h2).1;have XJ:i<listed.size:=by omega
  refine⟨by simpa using XJ,?_⟩;rw[UV,abn XJ] at h1;simpa using h1
 intro fuel
 induction fuel with
 |zero=>
  intro listed ν a w q βb βK βo I hc;have hr:Region.ready .any ops listed=[]:=by
   cases hrr:Region.ready .any ops listed with
   |nil=>rfl
   |cons i l=>
    exfalso;obtain⟨XJ,e⟩:=unl listed i I.sz (by rw[hrr];exact aaD);have:0<listed.toList.count false:=List.count_pos_iff.2 (by rw[<- e];exact acY XJ);omega
  exact⟨hr,done _ _ _ _ _ _ _ _ I hr⟩
 |succ fuel ihf=>
  intro listed ν a w q βb βK βo I hc;refine⟨λ hr=>done _ _ _ _ _ _ _ _ I hr,λ i hi=>?_⟩;obtain⟨XJ,e⟩:=unl listed i I.sz hi;obtain⟨h1,o,ho,Q_⟩:=mem_ready.1 hi;obtain⟨b,hb⟩:=h.bef ho;have hnS:¬ jy listed i:=by
   unfold jy;have ajb:i<listed.size:=by simpa using XJ
   rw[UV,abn ajb];simpa using e
  have XL:∀x∈b,jy listed x:=λ x hx=>by
   obtain⟨ed,e1,e2,e3⟩:=h.st.dc i o b ho hb x hx;have hon:=Q_ ed e1 e2;rcases e3 with rfl|⟨b',e4,e5⟩
   ·exact hon
   ·exact I.dc _ b' hon e4 x e5
  refine h.op AI acU h0s h0p hTO I ho hb hnS XL (λ ν' a' w' q' βb' βK' βo' I'=>ihf _ _ _ _ _ _ _ _ I' ?_);have Xc:(listed.setIfInBounds i true).toList.count false=listed.toList.count false-1:=by
   rw[Array.toList_setIfInBounds,List.count_set XJ];simp[e]
  omega
end tra
theorem M4(AI:kY P G ih)(hm:P.follows .mixedOrders=true){id:Nat}{s s':St}(h:PO P G ih r N ops s=some s'):s.n<=s'.n/\∀ν F a w r' (Q:Exit->Act->World->Prop),RR ν r r'->SR ν G N s F a w->Fr ν s.n s'.n->
  (∀ν' a' w',Ext ν ν' s.n s'.n->SR ν' G N s' F a' w'->Below 0 w w'->Q .normal a' w')->(Code.region id ops true).wpIn (Wr r') 0 P Q a w:=by
 unfold PO at h;split at h
 ·cases h
 rename_i bs hbs;split at h
 ·cases h
 rename_i d hd;split at h
 case h_2=>cases h
 rename_i ajz;cases h;have iN:=zA hbs;obtain⟨σ,V,e0,e1,e2⟩:=s8 hd (by rw[iN.len];simp);have acC:ops.toList.length=ops.size:=by simp
 rw[abp,acC] at e1;have htr:Tra P G ih r N ops bs σ V:=⟨iN,λ i o b ho hb=>by
  obtain⟨h1,h2⟩:=eb.1 ho;obtain⟨b',g1,g2⟩:=e2 i (by rw[acC];exact h1);rw[g1] at hb;cases hb;rw[abp] at g2;have:ops.toList[i]'(by rw[acC];exact h1)=o:=by simpa using h2
  rw[this] at g2;exact g2⟩
 have IF:=htr.nles AI (aaJ ops.size) (aaI _);rw[e0,e1] at IF;refine⟨IF,λ ν F a w r' Q hr hs hf hk=>wpIn_region_any hm ?_⟩;have aiR:s.n<=d.n:=IF;have hf':Fr ν s.n d.n:=hf;have U2:(σ 0).n=s.n:=by rw[e0]
 have hnm:(σ ops.size).n=d.n:=by rw[e1]
 refine htr.any (F:=F) (ν0:=ν) (D0:=s.D) (w0:=w) (r':=r') AI (λ x hx=>?_) (by rw[e0]) (by rw[e0]) (λ t ht=>by rw[e0];exact hs.t.out t ht) (λ ν' a' w' k1 k2 k3=>?_) ops.size _ ν a _ 0 (λ _=>0) (λ _=>0) (λ _=>.deferred none) ?_ ?_
 ·rw[e1] at hx ⊢;rw[e0];exact s9 ajz x hx
 ·rw[e1] at k2;rw[U2,hnm] at k1;exact hk ν' a' w' k1 k2 k3
 ·have Wj:∀j,¬ jy (Array.replicate ops.size false) j:=λ j hj=>by
   unfold jy at hj;rw[UV,Array.getElem?_replicate] at hj;split at hj <;> simp at hj
  refine⟨by simp,λ i b hi _ _ _=>(Wj i hi).elim,hs.g,hr,hs.t.size,λ j o t hj _ _=>(Wj j hj).elim,λ t ht _=>by rw[e0];exact hs.t.get t ht,λ j hj _=>λ x x1 x2=>?_,⟨?_,λ _ _=>rfl⟩,hs.d,⟨aaJ _,.inl rfl⟩,λ e he=>⟨λ h=>(Wj e h).elim,λ h=>by omega⟩,?_,?_,?_⟩
  ·have h1:=htr.nles AI (aaJ j) (by omega);have h2:=htr.nles AI (i:=j+1) (j:=ops.size) (by omega) (aaI _);exact hf' x (by omega) (by omega)
  ·omega
  ·rw[e0];exact hs.h.world (λ k hk=>rfl)
  ·exact⟨λ k _ h2 _=>(Wj k h2).elim,λ k k' _ h2 _ _ _ _ _=>(Wj k h2).elim,λ k _ h2 _=>(Wj k h2).elim,λ k _ h2 _=>(Wj k h2).elim⟩
  ·exact⟨rfl,rfl,rfl,aaI _,λ _ _=>rfl⟩
 ·simp
end dr
end
section
variable {args:List Value} {as0 bo:Code} {b n:Nat} {e:Ex} {fn:FuncId} {o:Obj} {ps:Array Tmp} {res:Rs} {s s':St} {tm:Array Value}
section code
variable {ν ν':Nu} {P:Program} {G N:Nat} {T T':Tr Value} {a:Act} {H H':AH} {F:HL} {w w':World} {r r':Option Nat} {ih:Task->Option Rs}
theorem Ext.sub'{m k:Nat}(h1:Ext ν ν' n m)(hf:Fr ν n k)(hm:m<=k):ν.Le ν':=h1.sub λ i a b=>hf i a (by omega)
theorem zD(AI:kY P G ih){c:Code}(hc:∀ (s:St) e s',ju P G ih r N c s=some (e,s')->jS P G (.code r N c s) (.cd e s'))(h:ju P G ih r N (.loop c) s=some (e,s')):jS P G (.loop r N c s) (.cd e s'):=by
 rw[ju] at h;split at h
 ·rename_i s1 h1;obtain⟨q1,q2⟩:=hc _ _ _ h1;split at h
  ·rename_i e2 s2 h2;cases h;obtain⟨p1,p2⟩:=AI _ _ h2;refine⟨by omega,λ ν F a w r' Q hr hs hf hk=>zy ?_⟩;refine q2 ν F a w r' _ hr hs (λ i a b=>hf i a (by omega)) (λ ν' a' w' k1 k2 k3=>?_);have UE:=k1.sub' hf p1;exact p2 ν' F a' w' r' Q (hr.mono UE) k2 (k1.fr hf p1) (λ ν2 a2 w2 g1 g2 g3=>hk ν2 a2 w2 (k1.trans g1) g2 (k3.trans g3))
  ·cases h
 ·rename_i x DO;obtain⟨q1,q2⟩:=hc _ _ _ h;refine⟨q1,λ ν F a w r' Q hr hs hf hk=>zy ?_⟩;refine q2 ν F a w r' _ hr hs hf (λ ν' a' w' k1 k2 k3=>?_);have:=hk ν' a' w' k1 k2 k3;cases e with
  |normal=>exact(DO _ h).elim
  |exit id=>exact this
  |ret=>exact this
theorem J7{c:Code}{Q:Exit->Act->World->Prop}{a:Act}(h:Dl c=some e)(hq:Q e.out a w):c.wpIn (Wr r') 0 P Q a w:=by
 unfold Dl at h;split at h
 ·cases h;exact wpIn_ret hq
 ·cases h;exact wpIn_exit hq
 ·cases h
theorem Ce{w:World}:(Instr.enterLoop fn tm ps as0 bo none).run P w=
  .ok (w.heap.size+1,[{ target:=.collected w.heap.size,args:=#[] }]) { w with heap:=(w.heap.push (.deferred (some []))).push (.loop { state:=.ready,pending:=none,fn,tmps:=tm,params:=ps,assign:=as0,body:=bo,defers:=w.heap.size }) }:=by
 unfold Instr.enterLoop;simp only[aa8,fj,ci,aa7,Array.size_push]
theorem Cf{w:World}{l:Nat}{lp:Loop}(h:w.heap[l]?=some (.loop lp)):(Instr.enterLoop fn tm ps as0 bo (some l)).run P w=
  .ok (w.heap.size,[]) { w with heap:=w.heap.push (.loop { state:=.ready,pending:=none,fn,tmps:=tm,params:=ps,assign:=as0,body:=bo,defers:=lp.defers }) }:=by
 unfold Instr.enterLoop;simp only[aa8,fj,ci,aa7,hO h]
theorem ml{l:Nat}{lp:Loop}(h:w.heap[l]?=some (.loop lp)):(setObj l o).run P w=.ok () { w with heap:=w.heap.setIfInBounds l o }:=by
 unfold setObj;rw[ab8];simp only[h];rfl
theorem HR.setObj(hH:HR ν H F w){h K:Nat}{b0 b1:AB}{o':Obj}(hb:bP H h=some b0)(hw0:JQ b0=true)(hw1:JQ b1=true)(hν:ν h=some (b,K))(ho:OR ν K b1 o'):HR ν (cM H h (some b1)) F { w with heap:=w.heap.setIfInBounds b o' }:=by
 have g_:=hH.lt hb hν;refine hH.upd hb hw0 hw1 hν (o':=o') ?_ ho (λ k hk=>?_)
 ·show (w.heap.setIfInBounds b o')[b]?=_;rw[lv g_]
 ·show (w.heap.setIfInBounds b o')[k]?=_;rw[WP (Ne.symm hk)]
theorem mS:Below 0 w { w with heap:=w.heap.setIfInBounds b o }:=⟨rfl,rfl,rfl,by simp,λ k hk=>by omega⟩
theorem zE{l:Nat}{lp:Loop}(h:w.heap[l]?=some (.loop lp))(hb:lp.state≠ .busy):(Instr.endLoop l).run P w=.ok lp.pending { w with heap:=w.heap.setIfInBounds l (.loop { lp with state:=.exhausted }) }:=by
 unfold Instr.endLoop;rw[aa8,hO h];simp only[aa7];rw[if_neg (by simpa using hb)];rw[aa8,ml h];rfl
theorem F4(AI:kY P G ih){g:Operand}(h:ju P G ih r N (.rangeFunc g ps as0 bo) s=some (e,s')):jS P G (.code r N (.rangeFunc g ps as0 bo) s) (.cd e s'):=by
 rw[ju.eq_def] at h;simp only at h;split at h
 case h_2=>cases h
 rename_i f first captured hg hk
 split at h
 case h_2=>cases h
 rename_i hB;split at h
 case h_2=>cases h
 rename_i d D H1 n1 U1;split at h
 case h_2=>cases h
 rename_i v H2 n2 V9;split at h
 case h_2=>cases h
 rename_i st pend T' N' Zc YV bo' d' hlp;obtain⟨hle,XD⟩:=AI _ _ V9;have VE:s.n<=n1:=by
  cases r with
  |none=>simp only[de,df] at U1;omega
  |some l0=>
   simp only at U1;split at U1
   ·simp only[de,df] at U1;omega
   ·cases U1
 have iN:st≠ .busy:=by
  rintro rfl;simp at h
 have US:s'=⟨s.T,D,cM H2 n1 (some (.loop .exhausted pend T' N' Zc YV bo' d')),n2⟩/\((pend=none/\e=.normal)\/∃c,pend=some c/\Dl c=some e):=by
  cases st with
  |busy=>exact(iN rfl).elim
  |_=>
   cases pend with
   |none=>simp at h;exact⟨h.2.symm,.inl ⟨rfl,h.1.symm⟩⟩
   |some c=>
    simp only at h;split at h
    ·rename_i e1 he;cases h;exact⟨rfl,.inr ⟨c,rfl,he⟩⟩
    ·cases h
 obtain⟨rfl,afp⟩:=US;refine⟨by simp only;omega,λ ν F a w r' Q hr hs hf hkk=>?_⟩;simp only at hf hkk;refine wpIn_rangeFunc λ fn _=>?_;have aiZ:∃ (l:Nat) (mark:List Deferred) (w1:World) (ν1:Nu),(Instr.enterLoop fn a.tmps ps as0 bo (Wr r').round).run P w=.ok (l,mark) w1/\ν1 n1=some (l,0)/\Ext ν ν1 s.n (n1+1)/\HR ν1 (cM H1 n1 (some (.loop .ready none s.T N ps as0 bo d))) F w1/\Below 0 w w1/\DsR ν1 D (mark++a.defers)/\ν.Le ν1:=by
  cases hr with
  |none=>
   simp only[de,df] at U1;obtain⟨e1,e2,e3,e4⟩:=U1;subst e1;subst e2;subst e3;subst e4;have U2:ν s.n=none:=hf _ (aaI _) (by omega);have hx1:Ext ν (ν.upd s.n w.heap.size 0) s.n (s.n+1):=.upd;have YH:=kq (r:=w.heap.size) (K:=0) U2;have h1:HR (ν.upd s.n w.heap.size 0) (cM s.H s.n (some (.dfr false))) F { w with heap:=w.heap.push (.deferred (some [])) }:=hs.h.new (K:=0) U2 (b:=.dfr false) (o:=.deferred (some [])) rfl rfl rfl;have hn2:(ν.upd s.n w.heap.size 0) (s.n+1)=none:=by rw[eO (by omega)];exact hf _ (by omega) (by omega)
   have hx2:Ext (ν.upd s.n w.heap.size 0) ((ν.upd s.n w.heap.size 0).upd (s.n+1) (w.heap.size+1) 0) (s.n+1) (s.n+1+1):=.upd;have ZD:=kq (r:=w.heap.size+1) (K:=0) hn2;have h2:=h1.new (K:=0) (w':={ w with heap:=(w.heap.push (.deferred (some []))).push (.loop { state:=.ready,pending:=none,fn,tmps:=a.tmps,params:=ps,assign:=as0,body:=bo,defers:=w.heap.size }) }) hn2 (b:=.loop .ready none s.T N ps as0 bo s.n) (o:=.loop { state:=.ready,pending:=none,fn,tmps:=a.tmps,params:=ps,assign:=as0,body:=bo,defers:=w.heap.size }) ⟨rfl,rfl,hs.t.mono YH,rfl,rfl,rfl,0,cf⟩ rfl rfl;have RW:({ w with heap:=w.heap.push (.deferred (some [])) }:World).heap.size=w.heap.size+1:=by simp
   rw[RW] at h2;refine⟨w.heap.size+1,_,_,_,Ce,cf,hx1.trans hx2,h2,⟨rfl,rfl,rfl,by simp;omega,λ k hk=>by omega⟩,.cons ⟨.coll (b:=w.heap.size) (K:=0) ?_,.nil⟩ ((hs.d.mono YH).mono ZD),YH.trans ZD⟩;exact ZD _ _ cf
  | @some l0 b0 K0 hν0=>
   simp only at U1;split at U1
   case h_2=>cases U1
   rename_i _ _ _ _ _ _ _ dd Yo;simp only[de,df] at U1;obtain⟨e1,e2,e3,e4⟩:=U1;subst e1;subst e2;subst e3;subst e4;obtain⟨lp,g1,g2,g3,g4,g5,g6,g7,K',g8⟩:=hs.h.loop Yo hν0;have U2:ν s.n=none:=hf _ (aaI _) (by omega);have YH:=kq (r:=w.heap.size) (K:=0) U2;have h1:=hs.h.new (K:=0) (w':={ w with heap:=w.heap.push (.loop { state:=.ready,pending:=none,fn,tmps:=a.tmps,params:=ps,assign:=as0,body:=bo,defers:=lp.defers }) }) U2 (b:=.loop .ready none s.T N ps as0 bo dd) (o:=.loop { state:=.ready,pending:=none,fn,tmps:=a.tmps,params:=ps,assign:=as0,body:=bo,defers:=lp.defers }) ⟨rfl,rfl,hs.t,rfl,rfl,rfl,K',g8⟩ rfl rfl;refine⟨w.heap.size,_,_,_,Cf g1,cf,.upd,h1,⟨rfl,rfl,rfl,by simp,λ k hk=>by omega⟩,hs.d.mono YH,YH⟩
 obtain⟨l,mark,w1,ν1,g1,g2,g3,g4,g5,g6,g7⟩:=aiZ;have hgv:VRi ν (ael s.T g) (a.eval g):=(FE.mk hs.t hs.g:FE ν G N s.T a).ael hk;rw[hg] at hgv;obtain⟨fn',f',c',e',r1,r2,r3⟩:=s0 hgv;cases r1;refine⟨l,mark,w1,{ target:=.fn (.func f) c',args:=f'++#[.func (.yield l) #[] #[]] },w1,f,⟨f'.toList++(.func (.yield l) #[] #[]::c'.toList)⟩,w1,g1,?_,λ _ _=>trivial,?_,λ h=>(by cases h),?_⟩
 ·have:=oc (P:=P) (c:=rangeCall g l) (ty:=0) (ρ:=a.eval) rfl e' w1;rw[this];simp[Act.eval]
 ·show (callFunc f (f'++#[.func (.yield l) #[] #[]]++c')).run P w1=_;rw[iO hB];congr 2;apply Array.ext';simp
 ·have WX:Fr ν1 (n1+1) n2:=g3.fr hf (by omega);refine jV ((XD ν1 F w1 _ (hs.g.mono g7) WX g4 ((r2.mono g7).append (.cons (.func_of (.yield g2) .nil .nil) (r3.mono g7)))).mono ?_);rintro en w3 ⟨ν3,v',rfl,k1,k2,k3,k4⟩;have YI:ν3 n1=some (l,0):=k2.sub WX _ _ g2;obtain⟨lp,q1,q2,q3,q4,q5,q6,q7,K',q8⟩:=k3.loop hlp YI;refine⟨lp.pending,_,zE q1 (by rw[q2];exact iN),?_⟩;have hH3:HR ν3 (cM H2 n1 (some (.loop .exhausted pend T' N' Zc YV bo' d'))) F { w3 with heap:=w3.heap.setIfInBounds l (.loop { lp with state:=.exhausted }) } :=
   k3.setObj hlp rfl rfl YI ⟨rfl,q3,q4,q5,q6,q7,K',q8⟩
  have akt:Ext ν ν3 s.n n2:=g3.trans k2;have Wv:=hkk ν3 { a with defers:=mark++a.defers } { w3 with heap:=w3.heap.setIfInBounds l (.loop { lp with state:=.exhausted }) } akt ⟨(hs.g.mono g7).mono (k2.sub WX),(hs.t.mono g7).mono (k2.sub WX),g6.mono (k2.sub WX),hH3⟩ ((g5.trans k4).trans mS);rcases afp with ⟨hp,he⟩|⟨c,hp,he⟩
  ·rw[q3.trans hp] at Wv ⊢;subst he;exact Wv
  ·rw[q3.trans hp] at Wv ⊢;exact J7 he Wv
theorem pV(AI:kY P G ih)(hm:P.follows .mixedOrders=true):∀ (c:Code) (s:St) (e:Ex) (s':St),ju P G ih r N c s=some (e,s')->jS P G (.code r N c s) (.cd e s'):=by
 have calm:∀ (c:Code) (s:St) (e:Ex),(∀r' (Q:Exit->Act->World->Prop) a w,Q e.out a w->c.wpIn (Wr r') 0 P Q a w)->jS P G (.code r N c s) (.cd e s):=λ c s e h=>
  ⟨aaI _,λ ν F a w r' Q hr hs hf hk=>h r' Q a w (hk ν a w (.refl _ _) hs (go _ _))⟩
 intro c
 induction c with
 |skip=>intro s e s' h;rw[ju] at h;cases h;exact calm _ _ _ λ r' Q a w hq=>wpIn_skip hq
 |label l=>intro s e s' h;rw[ju] at h;cases h;exact calm _ _ _ λ r' Q a w hq=>wpIn_label hq
 |exit id=>intro s e s' h;rw[ju] at h;cases h;exact calm _ _ _ λ r' Q a w hq=>wpIn_exit hq
 |ret=>intro s e s' h;rw[ju] at h;cases h;exact calm _ _ _ λ r' Q a w hq=>wpIn_ret hq
 |goto l=>intro s e s' h;rw[ju] at h;cases h
 |refuse y=>intro s e s' h;rw[ju] at h;cases h
 |region id ops draw=>
  intro s e s' h;rw[ju.eq_def] at h;simp only at h;split at h
  ·split at h
   ·rename_i s1 h1;cases h;obtain⟨q1,q2⟩:=pf AI _ _ _ h1;exact⟨q1,λ ν F a w r' Q hr hs hf hk=>wpIn_region_list (q2 ν F a w r' Q hr hs hf hk)⟩
   ·cases h
  ·split at h
   ·rename_i s1 h1;cases h;exact M4 AI hm h1
   ·cases h
 |seq x y ihx ihy=>
  intro s e s' h;rw[ju] at h;split at h
  ·rename_i s1 h1;obtain⟨q1,q2⟩:=ihx _ _ _ h1;obtain⟨p1,p2⟩:=ihy _ _ _ h;refine⟨by omega,λ ν F a w r' Q hr hs hf hk=>wpIn_seq ?_⟩;refine q2 ν F a w r' _ hr hs (λ i a b=>hf i a (by omega)) (λ ν' a' w' k1 k2 k3=>?_);exact p2 ν' F a' w' r' Q (hr.mono (k1.sub' hf p1)) k2 (k1.fr hf p1) (λ ν2 a2 w2 g1 g2 g3=>hk ν2 a2 w2 (k1.trans g1) g2 (k3.trans g3))
  ·rename_i DO;obtain⟨q1,q2⟩:=ihx _ _ _ h;refine⟨q1,λ ν F a w r' Q hr hs hf hk=>wpIn_seq ?_⟩;refine q2 ν F a w r' _ hr hs hf (λ ν' a' w' k1 k2 k3=>?_);have:=hk ν' a' w' k1 k2 k3;cases e with
   |normal=>exact(DO _ h).elim
   |exit id=>exact this
   |ret=>exact this
 |cond c x y ihx ihy=>
  intro s e s' h;rw[ju] at h;have ID:∀ν F a w b,SR ν G N s F a w->ael s.T c=.bool b->a.eval c=.bool b:=λ ν F a w b hs he=>by
   cases c with
   |tmp t=>
    have:=(FE.mk hs.t hs.g:FE ν G N s.T a).ael (x:=.tmp t) rfl;rw[he] at this;exact this.plain_eq rfl
   |const v=>exact he
   |global g=>cases he
   |func f=>cases he
  split at h
  ·rename_i he;obtain⟨q1,q2⟩:=ihx _ _ _ h;exact⟨q1,λ ν F a w r' Q hr hs hf hk=>wpIn_cond_true (ID _ _ _ _ _ hs he) (q2 ν F a w r' Q hr hs hf hk)⟩
  ·rename_i he;obtain⟨q1,q2⟩:=ihy _ _ _ h;exact⟨q1,λ ν F a w r' Q hr hs hf hk=>wpIn_cond_false (ID _ _ _ _ _ hs he) (q2 ν F a w r' Q hr hs hf hk)⟩
  ·cases h
 |block id c ihc=>
  intro s e s' h;rw[ju] at h;split at h
  ·rename_i XU s1 h1;obtain⟨q1,q2⟩:=ihc _ _ _ h1;split at h
   ·rename_i hid;cases h;have ajc:XU=id:=aaX hid;refine⟨q1,λ ν F a w r' Q hr hs hf hk=>wpIn_block ?_⟩;refine q2 ν F a w r' _ hr hs hf (λ ν' a' w' k1 k2 k3=>?_);show (if XU=id then _ else _);rw[if_pos ajc];exact hk ν' a' w' k1 k2 k3
   ·rename_i hid;cases h;refine⟨q1,λ ν F a w r' Q hr hs hf hk=>wpIn_block ?_⟩;refine q2 ν F a w r' _ hr hs hf (λ ν' a' w' k1 k2 k3=>?_);show (if XU=id then _ else _);rw[if_neg (λ e=>by subst e;simp at hid)];exact hk ν' a' w' k1 k2 k3
  ·rename_i DO;obtain⟨q1,q2⟩:=ihc _ _ _ h;refine⟨q1,λ ν F a w r' Q hr hs hf hk=>wpIn_block ?_⟩;refine q2 ν F a w r' _ hr hs hf (λ ν' a' w' k1 k2 k3=>?_);have:=hk ν' a' w' k1 k2 k3;cases e with
   |normal=>exact this
   |exit XU=>exact(DO _ _ h).elim
   |ret=>exact this
 |loop c ihc=>
  intro s e s' h;obtain⟨q1,q2⟩:=zD AI (λ s e s' h=>ihc s e s' h) h;exact⟨q1,λ ν F a w r' Q hr hs hf hk=>Cc (q2 ν F a w r' Q hr hs hf hk)⟩
 |rangeFunc g ps as0 bo _ _=>intro s e s' h;exact F4 AI h
 |scope c ihc=>
  intro s e s' h;rw[ju] at h;obtain⟨q1,q2⟩:=ihc _ _ _ h;refine⟨q1,λ ν F a w r' Q hr hs hf hk=>iB ?_⟩;refine q2 ν F a w r' _ hr hs hf (λ ν' a' w' k1 k2 k3=>?_);have:=hk ν' a' w' k1 k2 k3;cases e <;> exact this
end code
section fn
variable {ν ν':Nu} {P:Program} {G N:Nat} {T T':Tr Value} {a:Act} {H H':AH} {F:HL} {w w':World} {r r':Option Nat} {ih:Task->Option Rs}
theorem vq{iS:List Value}(h:LR ν args iS)(hl:gE args<=N):TRel ν N (nC args) ((⟨iS⟩:Array Value)++Array.replicate (N-(⟨iS⟩:Array Value).size) undef):=by
 rw[d9] at hl;have hlen:=h.length;refine⟨by simp;omega,λ t ht=>?_,λ t ht=>?_⟩
 ·rcases aaV t args.length with h1|h1
  ·obtain⟨v',e,q⟩:=h.get (aaP h1);refine⟨v',?_,?_⟩
   ·rw[ach (by simp;omega)];simpa using e
   ·unfold nC;rw[mg h1];exact q
  ·refine⟨undef,?_,?_⟩
   ·rw[Array.getElem?_append_right (by simp;omega),Array.getElem?_replicate];rw[if_pos (by simp;omega)]
   ·have:cN (nC args) t=undef:=by
     unfold nC cN;rw[ry];rw[if_pos (aaJ _),dif_neg (by omega)];exact B2
    rw[this];exact aaA
 ·unfold nC cN;rw[ry,if_pos (aaJ _),dif_neg (by omega)];exact B2
def J8(tm:Array Value):ResultVar->Sem Value
 | .tmp t=>pure (tm.getD t undef)
 | .cell ad t=>do loadVar t (<- asAddr (tm.getD ad undef))
theorem pW(hE:FE ν G N T a)(hH:HR ν H F w):∀ {rs:List ResultVar} {vs:List Value},pP P T H rs=some vs->∃UH,LR ν vs UH/\(rs.mapM (J8 a.tmps)).run P w=.ok UH w
 | [],vs,h=>by rw[pP] at h;cases h;exact⟨[],.nil,rfl⟩
 | .tmp t::rs,vs,h=>by
  rw[pP] at h;split at h
  ·rename_i vs0 h0;cases h;obtain⟨UH,q1,q2⟩:=pW hE hH h0;have hv:VRi ν (cN T t) (a.tmps.getD t undef):=hE.ael (x:=.tmp t) rfl
   haveI:=jn
   refine⟨_,.cons hv q1,?_⟩;have h1:(J8 a.tmps (.tmp t)).run P w=.ok (a.tmps.getD t undef) w:=rfl;rw[adQ,aa8,h1];simp only[aa7];rw[aa8,q2];rfl
  ·cases h
 | .cell ad t::rs,vs,h=>by
  rw[pP] at h;split at h
  ·rename_i ad' he;split at h
   ·rename_i v vs0 hv h0;cases h;obtain⟨UH,q1,q2⟩:=pW hE hH h0;have hp:VRi ν (cN T ad) (a.tmps.getD ad undef):=hE.ael (x:=.tmp ad) rfl;rw[he] at hp;generalize hu:a.tmps.getD ad undef=u at hp;have hp2:=hp;cases hp with
    |atom _ h=>simp[cw] at h
    |ptr o hν=>
     obtain⟨v',r1,r2⟩:=zq (P:=P) (t:=t) hH hp2 hv
     haveI:=jn
     refine⟨_,.cons r1 q1,?_⟩;have h1:(J8 a.tmps (.cell ad t)).run P w=.ok v' w:=by
      show ((asAddr (a.tmps.getD ad undef)) >>=λ x=>loadVar t x).run P w=_;rw[hu,aa8];exact r2
     rw[adQ,aa8,h1];simp only[aa7];rw[aa8,q2];rfl
   ·cases h
  ·cases h
theorem ta{fn:Func}{vs:List Value}(hE:FE ν G N T a)(hH:HR ν H F w)(h:pP P T H fn.results.toList=some vs):∃v',VRi ν (zd vs) v'/\(results fn a.tmps).run P w=.ok v' w:=by
 obtain⟨UH,q1,q2⟩:=pW hE hH h
 haveI:=jn
 have h5:(fn.results.mapM (J8 a.tmps)).run P w=.ok ⟨UH⟩ w:=by
  rw[Array.mapM_eq_mapM_toList,<- bind_pure_comp,aa8,q2];rfl
 have h6:∀v',(∀W,(pure (if h:(⟨UH⟩:Array Value).size=1 then (⟨UH⟩:Array Value)[0] else .tuple ⟨UH⟩):Sem Value).run P W=.ok v' W)->(results fn a.tmps).run P w=.ok v' w:=λ v' hv=>by
  have:results fn a.tmps=(fn.results.mapM (J8 a.tmps) >>=λ vs=>pure (if h:vs.size=1 then vs[0] else .tuple vs)):=rfl;rw[this,aa8,h5];exact hv w
 cases q1 with
 |nil=>exact⟨_,.tuple_of .nil,h6 _ λ W=>rfl⟩
 |cons h1 h2=>
  cases h2 with
  |nil=>exact⟨_,h1,h6 _ λ W=>rfl⟩
  |cons h3 h4=>exact⟨_,.tuple_of (.cons h1 (.cons h3 h4)),h6 _ λ W=>rfl⟩
theorem mT(AI:kY P G ih){fn:Func}{tm:Array Value}{R:Ending->World->Prop}:∀ {D:List Deferred} {H:AH} {n:Nat} {H':AH} {n':Nat},kR P ih D H n=some (H',n')->n<=n'/\∀ν D' w,Glb ν G->DsR ν D D'->HR ν H F w->Fr ν n n'->
  (∀ν' w',Ext ν ν' n n'->HR ν' H' F w'->Below 0 w w'->LeavesInM (Wr none) 0 P fn tm R [] .returning w')->LeavesInM (Wr none) 0 P fn tm R D' .returning w
 | [],H,n,H',n',h=>by
  rw[kR] at h;cases h;exact⟨aaI _,λ ν D' w hg hd hH hf hk=>by cases hd;exact hk ν w (.refl _ _) hH (go _ _)⟩
 |d::ds,H,n,H',n',h=>by
  rw[kR] at h;split at h
  ·rename_i hd ht;split at h
   ·rename_i hb;obtain⟨q1,q2⟩:=mT AI (fn:=fn) (tm:=tm) (R:=R) h;refine⟨q1,λ ν D' w hg hds hH hf hk=>?_⟩;cases hds with
    | @cons _ d' _ l' hdr hl=>
    obtain⟨hdt,hda⟩:=hdr;rw[ht] at hdt;generalize htt:d'.target=tt at hdt;cases hdt with
    | @coll _ b K hν=>
    obtain⟨rr,K',o,g1,g2,g3⟩:=hH.blk _ _ hb;rw[hν] at g1;cases g1;unfold OR at g3;split at g3
    ·rename_i e1;cases e1
    ·rename_i e1;cases e1
    ·rename_i e1;cases e1
    ·rename_i sh cc e1;cases e1;subst g3;refine⟨by simp,.inl ⟨b,{ w with heap:=w.heap.setIfInBounds b (.deferred none) },htt,?_,?_⟩⟩
     ·unfold Instr.takeDeferred;rw[aa8];have h1:(getObj b).run P w=.ok (.deferred (some [])) w:=by
       unfold getObj;rw[ab8];simp only[g2];rfl
      rw[h1];simp only[aa7];rw[aa8];have h2:(setObj b (.deferred none)).run P w=.ok () { w with heap:=w.heap.setIfInBounds b (.deferred none) }:=by
       unfold setObj;rw[ab8];simp only[g2];rfl
      rw[h2];rfl
     ·have h3:HR ν (cM H hd (some (.dfr true))) F { w with heap:=w.heap.setIfInBounds b (.deferred none) }:=hH.setObj hb rfl rfl hν (b1:=.dfr true) (o':=.deferred none) rfl;exact q2 ν l' _ hg hl h3 hf (λ ν' w' k1 k2 k3=>hk ν' w' k1 k2 (mS.trans k3))
    ·exact g3.elim
   ·cases h
  ·rename_i f captured ht;split at h
   case h_2=>cases h
   rename_i hB;split at h
   case h_2=>cases h
   rename_i v H1 n1 hc;obtain⟨p1,p2⟩:=AI _ _ hc;obtain⟨q1,q2⟩:=mT AI (fn:=fn) (tm:=tm) (R:=R) h;refine⟨by omega,λ ν D' w hg hds hH hf hk=>?_⟩;cases hds with
   | @cons _ d' _ l' hdr hl=>
   obtain⟨hdt,hda⟩:=hdr;rw[ht] at hdt;generalize htt:d'.target=tt at hdt;cases hdt with
   | @fn _ f' _ c' hf1 WX=>
   cases hf1;refine⟨by simp,.inr ⟨λ h=>(by cases h),.func f,c',f,⟨d'.args.toList++c'.toList⟩,htt,?_,λ _ _=>trivial,?_⟩⟩
   ·rw[htt];show (callFunc f (d'.args++c')).run P w=_;rw[iO hB];congr 2;apply Array.ext';simp
   ·refine(p2 ν F w _ hg (λ i a b=>hf i a (by omega)) hH (hda.append WX)).mono ?_;rintro en u' w2 ⟨rfl,ν2,v',rfl,k1,k2,k3,k4⟩;have UE:=k2.sub' hf q1;show LeavesInM (Wr none) 0 P fn tm R l' (settle .returning) w2;exact q2 ν2 l' w2 (hg.mono UE) (hl.mono UE) k3 (k2.fr hf q1) (λ ν3 w3 g1 g2 g3=>hk ν3 w3 (k2.trans g1) g2 (k4.trans g3))
  ·cases h
theorem zF{f:FuncId}{fn:Func}{c:Code}(h:sP P f=some (fn,c)):P.funcs[f]?=some fn/\fn.body=some c:=by
 unfold sP at h;split at h
 ·rename_i fn' hf;split at h
  ·rename_i c' hc;cases h;exact⟨hf,hc⟩
  ·cases h
 ·cases h
theorem RT(AI:kY P G ih)(hm:P.follows .mixedOrders=true){f:FuncId}{H:AH}(h:g9 P G ih (.fn f args H n)=some res):jS P G (.fn f args H n) res:=by
 simp only[g9] at h;split at h
 case h_2=>cases h
 rename_i fn c hb;split at h
 case h_2=>cases h
 rename_i hle;obtain⟨b1,b2⟩:=zF hb;have fin:∀e s H2 n2 vs,(e=.normal\/e=.ret)->ju P G ih none fn.ntmps c ⟨nC args,[],H,n⟩=some (e,s)->kR P ih s.D s.H s.n=some (H2,n2)->pP P s.T H2 fn.results.toList=some vs->jS P G (.fn f args H n) (.fn (zd vs) H2 n2):=by
  intro e s H2 n2 vs he XK ZC Xr;obtain⟨q1,q2⟩:=pV AI hm _ _ _ _ XK;simp only at q1 q2;have acS:=(mT (F:=[]) (fn:=fn) (tm:=#[]) (R:=λ _ _=>True) AI ZC).1;refine⟨by omega,λ ν F w iS hg hf hH hl=>?_⟩;refine callsIn_wide.1 (callsIn_of_wp_marks (F:=Fence.wide) (n:=0) b1 b2 trivial ?_);have hlen:=hl.length;refine q2 ν F _ w none _ .none ⟨hg,vq hl (bI hle),.nil,hH⟩ (λ i a b=>hf i a (by omega)) (λ ν' a' w' k1 k2 k3=>?_);have UE:=k1.sub' hf acS;have aiW:=(mT (F:=F) (fn:=fn) (tm:=a'.tmps) (R:=JZ ν (zd vs) n n2 H2 F w) AI ZC).2 ν' a'.defers w' k2.g k2.d k2.h (k1.fr hf acS) (λ ν2 w2 g1 g2 g3=>by
   have abR:=g1.sub (k1.fr hf acS);obtain⟨v',r1,r2⟩:=ta (G:=G) (fn:=fn) (a:=a') (FE.mk (k2.t.mono abR) (k2.g.mono abR)) g2 Xr;exact⟨v',r2,ν2,v',rfl,r1,k1.trans g1,g2,k3.trans g3⟩)
  rcases he with rfl|rfl <;> exact aiW
 split at h
 ·cases h
 ·rename_i e s DO XK;split at h
  ·rename_i H2 n2 ZC;split at h
   ·rename_i vs Xr;cases h;cases e with
    |normal=>exact fin _ _ _ _ _ (.inl rfl) XK ZC Xr
    |ret=>exact fin _ _ _ _ _ (.inr rfl) XK ZC Xr
    |exit id=>first|exact(DO _ _ rfl).elim|exact(DO _ rfl).elim|exact(DO _ _).elim
   ·cases h
  ·cases h
 ·cases h
theorem F5{lp:Loop}(h:w.heap[b]?=some (.loop lp))(hs:lp.state=.ready):(Instr.beginRound b).run P w=.ok () { w with heap:=w.heap.setIfInBounds b (.loop { lp with state:=.busy }) }:=by
 unfold Instr.beginRound;rw[aa8,hO h];simp only[aa7];rw[aa8,ml h];simp only[aa7,hs];rfl
theorem M5{lp:Loop}{j:Option Code}(h:w.heap[b]?=some (.loop lp)):(Instr.endRound b j).run P w=.ok (.bool j.isNone) { w with heap:=w.heap.setIfInBounds b (.loop { lp with state:=if j.isNone then .ready else .done,pending:=j }) }:=by
 unfold Instr.endRound;rw[aa8,hO h];simp only[aa7];rw[aa8,ml h];rfl
def S8:Ex->Option Code
 | .normal=>none
 | .ret=>some .ret
 | .exit id=>some (.exit id)
theorem wQ{R:Ending->World->Prop}(h:∃v w',(Instr.endRound b (S8 e)).run P w=.ok v w'/\R (.returned v) w'):roundPost P b R e.out a w:=by
 cases e <;> exact h
theorem PT(AI:kY P G ih)(hm:P.follows .mixedOrders=true){l:Nat}{T:Tr Value}{N:Nat}{H:AH}(h:g9 P G ih (.rnd l T N as0 bo H n)=some res):jS P G (.rnd l T N as0 bo H n) res:=by
 simp only[g9] at h;split at h
 case h_2=>cases h
 rename_i s1 h1;split at h
 case h_2=>cases h
 rename_i pend T' N' ps YV bo' d hl1 hd1;split at h
 case h_2=>cases h
 rename_i e s2 h2;split at h
 case h_2=>cases h
 rename_i st2 alo T2 N2 ps2 as2 bo2 d2 Vo;obtain⟨q1,q2⟩:=pV AI hm _ _ _ _ h1;obtain⟨p1,p2⟩:=pV AI hm _ _ _ _ h2;simp only at q1 q2 p1 p2;have WU:res=.fn (.bool (S8 e).isNone) (cM s2.H l (some (.loop (if (S8 e).isNone then .ready else .done) (S8 e) T2 N2 ps2 as2 bo2 d2))) s2.n:=by
  cases e <;> (cases h;rfl)
 subst WU;refine⟨by omega,λ ν F w b K tm f r' hg hν hT hf hH=>?_⟩;refine roundIn_of_wpIn trivial ?_;show as0.wpIn (Wr (some b)) 0 P _ _ _;refine q2 ν F _ w (some b) _ (.some hν) ⟨hg,hT,.nil,hH⟩ (λ i x y=>hf i x (by omega)) (λ ν1 a1 w1 k1 k2 k3=>?_);have ae5:=k1.sub' hf p1;have hν1:=ae5 _ _ hν;obtain⟨lp,g1,g2,g3,g4,g5,g6,g7,K',g8⟩:=k2.h.loop hl1 hν1;refine⟨_,F5 g1 g2,?_⟩;show bo.wpIn (Wr (some b)) 0 P _ _ _;have hH1:HR ν1 (cM s1.H l (some (.loop .busy pend T' N' ps YV bo' d))) F { w1 with heap:=w1.heap.setIfInBounds b (.loop { lp with state:=.busy }) }:=k2.h.setObj hl1 rfl rfl hν1 ⟨rfl,g3,g4,g5,g6,g7,K',g8⟩;have hd:DsR ν1 [] a1.defers:=by have:=k2.d;rw[hd1] at this;exact this
 refine p2 ν1 F a1 _ (some b) _ (.some hν1) ⟨k2.g,k2.t,hd,hH1⟩ (k1.fr hf p1) (λ ν2 a2 w2 j1 j2 j3=>?_);have hν2:=(j1.sub (k1.fr hf p1)) _ _ hν1;obtain⟨lp2,u1,u2,u3,u4,u5,u6,u7,K2,u8⟩:=j2.h.loop Vo hν2;refine wQ ⟨_,_,M5 u1,ν2,_,rfl,.atom _ rfl,k1.trans j1,?_,((k3.trans mS).trans j3).trans mS⟩;exact j2.h.setObj Vo rfl rfl hν2 ⟨rfl,rfl,u4,u5,u6,u7,K2,u8⟩
theorem mU{ops:Array Oper}{c₀:Frame}{cs:List Frame}(hc:c₀.mode=.returning):∀ (rest:List Oper) (k:Nat) (s s':St),ops.toList.drop k=rest->nX P G N ops rest s=some s'->s.n<=s'.n/\∀ν F a w (Q:Exit->Act->List Frame->World->Prop),SR ν G N s F a w->Fr ν s.n s'.n->
  (∀ν' a' w',Ext ν ν' s.n s'.n->SR ν' G N s' F a' w'->Below 0 w w'->Q .normal a' (c₀::cs) w')->wpOpsSIn (Wr none) 0 P ops Q (List.range' k rest.length) a (c₀::cs) w
 | [],k,s,s',hk,h=>by
  rw[nX] at h;cases h;exact⟨aaI _,λ ν F a w Q hs hf hq=>hq ν a w (.refl _ _) hs (go _ _)⟩
 |o::rest,k,s,s',hk,h=>by
  have g_:k<ops.toList.length:=by
   rcases aaV k ops.toList.length with e|e
   ·exact e
   ·rw[ab4 e] at hk;cases hk
  have XH:=hk;rw[eB g_] at XH;simp only[aeh] at XH;obtain⟨ho,Zv⟩:=XH;have IT:ops[k]?=some o:=by
   rw[abn (by simpa using g_)];simpa using ho
  rw[nX] at h;split at h
  ·cases h
  ·rename_i hw;split at h
   case h_2=>cases h
   rename_i T1 hp;obtain⟨h1,h2⟩:=mU hc rest (k+1) _ _ Zv h;refine⟨h1,λ ν F a w Q hs hf hq=>?_⟩;rw[aaN,aee,wpOpsSIn];simp only[IT];refine⟨λ _ _=>trivial,?_⟩;rw[if_neg (by rw[kz hs.t hw];simp)];exact h2 ν F _ w Q ⟨hs.g,hs.t.put aaA hp,by rw[fS];exact hs.d,hs.h⟩ hf hq
  ·rename_i hw;split at h
   ·rename_i v H1 n1 iN;split at h
    case h_2=>cases h
    rename_i T1 hp;obtain⟨h1,h2⟩:=mU hc rest (k+1) _ _ Zv h;simp only at h1 h2;have hle:=wN iN;refine⟨by omega,λ ν F a w Q hs hf hq=>?_⟩;rw[aaN,aee,wpOpsSIn];simp only[IT];refine⟨λ _ _=>trivial,?_⟩;rw[if_pos (kz hs.t hw)];obtain⟨ν',v',w',q,e1,e2,e3,e4,e5,e6⟩:=mQ hs.op hs.h iN (λ v H' n' e=>by cases e;exact λ i x y=>hf i x (by omega));have UE:=e4.sub' hf h1;have Wv:=h2 ν' F (a.put o.dst v') w' Q ⟨hs.g.mono UE,(hs.t.mono UE).put e3 hp,by rw[fS];exact hs.d.mono UE,e5⟩ (e4.fr hf h1) (λ ν2 a2 w2 g1 g2 g3=>hq ν2 a2 w2 (e4.trans g1) g2 (e6.trans g3));rw[e1];rcases e2 with rfl|⟨rfl,rfl⟩
    ·exact Wv
    ·exact Wv
   ·rename_i iN;split at h
    case h_2=>cases h
    rename_i T1 hp;obtain⟨h1,h2⟩:=mU hc rest (k+1) _ _ Zv h;refine⟨h1,λ ν F a w Q hs hf hq=>?_⟩;rw[aaN,aee,wpOpsSIn];simp only[IT];refine⟨λ _ _=>trivial,?_⟩;rw[if_pos (kz hs.t hw)];have e1:=mQ hs.op hs.h iN (λ v H' n' e=>by cases e);rw[show (execOp a.eval o).run P w=.ok .recover w from e1];have hrc:recoverD (c₀::cs)=none:=by simp[recoverD,hc]
    simp only[hrc];exact h2 ν F _ w Q ⟨hs.g,hs.t.put (.atom _ rfl) hp,by rw[fS];exact hs.d,hs.h⟩ hf hq
   ·cases h
theorem PU(AI:kY P G ih)(hm:P.follows .mixedOrders=true){c₀:Frame}{cs:List Frame}(hc:c₀.mode=.returning):∀ (c:Code) (s:St) (e:Ex) (s':St),JH P G ih N c s=some (e,s')->s.n<=s'.n/\∀ν F a w (Q:Exit->Act->List Frame->World->Prop),SR ν G N s F a w->Fr ν s.n s'.n->
  (∀ν' a' w',Ext ν ν' s.n s'.n->SR ν' G N s' F a' w'->Below 0 w w'->Q e.out a' (c₀::cs) w')->c.wpSIn (Wr none) 0 P Q a (c₀::cs) w:=by
 have plain:∀ (c:Code) (s:St) (e:Ex) (s':St),ju P G ih none N c s=some (e,s')->s.n<=s'.n/\∀ν F a w (Q:Exit->Act->List Frame->World->Prop),SR ν G N s F a w->Fr ν s.n s'.n->
  (∀ν' a' w',Ext ν ν' s.n s'.n->SR ν' G N s' F a' w'->Below 0 w w'->Q e.out a' (c₀::cs) w')->c.wpSIn (Wr none) 0 P Q a (c₀::cs) w:=λ c s e s' h=>by
  obtain⟨q1,q2⟩:=pV AI hm _ _ _ _ h;exact⟨q1,λ ν F a w Q hs hf hq=>wpSIn_of_wpIn rfl (q2 ν F a w none _ .none hs hf hq)⟩
 intro c
 induction c with
 |seq x y ihx ihy=>
  intro s e s' h;rw[JH] at h;split at h
  ·rename_i s1 h1;obtain⟨q1,q2⟩:=ihx _ _ _ h1;obtain⟨p1,p2⟩:=ihy _ _ _ h;refine⟨by omega,λ ν F a w Q hs hf hk=>wpSIn_seq ?_⟩;refine q2 ν F a w _ hs (λ i a b=>hf i a (by omega)) (λ ν' a' w' k1 k2 k3=>?_);exact p2 ν' F a' w' Q k2 (k1.fr hf p1) (λ ν2 a2 w2 g1 g2 g3=>hk ν2 a2 w2 (k1.trans g1) g2 (k3.trans g3))
  ·rename_i DO;obtain⟨q1,q2⟩:=ihx _ _ _ h;refine⟨q1,λ ν F a w Q hs hf hk=>wpSIn_seq ?_⟩;refine q2 ν F a w _ hs hf (λ ν' a' w' k1 k2 k3=>?_);have:=hk ν' a' w' k1 k2 k3;cases e with
   |normal=>exact(DO _ h).elim
   |exit id=>exact this
   |ret=>exact this
 |cond c x y ihx ihy=>
  intro s e s' h;rw[JH] at h;have ID:∀ν F a w b,SR ν G N s F a w->ael s.T c=.bool b->a.eval c=.bool b:=λ ν F a w b hs he=>by
   cases c with
   |tmp t=>
    have:=(FE.mk hs.t hs.g:FE ν G N s.T a).ael (x:=.tmp t) rfl;rw[he] at this;exact this.plain_eq rfl
   |const v=>exact he
   |global g=>cases he
   |func f=>cases he
  split at h
  ·rename_i he;obtain⟨q1,q2⟩:=ihx _ _ _ h;exact⟨q1,λ ν F a w Q hs hf hk=>wpSIn_cond (ID _ _ _ _ _ hs he) (q2 ν F a w Q hs hf hk)⟩
  ·rename_i he;obtain⟨q1,q2⟩:=ihy _ _ _ h;exact⟨q1,λ ν F a w Q hs hf hk=>wpSIn_cond (ID _ _ _ _ _ hs he) (q2 ν F a w Q hs hf hk)⟩
  ·cases h
 |region id ops draw=>
  intro s e s' h;cases draw with
  |true=>rw[JH] at h;exact plain _ _ _ _ h;all_goals simp
  |false=>
   rw[JH] at h;split at h
   ·rename_i s1 h1;cases h;obtain⟨q1,q2⟩:=mU hc _ 0 _ _ (by simp) h1;refine⟨q1,λ ν F a w Q hs hf hk=>wpSIn_region ?_⟩;have:=q2 ν F a w Q hs hf hk;rw[List.range_eq_range'];simpa using this
   ·split at h
    ·rename_i x h1;cases h;exact plain _ _ _ _ h1
    ·cases h
 |_=>intro s e s' h;rw[JH] at h;exact plain _ _ _ _ h;all_goals simp
theorem PV(AI:kY P G ih)(hm:P.follows .mixedOrders=true){f:FuncId}{H:AH}(h:g9 P G ih (.dfn f args H n)=some res):jS P G (.dfn f args H n) res:=by
 simp only[g9] at h;split at h
 case h_2=>cases h
 rename_i fn c hb;split at h
 case h_2=>cases h
 rename_i hle;obtain⟨b1,b2⟩:=zF hb;split at h
 ·cases h
 ·rename_i e s DO XK;split at h
  ·rename_i hd;split at h
   ·rename_i vs Xr;cases h;have hq:∀ (c₀:Frame) (cs:List Frame),c₀.mode=.returning->_:=λ c₀ cs hc=>PU (c₀:=c₀) (cs:=cs) AI hm hc _ _ _ _ XK;have hn:n<=s.n:=(hq { (default:Frame) with mode:=.returning } [] rfl).1;refine⟨hn,λ ν F w iS hg hf hH hl=>?_⟩;refine callsDIn_of_wpSIn b1 b2 trivial (λ c₀ cs hc=>?_);refine(hq c₀ cs hc).2 ν F _ w _ ⟨hg,vq hl (bI hle),.nil,hH⟩ hf (λ ν' a' w' k1 k2 k3=>?_);have hdd:a'.defers=[]:=by
     have:=k2.d;rw[hd] at this;generalize a'.defers=q at this;cases this;rfl
    obtain⟨v',r1,r2⟩:=ta (G:=G) (fn:=fn) (a:=a') (FE.mk k2.t k2.g) k2.h Xr;have hcc:c₀::cs={ c₀ with mode:=.returning }::cs:=by rw[<- hc]
    have Wv:a'.defers=[]/\∃u',c₀::cs={ c₀ with mode:=u' }::cs/\∃v,(results fn a'.tmps).run P w'=.ok v w'/\(u'=.returning/\JZ ν (zd vs) n s.n s.H F w (.returned v) w') :=
     ⟨hdd,.returning,hcc,v',r2,rfl,ν',v',rfl,r1,k1,k2.h,k3⟩
    cases e with
    |normal=>exact Wv
    |ret=>exact Wv
    |exit id=>first|exact(DO _ _ rfl).elim|exact(DO _ rfl).elim|exact(DO _ _).elim
   ·cases h
  ·cases h
 ·cases h
theorem J9(AI:kY P G ih)(hm:P.follows .mixedOrders=true):kY P G (g9 P G ih):=by
 intro t res h;cases t with
 |code r N c s=>
  simp only[g9] at h;split at h
  ·rename_i h1;cases h;exact pV AI hm _ _ _ _ h1
  ·cases h
 |loop r N c s=>
  simp only[g9] at h;split at h
  ·rename_i h1;cases h;exact zD AI (λ s e s' h=>pV AI hm _ _ _ _ h) h1
  ·cases h
 |fn f args H n=>exact RT AI hm h
 |rnd l T N as0 bo H n=>exact PT AI hm h
 |dfn f args H n=>exact PV AI hm h
theorem Dt(hm:P.follows .mixedOrders=true):∀k,kY P G (JI P G k)
 |0=>λ t res h=>by rw[JI] at h;cases h
 |k+1=>by
  have:=J9 (Dt hm k) hm;intro t res h;rw[JI] at h;exact this t res h
end fn
end
section
variable {G N:Nat} {P:Program} {fn:Func} {o:Oper} {ops:Array Oper} (m:Nat) (a b:Int) (n:Nat)
noncomputable section
inductive CzV where|mk (f:Tr Value->Value)
inductive CzS where|mk (f:Value->Tr Value->Tr Value)
abbrev Ih:=Task->Option Rs
inductive CzR where|mk (f:Ih->Option Nat->Tr Value->List Deferred->AH->Nat->Option St)
inductive CzC where|mk (f:Ih->Option Nat->Tr Value->List Deferred->AH->Nat->Option (Ex×St))
inductive CzF where|mk (f:Ih->List Value->AH->Nat->Option Rs)
inductive CzA where|mk (f:Tr Value->List Value)
def CzV.f:CzV->Tr Value->Value | .mk f=>f
def CzS.f:CzS->Value->Tr Value->Tr Value | .mk f=>f
def CzR.f:CzR->Ih->Option Nat->Tr Value->List Deferred->AH->Nat->Option St | .mk f=>f
def CzC.f:CzC->Ih->Option Nat->Tr Value->List Deferred->AH->Nat->Option (Ex×St) | .mk f=>f
def CzF.f:CzF->Ih->List Value->AH->Nat->Option Rs | .mk f=>f
def CzA.f:CzA->Tr Value->List Value | .mk f=>f
def eX{α:Type}(v:Value)(x:Value->α):α:=match v with
 | .bool b=>x (.bool b)
 | .int k n=>x (.int k n)
 | .float k b=>x (.float k b)
 | .complex k a b=>x (.complex k a b)
 | .string s=>x (.string s)
 | .pointer a=>x (.pointer a)
 | .slice a l c=>x (.slice a l c)
 | .map r=>x (.map r)
 | .chan r=>x (.chan r)
 | .func f a c=>x (.func f a c)
 | .nilFunc=>x .nilFunc
 | .iface t v=>x (.iface t v)
 | .nilIface=>x .nilIface
 | .agg c=>x (.agg c)
 | .tuple c=>x (.tuple c)
theorem cB{α:Type}(v:Value)(x:Value->α):eX v x=x v:=by cases v <;> rfl
def Cg{α:Type}(l:List Value):(List Value->α)->α:=List.rec (motive:=λ _=>(List Value->α)->α) (λ x=>x []) (λ v _ ih x=>eX v λ v=>ih λ l=>x (v::l)) l
theorem vt{α:Type}:∀ (l:List Value) (x:List Value->α),Cg l x=x l
 | [],x=>rfl
 |v::l,x=>by
  show eX v (λ v=>Cg l λ l=>x (v::l))=_;rw[cB,vt l]
def wR:List Bool->CzV
 | []=>.mk λ T=>Tr.rec (motive:=λ _=>Value) undef (λ v _ _ _ _=>v) T
 |b::p=>match wR p with
  | .mk f=>match b with
   |true=>.mk λ T=>Tr.rec (motive:=λ _=>Value) undef (λ _ _ r _ _=>f r) T
   |false=>.mk λ T=>Tr.rec (motive:=λ _=>Value) undef (λ _ l _ _ _=>f l) T
theorem rz:∀ (p:List Bool) (T:Tr Value),(wR p).f T=Tr.getP undef p T
 | [],T=>by cases T <;> rfl
 |b::p,T=>by
  have ih:=rz p;cases h:wR p with
  |mk f=>
   rw[h] at ih;cases b <;> simp only[wR,h,CzV.f] <;> cases T <;> first|rfl|exact ih _
def Ch:List Bool->CzS
 | []=>.mk λ x T=>Tr.rec (motive:=λ _=>Tr Value) (.nd x .lf .lf) (λ _ l r _ _=>.nd x l r) T
 |b::p=>match Ch p with
  | .mk f=>match b with
   |true=>.mk λ x T=>Tr.rec (motive:=λ _=>Tr Value) (.nd undef .lf (f x .lf)) (λ v l r _ _=>.nd v l (f x r)) T
   |false=>.mk λ x T=>Tr.rec (motive:=λ _=>Tr Value) (.nd undef (f x .lf) .lf) (λ v l r _ _=>.nd v (f x l) r) T
theorem Du(x:Value):∀ (p:List Bool) (T:Tr Value),(Ch p).f x T=Tr.setP undef x p T
 | [],T=>by cases T <;> rfl
 |b::p,T=>by
  have ih:=Du x p;cases h:Ch p with
  |mk f=>
   rw[h] at ih;simp only[CzS.f] at ih;cases b <;> simp only[Ch,h,CzS.f] <;> cases T <;> simp only[ih] <;> rfl
def cv:Operand->CzV
 | .tmp t=>wR (pth t)
 | .const v=>.mk λ _=>v
 | .global g=>.mk λ _=>.pointer (some ⟨g,0,none⟩)
 | .func f=>.mk λ _=>.func (.func f) #[] #[]
theorem OA(x:Operand)(T:Tr Value):(cv x).f T=ael T x:=by
 cases x with
 |tmp t=>exact rz _ _
 |const v=>rfl
 |global g=>rfl
 |func f=>rfl
def ca:List Operand->CzA
 | []=>.mk λ _=>[]
 |x::l=>match cv x,ca l with
  | .mk f,.mk g=>.mk λ T=>f T::g T
theorem OB:∀ (l:List Operand) (T:Tr Value),(ca l).f T=nV T l
 | [],T=>rfl
 |x::l,T=>by
  have h1:=OA x T;have h2:=OB l T;cases hx:cv x with
  |mk f=>cases hl:ca l with
   |mk g=>
    rw[hx] at h1;rw[hl] at h2;simp only[CzV.f] at h1;simp only[CzA.f] at h2;simp only[ca,hx,hl,CzA.f,nV,h1,h2]
inductive CzD where
 |no
 |ok (f:Value->Tr Value->Tr Value)
 |bad
def iP(N:Nat):Option Tmp->CzD
 |none=>.no
 |some d=>match Nat.blt d N with
  |true=>match Ch (pth d) with
   | .mk f=>.ok f
  |false=>.bad
theorem Dv{d:Option Tmp}{f}(h:iP N d=.ok f)(v:Value)(T:Tr Value):fy N d v T=some (f v T):=by
 cases d with
 |none=>simp[iP] at h
 |some d=>
  simp only[iP] at h;cases hb:Nat.blt d N <;> rw[hb] at h
  ·simp at h
  ·cases hs:Ch (pth d) with
   |mk g=>
    simp only[hs,CzD.ok.injEq] at h;subst h;have:=Du v (pth d) T;rw[hs] at this;simp only[CzS.f] at this;simp only[fy,hb,this];rfl
theorem Dw{d:Option Tmp}(h:iP N d=.no)(v:Value)(T:Tr Value):fy N d v T=some T:=by
 cases d with
 |none=>rfl
 |some d=>
  simp only[iP] at h;cases hb:Nat.blt d N <;> rw[hb] at h
  ·simp at h
  ·cases hs:Ch (pth d) with
   |mk g=>simp[hs] at h
def cT(P:Program)(G N:Nat)(ops:Array Oper)(o:Oper)(k:Ih->Option Nat->Tr Value->List Deferred->AH->Nat->Option St)(ih:Ih)(r:Option Nat)(T:Tr Value)(D:List Deferred)(H:AH)(n:Nat):Option St:=match eL ops o T with
 |none=>none
 |some false=>match fy N o.dst undef T with
  |some T=>k ih r T D H n
  |none=>none
 |some true=>match kl P G ih r o T H n with
  |none=>none
  |some (.val v H n)=>eX v λ v=>match fy N o.dst v T with
   |some T=>k ih r T D H n
   |none=>none
  |some (.dfr d)=>match fy N o.dst undef T with
   |some T=>k ih r T (d::D) H n
   |none=>none
def CzR.okL(P:Program)(G N:Nat)(ops:Array Oper)(l:List Oper)(k:Ih->Option Nat->Tr Value->List Deferred->AH->Nat->Option St):Prop:=∀ih r T D H n,k ih r T D H n=nB P G ih r N ops l ⟨T,D,H,n⟩
theorem M6{l:List Oper}{k}(h:CzR.okL P G N ops l k)(o:Oper):CzR.okL P G N ops (o::l) (cT P G N ops o k):=by
 intro ih r T D H n;simp only[cT,nB];cases eL ops o T with
 |none=>rfl
 |some b=>
  cases b with
  |false=>cases fy N o.dst undef T with
   |none=>rfl
   |some T'=>exact h _ _ _ _ _ _
  |true=>cases kl P G ih r o T H n with
   |none=>rfl
   |some x=>cases x with
    |val v H' n'=>simp only[cB];cases hp:fy N o.dst v T with
     |none=>simp only[hp]
     |some T'=>simp only[hp];exact h _ _ _ _ _ _
    |dfr d=>cases hp:fy N o.dst undef T with
     |none=>simp only[hp]
     |some T'=>simp only[hp];exact h _ _ _ _ _ _
def pg(N:Nat)(o:Oper)(k:Ih->Option Nat->Tr Value->List Deferred->AH->Nat->Option St)(ih:Ih)(r:Option Nat)(T:Tr Value)(D:List Deferred)(v:Value)(H:AH)(n:Nat):Option St:=match fy N o.dst v T with
 |some T=>k ih r T D H n
 |none=>none
theorem pX{P:Program}{G N:Nat}{ops:Array Oper}{o:Oper}{k}(hg:o.guard=none)(ho:oz G o=true)(hc:tH P o.op=.pu)(ih:Ih)(r:Option Nat)(T:Tr Value)(D:List Deferred)(H:AH)(n:Nat) :
  cT P G N ops o k ih r T D H n=match gY P o T with
   |some v=>pg N o k ih r T D v H n
   |none=>none:=by
 simp only[oz] at ho;cases hl:jk o.op with
 |none=>rw[hl] at ho;simp at ho
 |some l=>
  rw[hl] at ho;simp only at ho;simp only[cT,eL,hg,kl,Di,hl,ho,hc];cases gY P o T with
  |none=>rfl
  |some v=>simp only[cB];rfl
theorem Ka{P:Program}{G N:Nat}{ops:Array Oper}{o:Oper}{k}(hg:o.guard=none)(ho:oz G o=true)(hc:tH P o.op=.lo)(ih:Ih)(r:Option Nat)(T:Tr Value)(D:List Deferred)(H:AH)(n:Nat) :
  cT P G N ops o k ih r T D H n=match jJ P o T H with
   |some v=>pg N o k ih r T D v H n
   |none=>none:=by
 simp only[oz] at ho;cases hl:jk o.op with
 |none=>rw[hl] at ho;simp at ho
 |some l=>
  rw[hl] at ho;simp only at ho;simp only[cT,eL,hg,kl,Di,hl,ho,hc];cases jJ P o T H with
  |none=>rfl
  |some v=>simp only[cB];rfl
theorem PW{P:Program}{G N:Nat}{ops:Array Oper}{o:Oper}{k}(hg:o.guard=none)(ho:oz G o=true)(hc:tH P o.op=.nw)(ih:Ih)(r:Option Nat)(T:Tr Value)(D:List Deferred)(H:AH)(n:Nat) :
  cT P G N ops o k ih r T D H n=match tX P o T with
   |some (b,m)=>pg N o k ih r T D (m.val n) (cM H n (some b)) (n+1)
   |none=>none:=by
 simp only[oz] at ho;cases hl:jk o.op with
 |none=>rw[hl] at ho;simp at ho
 |some l=>
  rw[hl] at ho;simp only at ho;simp only[cT,eL,hg,kl,Di,hl,ho,hc];cases tX P o T with
  |none=>rfl
  |some v=>simp only[PN,cB];rfl
theorem PX{k}(hg:o.guard=none)(ho:oz G o=true)(hc:tH P o.op=.ef)(ih:Ih)(r:Option Nat){T:Tr Value}(D:List Deferred){H:AH}{n:Nat}{v:Value}{H':AH}{n':Nat}(he:nW P o T H n=some (.val v H' n')) :
  cT P G N ops o k ih r T D H n=pg N o k ih r T D v H' n':=by
 simp only[oz] at ho;cases hl:jk o.op with
 |none=>rw[hl] at ho;simp at ho
 |some l=>
  rw[hl] at ho;simp only at ho;simp only[cT,eL,hg,kl,Di,hl,ho,hc,he,cB];rfl
theorem Dx{P:Program}{G N:Nat}{ops:Array Oper}{o:Oper}{k}(hg:o.guard=none)(ho:oz G o=true)(hc:tH P o.op=.ef)(ih:Ih)(r:Option Nat){T:Tr Value}(D:List Deferred){H:AH}{n:Nat}{f:FuncId}{args:List Value}(he:nW P o T H n=some (.ent f args)) :
  cT P G N ops o k ih r T D H n=match ih (.fn f args H n) with
   |some (.fn v H n)=>pg N o k ih r T D v H n
   |_=>none:=by
 simp only[oz] at ho;cases hl:jk o.op with
 |none=>rw[hl] at ho;simp at ho
 |some l=>
  rw[hl] at ho;simp only at ho;simp only[cT,eL,hg,kl,Di,hl,ho,hc,he];cases ih (.fn f args H n) with
  |none=>rfl
  |some x=>cases x <;> simp only[cB] <;> rfl
end
noncomputable section
abbrev Kt:=Ih->Option Nat->Tr Value->List Deferred->AH->Nat->Option St
def kN(k:IntKind):Nat:=IntKind.rec (motive:=λ _=>Nat) 0 1 2 3 4 5 6 7 k
def Uc(a b:IntKind):Bool:=Nat.beq (kN a) (kN b)
theorem PY(a b:IntKind):Uc a b=decide (a=b):=by cases a <;> cases b <;> rfl
def QM(a b:Int):Bool:=match a,b with
 | .ofNat m,.ofNat n=>Nat.blt m n
 | .negSucc _,.ofNat _=>true
 | .ofNat _,.negSucc _=>false
 | .negSucc m,.negSucc n=>Nat.blt n m
theorem Dy:Nat.blt m n=decide (m<n):=by
 by_cases h:m<n
 ·simp[Nat.blt_eq,h]
 ·rw[abh h];cases hb:Nat.blt m n
  ·rfl
  ·exact absurd (Eq.mp Nat.blt_eq hb) h
theorem Kb:QM a b=decide (a<b):=by
 cases a with
 |ofNat m=>cases b with
  |ofNat n=>
   simp only[QM,Dy];exact decide_eq_decide.2 (Int.ofNat_lt).symm
  |negSucc n=>exact(abh (show ¬ ((m:Int)<Int.negSucc n) by omega)).symm
 |negSucc m=>cases b with
  |ofNat n=>exact(abk (show Int.negSucc m<(n:Int) by omega)).symm
  |negSucc n=>
   simp only[QM,Dy];exact decide_eq_decide.2 (by omega)
def PZ(b:Bool):Bool:=match b with
 |true=>false
 |false=>true
theorem Dz(b:Bool):PZ b=!b:=by cases b <;> rfl
def S9(a b:Int):Bool:=PZ (QM b a)
theorem P0:S9 a b=decide (a<=b):=by
 rw[S9,Dz,Kb]
 by_cases h:b<a
 ·rw[abk h,abh (by omega)];rfl
 ·rw[abh h,abk (by omega)];rfl
def RU(a b:Int):Bool:=match a,b with
 | .ofNat m,.ofNat n=>Nat.beq m n
 | .negSucc m,.negSucc n=>Nat.beq m n
 |_,_=>false
theorem DA:Nat.beq m n=decide (m=n):=by
 by_cases h:m=n
 ·rw[abk h];exact Eq.mpr Nat.beq_eq h
 ·rw[abh h];cases hb:Nat.beq m n
  ·rfl
  ·exact absurd (Eq.mp Nat.beq_eq hb) h
theorem P3:RU a b=(a == b):=by
 have e:(a == b)=decide (a=b):=rfl;rw[e];cases a with
 |ofNat m=>cases b with
  |ofNat n=>
   simp only[RU,DA];exact decide_eq_decide.2 (Int.ofNat_inj (m:=m) (n:=n)).symm
  |negSucc n=>rfl
 |negSucc m=>cases b with
  |ofNat n=>rfl
  |negSucc n=>
   simp only[RU,DA];exact decide_eq_decide.2 (by simp)
def M7:BinOp->Option (Int->Int->Bool)
 | .lss=>some λ a b=>QM a b
 | .leq=>some λ a b=>S9 a b
 | .gtr=>some λ a b=>QM b a
 | .geq=>some λ a b=>S9 b a
 | .eql=>some λ a b=>RU a b
 | .neq=>some λ a b=>PZ (RU a b)
 |_=>none
theorem M8{op:BinOp}{q}(h:M7 op=some q)(a b:Int):Ju op a b=some (q a b):=by
 cases op <;> simp only[M7,de,reduceCtorEq] at h <;> subst h <;> simp only[Ju,Kb,P0,P3,Dz] <;> rfl
section
variable (P:Program) (G N:Nat) (ops:Array Oper) (o:Oper) (k:Kt) (g:Value->Tr Value->Tr Value)
def Ta(f:Tr Value->Value)(ih:Ih)(r:Option Nat)(T:Tr Value)(D:List Deferred)(H:AH)(n:Nat):Option St:=eX (f T) λ v=>k ih r (g v T) D H n
def RV(u:Value)(x y:Option St):Option St:=match u with
 | .bool b=>match b with
  |true=>x
  |false=>y
 |_=>none
def Kd(f fa fb:Tr Value->Value)(ih:Ih)(r:Option Nat)(T:Tr Value)(D:List Deferred)(H:AH)(n:Nat):Option St:=RV (f T) (eX (fa T) λ v=>k ih r (g v T) D H n) (eX (fb T) λ v=>k ih r (g v T) D H n)
def RX(u:Value)(x y:Option St):Option St:=match u with
 | .pointer p=>match p with
  |some _=>x
  |none=>y
 |_=>y
def P4(f:Tr Value->Value)(ih:Ih)(r:Option Nat)(T:Tr Value)(D:List Deferred)(H:AH)(n:Nat):Option St:=RX (f T) (eX (f T) λ v=>k ih r (g v T) D H n) (cT P G N ops o k ih r T D H n)
def RY(q:Int->Int->Bool)(u v:Value)(x:Bool->Option St)(y:Option St):Option St:=match u with
 | .int ka a=>match v with
  | .int kb b=>match Uc ka kb with
   |true=>match q a b with
    |true=>x true
    |false=>x false
   |false=>y
  |_=>y
 |_=>y
def P5(q:Int->Int->Bool)(f1 f2:Tr Value->Value)(ih:Ih)(r:Option Nat)(T:Tr Value)(D:List Deferred)(H:AH)(n:Nat):Option St:=RY q (f1 T) (f2 T) (λ b=>k ih r (g (.bool b) T) D H n) (cT P G N ops o k ih r T D H n)
def Ud(c:Nat)(u:Value)(x:Value->Option St):Option St:=match u with
 | .pointer p=>match p with
  |some a=>match a with
   | ⟨b,off,s⟩=>match c with
    |0=>x (.pointer (some ⟨b,off,s⟩))
    |c+1=>x (.pointer (some ⟨b,off+(c+1),none⟩))
  |none=>none
 |_=>none
def P6(c:Nat)(f:Tr Value->Value)(ih:Ih)(r:Option Nat)(T:Tr Value)(D:List Deferred)(H:AH)(n:Nat):Option St:=Ud c (f T) λ v=>k ih r (g v T) D H n
def ldB(off:Nat)(s:Option Nat)(b:Option AB)(x:Value->Option St):Option St:=match s with
 |none=>match b with
  |some c=>match c with
   | .cells n tr _ _ _=>match Nat.blt off n with
    |true=>eX (cN tr off) x
    |false=>none
   |_=>none
  |none=>none
 |some _=>none
def ldR(H:AH)(u:Value)(x:Value->Option St):Option St:=match u with
 | .pointer p=>match p with
  |some a=>match a with
   | ⟨b,off,s⟩=>ldB off s (bP H b) x
  |none=>none
 |_=>none
def Ue(f:Tr Value->Value)(ih:Ih)(r:Option Nat)(T:Tr Value)(D:List Deferred)(H:AH)(n:Nat):Option St:=ldR H (f T) λ v=>k ih r (g v T) D H n
def laB(off c:Nat)(s:Option Nat)(b:Option AB)(x:Value->Option St):Option St:=match s with
 |none=>match b with
  |some ab=>match ab with
   | .cells n tr _ _ _=>match Nat.ble (off+c) n with
    |true=>Cg (gZ tr off c) λ l=>x (.agg ⟨l⟩)
    |false=>none
   |_=>none
  |none=>none
 |some _=>none
def laR(c:Nat)(H:AH)(u:Value)(x:Value->Option St):Option St:=match u with
 | .pointer p=>match p with
  |some a=>match a with
   | ⟨b,off,s⟩=>laB off c s (bP H b) x
  |none=>none
 |_=>none
def Uf(c:Nat)(f:Tr Value->Value)(ih:Ih)(r:Option Nat)(T:Tr Value)(D:List Deferred)(H:AH)(n:Nat):Option St:=laR c H (f T) λ v=>k ih r (g v T) D H n
def alF(b:AB)(ih:Ih)(r:Option Nat)(T:Tr Value)(D:List Deferred)(H:AH)(n:Nat):Option St:=k ih r (g (.pointer (some ⟨n,0,none⟩)) T) D (cM H n (some b)) (n+1)
def ixR(c:Nat)(u i:Value)(x:Value->Option St):Option St:=match u with
 | .slice p m _=>match p with
  |some a=>match i with
   | .int _ i=>match i with
    | .ofNat i=>match Nat.blt i m with
     |true=>match a with
      | ⟨b,off,s⟩=>match i*c with
       |0=>x (.pointer (some ⟨b,off,s⟩))
       |j+1=>x (.pointer (some ⟨b,off+(j+1),none⟩))
     |false=>none
    |_=>none
   |_=>none
  |none=>none
 |_=>none
def Ug(c:Nat)(f1 f2:Tr Value->Value)(ih:Ih)(r:Option Nat)(T:Tr Value)(D:List Deferred)(H:AH)(n:Nat):Option St:=ixR c (f1 T) (f2 T) λ v=>k ih r (g v T) D H n
def stB(off:Nat)(s:Option Nat)(v:Value)(b:Option AB)(x:AB->Option St)(y:Option St):Option St:=match s with
 |none=>match b with
  |some c=>match c with
   | .cells n tr ty w ro=>match ro with
    |false=>match Nat.blt off n with
     |true=>x (.cells n (tV tr off v) ty w false)
     |false=>y
    |true=>y
   |_=>y
  |none=>y
 |some _=>y
def DB(v:Value):Bool:=match v with
 | .agg _=>false
 | .tuple _=>false
 |_=>true
def stR(H:AH)(u v:Value)(x:Nat->AB->Option St)(y:Option St):Option St:=match DB v with
 |true=>match u with
  | .pointer p=>match p with
   |some a=>match a with
    | ⟨b,off,s⟩=>eX v λ v=>stB off s v (bP H b) (x b) y
   |none=>y
  |_=>y
 |false=>y
def Uh(f1 f2:Tr Value->Value)(ih:Ih)(r:Option Nat)(T:Tr Value)(D:List Deferred)(H:AH)(n:Nat):Option St:=stR H (f1 T) (f2 T) (λ b ab=>k ih r T D (cM H b (some ab)) n) (cT P G N ops o k ih r T D H n)
def Tb(x:Option Rs)(y:Value->AH->Nat->Option St):Option St:=match x with
 |some x=>match x with
  | .fn v H n=>eX v λ v=>y v H n
  | .cd _ _=>none
 |none=>none
def Ui(f:FuncId)(as0:Tr Value->List Value)(ih:Ih)(r:Option Nat)(T:Tr Value)(D:List Deferred)(H:AH)(n:Nat):Option St:=Tb (ih (.fn f (as0 T) H n)) λ v H n=>k ih r (g v T) D H n
def Uj(f:FuncId)(as0:Tr Value->List Value)(ih:Ih)(r:Option Nat)(T:Tr Value)(D:List Deferred)(H:AH)(n:Nat):Option St:=Tb (ih (.fn f (as0 T) H n)) λ v H n=>k ih r T D H n
end
section
variable {P:Program} {G N:Nat} {ops:Array Oper} {o:Oper} {k:Kt} {g:Value->Tr Value->Tr Value}
theorem fL(hd:iP N o.dst=.ok g)(ih:Ih)(r:Option Nat)(T:Tr Value)(D:List Deferred)(v:Value)(H:AH)(n:Nat):pg N o k ih r T D v H n=k ih r (g v T) D H n:=by
 rw[pg,Dv hd]
theorem DC(hd:iP N o.dst=.no)(ih:Ih)(r:Option Nat)(T:Tr Value)(D:List Deferred)(v:Value)(H:AH)(n:Nat):pg N o k ih r T D v H n=k ih r T D H n:=by
 rw[pg,Dw hd]
theorem OC(hg:o.guard=none)(ho:oz G o=true)(hd:iP N o.dst=.ok g){x:Operand}(hx:o.op=.move x\/o.op=.assign x){f}(hf:∀T,f T=ael T x)(ih r T D H n):Ta k g f ih r T D H n=cT P G N ops o k ih r T D H n:=by
 have hc:tH P o.op=.pu:=by cases hx with|inl h=>rw[h];rfl|inr h=>rw[h];rfl
 have hp:gY P o T=some (ael T x):=by unfold gY;cases hx with|inl h=>rw[h]|inr h=>rw[h]
 rw[pX hg ho hc,hp,Ta,hf,cB];exact(fL hd ..).symm
theorem M9(hg:o.guard=none)(ho:oz G o=true)(hd:iP N o.dst=.ok g){c a b:Operand}(hx:o.op=.pick c a b){f fa fb}(hf:∀T,f T=ael T c)(hfa:∀T,fa T=ael T a)(hfb:∀T,fb T=ael T b)(ih r T D H n):Kd k g f fa fb ih r T D H n=cT P G N ops o k ih r T D H n:=by
 rw[pX hg ho (by rw[hx];rfl)];unfold gY;rw[hx];simp only[Kd,hf,hfa,hfb,cB];cases ael T c with
 |bool q=>cases q <;> exact(fL hd ..).symm
 |_=>rfl
theorem P7(hg:o.guard=none)(ho:oz G o=true)(hd:iP N o.dst=.ok g){x:Operand}(hx:o.op=.nilCheck x){f}(hf:∀T,f T=ael T x)(ih r T D H n):P4 P G N ops o k g f ih r T D H n=cT P G N ops o k ih r T D H n:=by
 simp only[P4,hf];cases he:ael T x with
 |pointer p=>cases p with
  |none=>rfl
  |some a=>
   rw[pX hg ho (by rw[hx];rfl)];unfold gY;rw[hx];simp only[he,RX,cB];exact(fL hd ..).symm
 |_=>rfl
theorem P8(hg:o.guard=none)(ho:oz G o=true)(hd:iP N o.dst=.ok g){op t x y z}(hx:o.op=.binOp op t x y z){q}(hq:M7 op=some q){f1 f2}(hf1:∀T,f1 T=ael T x)(WX:∀T,f2 T=ael T y)(ih r T D H n):P5 P G N ops o k g q f1 f2 ih r T D H n=cT P G N ops o k ih r T D H n:=by
 simp only[P5,hf1,WX];cases he:ael T x with
 |int ka a=>cases he2:ael T y with
  |int kb b=>
   simp only[RY];cases hk:Uc ka kb with
   |false=>rfl
   |true=>
    rw[pX hg ho (by rw[hx];rfl)];unfold gY;rw[hx];rw[PY] at hk;simp only[he,he2,M8 hq,hk];cases q a b <;> exact(fL hd ..).symm
  |_=>rfl
 |_=>rfl
theorem P9(hg:o.guard=none)(ho:oz G o=true)(hd:iP N o.dst=.ok g){t x j}(hx:o.op=.fieldAddr t x j){c ft}(hc:yW P t j=some (c,ft)){f}(hf:∀T,f T=ael T x)(ih r T D H n):P6 k g c f ih r T D H n=cT P G N ops o k ih r T D H n:=by
 rw[pX hg ho (by rw[hx];rfl)];unfold gY;rw[hx];simp only[P6,hf,hc];cases he:ael T x with
 |pointer p=>cases p with
  |none=>rfl
  |some a=>cases a with
   |mk b off s=>cases c with
    |zero=>exact(fL hd ..).symm
    |succ c=>exact(fL hd ..).symm
 |_=>rfl
theorem RZ(hg:o.guard=none)(ho:oz G o=true)(hd:iP N o.dst=.ok g){t x}(hx:o.op=.load t x)(hc:yV P t=true){f}(hf:∀T,f T=ael T x)(ih r T D H n):Ue k g f ih r T D H n=cT P G N ops o k ih r T D H n:=by
 rw[Ka hg ho (by rw[hx];rfl)];unfold jJ;rw[hx];simp only[Ue,hf];cases he:ael T x with
 |pointer p=>cases p with
  |none=>rfl
  |some a=>cases a with
   |mk b off s=>
    cases s with
    |some s=>rfl
    |none=>
     simp only[ldR,uU];cases bP H b with
     |none=>rfl
     |some c=>cases c with
      |cells nn tr ty w ro=>
       simp only[ldB,hc];cases Nat.blt off nn
       ·rfl
       ·simp only[cB];exact(fL hd ..).symm
      |_=>rfl
 |_=>rfl
theorem R0(hg:o.guard=none)(ho:oz G o=true)(hd:iP N o.dst=.ok g){t x}(hx:o.op=.load t x)(hc:yV P t=false){c}(ha:BU P t=some c){f}(hf:∀T,f T=ael T x)(ih r T D H n):Uf k g c f ih r T D H n=cT P G N ops o k ih r T D H n:=by
 rw[Ka hg ho (by rw[hx];rfl)];unfold jJ;rw[hx];simp only[Uf,hf];cases he:ael T x with
 |pointer p=>cases p with
  |none=>rfl
  |some a=>cases a with
   |mk b off s=>
    cases s with
    |some s=>rfl
    |none=>
     simp only[laR,uU];cases bP H b with
     |none=>rfl
     |some ab=>cases ab with
      |cells nn tr ty w ro=>
       simp only[laB,hc,ha];cases Nat.ble (off+c) nn
       ·rfl
       ·simp only[vt];exact(fL hd ..).symm
      |_=>rfl
 |_=>rfl
theorem R1(hg:o.guard=none)(ho:oz G o=true)(hd:iP N o.dst=.ok g){t}(hx:o.op=.alloc t){z}(hz:lz P t=some z){b}(hb:jR z t=b)(ih r T D H n):alF k g b ih r T D H n=cT P G N ops o k ih r T D H n:=by
 rw[PW hg ho (by rw[hx];rfl)];unfold tX;rw[hx];simp only[hz,hb];exact(fL hd ..).symm
theorem R3(hg:o.guard=none)(ho:oz G o=true)(hd:iP N o.dst=.ok g){t x i}(hx:o.op=.indexAddr t x i){el c}(ht:P.underlying t=some (.slice el))(hc:fh P el=some c){f1 f2}(hf1:∀T,f1 T=ael T x)(WX:∀T,f2 T=ael T i)(ih r T D H n):Ug k g c f1 f2 ih r T D H n=cT P G N ops o k ih r T D H n:=by
 rw[pX hg ho (by rw[hx];rfl)];unfold gY;rw[hx];simp only[Ug,hf1,WX,ht];cases he:ael T x with
 |slice p m cc=>cases p with
  |none=>rfl
  |some a=>cases a with
   |mk b off s=>cases he2:ael T i with
    |int ki i=>cases i with
     |ofNat i=>
      simp only[ixR,LU,hc];cases Nat.blt i m with
      |false=>rfl
      |true=>
       simp only[BW];cases i*c with
       |zero=>exact(fL hd ..).symm
       |succ j=>exact(fL hd ..).symm
     |negSucc i=>rfl
    |_=>rfl
 |_=>cases he2:ael T i <;> rfl
theorem R4(hg:o.guard=none)(ho:oz G o=true)(hd:iP N o.dst=.no){t x y}(hx:o.op=.store t x y)(ht:fh P t=some 1){f1 f2}(hf1:∀T,f1 T=ael T x)(WX:∀T,f2 T=ael T y)(ih r T D H n):Uh P G N ops o k f1 f2 ih r T D H n=cT P G N ops o k ih r T D H n:=by
 simp only[Uh,hf1,WX];unfold stR;cases Vc:DB (ael T y) with
 |false=>rfl
 |true=>
  cases he:ael T x with
  |pointer p=>cases p with
   |none=>rfl
   |some a=>cases a with
    |mk b off s=>cases s with
     |some s=>simp only[cB];rfl
     |none=>
      simp only[cB];cases hb:bP H b with
      |none=>rfl
      |some c=>cases c with
       |cells nn tr ty w ro=>cases ro with
        |true=>rfl
        |false=>
         simp only[stB];cases g_:Nat.blt off nn with
         |false=>rfl
         |true=>
          have I_:iq (ael T y)=[ael T y]:=by
           cases hv:ael T y <;> first|rfl|(rw[hv] at Vc;simp[DB] at Vc)
          have hff:kj [ael T y]=true:=by
           cases hv:ael T y <;> first|rfl|(rw[hv] at Vc;simp[DB] at Vc)
          have hle:Nat.ble (off+1) nn=true:=g_;have he':nW P o T H n=some (.val undef (cM H b (some (.cells nn (tV tr off (ael T y)) ty w false))) n):=by
           unfold nW;rw[hx];simp only[he,wJ,ht,I_,gE,pO,hb,hle,hff];rfl
          rw[PX hg ho (by rw[hx];rfl) ih r D he'];exact(DC hd ..).symm
       |_=>rfl
  |_=>rfl
theorem Ke{f:FuncId}{c:Call}(hx:o.op=.call c)(hc:c.callee=.value (.func f))(hb:sL P f=true)(T H n):nW P o T H n=some (.ent f (nV T c.args.toList)):=by
 unfold nW;rw[hx];simp only[hc,ael,rv,hb];simp
theorem Kf{f:FuncId}{c:Call}(hx:o.op=.call c)(hc:c.callee=.value (.func f)):tH P o.op=.ef:=by
 rw[hx];obtain⟨ce,a,t⟩:=c;simp only at hc;subst hc;rfl
theorem R5(hg:o.guard=none)(ho:oz G o=true)(hd:iP N o.dst=.ok g){f:FuncId}{c:Call}(hx:o.op=.call c)(hc:c.callee=.value (.func f))(hb:sL P f=true){as0}(ha:∀T,as0 T=nV T c.args.toList)(ih r T D H n):Ui k g f as0 ih r T D H n=cT P G N ops o k ih r T D H n:=by
 rw[Dx hg ho (Kf hx hc) ih r D (Ke hx hc hb T H n),Ui,ha];cases ih (.fn f (nV T c.args.toList) H n) with
 |none=>rfl
 |some x=>cases x with
  |cd _ _=>rfl
  |fn v H n=>simp only[Tb,cB];exact(fL hd ..).symm
theorem Qa(hg:o.guard=none)(ho:oz G o=true)(hd:iP N o.dst=.no){f:FuncId}{c:Call}(hx:o.op=.call c)(hc:c.callee=.value (.func f))(hb:sL P f=true){as0}(ha:∀T,as0 T=nV T c.args.toList)(ih r T D H n):Uj k f as0 ih r T D H n=cT P G N ops o k ih r T D H n:=by
 rw[Dx hg ho (Kf hx hc) ih r D (Ke hx hc hb T H n),Uj,ha];cases ih (.fn f (nV T c.args.toList) H n) with
 |none=>rfl
 |some x=>cases x with
  |cd _ _=>rfl
  |fn v H n=>simp only[Tb,cB];exact(DC hd ..).symm
end
end
noncomputable section
def Uk(P:Program)(G N:Nat)(ops:Array Oper)(o:Oper)(k:Kt)(g:Value->Tr Value->Tr Value):CzR:=match o.op with
 | .move x=>match cv x with
  | .mk f=>.mk (Ta k g f)
 | .assign x=>match cv x with
  | .mk f=>.mk (Ta k g f)
 | .pick c a b=>match cv c with
  | .mk f=>match cv a with
   | .mk fa=>match cv b with
    | .mk fb=>.mk (Kd k g f fa fb)
 | .nilCheck x=>match cv x with
  | .mk f=>.mk (P4 P G N ops o k g f)
 | .binOp op _ x y _=>match M7 op with
  |some q=>match cv x with
   | .mk f1=>match cv y with
    | .mk f2=>.mk (P5 P G N ops o k g q f1 f2)
  |none=>.mk (cT P G N ops o k)
 | .fieldAddr t x j=>match yW P t j with
  |some (c,_)=>match cv x with
   | .mk f=>.mk (P6 k g c f)
  |none=>.mk (cT P G N ops o k)
 | .load t x=>match yV P t with
  |true=>match cv x with
   | .mk f=>.mk (Ue k g f)
  |false=>match BU P t with
   |some c=>match cv x with
    | .mk f=>.mk (Uf k g c f)
   |none=>.mk (cT P G N ops o k)
 | .alloc t=>match lz P t with
  |some z=>match jR z t with
   | .cells a b c d e=>.mk (alF k g (.cells a b c d e))
   |_=>.mk (cT P G N ops o k)
  |none=>.mk (cT P G N ops o k)
 | .indexAddr t x i=>match P.underlying t with
  |some (.slice el)=>match fh P el with
   |some c=>match cv x with
    | .mk f1=>match cv i with
     | .mk f2=>.mk (Ug k g c f1 f2)
   |none=>.mk (cT P G N ops o k)
  |_=>.mk (cT P G N ops o k)
 | .call c=>match c.callee with
  | .value (.func f)=>match sL P f with
   |true=>match ca c.args.toList with
    | .mk as0=>.mk (Ui k g f as0)
   |false=>.mk (cT P G N ops o k)
  |_=>.mk (cT P G N ops o k)
 |_=>.mk (cT P G N ops o k)
def Ul(P:Program)(G N:Nat)(ops:Array Oper)(o:Oper)(k:Kt):CzR:=match o.op with
 | .store t x y=>match fh P t with
  |some 1=>match cv x with
   | .mk f1=>match cv y with
    | .mk f2=>.mk (Uh P G N ops o k f1 f2)
  |_=>.mk (cT P G N ops o k)
 | .call c=>match c.callee with
  | .value (.func f)=>match sL P f with
   |true=>match ca c.args.toList with
    | .mk as0=>.mk (Uj k f as0)
   |false=>.mk (cT P G N ops o k)
  |_=>.mk (cT P G N ops o k)
 |_=>.mk (cT P G N ops o k)
def Kg(P:Program)(G N:Nat)(ops:Array Oper)(o:Oper)(k:Kt):CzR:=match oz G o with
 |true=>match iP N o.dst with
  | .ok g=>Uk P G N ops o k g
  | .no=>Ul P G N ops o k
  | .bad=>.mk (cT P G N ops o k)
 |false=>.mk (cT P G N ops o k)
def GL(o:Oper):Oper:=⟨o.dst,o.op,o.type,o.pos,o.after,none⟩
def Um(want:Bool)(u:Value)(x y:Option St):Option St:=match u with
 | .bool b=>match b with
  |true=>match want with
   |true=>x
   |false=>y
  |false=>match want with
   |true=>y
   |false=>x
 | .tuple _=>y
 |_=>none
def guF(want:Bool)(f:Tr Value->Value)(h:Kt)(k:Kt)(g:Value->Tr Value->Tr Value)(ih:Ih)(r:Option Nat)(T:Tr Value)(D:List Deferred)(H:AH)(n:Nat):Option St:=Um want (f T) (h ih r T D H n) (k ih r (g undef T) D H n)
def guN(want:Bool)(f:Tr Value->Value)(h:Kt)(k:Kt)(ih:Ih)(r:Option Nat)(T:Tr Value)(D:List Deferred)(H:AH)(n:Nat):Option St:=Um want (f T) (h ih r T D H n) (k ih r T D H n)
def Qb(P:Program)(G N:Nat)(ops:Array Oper)(o:Oper)(nx:CzR):CzR:=match nx with
 | .mk k=>match o.guard with
  |none=>Kg P G N ops o k
  |some (j,want)=>match (ops[j]?).bind (·.dst) with
   |some d=>match wR (pth d) with
    | .mk f=>match Kg P G N ops (GL o) k with
     | .mk h=>match iP N o.dst with
      | .ok g=>.mk (guF want f h k g)
      | .no=>.mk (guN want f h k)
      | .bad=>.mk (cT P G N ops o k)
   |none=>.mk (cT P G N ops o k)
def F6(P:Program)(G N:Nat)(ops:Array Oper):List Oper->CzR
 | []=>.mk λ _ _ T D H n=>some ⟨T,D,H,n⟩
 |o::l=>Qb P G N ops o (F6 P G N ops l)
def Kh(P:Program)(G N:Nat)(ops:Array Oper)(o:Oper)(k:Kt)(c:CzR):Prop:=∀ih r T D H n,c.f ih r T D H n=cT P G N ops o k ih r T D H n
theorem dG{k:Kt}:Kh P G N ops o k (.mk (cT P G N ops o k)):=λ _ _ _ _ _ _=>rfl
theorem Av{x:Operand}{f}(h:cv x=.mk f)(T:Tr Value):f T=ael T x:=by
 have:=OA x T;rw[h] at this;exact this
theorem cam{x:List Operand}{f}(h:ca x=.mk f)(T:Tr Value):f T=nV T x:=by
 have:=OB x T;rw[h] at this;exact this
theorem Qc{k:Kt}{g}(hg:o.guard=none)(ho:oz G o=true)(hd:iP N o.dst=.ok g):Kh P G N ops o k (Uk P G N ops o k g):=by
 unfold Uk;split
 ·rename_i x hx;split;rename_i f hf;exact λ ih r T D H n=>OC hg ho hd (.inl hx) (Av hf) ih r T D H n
 ·rename_i x hx;split;rename_i f hf;exact λ ih r T D H n=>OC hg ho hd (.inr hx) (Av hf) ih r T D H n
 ·rename_i c a b hx;split;rename_i f hf;split;rename_i fa hfa;split;rename_i fb hfb;exact λ ih r T D H n=>M9 hg ho hd hx (Av hf) (Av hfa) (Av hfb) ih r T D H n
 ·rename_i x hx;split;rename_i f hf;exact λ ih r T D H n=>P7 hg ho hd hx (Av hf) ih r T D H n
 ·rename_i op t x y z hx;split
  ·rename_i q hq;split;rename_i f hf;split;rename_i f2 WX;exact λ ih r T D H n=>P8 hg ho hd hx hq (Av hf) (Av WX) ih r T D H n
  ·exact dG
 ·rename_i t x j hx;split
  ·rename_i c ft hc;split;rename_i f hf;exact λ ih r T D H n=>P9 hg ho hd hx hc (Av hf) ih r T D H n
  ·exact dG
 ·rename_i t x hx;split
  ·rename_i hc;split;rename_i f hf;exact λ ih r T D H n=>RZ hg ho hd hx hc (Av hf) ih r T D H n
  ·rename_i hc;split
   ·rename_i c ha;split;rename_i f hf;exact λ ih r T D H n=>R0 hg ho hd hx hc ha (Av hf) ih r T D H n
   ·exact dG
 ·rename_i t hx;split
  ·rename_i z hz;split
   ·rename_i a b c d e hb;exact λ ih r T D H n=>R1 hg ho hd hx hz hb ih r T D H n
   ·exact dG
  ·exact dG
 ·rename_i t x i hx;split
  ·rename_i el ht;split
   ·rename_i c hc;split;rename_i f hf;split;rename_i f2 WX;exact λ ih r T D H n=>R3 hg ho hd hx ht hc (Av hf) (Av WX) ih r T D H n
   ·exact dG
  ·exact dG
 ·rename_i c hx;split
  ·rename_i f hc;split
   ·rename_i hb;split;rename_i as0 ha;exact λ ih r T D H n=>R5 hg ho hd hx hc hb (cam ha) ih r T D H n
   ·exact dG
  ·exact dG
 ·exact dG
theorem Qd{k:Kt}(hg:o.guard=none)(ho:oz G o=true)(hd:iP N o.dst=.no):Kh P G N ops o k (Ul P G N ops o k):=by
 unfold Ul;split
 ·rename_i t x y hx;split
  ·rename_i hc;split;rename_i f hf;split;rename_i f2 WX;exact λ ih r T D H n=>R4 hg ho hd hx hc (Av hf) (Av WX) ih r T D H n
  ·exact dG
 ·rename_i c hx;split
  ·rename_i f hc;split
   ·rename_i hb;split;rename_i as0 ha;exact λ ih r T D H n=>Qa hg ho hd hx hc hb (cam ha) ih r T D H n
   ·exact dG
  ·exact dG
 ·exact dG
theorem DD{k:Kt}(hg:o.guard=none):Kh P G N ops o k (Kg P G N ops o k):=by
 unfold Kg;split
 ·rename_i ho;split
  ·rename_i g hd;exact Qc hg ho hd
  ·rename_i hd;exact Qd hg ho hd
  ·exact dG
 ·exact dG
theorem od(P:Program)(T:Tr Value)(o:Oper):gF P T (GL o)=gF P T o:=by
 have e:execOp (ael T) (GL o)=execOp (ael T) o:=by
  obtain⟨dst,op,type,pos,after,guard⟩:=o;cases op <;> rfl
 unfold gF;rw[e];rfl
theorem F7(P:Program)(T:Tr Value)(o:Oper):gY P (GL o) T=gY P o T:=by
 unfold gY;simp only[od];rfl
theorem F8(P:Program)(T:Tr Value)(H:AH)(o:Oper):jJ P (GL o) T H=jJ P o T H:=by
 unfold jJ;simp only[od];rfl
theorem Ki(P:Program)(T:Tr Value)(H:AH)(n:Nat)(o:Oper):nW P (GL o) T H n=nW P o T H n:=by
 unfold nW;simp only[od];rfl
theorem Kj(P:Program)(G:Nat)(ih:Ih)(r:Option Nat)(T:Tr Value)(H:AH)(n:Nat)(o:Oper):kl P G ih r (GL o) T H n=kl P G ih r o T H n:=by
 unfold kl Di;simp only[F7,F8,Ki];rfl
theorem td{k:Kt}{j:Nat}{want:Bool}(hg:o.guard=some (j,want)){d:Tmp}(hd:(ops[j]?).bind (·.dst)=some d){f:Tr Value->Value}(hf:∀T,f T=cN T d){h:Kt}(hh:∀ih r T D H n,h ih r T D H n=cT P G N ops (GL o) k ih r T D H n)(ih r T D H n) :
  cT P G N ops o k ih r T D H n=Um want (f T) (h ih r T D H n) (match fy N o.dst undef T with|some T=>k ih r T D H n|none=>none):=by
 rw[hh,hf];have e:cT P G N ops (GL o) k ih r T D H n=match kl P G ih r o T H n with
  |none=>none
  |some (.val v H n)=>eX v λ v=>match fy N o.dst v T with
   |some T=>k ih r T D H n
   |none=>none
  |some (.dfr d)=>match fy N o.dst undef T with
   |some T=>k ih r T (d::D) H n
   |none=>none:=by
  simp only[cT,eL,GL];rw[<- Kj P G ih r T H n o];rfl
 rw[e];simp only[cT,eL,hg,hd];cases cN T d with
 |bool b=>cases b <;> cases want <;> rfl
 |_=>rfl
theorem Qe{k:Kt}:Kh P G N ops o k (Qb P G N ops o (.mk k)):=by
 cases hg:o.guard with
 |none=>simp only[Qb,hg];exact DD hg
 |some jw=>
  obtain⟨j,want⟩:=jw;cases hd:(ops[j]?).bind (·.dst) with
  |none=>simp only[Qb,hg,hd];exact dG
  |some d=>
   cases hf:wR (pth d) with
   |mk f=>cases hh:Kg P G N ops (GL o) k with
    |mk h=>
     have hf':∀T,f T=cN T d:=λ T=>by have:=rz (pth d) T;rw[hf] at this;exact this
     have hh':=DD (P:=P) (G:=G) (N:=N) (ops:=ops) (o:=GL o) (k:=k) rfl;rw[hh] at hh';cases hdk:iP N o.dst with
     |ok g=>
      simp only[Qb,hg,hd,hf,hh,hdk];intro ih r T D H n;rw[td hg hd hf' hh',Dv hdk];rfl
     |no=>
      simp only[Qb,hg,hd,hf,hh,hdk];intro ih r T D H n;rw[td hg hd hf' hh',Dw hdk];rfl
     |bad=>simp only[Qb,hg,hd,hf,hh,hdk];exact dG
theorem DE(P:Program)(G N:Nat)(ops:Array Oper):∀l,CzR.okL P G N ops l (F6 P G N ops l).f
 | []=>λ ih r T D H n=>rfl
 |o::l=>by
  have h:=DE P G N ops l;cases hk:F6 P G N ops l with
  |mk k=>
   rw[hk] at h;intro ih r T D H n;simp only[F6,hk];rw[Qe];exact M6 h o ih r T D H n
def Tc(P:Program)(G N:Nat)(c:Code)(ih:Ih)(r:Option Nat)(T:Tr Value)(D:List Deferred)(H:AH)(n:Nat):Option (Ex×St):=ju P G ih r N c ⟨T,D,H,n⟩
def R6(k:Kt)(ih:Ih)(r:Option Nat)(T:Tr Value)(D:List Deferred)(H:AH)(n:Nat):Option (Ex×St):=match k ih r T D H n with
 |some s=>some (.normal,s)
 |none=>none
abbrev Kc:=Ih->Option Nat->Tr Value->List Deferred->AH->Nat->Option (Ex×St)
def Un(x:Option (Ex×St))(y:Tr Value->List Deferred->AH->Nat->Option (Ex×St)):Option (Ex×St):=match x with
 |some p=>match p with
  | (e,s)=>match e with
   | .normal=>match s with
    | ⟨T,D,H,n⟩=>y T D H n
   | .exit id=>some (.exit id,s)
   | .ret=>some (.ret,s)
 |none=>none
def R7(a b:Kc)(ih:Ih)(r:Option Nat)(T:Tr Value)(D:List Deferred)(H:AH)(n:Nat):Option (Ex×St):=Un (a ih r T D H n) λ T D H n=>b ih r T D H n
def R8(u:Value)(x y:Option (Ex×St)):Option (Ex×St):=match u with
 | .bool b=>match b with
  |true=>x
  |false=>y
 |_=>none
def OD(f:Tr Value->Value)(a b:Kc)(ih:Ih)(r:Option Nat)(T:Tr Value)(D:List Deferred)(H:AH)(n:Nat):Option (Ex×St):=R8 (f T) (a ih r T D H n) (b ih r T D H n)
def R9(id:Nat)(x:Option (Ex×St)):Option (Ex×St):=match x with
 |some p=>match p with
  | (e,s)=>match e with
   | .exit XU=>match Nat.beq XU id with
    |true=>some (.normal,s)
    |false=>some (.exit XU,s)
   | .normal=>some (.normal,s)
   | .ret=>some (.ret,s)
 |none=>none
def Sa(id:Nat)(a:Kc)(ih:Ih)(r:Option Nat)(T:Tr Value)(D:List Deferred)(H:AH)(n:Nat):Option (Ex×St):=R9 id (a ih r T D H n)
def Sb(x:Option (Ex×St))(y:St->Option Rs):Option (Ex×St):=match x with
 |some p=>match p with
  | (e,s)=>match e with
   | .normal=>match y s with
    |some q=>match q with
     | .cd e s=>some (e,s)
     | .fn _ _ _=>none
    |none=>none
   | .exit id=>some (.exit id,s)
   | .ret=>some (.ret,s)
 |none=>none
def Sc(N:Nat)(c:Code)(a:Kc)(ih:Ih)(r:Option Nat)(T:Tr Value)(D:List Deferred)(H:AH)(n:Nat):Option (Ex×St):=Sb (a ih r T D H n) λ s=>ih (.loop r N c s)
def iQ(P:Program)(G N:Nat):Code->CzC
 | .skip=>.mk λ _ _ T D H n=>some (.normal,⟨T,D,H,n⟩)
 | .label _=>.mk λ _ _ T D H n=>some (.normal,⟨T,D,H,n⟩)
 | .region id ops draw=>match draw with
  |false=>match F6 P G N ops ops.toList with
   | .mk k=>.mk (R6 k)
  |true=>.mk (Tc P G N (.region id ops true))
 | .seq a b=>match iQ P G N a with
  | .mk fa=>match iQ P G N b with
   | .mk fb=>.mk (R7 fa fb)
 | .cond c a b=>match cv c with
  | .mk f=>match iQ P G N a with
   | .mk fa=>match iQ P G N b with
    | .mk fb=>.mk (OD f fa fb)
 | .block id c=>match iQ P G N c with
  | .mk fa=>.mk (Sa id fa)
 | .loop c=>match iQ P G N c with
  | .mk fa=>.mk (Sc N c fa)
 | .rangeFunc g ps assign body=>.mk (Tc P G N (.rangeFunc g ps assign body))
 | .exit id=>.mk λ _ _ T D H n=>some (.exit id,⟨T,D,H,n⟩)
 | .scope c=>iQ P G N c
 | .goto l=>.mk (Tc P G N (.goto l))
 | .ret=>.mk λ _ _ T D H n=>some (.ret,⟨T,D,H,n⟩)
 | .refuse x=>.mk (Tc P G N (.refuse x))
def Sd(P:Program)(G N:Nat)(c:Code)(f:Kc):Prop:=∀ih r T D H n,f ih r T D H n=ju P G ih r N c ⟨T,D,H,n⟩
theorem iT(P:Program)(G N:Nat):∀c,Sd P G N c (iQ P G N c).f
 | .skip=>λ _ _ _ _ _ _=>rfl
 | .label _=>λ _ _ _ _ _ _=>rfl
 | .region id ops draw=>by
  cases draw with
  |true=>exact λ _ _ _ _ _ _=>rfl
  |false=>
   have h:=DE P G N ops ops.toList;cases hk:F6 P G N ops ops.toList with
   |mk k=>
    rw[hk] at h;intro ih r T D H n;simp only[iQ,hk,CzC.f,R6,ju];have:=h ih r T D H n;simp only[CzR.f] at this;rw[this];cases nB P G ih r N ops ops.toList ⟨T,D,H,n⟩ <;> rfl
 | .seq a b=>by
  have h1:=iT P G N a;have h2:=iT P G N b;cases ha:iQ P G N a with
  |mk fa=>cases hb:iQ P G N b with
   |mk fb=>
    rw[ha] at h1;rw[hb] at h2;intro ih r T D H n;have e1:=h1 ih r T D H n;simp only[CzC.f] at e1;simp only[iQ,ha,hb,CzC.f,R7,ju,e1];cases ju P G ih r N a ⟨T,D,H,n⟩ with
    |none=>rfl
    |some p=>obtain⟨e,s⟩:=p;cases e with
     |normal=>obtain⟨T,D,H,n⟩:=s;exact h2 ih r T D H n
     |exit id=>rfl
     |ret=>rfl
 | .cond c a b=>by
  have h1:=iT P G N a;have h2:=iT P G N b;cases hc:cv c with
  |mk f=>cases ha:iQ P G N a with
   |mk fa=>cases hb:iQ P G N b with
    |mk fb=>
     rw[ha] at h1;rw[hb] at h2;intro ih r T D H n;simp only[iQ,hc,ha,hb,CzC.f,OD,ju,Av hc];cases ael T c with
     |bool q=>cases q with
      |true=>exact h1 ih r T D H n
      |false=>exact h2 ih r T D H n
     |_=>rfl
 | .block id c=>by
  have h1:=iT P G N c;cases ha:iQ P G N c with
  |mk fa=>
   rw[ha] at h1;intro ih r T D H n;have e1:=h1 ih r T D H n;simp only[CzC.f] at e1;simp only[iQ,ha,CzC.f,Sa,ju,e1];cases ju P G ih r N c ⟨T,D,H,n⟩ with
   |none=>rfl
   |some p=>obtain⟨e,s⟩:=p;cases e with
    |normal=>rfl
    |exit XU=>simp only[R9];cases Nat.beq XU id <;> rfl
    |ret=>rfl
 | .loop c=>by
  have h1:=iT P G N c;cases ha:iQ P G N c with
  |mk fa=>
   rw[ha] at h1;intro ih r T D H n;have e1:=h1 ih r T D H n;simp only[CzC.f] at e1;simp only[iQ,ha,CzC.f,Sc,ju,e1];cases ju P G ih r N c ⟨T,D,H,n⟩ with
   |none=>rfl
   |some p=>obtain⟨e,s⟩:=p;cases e with
    |normal=>
     simp only[Sb];cases ih (.loop r N c s) with
     |none=>rfl
     |some q=>cases q <;> rfl
    |exit XU=>rfl
    |ret=>rfl
 | .rangeFunc g ps assign body=>λ _ _ _ _ _ _=>rfl
 | .exit id=>λ _ _ _ _ _ _=>rfl
 | .scope c=>by
  intro ih r T D H n;simp only[iQ,ju];exact iT P G N c ih r T D H n
 | .goto l=>λ _ _ _ _ _ _=>rfl
 | .ret=>λ _ _ _ _ _ _=>rfl
 | .refuse x=>λ _ _ _ _ _ _=>rfl
def Na:List ResultVar->Option CzA
 | []=>some (.mk λ _=>[])
 |x::l=>match x with
  | .tmp t=>match wR (pth t) with
   | .mk f=>match Na l with
    |some c=>match c with
     | .mk h=>some (.mk λ T=>f T::h T)
    |none=>none
  | .cell _ _=>none
theorem Kk(P:Program)(H:AH)(T:Tr Value):∀ {l:List ResultVar} {h},Na l=some (.mk h)->pP P T H l=some (h T)
 | [],h,e=>by simp only[Na,de,CzA.mk.injEq] at e;subst e;rfl
 | .cell _ _::l,h,e=>by simp[Na] at e
 | .tmp t::l,h,e=>by
  simp only[Na] at e;cases hf:wR (pth t) with
  |mk f=>
   rw[hf] at e;simp only at e;cases hl:Na l with
   |none=>rw[hl] at e;simp at e
   |some c=>cases c with
    |mk h'=>
     rw[hl] at e;simp only[de,CzA.mk.injEq] at e;subst e;have:=rz (pth t) T;rw[hf] at this;simp only[CzV.f] at this;simp only[pP,Kk P H T hl,this];rfl
def Qf(l:List Value):Nat->Tr Value->Tr Value:=List.rec (motive:=λ _=>Nat->Tr Value->Tr Value) (λ _ t=>t) (λ x _ ih i t=>eX x λ x=>ih (i+1) (Tr.setP undef x (pth i) t)) l
theorem DF:∀ (l:List Value) (i:Nat) (t:Tr Value),Qf l i t=dM undef l i t
 | [],i,t=>rfl
 |x::l,i,t=>by
  have:=DF l (i+1) (Tr.setP undef x (pth i) t);show (eX x λ x=>Qf l (i+1) (Tr.setP undef x (pth i) t))=_;rw[cB,this,dM];have e:Tr.set undef x t i=Tr.setP undef x (pth i) t:=rfl;rw[e];cases Tr.setP undef x (pth i) t <;> rfl
def Se(h:List Value):Value:=match h with
 | []=>.tuple ⟨[]⟩
 |v::l=>match l with
  | []=>v
  |w::l=>.tuple ⟨v::w::l⟩
theorem Nb(h:List Value):Se h=zd h:=by
 cases h with
 |nil=>rfl
 |cons v l=>cases l <;> rfl
def Sf(P:Program)(fn:Func)(ih:Ih)(s:St):Option Rs:=match kR P ih s.D s.H s.n with
 |some (H,n)=>match pP P s.T H fn.results.toList with
  |some vs=>some (.fn (zd vs) H n)
  |none=>none
 |none=>none
def Uo(P:Program)(fn:Func)(h:Tr Value->List Value)(ih:Ih)(s:St):Option Rs:=match s with
 | ⟨T,D,H,n⟩=>match D with
  | []=>some (.fn (Se (h T)) H n)
  |d::D=>Sf P fn ih ⟨T,d::D,H,n⟩
def fnR(x:Option (Ex×St))(y:St->Option Rs):Option Rs:=match x with
 |some p=>match p with
  | (e,s)=>match e with
   | .exit _=>none
   | .normal=>y s
   | .ret=>y s
 |none=>none
def Td(N:Nat)(k:Kc)(y:Ih->St->Option Rs)(ih:Ih)(args:List Value)(H:AH)(n:Nat):Option Rs:=match Nat.ble (gE args) N with
 |true=>fnR (k ih none (Qf args 0 .lf) [] H n) (y ih)
 |false=>none
def F9(P:Program)(G:Nat)(f:FuncId):CzF:=match sP P f with
 |some (fn,c)=>match iQ P G fn.ntmps c with
  | .mk k=>match Na fn.results.toList with
   |some h=>match h with
    | .mk h=>.mk (Td fn.ntmps k (Uo P fn h))
   |none=>.mk (Td fn.ntmps k (Sf P fn))
 |none=>.mk λ _ _ _ _=>none
theorem Qg{h}(e:Na fn.results.toList=some (.mk h))(ih:Ih)(s:St):Uo P fn h ih s=Sf P fn ih s:=by
 obtain⟨T,D,H,n⟩:=s;cases D with
 |cons d D=>rfl
 |nil=>simp only[Uo,Sf,kR,Kk P H T e,Nb]
theorem Kl{c:Code}{f:FuncId}(hb:sP P f=some (fn,c)){k:Kc}(hk:Sd P G fn.ntmps c k){y:Ih->St->Option Rs}(hy:∀ih s,y ih s=Sf P fn ih s)(ih:Ih)(args:List Value)(H:AH)(n:Nat):Td fn.ntmps k y ih args H n=g9 P G ih (.fn f args H n):=by
 simp only[Td,g9,hb];cases Nat.ble (gE args) fn.ntmps with
 |false=>rfl
 |true=>
  simp only[hk ih,DF];rw[show dM undef args 0 .lf=nC args from rfl];cases ju P G ih none fn.ntmps c ⟨nC args,[],H,n⟩ with
  |none=>rfl
  |some p=>obtain⟨e,s⟩:=p;cases e with
   |exit _=>rfl
   |normal=>exact hy ih s
   |ret=>exact hy ih s
theorem Nc(P:Program)(G:Nat)(f:FuncId)(ih:Ih)(args:List Value)(H:AH)(n:Nat):(F9 P G f).f ih args H n=g9 P G ih (.fn f args H n):=by
 cases hb:sP P f with
 |none=>simp only[F9,hb,CzF.f,g9]
 |some p=>
  obtain⟨fn,c⟩:=p;have h1:=iT P G fn.ntmps c;cases hk:iQ P G fn.ntmps c with
  |mk k=>
   rw[hk] at h1;cases hr:Na fn.results.toList with
   |none=>
    simp only[F9,hb,hk,hr,CzF.f];exact Kl hb h1 (λ _ _=>rfl) ih args H n
   |some h=>cases h with
    |mk h=>
     simp only[F9,hb,hk,hr,CzF.f];exact Kl hb h1 (λ ih s=>Qg hr ih s) ih args H n
def zG(P:Program)(G:Nat)(ih:Ih)(t:Task):Option Rs:=match t with
 | .loop r N c s=>match iQ P G N (.loop c) with
  | .mk k=>match s with
   | ⟨T,D,H,n⟩=>match k ih r T D H n with
    |some p=>match p with
     | (e,s)=>some (.cd e s)
    |none=>none
 | .fn f args H n=>match F9 P G f with
  | .mk k=>k ih args H n
 |t=>g9 P G ih t
theorem Km(P:Program)(G:Nat)(ih:Ih)(t:Task):zG P G ih t=g9 P G ih t:=by
 cases t with
 |loop r N c s=>
  obtain⟨T,D,H,n⟩:=s;have h1:=iT P G N (.loop c);cases hk:iQ P G N (.loop c) with
  |mk k=>
   rw[hk] at h1;have:=h1 ih r T D H n;simp only[CzC.f] at this;simp only[zG,hk,g9,this];cases ju P G ih r N (.loop c) ⟨T,D,H,n⟩ with
   |none=>rfl
   |some p=>rfl
 |fn f args H n=>
  have:=Nc P G f ih args H n;cases hk:F9 P G f with
  |mk k=>
   rw[hk] at this;simp only[zG,hk];exact this
 |_=>rfl
def Ga(P:Program)(G:Nat)(k:Nat):Ih:=Nat.rec (motive:=λ _=>Ih) (λ _=>none) (λ _ ih t=>zG P G ih t) k
theorem DG(P:Program)(G:Nat):∀k,Ga P G k=JI P G k
 |0=>rfl
 |k+1=>by
  funext t;show zG P G (Ga P G k) t=_;rw[Km,DG P G k];rfl
end
end
end Go.Proofs.YtogafelgppjklaaGreatDoor
