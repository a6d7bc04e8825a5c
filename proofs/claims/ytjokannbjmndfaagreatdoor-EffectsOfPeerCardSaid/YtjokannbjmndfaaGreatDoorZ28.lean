import Derived.Test.YtjokannbjmndfaaGreatDoorZ27
set_option linter.all false
set_option maxHeartbeats 4000000
set_option maxRecDepth 100000
namespace Go.Proofs.YtjokannbjmndfaaGreatDoor
open Go.RowKit
variable {D0:List Deferred} {Q:Exit->Act->World->Prop} {S:Nat->Prop} {b be be':List Nat} {i j q:Nat} {listed:Array Bool} {lk:List Tmp} {o o':Oper} {ops:Array Oper} {t:Tmp} {tm:Array Value} {v':Value} {w0:World} {βK βb:Nat->Nat} {βo:Nat->Obj} {ν0:Nu}
theorem B7:∀ (v v':Value),tn v v'=true->v=v':=by
 intro v;refine Value.rec (motive_1:=λ v=>∀v',tn v v'=true->v=v') (motive_2:=λ a=>∀a',FD a a'=true->a=a') (motive_3:=λ l=>∀l',qG l l'=true->l=l')
  ?_ ?_ ?_ ?_ ?_ ?_ ?_ ?_ ?_ ?_ ?_ ?_ ?_ ?_ ?_ ?_ ?_ ?_ v
 case _=>intro b v' h;cases v' <;> simp[tn] at h;rw[h]
 case _=>
  intro k n v' h;cases v' <;> simp[tn] at h
  split at h
  ·rename_i e;simp at e h;rw[e,h]
  ·cases h
 case _=>intro k b v' h;cases v' <;> simp[tn] at h
 case _=>intro k b c v' h;cases v' <;> simp[tn] at h
 case _=>intro s v' h;cases v' <;> simp[tn] at h;rw[GT.1 h]
 case _=>intro a v' h;cases v' <;> simp[tn] at h;rw[h]
 case _=>
  intro a n c v' h;cases v' <;> simp[tn] at h
  split at h
  ·rename_i e1 e2 e3;simp at e1;rw[e1,abd e2,abd e3]
  ·cases h
 case _=>intro a v' h;cases v' <;> simp[tn] at h;rw[h]
 case _=>intro a v' h;cases v' <;> simp[tn] at h
 case _=>
  intro fn f c Yj Yi v' h;cases v' <;> simp[tn] at h
  split at h
  ·rename_i e1 e2;simp at e1;rw[e1,Yj _ e2,Yi _ h]
  ·cases h
 case _=>intro v' h;cases v' <;> simp[tn] at h;rfl
 case _=>
  intro t v ih v' h;cases v' <;> simp[tn] at h
  split at h
  ·rename_i e1;rw[abd e1,ih _ h]
  ·cases h
 case _=>intro v' h;cases v' <;> simp[tn] at h;rfl
 case _=>intro c ih v' h;cases v' <;> simp[tn] at h;rw[ih _ h]
 case _=>intro c ih v' h;cases v' <;> simp[tn] at h;rw[ih _ h]
 case _=>intro l ih a' h;obtain⟨l'⟩:=a';rw[ih l' (by simpa [FD] using h)]
 case _=>intro l' h;cases l' <;> simp[qG] at h;rfl
 case _=>
  intro v l Yj Yi l' h;cases l' with
  |nil=>simp[qG] at h
  |cons v' l'=>
   rw[qG] at h;split at h
   ·rename_i e;rw[Yj _ e,Yi _ h]
   ·cases h
theorem gU{l:List Nat}:jX i l=true↔i∈l:=by
 induction l with
 |nil=>simp[jX]
 |cons j l ih=>
  rw[jX];split
  ·rename_i e;simp[abd e]
  ·rename_i e;have:i≠j:=λ h=>by subst h;simp at e
   simp[ih,this]
theorem MB{α:Type}(l:List α)(i:Nat):Mt l i=l[i]?:=by
 induction l generalizing i with
 |nil=>rfl
 |cons v l ih=>cases i with
  |zero=>rfl
  |succ i=>simpa [Mt] using ih i
theorem pI{bs:List (List Nat)}:∀ {es:List Edge} {l:List Nat},BS bs es=some l->(∀e∈es,yX e=true->e.on<bs.length)/\∀x∈l,∃e∈es,yX e=true/\(x=e.on\/∃b,bs[e.on]?=some b/\x∈b)
 | [],l,h=>by rw[BS] at h;cases h;exact⟨λ e he=>(by cases he),λ x hx=>(by cases hx)⟩
 |e::es,l,h=>by
  rw[BS] at h;split at h
  ·cases h
  rename_i l0 h0;obtain⟨q1,q2⟩:=pI h0;split at h
  ·rename_i hb;cases h;refine⟨λ e' YP VB=>?_,λ x hx=>?_⟩
   ·rcases abL.1 YP with rfl|YP
    ·rw[hb] at VB;cases VB
    ·exact q1 e' YP VB
   ·obtain⟨e',h1,h2⟩:=q2 x hx;exact⟨e',aaD _ h1,h2⟩
  ·rename_i hb;split at h
   ·rename_i b hbs;cases h;rw[MB] at hbs;refine⟨λ e' YP VB=>?_,λ x hx=>?_⟩
    ·rcases abL.1 YP with rfl|YP
     ·exact(bt.1 hbs).1
     ·exact q1 e' YP VB
    ·rcases abL.1 hx with rfl|hx
     ·exact⟨e,aaC,hb,.inl rfl⟩
     ·rcases np.1 hx with hx|hx
      ·exact⟨e,aaC,hb,.inr ⟨b,hbs,hx⟩⟩
      ·obtain⟨e',h1,h2⟩:=q2 x hx;exact⟨e',aaD _ h1,h2⟩
   ·cases h
theorem vc:∀ {l:List Oper} {XZ bs:List (List Nat)},Jd l XZ=some bs->bs.length=XZ.length+l.length/\(∀i,i<XZ.length->bs[i]?=XZ[i]?)/\∀j (hj:j<l.length),∃b,bs[XZ.length+j]?=some b/\BS (bs.take (XZ.length+j)) (l[j].after.toList)=some b
 | [],XZ,bs,h=>by rw[Jd] at h;cases h;exact⟨by simp,λ _ _=>rfl,λ j hj=>(by simp at hj)⟩
 |o::l,XZ,bs,h=>by
  rw[Jd] at h;split at h
  ·rename_i b hb;obtain⟨q1,q2,q3⟩:=vc h;simp only[aaK,pt] at q1 q2 q3;have Uw:bs.take XZ.length=XZ:=by
    apply acg;intro i;rcases aa9 i XZ.length with hi|hi
    ·rw[acZ hi,q2 i (by omega),aa2 hi]
    ·rw[abQ (by rw[aaN];omega),abQ hi]
   refine⟨by simp;omega,λ i hi=>by rw[q2 i (by omega),aa2 hi],λ j hj=>?_⟩;cases j with
   |zero=>
    refine⟨b,?_,?_⟩
    ·rw[acK,q2 _ (by omega)];simp
    ·rw[acK,Uw];exact hb
   |succ j=>
    obtain⟨b',g1,g2⟩:=q3 j (by simpa using hj);have e:XZ.length+1+j=XZ.length+(j+1):=by omega
    rw[e] at g1 g2;exact⟨b',g1,g2⟩
  ·cases h
structure Stat(P:Program)(G:Nat)(ops:Array Oper)(bs:List (List Nat)):Prop where
 len:bs.length=ops.size
 ok:∀ (i:Nat) (o:Oper),ops[i]?=some o->nH G o=true/\∃l,looks ops o=some l
 pair:∀ (i j:Nat) (o o':Oper) (b':List Nat),i<j->ops[i]?=some o->ops[j]?=some o'->bs[j]?=some b'->sj P ops i o o' b'=true
 lt:∀ (i:Nat) (b:List Nat),bs[i]?=some b->∀x∈b,x<i
 dc:∀ (i:Nat) (o:Oper) (b:List Nat),ops[i]?=some o->bs[i]?=some b->∀x∈b,∃e∈o.after,Region.binds .any e=true/\(x=e.on\/∃b',bs[e.on]?=some b'/\x∈b')
 dir:∀ (i:Nat) (o:Oper) (b:List Nat),ops[i]?=some o->bs[i]?=some b->∀e∈o.after,Region.binds .any e=true->e.on<i
theorem zu(e:Edge):Region.binds .any e=yX e:=by
 unfold Region.binds yX;cases e.ground <;> rfl
theorem qo{P:Program}{ops:Array Oper}{o':Oper}{b':List Nat}:∀ {l:List Oper} {i:Nat},sk P ops o' b' i l=true->∀j (hj:j<l.length),sj P ops (i+j) l[j] o' b'=true
 | [],i,h,j,hj=>by simp at hj
 |o::l,i,h,j,hj=>by
  rw[sk] at h;split at h
  ·rename_i h1;cases j with
   |zero=>exact h1
   |succ j=>
    have:=qo h j (by simpa using hj);rw[show i+(j+1)=i+1+j from by omega];exact this
  ·cases h
theorem sG{P:Program}{G:Nat}{ops:Array Oper}{all:List Oper}:∀ {l:List Oper} {bs:List (List Nat)} {i:Nat},uN P G ops all i l bs=true->bs.length=l.length/\∀j (hj:j<l.length),∃b,bs[j]?=some b/\nH G l[j]=true/\sk P ops l[j] b 0 (all.take (i+j))=true/\(looks ops l[j]).isSome=true
 | [],[],i,h=>⟨rfl,λ j hj=>by simp at hj⟩
 | [],_::_,i,h=>by simp[uN] at h
 |_::_,[],i,h=>by simp[uN] at h
 |o::l,b::bs,i,h=>by
  rw[uN] at h;split at h
  ·rename_i h1 h2 h3;obtain⟨q1,q2⟩:=sG h;refine⟨by simp[q1],λ j hj=>?_⟩;cases j with
   |zero=>exact⟨b,rfl,h1,h2,h3⟩
   |succ j=>
    obtain⟨b',g1,g2,g3,g4⟩:=q2 j (by simpa using hj);refine⟨b',by simpa using g1,g2,?_,g4⟩;rw[show i+(j+1)=i+1+j from by omega];exact g3
  ·cases h
theorem zw{P:Program}{G:Nat}{bs:List (List Nat)}(h:BT P G ops=some bs):Stat P G ops bs:=by
 unfold BT at h;split at h
 case h_2=>cases h
 rename_i bs' hb;split at h
 case h_2=>cases h
 rename_i hs;cases h;obtain⟨q1,-,q3⟩:=vc hb;obtain⟨p1,p2⟩:=sG hs;simp only[adl,abP] at q1 q3;have iN:∀ {i:Nat} {o:Oper},ops[i]?=some o->∃hi:i<ops.toList.length,ops.toList[i]=o:=λ {i o} h=>by
  obtain⟨h1,h2⟩:=fx.1 h;exact⟨by simpa using h1,by simpa using h2⟩
 have hbe:∀ {i:Nat} {o:Oper} {b:List Nat},ops[i]?=some o->bs[i]?=some b->BS (bs.take i) o.after.toList=some b:=λ {i o b} ho hb=>by
  obtain⟨hi,ID⟩:=iN ho;obtain⟨b',g1,g2⟩:=q3 i hi;rw[g1] at hb;cases hb;rw[ID] at g2;exact g2
 have hdc:∀ (i:Nat) (o:Oper) (b:List Nat),ops[i]?=some o->bs[i]?=some b->∀x∈b,∃e∈o.after,Region.binds .any e=true/\(x=e.on\/∃b',bs[e.on]?=some b'/\x∈b'):=λ i o b ho hb x hx=>by
  obtain⟨e,h1,h2,h3⟩:=(pI (hbe ho hb)).2 x hx;refine⟨e,by simpa using h1,by rw[zu];exact h2,?_⟩;rcases h3 with h3|⟨b',h4,h5⟩
  ·exact .inl h3
  ·have:=(bt.1 h4).1;rw[acZ (by rw[aaN] at this;omega)] at h4;exact .inr ⟨b',h4,h5⟩
 have aeO:∀ (i:Nat) (o:Oper) (b:List Nat),ops[i]?=some o->bs[i]?=some b->∀e∈o.after,Region.binds .any e=true->e.on<i:=λ i o b ho hb e he ae0=>by
  have:=(pI (hbe ho hb)).1 e (by simpa using he) (by rw[<- zu];exact ae0);rw[aaN] at this;omega
 refine⟨by rw[q1];simp,λ i o ho=>?_,λ i j o o' b' VL ho ID VB=>?_,?_,hdc,aeO⟩
 ·obtain⟨hi,ID⟩:=iN ho;obtain⟨b,-,g2,-,g4⟩:=p2 i hi;rw[ID] at g2 g4;exact⟨g2,adb.1 g4⟩
 ·obtain⟨hj,hoj⟩:=iN ID;obtain⟨hi,hoi⟩:=iN ho;obtain⟨b,g1,-,g3,-⟩:=p2 j hj;rw[g1] at VB;cases VB;rw[hoj,abP] at g3;have:=qo g3 i (by rw[aaN];omega);simpa [hoi] using this
 ·intro i
  induction i using Nat.strongRecOn with
  |_ i ih=>
   intro b hb x hx;have W4:i<ops.size:=by
    have:=(bt.1 hb).1;rw[q1] at this;simpa using this
   have ho:ops[i]?=some ops[i]:=sv W4;obtain⟨e,h1,h2,h3⟩:=hdc i _ b ho hb x hx;have aen:=aeO i _ b ho hb e h1 h2;rcases h3 with rfl|⟨b',h4,h5⟩
   ·exact aen
   ·have:=ih _ aen b' h4 x h5;omega
section dr
variable {ν ν':Nu} {P:Program} {G N:Nat} {T T':Tr Value} {a:Act} {H H':AH} {F:HL} {w w':World} {r r':Option Nat} {ih:Task->Option Rs}
inductive DK(P:Program)(G:Nat)(ih:Task->Option Rs)(r:Option Nat)(N:Nat)(ops:Array Oper)(i:Nat)(o:Oper)(b:List Nat)(s:DSt):Value->DSt->Prop
 |no (T:Tr Value):eD ops o s.T=some false->fm N o.dst undef s.T=some T->DK P G ih r N ops i o b s undef { s with T:=T }
 |pu (v:Value) (T:Tr Value):eD ops o s.T=some true->tj P o.op=.pu->gQ P o s.T=some v->fm N o.dst v s.T=some T->DK P G ih r N ops i o b s v { s with T:=T }
 |lo (v:Value) (T:Tr Value):eD ops o s.T=some true->tj P o.op=.lo->jy P o s.T s.H=some v->fm N o.dst v s.T=some T->DK P G ih r N ops i o b s v { s with T:=T,lds:=⟨i,o,b,s.T,v⟩::s.lds }
 |nw (bl:AB) (m:Mk) (T:Tr Value):eD ops o s.T=some true->tj P o.op=.nw->tM P o s.T=some (bl,m)->fm N o.dst (m.val s.n) s.T=some T->DK P G ih r N ops i o b s (m.val s.n) { s with T:=T,n:=s.n+1,pend:=s.pend++[(s.n,bl)] }
 |ef (v:Value) (H':AH) (n':Nat) (T:Tr Value):eD ops o s.T=some true->tj P o.op=.ef->jW P G ih r o s.T (hZ s.H s.pend) s.n=some (.val v H' n')->fm N o.dst v s.T=some T->DK P G ih r N ops i o b s v { s with T:=T,H:=H',n:=n',pend:=[],stg:=s.stg++[(i,b,H')] }
theorem Jy{s s':DSt}(h:Th P G ih r N ops i o b s=some s'):∃v,DK P G ih r N ops i o b s v s':=by
 unfold Th at h;split at h
 ·cases h
 ·rename_i hw;split at h
  ·rename_i T1 hp;cases h;exact⟨_,.no _ hw hp⟩
  ·cases h
 ·rename_i hw;split at h
  ·rename_i hc;split at h
   ·rename_i v hv;split at h
    ·rename_i T1 hp;cases h;exact⟨_,.pu _ _ hw hc hv hp⟩
    ·cases h
   ·cases h
  ·rename_i hc;split at h
   ·rename_i v hv;split at h
    ·rename_i T1 hp;cases h;exact⟨_,.lo _ _ hw hc hv hp⟩
    ·cases h
   ·cases h
  ·rename_i hc;split at h
   ·rename_i bl m hv;split at h
    ·rename_i T1 hp;cases h;exact⟨_,.nw _ _ _ hw hc hv hp⟩
    ·cases h
   ·cases h
  ·rename_i hc;simp only at h;split at h
   ·rename_i v H' n' hv;split at h
    ·rename_i T1 hp;cases h;exact⟨_,.ef _ _ _ _ hw hc hv hp⟩
    ·cases h
   ·cases h
theorem sH{ops:Array Oper}:∀ {l:List Oper} {bs:List (List Nat)} {k:Nat} {s d:DSt},yY P G ih r N ops k l bs s=some d->bs.length=l.length->∃ (σ:Nat->DSt) (V:Nat->Value),σ k=s/\σ (k+l.length)=d/\∀j (hj:j<l.length),∃b,bs[j]?=some b/\DK P G ih r N ops (k+j) l[j] b (σ (k+j)) (V (k+j)) (σ (k+j+1))
 | [],bs,k,s,d,h,hl=>by
  rw[yY] at h;cases h;exact⟨λ _=>s,λ _=>undef,rfl,rfl,λ j hj=>(by simp at hj)⟩
 |o::l,[],k,s,d,h,hl=>by simp at hl
 |o::l,b::bs,k,s,d,h,hl=>by
  rw[yY] at h;split at h
  ·rename_i s1 h1;obtain⟨v,hv⟩:=Jy h1;obtain⟨σ,V,e1,e2,e3⟩:=sH h (by simpa using hl);refine⟨λ x=>if x=k then s else σ x,λ x=>if x=k then v else V x,if_pos rfl,?_,λ j hj=>?_⟩
   ·simp only[aaZ];rw[if_neg (by omega),<- e2];congr 1;omega
   ·cases j with
    |zero=>
     refine⟨b,rfl,?_⟩;simp only[acK,if_true];rw[if_neg (by omega),e1];exact hv
    |succ j=>
     obtain⟨b',g1,g2⟩:=e3 j (by simpa using hj);refine⟨b',by simpa using g1,?_⟩;simp only;rw[if_neg (by omega),if_neg (by omega),if_neg (by omega)];have e:k+(j+1)=k+1+j:=by omega
     rw[e];exact g2
  ·cases h
theorem MC(By:kD P G ih){n n':Nat}{v:Value}{H':AH}(n_:jW P G ih r o T H n=some (.val v H' n')):n<=n':=by
 unfold jW at n_;split at n_
 ·cases n_
 rename_i y hy;split at n_
 ·cases n_;exact wD hy
 ·split at n_
  ·rename_i hc;cases n_;exact(By _ _ hc).1
  ·cases n_
 ·split at n_
  case h_2=>cases n_
  split at n_
  case h_2=>cases n_
  split at n_
  ·rename_i hc;cases n_;exact(By _ _ hc).1
  ·cases n_
 ·split at n_ <;> cases n_
 ·cases n_
theorem lJ{dst:Option Tmp}{v:Value}(h:fm N dst v T=some T'):(∀t,cK T' t=if dst=some t then v else cK T t)/\∀d,dst=some d->d<N:=by
 unfold fm at h;split at h
 ·cases h;exact⟨λ t=>by simp,λ d e=>(by cases e)⟩
 ·rename_i d;split at h
  ·rename_i hd;cases h;refine⟨λ t=>?_,λ d' e=>by cases e;exact dF hd⟩;unfold cK tK;rw[jb];simp
  ·cases h
structure Tra(P:Program)(G:Nat)(ih:Task->Option Rs)(r:Option Nat)(N:Nat)(ops:Array Oper)(bs:List (List Nat))(σ:Nat->DSt)(V:Nat->Value):Prop where
 st:Stat P G ops bs
 stp:∀ (i:Nat) (o:Oper) (b:List Nat),ops[i]?=some o->bs[i]?=some b->DK P G ih r N ops i o b (σ i) (V i) (σ (i+1))
def kE(P:Program)(ops:Array Oper)(σ:Nat->DSt)(i:Nat):Prop:=∃o,ops[i]?=some o/\eD ops o (σ i).T=some true/\tj P o.op=.ef
def kA(P:Program)(ops:Array Oper)(σ:Nat->DSt)(i:Nat):Prop:=∃o,ops[i]?=some o/\eD ops o (σ i).T=some true/\tj P o.op=.nw
section tra
variable {ops:Array Oper} {bs:List (List Nat)} {σ:Nat->DSt} {V:Nat->Value}
theorem Tra.bef(h:Tra P G ih r N ops bs σ V)(ho:ops[i]?=some o):∃b,bs[i]?=some b:=by
 have h1:=(fx.1 ho).1;exact⟨_,aa1 (by rw[h.st.len];exact h1)⟩
theorem Tra.at(h:Tra P G ih r N ops bs σ V)(hi:i<ops.size):∃o b,ops[i]?=some o/\bs[i]?=some b/\DK P G ih r N ops i o b (σ i) (V i) (σ (i+1)):=by
 have ho:ops[i]?=some ops[i]:=sv hi;obtain⟨b,hb⟩:=h.bef ho;exact⟨_,b,ho,hb,h.stp i _ b ho hb⟩
theorem Tra.notE(h:Tra P G ih r N ops bs σ V)(hi:i<ops.size)(hn:¬ kE P ops σ i):(σ (i+1)).H=(σ i).H/\(σ (i+1)).stg=(σ i).stg:=by
 obtain⟨o,b,ho,hb,hk⟩:=h.at hi;generalize Ug:σ (i+1)=s' at hk ⊢;generalize V i=v at hk;cases hk with
 |ef v H' n' T hw hc _ _=>exact(hn ⟨o,ho,hw,hc⟩).elim
 |_=>exact⟨rfl,rfl⟩
theorem Tra.notA(h:Tra P G ih r N ops bs σ V)(hi:i<ops.size)(hn:¬ kE P ops σ i)(hn2:¬ kA P ops σ i):(σ (i+1)).pend=(σ i).pend/\(σ (i+1)).n=(σ i).n:=by
 obtain⟨o,b,ho,hb,hk⟩:=h.at hi;generalize Ug:σ (i+1)=s' at hk ⊢;generalize V i=v at hk;cases hk with
 |ef v H' n' T hw hc _ _=>exact(hn ⟨o,ho,hw,hc⟩).elim
 |nw bl m T hw hc _ _=>exact(hn2 ⟨o,ho,hw,hc⟩).elim
 |_=>exact⟨rfl,rfl⟩
theorem Tra.isA(h:Tra P G ih r N ops bs σ V)(hA:kA P ops σ i):∃o bl m,ops[i]?=some o/\tM P o (σ i).T=some (bl,m)/\V i=m.val (σ i).n/\(σ (i+1)).n=(σ i).n+1/\(σ (i+1)).pend=(σ i).pend++[((σ i).n,bl)]:=by
 obtain⟨o,ho,hw,hc⟩:=hA;obtain⟨b,hb⟩:=h.bef ho;have hk:=h.stp i o b ho hb;generalize Ug:σ (i+1)=s' at hk ⊢;generalize hv:V i=v at hk ⊢;cases hk with
 |no T hw' _=>rw[hw] at hw';cases hw'
 |pu v T _ Vl _ _=>rw[hc] at Vl;cases Vl
 |lo v T _ Vl _ _=>rw[hc] at Vl;cases Vl
 |ef v H' n' T _ Vl _ _=>rw[hc] at Vl;cases Vl
 |nw bl m T _ _ hn _=>exact⟨o,bl,m,ho,hn,rfl,rfl,rfl⟩
theorem Tra.isE(h:Tra P G ih r N ops bs σ V)(hE:kE P ops σ i):∃o b,ops[i]?=some o/\bs[i]?=some b/\tj P o.op=.ef/\eD ops o (σ i).T=some true/\jW P G ih r o (σ i).T (hZ (σ i).H (σ i).pend) (σ i).n=some (.val (V i) (σ (i+1)).H (σ (i+1)).n)/\(σ (i+1)).pend=[]/\(σ (i+1)).stg=(σ i).stg++[(i,b,(σ (i+1)).H)]:=by
 obtain⟨o,ho,hw,hc⟩:=hE;obtain⟨b,hb⟩:=h.bef ho;have hk:=h.stp i o b ho hb;generalize Ug:σ (i+1)=s' at hk ⊢;generalize hv:V i=v at hk ⊢;cases hk with
 |no T hw' _=>rw[hw] at hw';cases hw'
 |pu v T _ Vl _ _=>rw[hc] at Vl;cases Vl
 |lo v T _ Vl _ _=>rw[hc] at Vl;cases Vl
 |nw bl m T _ Vl _ _=>rw[hc] at Vl;cases Vl
 |ef v H' n' T _ _ n_ _=>exact⟨o,b,ho,hb,hc,hw,n_,rfl,rfl⟩
theorem Tra.put(h:Tra P G ih r N ops bs σ V)(ho:ops[i]?=some o):fm N o.dst (V i) (σ i).T=some (σ (i+1)).T:=by
 obtain⟨b,hb⟩:=h.bef ho;have hk:=h.stp i o b ho hb;generalize Ug:σ (i+1)=s' at hk ⊢;generalize hv:V i=v at hk ⊢;cases hk <;> assumption
theorem Tra.nle(h:Tra P G ih r N ops bs σ V)(By:kD P G ih)(hi:i<ops.size):(σ i).n<=(σ (i+1)).n:=by
 obtain⟨o,b,ho,hb,hk⟩:=h.at hi;generalize Ug:σ (i+1)=s' at hk ⊢;generalize hv:V i=v at hk;cases hk with
 |ef v H' n' T hw hc n_ _=>exact MC By n_
 |nw bl m T _ _ _ _=>exact Nat.le_succ _
 |_=>exact aaI _
theorem Tra.nles(h:Tra P G ih r N ops bs σ V)(By:kD P G ih):∀ {i j:Nat},i<=j->j<=ops.size->(σ i).n<=(σ j).n:=by
 intro i j VL
 induction j with
 |zero=>
  intro _;obtain rfl:i=0:=by omega
  exact aaI _
 |succ j ZE=>
  intro hj;rcases aa9 i (j+1) with e|e
  ·exact aeW (ZE (by omega) (by omega)) (h.nle By (by omega))
  ·obtain rfl:i=j+1:=by omega
   exact aaI _
theorem Tra.Hsame(h:Tra P G ih r N ops bs σ V):∀ {j:Nat},q<=j->j<=ops.size->(∀k,q<=k->k<j->¬ kE P ops σ k)->(σ j).H=(σ q).H/\(σ j).stg=(σ q).stg:=by
 intro j hq
 induction j with
 |zero=>
  intro _ _;obtain rfl:q=0:=by omega
  exact⟨rfl,rfl⟩
 |succ j ZE=>
  intro hj hn;rcases aa9 q (j+1) with e|e
  ·obtain⟨h1,h2⟩:=ZE (by omega) (by omega) (λ k a b=>hn k a (by omega));obtain⟨h3,h4⟩:=h.notE (i:=j) (by omega) (hn j (by omega) (by omega));exact⟨h3.trans h1,h4.trans h2⟩
  ·obtain rfl:q=j+1:=by omega
   exact⟨rfl,rfl⟩
theorem Stat.dst(h:Stat P G ops bs)(ho:ops[i]?=some o)(ID:ops[j]?=some o')(hd:o.dst=some t)(Ws:o'.dst=some t):i=j:=by
 have key:∀ {i j:Nat} {o o':Oper},i<j->ops[i]?=some o->ops[j]?=some o'->o.dst=some t->o'.dst=some t->False:=by
  intro i j o o' VL ho ID hd Ws;have hb:∃b',bs[j]?=some b':=⟨_,aa1 (by rw[h.len];exact(fx.1 ID).1)⟩;obtain⟨b',VB⟩:=hb;have hp:=h.pair i j o o' b' VL ho ID VB;unfold sj at hp;split at hp
  ·rw[hd,Ws] at hp;simp at hp
  ·split at hp
   ·cases hp
   ·split at hp
    ·rw[hd,Ws] at hp;simp at hp
    ·cases hp
 rcases aem i j with e|e|e
 ·exact(key e ho ID hd Ws).elim
 ·exact e
 ·exact(key e ID ho Ws hd).elim
theorem Tra.Tno(h:Tra P G ih r N ops bs σ V):∀ {i:Nat},i<=ops.size->(∀k o,k<i->ops[k]?=some o->o.dst≠some t)->cK (σ i).T t=cK (σ 0).T t:=by
 intro i
 induction i with
 |zero=>intro _ _;rfl
 |succ i ihi=>
  intro hi hn;obtain⟨o,b,ho,hb,hk⟩:=h.at (i:=i) (by omega);rw[(lJ (h.put ho)).1 t,if_neg (hn i o (by omega) ho)];exact ihi (by omega) (λ k o hk=>hn k o (by omega))
theorem Tra.Tyes(h:Tra P G ih r N ops bs σ V)(ho:ops[j]?=some o)(hd:o.dst=some t):∀ {i:Nat},j<i->i<=ops.size->cK (σ i).T t=V j:=by
 intro i
 induction i with
 |zero=>intro hj;omega
 |succ i ihi=>
  intro hj hi;obtain⟨o',b,ID,hb,hk⟩:=h.at (i:=i) (by omega);rw[(lJ (h.put ID)).1 t]
  by_cases e:i=j
  ·subst e;rw[ho] at ID;cases ID;rw[if_pos hd]
  ·rw[if_neg (λ Ws=>e (h.st.dst ID ho Ws hd))];exact ihi (by omega) (by omega)
inductive Rch:List Nat->AH->List (Nat×List Nat×AH)->List Nat->AH->List (Nat×List Nat×AH)->Prop
 |here (be:List Nat) (H:AH) (l:List (Nat×List Nat×AH)):Rch be H l be H l
 |next {be be' be'':List Nat} {H H' H'':AH} {e:Nat} {l l':List (Nat×List Nat×AH)}:Rch be' H' l be'' H'' l'->Rch be H ((e,be',H')::l) be'' H'' l'
theorem Rch.snoc{H H' h:AH}{e:Nat}{l l':List (Nat×List Nat×AH)}(hr:Rch be H l be' H' ((e,b,h)::l')):Rch be H l b h l':=by
 generalize hx:(e,b,h)::l'=x at hr
 induction hr with
 |here be H l=>subst hx;exact .next (.here _ _ _)
 |next _ ih=>exact .next (ih hx)
theorem FQ{d:DLd}{H H':AH}{l l':List (Nat×List Nat×AH)}(h:tN P d be H l=true)(hr:Rch be H l be' H' l'):d.i∈be'\/(∃e b h x,l'=(e,b,h)::x/\e∈d.b)\/SC P d H'=true:=by
 induction hr with
 |here be H l=>
  cases l with
  |nil=>
   rw[tN] at h;split at h
   ·rename_i e;exact .inl (gU.1 e)
   ·exact .inr (.inr h)
  |cons x l=>
   obtain⟨e,b,hh⟩:=x;rw[tN] at h;split at h
   ·rename_i e1;rw[Bool.or_eq_true] at e1;rcases e1 with e1|e1
    ·exact .inl (gU.1 e1)
    ·exact .inr (.inl ⟨e,b,hh,l,rfl,gU.1 e1⟩)
   ·split at h
    ·rename_i e2;exact .inr (.inr e2)
    ·cases h
 |next _ ih=>
  rw[tN] at h;split at h
  ·exact ih h
  ·split at h
   ·exact ih h
   ·cases h
theorem sI{H:AH}{stg:List (Nat×List Nat×AH)}:∀ {l:List DLd},Dg P H stg l=true->∀d∈l,tN P d [] H stg=true
 | [],_,d,hd=>by cases hd
 |x::l,h,d,hd=>by
  rw[Dg] at h;split at h
  ·rename_i e;rcases abL.1 hd with rfl|hd
   ·exact e
   ·exact sI h d hd
  ·cases h
theorem Tra.rch(h:Tra P G ih r N ops bs σ V)(h0:(σ 0).stg=[]):∀ {i:Nat},i<=ops.size->∃be,(∀rest,Rch [] (σ 0).H ((σ i).stg++rest) be (σ i).H rest)/\(be=[]\/∃e,e<i/\kE P ops σ e/\bs[e]?=some be/\∀k,e<k->k<i->¬ kE P ops σ k):=by
 intro i
 induction i with
 |zero=>intro _;exact⟨[],λ rest=>by rw[h0];exact .here _ _ _,.inl rfl⟩
 |succ i ihi=>
  intro hi;obtain⟨be,h1,h2⟩:=ihi (by omega)
  by_cases hE:kE P ops σ i
  ·obtain⟨o,b,ho,hb,hc,hw,n_,hp,hs⟩:=h.isE hE;refine⟨b,λ rest=>?_,.inr ⟨i,by omega,hE,hb,λ k a b=>by omega⟩⟩;rw[hs,aaF];exact(h1 _).snoc
  ·obtain⟨e1,e2⟩:=h.notE (i:=i) (by omega) hE;refine⟨be,λ rest=>by rw[e1,e2];exact h1 rest,?_⟩;rcases h2 with h2|⟨e,g1,g2,g3,g4⟩
   ·exact .inl h2
   ·refine .inr ⟨e,by omega,g2,g3,λ k a b=>?_⟩;rcases aa9 k i with hk|hk
    ·exact g4 k a hk
    ·obtain rfl:k=i:=by omega
     exact hE
theorem Tra.stgs(h:Tra P G ih r N ops bs σ V):∀ {j:Nat},q<=j->j<=ops.size->∃rest,(σ j).stg=(σ q).stg++rest/\(rest=[]\/∃e b hh l,rest=(e,b,hh)::l/\q<=e/\kE P ops σ e):=by
 intro j hq
 induction j with
 |zero=>
  intro _;obtain rfl:q=0:=by omega
  exact⟨[],by simp,.inl rfl⟩
 |succ j ZE=>
  intro hj;rcases aa9 q (j+1) with e|e
  ·obtain⟨rest,h1,h2⟩:=ZE (by omega) (by omega)
   by_cases hE:kE P ops σ j
   ·obtain⟨o,b,ho,hb,hc,hw,n_,hp,hs⟩:=h.isE hE;refine⟨rest++[(j,b,(σ (j+1)).H)],by rw[hs,h1,aaF],.inr ?_⟩;rcases h2 with rfl|⟨e,b',hh,l,rfl,g2,g3⟩
    ·exact⟨j,b,_,[],rfl,by omega,hE⟩
    ·exact⟨e,b',hh,_,rfl,g2,g3⟩
   ·obtain⟨e1,e2⟩:=h.notE (i:=j) (by omega) hE;exact⟨rest,by rw[e2,h1],h2⟩
  ·obtain rfl:q=j+1:=by omega
   exact⟨[],by simp,.inl rfl⟩
theorem Tra.lds(h:Tra P G ih r N ops bs σ V){d:DLd}:∀ {j:Nat},i<=j->j<=ops.size->d∈(σ i).lds->d∈(σ j).lds:=by
 intro j VL
 induction j with
 |zero=>
  intro _ hd;obtain rfl:i=0:=by omega
  exact hd
 |succ j ZE=>
  intro hj hd;rcases aa9 i (j+1) with e|e
  ·have h1:=ZE (by omega) (by omega) hd;obtain⟨o,b,ho,hb,hk⟩:=h.at (i:=j) (by omega);generalize Ug:σ (j+1)=s' at hk ⊢;generalize hv:V j=v at hk;cases hk <;> first|exact h1|exact aaD _ h1
  ·obtain rfl:i=j+1:=by omega
   exact hd
theorem Tra.opnd(h:Tra P G ih r N ops bs σ V)(ani:tm.size=N)
  (dc:∀i b,S i->bs[i]?=some b->∀x∈b,S x)
  (tA:∀j o t,S j->ops[j]?=some o->o.dst=some t->∃v',tm[t]?=some v'/\VRi ν (V j) v')
  (tB:∀t,t<N->(∀j o,S j->ops[j]?=some o->o.dst≠some t)->∃v',tm[t]?=some v'/\VRi ν (cK (σ 0).T t) v')
  (tO:∀t,N<=t->cK (σ 0).T t=undef) (ho:ops[i]?=some o) (hb:bs[i]?=some b) (hi:¬ S i) (W5:∀x∈b,S x) {l:List Tmp} (hl:looks ops o=some l) (ht:t∈l) :
  (∃v',tm[t]?=some v'/\VRi ν (cK (σ i).T t) v')\/(tm[t]?=none/\cK (σ i).T t=undef):=by
 have him:i<ops.size:=(fx.1 ho).1
 by_cases hj:∃ (j:Nat) (o':Oper),ops[j]?=some o'/\o'.dst=some t
 ·obtain⟨j,o',ID,hd⟩:=hj;have hjm:j<ops.size:=(fx.1 ID).1;have htN:t<N:=(lJ (h.put ID)).2 t hd;have uniq:∀k o2,ops[k]?=some o2->o2.dst=some t->k=j:=λ k o2 h1 h2=>h.st.dst h1 ID h2 hd;rcases aem j i with e|e|e
  ·have hp:=h.st.pair j i o' o b e ID ho hb
   by_cases hm:jX j b=true
   ·have hS:=W5 j (gU.1 hm);rw[h.Tyes ID hd e (by omega)];exact .inl (tA j o' t hS ID hd)
   ·exfalso;have hm':jX j b=false:=by simpa using hm
    have hmt:jX t l=true:=gU.2 ht;obtain⟨l',Xi⟩:=(h.st.ok j o' ID).2;unfold sj at hp;rw[hm'] at hp;simp only[hl,Xi,hd] at hp;split at hp
    ·cases hp
    ·cases hdo:o.dst <;> simp[hdo,hmt] at hp
  ·subst e;rw[ho] at ID;cases ID;rw[h.Tno (by omega) (λ k o2 hk h1 h2=>by have:=uniq k o2 h1 h2;omega)];exact .inl (tB t htN (λ k o2 hS h1 h2=>by have:=uniq k o2 h1 h2;subst this;exact hi hS))
  ·obtain⟨b',VB⟩:=h.bef ID;have hp:=h.st.pair i j o o' b' e ho ID VB
   by_cases hm:jX i b'=true
   ·have hnS:¬ S j:=λ hS=>hi (dc j b' hS VB i (gU.1 hm));rw[h.Tno (by omega) (λ k o2 hk h1 h2=>by have:=uniq k o2 h1 h2;omega)];exact .inl (tB t htN (λ k o2 hS h1 h2=>by have:=uniq k o2 h1 h2;subst this;exact hnS hS))
   ·exfalso;have hm':jX i b'=false:=by simpa using hm
    have hmt:jX t l=true:=gU.2 ht;obtain⟨l',Xi⟩:=(h.st.ok j o' ID).2;unfold sj at hp;rw[hm'] at hp;simp only[hl,Xi,hd] at hp;split at hp
    ·cases hp
    ·cases hdo:o.dst <;> simp[hdo,hmt] at hp
 ·have VJ:∀ (k:Nat) (o2:Oper),ops[k]?=some o2->o2.dst≠some t:=λ k o2 h1 h2=>hj ⟨k,o2,h1,h2⟩;rw[h.Tno (by omega) (λ k o2 _ h1=>VJ k o2 h1)];rcases aa9 t N with e|e
  ·exact .inl (tB t e (λ k o2 _ h1=>VJ k o2 h1))
  ·exact .inr ⟨ac6 (by omega),tO t e⟩
theorem HR.mono(hH:HR ν H F w)(hl:ν.Le ν'):HR ν' H F w:=by
 have key:∀h b r K,bS H h=some b->ν' h=some (r,K)->ν h=some (r,K):=λ h b r K hb hν=>by
  obtain⟨r',K',o,h1,-⟩:=hH.blk h b hb;rw[hl _ _ h1] at hν;rw[h1,hν]
 exact⟨λ h b hb=>let ⟨r,K,o,h1,h2,h3⟩:=hH.blk h b hb;⟨r,K,o,hl _ _ h1,h2,h3.mono hl⟩,λ h1 h2 b1 b2 r K1 K2 e1 e2 e3 e4=>hH.inj _ _ _ _ _ _ _ e1 e2 (key _ _ _ _ e1 e3) (key _ _ _ _ e2 e4),hH.frm,λ h b r K e1 e2=>hH.apt h b r K e1 (key _ _ _ _ e1 e2)⟩
theorem HR.less{F':HL}(hH:HR ν H F w)(h:∀x∈F',x∈F):HR ν H F' w:=⟨hH.blk,hH.inj,λ x hx=>hH.frm x (h x hx),λ k b r K e1 e2 x hx=>hH.apt k b r K e1 e2 x (h x hx)⟩
theorem HR.place(hH:HR ν H F w){n r K:Nat}{b:AB}{o:Obj}(hn:ν n=some (r,K))(hr:w.heap[r]?=some o)(ho:OR ν K b o)(hF:∀x∈F,x.1≠r)(Xk:∀k b' r' K',bS H k=some b'->ν k=some (r',K')->r'≠r):HR ν (cJ H n (some b)) F w:=by
 have AT:∀k b',bS (cJ H n (some b)) k=some b'->k≠n->bS H k=some b':=λ k b' hk u_=>by
  rw[dt,if_neg (Ne.symm u_)] at hk;exact hk
 refine⟨λ k b' hk=>?_,λ k1 k2 b1 b2 q K1 K2 h1 h2 h3 h4=>?_,hH.frm,λ k b' q K' hk hq x hx=>?_⟩
 ·by_cases e:k=n
  ·subst e;rw[dt,if_pos rfl] at hk;cases hk;exact⟨r,K,o,hn,hr,ho⟩
  ·exact hH.blk k b' (AT k b' hk e)
 ·by_cases e1:k1=n
  ·by_cases e2:k2=n
   ·rw[e1,e2]
   ·subst e1;rw[hn] at h3;cases h3;exact(Xk _ _ _ _ (AT _ _ h2 e2) h4 rfl).elim
  ·by_cases e2:k2=n
   ·subst e2;rw[hn] at h4;cases h4;exact(Xk _ _ _ _ (AT _ _ h1 e1) h3 rfl).elim
   ·exact hH.inj _ _ _ _ _ _ _ (AT _ _ h1 e1) (AT _ _ h2 e2) h3 h4
 ·by_cases e:k=n
  ·subst e;rw[hn] at hq;cases hq;exact hF x hx
  ·exact hH.apt _ _ _ _ (AT _ _ hk e) hq x hx
theorem zx(H:AH):∀ (l:List (Nat×AB)) (h:Nat) (b:AB),hZ H (l++[(h,b)])=cJ (hZ H l) h (some b):=by
 intro l
 induction l generalizing H with
 |nil=>intro h b;rfl
 |cons x l ih=>obtain⟨h',b'⟩:=x;intro h b;exact ih _ h b
theorem Jz(a:Act)(dst:Option Tmp)(v:Value)(t:Nat):(a.put dst v).tmps[t]?=if dst=some t then (if t<a.tmps.size then some v else none) else a.tmps[t]?:=by
 cases dst with
 |none=>simp[Act.put]
 |some d=>
  simp only[Act.put,de];rw[adk]
  by_cases e:d=t
  ·subst e;simp
  ·simp[e]
theorem JA(a:Act)(dst:Option Tmp)(v:Value):(a.put dst v).tmps.size=a.tmps.size:=by cases dst <;> simp[Act.put]
structure Pen(P:Program)(ops:Array Oper)(σ:Nat->DSt)(S:Nat->Prop)(F:HL)(ν:Nu)(w:World)(q:Nat)(βb βK:Nat->Nat)(βo:Nat->Obj):Prop where
 be:∀k,kA P ops σ k->S k->q<=k->ν (σ k).n=some (βb k,βK k)/\w.heap[βb k]?=some (βo k)/\∀o bl m,ops[k]?=some o->tM P o (σ k).T=some (bl,m)->OR ν (βK k) bl (βo k)
 bi:∀k k',kA P ops σ k->S k->q<=k->kA P ops σ k'->S k'->q<=k'->k≠k'->βb k≠βb k'
 bf:∀k,kA P ops σ k->S k->q<=k->∀x∈F,x.1≠βb k
 bh:∀k,kA P ops σ k->S k->q<=k->∀h b r K,bS (σ q).H h=some b->ν h=some (r,K)->r≠βb k
theorem Tra.placed(h:Tra P G ih r N ops bs σ V)(hp:Pen P ops σ S F ν w q βb βK βo)(hH:HR ν (σ q).H F w)(hq0:(σ q).pend=[]):∀ {j:Nat},q<=j->j<=ops.size->(∀k,q<=k->k<j->¬ kE P ops σ k)->(∀k,q<=k->k<j->kA P ops σ k->S k)->
  HR ν (hZ (σ q).H (σ j).pend) F w/\∀hd b r K,bS (hZ (σ q).H (σ j).pend) hd=some b->ν hd=some (r,K)->∀k,kA P ops σ k->S k->j<=k->r≠βb k:=by
 intro j hq
 induction j with
 |zero=>
  intro _ _ _;obtain rfl:q=0:=by omega
  rw[hq0];exact⟨hH,λ hd b r K e1 e2 k k1 k2 k3=>hp.bh k k1 k2 k3 hd b r K e1 e2⟩
 |succ j ZE=>
  intro hj hnE hA;rcases aa9 q (j+1) with e|e
  ·obtain⟨g1,g2⟩:=ZE (by omega) (by omega) (λ k a b=>hnE k a (by omega)) (λ k a b=>hA k a (by omega));have hE:=hnE j (by omega) (by omega)
   by_cases hAj:kA P ops σ j
   ·obtain⟨o,bl,m,ho,hn,hv,hnn,hpd⟩:=h.isA hAj;have hS:=hA j (by omega) (by omega) hAj;obtain⟨b1,b2,b3⟩:=hp.be j hAj hS (by omega);rw[hpd,zx];refine⟨g1.place b1 b2 (b3 o bl m ho hn) (hp.bf j hAj hS (by omega)) (λ k b' r' K' e1 e2=>g2 k b' r' K' e1 e2 j hAj hS (aaI _)),λ hd b r K e1 e2 k k1 k2 k3=>?_⟩;rw[dt] at e1;split at e1
    ·rename_i e3;subst e3;rw[b1] at e2;cases e2;exact hp.bi j k hAj hS (by omega) k1 k2 (by omega) (by omega)
    ·exact g2 hd b r K e1 e2 k k1 k2 (by omega)
   ·obtain⟨e1,e2⟩:=h.notA (i:=j) (by omega) hE hAj;rw[e1];exact⟨g1,λ hd b r K e1 e2 k k1 k2 k3=>g2 hd b r K e1 e2 k k1 k2 (by omega)⟩
  ·obtain rfl:q=j+1:=by omega
   rw[hq0];exact⟨hH,λ hd b r K e1 e2 k k1 k2 k3=>hp.bh k k1 k2 k3 hd b r K e1 e2⟩
abbrev jk(listed:Array Bool)(j:Nat):Prop:=listed.getD j false=true
structure DInv(P:Program)(G N:Nat)(ops:Array Oper)(bs:List (List Nat))(σ:Nat->DSt)(V:Nat->Value)(F:HL)(ν0:Nu)(D0:List Deferred)(r r':Option Nat)(w0:World)(listed:Array Bool)(ν:Nu)(a:Act)(w:World)(q:Nat)(βb βK:Nat->Nat)(βo:Nat->Obj):Prop where
 sz:listed.size=ops.size
 dc:∀ (i:Nat) (b:List Nat),jk listed i->bs[i]?=some b->∀x∈b,jk listed x
 g:Glb ν G
 rr:RR ν r r'
 tsz:a.tmps.size=N
 tA:∀ (j:Nat) (o:Oper) (t:Tmp),jk listed j->ops[j]?=some o->o.dst=some t->∃v',a.tmps[t]?=some v'/\VRi ν (V j) v'
 tB:∀ (t:Tmp),t<N->(∀ (j:Nat) (o:Oper),jk listed j->ops[j]?=some o->o.dst≠some t)->∃v',a.tmps[t]?=some v'/\VRi ν (cK (σ 0).T t) v'
 fr:∀j,j<ops.size->¬ jk listed j->Fr ν (σ j).n (σ (j+1)).n
 ex:Ext ν0 ν (σ 0).n (σ ops.size).n
 d:DsR ν D0 a.defers
 qq:q<=ops.size/\(q=0\/∃e,q=e+1/\kE P ops σ e/\jk listed e)
 qe:∀e,kE P ops σ e->(jk listed e↔e<q)
 h:HR ν (σ q).H F w
 pen:Pen P ops σ (jk listed) F ν w q βb βK βo
 bw:Below 0 w0 w
theorem MD(hi:i<listed.size):jk (listed.setIfInBounds i true) j↔(jk listed j\/j=i):=by
 unfold jk
 by_cases e:i=j
 ·subst e;simp[aaA,hi]
 ·rw[getD_set_ne _ e];constructor
  ·exact .inl
  ·rintro(h|h)
   ·exact h
   ·exact(e h.symm).elim
theorem DInv.step(h:Tra P G ih r N ops bs σ V)(I:DInv P G N ops bs σ V F ν0 D0 r r' w0 listed ν a w q βb βK βo) (ho:ops[i]?=some o) (hb:bs[i]?=some b) (hi:¬ jk listed i) (W5:∀x∈b,jk listed x) (hl:ν.Le ν') (hv:VRi ν' (V i) v') {q':Nat} {βb' βK':Nat->Nat} {βo':Nat->Obj}
  (Xk:∀j,j<ops.size->¬ jk listed j->j≠i->Fr ν' (σ j).n (σ (j+1)).n) (hex:Ext ν0 ν' (σ 0).n (σ ops.size).n)
  (hq:q'<=ops.size/\(q'=0\/∃e,q'=e+1/\kE P ops σ e/\(jk listed e\/e=i))) (hqe:∀e,kE P ops σ e->((jk listed e\/e=i)↔e<q'))
  (hH:HR ν' (σ q').H F w') (ZP:Pen P ops σ (λ j=>jk listed j\/j=i) F ν' w' q' βb' βK' βo') (hw:Below 0 w w') :
  DInv P G N ops bs σ V F ν0 D0 r r' w0 (listed.setIfInBounds i true) ν' (a.put o.dst v') w' q' βb' βK' βo':=by
 have him:i<ops.size:=(fx.1 ho).1;have W4:i<listed.size:=by rw[I.sz];exact him
 have hS:∀j,jk (listed.setIfInBounds i true) j↔(jk listed j\/j=i):=λ j=>MD W4;have hdN:∀d,o.dst=some d->d<N:=(lJ (h.put ho)).2;refine⟨by simpa using I.sz,λ j b' hj VB x hx=>?_,I.g.mono hl,I.rr.mono hl,by rw[JA];exact I.tsz,λ j o' t hj ID hd=>?_,λ t ht VJ=>?_,λ j hj ZR=>?_,hex,by rw[fJ];exact I.d.mono hl,?_,λ e he=>?_,hH,?_,I.bw.trans hw⟩
 ·rw[hS] at hj ⊢;rcases hj with hj|rfl
  ·exact .inl (I.dc j b' hj VB x hx)
  ·rw[hb] at VB;cases VB;exact .inl (W5 x hx)
 ·rw[hS] at hj;rw[Jz];rcases hj with hj|rfl
  ·have u_:o.dst≠some t:=λ e=>by
    have:=h.st.dst ho ID e hd;subst this;exact hi hj
   rw[if_neg u_];obtain⟨v2,e1,e2⟩:=I.tA j o' t hj ID hd;exact⟨v2,e1,e2.mono hl⟩
  ·rw[ho] at ID;cases ID;rw[if_pos hd,if_pos (by rw[I.tsz];exact hdN t hd)];exact⟨v',rfl,hv⟩
 ·rw[Jz,if_neg (VJ i o ((hS i).2 (.inr rfl)) ho)];obtain⟨v2,e1,e2⟩:=I.tB t ht (λ j o' hj ID=>VJ j o' ((hS j).2 (.inl hj)) ID);exact⟨v2,e1,e2.mono hl⟩
 ·rw[hS] at ZR;exact Xk j hj (λ e=>ZR (.inl e)) (λ e=>ZR (.inr e))
 ·refine⟨hq.1,?_⟩;rcases hq.2 with e|⟨e,h1,h2,h3⟩
  ·exact .inl e
  ·exact .inr ⟨e,h1,h2,(hS e).2 h3⟩
 ·rw[hS];exact hqe e he
 ·exact⟨λ k k1 k2 k3=>ZP.be k k1 ((hS k).1 k2) k3,λ k k' k1 k2 k3 k4 k5 k6=>ZP.bi k k' k1 ((hS k).1 k2) k3 k4 ((hS k').1 k5) k6,λ k k1 k2 k3=>ZP.bf k k1 ((hS k).1 k2) k3,λ k k1 k2 k3=>ZP.bh k k1 ((hS k).1 k2) k3⟩
theorem DInv.still(h:Tra P G ih r N ops bs σ V)(I:DInv P G N ops bs σ V F ν0 D0 r r' w0 listed ν a w q βb βK βo) (ho:ops[i]?=some o) (hb:bs[i]?=some b) (hi:¬ jk listed i) (W5:∀x∈b,jk listed x) (hv:VRi ν (V i) v') (hnE:¬ kE P ops σ i) (hnA:¬ kA P ops σ i) :
  DInv P G N ops bs σ V F ν0 D0 r r' w0 (listed.setIfInBounds i true) ν (a.put o.dst v') w q βb βK βo:=by
 refine I.step h ho hb hi W5 (Nu.Le.refl _) hv (λ j hj ZR _=>I.fr j hj ZR) I.ex ⟨I.qq.1,?_⟩ (λ e he=>?_) I.h ?_ (jt _ _)
 ·rcases I.qq.2 with e|⟨e,h1,h2,h3⟩
  ·exact .inl e
  ·exact .inr ⟨e,h1,h2,.inl h3⟩
 ·rw[<- I.qe e he];constructor
  ·rintro(h1|h1)
   ·exact h1
   ·subst h1;exact(hnE he).elim
  ·exact .inl
 ·have key:∀k,kA P ops σ k->(jk listed k\/k=i)->jk listed k:=λ k k1 k2=>by
   rcases k2 with k2|k2
   ·exact k2
   ·subst k2;exact(hnA k1).elim
  exact⟨λ k k1 k2 k3=>I.pen.be k k1 (key k k1 k2) k3,λ k k' k1 k2 k3 k4 k5 k6=>I.pen.bi k k' k1 (key k k1 k2) k3 k4 (key k' k4 k5) k6,λ k k1 k2 k3=>I.pen.bf k k1 (key k k1 k2) k3,λ k k1 k2 k3=>I.pen.bh k k1 (key k k1 k2) k3⟩
theorem JB(h:nH G o=true):∃l,i9 o.op=some l/\tL G l=true:=by
 unfold nH at h;split at h
 ·rename_i l hl;exact⟨l,hl,h⟩
 ·cases h
theorem vd{t:Tmp}:∀ {l:List Operand},Operand.tmp t∈l->t∈si l
 | [],h=>by cases h
 |x::l,h=>by
  rcases abL.1 h with e|h'
  ·subst e;rw[si];exact aaC
  ·have:=vd h';cases x with
   |tmp t'=>exact aaD _ this
   |const v=>exact this
   |global g=>exact this
   |func f=>exact this
theorem FR{l:List Operand}(hl:i9 o.op=some l)(h:looks ops o=some lk):∀t∈si l,t∈lk:=by
 intro t ht;unfold looks at h;rw[hl] at h;simp only at h;split at h
 ·cases h;exact ht
 ·split at h
  ·cases h;exact aaD _ ht
  ·cases h
theorem zy(h:looks ops o=some lk){want:Bool}(hg:o.guard=some (j,want)){d:Tmp}(hd:(ops[j]?).bind (·.dst)=some d):d∈lk:=by
 unfold looks at h;split at h
 ·cases h
 rw[hg] at h;simp only[hd] at h;cases h;exact aaC
theorem FS{b:Bool}(hv:∀j want,o.guard=some (j,want)->∀d,(ops[j]?).bind (·.dst)=some d->(∃v',tm[d]?=some v'/\VRi ν (cK T d) v')\/(tm[d]?=none/\cK T d=undef))(h:eD ops o T=some b):Region.wanted o (yielded ops tm)=b:=by
 unfold eD at h;unfold Region.wanted;split at h
 ·rename_i hg;rw[hg];cases h;rfl
 ·rename_i j want hg;rw[hg];simp only;split at h
  case h_2=>cases h
  rename_i d hd;have hy:yielded ops tm j=match tm[d]? with|some (.bool b)=>some b|_=>none:=by
   unfold yielded;rw[hd];rfl
  have hv:=hv j want hg d hd;rw[hy];split at h
  ·rename_i b' hb;cases h;rcases hv with ⟨v',e1,e2⟩|⟨e1,e2⟩
   ·rw[hb] at e2;rw[e2.plain_eq rfl] at e1;rw[e1];simp
   ·rw[hb] at e2;cases e2
  ·rename_i vs hb;cases h;rcases hv with ⟨v',e1,e2⟩|⟨e1,e2⟩
   ·rw[hb] at e2;rw[e1];cases e2 with
    |atom _ h=>simp[cq] at h
    |tuple _ _=>rfl
   ·rw[e1];rfl
  ·cases h
theorem wF(h:tj P o.op=.ef):isE P o=true:=by unfold isE;rw[h]
theorem JC(h:tj P o.op=.nw):isN P o=true:=by unfold isN;rw[h]
theorem Stat.before(h:Stat P G ops bs){k:Nat}{b':List Nat}(hkj:k<j)(ho:ops[k]?=some o)(ID:ops[j]?=some o')(VB:bs[j]?=some b')(hE:isE P o'=true)(hK:(isE P o || isN P o)=true):k∈b':=by
 have hp:=h.pair k j o o' b' hkj ho ID VB
 by_cases hm:jX k b'=true
 ·exact gU.1 hm
 ·have hm':jX k b'=false:=by simpa using hm
  unfold sj at hp;rw[hm'] at hp;simp only[hE,hK] at hp;cases hp
theorem Tra.op(h:Tra P G ih r N ops bs σ V)(By:kD P G ih)(abV:∀d∈(σ ops.size).lds,tN P d [] (σ 0).H (σ ops.size).stg=true)(h0s:(σ 0).stg=[])(h0p:(σ 0).pend=[])(hTO:∀t,N<=t->cK (σ 0).T t=undef) (I:DInv P G N ops bs σ V F ν0 D0 r r' w0 listed ν a w q βb βK βo) (ho:ops[i]?=some o) (hb:bs[i]?=some b) (hi:¬ jk listed i) (W5:∀x∈b,jk listed x)
  {K:Act->World->Prop} (hK:∀ν' a' w' q' βb' βK' βo',DInv P G N ops bs σ V F ν0 D0 r r' w0 (listed.setIfInBounds i true) ν' a' w' q' βb' βK' βo'->K a' w'):wpOpIn (Wr r') 0 P ops Q i K a w:=by
 have him:i<ops.size:=(fx.1 ho).1;obtain⟨ahC,lk,hlk⟩:=h.st.ok i o ho;obtain⟨l,hl,hk⟩:=JB ahC;have C_:∀t∈lk,(∃v',a.tmps[t]?=some v'/\VRi ν (cK (σ i).T t) v')\/(a.tmps[t]?=none/\cK (σ i).T t=undef):=λ t ht=>h.opnd I.tsz I.dc I.tA I.tB hTO ho hb hi W5 hlk ht;have iF:OK ν (σ i).T a l:=λ x hx=>by
  cases x with
  |tmp t=>
   show VRi ν (cK (σ i).T t) (a.tmps.getD t undef);rcases C_ t (FR hl hlk t (vd hx)) with ⟨v',e1,e2⟩|⟨e1,e2⟩
   ·simpa [aaA,e1] using e2
   ·rw[e2,aaA,e1];exact aau
  |const v=>exact .plain_refl _ (sx hk _ hx)
  |global g=>
   obtain⟨K,e⟩:=I.g g (dF (sx hk _ hx));exact .ptr 0 e
  |func f=>exact .func (.func f) rfl (by simp) rfl (by simp)
 have Wz:∀bb,eD ops o (σ i).T=some bb->Region.wanted o (yielded ops a.tmps)=bb:=λ bb hw=>FS (λ j want hg d hd=>C_ d (zy hlk hg hd)) hw;have hA:∀f,o.about P w a.eval=some f->(Wr r').fn f:=λ _ _=>trivial;have Zp:=h.stp i o b ho hb;have U4:∀ {o2:Oper},ops[i]?=some o2->o2=o:=λ e=>by rw[ho] at e;cases e;rfl
 have hqi:tj P o.op=.nw->q<=i:=λ hc=>by
  rcases I.qq.2 with e|⟨e,h1,⟨oe,h2,h3,h4⟩,h5⟩
  ·omega
  ·rcases aa9 i e with h6|h6
   ·obtain⟨be,hbe⟩:=h.bef h2;have:=h.st.before h6 ho h2 hbe (wF h4) (by rw[JC hc];simp);exact(hi (I.dc e be h5 hbe i this)).elim
   ·rcases aa9 e i with h7|h7
    ·omega
    ·obtain rfl:e=i:=by omega
     exact(hi h5).elim
 unfold wpOpIn;rw[ho];simp only;generalize Ug:σ (i+1)=s' at Zp;generalize hv:V i=v at Zp;cases Zp with
 |no T1 hw hp=>
  rw[if_neg (by rw[Wz _ hw];simp)];refine⟨hA,hK _ _ _ _ _ _ _ (I.still h ho hb hi W5 (by rw[hv];exact aau) ?_ ?_)⟩
  ·rintro⟨o2,h1,h2,-⟩;rw[U4 h1,hw] at h2;cases h2
  ·rintro⟨o2,h1,h2,-⟩;rw[U4 h1,hw] at h2;cases h2
 |pu v T1 hw hc hpv hp=>
  rw[if_pos (Wz _ hw)];have Vj:∀c,o.op≠ .defer c:=λ c e=>by rw[e] at hc;cases hc
  obtain⟨v',e1,e2⟩:=zk hpv (mg hl Vj) iF;refine⟨hA,?_⟩;rw[Oper.semAt_eq _ _ _ Vj,e2 w,Oper.uponIn_value];refine hK _ _ _ _ _ _ _ (I.still h ho hb hi W5 (by rw[hv];exact e1) ?_ ?_)
  ·rintro⟨o2,h1,h2,h3⟩;rw[U4 h1,hc] at h3;cases h3
  ·rintro⟨o2,h1,h2,h3⟩;rw[U4 h1,hc] at h3;cases h3
 |lo v T1 hw hc hpv hp=>
  rw[if_pos (Wz _ hw)];have Vj:∀c,o.op≠ .defer c:=λ c e=>by rw[e] at hc;cases hc
  have hld:(⟨i,o,b,(σ i).T,v⟩:DLd)∈(σ ops.size).lds:=h.lds (i:=i+1) (by omega) (aaI _) (by rw[Ug];exact aaC);have hch:=abV _ hld;obtain⟨be,g1,g2⟩:=h.rch h0s I.qq.1;obtain⟨rest,g3,g4⟩:=h.stgs I.qq.1 (aaI _);rw[g3] at hch;have RW:jy P o (σ i).T (σ q).H=some v:=by
   rcases FQ hch (g1 rest) with c1|⟨e,bb,hh,x,c1,c2⟩|c1
   ·exfalso;simp only at c1;rcases g2 with rfl|⟨e,f1,f2,f3,f4⟩
    ·cases c1
    ·exact hi (I.dc e be ((I.qe e f2).2 f1) f3 i c1)
   ·exfalso;simp only at c2;rcases g4 with g4|⟨e',b',hh',l',g5,g6,g7⟩
    ·rw[g4] at c1;cases c1
    ·rw[g5] at c1;cases c1;have:=(I.qe e g7).1 (W5 e c2);omega
   ·unfold SC at c1;simp only at c1;split at c1
    ·rename_i v2 hv2;rw[hv2,<- B7 _ _ c1]
    ·cases c1
  obtain⟨v',e1,e2⟩:=zp I.h RW (mg hl Vj) iF;refine⟨hA,?_⟩;rw[Oper.semAt_eq _ _ _ Vj,e2,Oper.uponIn_value];refine hK _ _ _ _ _ _ _ (I.still h ho hb hi W5 (by rw[hv];exact e1) ?_ ?_)
  ·rintro⟨o2,h1,h2,h3⟩;rw[U4 h1,hc] at h3;cases h3
  ·rintro⟨o2,h1,h2,h3⟩;rw[U4 h1,hc] at h3;cases h3
 |nw bl m T1 hw hc hnv hp=>
  rw[if_pos (Wz _ hw)];have Vj:∀c,o.op≠ .defer c:=λ c e=>by rw[e] at hc;cases hc
  obtain⟨e1,e2,o',e3,e4⟩:=Dj hnv (mg hl Vj) iF;refine⟨hA,?_⟩;rw[Oper.semAt_eq _ _ _ Vj,e4 w,Oper.uponIn_value];have Vk:ν (σ i).n=none:=I.fr i him hi _ (aaI _) (by rw[Ug];exact Nat.lt_succ_self _);have hle:=jY (r:=w.heap.size) (K:=0) Vk;have anv:=hqi hc;have hAi:kA P ops σ i:=⟨o,ho,hw,hc⟩;have VS:¬ kE P ops σ i:=by rintro⟨o2,h1,h2,h3⟩;rw[U4 h1,hc] at h3;cases h3
  have Is:∀ {x y:Nat},x<=y->y<=ops.size->(σ x).n<=(σ y).n:=λ e1 e2=>h.nles By e1 e2;have WE:(σ (i+1)).n=(σ i).n+1:=by rw[Ug]
  have aaX:∀k,k<w.heap.size->(w.heap.push o')[k]?=w.heap[k]?:=λ k hk=>by rw[afg,if_neg (by omega)]
  refine hK (ν.upd (σ i).n w.heap.size 0) _ { w with heap:=w.heap.push o' } q (λ k=>if k=i then w.heap.size else βb k) (λ k=>if k=i then 0 else βK k) (λ k=>if k=i then o' else βo k) (I.step h ho hb hi W5 hle (by rw[hv];exact Jo e2 b6) (λ j hj ZR u_=>?_) ?_ ⟨I.qq.1,?_⟩ (λ e he=>?_) ?_ ?_ ⟨rfl,rfl,rfl,by simp,λ k hk=>by omega⟩)
  ·intro x x1 x2;rw[eE]
   ·exact I.fr j hj ZR x x1 x2
   ·intro ex;subst ex;rcases aa9 j i with e|e
    ·have:=Is (x:=j+1) (y:=i) (by omega) (by omega);omega
    ·have h3:=Is (x:=i+1) (y:=j) (by omega) (by omega);omega
  ·have h1:=Is (x:=0) (y:=i) (by omega) (by omega);have h2:=Is (x:=i+1) (y:=ops.size) (by omega) (by omega);exact⟨I.ex.le,λ x hx=>by rw[eE (by omega)];exact I.ex.out x hx⟩
  ·rcases I.qq.2 with e|⟨e,h1,h2,h3⟩
   ·exact .inl e
   ·exact .inr ⟨e,h1,h2,.inl h3⟩
  ·rw[<- I.qe e he];constructor
   ·rintro(h1|h1)
    ·exact h1
    ·subst h1;exact(VS he).elim
   ·exact .inl
  ·exact(I.h.mono hle).world (λ k hk=>aaX k hk)
  ·have AT:∀k,(jk listed k\/k=i)->k≠i->jk listed k:=λ k k1 k2=>k1.resolve_right k2;have iN:∀k,kA P ops σ k->jk listed k->q<=k->βb k<w.heap.size:=λ k k1 k2 k3=>aW (I.pen.be k k1 k2 k3).2.1;refine⟨λ k k1 k2 k3=>?_,λ k k' k1 k2 k3 k4 k5 k6 k7=>?_,λ k k1 k2 k3 x hx=>?_,λ k k1 k2 k3 hd bb rr KK f1 f2=>?_⟩
   ·by_cases e:k=i
    ·subst e;simp only[if_true];refine⟨b6,by simp,λ o2 bl2 m2 h1 h2=>?_⟩;rw[U4 h1,hnv] at h2;cases h2;exact(e3 0).mono hle
    ·simp only[if_neg e];obtain⟨f1,f2,f3⟩:=I.pen.be k k1 (AT k k2 e) k3;exact⟨hle _ _ f1,by rw[aaX _ (aW f2)];exact f2,λ o2 bl2 m2 h1 h2=>(f3 o2 bl2 m2 h1 h2).mono hle⟩
   ·by_cases e:k=i
    ·by_cases e':k'=i
     ·omega
     ·have:=iN k' k4 (AT k' k5 e') k6;simp only[if_pos e,if_neg e'];omega
    ·have h1:=iN k k1 (AT k k2 e) k3
     by_cases e':k'=i
     ·simp only[if_neg e,if_pos e'];omega
     ·simp only[if_neg e,if_neg e'];exact I.pen.bi k k' k1 (AT k k2 e) k3 k4 (AT k' k5 e') k6 k7
   ·by_cases e:k=i
    ·simp only[if_pos e];have:=aW (I.h.frm x hx);omega
    ·simp only[if_neg e];exact I.pen.bf k k1 (AT k k2 e) k3 x hx
   ·by_cases e:k=i
    ·simp only[if_pos e];have:=(I.h.mono hle).lt f1 f2;omega
    ·simp only[if_neg e];obtain⟨r2,K2,o2,u1,-⟩:=I.h.blk _ _ f1;have f2':=hle _ _ u1;rw[f2] at f2';cases f2';exact I.pen.bh k k1 (AT k k2 e) k3 hd bb rr KK f1 u1
 |ef v H' n' T1 hw hc n_ hp=>
  rw[if_pos (Wz _ hw)];have Is:∀ {x y:Nat},x<=y->y<=ops.size->(σ x).n<=(σ y).n:=λ e1 e2=>h.nles By e1 e2;have hEi:kE P ops σ i:=⟨o,ho,hw,hc⟩;have ad_:q<=i:=by
   rcases aa9 i q with e|e
   ·exact(hi ((I.qe i hEi).2 e)).elim
   ·exact e
  have Wl:∀k o2,k<i->ops[k]?=some o2->(Go.Proofs.YtjokannbjmndfaaGreatDoor.isE P o2 || Go.Proofs.YtjokannbjmndfaaGreatDoor.isN P o2)=true->jk listed k:=λ k o2 hk h1 h2=>W5 k (h.st.before hk h1 ho hb (wF hc) h2);have Yz:∀k,q<=k->k<i->¬ kE P ops σ k:=λ k k1 k2 hk=>by
   obtain⟨o2,h1,h2,h3⟩:=hk;have hS:=Wl k o2 k2 h1 (by rw[wF h3];rfl);have:=(I.qe k ⟨o2,h1,h2,h3⟩).1 hS;omega
  have ae7:∀k,q<=k->k<i->kA P ops σ k->jk listed k:=λ k k1 k2 hk=>by
   obtain⟨o2,h1,h2,h3⟩:=hk;exact Wl k o2 k2 h1 (by rw[JC h3];simp)
  have hqp:(σ q).pend=[]:=by
   rcases I.qq.2 with e|⟨e,h1,h2,h3⟩
   ·rw[e];exact h0p
   ·rw[h1];obtain⟨_,_,_,_,_,_,_,g8,_⟩:=h.isE h2;exact g8
  obtain⟨p1,p2⟩:=h.placed I.pen I.h hqp ad_ (by omega) Yz ae7;obtain⟨s1,s2⟩:=h.Hsame ad_ (by omega) Yz;rw[s1] at n_;have WE:(σ (i+1)).n=n':=by rw[Ug]
  have hH1:(σ (i+1)).H=H':=by rw[Ug]
  classical
  have hex:∃FA:HL,(∀k,kA P ops σ k->jk listed k->i<k->(βb k,Blk.obj (βo k))∈FA)/\(∀x∈FA,∃k,kA P ops σ k/\jk listed k/\i<k/\x=(βb k,Blk.obj (βo k))):=by
   refine⟨((List.range ops.size).filter (λ k=>decide (kA P ops σ k/\jk listed k/\i<k))).map λ k=>(βb k,Blk.obj (βo k)),λ k k1 k2 k3=>?_,λ x hx=>?_⟩
   ·refine abY.2 ⟨k,adc.2 ⟨afF.2 ?_,abw ⟨k1,k2,k3⟩⟩,rfl⟩;obtain⟨o2,h1,-⟩:=k1;exact(fx.1 h1).1
   ·obtain⟨k,h1,h2⟩:=abY.1 hx;obtain⟨-,h3⟩:=adc.1 h1;have h4:kA P ops σ k/\jk listed k/\i<k:=abh h3;exact⟨k,h4.1,h4.2.1,h4.2.2,h2.symm⟩
  obtain⟨FA,fa1,fa2⟩:=hex;have hH2:HR ν (hZ (σ q).H (σ i).pend) (FA++F) w:=by
   refine⟨p1.blk,p1.inj,λ x hx=>?_,λ hd bb rr KK f1 f2 x hx=>?_⟩
   ·rcases np.1 hx with hx|hx
    ·obtain⟨k,k1,k2,k3,rfl⟩:=fa2 x hx;exact(I.pen.be k k1 k2 (by omega)).2.1
    ·exact p1.frm x hx
   ·rcases np.1 hx with hx|hx
    ·obtain⟨k,k1,k2,k3,rfl⟩:=fa2 x hx;exact(p2 hd bb rr KK f1 f2 k k1 k2 (by omega)).symm
    ·exact p1.apt hd bb rr KK f1 f2 x hx
  obtain⟨-,hgo⟩:=wE (a:=a) (r':=r') By I.g I.rr (λ l' Xi _=>by rw[hl] at Xi;cases Xi;exact iF) hH2 n_;have hfi:Fr ν (σ i).n n':=by rw[<- WE];exact I.fr i him hi
  refine hgo hfi _ _ (λ ν' v' w' k1 k2 k3 k4=>?_);have hle:=k2.sub hfi;have aeN:∀j,j<ops.size->j≠i->∀x,(σ j).n<=x->x<(σ (j+1)).n->(x<(σ i).n\/n'<=x):=λ j hj u_ x x1 x2=>by
   rcases aa9 j i with e|e
   ·have:=Is (x:=j+1) (y:=i) (by omega) (by omega);omega
   ·have:=Is (x:=i+1) (y:=j) (by omega) (by omega);omega
  refine hK ν' _ w' (i+1) βb βK βo (I.step h ho hb hi W5 hle (by rw[hv];exact k1) (λ j hj ZR u_ x x1 x2=>?_) ?_ ⟨by omega,.inr ⟨i,rfl,hEi,.inr rfl⟩⟩ (λ e he=>?_) ?_ ?_ k4)
  ·rw[k2.out x (aeN j hj u_ x x1 x2)];exact I.fr j hj ZR x x1 x2
  ·have h1:=Is (x:=0) (y:=i) (by omega) (by omega);have h2:=Is (x:=i+1) (y:=ops.size) (by omega) (by omega);exact⟨I.ex.le,λ x hx=>by rw[k2.out x (by omega)];exact I.ex.out x hx⟩
  ·constructor
   ·rintro(h1|h1)
    ·have:=(I.qe e he).1 h1;omega
    ·omega
   ·intro h1
    by_cases e2:e=i
    ·exact .inr e2
    ·obtain⟨o2,u1,u2,u3⟩:=he;exact .inl (Wl e o2 (by omega) u1 (by rw[wF u3];rfl))
  ·rw[hH1];exact k3.less (λ x hx=>aaz _ hx)
  ·have AT:∀k,(jk listed k\/k=i)->i+1<=k->jk listed k:=λ k u1 u2=>u1.resolve_right (by omega);refine⟨λ k u1 u2 u3=>?_,λ k k' u1 u2 u3 u4 u5 u6 u7=>I.pen.bi k k' u1 (AT k u2 u3) (by omega) u4 (AT k' u5 u6) (by omega) u7,λ k u1 u2 u3=>I.pen.bf k u1 (AT k u2 u3) (by omega),λ k u1 u2 u3 hd bb rr KK f1 f2=>?_⟩
   ·obtain⟨f1,f2,f3⟩:=I.pen.be k u1 (AT k u2 u3) (by omega);exact⟨hle _ _ f1,k3.frm _ (aaB _ (fa1 k u1 (AT k u2 u3) (by omega))),λ o2 bl2 m2 h1 h2=>(f3 o2 bl2 m2 h1 h2).mono hle⟩
   ·rw[hH1] at f1;exact(k3.apt hd bb rr KK f1 f2 _ (aaB _ (fa1 k u1 (AT k u2 u3) (by omega)))).symm
theorem Tra.all(h:Tra P G ih r N ops bs σ V)(L_:listed.size=ops.size)(hr:Region.ready .any ops listed=[]):∀i,i<ops.size->jk listed i:=by
 intro i
 induction i using Nat.strongRecOn with
 |_ i ihi=>
  intro hi
  by_cases hS:jk listed i
  ·exact hS
  ·exfalso;obtain⟨o,b,ho,hb,-⟩:=h.at hi;have hm:i∈Region.ready .any ops listed:=by
    refine mem_ready.2 ⟨?_,o,ho,λ e he hbd=>?_⟩
    ·have W4:i<listed.size:=by omega
     unfold jk at hS;rw[aaA,sv W4] at hS ⊢;simpa using hS
    ·have iN:=h.st.dir i o b ho hb e he hbd;exact ihi _ iN (by omega)
   rw[hr] at hm;cases hm
theorem DInv.fin(h:Tra P G ih r N ops bs σ V)(h0p:(σ 0).pend=[])(hTO:∀t,N<=t->cK (σ 0).T t=undef)(I:DInv P G N ops bs σ V F ν0 D0 r r' w0 listed ν a w q βb βK βo)(IS:∀i,i<ops.size->jk listed i) :
  SR ν G N ⟨(σ ops.size).T,D0,hZ (σ ops.size).H (σ ops.size).pend,(σ ops.size).n⟩ F a w:=by
 have iN:∀ {k:Nat} {o:Oper},ops[k]?=some o->k<ops.size:=λ h=>(fx.1 h).1;have Yz:∀k,q<=k->k<ops.size->¬ kE P ops σ k:=λ k k1 k2 hk=>by
  have:=(I.qe k hk).1 (IS k k2);omega
 have hqp:(σ q).pend=[]:=by
  rcases I.qq.2 with e|⟨e,h1,h2,h3⟩
  ·rw[e];exact h0p
  ·rw[h1];obtain⟨_,_,_,_,_,_,_,g8,_⟩:=h.isE h2;exact g8
 obtain⟨p1,-⟩:=h.placed I.pen I.h hqp I.qq.1 (aaI _) Yz (λ k k1 k2 _=>IS k k2);obtain⟨s1,-⟩:=h.Hsame I.qq.1 (aaI _) Yz;refine⟨I.g,⟨I.tsz,λ t ht=>?_,λ t ht=>?_⟩,I.d,by simp only;rw[s1];exact p1⟩
 ·by_cases hj:∃ (j:Nat) (o:Oper),ops[j]?=some o/\o.dst=some t
  ·obtain⟨j,o,ho,hd⟩:=hj;rw[h.Tyes ho hd (iN ho) (aaI _)];exact I.tA j o t (IS j (iN ho)) ho hd
  ·rw[h.Tno (aaI _) (λ k o _ h1 h2=>hj ⟨k,o,h1,h2⟩)];exact I.tB t ht (λ j o _ h1 h2=>hj ⟨j,o,h1,h2⟩)
 ·rw[h.Tno (aaI _) (λ k o _ h1 h2=>by
   exact absurd ((lJ (h.put h1)).2 t h2) (Nat.not_lt.2 ht))]
  exact hTO t ht
theorem Tra.any(h:Tra P G ih r N ops bs σ V)(By:kD P G ih)(abV:∀d∈(σ ops.size).lds,tN P d [] (σ 0).H (σ ops.size).stg=true)(h0s:(σ 0).stg=[])(h0p:(σ 0).pend=[])(hTO:∀t,N<=t->cK (σ 0).T t=undef) (hQ:∀ν a w,Ext ν0 ν (σ 0).n (σ ops.size).n->SR ν G N ⟨(σ ops.size).T,D0,hZ (σ ops.size).H (σ ops.size).pend,(σ ops.size).n⟩ F a w->Below 0 w0 w->Q .normal a w) :
  ∀ (fuel:Nat) (listed:Array Bool) (ν:Nu) (a:Act) (w:World) (q:Nat) (βb βK:Nat->Nat) (βo:Nat->Obj),DInv P G N ops bs σ V F ν0 D0 r r' w0 listed ν a w q βb βK βo->listed.toList.count false<=fuel->wpAnyIn (Wr r') 0 P .any ops Q fuel listed a w:=by
 have done:∀ (listed:Array Bool) (ν:Nu) (a:Act) (w:World) (q:Nat) (βb βK:Nat->Nat) (βo:Nat->Obj),DInv P G N ops bs σ V F ν0 D0 r r' w0 listed ν a w q βb βK βo->Region.ready .any ops listed=[]->Q .normal a w:=λ listed ν a w q βb βK βo I hr=>
  hQ ν a w I.ex (I.fin h h0p hTO (h.all I.sz hr)) I.bw
 have unl:∀ (listed:Array Bool) (i:Nat),listed.size=ops.size->i∈Region.ready .any ops listed->∃W4:i<listed.toList.length,listed.toList[i]=false:=λ listed i L_ hi=>by
  obtain⟨h1,o,h2,-⟩:=mem_ready.1 hi;have him:=(fx.1 h2).1;have W4:i<listed.size:=by omega
  refine⟨by simpa using W4,?_⟩;rw[aaA,sv W4] at h1;simpa using h1
 intro fuel
 induction fuel with
 |zero=>
  intro listed ν a w q βb βK βo I hc;have hr:Region.ready .any ops listed=[]:=by
   cases hrr:Region.ready .any ops listed with
   |nil=>rfl
   |cons i l=>
    exfalso;obtain⟨W4,e⟩:=unl listed i I.sz (by rw[hrr];exact aaC);have:0<listed.toList.count false:=List.count_pos_iff.2 (by rw[<- e];exact ac0 W4);omega
  exact⟨hr,done _ _ _ _ _ _ _ _ I hr⟩
 |succ fuel ihf=>
  intro listed ν a w q βb βK βo I hc;refine⟨λ hr=>done _ _ _ _ _ _ _ _ I hr,λ i hi=>?_⟩;obtain⟨W4,e⟩:=unl listed i I.sz hi;obtain⟨h1,o,ho,IS⟩:=mem_ready.1 hi;obtain⟨b,hb⟩:=h.bef ho;have hnS:¬ jk listed i:=by
   unfold jk;have ah2:i<listed.size:=by simpa using W4
   rw[aaA,sv ah2];simpa using e
  have W5:∀x∈b,jk listed x:=λ x hx=>by
   obtain⟨ed,e1,e2,e3⟩:=h.st.dc i o b ho hb x hx;have hon:=IS ed e1 e2;rcases e3 with rfl|⟨b',e4,e5⟩
   ·exact hon
   ·exact I.dc _ b' hon e4 x e5
  refine h.op By abV h0s h0p hTO I ho hb hnS W5 (λ ν' a' w' q' βb' βK' βo' I'=>ihf _ _ _ _ _ _ _ _ I' ?_);have XU:(listed.setIfInBounds i true).toList.count false=listed.toList.count false-1:=by
   rw[Array.toList_setIfInBounds,List.count_set W4];simp[e]
  omega
end tra
theorem ME(By:kD P G ih)(hm:P.follows .mixedOrders=true){id:Nat}{s s':St}(h:Pv P G ih r N ops s=some s'):s.n<=s'.n/\∀ν F a w r' (Q:Exit->Act->World->Prop),RR ν r r'->SR ν G N s F a w->Fr ν s.n s'.n->
  (∀ν' a' w',Ext ν ν' s.n s'.n->SR ν' G N s' F a' w'->Below 0 w w'->Q .normal a' w')->(Code.region id ops true).wpIn (Wr r') 0 P Q a w:=by
 unfold Pv at h;split at h
 ·cases h
 rename_i bs hbs;split at h
 ·cases h
 rename_i d hd;split at h
 case h_2=>cases h
 rename_i aiy;cases h;have n_:=zw hbs;obtain⟨σ,V,e0,e1,e2⟩:=sH hd (by rw[n_.len];simp);have abz:ops.toList.length=ops.size:=by simp
 rw[abP,abz] at e1;have htr:Tra P G ih r N ops bs σ V:=⟨n_,λ i o b ho hb=>by
  obtain⟨h1,h2⟩:=fx.1 ho;obtain⟨b',g1,g2⟩:=e2 i (by rw[abz];exact h1);rw[g1] at hb;cases hb;rw[abP] at g2;have:ops.toList[i]'(by rw[abz];exact h1)=o:=by simpa using h2
  rw[this] at g2;exact g2⟩
 have Is:=htr.nles By (aaJ ops.size) (aaI _);rw[e0,e1] at Is;refine⟨Is,λ ν F a w r' Q hr hs hf hk=>wpIn_region_any hm ?_⟩;have ahK:s.n<=d.n:=Is;have hf':Fr ν s.n d.n:=hf;have Vk:(σ 0).n=s.n:=by rw[e0]
 have hnm:(σ ops.size).n=d.n:=by rw[e1]
 refine htr.any (F:=F) (ν0:=ν) (D0:=s.D) (w0:=w) (r':=r') By (λ x hx=>?_) (by rw[e0]) (by rw[e0]) (λ t ht=>by rw[e0];exact hs.t.out t ht) (λ ν' a' w' k1 k2 k3=>?_) ops.size _ ν a _ 0 (λ _=>0) (λ _=>0) (λ _=>.deferred none) ?_ ?_
 ·rw[e1] at hx ⊢;rw[e0];exact sI aiy x hx
 ·rw[e1] at k2;rw[Vk,hnm] at k1;exact hk ν' a' w' k1 k2 k3
 ·have VJ:∀j,¬ jk (Array.replicate ops.size false) j:=λ j hj=>by
   unfold jk at hj;rw[aaA,Array.getElem?_replicate] at hj;split at hj <;> simp at hj
  refine⟨by simp,λ i b hi _ _ _=>(VJ i hi).elim,hs.g,hr,hs.t.size,λ j o t hj _ _=>(VJ j hj).elim,λ t ht _=>by rw[e0];exact hs.t.get t ht,λ j hj _=>λ x x1 x2=>?_,⟨?_,λ _ _=>rfl⟩,hs.d,⟨aaJ _,.inl rfl⟩,λ e he=>⟨λ h=>(VJ e h).elim,λ h=>by omega⟩,?_,?_,?_⟩
  ·have h1:=htr.nles By (aaJ j) (by omega);have h2:=htr.nles By (i:=j+1) (j:=ops.size) (by omega) (aaI _);exact hf' x (by omega) (by omega)
  ·omega
  ·rw[e0];exact hs.h.world (λ k hk=>rfl)
  ·exact⟨λ k _ h2 _=>(VJ k h2).elim,λ k k' _ h2 _ _ _ _ _=>(VJ k h2).elim,λ k _ h2 _=>(VJ k h2).elim,λ k _ h2 _=>(VJ k h2).elim⟩
  ·exact⟨rfl,rfl,rfl,aaI _,λ _ _=>rfl⟩
 ·simp
end dr
end Go.Proofs.YtjokannbjmndfaaGreatDoor
