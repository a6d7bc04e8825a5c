import Derived.Test.YtdppjkjbghbnjaaGreatDoorC13
set_option maxHeartbeats 4000000
set_option maxRecDepth 100000
set_option linter.all false
namespace Go.Proofs.YtdppjkjbghbnjaaGreatDoor
open Go.RowKit
theorem AV:∀ (v v':Value),sA v v'=true -> v=v':=by
 intro v;refine Value.rec (motive_1:=λ v=>∀v',sA v v'=true -> v=v') (motive_2:=λ a=>∀a',EC a a'=true -> a=a') (motive_3:=λ l=>∀l',p8 l l'=true -> l=l')
  ?_ ?_ ?_ ?_ ?_ ?_ ?_ ?_ ?_ ?_ ?_ ?_ ?_ ?_ ?_ ?_ ?_ ?_ v
 case _=>intro b v' h;cases v' <;> simp[sA] at h;rw[h]
 case _ =>
  intro k n v' h;cases v' <;> simp[sA] at h
  split at h
  ·rename_i e;simp at e h;rw[e,h]
  ·cases h
 case _=>intro k b v' h;cases v' <;> simp[sA] at h
 case _=>intro k b c v' h;cases v' <;> simp[sA] at h
 case _=>intro s v' h;cases v' <;> simp[sA] at h;rw[FO.1 h]
 case _=>intro a v' h;cases v' <;> simp[sA] at h;rw[h]
 case _ =>
  intro a n c v' h;cases v' <;> simp[sA] at h
  split at h
  ·rename_i e1 e2 e3;simp at e1;rw[e1,aa1 e2,aa1 e3]
  ·cases h
 case _=>intro a v' h;cases v' <;> simp[sA] at h;rw[h]
 case _=>intro a v' h;cases v' <;> simp[sA] at h
 case _ =>
  intro fn f c Wx Ww v' h;cases v' <;> simp[sA] at h
  split at h
  ·rename_i e1 e2;simp at e1;rw[e1,Wx _ e2,Ww _ h]
  ·cases h
 case _=>intro v' h;cases v' <;> simp[sA] at h;rfl
 case _ =>
  intro t v ih v' h;cases v' <;> simp[sA] at h
  split at h
  ·rename_i e1;rw[aa1 e1,ih _ h]
  ·cases h
 case _=>intro v' h;cases v' <;> simp[sA] at h;rfl
 case _=>intro c ih v' h;cases v' <;> simp[sA] at h;rw[ih _ h]
 case _=>intro c ih v' h;cases v' <;> simp[sA] at h;rw[ih _ h]
 case _=>intro l ih a' h;obtain⟨l'⟩:=a';rw[ih l' (by simpa [EC] using h)]
 case _=>intro l' h;cases l' <;> simp[p8] at h;rfl
 case _ =>
  intro v l Wx Ww l' h;cases l' with
  | nil=>simp[p8] at h
  | cons v' l' =>
   rw[p8] at h;split at h
   ·rename_i e;rw[Wx _ e,Ww _ h]
   ·cases h
theorem gW{i:Nat}{l:List Nat}:j5 i l=true↔i∈l:=by
 induction l with
 | nil=>simp[j5]
 | cons j l ih =>
  rw[j5];split
  ·rename_i e;simp[aa1 e]
  ·rename_i e;have:i≠j:=λ h=>by subst h;simp at e
   simp[ih,this]
theorem Ly{α:Type}(l:List α)(i:Nat):Lp l i=l[i]?:=by
 induction l generalizing i with
 | nil=>rfl
 | cons v l ih=>cases i with
  | zero=>rfl
  | succ i=>simpa [Lp] using ih i
theorem pg{bs:List (List Nat)}:∀ {es:List Edge} {l:List Nat},AD bs es=some l -> (∀e∈es,xX e=true -> e.on<bs.length) /\ ∀x∈l,∃e∈es,xX e=true /\ (x=e.on \/ ∃b,bs[e.on]?=some b /\ x∈b)
 | [],l,h=>by rw[AD] at h;cases h;exact⟨λ e he=>(by cases he),λ x hx=>(by cases hx)⟩
 | e::es,l,h=>by
  rw[AD] at h;split at h
  ·cases h
  rename_i l0 h0;obtain⟨q1,q2⟩:=pg h0;split at h
  ·rename_i hb;cases h;refine⟨λ e' X1 TO=>?_,λ x hx=>?_⟩
   ·rcases List.mem_cons.1 X1 with rfl|X1
    ·rw[hb] at TO;cases TO
    ·exact q1 e' X1 TO
   ·obtain⟨e',h1,h2⟩:=q2 x hx;exact⟨e',aaE _ h1,h2⟩
  ·rename_i hb;split at h
   ·rename_i b hbs;cases h;rw[Ly] at hbs;refine⟨λ e' X1 TO=>?_,λ x hx=>?_⟩
    ·rcases List.mem_cons.1 X1 with rfl|X1
     ·exact(List.getElem?_eq_some_iff.1 hbs).1
     ·exact q1 e' X1 TO
    ·rcases List.mem_cons.1 hx with rfl|hx
     ·exact⟨e,aaB,hb,.inl rfl⟩
     ·rcases List.mem_append.1 hx with hx|hx
      ·exact⟨e,aaB,hb,.inr ⟨b,hbs,hx⟩⟩
      ·obtain⟨e',h1,h2⟩:=q2 x hx;exact⟨e',aaE _ h1,h2⟩
   ·cases h
theorem ug:∀ {l:List Oper} {V7 bs:List (List Nat)},HV l V7=some bs -> bs.length=V7.length+l.length /\ (∀i,i<V7.length -> bs[i]?=V7[i]?) /\ ∀j (hj:j<l.length),∃b,bs[V7.length+j]?=some b /\ AD (bs.take (V7.length+j)) (l[j].after.toList)=some b
 | [],V7,bs,h=>by rw[HV] at h;cases h;exact⟨by simp,λ _ _=>rfl,λ j hj=>(by simp at hj)⟩
 | o::l,V7,bs,h=>by
  rw[HV] at h;split at h
  ·rename_i b hb;obtain⟨q1,q2,q3⟩:=ug h;simp only[aaP,List.length_singleton] at q1 q2 q3;have So:bs.take V7.length=V7:=by
    apply List.ext_getElem?;intro i;rcases aaZ i V7.length with hi|hi
    ·rw[List.getElem?_take_of_lt hi,q2 i (by omega),aaU hi]
    ·rw[List.getElem?_eq_none (by rw[aaQ];omega),List.getElem?_eq_none hi]
   refine⟨by simp;omega,λ i hi=>by rw[q2 i (by omega),aaU hi],λ j hj=>?_⟩;cases j with
   | zero =>
    refine⟨b,?_,?_⟩
    ·rw[Nat.add_zero,q2 _ (by omega)];simp
    ·rw[Nat.add_zero,So];exact hb
   | succ j =>
    obtain⟨b',g1,g2⟩:=q3 j (by simpa using hj);have e:V7.length+1+j=V7.length+(j+1):=by omega
    rw[e] at g1 g2;exact⟨b',g1,g2⟩
  ·cases h
structure Stat(P:Program)(G:Nat)(ops:Array Oper)(bs:List (List Nat)):Prop where
 len:bs.length=ops.size
 ok:∀ (i:Nat) (o:Oper),ops[i]?=some o -> nz G o=true /\ ∃l,looks ops o=some l
 pair:∀ (i j:Nat) (o o':Oper) (b':List Nat),i<j -> ops[i]?=some o -> ops[j]?=some o' -> bs[j]?=some b' -> rz P ops i o o' b'=true
 lt:∀ (i:Nat) (b:List Nat),bs[i]?=some b -> ∀x∈b,x<i
 dc:∀ (i:Nat) (o:Oper) (b:List Nat),ops[i]?=some o -> bs[i]?=some b -> ∀x∈b,∃e∈o.after,Region.binds .any e=true /\ (x=e.on \/ ∃b',bs[e.on]?=some b' /\ x∈b')
 dir:∀ (i:Nat) (o:Oper) (b:List Nat),ops[i]?=some o -> bs[i]?=some b -> ∀e∈o.after,Region.binds .any e=true -> e.on<i
theorem yv(e:Edge):Region.binds .any e=xX e:=by
 unfold Region.binds xX;cases e.ground <;> rfl
theorem pQ{P:Program}{ops:Array Oper}{o':Oper}{b':List Nat}:∀ {l:List Oper} {i:Nat},rB P ops o' b' i l=true -> ∀j (hj:j<l.length),rz P ops (i+j) l[j] o' b'=true
 | [],i,h,j,hj=>by simp at hj
 | o::l,i,h,j,hj=>by
  rw[rB] at h;split at h
  ·rename_i h1;cases j with
   | zero=>exact h1
   | succ j =>
    have:=pQ h j (by simpa using hj);rw[show i+(j+1)=i+1+j from by omega];exact this
  ·cases h
theorem rP{P:Program}{G:Nat}{ops:Array Oper}{all:List Oper}:∀ {l:List Oper} {bs:List (List Nat)} {i:Nat},tV P G ops all i l bs=true -> bs.length=l.length /\ ∀j (hj:j<l.length),∃b,bs[j]?=some b /\ nz G l[j]=true /\ rB P ops l[j] b 0 (all.take (i+j))=true /\ (looks ops l[j]).isSome=true
 | [],[],i,h=>⟨rfl,λ j hj=>by simp at hj⟩
 | [],_::_,i,h=>by simp[tV] at h
 | _::_,[],i,h=>by simp[tV] at h
 | o::l,b::bs,i,h=>by
  rw[tV] at h;split at h
  ·rename_i h1 h2 h3;obtain⟨q1,q2⟩:=rP h;refine⟨by simp[q1],λ j hj=>?_⟩;cases j with
   | zero=>exact⟨b,rfl,h1,h2,h3⟩
   | succ j =>
    obtain⟨b',g1,g2,g3,g4⟩:=q2 j (by simpa using hj);refine⟨b',by simpa using g1,g2,?_,g4⟩;rw[show i+(j+1)=i+1+j from by omega];exact g3
  ·cases h
theorem yw{P:Program}{G:Nat}{ops:Array Oper}{bs:List (List Nat)}(h:AE P G ops=some bs):Stat P G ops bs:=by
 unfold AE at h;split at h
 case h_2=>cases h
 rename_i bs' hb;split at h
 case h_2=>cases h
 rename_i hs;cases h;obtain⟨q1,-,q3⟩:=ug hb;obtain⟨p1,p2⟩:=rP hs;simp only[List.length_nil,Nat.zero_add] at q1 q3;have iF:∀ {i:Nat} {o:Oper},ops[i]?=some o -> ∃hi:i<ops.toList.length,ops.toList[i]=o:=λ {i o} h=>by
  obtain⟨h1,h2⟩:=Array.getElem?_eq_some_iff.1 h;exact⟨by simpa using h1,by simpa using h2⟩
 have hbe:∀ {i:Nat} {o:Oper} {b:List Nat},ops[i]?=some o -> bs[i]?=some b -> AD (bs.take i) o.after.toList=some b:=λ {i o b} ho hb=>by
  obtain⟨hi,BY⟩:=iF ho;obtain⟨b',g1,g2⟩:=q3 i hi;rw[g1] at hb;cases hb;rw[BY] at g2;exact g2
 have hdc:∀ (i:Nat) (o:Oper) (b:List Nat),ops[i]?=some o -> bs[i]?=some b -> ∀x∈b,∃e∈o.after,Region.binds .any e=true /\ (x=e.on \/ ∃b',bs[e.on]?=some b' /\ x∈b'):=λ i o b ho hb x hx=>by
  obtain⟨e,h1,h2,h3⟩:=(pg (hbe ho hb)).2 x hx;refine⟨e,by simpa using h1,by rw[yv];exact h2,?_⟩;rcases h3 with h3|⟨b',h4,h5⟩
  ·exact .inl h3
  ·have:=(List.getElem?_eq_some_iff.1 h4).1;rw[List.getElem?_take_of_lt (by rw[aaQ] at this;omega)] at h4;exact .inr ⟨b',h4,h5⟩
 have acG:∀ (i:Nat) (o:Oper) (b:List Nat),ops[i]?=some o -> bs[i]?=some b -> ∀e∈o.after,Region.binds .any e=true -> e.on<i:=λ i o b ho hb e he acP=>by
  have:=(pg (hbe ho hb)).1 e (by simpa using he) (by rw[<- yv];exact acP);rw[aaQ] at this;omega
 refine⟨by rw[q1];simp,λ i o ho=>?_,λ i j o o' b' XZ ho BY TO=>?_,?_,hdc,acG⟩
 ·obtain⟨hi,BY⟩:=iF ho;obtain⟨b,-,g2,-,g4⟩:=p2 i hi;rw[BY] at g2 g4;exact⟨g2,Option.isSome_iff_exists.1 g4⟩
 ·obtain⟨hj,ZD⟩:=iF BY;obtain⟨hi,hoi⟩:=iF ho;obtain⟨b,g1,-,g3,-⟩:=p2 j hj;rw[g1] at TO;cases TO;rw[ZD,Nat.zero_add] at g3;have:=pQ g3 i (by rw[aaQ];omega);simpa [hoi] using this
 ·intro i
  induction i using Nat.strongRecOn with
  | _ i ih =>
   intro b hb x hx;have UD:i<ops.size:=by
    have:=(List.getElem?_eq_some_iff.1 hb).1;rw[q1] at this;simpa using this
   have ho:ops[i]?=some ops[i]:=Array.getElem?_eq_getElem UD;obtain⟨e,h1,h2,h3⟩:=hdc i _ b ho hb x hx;have ace:=acG i _ b ho hb e h1 h2;rcases h3 with rfl|⟨b',h4,h5⟩
   ·exact ace
   ·have:=ih _ ace b' h4 x h5;omega
section dr
variable {ν ν':Nu} {P:Program} {G N:Nat} {T T':Tr Value} {a:Act} {H H':AH} {F:HL} {w w':World} {r r':Option Nat} {ih:Task -> Option Rs}
inductive DK(P:Program)(G:Nat)(ih:Task -> Option Rs)(r:Option Nat)(N:Nat)(ops:Array Oper)(i:Nat)(o:Oper)(b:List Nat)(s:DSt):Value -> DSt -> Prop
 | no (T:Tr Value):eO ops o s.T=some false -> fo N o.dst undef s.T=some T -> DK P G ih r N ops i o b s undef { s with T:=T }
 | pu (v:Value) (T:Tr Value):eO ops o s.T=some true -> sy P o.op=.pu -> gS P o s.T=some v -> fo N o.dst v s.T=some T -> DK P G ih r N ops i o b s v { s with T:=T }
 | lo (v:Value) (T:Tr Value):eO ops o s.T=some true -> sy P o.op=.lo -> jB P o s.T s.H=some v -> fo N o.dst v s.T=some T -> DK P G ih r N ops i o b s v { s with T:=T,lds:=⟨i,o,b,s.T,v⟩::s.lds }
 | nw (bl:AB) (m:Mk) (T:Tr Value):eO ops o s.T=some true -> sy P o.op=.nw -> sO P o s.T=some (bl,m) -> fo N o.dst (m.val s.n) s.T=some T -> DK P G ih r N ops i o b s (m.val s.n) { s with T:=T,n:=s.n+1,pend:=s.pend++[(s.n,bl)] }
 | ef (v:Value) (H':AH) (n':Nat) (T:Tr Value):eO ops o s.T=some true -> sy P o.op=.ef -> j4 P G ih r o s.T (hZ s.H s.pend) s.n=some (.val v H' n') -> fo N o.dst v s.T=some T -> DK P G ih r N ops i o b s v { s with T:=T,H:=H',n:=n',pend:=[],stg:=s.stg++[(i,b,H')] }
theorem Im{ops:Array Oper}{i:Nat}{o:Oper}{b:List Nat}{s s':DSt}(h:RH P G ih r N ops i o b s=some s'):∃v,DK P G ih r N ops i o b s v s':=by
 unfold RH at h;split at h
 ·cases h
 ·rename_i hw;split at h
  ·rename_i T1 hp;cases h;exact⟨_,.no _ hw hp⟩
  ·cases h
 ·rename_i hw;split at h
  ·rename_i hc;split at h
   ·rename_i v hv;split at h
    ·rename_i T1 hp;cases h;exact⟨_,.pu _ _ hw hc hv hp⟩
    ·cases h
   ·cases h
  ·rename_i hc;split at h
   ·rename_i v hv;split at h
    ·rename_i T1 hp;cases h;exact⟨_,.lo _ _ hw hc hv hp⟩
    ·cases h
   ·cases h
  ·rename_i hc;split at h
   ·rename_i bl m hv;split at h
    ·rename_i T1 hp;cases h;exact⟨_,.nw _ _ _ hw hc hv hp⟩
    ·cases h
   ·cases h
  ·rename_i hc;simp only at h;split at h
   ·rename_i v H' n' hv;split at h
    ·rename_i T1 hp;cases h;exact⟨_,.ef _ _ _ _ hw hc hv hp⟩
    ·cases h
   ·cases h
theorem rQ{ops:Array Oper}:∀ {l:List Oper} {bs:List (List Nat)} {k:Nat} {s d:DSt},xY P G ih r N ops k l bs s=some d -> bs.length=l.length -> ∃ (σ:Nat -> DSt) (V:Nat -> Value),σ k=s /\ σ (k+l.length)=d /\ ∀j (hj:j<l.length),∃b,bs[j]?=some b /\ DK P G ih r N ops (k+j) l[j] b (σ (k+j)) (V (k+j)) (σ (k+j+1))
 | [],bs,k,s,d,h,hl=>by
  rw[xY] at h;cases h;exact⟨λ _=>s,λ _=>undef,rfl,rfl,λ j hj=>(by simp at hj)⟩
 | o::l,[],k,s,d,h,hl=>by simp at hl
 | o::l,b::bs,k,s,d,h,hl=>by
  rw[xY] at h;split at h
  ·rename_i s1 h1;obtain⟨v,hv⟩:=Im h1;obtain⟨σ,V,e1,e2,e3⟩:=rQ h (by simpa using hl);refine⟨λ x=>if x=k then s else σ x,λ x=>if x=k then v else V x,if_pos rfl,?_,λ j hj=>?_⟩
   ·simp only[aaS];rw[if_neg (by omega),<- e2];congr 1;omega
   ·cases j with
    | zero =>
     refine⟨b,rfl,?_⟩;simp only[Nat.add_zero,if_true];rw[if_neg (by omega),e1];exact hv
    | succ j =>
     obtain⟨b',g1,g2⟩:=e3 j (by simpa using hj);refine⟨b',by simpa using g1,?_⟩;simp only;rw[if_neg (by omega),if_neg (by omega),if_neg (by omega)];have e:k+(j+1)=k+1+j:=by omega
     rw[e];exact g2
  ·cases h
theorem Lz(u_:kG P G ih){o:Oper}{n n':Nat}{v:Value}{H':AH}(n_:j4 P G ih r o T H n=some (.val v H' n')):n <= n':=by
 unfold j4 at n_;split at n_
 ·cases n_
 rename_i y hy;split at n_
 ·cases n_;exact vG hy
 ·split at n_
  ·rename_i hc;cases n_;exact(u_ _ _ hc).1
  ·cases n_
 ·split at n_
  case h_2=>cases n_
  split at n_
  case h_2=>cases n_
  split at n_
  ·rename_i hc;cases n_;exact(u_ _ _ hc).1
  ·cases n_
 ·split at n_ <;> cases n_
 ·cases n_
theorem lF{dst:Option Tmp}{v:Value}(h:fo N dst v T=some T'):(∀t,cY T' t=if dst=some t then v else cY T t) /\ ∀d,dst=some d -> d<N:=by
 unfold fo at h;split at h
 ·cases h;exact⟨λ t=>by simp,λ d e=>(by cases e)⟩
 ·rename_i d;split at h
  ·rename_i hd;cases h;refine⟨λ t=>?_,λ d' e=>by cases e;exact dT hd⟩;unfold cY sM;rw[jb];simp
  ·cases h
structure Tra(P:Program)(G:Nat)(ih:Task -> Option Rs)(r:Option Nat)(N:Nat)(ops:Array Oper)(bs:List (List Nat))(σ:Nat -> DSt)(V:Nat -> Value):Prop where
 st:Stat P G ops bs
 stp:∀ (i:Nat) (o:Oper) (b:List Nat),ops[i]?=some o -> bs[i]?=some b -> DK P G ih r N ops i o b (σ i) (V i) (σ (i+1))
def kE(P:Program)(ops:Array Oper)(σ:Nat -> DSt)(i:Nat):Prop:=∃o,ops[i]?=some o /\ eO ops o (σ i).T=some true /\ sy P o.op=.ef
def kA(P:Program)(ops:Array Oper)(σ:Nat -> DSt)(i:Nat):Prop:=∃o,ops[i]?=some o /\ eO ops o (σ i).T=some true /\ sy P o.op=.nw
section tra
variable {ops:Array Oper} {bs:List (List Nat)} {σ:Nat -> DSt} {V:Nat -> Value}
theorem Tra.bef(h:Tra P G ih r N ops bs σ V){i:Nat}{o:Oper}(ho:ops[i]?=some o):∃b,bs[i]?=some b:=by
 have h1:=(Array.getElem?_eq_some_iff.1 ho).1;exact⟨_,aaT (by rw[h.st.len];exact h1)⟩
theorem Tra.at(h:Tra P G ih r N ops bs σ V){i:Nat}(hi:i<ops.size):∃o b,ops[i]?=some o /\ bs[i]?=some b /\ DK P G ih r N ops i o b (σ i) (V i) (σ (i+1)):=by
 have ho:ops[i]?=some ops[i]:=Array.getElem?_eq_getElem hi;obtain⟨b,hb⟩:=h.bef ho;exact⟨_,b,ho,hb,h.stp i _ b ho hb⟩
theorem Tra.notE(h:Tra P G ih r N ops bs σ V){i:Nat}(hi:i<ops.size)(hn:¬ kE P ops σ i):(σ (i+1)).H=(σ i).H /\ (σ (i+1)).stg=(σ i).stg:=by
 obtain⟨o,b,ho,hb,hk⟩:=h.at hi;generalize Q_:σ (i+1)=s' at hk ⊢;generalize V i=v at hk;cases hk with
 | ef v H' n' T hw hc _ _=>exact(hn ⟨o,ho,hw,hc⟩).elim
 | _=>exact⟨rfl,rfl⟩
theorem Tra.notA(h:Tra P G ih r N ops bs σ V){i:Nat}(hi:i<ops.size)(hn:¬ kE P ops σ i)(hn2:¬ kA P ops σ i):(σ (i+1)).pend=(σ i).pend /\ (σ (i+1)).n=(σ i).n:=by
 obtain⟨o,b,ho,hb,hk⟩:=h.at hi;generalize Q_:σ (i+1)=s' at hk ⊢;generalize V i=v at hk;cases hk with
 | ef v H' n' T hw hc _ _=>exact(hn ⟨o,ho,hw,hc⟩).elim
 | nw bl m T hw hc _ _=>exact(hn2 ⟨o,ho,hw,hc⟩).elim
 | _=>exact⟨rfl,rfl⟩
theorem Tra.isA(h:Tra P G ih r N ops bs σ V){i:Nat}(hA:kA P ops σ i):∃o bl m,ops[i]?=some o /\ sO P o (σ i).T=some (bl,m) /\ V i=m.val (σ i).n /\ (σ (i+1)).n=(σ i).n+1 /\ (σ (i+1)).pend=(σ i).pend++[((σ i).n,bl)]:=by
 obtain⟨o,ho,hw,hc⟩:=hA;obtain⟨b,hb⟩:=h.bef ho;have hk:=h.stp i o b ho hb;generalize Q_:σ (i+1)=s' at hk ⊢;generalize hv:V i=v at hk ⊢;cases hk with
 | no T Zk _=>rw[hw] at Zk;cases Zk
 | pu v T _ Tb _ _=>rw[hc] at Tb;cases Tb
 | lo v T _ Tb _ _=>rw[hc] at Tb;cases Tb
 | ef v H' n' T _ Tb _ _=>rw[hc] at Tb;cases Tb
 | nw bl m T _ _ hn _=>exact⟨o,bl,m,ho,hn,rfl,rfl,rfl⟩
theorem Tra.isE(h:Tra P G ih r N ops bs σ V){i:Nat}(hE:kE P ops σ i):∃o b,ops[i]?=some o /\ bs[i]?=some b /\ sy P o.op=.ef /\ eO ops o (σ i).T=some true /\ j4 P G ih r o (σ i).T (hZ (σ i).H (σ i).pend) (σ i).n=some (.val (V i) (σ (i+1)).H (σ (i+1)).n) /\ (σ (i+1)).pend=[] /\ (σ (i+1)).stg=(σ i).stg++[(i,b,(σ (i+1)).H)]:=by
 obtain⟨o,ho,hw,hc⟩:=hE;obtain⟨b,hb⟩:=h.bef ho;have hk:=h.stp i o b ho hb;generalize Q_:σ (i+1)=s' at hk ⊢;generalize hv:V i=v at hk ⊢;cases hk with
 | no T Zk _=>rw[hw] at Zk;cases Zk
 | pu v T _ Tb _ _=>rw[hc] at Tb;cases Tb
 | lo v T _ Tb _ _=>rw[hc] at Tb;cases Tb
 | nw bl m T _ Tb _ _=>rw[hc] at Tb;cases Tb
 | ef v H' n' T _ _ n_ _=>exact⟨o,b,ho,hb,hc,hw,n_,rfl,rfl⟩
theorem Tra.put(h:Tra P G ih r N ops bs σ V){i:Nat}{o:Oper}(ho:ops[i]?=some o):fo N o.dst (V i) (σ i).T=some (σ (i+1)).T:=by
 obtain⟨b,hb⟩:=h.bef ho;have hk:=h.stp i o b ho hb;generalize Q_:σ (i+1)=s' at hk ⊢;generalize hv:V i=v at hk ⊢;cases hk <;> assumption
theorem Tra.nle(h:Tra P G ih r N ops bs σ V)(u_:kG P G ih){i:Nat}(hi:i<ops.size):(σ i).n <= (σ (i+1)).n:=by
 obtain⟨o,b,ho,hb,hk⟩:=h.at hi;generalize Q_:σ (i+1)=s' at hk ⊢;generalize hv:V i=v at hk;cases hk with
 | ef v H' n' T hw hc n_ _=>exact Lz u_ n_
 | nw bl m T _ _ _ _=>exact Nat.le_succ _
 | _=>exact aaK _
theorem Tra.nles(h:Tra P G ih r N ops bs σ V)(u_:kG P G ih):∀ {i j:Nat},i <= j -> j <= ops.size -> (σ i).n <= (σ j).n:=by
 intro i j XZ
 induction j with
 | zero =>
  intro _;obtain rfl:i=0:=by omega
  exact aaK _
 | succ j XM =>
  intro hj;rcases aaZ i (j+1) with e|e
  ·exact Nat.le_trans (XM (by omega) (by omega)) (h.nle u_ (by omega))
  ·obtain rfl:i=j+1:=by omega
   exact aaK _
theorem Tra.Hsame(h:Tra P G ih r N ops bs σ V){q:Nat}:∀ {j:Nat},q <= j -> j <= ops.size -> (∀k,q <= k -> k<j -> ¬ kE P ops σ k) -> (σ j).H=(σ q).H /\ (σ j).stg=(σ q).stg:=by
 intro j hq
 induction j with
 | zero =>
  intro _ _;obtain rfl:q=0:=by omega
  exact⟨rfl,rfl⟩
 | succ j XM =>
  intro hj hn;rcases aaZ q (j+1) with e|e
  ·obtain⟨h1,h2⟩:=XM (by omega) (by omega) (λ k a b=>hn k a (by omega));obtain⟨h3,h4⟩:=h.notE (i:=j) (by omega) (hn j (by omega) (by omega));exact⟨h3.trans h1,h4.trans h2⟩
  ·obtain rfl:q=j+1:=by omega
   exact⟨rfl,rfl⟩
theorem Stat.dst(h:Stat P G ops bs){i j:Nat}{o o':Oper}{t:Tmp}(ho:ops[i]?=some o)(BY:ops[j]?=some o')(hd:o.dst=some t)(UF:o'.dst=some t):i=j:=by
 have key:∀ {i j:Nat} {o o':Oper},i<j -> ops[i]?=some o -> ops[j]?=some o' -> o.dst=some t -> o'.dst=some t -> False:=by
  intro i j o o' XZ ho BY hd UF;have hb:∃b',bs[j]?=some b':=⟨_,aaT (by rw[h.len];exact(Array.getElem?_eq_some_iff.1 BY).1)⟩;obtain⟨b',TO⟩:=hb;have hp:=h.pair i j o o' b' XZ ho BY TO;unfold rz at hp;split at hp
  ·rw[hd,UF] at hp;simp at hp
  ·split at hp
   ·cases hp
   ·split at hp
    ·rw[hd,UF] at hp;simp at hp
    ·cases hp
 rcases Nat.lt_trichotomy i j with e|e|e
 ·exact(key e ho BY hd UF).elim
 ·exact e
 ·exact(key e BY ho UF hd).elim
theorem Tra.Tno(h:Tra P G ih r N ops bs σ V){t:Tmp}:∀ {i:Nat},i <= ops.size -> (∀k o,k<i -> ops[k]?=some o -> o.dst≠some t) -> cY (σ i).T t=cY (σ 0).T t:=by
 intro i
 induction i with
 | zero=>intro _ _;rfl
 | succ i Ze =>
  intro hi hn;obtain⟨o,b,ho,hb,hk⟩:=h.at (i:=i) (by omega);rw[(lF (h.put ho)).1 t,if_neg (hn i o (by omega) ho)];exact Ze (by omega) (λ k o hk=>hn k o (by omega))
theorem Tra.Tyes(h:Tra P G ih r N ops bs σ V){t:Tmp}{j:Nat}{o:Oper}(ho:ops[j]?=some o)(hd:o.dst=some t):∀ {i:Nat},j<i -> i <= ops.size -> cY (σ i).T t=V j:=by
 intro i
 induction i with
 | zero=>intro hj;omega
 | succ i Ze =>
  intro hj hi;obtain⟨o',b,BY,hb,hk⟩:=h.at (i:=i) (by omega);rw[(lF (h.put BY)).1 t]
  by_cases e:i=j
  ·subst e;rw[ho] at BY;cases BY;rw[if_pos hd]
  ·rw[if_neg (λ UF=>e (h.st.dst BY ho UF hd))];exact Ze (by omega) (by omega)
inductive Rch:List Nat -> AH -> List (Nat × List Nat × AH) -> List Nat -> AH -> List (Nat × List Nat × AH) -> Prop
 | here (be:List Nat) (H:AH) (l:List (Nat × List Nat × AH)):Rch be H l be H l
 | next {be be' be'':List Nat} {H H' H'':AH} {e:Nat} {l l':List (Nat × List Nat × AH)}:Rch be' H' l be'' H'' l' -> Rch be H ((e,be',H')::l) be'' H'' l'
theorem Rch.snoc{be be' b:List Nat}{H H' h:AH}{e:Nat}{l l':List (Nat × List Nat × AH)}(hr:Rch be H l be' H' ((e,b,h)::l')):Rch be H l b h l':=by
 generalize hx:(e,b,h)::l'=x at hr
 induction hr with
 | here be H l=>subst hx;exact .next (.here _ _ _)
 | next _ ih=>exact .next (ih hx)
theorem EN{d:DLd}{be be':List Nat}{H H':AH}{l l':List (Nat × List Nat × AH)}(h:sP P d be H l=true)(hr:Rch be H l be' H' l'):d.i∈be' \/ (∃e b h x,l'=(e,b,h)::x /\ e∈d.b) \/ Q6 P d H'=true:=by
 induction hr with
 | here be H l =>
  cases l with
  | nil =>
   rw[sP] at h;split at h
   ·rename_i e;exact .inl (gW.1 e)
   ·exact .inr (.inr h)
  | cons x l =>
   obtain⟨e,b,hh⟩:=x;rw[sP] at h;split at h
   ·rename_i e1;rw[Bool.or_eq_true] at e1;rcases e1 with e1|e1
    ·exact .inl (gW.1 e1)
    ·exact .inr (.inl ⟨e,b,hh,l,rfl,gW.1 e1⟩)
   ·split at h
    ·rename_i e2;exact .inr (.inr e2)
    ·cases h
 | next _ ih =>
  rw[sP] at h;split at h
  ·exact ih h
  ·split at h
   ·exact ih h
   ·cases h
theorem rR{H:AH}{stg:List (Nat × List Nat × AH)}:∀ {l:List DLd},Cn P H stg l=true -> ∀d∈l,sP P d [] H stg=true
 | [],_,d,hd=>by cases hd
 | x::l,h,d,hd=>by
  rw[Cn] at h;split at h
  ·rename_i e;rcases List.mem_cons.1 hd with rfl|hd
   ·exact e
   ·exact rR h d hd
  ·cases h
theorem Tra.rch(h:Tra P G ih r N ops bs σ V)(h0:(σ 0).stg=[]):∀ {i:Nat},i <= ops.size -> ∃be,(∀rest,Rch [] (σ 0).H ((σ i).stg++rest) be (σ i).H rest) /\ (be=[] \/ ∃e,e<i /\ kE P ops σ e /\ bs[e]?=some be /\ ∀k,e<k -> k<i -> ¬ kE P ops σ k):=by
 intro i
 induction i with
 | zero=>intro _;exact⟨[],λ rest=>by rw[h0];exact .here _ _ _,.inl rfl⟩
 | succ i Ze =>
  intro hi;obtain⟨be,h1,h2⟩:=Ze (by omega)
  by_cases hE:kE P ops σ i
  ·obtain⟨o,b,ho,hb,hc,hw,n_,hp,hs⟩:=h.isE hE;refine⟨b,λ rest=>?_,.inr ⟨i,by omega,hE,hb,λ k a b=>by omega⟩⟩;rw[hs,aaH];exact(h1 _).snoc
  ·obtain⟨e1,e2⟩:=h.notE (i:=i) (by omega) hE;refine⟨be,λ rest=>by rw[e1,e2];exact h1 rest,?_⟩;rcases h2 with h2|⟨e,g1,g2,g3,g4⟩
   ·exact .inl h2
   ·refine .inr ⟨e,by omega,g2,g3,λ k a b=>?_⟩;rcases aaZ k i with hk|hk
    ·exact g4 k a hk
    ·obtain rfl:k=i:=by omega
     exact hE
theorem Tra.stgs(h:Tra P G ih r N ops bs σ V){q:Nat}:∀ {j:Nat},q <= j -> j <= ops.size -> ∃rest,(σ j).stg=(σ q).stg++rest /\ (rest=[] \/ ∃e b hh l,rest=(e,b,hh)::l /\ q <= e /\ kE P ops σ e):=by
 intro j hq
 induction j with
 | zero =>
  intro _;obtain rfl:q=0:=by omega
  exact⟨[],by simp,.inl rfl⟩
 | succ j XM =>
  intro hj;rcases aaZ q (j+1) with e|e
  ·obtain⟨rest,h1,h2⟩:=XM (by omega) (by omega)
   by_cases hE:kE P ops σ j
   ·obtain⟨o,b,ho,hb,hc,hw,n_,hp,hs⟩:=h.isE hE;refine⟨rest++[(j,b,(σ (j+1)).H)],by rw[hs,h1,aaH],.inr ?_⟩;rcases h2 with rfl|⟨e,b',hh,l,rfl,g2,g3⟩
    ·exact⟨j,b,_,[],rfl,by omega,hE⟩
    ·exact⟨e,b',hh,_,rfl,g2,g3⟩
   ·obtain⟨e1,e2⟩:=h.notE (i:=j) (by omega) hE;exact⟨rest,by rw[e2,h1],h2⟩
  ·obtain rfl:q=j+1:=by omega
   exact⟨[],by simp,.inl rfl⟩
theorem Tra.lds(h:Tra P G ih r N ops bs σ V){d:DLd}{i:Nat}:∀ {j:Nat},i <= j -> j <= ops.size -> d∈(σ i).lds -> d∈(σ j).lds:=by
 intro j XZ
 induction j with
 | zero =>
  intro _ hd;obtain rfl:i=0:=by omega
  exact hd
 | succ j XM =>
  intro hj hd;rcases aaZ i (j+1) with e|e
  ·have h1:=XM (by omega) (by omega) hd;obtain⟨o,b,ho,hb,hk⟩:=h.at (i:=j) (by omega);generalize Q_:σ (j+1)=s' at hk ⊢;generalize hv:V j=v at hk;cases hk <;> first|exact h1|exact aaE _ h1
  ·obtain rfl:i=j+1:=by omega
   exact hd
theorem Tra.opnd(h:Tra P G ih r N ops bs σ V){S:Nat -> Prop}{tm:Array Value}(akn:tm.size=N)
  (dc:∀i b,S i -> bs[i]?=some b -> ∀x∈b,S x)
  (tA:∀j o t,S j -> ops[j]?=some o -> o.dst=some t -> ∃v',tm[t]?=some v' /\ VRi ν (V j) v')
  (tB:∀t,t<N -> (∀j o,S j -> ops[j]?=some o -> o.dst≠some t) -> ∃v',tm[t]?=some v' /\ VRi ν (cY (σ 0).T t) v')
  (tO:∀t,N <= t -> cY (σ 0).T t=undef)
  {i:Nat} {o:Oper} {b:List Nat} (ho:ops[i]?=some o) (hb:bs[i]?=some b) (hi:¬ S i) (U8:∀x∈b,S x) {l:List Tmp} (hl:looks ops o=some l) {t:Tmp} (ht:t∈l) :
  (∃v',tm[t]?=some v' /\ VRi ν (cY (σ i).T t) v') \/ (tm[t]?=none /\ cY (σ i).T t=undef):=by
 have him:i<ops.size:=(Array.getElem?_eq_some_iff.1 ho).1
 by_cases hj:∃ (j:Nat) (o':Oper),ops[j]?=some o' /\ o'.dst=some t
 ·obtain⟨j,o',BY,hd⟩:=hj;have hjm:j<ops.size:=(Array.getElem?_eq_some_iff.1 BY).1;have htN:t<N:=(lF (h.put BY)).2 t hd;have uniq:∀k o2,ops[k]?=some o2 -> o2.dst=some t -> k=j:=λ k o2 h1 h2=>h.st.dst h1 BY h2 hd;rcases Nat.lt_trichotomy j i with e|e|e
  ·have hp:=h.st.pair j i o' o b e BY ho hb
   by_cases hm:j5 j b=true
   ·have hS:=U8 j (gW.1 hm);rw[h.Tyes BY hd e (by omega)];exact .inl (tA j o' t hS BY hd)
   ·exfalso;have hm':j5 j b=false:=by simpa using hm
    have hmt:j5 t l=true:=gW.2 ht;obtain⟨l',Vo⟩:=(h.st.ok j o' BY).2;unfold rz at hp;rw[hm'] at hp;simp only[hl,Vo,hd] at hp;split at hp
    ·cases hp
    ·cases hdo:o.dst <;> simp[hdo,hmt] at hp
  ·subst e;rw[ho] at BY;cases BY;rw[h.Tno (by omega) (λ k o2 hk h1 h2=>by have:=uniq k o2 h1 h2;omega)];exact .inl (tB t htN (λ k o2 hS h1 h2=>by have:=uniq k o2 h1 h2;subst this;exact hi hS))
  ·obtain⟨b',TO⟩:=h.bef BY;have hp:=h.st.pair i j o o' b' e ho BY TO
   by_cases hm:j5 i b'=true
   ·have hnS:¬ S j:=λ hS=>hi (dc j b' hS TO i (gW.1 hm));rw[h.Tno (by omega) (λ k o2 hk h1 h2=>by have:=uniq k o2 h1 h2;omega)];exact .inl (tB t htN (λ k o2 hS h1 h2=>by have:=uniq k o2 h1 h2;subst this;exact hnS hS))
   ·exfalso;have hm':j5 i b'=false:=by simpa using hm
    have hmt:j5 t l=true:=gW.2 ht;obtain⟨l',Vo⟩:=(h.st.ok j o' BY).2;unfold rz at hp;rw[hm'] at hp;simp only[hl,Vo,hd] at hp;split at hp
    ·cases hp
    ·cases hdo:o.dst <;> simp[hdo,hmt] at hp
 ·have TC:∀ (k:Nat) (o2:Oper),ops[k]?=some o2 -> o2.dst≠some t:=λ k o2 h1 h2=>hj ⟨k,o2,h1,h2⟩;rw[h.Tno (by omega) (λ k o2 _ h1=>TC k o2 h1)];rcases aaZ t N with e|e
  ·exact .inl (tB t e (λ k o2 _ h1=>TC k o2 h1))
  ·exact .inr ⟨Array.getElem?_eq_none (by omega),tO t e⟩
theorem HR.mono(hH:HR ν H F w)(hl:ν.Le ν'):HR ν' H F w:=by
 have key:∀h b r K,bX H h=some b -> ν' h=some (r,K) -> ν h=some (r,K):=λ h b r K hb hν=>by
  obtain⟨r',K',o,h1,-⟩:=hH.blk h b hb;rw[hl _ _ h1] at hν;rw[h1,hν]
 exact⟨λ h b hb=>let ⟨r,K,o,h1,h2,h3⟩:=hH.blk h b hb;⟨r,K,o,hl _ _ h1,h2,h3.mono hl⟩,λ h1 h2 b1 b2 r K1 K2 e1 e2 e3 e4=>hH.inj _ _ _ _ _ _ _ e1 e2 (key _ _ _ _ e1 e3) (key _ _ _ _ e2 e4),hH.frm,λ h b r K e1 e2=>hH.apt h b r K e1 (key _ _ _ _ e1 e2)⟩
theorem HR.less{F':HL}(hH:HR ν H F w)(h:∀x∈F',x∈F):HR ν H F' w:=⟨hH.blk,hH.inj,λ x hx=>hH.frm x (h x hx),λ k b r K e1 e2 x hx=>hH.apt k b r K e1 e2 x (h x hx)⟩
theorem HR.place(hH:HR ν H F w){n r K:Nat}{b:AB}{o:Obj}(hn:ν n=some (r,K))(hr:w.heap[r]?=some o)(ho:OR ν K b o)(hF:∀x∈F,x.1≠r)(Vs:∀k b' r' K',bX H k=some b' -> ν k=some (r',K') -> r'≠r):HR ν (cX H n (some b)) F w:=by
 have r_:∀k b',bX (cX H n (some b)) k=some b' -> k≠n -> bX H k=some b':=λ k b' hk AS=>by
  rw[dL,if_neg (Ne.symm AS)] at hk;exact hk
 refine⟨λ k b' hk=>?_,λ k1 k2 b1 b2 q K1 K2 h1 h2 h3 h4=>?_,hH.frm,λ k b' q K' hk hq x hx=>?_⟩
 ·by_cases e:k=n
  ·subst e;rw[dL,if_pos rfl] at hk;cases hk;exact⟨r,K,o,hn,hr,ho⟩
  ·exact hH.blk k b' (r_ k b' hk e)
 ·by_cases e1:k1=n
  ·by_cases e2:k2=n
   ·rw[e1,e2]
   ·subst e1;rw[hn] at h3;cases h3;exact(Vs _ _ _ _ (r_ _ _ h2 e2) h4 rfl).elim
  ·by_cases e2:k2=n
   ·subst e2;rw[hn] at h4;cases h4;exact(Vs _ _ _ _ (r_ _ _ h1 e1) h3 rfl).elim
   ·exact hH.inj _ _ _ _ _ _ _ (r_ _ _ h1 e1) (r_ _ _ h2 e2) h3 h4
 ·by_cases e:k=n
  ·subst e;rw[hn] at hq;cases hq;exact hF x hx
  ·exact hH.apt _ _ _ _ (r_ _ _ hk e) hq x hx
theorem yx(H:AH):∀ (l:List (Nat × AB)) (h:Nat) (b:AB),hZ H (l++[(h,b)])=cX (hZ H l) h (some b):=by
 intro l
 induction l generalizing H with
 | nil=>intro h b;rfl
 | cons x l ih=>obtain⟨h',b'⟩:=x;intro h b;exact ih _ h b
theorem Io(a:Act)(dst:Option Tmp)(v:Value)(t:Nat):(a.put dst v).tmps[t]?=if dst=some t then (if t<a.tmps.size then some v else none) else a.tmps[t]?:=by
 cases dst with
 | none=>simp[Act.put]
 | some d =>
  simp only[Act.put,Option.some.injEq];rw[Array.getElem?_setIfInBounds]
  by_cases e:d=t
  ·subst e;simp
  ·simp[e]
theorem Ip(a:Act)(dst:Option Tmp)(v:Value):(a.put dst v).tmps.size=a.tmps.size:=by cases dst <;> simp[Act.put]
structure Pen(P:Program)(ops:Array Oper)(σ:Nat -> DSt)(S:Nat -> Prop)(F:HL)(ν:Nu)(w:World)(q:Nat)(βb βK:Nat -> Nat)(βo:Nat -> Obj):Prop where
 be:∀k,kA P ops σ k -> S k -> q <= k -> ν (σ k).n=some (βb k,βK k) /\ w.heap[βb k]?=some (βo k) /\ ∀o bl m,ops[k]?=some o -> sO P o (σ k).T=some (bl,m) -> OR ν (βK k) bl (βo k)
 bi:∀k k',kA P ops σ k -> S k -> q <= k -> kA P ops σ k' -> S k' -> q <= k' -> k≠k' -> βb k≠βb k'
 bf:∀k,kA P ops σ k -> S k -> q <= k -> ∀x∈F,x.1≠βb k
 bh:∀k,kA P ops σ k -> S k -> q <= k -> ∀h b r K,bX (σ q).H h=some b -> ν h=some (r,K) -> r≠βb k
theorem Tra.placed(h:Tra P G ih r N ops bs σ V){S:Nat -> Prop}{q:Nat}{βb βK:Nat -> Nat}{βo:Nat -> Obj}(hp:Pen P ops σ S F ν w q βb βK βo)(hH:HR ν (σ q).H F w)(hq0:(σ q).pend=[]):∀ {j:Nat},q <= j -> j <= ops.size -> (∀k,q <= k -> k<j -> ¬ kE P ops σ k) -> (∀k,q <= k -> k<j -> kA P ops σ k -> S k) ->
  HR ν (hZ (σ q).H (σ j).pend) F w /\ ∀hd b r K,bX (hZ (σ q).H (σ j).pend) hd=some b -> ν hd=some (r,K) -> ∀k,kA P ops σ k -> S k -> j <= k -> r≠βb k:=by
 intro j hq
 induction j with
 | zero =>
  intro _ _ _;obtain rfl:q=0:=by omega
  rw[hq0];exact⟨hH,λ hd b r K e1 e2 k k1 k2 k3=>hp.bh k k1 k2 k3 hd b r K e1 e2⟩
 | succ j XM =>
  intro hj hnE hA;rcases aaZ q (j+1) with e|e
  ·obtain⟨g1,g2⟩:=XM (by omega) (by omega) (λ k a b=>hnE k a (by omega)) (λ k a b=>hA k a (by omega));have hE:=hnE j (by omega) (by omega)
   by_cases hAj:kA P ops σ j
   ·obtain⟨o,bl,m,ho,hn,hv,hnn,hpd⟩:=h.isA hAj;have hS:=hA j (by omega) (by omega) hAj;obtain⟨b1,b2,b3⟩:=hp.be j hAj hS (by omega);rw[hpd,yx];refine⟨g1.place b1 b2 (b3 o bl m ho hn) (hp.bf j hAj hS (by omega)) (λ k b' r' K' e1 e2=>g2 k b' r' K' e1 e2 j hAj hS (aaK _)),λ hd b r K e1 e2 k k1 k2 k3=>?_⟩;rw[dL] at e1;split at e1
    ·rename_i e3;subst e3;rw[b1] at e2;cases e2;exact hp.bi j k hAj hS (by omega) k1 k2 (by omega) (by omega)
    ·exact g2 hd b r K e1 e2 k k1 k2 (by omega)
   ·obtain⟨e1,e2⟩:=h.notA (i:=j) (by omega) hE hAj;rw[e1];exact⟨g1,λ hd b r K e1 e2 k k1 k2 k3=>g2 hd b r K e1 e2 k k1 k2 (by omega)⟩
  ·obtain rfl:q=j+1:=by omega
   rw[hq0];exact⟨hH,λ hd b r K e1 e2 k k1 k2 k3=>hp.bh k k1 k2 k3 hd b r K e1 e2⟩
abbrev ji(listed:Array Bool)(j:Nat):Prop:=listed.getD j false=true
structure DInv(P:Program)(G N:Nat)(ops:Array Oper)(bs:List (List Nat))(σ:Nat -> DSt)(V:Nat -> Value)(F:HL)(ν0:Nu)(D0:List Deferred)(r r':Option Nat)(w0:World)(listed:Array Bool)(ν:Nu)(a:Act)(w:World)(q:Nat)(βb βK:Nat -> Nat)(βo:Nat -> Obj):Prop where
 sz:listed.size=ops.size
 dc:∀ (i:Nat) (b:List Nat),ji listed i -> bs[i]?=some b -> ∀x∈b,ji listed x
 g:Glb ν G
 rr:RR ν r r'
 tsz:a.tmps.size=N
 tA:∀ (j:Nat) (o:Oper) (t:Tmp),ji listed j -> ops[j]?=some o -> o.dst=some t -> ∃v',a.tmps[t]?=some v' /\ VRi ν (V j) v'
 tB:∀ (t:Tmp),t<N -> (∀ (j:Nat) (o:Oper),ji listed j -> ops[j]?=some o -> o.dst≠some t) -> ∃v',a.tmps[t]?=some v' /\ VRi ν (cY (σ 0).T t) v'
 fr:∀j,j<ops.size -> ¬ ji listed j -> Fr ν (σ j).n (σ (j+1)).n
 ex:Ext ν0 ν (σ 0).n (σ ops.size).n
 d:DsR ν D0 a.defers
 qq:q <= ops.size /\ (q=0 \/ ∃e,q=e+1 /\ kE P ops σ e /\ ji listed e)
 qe:∀e,kE P ops σ e -> (ji listed e↔e<q)
 h:HR ν (σ q).H F w
 pen:Pen P ops σ (ji listed) F ν w q βb βK βo
 bw:Below 0 w0 w
theorem LA{listed:Array Bool}{i j:Nat}(hi:i<listed.size):ji (listed.setIfInBounds i true) j↔(ji listed j \/ j=i):=by
 unfold ji
 by_cases e:i=j
 ·subst e;simp[Array.getD_eq_getD_getElem?,hi]
 ·rw[getD_set_ne _ e];constructor
  ·exact .inl
  ·rintro(h|h)
   ·exact h
   ·exact(e h.symm).elim
theorem DInv.step(h:Tra P G ih r N ops bs σ V){ν0:Nu}{D0:List Deferred}{w0:World}{listed:Array Bool}{q:Nat}{βb βK:Nat -> Nat}{βo:Nat -> Obj}(I:DInv P G N ops bs σ V F ν0 D0 r r' w0 listed ν a w q βb βK βo)
  {i:Nat} {o:Oper} {b:List Nat} (ho:ops[i]?=some o) (hb:bs[i]?=some b) (hi:¬ ji listed i) (U8:∀x∈b,ji listed x) {v':Value} (hl:ν.Le ν') (hv:VRi ν' (V i) v') {q':Nat} {βb' βK':Nat -> Nat} {βo':Nat -> Obj}
  (Vs:∀j,j<ops.size -> ¬ ji listed j -> j≠i -> Fr ν' (σ j).n (σ (j+1)).n) (hex:Ext ν0 ν' (σ 0).n (σ ops.size).n)
  (hq:q' <= ops.size /\ (q'=0 \/ ∃e,q'=e+1 /\ kE P ops σ e /\ (ji listed e \/ e=i))) (hqe:∀e,kE P ops σ e -> ((ji listed e \/ e=i)↔e<q'))
  (hH:HR ν' (σ q').H F w') (XS:Pen P ops σ (λ j=>ji listed j \/ j=i) F ν' w' q' βb' βK' βo') (hw:Below 0 w w') :
  DInv P G N ops bs σ V F ν0 D0 r r' w0 (listed.setIfInBounds i true) ν' (a.put o.dst v') w' q' βb' βK' βo':=by
 have him:i<ops.size:=(Array.getElem?_eq_some_iff.1 ho).1;have UD:i<listed.size:=by rw[I.sz];exact him
 have hS:∀j,ji (listed.setIfInBounds i true) j↔(ji listed j \/ j=i):=λ j=>LA UD;have hdN:∀d,o.dst=some d -> d<N:=(lF (h.put ho)).2;refine⟨by simpa using I.sz,λ j b' hj TO x hx=>?_,I.g.mono hl,I.rr.mono hl,by rw[Ip];exact I.tsz,λ j o' t hj BY hd=>?_,λ t ht TC=>?_,λ j hj XT=>?_,hex,by rw[fJ];exact I.d.mono hl,?_,λ e he=>?_,hH,?_,I.bw.trans hw⟩
 ·rw[hS] at hj ⊢;rcases hj with hj|rfl
  ·exact .inl (I.dc j b' hj TO x hx)
  ·rw[hb] at TO;cases TO;exact .inl (U8 x hx)
 ·rw[hS] at hj;rw[Io];rcases hj with hj|rfl
  ·have AS:o.dst≠some t:=λ e=>by
    have:=h.st.dst ho BY e hd;subst this;exact hi hj
   rw[if_neg AS];obtain⟨v2,e1,e2⟩:=I.tA j o' t hj BY hd;exact⟨v2,e1,e2.mono hl⟩
  ·rw[ho] at BY;cases BY;rw[if_pos hd,if_pos (by rw[I.tsz];exact hdN t hd)];exact⟨v',rfl,hv⟩
 ·rw[Io,if_neg (TC i o ((hS i).2 (.inr rfl)) ho)];obtain⟨v2,e1,e2⟩:=I.tB t ht (λ j o' hj BY=>TC j o' ((hS j).2 (.inl hj)) BY);exact⟨v2,e1,e2.mono hl⟩
 ·rw[hS] at XT;exact Vs j hj (λ e=>XT (.inl e)) (λ e=>XT (.inr e))
 ·refine⟨hq.1,?_⟩;rcases hq.2 with e|⟨e,h1,h2,h3⟩
  ·exact .inl e
  ·exact .inr ⟨e,h1,h2,(hS e).2 h3⟩
 ·rw[hS];exact hqe e he
 ·exact⟨λ k k1 k2 k3=>XS.be k k1 ((hS k).1 k2) k3,λ k k' k1 k2 k3 k4 k5 k6=>XS.bi k k' k1 ((hS k).1 k2) k3 k4 ((hS k').1 k5) k6,λ k k1 k2 k3=>XS.bf k k1 ((hS k).1 k2) k3,λ k k1 k2 k3=>XS.bh k k1 ((hS k).1 k2) k3⟩
theorem DInv.still(h:Tra P G ih r N ops bs σ V){ν0:Nu}{D0:List Deferred}{w0:World}{listed:Array Bool}{q:Nat}{βb βK:Nat -> Nat}{βo:Nat -> Obj}(I:DInv P G N ops bs σ V F ν0 D0 r r' w0 listed ν a w q βb βK βo)
  {i:Nat} {o:Oper} {b:List Nat} (ho:ops[i]?=some o) (hb:bs[i]?=some b) (hi:¬ ji listed i) (U8:∀x∈b,ji listed x) {v':Value} (hv:VRi ν (V i) v') (hnE:¬ kE P ops σ i) (hnA:¬ kA P ops σ i) :
  DInv P G N ops bs σ V F ν0 D0 r r' w0 (listed.setIfInBounds i true) ν (a.put o.dst v') w q βb βK βo:=by
 refine I.step h ho hb hi U8 (Nu.Le.refl _) hv (λ j hj XT _=>I.fr j hj XT) I.ex ⟨I.qq.1,?_⟩ (λ e he=>?_) I.h ?_ (Below.refl _ _)
 ·rcases I.qq.2 with e|⟨e,h1,h2,h3⟩
  ·exact .inl e
  ·exact .inr ⟨e,h1,h2,.inl h3⟩
 ·rw[<- I.qe e he];constructor
  ·rintro(h1|h1)
   ·exact h1
   ·subst h1;exact(hnE he).elim
  ·exact .inl
 ·have key:∀k,kA P ops σ k -> (ji listed k \/ k=i) -> ji listed k:=λ k k1 k2=>by
   rcases k2 with k2|k2
   ·exact k2
   ·subst k2;exact(hnA k1).elim
  exact⟨λ k k1 k2 k3=>I.pen.be k k1 (key k k1 k2) k3,λ k k' k1 k2 k3 k4 k5 k6=>I.pen.bi k k' k1 (key k k1 k2) k3 k4 (key k' k4 k5) k6,λ k k1 k2 k3=>I.pen.bf k k1 (key k k1 k2) k3,λ k k1 k2 k3=>I.pen.bh k k1 (key k k1 k2) k3⟩
theorem Iq{o:Oper}(h:nz G o=true):∃l,i9 o.op=some l /\ sN G l=true:=by
 unfold nz at h;split at h
 ·rename_i l hl;exact⟨l,hl,h⟩
 ·cases h
theorem uh{t:Tmp}:∀ {l:List Operand},Operand.tmp t∈l -> t∈ry l
 | [],h=>by cases h
 | x::l,h=>by
  rcases List.mem_cons.1 h with e|h'
  ·subst e;rw[ry];exact aaB
  ·have:=uh h';cases x with
   | tmp t'=>exact aaE _ this
   | const v=>exact this
   | global g=>exact this
   | func f=>exact this
theorem EO{o:Oper}{l:List Operand}{lk:List Tmp}(hl:i9 o.op=some l)(h:looks ops o=some lk):∀t∈ry l,t∈lk:=by
 intro t ht;unfold looks at h;rw[hl] at h;simp only at h;split at h
 ·cases h;exact ht
 ·split at h
  ·cases h;exact aaE _ ht
  ·cases h
theorem yz{o:Oper}{lk:List Tmp}(h:looks ops o=some lk){j:Nat}{want:Bool}(hg:o.guard=some (j,want)){d:Tmp}(hd:(ops[j]?).bind (·.dst)=some d):d∈lk:=by
 unfold looks at h;split at h
 ·cases h
 rw[hg] at h;simp only[hd] at h;cases h;exact aaB
theorem EP{o:Oper}{b:Bool}{tm:Array Value}(hv:∀j want,o.guard=some (j,want) -> ∀d,(ops[j]?).bind (·.dst)=some d -> (∃v',tm[d]?=some v' /\ VRi ν (cY T d) v') \/ (tm[d]?=none /\ cY T d=undef))(h:eO ops o T=some b):Region.wanted o (yielded ops tm)=b:=by
 unfold eO at h;unfold Region.wanted;split at h
 ·rename_i hg;rw[hg];cases h;rfl
 ·rename_i j want hg;rw[hg];simp only;split at h
  case h_2=>cases h
  rename_i d hd;have hy:yielded ops tm j=match tm[d]? with|some (.bool b)=>some b|_=>none:=by
   unfold yielded;rw[hd];rfl
  have hv:=hv j want hg d hd;rw[hy];split at h
  ·rename_i b' hb;cases h;rcases hv with ⟨v',e1,e2⟩|⟨e1,e2⟩
   ·rw[hb] at e2;rw[e2.plain_eq rfl] at e1;rw[e1];simp
   ·rw[hb] at e2;cases e2
  ·rename_i vs hb;cases h;rcases hv with ⟨v',e1,e2⟩|⟨e1,e2⟩
   ·rw[hb] at e2;rw[e1];cases e2 with
    | atom _ h=>simp[cC] at h
    | tuple _ _=>rfl
   ·rw[e1];rfl
  ·cases h
theorem vJ{o:Oper}(h:sy P o.op=.ef):isE P o=true:=by unfold isE;rw[h]
theorem Ir{o:Oper}(h:sy P o.op=.nw):isN P o=true:=by unfold isN;rw[h]
theorem Stat.before(h:Stat P G ops bs){k j:Nat}{o o':Oper}{b':List Nat}(hkj:k<j)(ho:ops[k]?=some o)(BY:ops[j]?=some o')(TO:bs[j]?=some b')(hE:isE P o'=true)(hK:(isE P o || isN P o)=true):k∈b':=by
 have hp:=h.pair k j o o' b' hkj ho BY TO
 by_cases hm:j5 k b'=true
 ·exact gW.1 hm
 ·have hm':j5 k b'=false:=by simpa using hm
  unfold rz at hp;rw[hm'] at hp;simp only[hE,hK] at hp;cases hp
theorem Tra.op(h:Tra P G ih r N ops bs σ V)(u_:kG P G ih)(ZJ:∀d∈(σ ops.size).lds,sP P d [] (σ 0).H (σ ops.size).stg=true)(h0s:(σ 0).stg=[])(h0p:(σ 0).pend=[])(hTO:∀t,N <= t -> cY (σ 0).T t=undef)
  {ν0:Nu} {D0:List Deferred} {w0:World} {listed:Array Bool} {q:Nat} {βb βK:Nat -> Nat} {βo:Nat -> Obj} (I:DInv P G N ops bs σ V F ν0 D0 r r' w0 listed ν a w q βb βK βo) {i:Nat} {o:Oper} {b:List Nat} (ho:ops[i]?=some o) (hb:bs[i]?=some b) (hi:¬ ji listed i) (U8:∀x∈b,ji listed x)
  {K:Act -> World -> Prop} {Q:Exit -> Act -> World -> Prop} (hK:∀ν' a' w' q' βb' βK' βo',DInv P G N ops bs σ V F ν0 D0 r r' w0 (listed.setIfInBounds i true) ν' a' w' q' βb' βK' βo' -> K a' w'):wpOpIn (Wr r') 0 P ops Q i K a w:=by
 have him:i<ops.size:=(Array.getElem?_eq_some_iff.1 ho).1;obtain⟨afl,lk,hlk⟩:=h.st.ok i o ho;obtain⟨l,hl,hk⟩:=Iq afl;have DO:∀t∈lk,(∃v',a.tmps[t]?=some v' /\ VRi ν (cY (σ i).T t) v') \/ (a.tmps[t]?=none /\ cY (σ i).T t=undef):=λ t ht=>h.opnd I.tsz I.dc I.tA I.tB hTO ho hb hi U8 hlk ht;have g_:OK ν (σ i).T a l:=λ x hx=>by
  cases x with
  | tmp t =>
   show VRi ν (cY (σ i).T t) (a.tmps.getD t undef);rcases DO t (EO hl hlk t (uh hx)) with ⟨v',e1,e2⟩|⟨e1,e2⟩
   ·simpa [Array.getD_eq_getD_getElem?,e1] using e2
   ·rw[e2,Array.getD_eq_getD_getElem?,e1];exact aav
  | const v=>exact .plain_refl _ (rH hk _ hx)
  | global g =>
   obtain⟨K,e⟩:=I.g g (dT (rH hk _ hx));exact .ptr 0 e
  | func f=>exact .func (.func f) rfl (by simp) rfl (by simp)
 have UM:∀bb,eO ops o (σ i).T=some bb -> Region.wanted o (yielded ops a.tmps)=bb:=λ bb hw=>EP (λ j want hg d hd=>DO d (yz hlk hg hd)) hw;have hA:∀f,o.about P w a.eval=some f -> (Wr r').fn f:=λ _ _=>trivial;have Xx:=h.stp i o b ho hb;have SU:∀ {o2:Oper},ops[i]?=some o2 -> o2=o:=λ e=>by rw[ho] at e;cases e;rfl
 have hqi:sy P o.op=.nw -> q <= i:=λ hc=>by
  rcases I.qq.2 with e|⟨e,h1,⟨oe,h2,h3,h4⟩,h5⟩
  ·omega
  ·rcases aaZ i e with h6|h6
   ·obtain⟨be,hbe⟩:=h.bef h2;have:=h.st.before h6 ho h2 hbe (vJ h4) (by rw[Ir hc];simp);exact(hi (I.dc e be h5 hbe i this)).elim
   ·rcases aaZ e i with h7|h7
    ·omega
    ·obtain rfl:e=i:=by omega
     exact(hi h5).elim
 unfold wpOpIn;rw[ho];simp only;generalize Q_:σ (i+1)=s' at Xx;generalize hv:V i=v at Xx;cases Xx with
 | no T1 hw hp =>
  rw[if_neg (by rw[UM _ hw];simp)];refine⟨hA,hK _ _ _ _ _ _ _ (I.still h ho hb hi U8 (by rw[hv];exact aav) ?_ ?_)⟩
  ·rintro⟨o2,h1,h2,-⟩;rw[SU h1,hw] at h2;cases h2
  ·rintro⟨o2,h1,h2,-⟩;rw[SU h1,hw] at h2;cases h2
 | pu v T1 hw hc hpv hp =>
  rw[if_pos (UM _ hw)];have UC:∀c,o.op ≠ .defer c:=λ c e=>by rw[e] at hc;cases hc
  obtain⟨v',e1,e2⟩:=yl hpv (lZ hl UC) g_;refine⟨hA,?_⟩;rw[Oper.semAt_eq _ _ _ UC,e2 w,Oper.uponIn_value];refine hK _ _ _ _ _ _ _ (I.still h ho hb hi U8 (by rw[hv];exact e1) ?_ ?_)
  ·rintro⟨o2,h1,h2,h3⟩;rw[SU h1,hc] at h3;cases h3
  ·rintro⟨o2,h1,h2,h3⟩;rw[SU h1,hc] at h3;cases h3
 | lo v T1 hw hc hpv hp =>
  rw[if_pos (UM _ hw)];have UC:∀c,o.op ≠ .defer c:=λ c e=>by rw[e] at hc;cases hc
  have hld:(⟨i,o,b,(σ i).T,v⟩:DLd)∈(σ ops.size).lds:=h.lds (i:=i+1) (by omega) (aaK _) (by rw[Q_];exact aaB);have hch:=ZJ _ hld;obtain⟨be,g1,g2⟩:=h.rch h0s I.qq.1;obtain⟨rest,g3,g4⟩:=h.stgs I.qq.1 (aaK _);rw[g3] at hch;have IF:jB P o (σ i).T (σ q).H=some v:=by
   rcases EN hch (g1 rest) with c1|⟨e,bb,hh,x,c1,c2⟩|c1
   ·exfalso;simp only at c1;rcases g2 with rfl|⟨e,f1,f2,f3,f4⟩
    ·cases c1
    ·exact hi (I.dc e be ((I.qe e f2).2 f1) f3 i c1)
   ·exfalso;simp only at c2;rcases g4 with g4|⟨e',b',hh',l',g5,g6,g7⟩
    ·rw[g4] at c1;cases c1
    ·rw[g5] at c1;cases c1;have:=(I.qe e g7).1 (U8 e c2);omega
   ·unfold Q6 at c1;simp only at c1;split at c1
    ·rename_i v2 Zm;rw[Zm,<- AV _ _ c1]
    ·cases c1
  obtain⟨v',e1,e2⟩:=yq I.h IF (lZ hl UC) g_;refine⟨hA,?_⟩;rw[Oper.semAt_eq _ _ _ UC,e2,Oper.uponIn_value];refine hK _ _ _ _ _ _ _ (I.still h ho hb hi U8 (by rw[hv];exact e1) ?_ ?_)
  ·rintro⟨o2,h1,h2,h3⟩;rw[SU h1,hc] at h3;cases h3
  ·rintro⟨o2,h1,h2,h3⟩;rw[SU h1,hc] at h3;cases h3
 | nw bl m T1 hw hc hnv hp =>
  rw[if_pos (UM _ hw)];have UC:∀c,o.op ≠ .defer c:=λ c e=>by rw[e] at hc;cases hc
  obtain⟨e1,e2,o',e3,e4⟩:=Cq hnv (lZ hl UC) g_;refine⟨hA,?_⟩;rw[Oper.semAt_eq _ _ _ UC,e4 w,Oper.uponIn_value];have Ta:ν (σ i).n=none:=I.fr i him hi _ (aaK _) (by rw[Q_];exact Nat.lt_succ_self _);have hle:=j6 (r:=w.heap.size) (K:=0) Ta;have akA:=hqi hc;have hAi:kA P ops σ i:=⟨o,ho,hw,hc⟩;have UB:¬ kE P ops σ i:=by rintro⟨o2,h1,h2,h3⟩;rw[SU h1,hc] at h3;cases h3
  have By:∀ {x y:Nat},x <= y -> y <= ops.size -> (σ x).n <= (σ y).n:=λ e1 e2=>h.nles u_ e1 e2;have UT:(σ (i+1)).n=(σ i).n+1:=by rw[Q_]
  have YE:∀k,k<w.heap.size -> (w.heap.push o')[k]?=w.heap[k]?:=λ k hk=>by rw[Array.getElem?_push,if_neg (by omega)]
  refine hK (ν.upd (σ i).n w.heap.size 0) _ { w with heap:=w.heap.push o' } q (λ k=>if k=i then w.heap.size else βb k) (λ k=>if k=i then 0 else βK k) (λ k=>if k=i then o' else βo k) (I.step h ho hb hi U8 hle (by rw[hv];exact H9 e2 cm) (λ j hj XT AS=>?_) ?_ ⟨I.qq.1,?_⟩ (λ e he=>?_) ?_ ?_ ⟨rfl,rfl,rfl,by simp,λ k hk=>by omega⟩)
  ·intro x x1 x2;rw[eR]
   ·exact I.fr j hj XT x x1 x2
   ·intro ex;subst ex;rcases aaZ j i with e|e
    ·have:=By (x:=j+1) (y:=i) (by omega) (by omega);omega
    ·have h3:=By (x:=i+1) (y:=j) (by omega) (by omega);omega
  ·have h1:=By (x:=0) (y:=i) (by omega) (by omega);have h2:=By (x:=i+1) (y:=ops.size) (by omega) (by omega);exact⟨I.ex.le,λ x hx=>by rw[eR (by omega)];exact I.ex.out x hx⟩
  ·rcases I.qq.2 with e|⟨e,h1,h2,h3⟩
   ·exact .inl e
   ·exact .inr ⟨e,h1,h2,.inl h3⟩
  ·rw[<- I.qe e he];constructor
   ·rintro(h1|h1)
    ·exact h1
    ·subst h1;exact(UB he).elim
   ·exact .inl
  ·exact(I.h.mono hle).world (λ k hk=>YE k hk)
  ·have r_:∀k,(ji listed k \/ k=i) -> k≠i -> ji listed k:=λ k k1 k2=>k1.resolve_right k2;have iF:∀k,kA P ops σ k -> ji listed k -> q <= k -> βb k<w.heap.size:=λ k k1 k2 k3=>cF (I.pen.be k k1 k2 k3).2.1;refine⟨λ k k1 k2 k3=>?_,λ k k' k1 k2 k3 k4 k5 k6 k7=>?_,λ k k1 k2 k3 x hx=>?_,λ k k1 k2 k3 hd bb rr KK f1 f2=>?_⟩
   ·by_cases e:k=i
    ·subst e;simp only[if_true];refine⟨cm,by simp,λ o2 bl2 m2 h1 h2=>?_⟩;rw[SU h1,hnv] at h2;cases h2;exact(e3 0).mono hle
    ·simp only[if_neg e];obtain⟨f1,f2,f3⟩:=I.pen.be k k1 (r_ k k2 e) k3;exact⟨hle _ _ f1,by rw[YE _ (cF f2)];exact f2,λ o2 bl2 m2 h1 h2=>(f3 o2 bl2 m2 h1 h2).mono hle⟩
   ·by_cases e:k=i
    ·by_cases e':k'=i
     ·omega
     ·have:=iF k' k4 (r_ k' k5 e') k6;simp only[if_pos e,if_neg e'];omega
    ·have h1:=iF k k1 (r_ k k2 e) k3
     by_cases e':k'=i
     ·simp only[if_neg e,if_pos e'];omega
     ·simp only[if_neg e,if_neg e'];exact I.pen.bi k k' k1 (r_ k k2 e) k3 k4 (r_ k' k5 e') k6 k7
   ·by_cases e:k=i
    ·simp only[if_pos e];have:=cF (I.h.frm x hx);omega
    ·simp only[if_neg e];exact I.pen.bf k k1 (r_ k k2 e) k3 x hx
   ·by_cases e:k=i
    ·simp only[if_pos e];have:=(I.h.mono hle).lt f1 f2;omega
    ·simp only[if_neg e];obtain⟨r2,K2,o2,u1,-⟩:=I.h.blk _ _ f1;have f2':=hle _ _ u1;rw[f2] at f2';cases f2';exact I.pen.bh k k1 (r_ k k2 e) k3 hd bb rr KK f1 u1
 | ef v H' n' T1 hw hc n_ hp =>
  rw[if_pos (UM _ hw)];have By:∀ {x y:Nat},x <= y -> y <= ops.size -> (σ x).n <= (σ y).n:=λ e1 e2=>h.nles u_ e1 e2;have hEi:kE P ops σ i:=⟨o,ho,hw,hc⟩;have ab0:q <= i:=by
   rcases aaZ i q with e|e
   ·exact(hi ((I.qe i hEi).2 e)).elim
   ·exact e
  have Uu:∀k o2,k<i -> ops[k]?=some o2 -> (Go.Proofs.YtdppjkjbghbnjaaGreatDoor.isE P o2 || Go.Proofs.YtdppjkjbghbnjaaGreatDoor.isN P o2)=true -> ji listed k:=λ k o2 hk h1 h2=>U8 k (h.st.before hk h1 ho hb (vJ hc) h2);have WG:∀k,q <= k -> k<i -> ¬ kE P ops σ k:=λ k k1 k2 hk=>by
   obtain⟨o2,h1,h2,h3⟩:=hk;have hS:=Uu k o2 k2 h1 (by rw[vJ h3];rfl);have:=(I.qe k ⟨o2,h1,h2,h3⟩).1 hS;omega
  have acZ:∀k,q <= k -> k<i -> kA P ops σ k -> ji listed k:=λ k k1 k2 hk=>by
   obtain⟨o2,h1,h2,h3⟩:=hk;exact Uu k o2 k2 h1 (by rw[Ir h3];simp)
  have hqp:(σ q).pend=[]:=by
   rcases I.qq.2 with e|⟨e,h1,h2,h3⟩
   ·rw[e];exact h0p
   ·rw[h1];obtain⟨_,_,_,_,_,_,_,g8,_⟩:=h.isE h2;exact g8
  obtain⟨p1,p2⟩:=h.placed I.pen I.h hqp ab0 (by omega) WG acZ;obtain⟨s1,s2⟩:=h.Hsame ab0 (by omega) WG;rw[s1] at n_;have UT:(σ (i+1)).n=n':=by rw[Q_]
  have hH1:(σ (i+1)).H=H':=by rw[Q_]
  classical
  have hex:∃FA:HL,(∀k,kA P ops σ k -> ji listed k -> i<k -> (βb k,Blk.obj (βo k))∈FA) /\ (∀x∈FA,∃k,kA P ops σ k /\ ji listed k /\ i<k /\ x=(βb k,Blk.obj (βo k))):=by
   refine⟨((List.range ops.size).filter (λ k=>decide (kA P ops σ k /\ ji listed k /\ i<k))).map λ k=>(βb k,Blk.obj (βo k)),λ k k1 k2 k3=>?_,λ x hx=>?_⟩
   ·refine List.mem_map.2 ⟨k,List.mem_filter.2 ⟨List.mem_range.2 ?_,aba ⟨k1,k2,k3⟩⟩,rfl⟩;obtain⟨o2,h1,-⟩:=k1;exact(Array.getElem?_eq_some_iff.1 h1).1
   ·obtain⟨k,h1,h2⟩:=List.mem_map.1 hx;obtain⟨-,h3⟩:=List.mem_filter.1 h1;have h4:kA P ops σ k /\ ji listed k /\ i<k:=aa5 h3;exact⟨k,h4.1,h4.2.1,h4.2.2,h2.symm⟩
  obtain⟨FA,fa1,fa2⟩:=hex;have hH2:HR ν (hZ (σ q).H (σ i).pend) (FA++F) w:=by
   refine⟨p1.blk,p1.inj,λ x hx=>?_,λ hd bb rr KK f1 f2 x hx=>?_⟩
   ·rcases List.mem_append.1 hx with hx|hx
    ·obtain⟨k,k1,k2,k3,rfl⟩:=fa2 x hx;exact(I.pen.be k k1 k2 (by omega)).2.1
    ·exact p1.frm x hx
   ·rcases List.mem_append.1 hx with hx|hx
    ·obtain⟨k,k1,k2,k3,rfl⟩:=fa2 x hx;exact(p2 hd bb rr KK f1 f2 k k1 k2 (by omega)).symm
    ·exact p1.apt hd bb rr KK f1 f2 x hx
  obtain⟨-,hgo⟩:=vH (a:=a) (r':=r') u_ I.g I.rr (λ l' Vo _=>by rw[hl] at Vo;cases Vo;exact g_) hH2 n_;have YJ:Fr ν (σ i).n n':=by rw[<- UT];exact I.fr i him hi
  refine hgo YJ _ _ (λ ν' v' w' k1 k2 k3 k4=>?_);have hle:=k2.sub YJ;have acF:∀j,j<ops.size -> j≠i -> ∀x,(σ j).n <= x -> x<(σ (j+1)).n -> (x<(σ i).n \/ n' <= x):=λ j hj AS x x1 x2=>by
   rcases aaZ j i with e|e
   ·have:=By (x:=j+1) (y:=i) (by omega) (by omega);omega
   ·have:=By (x:=i+1) (y:=j) (by omega) (by omega);omega
  refine hK ν' _ w' (i+1) βb βK βo (I.step h ho hb hi U8 hle (by rw[hv];exact k1) (λ j hj XT AS x x1 x2=>?_) ?_ ⟨by omega,.inr ⟨i,rfl,hEi,.inr rfl⟩⟩ (λ e he=>?_) ?_ ?_ k4)
  ·rw[k2.out x (acF j hj AS x x1 x2)];exact I.fr j hj XT x x1 x2
  ·have h1:=By (x:=0) (y:=i) (by omega) (by omega);have h2:=By (x:=i+1) (y:=ops.size) (by omega) (by omega);exact⟨I.ex.le,λ x hx=>by rw[k2.out x (by omega)];exact I.ex.out x hx⟩
  ·constructor
   ·rintro(h1|h1)
    ·have:=(I.qe e he).1 h1;omega
    ·omega
   ·intro h1
    by_cases e2:e=i
    ·exact .inr e2
    ·obtain⟨o2,u1,u2,u3⟩:=he;exact .inl (Uu e o2 (by omega) u1 (by rw[vJ u3];rfl))
  ·rw[hH1];exact k3.less (λ x hx=>aay _ hx)
  ·have r_:∀k,(ji listed k \/ k=i) -> i+1 <= k -> ji listed k:=λ k u1 u2=>u1.resolve_right (by omega);refine⟨λ k u1 u2 u3=>?_,λ k k' u1 u2 u3 u4 u5 u6 u7=>I.pen.bi k k' u1 (r_ k u2 u3) (by omega) u4 (r_ k' u5 u6) (by omega) u7,λ k u1 u2 u3=>I.pen.bf k u1 (r_ k u2 u3) (by omega),λ k u1 u2 u3 hd bb rr KK f1 f2=>?_⟩
   ·obtain⟨f1,f2,f3⟩:=I.pen.be k u1 (r_ k u2 u3) (by omega);exact⟨hle _ _ f1,k3.frm _ (aaA _ (fa1 k u1 (r_ k u2 u3) (by omega))),λ o2 bl2 m2 h1 h2=>(f3 o2 bl2 m2 h1 h2).mono hle⟩
   ·rw[hH1] at f1;exact(k3.apt hd bb rr KK f1 f2 _ (aaA _ (fa1 k u1 (r_ k u2 u3) (by omega)))).symm
theorem Tra.all(h:Tra P G ih r N ops bs σ V){listed:Array Bool}(D_:listed.size=ops.size)(hr:Region.ready .any ops listed=[]):∀i,i<ops.size -> ji listed i:=by
 intro i
 induction i using Nat.strongRecOn with
 | _ i Ze =>
  intro hi
  by_cases hS:ji listed i
  ·exact hS
  ·exfalso;obtain⟨o,b,ho,hb,-⟩:=h.at hi;have hm:i∈Region.ready .any ops listed:=by
    refine mem_ready.2 ⟨?_,o,ho,λ e he hbd=>?_⟩
    ·have UD:i<listed.size:=by omega
     unfold ji at hS;rw[Array.getD_eq_getD_getElem?,Array.getElem?_eq_getElem UD] at hS ⊢;simpa using hS
    ·have iF:=h.st.dir i o b ho hb e he hbd;exact Ze _ iF (by omega)
   rw[hr] at hm;cases hm
theorem DInv.fin(h:Tra P G ih r N ops bs σ V)(h0p:(σ 0).pend=[])(hTO:∀t,N <= t -> cY (σ 0).T t=undef){ν0:Nu}{D0:List Deferred}{w0:World}{listed:Array Bool}{q:Nat}{βb βK:Nat -> Nat}{βo:Nat -> Obj}(I:DInv P G N ops bs σ V F ν0 D0 r r' w0 listed ν a w q βb βK βo)(H_:∀i,i<ops.size -> ji listed i) :
  SR ν G N ⟨(σ ops.size).T,D0,hZ (σ ops.size).H (σ ops.size).pend,(σ ops.size).n⟩ F a w:=by
 have iF:∀ {k:Nat} {o:Oper},ops[k]?=some o -> k<ops.size:=λ h=>(Array.getElem?_eq_some_iff.1 h).1;have WG:∀k,q <= k -> k<ops.size -> ¬ kE P ops σ k:=λ k k1 k2 hk=>by
  have:=(I.qe k hk).1 (H_ k k2);omega
 have hqp:(σ q).pend=[]:=by
  rcases I.qq.2 with e|⟨e,h1,h2,h3⟩
  ·rw[e];exact h0p
  ·rw[h1];obtain⟨_,_,_,_,_,_,_,g8,_⟩:=h.isE h2;exact g8
 obtain⟨p1,-⟩:=h.placed I.pen I.h hqp I.qq.1 (aaK _) WG (λ k k1 k2 _=>H_ k k2);obtain⟨s1,-⟩:=h.Hsame I.qq.1 (aaK _) WG;refine⟨I.g,⟨I.tsz,λ t ht=>?_,λ t ht=>?_⟩,I.d,by simp only;rw[s1];exact p1⟩
 ·by_cases hj:∃ (j:Nat) (o:Oper),ops[j]?=some o /\ o.dst=some t
  ·obtain⟨j,o,ho,hd⟩:=hj;rw[h.Tyes ho hd (iF ho) (aaK _)];exact I.tA j o t (H_ j (iF ho)) ho hd
  ·rw[h.Tno (aaK _) (λ k o _ h1 h2=>hj ⟨k,o,h1,h2⟩)];exact I.tB t ht (λ j o _ h1 h2=>hj ⟨j,o,h1,h2⟩)
 ·rw[h.Tno (aaK _) (λ k o _ h1 h2=>by
   exact absurd ((lF (h.put h1)).2 t h2) (Nat.not_lt.2 ht))]
  exact hTO t ht
theorem Tra.any(h:Tra P G ih r N ops bs σ V)(u_:kG P G ih)(ZJ:∀d∈(σ ops.size).lds,sP P d [] (σ 0).H (σ ops.size).stg=true)(h0s:(σ 0).stg=[])(h0p:(σ 0).pend=[])(hTO:∀t,N <= t -> cY (σ 0).T t=undef)
  {ν0:Nu} {D0:List Deferred} {w0:World} {Q:Exit -> Act -> World -> Prop} (hQ:∀ν a w,Ext ν0 ν (σ 0).n (σ ops.size).n -> SR ν G N ⟨(σ ops.size).T,D0,hZ (σ ops.size).H (σ ops.size).pend,(σ ops.size).n⟩ F a w -> Below 0 w0 w -> Q .normal a w) :
  ∀ (fuel:Nat) (listed:Array Bool) (ν:Nu) (a:Act) (w:World) (q:Nat) (βb βK:Nat -> Nat) (βo:Nat -> Obj),DInv P G N ops bs σ V F ν0 D0 r r' w0 listed ν a w q βb βK βo -> listed.toList.count false <= fuel -> wpAnyIn (Wr r') 0 P .any ops Q fuel listed a w:=by
 have done:∀ (listed:Array Bool) (ν:Nu) (a:Act) (w:World) (q:Nat) (βb βK:Nat -> Nat) (βo:Nat -> Obj),DInv P G N ops bs σ V F ν0 D0 r r' w0 listed ν a w q βb βK βo -> Region.ready .any ops listed=[] -> Q .normal a w:=λ listed ν a w q βb βK βo I hr =>
  hQ ν a w I.ex (I.fin h h0p hTO (h.all I.sz hr)) I.bw
 have unl:∀ (listed:Array Bool) (i:Nat),listed.size=ops.size -> i∈Region.ready .any ops listed -> ∃UD:i<listed.toList.length,listed.toList[i]=false:=λ listed i D_ hi=>by
  obtain⟨h1,o,h2,-⟩:=mem_ready.1 hi;have him:=(Array.getElem?_eq_some_iff.1 h2).1;have UD:i<listed.size:=by omega
  refine⟨by simpa using UD,?_⟩;rw[Array.getD_eq_getD_getElem?,Array.getElem?_eq_getElem UD] at h1;simpa using h1
 intro fuel
 induction fuel with
 | zero =>
  intro listed ν a w q βb βK βo I hc;have hr:Region.ready .any ops listed=[]:=by
   cases hrr:Region.ready .any ops listed with
   | nil=>rfl
   | cons i l =>
    exfalso;obtain⟨UD,e⟩:=unl listed i I.sz (by rw[hrr];exact aaB);have:0<listed.toList.count false:=List.count_pos_iff.2 (by rw[<- e];exact List.getElem_mem UD);omega
  exact⟨hr,done _ _ _ _ _ _ _ _ I hr⟩
 | succ fuel ihf =>
  intro listed ν a w q βb βK βo I hc;refine⟨λ hr=>done _ _ _ _ _ _ _ _ I hr,λ i hi=>?_⟩;obtain⟨UD,e⟩:=unl listed i I.sz hi;obtain⟨h1,o,ho,H_⟩:=mem_ready.1 hi;obtain⟨b,hb⟩:=h.bef ho;have hnS:¬ ji listed i:=by
   unfold ji;have afK:i<listed.size:=by simpa using UD
   rw[Array.getD_eq_getD_getElem?,Array.getElem?_eq_getElem afK];simpa using e
  have U8:∀x∈b,ji listed x:=λ x hx=>by
   obtain⟨ed,e1,e2,e3⟩:=h.st.dc i o b ho hb x hx;have hon:=H_ ed e1 e2;rcases e3 with rfl|⟨b',e4,e5⟩
   ·exact hon
   ·exact I.dc _ b' hon e4 x e5
  refine h.op u_ ZJ h0s h0p hTO I ho hb hnS U8 (λ ν' a' w' q' βb' βK' βo' I'=>ihf _ _ _ _ _ _ _ _ I' ?_);have hcs:(listed.setIfInBounds i true).toList.count false=listed.toList.count false-1:=by
   rw[Array.toList_setIfInBounds,List.count_set UD];simp[e]
  omega
end tra
theorem LB(u_:kG P G ih)(hm:P.follows .mixedOrders=true){id:Nat}{ops:Array Oper}{s s':St}(h:N6 P G ih r N ops s=some s'):s.n <= s'.n /\ ∀ν F a w r' (Q:Exit -> Act -> World -> Prop),RR ν r r' -> SR ν G N s F a w -> Fr ν s.n s'.n ->
  (∀ν' a' w',Ext ν ν' s.n s'.n -> SR ν' G N s' F a' w' -> Below 0 w w' -> Q .normal a' w') -> (Code.region id ops true).wpIn (Wr r') 0 P Q a w:=by
 unfold N6 at h;split at h
 ·cases h
 rename_i bs hbs;split at h
 ·cases h
 rename_i d hd;split at h
 case h_2=>cases h
 rename_i agb;cases h;have n_:=yw hbs;obtain⟨σ,V,e0,e1,e2⟩:=rQ hd (by rw[n_.len];simp);have Zp:ops.toList.length=ops.size:=by simp
 rw[Nat.zero_add,Zp] at e1;have htr:Tra P G ih r N ops bs σ V:=⟨n_,λ i o b ho hb=>by
  obtain⟨h1,h2⟩:=Array.getElem?_eq_some_iff.1 ho;obtain⟨b',g1,g2⟩:=e2 i (by rw[Zp];exact h1);rw[g1] at hb;cases hb;rw[Nat.zero_add] at g2;have:ops.toList[i]'(by rw[Zp];exact h1)=o:=by simpa using h2
  rw[this] at g2;exact g2⟩
 have By:=htr.nles u_ (aaL ops.size) (aaK _);rw[e0,e1] at By;refine⟨By,λ ν F a w r' Q hr hs hf hk=>wpIn_region_any hm ?_⟩;have afr:s.n <= d.n:=By;have hf':Fr ν s.n d.n:=hf;have Ta:(σ 0).n=s.n:=by rw[e0]
 have hnm:(σ ops.size).n=d.n:=by rw[e1]
 refine htr.any (F:=F) (ν0:=ν) (D0:=s.D) (w0:=w) (r':=r') u_ (λ x hx=>?_) (by rw[e0]) (by rw[e0]) (λ t ht=>by rw[e0];exact hs.t.out t ht) (λ ν' a' w' k1 k2 k3=>?_) ops.size _ ν a _ 0 (λ _=>0) (λ _=>0) (λ _=>.deferred none) ?_ ?_
 ·rw[e1] at hx ⊢;rw[e0];exact rR agb x hx
 ·rw[e1] at k2;rw[Ta,hnm] at k1;exact hk ν' a' w' k1 k2 k3
 ·have TC:∀j,¬ ji (Array.replicate ops.size false) j:=λ j hj=>by
   unfold ji at hj;rw[Array.getD_eq_getD_getElem?,Array.getElem?_replicate] at hj;split at hj <;> simp at hj
  refine⟨by simp,λ i b hi _ _ _=>(TC i hi).elim,hs.g,hr,hs.t.size,λ j o t hj _ _=>(TC j hj).elim,λ t ht _=>by rw[e0];exact hs.t.get t ht,λ j hj _=>λ x x1 x2=>?_,⟨?_,λ _ _=>rfl⟩,hs.d,⟨aaL _,.inl rfl⟩,λ e he=>⟨λ h=>(TC e h).elim,λ h=>by omega⟩,?_,?_,?_⟩
  ·have h1:=htr.nles u_ (aaL j) (by omega);have h2:=htr.nles u_ (i:=j+1) (j:=ops.size) (by omega) (aaK _);exact hf' x (by omega) (by omega)
  ·omega
  ·rw[e0];exact hs.h.world (λ k hk=>rfl)
  ·exact⟨λ k _ h2 _=>(TC k h2).elim,λ k k' _ h2 _ _ _ _ _=>(TC k h2).elim,λ k _ h2 _=>(TC k h2).elim,λ k _ h2 _=>(TC k h2).elim⟩
  ·exact⟨rfl,rfl,rfl,aaK _,λ _ _=>rfl⟩
 ·simp
end dr
section code
variable {ν ν':Nu} {P:Program} {G N:Nat} {T T':Tr Value} {a:Act} {H H':AH} {F:HL} {w w':World} {r r':Option Nat} {ih:Task -> Option Rs}
theorem Ext.sub'{n m k:Nat}(h1:Ext ν ν' n m)(hf:Fr ν n k)(hm:m <= k):ν.Le ν':=h1.sub λ i a b=>hf i a (by omega)
theorem yA(u_:kG P G ih){c:Code}(hc:∀ (s:St) e s',jd P G ih r N c s=some (e,s') -> jN P G (.code r N c s) (.cd e s')){s s':St}{e:Ex}(h:jd P G ih r N (.loop c) s=some (e,s')):jN P G (.loop r N c s) (.cd e s'):=by
 rw[jd] at h;split at h
 ·rename_i s1 h1;obtain⟨q1,q2⟩:=hc _ _ _ h1;split at h
  ·rename_i e2 s2 h2;cases h;obtain⟨p1,p2⟩:=u_ _ _ h2;refine⟨by omega,λ ν F a w r' Q hr hs hf hk=>yu ?_⟩;refine q2 ν F a w r' _ hr hs (λ i a b=>hf i a (by omega)) (λ ν' a' w' k1 k2 k3=>?_);have IN:=k1.sub' hf p1;exact p2 ν' F a' w' r' Q (hr.mono IN) k2 (k1.fr hf p1) (λ ν2 a2 w2 g1 g2 g3=>hk ν2 a2 w2 (k1.trans g1) g2 (k3.trans g3))
  ·cases h
 ·rename_i x AS;obtain⟨q1,q2⟩:=hc _ _ _ h;refine⟨q1,λ ν F a w r' Q hr hs hf hk=>yu ?_⟩;refine q2 ν F a w r' _ hr hs hf (λ ν' a' w' k1 k2 k3=>?_);have:=hk ν' a' w' k1 k2 k3;cases e with
  | normal=>exact(AS _ h).elim
  | exit id=>exact this
  | ret=>exact this
theorem Iu{c:Code}{e:Ex}{Q:Exit -> Act -> World -> Prop}{a:Act}(h:Co c=some e)(hq:Q e.out a w):c.wpIn (Wr r') 0 P Q a w:=by
 unfold Co at h;split at h
 ·cases h;exact wpIn_ret hq
 ·cases h;exact wpIn_exit hq
 ·cases h
theorem AW{fn:FuncId}{tm:Array Value}{ps:Array Tmp}{aZz bo:Code}{w:World}:(Instr.enterLoop fn tm ps aZz bo none).run P w =
  .ok (w.heap.size+1,[{ target:=.collected w.heap.size,args:=#[] }]) { w with heap:=(w.heap.push (.deferred (some []))).push (.loop { state:=.ready,pending:=none,fn,tmps:=tm,params:=ps,assign:=aZz,body:=bo,defers:=w.heap.size }) }:=by
 unfold Instr.enterLoop;simp only[aa4,fl,cq,aa3,Array.size_push]
theorem AX{fn:FuncId}{tm:Array Value}{ps:Array Tmp}{aZz bo:Code}{w:World}{l:Nat}{lp:Loop}(h:w.heap[l]?=some (.loop lp)):(Instr.enterLoop fn tm ps aZz bo (some l)).run P w =
  .ok (w.heap.size,[]) { w with heap:=w.heap.push (.loop { state:=.ready,pending:=none,fn,tmps:=tm,params:=ps,assign:=aZz,body:=bo,defers:=lp.defers }) }:=by
 unfold Instr.enterLoop;simp only[aa4,fl,cq,aa3,gV h]
theorem lG{l:Nat}{lp:Loop}{o:Obj}(h:w.heap[l]?=some (.loop lp)):(setObj l o).run P w=.ok () { w with heap:=w.heap.setIfInBounds l o }:=by
 unfold setObj;rw[Sem.run.eq_def];simp only[h];rfl
theorem HR.setObj(hH:HR ν H F w){h b K:Nat}{b0 b1:AB}{o':Obj}(hb:bX H h=some b0)(hw0:H7 b0=true)(hw1:H7 b1=true)(hν:ν h=some (b,K))(ho:OR ν K b1 o'):HR ν (cX H h (some b1)) F { w with heap:=w.heap.setIfInBounds b o' }:=by
 have iF:=hH.lt hb hν;refine hH.upd hb hw0 hw1 hν (o':=o') ?_ ho (λ k hk=>?_)
 ·show (w.heap.setIfInBounds b o')[b]?=_;rw[Array.getElem?_setIfInBounds_self_of_lt iF]
 ·show (w.heap.setIfInBounds b o')[k]?=_;rw[Array.getElem?_setIfInBounds_ne (Ne.symm hk)]
theorem l8{b:Nat}{o:Obj}:Below 0 w { w with heap:=w.heap.setIfInBounds b o }:=⟨rfl,rfl,rfl,by simp,λ k hk=>by omega⟩
theorem yB{l:Nat}{lp:Loop}(h:w.heap[l]?=some (.loop lp))(hb:lp.state ≠ .busy):(Instr.endLoop l).run P w=.ok lp.pending { w with heap:=w.heap.setIfInBounds l (.loop { lp with state:=.exhausted }) }:=by
 unfold Instr.endLoop;rw[aa4,gV h];simp only[aa3];rw[if_neg (by simpa using hb)];rw[aa4,lG h];rfl
theorem EQ(u_:kG P G ih){g:Operand}{ps:Array Tmp}{aZz bo:Code}{s s':St}{e:Ex}(h:jd P G ih r N (.rangeFunc g ps aZz bo) s=some (e,s')):jN P G (.code r N (.rangeFunc g ps aZz bo) s) (.cd e s'):=by
 rw[jd.eq_def] at h;simp only at h;split at h
 case h_2=>cases h
 rename_i f first captured hg hk
 split at h
 case h_2=>cases h
 rename_i hB;split at h
 case h_2=>cases h
 rename_i d D H1 n1 So;split at h
 case h_2=>cases h
 rename_i v H2 n2 To;split at h
 case h_2=>cases h
 rename_i st pend T' N' Wo V8 bo' d' hlp;obtain⟨hle,VE⟩:=u_ _ _ To;have UT:s.n <= n1:=by
  cases r with
  | none=>simp only[Option.some.injEq,Prod.mk.injEq] at So;omega
  | some l0 =>
   simp only at So;split at So
   ·simp only[Option.some.injEq,Prod.mk.injEq] at So;omega
   ·cases So
 have n_:st ≠ .busy:=by
  rintro rfl;simp at h
 have Q_:s'=⟨s.T,D,cX H2 n1 (some (.loop .exhausted pend T' N' Wo V8 bo' d')),n2⟩ /\ ((pend=none /\ e=.normal) \/ ∃c,pend=some c /\ Co c=some e):=by
  cases st with
  | busy=>exact(n_ rfl).elim
  | _ =>
   cases pend with
   | none=>simp at h;exact⟨h.2.symm,.inl ⟨rfl,h.1.symm⟩⟩
   | some c =>
    simp only at h;split at h
    ·rename_i e1 he;cases h;exact⟨rfl,.inr ⟨c,rfl,he⟩⟩
    ·cases h
 obtain⟨rfl,ab5⟩:=Q_;refine⟨by simp only;omega,λ ν F a w r' Q hr hs hf hkk=>?_⟩;simp only at hf hkk;refine wpIn_rangeFunc λ fn _=>?_;have afA:∃ (l:Nat) (mark:List Deferred) (w1:World) (ν1:Nu),(Instr.enterLoop fn a.tmps ps aZz bo (Wr r').round).run P w=.ok (l,mark) w1 /\ ν1 n1=some (l,0) /\ Ext ν ν1 s.n (n1+1) /\ HR ν1 (cX H1 n1 (some (.loop .ready none s.T N ps aZz bo d))) F w1 /\ Below 0 w w1 /\ DsR ν1 D (mark++a.defers) /\ ν.Le ν1:=by
  cases hr with
  | none =>
   simp only[Option.some.injEq,Prod.mk.injEq] at So;obtain⟨e1,e2,e3,e4⟩:=So;subst e1;subst e2;subst e3;subst e4;have Ta:ν s.n=none:=hf _ (aaK _) (by omega);have hx1:Ext ν (ν.upd s.n w.heap.size 0) s.n (s.n+1):=.upd;have VW:=j6 (r:=w.heap.size) (K:=0) Ta;have h1:HR (ν.upd s.n w.heap.size 0) (cX s.H s.n (some (.dfr false))) F { w with heap:=w.heap.push (.deferred (some [])) }:=hs.h.new (K:=0) Ta (b:=.dfr false) (o:=.deferred (some [])) rfl rfl rfl;have hn2:(ν.upd s.n w.heap.size 0) (s.n+1)=none:=by rw[eR (by omega)];exact hf _ (by omega) (by omega)
   have hx2:Ext (ν.upd s.n w.heap.size 0) ((ν.upd s.n w.heap.size 0).upd (s.n+1) (w.heap.size+1) 0) (s.n+1) (s.n+1+1):=.upd;have WJ:=j6 (r:=w.heap.size+1) (K:=0) hn2;have h2:=h1.new (K:=0) (w':={ w with heap:=(w.heap.push (.deferred (some []))).push (.loop { state:=.ready,pending:=none,fn,tmps:=a.tmps,params:=ps,assign:=aZz,body:=bo,defers:=w.heap.size }) }) hn2 (b:=.loop .ready none s.T N ps aZz bo s.n) (o:=.loop { state:=.ready,pending:=none,fn,tmps:=a.tmps,params:=ps,assign:=aZz,body:=bo,defers:=w.heap.size }) ⟨rfl,rfl,hs.t.mono VW,rfl,rfl,rfl,0,cm⟩ rfl rfl;have D_:({ w with heap:=w.heap.push (.deferred (some [])) }:World).heap.size=w.heap.size+1:=by simp
   rw[D_] at h2;refine⟨w.heap.size+1,_,_,_,AW,cm,hx1.trans hx2,h2,⟨rfl,rfl,rfl,by simp;omega,λ k hk=>by omega⟩,.cons ⟨.coll (b:=w.heap.size) (K:=0) ?_,.nil⟩ ((hs.d.mono VW).mono WJ),VW.trans WJ⟩;exact WJ _ _ cm
  | @some l0 b0 K0 hν0 =>
   simp only at So;split at So
   case h_2=>cases So
   rename_i _ _ _ _ _ _ _ dd VI;simp only[Option.some.injEq,Prod.mk.injEq] at So;obtain⟨e1,e2,e3,e4⟩:=So;subst e1;subst e2;subst e3;subst e4;obtain⟨lp,g1,g2,g3,g4,g5,g6,g7,K',g8⟩:=hs.h.loop VI hν0;have Ta:ν s.n=none:=hf _ (aaK _) (by omega);have VW:=j6 (r:=w.heap.size) (K:=0) Ta;have h1:=hs.h.new (K:=0) (w':={ w with heap:=w.heap.push (.loop { state:=.ready,pending:=none,fn,tmps:=a.tmps,params:=ps,assign:=aZz,body:=bo,defers:=lp.defers }) }) Ta (b:=.loop .ready none s.T N ps aZz bo dd) (o:=.loop { state:=.ready,pending:=none,fn,tmps:=a.tmps,params:=ps,assign:=aZz,body:=bo,defers:=lp.defers }) ⟨rfl,rfl,hs.t,rfl,rfl,rfl,K',g8⟩ rfl rfl;refine⟨w.heap.size,_,_,_,AX g1,cm,.upd,h1,⟨rfl,rfl,rfl,by simp,λ k hk=>by omega⟩,hs.d.mono VW,VW⟩
 obtain⟨l,mark,w1,ν1,g1,g2,g3,g4,g5,g6,g7⟩:=afA;have hgv:VRi ν (ael s.T g) (a.eval g):=(FE.mk hs.t hs.g:FE ν G N s.T a).ael hk;rw[hg] at hgv;obtain⟨fn',f',c',e',r1,r2,r3⟩:=rO hgv;cases r1;refine⟨l,mark,w1,{ target:=.fn (.func f) c',args:=f'++#[.func (.yield l) #[] #[]] },w1,f,⟨f'.toList++(.func (.yield l) #[] #[]::c'.toList)⟩,w1,g1,?_,λ _ _=>trivial,?_,λ h=>(by cases h),?_⟩
 ·have:=ne (P:=P) (c:=rangeCall g l) (ty:=0) (ρ:=a.eval) rfl e' w1;rw[this];simp[Act.eval]
 ·show (callFunc f (f'++#[.func (.yield l) #[] #[]]++c')).run P w1=_;rw[iC hB];congr 2;apply Array.ext';simp
 ·have Ur:Fr ν1 (n1+1) n2:=g3.fr hf (by omega);refine jQ ((VE ν1 F w1 _ (hs.g.mono g7) Ur g4 ((r2.mono g7).append (.cons (.func_of (.yield g2) .nil .nil) (r3.mono g7)))).mono ?_);rintro en w3 ⟨ν3,v',rfl,k1,k2,k3,k4⟩;have VX:ν3 n1=some (l,0):=k2.sub Ur _ _ g2;obtain⟨lp,q1,q2,q3,q4,q5,q6,q7,K',q8⟩:=k3.loop hlp VX;refine⟨lp.pending,_,yB q1 (by rw[q2];exact n_),?_⟩;have hH3:HR ν3 (cX H2 n1 (some (.loop .exhausted pend T' N' Wo V8 bo' d'))) F { w3 with heap:=w3.heap.setIfInBounds l (.loop { lp with state:=.exhausted }) } :=
   k3.setObj hlp rfl rfl VX ⟨rfl,q3,q4,q5,q6,q7,K',q8⟩
  have agM:Ext ν ν3 s.n n2:=g3.trans k2;have TM:=hkk ν3 { a with defers:=mark++a.defers } { w3 with heap:=w3.heap.setIfInBounds l (.loop { lp with state:=.exhausted }) } agM ⟨(hs.g.mono g7).mono (k2.sub Ur),(hs.t.mono g7).mono (k2.sub Ur),g6.mono (k2.sub Ur),hH3⟩ ((g5.trans k4).trans l8);rcases ab5 with ⟨hp,he⟩|⟨c,hp,he⟩
  ·rw[q3.trans hp] at TM ⊢;subst he;exact TM
  ·rw[q3.trans hp] at TM ⊢;exact Iu he TM
theorem pi(u_:kG P G ih)(hm:P.follows .mixedOrders=true):∀ (c:Code) (s:St) (e:Ex) (s':St),jd P G ih r N c s=some (e,s') -> jN P G (.code r N c s) (.cd e s'):=by
 have calm:∀ (c:Code) (s:St) (e:Ex),(∀r' (Q:Exit -> Act -> World -> Prop) a w,Q e.out a w -> c.wpIn (Wr r') 0 P Q a w) -> jN P G (.code r N c s) (.cd e s):=λ c s e h =>
  ⟨aaK _,λ ν F a w r' Q hr hs hf hk=>h r' Q a w (hk ν a w (.refl _ _) hs (Below.refl _ _))⟩
 intro c
 induction c with
 | skip=>intro s e s' h;rw[jd] at h;cases h;exact calm _ _ _ λ r' Q a w hq=>wpIn_skip hq
 | label l=>intro s e s' h;rw[jd] at h;cases h;exact calm _ _ _ λ r' Q a w hq=>wpIn_label hq
 | exit id=>intro s e s' h;rw[jd] at h;cases h;exact calm _ _ _ λ r' Q a w hq=>wpIn_exit hq
 | ret=>intro s e s' h;rw[jd] at h;cases h;exact calm _ _ _ λ r' Q a w hq=>wpIn_ret hq
 | goto l=>intro s e s' h;rw[jd] at h;cases h
 | refuse y=>intro s e s' h;rw[jd] at h;cases h
 | region id ops draw =>
  intro s e s' h;rw[jd.eq_def] at h;simp only at h;split at h
  ·split at h
   ·rename_i s1 h1;cases h;obtain⟨q1,q2⟩:=oh u_ _ _ _ h1;exact⟨q1,λ ν F a w r' Q hr hs hf hk=>wpIn_region_list (q2 ν F a w r' Q hr hs hf hk)⟩
   ·cases h
  ·split at h
   ·rename_i s1 h1;cases h;exact LB u_ hm h1
   ·cases h
 | seq x y XL Zd =>
  intro s e s' h;rw[jd] at h;split at h
  ·rename_i s1 h1;obtain⟨q1,q2⟩:=XL _ _ _ h1;obtain⟨p1,p2⟩:=Zd _ _ _ h;refine⟨by omega,λ ν F a w r' Q hr hs hf hk=>wpIn_seq ?_⟩;refine q2 ν F a w r' _ hr hs (λ i a b=>hf i a (by omega)) (λ ν' a' w' k1 k2 k3=>?_);exact p2 ν' F a' w' r' Q (hr.mono (k1.sub' hf p1)) k2 (k1.fr hf p1) (λ ν2 a2 w2 g1 g2 g3=>hk ν2 a2 w2 (k1.trans g1) g2 (k3.trans g3))
  ·rename_i AS;obtain⟨q1,q2⟩:=XL _ _ _ h;refine⟨q1,λ ν F a w r' Q hr hs hf hk=>wpIn_seq ?_⟩;refine q2 ν F a w r' _ hr hs hf (λ ν' a' w' k1 k2 k3=>?_);have:=hk ν' a' w' k1 k2 k3;cases e with
   | normal=>exact(AS _ h).elim
   | exit id=>exact this
   | ret=>exact this
 | cond c x y XL Zd =>
  intro s e s' h;rw[jd] at h;have DO:∀ν F a w b,SR ν G N s F a w -> ael s.T c=.bool b -> a.eval c=.bool b:=λ ν F a w b hs he=>by
   cases c with
   | tmp t =>
    have:=(FE.mk hs.t hs.g:FE ν G N s.T a).ael (x:=.tmp t) rfl;rw[he] at this;exact this.plain_eq rfl
   | const v=>exact he
   | global g=>cases he
   | func f=>cases he
  split at h
  ·rename_i he;obtain⟨q1,q2⟩:=XL _ _ _ h;exact⟨q1,λ ν F a w r' Q hr hs hf hk=>wpIn_cond_true (DO _ _ _ _ _ hs he) (q2 ν F a w r' Q hr hs hf hk)⟩
  ·rename_i he;obtain⟨q1,q2⟩:=Zd _ _ _ h;exact⟨q1,λ ν F a w r' Q hr hs hf hk=>wpIn_cond_false (DO _ _ _ _ _ hs he) (q2 ν F a w r' Q hr hs hf hk)⟩
  ·cases h
 | block id c ihc =>
  intro s e s' h;rw[jd] at h;split at h
  ·rename_i Vc s1 h1;obtain⟨q1,q2⟩:=ihc _ _ _ h1;split at h
   ·rename_i hid;cases h;have afL:Vc=id:=aa1 hid;refine⟨q1,λ ν F a w r' Q hr hs hf hk=>wpIn_block ?_⟩;refine q2 ν F a w r' _ hr hs hf (λ ν' a' w' k1 k2 k3=>?_);show (if Vc=id then _ else _);rw[if_pos afL];exact hk ν' a' w' k1 k2 k3
   ·rename_i hid;cases h;refine⟨q1,λ ν F a w r' Q hr hs hf hk=>wpIn_block ?_⟩;refine q2 ν F a w r' _ hr hs hf (λ ν' a' w' k1 k2 k3=>?_);show (if Vc=id then _ else _);rw[if_neg (λ e=>by subst e;simp at hid)];exact hk ν' a' w' k1 k2 k3
  ·rename_i AS;obtain⟨q1,q2⟩:=ihc _ _ _ h;refine⟨q1,λ ν F a w r' Q hr hs hf hk=>wpIn_block ?_⟩;refine q2 ν F a w r' _ hr hs hf (λ ν' a' w' k1 k2 k3=>?_);have:=hk ν' a' w' k1 k2 k3;cases e with
   | normal=>exact this
   | exit Vc=>exact(AS _ _ h).elim
   | ret=>exact this
 | loop c ihc =>
  intro s e s' h;obtain⟨q1,q2⟩:=yA u_ (λ s e s' h=>ihc s e s' h) h;exact⟨q1,λ ν F a w r' Q hr hs hf hk=>AU (q2 ν F a w r' Q hr hs hf hk)⟩
 | rangeFunc g ps aZz bo _ _=>intro s e s' h;exact EQ u_ h
 | scope c ihc =>
  intro s e s' h;rw[jd] at h;obtain⟨q1,q2⟩:=ihc _ _ _ h;refine⟨q1,λ ν F a w r' Q hr hs hf hk=>ij ?_⟩;refine q2 ν F a w r' _ hr hs hf (λ ν' a' w' k1 k2 k3=>?_);have:=hk ν' a' w' k1 k2 k3;cases e <;> exact this
end code
section fn
variable {ν ν':Nu} {P:Program} {G N:Nat} {T T':Tr Value} {a:Act} {H H':AH} {F:HL} {w w':World} {r r':Option Nat} {ih:Task -> Option Rs}
theorem ui{args iS:List Value}(h:LR ν args iS)(hl:gy args <= N):TRel ν N (mG args) ((⟨iS⟩:Array Value)++Array.replicate (N-(⟨iS⟩:Array Value).size) undef):=by
 rw[ew] at hl;have hlen:=h.length;refine⟨by simp;omega,λ t ht=>?_,λ t ht=>?_⟩
 ·rcases aaZ t args.length with h1|h1
  ·obtain⟨v',e,q⟩:=h.get (aaT h1);refine⟨v',?_,?_⟩
   ·rw[Array.getElem?_append_left (by simp;omega)];simpa using e
   ·unfold mG;rw[lD h1];exact q
  ·refine⟨undef,?_,?_⟩
   ·rw[Array.getElem?_append_right (by simp;omega),Array.getElem?_replicate];rw[if_pos (by simp;omega)]
   ·have:cY (mG args) t=undef:=by
     unfold mG cY;rw[qz];rw[if_pos (aaL _),dif_neg (by omega)];exact AF _
    rw[this];exact aav
 ·unfold mG cY;rw[qz,if_pos (aaL _),dif_neg (by omega)];exact AF _
def Iv(tm:Array Value):ResultVar -> Sem Value
 | .tmp t=>pure (tm.getD t undef)
 | .cell ad t=>do loadVar t (<- asAddr (tm.getD ad undef))
theorem pj(hE:FE ν G N T a)(hH:HR ν H F w):∀ {rs:List ResultVar} {vs:List Value},o7 P T H rs=some vs -> ∃IS,LR ν vs IS /\ (rs.mapM (Iv a.tmps)).run P w=.ok IS w
 | [],vs,h=>by rw[o7] at h;cases h;exact⟨[],.nil,rfl⟩
 | .tmp t::rs,vs,h=>by
  rw[o7] at h;split at h
  ·rename_i vs0 h0;cases h;obtain⟨IS,q1,q2⟩:=pj hE hH h0;have hv:VRi ν (cY T t) (a.tmps.getD t undef):=hE.ael (x:=.tmp t) rfl
   haveI:=jc
   refine⟨_,.cons hv q1,?_⟩;have h1:(Iv a.tmps (.tmp t)).run P w=.ok (a.tmps.getD t undef) w:=rfl;rw[List.mapM_cons,aa4,h1];simp only[aa3];rw[aa4,q2];rfl
  ·cases h
 | .cell ad t::rs,vs,h=>by
  rw[o7] at h;split at h
  ·rename_i ad' he;split at h
   ·rename_i v vs0 hv h0;cases h;obtain⟨IS,q1,q2⟩:=pj hE hH h0;have hp:VRi ν (cY T ad) (a.tmps.getD ad undef):=hE.ael (x:=.tmp ad) rfl;rw[he] at hp;generalize hu:a.tmps.getD ad undef=u at hp;have hp2:=hp;cases hp with
    | atom _ h=>simp[cC] at h
    | ptr o hν =>
     obtain⟨v',r1,r2⟩:=yn (P:=P) (t:=t) hH hp2 hv
     haveI:=jc
     refine⟨_,.cons r1 q1,?_⟩;have h1:(Iv a.tmps (.cell ad t)).run P w=.ok v' w:=by
      show ((asAddr (a.tmps.getD ad undef)) >>= λ x=>loadVar t x).run P w=_;rw[hu,aa4];exact r2
     rw[List.mapM_cons,aa4,h1];simp only[aa3];rw[aa4,q2];rfl
   ·cases h
  ·cases h
theorem rS{fn:Func}{vs:List Value}(hE:FE ν G N T a)(hH:HR ν H F w)(h:o7 P T H fn.results.toList=some vs):∃v',VRi ν (xZ vs) v' /\ (results fn a.tmps).run P w=.ok v' w:=by
 obtain⟨IS,q1,q2⟩:=pj hE hH h
 haveI:=jc
 have h5:(fn.results.mapM (Iv a.tmps)).run P w=.ok ⟨IS⟩ w:=by
  rw[Array.mapM_eq_mapM_toList,<- bind_pure_comp,aa4,q2];rfl
 have h6:∀v',(∀W,(pure (if h:(⟨IS⟩:Array Value).size=1 then (⟨IS⟩:Array Value)[0] else .tuple ⟨IS⟩):Sem Value).run P W=.ok v' W) -> (results fn a.tmps).run P w=.ok v' w:=λ v' hv=>by
  have:results fn a.tmps=(fn.results.mapM (Iv a.tmps) >>= λ vs=>pure (if h:vs.size=1 then vs[0] else .tuple vs)):=rfl;rw[this,aa4,h5];exact hv w
 cases q1 with
 | nil=>exact⟨_,.tuple_of .nil,h6 _ λ W=>rfl⟩
 | cons h1 h2 =>
  cases h2 with
  | nil=>exact⟨_,h1,h6 _ λ W=>rfl⟩
  | cons h3 h4=>exact⟨_,.tuple_of (.cons h1 (.cons h3 h4)),h6 _ λ W=>rfl⟩
theorem l9(u_:kG P G ih){fn:Func}{tm:Array Value}{R:Ending -> World -> Prop}:∀ {D:List Deferred} {H:AH} {n:Nat} {H':AH} {n':Nat},kx P ih D H n=some (H',n') -> n <= n' /\ ∀ν D' w,Glb ν G -> DsR ν D D' -> HR ν H F w -> Fr ν n n' ->
  (∀ν' w',Ext ν ν' n n' -> HR ν' H' F w' -> Below 0 w w' -> LeavesInM (Wr none) 0 P fn tm R [] .returning w') -> LeavesInM (Wr none) 0 P fn tm R D' .returning w
 | [],H,n,H',n',h=>by
  rw[kx] at h;cases h;exact⟨aaK _,λ ν D' w hg hd hH hf hk=>by cases hd;exact hk ν w (.refl _ _) hH (Below.refl _ _)⟩
 | d::ds,H,n,H',n',h=>by
  rw[kx] at h;split at h
  ·rename_i hd ht;split at h
   ·rename_i hb;obtain⟨q1,q2⟩:=l9 u_ (fn:=fn) (tm:=tm) (R:=R) h;refine⟨q1,λ ν D' w hg hds hH hf hk=>?_⟩;cases hds with
    | @cons _ d' _ l' hdr hl =>
    obtain⟨ZR,hda⟩:=hdr;rw[ht] at ZR;generalize htt:d'.target=tt at ZR;cases ZR with
    | @coll _ b K hν =>
    obtain⟨rr,K',o,g1,g2,g3⟩:=hH.blk _ _ hb;rw[hν] at g1;cases g1;unfold OR at g3;split at g3
    ·rename_i e1;cases e1
    ·rename_i e1;cases e1
    ·rename_i e1;cases e1
    ·rename_i sh cc e1;cases e1;subst g3;refine⟨by simp,.inl ⟨b,{ w with heap:=w.heap.setIfInBounds b (.deferred none) },htt,?_,?_⟩⟩
     ·unfold Instr.takeDeferred;rw[aa4];have h1:(getObj b).run P w=.ok (.deferred (some [])) w:=by
       unfold getObj;rw[Sem.run.eq_def];simp only[g2];rfl
      rw[h1];simp only[aa3];rw[aa4];have h2:(setObj b (.deferred none)).run P w=.ok () { w with heap:=w.heap.setIfInBounds b (.deferred none) }:=by
       unfold setObj;rw[Sem.run.eq_def];simp only[g2];rfl
      rw[h2];rfl
     ·have h3:HR ν (cX H hd (some (.dfr true))) F { w with heap:=w.heap.setIfInBounds b (.deferred none) }:=hH.setObj hb rfl rfl hν (b1:=.dfr true) (o':=.deferred none) rfl;exact q2 ν l' _ hg hl h3 hf (λ ν' w' k1 k2 k3=>hk ν' w' k1 k2 (l8.trans k3))
    ·exact g3.elim
   ·cases h
  ·rename_i f captured ht;split at h
   case h_2=>cases h
   rename_i hB;split at h
   case h_2=>cases h
   rename_i v H1 n1 hc;obtain⟨p1,p2⟩:=u_ _ _ hc;obtain⟨q1,q2⟩:=l9 u_ (fn:=fn) (tm:=tm) (R:=R) h;refine⟨by omega,λ ν D' w hg hds hH hf hk=>?_⟩;cases hds with
   | @cons _ d' _ l' hdr hl =>
   obtain⟨ZR,hda⟩:=hdr;rw[ht] at ZR;generalize htt:d'.target=tt at ZR;cases ZR with
   | @fn _ f' _ c' YK Ur =>
   cases YK;refine⟨by simp,.inr ⟨λ h=>(by cases h),.func f,c',f,⟨d'.args.toList++c'.toList⟩,htt,?_,λ _ _=>trivial,?_⟩⟩
   ·rw[htt];show (callFunc f (d'.args++c')).run P w=_;rw[iC hB];congr 2;apply Array.ext';simp
   ·refine(p2 ν F w _ hg (λ i a b=>hf i a (by omega)) hH (hda.append Ur)).mono ?_;rintro en u' w2 ⟨rfl,ν2,v',rfl,k1,k2,k3,k4⟩;have IN:=k2.sub' hf q1;show LeavesInM (Wr none) 0 P fn tm R l' (settle .returning) w2;exact q2 ν2 l' w2 (hg.mono IN) (hl.mono IN) k3 (k2.fr hf q1) (λ ν3 w3 g1 g2 g3=>hk ν3 w3 (k2.trans g1) g2 (k4.trans g3))
  ·cases h
theorem yC{f:FuncId}{fn:Func}{c:Code}(h:rC P f=some (fn,c)):P.funcs[f]?=some fn /\ fn.body=some c:=by
 unfold rC at h;split at h
 ·rename_i fn' hf;split at h
  ·rename_i c' hc;cases h;exact⟨hf,hc⟩
  ·cases h
 ·cases h
theorem P8(u_:kG P G ih)(hm:P.follows .mixedOrders=true){f:FuncId}{args:List Value}{H:AH}{n:Nat}{res:Rs}(h:gU P G ih (.fn f args H n)=some res):jN P G (.fn f args H n) res:=by
 simp only[gU] at h;split at h
 case h_2=>cases h
 rename_i fn c hb;split at h
 case h_2=>cases h
 rename_i hle;obtain⟨b1,b2⟩:=yC hb;have fin:∀e s H2 n2 vs,(e=.normal \/ e=.ret) -> jd P G ih none fn.ntmps c ⟨mG args,[],H,n⟩=some (e,s) -> kx P ih s.D s.H s.n=some (H2,n2) -> o7 P s.T H2 fn.results.toList=some vs -> jN P G (.fn f args H n) (.fn (xZ vs) H2 n2):=by
  intro e s H2 n2 vs he SH WI Wb;obtain⟨q1,q2⟩:=pi u_ hm _ _ _ _ SH;simp only at q1 q2;have ZG:=(l9 (F:=[]) (fn:=fn) (tm:=#[]) (R:=λ _ _=>True) u_ WI).1;refine⟨by omega,λ ν F w iS hg hf hH hl=>?_⟩;refine callsIn_wide.1 (callsIn_of_wp_marks (F:=Fence.wide) (n:=0) b1 b2 trivial ?_);have hlen:=hl.length;refine q2 ν F _ w none _ .none ⟨hg,ui hl (bT hle),.nil,hH⟩ (λ i a b=>hf i a (by omega)) (λ ν' a' w' k1 k2 k3=>?_);have IN:=k1.sub' hf ZG;have afw:=(l9 (F:=F) (fn:=fn) (tm:=a'.tmps) (R:=Ik ν (xZ vs) n n2 H2 F w) u_ WI).2 ν' a'.defers w' k2.g k2.d k2.h (k1.fr hf ZG) (λ ν2 w2 g1 g2 g3=>by
   have Yx:=g1.sub (k1.fr hf ZG);obtain⟨v',r1,r2⟩:=rS (G:=G) (fn:=fn) (a:=a') (FE.mk (k2.t.mono Yx) (k2.g.mono Yx)) g2 Wb;exact⟨v',r2,ν2,v',rfl,r1,k1.trans g1,g2,k3.trans g3⟩)
  rcases he with rfl|rfl <;> exact afw
 split at h
 ·cases h
 ·rename_i e s AS SH;split at h
  ·rename_i H2 n2 WI;split at h
   ·rename_i vs Wb;cases h;cases e with
    | normal=>exact fin _ _ _ _ _ (.inl rfl) SH WI Wb
    | ret=>exact fin _ _ _ _ _ (.inr rfl) SH WI Wb
    | exit id=>first|exact(AS _ _ rfl).elim|exact(AS _ rfl).elim|exact(AS _ _).elim
   ·cases h
  ·cases h
 ·cases h
theorem ES{b:Nat}{lp:Loop}(h:w.heap[b]?=some (.loop lp))(hs:lp.state=.ready):(Instr.beginRound b).run P w=.ok () { w with heap:=w.heap.setIfInBounds b (.loop { lp with state:=.busy }) }:=by
 unfold Instr.beginRound;rw[aa4,gV h];simp only[aa3];rw[aa4,lG h];simp only[aa3,hs];rfl
theorem LC{b:Nat}{lp:Loop}{j:Option Code}(h:w.heap[b]?=some (.loop lp)):(Instr.endRound b j).run P w=.ok (.bool j.isNone) { w with heap:=w.heap.setIfInBounds b (.loop { lp with state:=if j.isNone then .ready else .done,pending:=j }) }:=by
 unfold Instr.endRound;rw[aa4,gV h];simp only[aa3];rw[aa4,lG h];rfl
def Q7:Ex -> Option Code
 | .normal=>none
 | .ret=>some .ret
 | .exit id=>some (.exit id)
theorem vK{b:Nat}{R:Ending -> World -> Prop}{e:Ex}(h:∃v w',(Instr.endRound b (Q7 e)).run P w=.ok v w' /\ R (.returned v) w'):roundPost P b R e.out a w:=by
 cases e <;> exact h
theorem N9(u_:kG P G ih)(hm:P.follows .mixedOrders=true){l:Nat}{T:Tr Value}{N:Nat}{aZz bo:Code}{H:AH}{n:Nat}{res:Rs}(h:gU P G ih (.rnd l T N aZz bo H n)=some res):jN P G (.rnd l T N aZz bo H n) res:=by
 simp only[gU] at h;split at h
 case h_2=>cases h
 rename_i s1 h1;split at h
 case h_2=>cases h
 rename_i pend T' N' ps V8 bo' d XY ZS;split at h
 case h_2=>cases h
 rename_i e s2 h2;split at h
 case h_2=>cases h
 rename_i st2 ahm T2 N2 ps2 as2 bo2 d2 SC;obtain⟨q1,q2⟩:=pi u_ hm _ _ _ _ h1;obtain⟨p1,p2⟩:=pi u_ hm _ _ _ _ h2;simp only at q1 q2 p1 p2;have Un:res=.fn (.bool (Q7 e).isNone) (cX s2.H l (some (.loop (if (Q7 e).isNone then .ready else .done) (Q7 e) T2 N2 ps2 as2 bo2 d2))) s2.n:=by
  cases e <;> (cases h;rfl)
 subst Un;refine⟨by omega,λ ν F w b K tm f r' hg hν hT hf hH=>?_⟩;refine roundIn_of_wpIn trivial ?_;show aZz.wpIn (Wr (some b)) 0 P _ _ _;refine q2 ν F _ w (some b) _ (.some hν) ⟨hg,hT,.nil,hH⟩ (λ i x y=>hf i x (by omega)) (λ ν1 a1 w1 k1 k2 k3=>?_);have abQ:=k1.sub' hf p1;have XN:=abQ _ _ hν;obtain⟨lp,g1,g2,g3,g4,g5,g6,g7,K',g8⟩:=k2.h.loop XY XN;refine⟨_,ES g1 g2,?_⟩;show bo.wpIn (Wr (some b)) 0 P _ _ _;have hH1:HR ν1 (cX s1.H l (some (.loop .busy pend T' N' ps V8 bo' d))) F { w1 with heap:=w1.heap.setIfInBounds b (.loop { lp with state:=.busy }) }:=k2.h.setObj XY rfl rfl XN ⟨rfl,g3,g4,g5,g6,g7,K',g8⟩;have hd:DsR ν1 [] a1.defers:=by have:=k2.d;rw[ZS] at this;exact this
 refine p2 ν1 F a1 _ (some b) _ (.some XN) ⟨k2.g,k2.t,hd,hH1⟩ (k1.fr hf p1) (λ ν2 a2 w2 j1 j2 j3=>?_);have hν2:=(j1.sub (k1.fr hf p1)) _ _ XN;obtain⟨lp2,u1,u2,u3,u4,u5,u6,u7,K2,u8⟩:=j2.h.loop SC hν2;refine vK ⟨_,_,LC u1,ν2,_,rfl,.atom _ rfl,k1.trans j1,?_,((k3.trans l8).trans j3).trans l8⟩;exact j2.h.setObj SC rfl rfl hν2 ⟨rfl,rfl,u4,u5,u6,u7,K2,u8⟩
theorem ma{ops:Array Oper}{c₀:Frame}{cs:List Frame}(hc:c₀.mode=.returning):∀ (rest:List Oper) (k:Nat) (s s':St),ops.toList.drop k=rest -> m5 P G N ops rest s=some s' -> s.n <= s'.n /\ ∀ν F a w (Q:Exit -> Act -> List Frame -> World -> Prop),SR ν G N s F a w -> Fr ν s.n s'.n ->
  (∀ν' a' w',Ext ν ν' s.n s'.n -> SR ν' G N s' F a' w' -> Below 0 w w' -> Q .normal a' (c₀::cs) w') -> wpOpsSIn (Wr none) 0 P ops Q (List.range' k rest.length) a (c₀::cs) w
 | [],k,s,s',hk,h=>by
  rw[m5] at h;cases h;exact⟨aaK _,λ ν F a w Q hs hf hq=>hq ν a w (.refl _ _) hs (Below.refl _ _)⟩
 | o::rest,k,s,s',hk,h=>by
  have iF:k<ops.toList.length:=by
   rcases aaZ k ops.toList.length with e|e
   ·exact e
   ·rw[List.drop_eq_nil_of_le e] at hk;cases hk
  have U6:=hk;rw[List.drop_eq_getElem_cons iF] at U6;simp only[List.cons.injEq] at U6;obtain⟨ho,WB⟩:=U6;have BY:ops[k]?=some o:=by
   rw[Array.getElem?_eq_getElem (by simpa using iF)];simpa using ho
  rw[m5] at h;split at h
  ·cases h
  ·rename_i hw;split at h
   case h_2=>cases h
   rename_i T1 hp;obtain⟨h1,h2⟩:=ma hc rest (k+1) _ _ WB h;refine⟨h1,λ ν F a w Q hs hf hq=>?_⟩;rw[aaS,List.range'_succ,wpOpsSIn];simp only[BY];refine⟨λ _ _=>trivial,?_⟩;rw[if_neg (by rw[ke hs.t hw];simp)];exact h2 ν F _ w Q ⟨hs.g,hs.t.put aav hp,by rw[fJ];exact hs.d,hs.h⟩ hf hq
  ·rename_i hw;split at h
   ·rename_i v H1 n1 n_;split at h
    case h_2=>cases h
    rename_i T1 hp;obtain⟨h1,h2⟩:=ma hc rest (k+1) _ _ WB h;simp only at h1 h2;have hle:=vG n_;refine⟨by omega,λ ν F a w Q hs hf hq=>?_⟩;rw[aaS,List.range'_succ,wpOpsSIn];simp only[BY];refine⟨λ _ _=>trivial,?_⟩;rw[if_pos (ke hs.t hw)];obtain⟨ν',v',w',q,e1,e2,e3,e4,e5,e6⟩:=l7 hs.op hs.h n_ (λ v H' n' e=>by cases e;exact λ i x y=>hf i x (by omega));have IN:=e4.sub' hf h1;have TM:=h2 ν' F (a.put o.dst v') w' Q ⟨hs.g.mono IN,(hs.t.mono IN).put e3 hp,by rw[fJ];exact hs.d.mono IN,e5⟩ (e4.fr hf h1) (λ ν2 a2 w2 g1 g2 g3=>hq ν2 a2 w2 (e4.trans g1) g2 (e6.trans g3));rw[e1];rcases e2 with rfl|⟨rfl,rfl⟩
    ·exact TM
    ·exact TM
   ·rename_i n_;split at h
    case h_2=>cases h
    rename_i T1 hp;obtain⟨h1,h2⟩:=ma hc rest (k+1) _ _ WB h;refine⟨h1,λ ν F a w Q hs hf hq=>?_⟩;rw[aaS,List.range'_succ,wpOpsSIn];simp only[BY];refine⟨λ _ _=>trivial,?_⟩;rw[if_pos (ke hs.t hw)];have e1:=l7 hs.op hs.h n_ (λ v H' n' e=>by cases e);rw[show (execOp a.eval o).run P w=.ok .recover w from e1];have Zu:recoverD (c₀::cs)=none:=by simp[recoverD,hc]
    simp only[Zu];exact h2 ν F _ w Q ⟨hs.g,hs.t.put (.atom _ rfl) hp,by rw[fJ];exact hs.d,hs.h⟩ hf hq
   ·cases h
theorem Oa(u_:kG P G ih)(hm:P.follows .mixedOrders=true){c₀:Frame}{cs:List Frame}(hc:c₀.mode=.returning):∀ (c:Code) (s:St) (e:Ex) (s':St),HW P G ih N c s=some (e,s') -> s.n <= s'.n /\ ∀ν F a w (Q:Exit -> Act -> List Frame -> World -> Prop),SR ν G N s F a w -> Fr ν s.n s'.n ->
  (∀ν' a' w',Ext ν ν' s.n s'.n -> SR ν' G N s' F a' w' -> Below 0 w w' -> Q e.out a' (c₀::cs) w') -> c.wpSIn (Wr none) 0 P Q a (c₀::cs) w:=by
 have plain:∀ (c:Code) (s:St) (e:Ex) (s':St),jd P G ih none N c s=some (e,s') -> s.n <= s'.n /\ ∀ν F a w (Q:Exit -> Act -> List Frame -> World -> Prop),SR ν G N s F a w -> Fr ν s.n s'.n ->
  (∀ν' a' w',Ext ν ν' s.n s'.n -> SR ν' G N s' F a' w' -> Below 0 w w' -> Q e.out a' (c₀::cs) w') -> c.wpSIn (Wr none) 0 P Q a (c₀::cs) w:=λ c s e s' h=>by
  obtain⟨q1,q2⟩:=pi u_ hm _ _ _ _ h;exact⟨q1,λ ν F a w Q hs hf hq=>wpSIn_of_wpIn rfl (q2 ν F a w none _ .none hs hf hq)⟩
 intro c
 induction c with
 | seq x y XL Zd =>
  intro s e s' h;rw[HW] at h;split at h
  ·rename_i s1 h1;obtain⟨q1,q2⟩:=XL _ _ _ h1;obtain⟨p1,p2⟩:=Zd _ _ _ h;refine⟨by omega,λ ν F a w Q hs hf hk=>wpSIn_seq ?_⟩;refine q2 ν F a w _ hs (λ i a b=>hf i a (by omega)) (λ ν' a' w' k1 k2 k3=>?_);exact p2 ν' F a' w' Q k2 (k1.fr hf p1) (λ ν2 a2 w2 g1 g2 g3=>hk ν2 a2 w2 (k1.trans g1) g2 (k3.trans g3))
  ·rename_i AS;obtain⟨q1,q2⟩:=XL _ _ _ h;refine⟨q1,λ ν F a w Q hs hf hk=>wpSIn_seq ?_⟩;refine q2 ν F a w _ hs hf (λ ν' a' w' k1 k2 k3=>?_);have:=hk ν' a' w' k1 k2 k3;cases e with
   | normal=>exact(AS _ h).elim
   | exit id=>exact this
   | ret=>exact this
 | cond c x y XL Zd =>
  intro s e s' h;rw[HW] at h;have DO:∀ν F a w b,SR ν G N s F a w -> ael s.T c=.bool b -> a.eval c=.bool b:=λ ν F a w b hs he=>by
   cases c with
   | tmp t =>
    have:=(FE.mk hs.t hs.g:FE ν G N s.T a).ael (x:=.tmp t) rfl;rw[he] at this;exact this.plain_eq rfl
   | const v=>exact he
   | global g=>cases he
   | func f=>cases he
  split at h
  ·rename_i he;obtain⟨q1,q2⟩:=XL _ _ _ h;exact⟨q1,λ ν F a w Q hs hf hk=>wpSIn_cond (DO _ _ _ _ _ hs he) (q2 ν F a w Q hs hf hk)⟩
  ·rename_i he;obtain⟨q1,q2⟩:=Zd _ _ _ h;exact⟨q1,λ ν F a w Q hs hf hk=>wpSIn_cond (DO _ _ _ _ _ hs he) (q2 ν F a w Q hs hf hk)⟩
  ·cases h
 | region id ops draw =>
  intro s e s' h;cases draw with
  | true=>rw[HW] at h;exact plain _ _ _ _ h;all_goals simp
  | false =>
   rw[HW] at h;split at h
   ·rename_i s1 h1;cases h;obtain⟨q1,q2⟩:=ma hc _ 0 _ _ (by simp) h1;refine⟨q1,λ ν F a w Q hs hf hk=>wpSIn_region ?_⟩;have:=q2 ν F a w Q hs hf hk;rw[List.range_eq_range'];simpa using this
   ·split at h
    ·rename_i x h1;cases h;exact plain _ _ _ _ h1
    ·cases h
 | _=>intro s e s' h;rw[HW] at h;exact plain _ _ _ _ h;all_goals simp
theorem Oc(u_:kG P G ih)(hm:P.follows .mixedOrders=true){f:FuncId}{args:List Value}{H:AH}{n:Nat}{res:Rs}(h:gU P G ih (.dfn f args H n)=some res):jN P G (.dfn f args H n) res:=by
 simp only[gU] at h;split at h
 case h_2=>cases h
 rename_i fn c hb;split at h
 case h_2=>cases h
 rename_i hle;obtain⟨b1,b2⟩:=yC hb;split at h
 ·cases h
 ·rename_i e s AS SH;split at h
  ·rename_i hd;split at h
   ·rename_i vs Wb;cases h;have hq:∀ (c₀:Frame) (cs:List Frame),c₀.mode=.returning -> _:=λ c₀ cs hc=>Oa (c₀:=c₀) (cs:=cs) u_ hm hc _ _ _ _ SH;have hn:n <= s.n:=(hq { (default:Frame) with mode:=.returning } [] rfl).1;refine⟨hn,λ ν F w iS hg hf hH hl=>?_⟩;refine callsDIn_of_wpSIn b1 b2 trivial (λ c₀ cs hc=>?_);refine(hq c₀ cs hc).2 ν F _ w _ ⟨hg,ui hl (bT hle),.nil,hH⟩ hf (λ ν' a' w' k1 k2 k3=>?_);have hdd:a'.defers=[]:=by
     have:=k2.d;rw[hd] at this;generalize a'.defers=q at this;cases this;rfl
    obtain⟨v',r1,r2⟩:=rS (G:=G) (fn:=fn) (a:=a') (FE.mk k2.t k2.g) k2.h Wb;have hcc:c₀::cs={ c₀ with mode:=.returning }::cs:=by rw[<- hc]
    have TM:a'.defers=[] /\ ∃u',c₀::cs={ c₀ with mode:=u' }::cs /\ ∃v,(results fn a'.tmps).run P w'=.ok v w' /\ (u'=.returning /\ Ik ν (xZ vs) n s.n s.H F w (.returned v) w') :=
     ⟨hdd,.returning,hcc,v',r2,rfl,ν',v',rfl,r1,k1,k2.h,k3⟩
    cases e with
    | normal=>exact TM
    | ret=>exact TM
    | exit id=>first|exact(AS _ _ rfl).elim|exact(AS _ rfl).elim|exact(AS _ _).elim
   ·cases h
  ·cases h
 ·cases h
theorem Iw(u_:kG P G ih)(hm:P.follows .mixedOrders=true):kG P G (gU P G ih):=by
 intro t res h;cases t with
 | code r N c s =>
  simp only[gU] at h;split at h
  ·rename_i h1;cases h;exact pi u_ hm _ _ _ _ h1
  ·cases h
 | loop r N c s =>
  simp only[gU] at h;split at h
  ·rename_i h1;cases h;exact yA u_ (λ s e s' h=>pi u_ hm _ _ _ _ h) h1
  ·cases h
 | fn f args H n=>exact P8 u_ hm h
 | rnd l T N aZz bo H n=>exact N9 u_ hm h
 | dfn f args H n=>exact Oc u_ hm h
theorem Cu(hm:P.follows .mixedOrders=true):∀k,kG P G (HX P G k)
 | 0=>λ t res h=>by rw[HX] at h;cases h
 | k+1=>by
  have:=Iw (Cu hm k) hm;intro t res h;rw[HX] at h;exact this t res h
end fn
end Go.Proofs.YtdppjkjbghbnjaaGreatDoor
