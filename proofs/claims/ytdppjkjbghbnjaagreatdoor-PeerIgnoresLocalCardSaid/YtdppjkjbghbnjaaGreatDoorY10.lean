import Derived.Test.YtdppjkjbghbnjaaGreatDoorY09
set_option maxHeartbeats 4000000
set_option maxRecDepth 100000
set_option linter.all false
namespace Go.Proofs.YtdppjkjbghbnjaaGreatDoor
open Go.RowKit
theorem Dg:∀ (v v':Value),vg v v'=true -> v=v':=by
 intro v;refine Value.rec (motive_1:=λ v=>∀v',vg v v'=true -> v=v') (motive_2:=λ a=>∀a',GM a a'=true -> a=a') (motive_3:=λ l=>∀l',sC l l'=true -> l=l')
  ?_ ?_ ?_ ?_ ?_ ?_ ?_ ?_ ?_ ?_ ?_ ?_ ?_ ?_ ?_ ?_ ?_ ?_ v
 case _=>intro b v' h;cases v' <;> simp[vg] at h;rw[h]
 case _ =>
  intro k n v' h;cases v' <;> simp[vg] at h
  split at h
  ·rename_i e;simp at e h;rw[e,h]
  ·cases h
 case _=>intro k b v' h;cases v' <;> simp[vg] at h
 case _=>intro k b c v' h;cases v' <;> simp[vg] at h
 case _=>intro s v' h;cases v' <;> simp[vg] at h;rw[HP.1 h]
 case _=>intro a v' h;cases v' <;> simp[vg] at h;rw[h]
 case _ =>
  intro a n c v' h;cases v' <;> simp[vg] at h
  split at h
  ·rename_i e1 e2 e3;simp at e1;rw[e1,Nat.eq_of_beq_eq_true e2,Nat.eq_of_beq_eq_true e3]
  ·cases h
 case _=>intro a v' h;cases v' <;> simp[vg] at h;rw[h]
 case _=>intro a v' h;cases v' <;> simp[vg] at h
 case _ =>
  intro fn f c Zv Zu v' h;cases v' <;> simp[vg] at h
  split at h
  ·rename_i e1 e2;simp at e1;rw[e1,Zv _ e2,Zu _ h]
  ·cases h
 case _=>intro v' h;cases v' <;> simp[vg] at h;rfl
 case _ =>
  intro t v ih v' h;cases v' <;> simp[vg] at h
  split at h
  ·rename_i e1;rw[Nat.eq_of_beq_eq_true e1,ih _ h]
  ·cases h
 case _=>intro v' h;cases v' <;> simp[vg] at h;rfl
 case _=>intro c ih v' h;cases v' <;> simp[vg] at h;rw[ih _ h]
 case _=>intro c ih v' h;cases v' <;> simp[vg] at h;rw[ih _ h]
 case _=>intro l ih a' h;obtain⟨l'⟩:=a';rw[ih l' (by simpa [GM] using h)]
 case _=>intro l' h;cases l' <;> simp[sC] at h;rfl
 case _ =>
  intro v l Zv Zu l' h;cases l' with
  | nil=>simp[sC] at h
  | cons v' l' =>
   rw[sC] at h;split at h
   ·rename_i e;rw[Zv _ e,Zu _ h]
   ·cases h
theorem ji{i:Nat}{l:List Nat}:lB i l=true↔i∈l:=by
 induction l with
 | nil=>simp[lB]
 | cons j l ih =>
  rw[lB];split
  ·rename_i e;simp[Nat.eq_of_beq_eq_true e]
  ·rename_i e;have:i≠j:=λ h=>by subst h;simp at e
   simp[ih,this]
theorem MP{α:Type}(l:List α)(i:Nat):MH l i=l[i]?:=by
 induction l generalizing i with
 | nil=>rfl
 | cons v l ih=>cases i with
  | zero=>rfl
  | succ i=>simpa [MH] using ih i
theorem ri{bs:List (List Nat)}:∀ {es:List Edge} {l:List Nat},C3 bs es=some l -> (∀e∈es,Ay e=true -> e.on<bs.length) /\ ∀x∈l,∃e∈es,Ay e=true /\ (x=e.on \/ ∃b,bs[e.on]?=some b /\ x∈b)
 | [],l,h=>by rw[C3] at h;cases h;exact⟨λ e he=>(by cases he),λ x hx=>(by cases hx)⟩
 | e::es,l,h=>by
  rw[C3] at h;split at h
  ·cases h
  rename_i l0 h0;obtain⟨q1,q2⟩:=ri h0;split at h
  ·rename_i hb;cases h;refine⟨λ e' he' V6=>?_,λ x hx=>?_⟩
   ·rcases List.mem_cons.1 he' with rfl|he'
    ·rw[hb] at V6;cases V6
    ·exact q1 e' he' V6
   ·obtain⟨e',h1,h2⟩:=q2 x hx;exact⟨e',List.mem_cons_of_mem _ h1,h2⟩
  ·rename_i hb;split at h
   ·rename_i b hbs;cases h;rw[MP] at hbs;refine⟨λ e' he' V6=>?_,λ x hx=>?_⟩
    ·rcases List.mem_cons.1 he' with rfl|he'
     ·exact(List.getElem?_eq_some_iff.1 hbs).1
     ·exact q1 e' he' V6
    ·rcases List.mem_cons.1 hx with rfl|hx
     ·exact⟨e,List.mem_cons_self,hb,.inl rfl⟩
     ·rcases List.mem_append.1 hx with hx|hx
      ·exact⟨e,List.mem_cons_self,hb,.inr ⟨b,hbs,hx⟩⟩
      ·obtain⟨e',h1,h2⟩:=q2 x hx;exact⟨e',List.mem_cons_of_mem _ h1,h2⟩
   ·cases h
theorem wX:∀ {l:List Oper} {Y0 bs:List (List Nat)},J0 l Y0=some bs -> bs.length=Y0.length+l.length /\ (∀i,i<Y0.length -> bs[i]?=Y0[i]?) /\ ∀j (hj:j<l.length),∃b,bs[Y0.length+j]?=some b /\ C3 (bs.take (Y0.length+j)) (l[j].after.toList)=some b
 | [],Y0,bs,h=>by rw[J0] at h;cases h;exact⟨by simp,λ _ _=>rfl,λ j hj=>(by simp at hj)⟩
 | o::l,Y0,bs,h=>by
  rw[J0] at h;split at h
  ·rename_i b hb;obtain⟨q1,q2,q3⟩:=wX h;simp only[List.length_append,List.length_singleton] at q1 q2 q3;have Ui:bs.take Y0.length=Y0:=by
    apply List.ext_getElem?;intro i;rcases Nat.lt_or_ge i Y0.length with hi|hi
    ·rw[List.getElem?_take_of_lt hi,q2 i (by omega),List.getElem?_append_left hi]
    ·rw[List.getElem?_eq_none (by rw[List.length_take];omega),List.getElem?_eq_none hi]
   refine⟨by simp;omega,λ i hi=>by rw[q2 i (by omega),List.getElem?_append_left hi],λ j hj=>?_⟩;cases j with
   | zero =>
    refine⟨b,?_,?_⟩
    ·rw[Nat.add_zero,q2 _ (by omega)];simp
    ·rw[Nat.add_zero,Ui];exact hb
   | succ j =>
    obtain⟨b',g1,g2⟩:=q3 j (by simpa using hj);have e:Y0.length+1+j=Y0.length+(j+1):=by omega
    rw[e] at g1 g2;exact⟨b',g1,g2⟩
  ·cases h
structure Stat(P:Program)(G:Nat)(ops:Array Oper)(bs:List (List Nat)):Prop where
 len:bs.length=ops.size
 ok:∀ (i:Nat) (o:Oper),ops[i]?=some o -> pH G o=true /\ ∃l,looks ops o=some l
 pair:∀ (i j:Nat) (o o':Oper) (b':List Nat),i<j -> ops[i]?=some o -> ops[j]?=some o' -> bs[j]?=some b' -> ud P ops i o o' b'=true
 lt:∀ (i:Nat) (b:List Nat),bs[i]?=some b -> ∀x∈b,x<i
 dc:∀ (i:Nat) (o:Oper) (b:List Nat),ops[i]?=some o -> bs[i]?=some b -> ∀x∈b,∃e∈o.after,Region.binds .any e=true /\ (x=e.on \/ ∃b',bs[e.on]?=some b' /\ x∈b')
 dir:∀ (i:Nat) (o:Oper) (b:List Nat),ops[i]?=some o -> bs[i]?=some b -> ∀e∈o.after,Region.binds .any e=true -> e.on<i
theorem Ba(e:Edge):Region.binds .any e=Ay e:=by
 unfold Region.binds Ay;cases e.ground <;> rfl
theorem sf{P:Program}{ops:Array Oper}{o':Oper}{b':List Nat}:∀ {l:List Oper} {i:Nat},ue P ops o' b' i l=true -> ∀j (hj:j<l.length),ud P ops (i+j) l[j] o' b'=true
 | [],i,h,j,hj=>by simp at hj
 | o::l,i,h,j,hj=>by
  rw[ue] at h;split at h
  ·rename_i h1;cases j with
   | zero=>exact h1
   | succ j =>
    have:=sf h j (by simpa using hj);rw[show i+(j+1)=i+1+j from by omega];exact this
  ·cases h
theorem uu{P:Program}{G:Nat}{ops:Array Oper}{all:List Oper}:∀ {l:List Oper} {bs:List (List Nat)} {i:Nat},wJ P G ops all i l bs=true -> bs.length=l.length /\ ∀j (hj:j<l.length),∃b,bs[j]?=some b /\ pH G l[j]=true /\ ue P ops l[j] b 0 (all.take (i+j))=true /\ (looks ops l[j]).isSome=true
 | [],[],i,h=>⟨rfl,λ j hj=>by simp at hj⟩
 | [],_::_,i,h=>by simp[wJ] at h
 | _::_,[],i,h=>by simp[wJ] at h
 | o::l,b::bs,i,h=>by
  rw[wJ] at h;split at h
  ·rename_i h1 h2 h3;obtain⟨q1,q2⟩:=uu h;refine⟨by simp[q1],λ j hj=>?_⟩;cases j with
   | zero=>exact⟨b,rfl,h1,h2,h3⟩
   | succ j =>
    obtain⟨b',g1,g2,g3,g4⟩:=q2 j (by simpa using hj);refine⟨b',by simpa using g1,g2,?_,g4⟩;rw[show i+(j+1)=i+1+j from by omega];exact g3
  ·cases h
theorem Bb{P:Program}{G:Nat}{ops:Array Oper}{bs:List (List Nat)}(h:C4 P G ops=some bs):Stat P G ops bs:=by
 unfold C4 at h;split at h
 case h_2=>cases h
 rename_i bs' hb;split at h
 case h_2=>cases h
 rename_i hs;cases h;obtain⟨q1,-,q3⟩:=wX hb;obtain⟨p1,p2⟩:=uu hs;simp only[List.length_nil,Nat.zero_add] at q1 q3;have iS:∀ {i:Nat} {o:Oper},ops[i]?=some o -> ∃hi:i<ops.toList.length,ops.toList[i]=o:=λ {i o} h=>by
  obtain⟨h1,h2⟩:=Array.getElem?_eq_some_iff.1 h;exact⟨by simpa using h1,by simpa using h2⟩
 have hbe:∀ {i:Nat} {o:Oper} {b:List Nat},ops[i]?=some o -> bs[i]?=some b -> C3 (bs.take i) o.after.toList=some b:=λ {i o b} ho hb=>by
  obtain⟨hi,S5⟩:=iS ho;obtain⟨b',g1,g2⟩:=q3 i hi;rw[g1] at hb;cases hb;rw[S5] at g2;exact g2
 have hdc:∀ (i:Nat) (o:Oper) (b:List Nat),ops[i]?=some o -> bs[i]?=some b -> ∀x∈b,∃e∈o.after,Region.binds .any e=true /\ (x=e.on \/ ∃b',bs[e.on]?=some b' /\ x∈b'):=λ i o b ho hb x hx=>by
  obtain⟨e,h1,h2,h3⟩:=(ri (hbe ho hb)).2 x hx;refine⟨e,by simpa using h1,by rw[Ba];exact h2,?_⟩;rcases h3 with h3|⟨b',h4,h5⟩
  ·exact .inl h3
  ·have:=(List.getElem?_eq_some_iff.1 h4).1;rw[List.getElem?_take_of_lt (by rw[List.length_take] at this;omega)] at h4;exact .inr ⟨b',h4,h5⟩
 have ahX:∀ (i:Nat) (o:Oper) (b:List Nat),ops[i]?=some o -> bs[i]?=some b -> ∀e∈o.after,Region.binds .any e=true -> e.on<i:=λ i o b ho hb e he ah6=>by
  have:=(ri (hbe ho hb)).1 e (by simpa using he) (by rw[<- Ba];exact ah6);rw[List.length_take] at this;omega
 refine⟨by rw[q1];simp,λ i o ho=>?_,λ i j o o' b' hij ho S5 V6=>?_,?_,hdc,ahX⟩
 ·obtain⟨hi,S5⟩:=iS ho;obtain⟨b,-,g2,-,g4⟩:=p2 i hi;rw[S5] at g2 g4;exact⟨g2,Option.isSome_iff_exists.1 g4⟩
 ·obtain⟨hj,hoj⟩:=iS S5;obtain⟨hi,hoi⟩:=iS ho;obtain⟨b,g1,-,g3,-⟩:=p2 j hj;rw[g1] at V6;cases V6;rw[hoj,Nat.zero_add] at g3;have:=sf g3 i (by rw[List.length_take];omega);simpa [hoi] using this
 ·intro i
  induction i using Nat.strongRecOn with
  | _ i ih =>
   intro b hb x hx;have Ve:i<ops.size:=by
    have:=(List.getElem?_eq_some_iff.1 hb).1;rw[q1] at this;simpa using this
   have ho:ops[i]?=some ops[i]:=Array.getElem?_eq_getElem Ve;obtain⟨e,h1,h2,h3⟩:=hdc i _ b ho hb x hx;have ahz:=ahX i _ b ho hb e h1 h2;rcases h3 with rfl|⟨b',h4,h5⟩
   ·exact ahz
   ·have:=ih _ ahz b' h4 x h5;omega
section dr
variable {ν ν':Nu} {P:Program} {G N:Nat} {T T':Tr Value} {a:Act} {H H':AH} {F:HL} {w w':World} {r r':Option Nat} {ih:Task -> Option Rs}
inductive DK(P:Program)(G:Nat)(ih:Task -> Option Rs)(r:Option Nat)(N:Nat)(ops:Array Oper)(i:Nat)(o:Oper)(b:List Nat)(s:DSt):Value -> DSt -> Prop
 | no (T:Tr Value):fD ops o s.T=some false -> gc N o.dst undef s.T=some T -> DK P G ih r N ops i o b s undef { s with T:=T }
 | pu (v:Value) (T:Tr Value):fD ops o s.T=some true -> vf P o.op=.pu -> je P o s.T=some v -> gc N o.dst v s.T=some T -> DK P G ih r N ops i o b s v { s with T:=T }
 | lo (v:Value) (T:Tr Value):fD ops o s.T=some true -> vf P o.op=.lo -> kM P o s.T s.H=some v -> gc N o.dst v s.T=some T -> DK P G ih r N ops i o b s v { s with T:=T,lds:=⟨i,o,b,s.T,v⟩::s.lds }
 | nw (bl:AB) (m:Mk) (T:Tr Value):fD ops o s.T=some true -> vf P o.op=.nw -> vA P o s.T=some (bl,m) -> gc N o.dst (m.val s.n) s.T=some T -> DK P G ih r N ops i o b s (m.val s.n) { s with T:=T,n:=s.n+1,pend:=s.pend++[(s.n,bl)] }
 | ef (v:Value) (H':AH) (n':Nat) (T:Tr Value):fD ops o s.T=some true -> vf P o.op=.ef -> lA P G ih r o s.T (js s.H s.pend) s.n=some (.val v H' n') -> gc N o.dst v s.T=some T -> DK P G ih r N ops i o b s v { s with T:=T,H:=H',n:=n',pend:=[],stg:=s.stg++[(i,b,H')] }
theorem Km{ops:Array Oper}{i:Nat}{o:Oper}{b:List Nat}{s s':DSt}(h:Sv P G ih r N ops i o b s=some s'):∃v,DK P G ih r N ops i o b s v s':=by
 unfold Sv at h;split at h
 ·cases h
 ·rename_i hw;split at h
  ·rename_i T1 hp;cases h;exact⟨_,.no _ hw hp⟩
  ·cases h
 ·rename_i hw;split at h
  ·rename_i hc;split at h
   ·rename_i v hv;split at h
    ·rename_i T1 hp;cases h;exact⟨_,.pu _ _ hw hc hv hp⟩
    ·cases h
   ·cases h
  ·rename_i hc;split at h
   ·rename_i v hv;split at h
    ·rename_i T1 hp;cases h;exact⟨_,.lo _ _ hw hc hv hp⟩
    ·cases h
   ·cases h
  ·rename_i hc;split at h
   ·rename_i bl m hv;split at h
    ·rename_i T1 hp;cases h;exact⟨_,.nw _ _ _ hw hc hv hp⟩
    ·cases h
   ·cases h
  ·rename_i hc;simp only at h;split at h
   ·rename_i v H' n' hv;split at h
    ·rename_i T1 hp;cases h;exact⟨_,.ef _ _ _ _ hw hc hv hp⟩
    ·cases h
   ·cases h
theorem uv{ops:Array Oper}:∀ {l:List Oper} {bs:List (List Nat)} {k:Nat} {s d:DSt},Az P G ih r N ops k l bs s=some d -> bs.length=l.length -> ∃ (σ:Nat -> DSt) (V:Nat -> Value),σ k=s /\ σ (k+l.length)=d /\ ∀j (hj:j<l.length),∃b,bs[j]?=some b /\ DK P G ih r N ops (k+j) l[j] b (σ (k+j)) (V (k+j)) (σ (k+j+1))
 | [],bs,k,s,d,h,hl=>by
  rw[Az] at h;cases h;exact⟨λ _=>s,λ _=>undef,rfl,rfl,λ j hj=>(by simp at hj)⟩
 | o::l,[],k,s,d,h,hl=>by simp at hl
 | o::l,b::bs,k,s,d,h,hl=>by
  rw[Az] at h;split at h
  ·rename_i s1 h1;obtain⟨v,hv⟩:=Km h1;obtain⟨σ,V,e1,e2,e3⟩:=uv h (by simpa using hl);refine⟨λ x=>if x=k then s else σ x,λ x=>if x=k then v else V x,if_pos rfl,?_,λ j hj=>?_⟩
   ·simp only[List.length_cons];rw[if_neg (by omega),<- e2];congr 1;omega
   ·cases j with
    | zero =>
     refine⟨b,rfl,?_⟩;simp only[Nat.add_zero,if_true];rw[if_neg (by omega),e1];exact hv
    | succ j =>
     obtain⟨b',g1,g2⟩:=e3 j (by simpa using hj);refine⟨b',by simpa using g1,?_⟩;simp only;rw[if_neg (by omega),if_neg (by omega),if_neg (by omega)];have e:k+(j+1)=k+1+j:=by omega
     rw[e];exact g2
  ·cases h
theorem MQ(IN:md P G ih){o:Oper}{n n':Nat}{v:Value}{H':AH}(At:lA P G ih r o T H n=some (.val v H' n')):n <= n':=by
 unfold lA at At;split at At
 ·cases At
 rename_i y hy;split at At
 ·cases At;exact yf hy
 ·split at At
  ·rename_i hc;cases At;exact(IN _ _ hc).1
  ·cases At
 ·split at At
  case h_2=>cases At
  split at At
  case h_2=>cases At
  split at At
  ·rename_i hc;cases At;exact(IN _ _ hc).1
  ·cases At
 ·split at At <;> cases At
 ·cases At
theorem ne{dst:Option Tmp}{v:Value}(h:gc N dst v T=some T'):(∀t,dz T' t=if dst=some t then v else dz T t) /\ ∀d,dst=some d -> d<N:=by
 unfold gc at h;split at h
 ·cases h;exact⟨λ t=>by simp,λ d e=>(by cases e)⟩
 ·rename_i d;split at h
  ·rename_i hd;cases h;refine⟨λ t=>?_,λ d' e=>by cases e;exact eH hd⟩;unfold dz vw;rw[ke];simp
  ·cases h
structure Tra(P:Program)(G:Nat)(ih:Task -> Option Rs)(r:Option Nat)(N:Nat)(ops:Array Oper)(bs:List (List Nat))(σ:Nat -> DSt)(V:Nat -> Value):Prop where
 st:Stat P G ops bs
 stp:∀ (i:Nat) (o:Oper) (b:List Nat),ops[i]?=some o -> bs[i]?=some b -> DK P G ih r N ops i o b (σ i) (V i) (σ (i+1))
def kE(P:Program)(ops:Array Oper)(σ:Nat -> DSt)(i:Nat):Prop:=∃o,ops[i]?=some o /\ fD ops o (σ i).T=some true /\ vf P o.op=.ef
def kA(P:Program)(ops:Array Oper)(σ:Nat -> DSt)(i:Nat):Prop:=∃o,ops[i]?=some o /\ fD ops o (σ i).T=some true /\ vf P o.op=.nw
section tra
variable {ops:Array Oper} {bs:List (List Nat)} {σ:Nat -> DSt} {V:Nat -> Value}
theorem Tra.bef(h:Tra P G ih r N ops bs σ V){i:Nat}{o:Oper}(ho:ops[i]?=some o):∃b,bs[i]?=some b:=by
 have h1:=(Array.getElem?_eq_some_iff.1 ho).1;exact⟨_,List.getElem?_eq_getElem (by rw[h.st.len];exact h1)⟩
theorem Tra.at(h:Tra P G ih r N ops bs σ V){i:Nat}(hi:i<ops.size):∃o b,ops[i]?=some o /\ bs[i]?=some b /\ DK P G ih r N ops i o b (σ i) (V i) (σ (i+1)):=by
 have ho:ops[i]?=some ops[i]:=Array.getElem?_eq_getElem hi;obtain⟨b,hb⟩:=h.bef ho;exact⟨_,b,ho,hb,h.stp i _ b ho hb⟩
theorem Tra.notE(h:Tra P G ih r N ops bs σ V){i:Nat}(hi:i<ops.size)(hn:¬ kE P ops σ i):(σ (i+1)).H=(σ i).H /\ (σ (i+1)).stg=(σ i).stg:=by
 obtain⟨o,b,ho,hb,hk⟩:=h.at hi;generalize TU:σ (i+1)=s' at hk ⊢;generalize V i=v at hk;cases hk with
 | ef v H' n' T hw hc _ _=>exact(hn ⟨o,ho,hw,hc⟩).elim
 | _=>exact⟨rfl,rfl⟩
theorem Tra.notA(h:Tra P G ih r N ops bs σ V){i:Nat}(hi:i<ops.size)(hn:¬ kE P ops σ i)(hn2:¬ kA P ops σ i):(σ (i+1)).pend=(σ i).pend /\ (σ (i+1)).n=(σ i).n:=by
 obtain⟨o,b,ho,hb,hk⟩:=h.at hi;generalize TU:σ (i+1)=s' at hk ⊢;generalize V i=v at hk;cases hk with
 | ef v H' n' T hw hc _ _=>exact(hn ⟨o,ho,hw,hc⟩).elim
 | nw bl m T hw hc _ _=>exact(hn2 ⟨o,ho,hw,hc⟩).elim
 | _=>exact⟨rfl,rfl⟩
theorem Tra.isA(h:Tra P G ih r N ops bs σ V){i:Nat}(hA:kA P ops σ i):∃o bl m,ops[i]?=some o /\ vA P o (σ i).T=some (bl,m) /\ V i=m.val (σ i).n /\ (σ (i+1)).n=(σ i).n+1 /\ (σ (i+1)).pend=(σ i).pend++[((σ i).n,bl)]:=by
 obtain⟨o,ho,hw,hc⟩:=hA;obtain⟨b,hb⟩:=h.bef ho;have hk:=h.stp i o b ho hb;generalize TU:σ (i+1)=s' at hk ⊢;generalize hv:V i=v at hk ⊢;cases hk with
 | no T hw' _=>rw[hw] at hw';cases hw'
 | pu v T _ Vf _ _=>rw[hc] at Vf;cases Vf
 | lo v T _ Vf _ _=>rw[hc] at Vf;cases Vf
 | ef v H' n' T _ Vf _ _=>rw[hc] at Vf;cases Vf
 | nw bl m T _ _ hn _=>exact⟨o,bl,m,ho,hn,rfl,rfl,rfl⟩
theorem Tra.isE(h:Tra P G ih r N ops bs σ V){i:Nat}(hE:kE P ops σ i):∃o b,ops[i]?=some o /\ bs[i]?=some b /\ vf P o.op=.ef /\ fD ops o (σ i).T=some true /\ lA P G ih r o (σ i).T (js (σ i).H (σ i).pend) (σ i).n=some (.val (V i) (σ (i+1)).H (σ (i+1)).n) /\ (σ (i+1)).pend=[] /\ (σ (i+1)).stg=(σ i).stg++[(i,b,(σ (i+1)).H)]:=by
 obtain⟨o,ho,hw,hc⟩:=hE;obtain⟨b,hb⟩:=h.bef ho;have hk:=h.stp i o b ho hb;generalize TU:σ (i+1)=s' at hk ⊢;generalize hv:V i=v at hk ⊢;cases hk with
 | no T hw' _=>rw[hw] at hw';cases hw'
 | pu v T _ Vf _ _=>rw[hc] at Vf;cases Vf
 | lo v T _ Vf _ _=>rw[hc] at Vf;cases Vf
 | nw bl m T _ Vf _ _=>rw[hc] at Vf;cases Vf
 | ef v H' n' T _ _ At _=>exact⟨o,b,ho,hb,hc,hw,At,rfl,rfl⟩
theorem Tra.put(h:Tra P G ih r N ops bs σ V){i:Nat}{o:Oper}(ho:ops[i]?=some o):gc N o.dst (V i) (σ i).T=some (σ (i+1)).T:=by
 obtain⟨b,hb⟩:=h.bef ho;have hk:=h.stp i o b ho hb;generalize TU:σ (i+1)=s' at hk ⊢;generalize hv:V i=v at hk ⊢;cases hk <;> assumption
theorem Tra.nle(h:Tra P G ih r N ops bs σ V)(IN:md P G ih){i:Nat}(hi:i<ops.size):(σ i).n <= (σ (i+1)).n:=by
 obtain⟨o,b,ho,hb,hk⟩:=h.at hi;generalize TU:σ (i+1)=s' at hk ⊢;generalize hv:V i=v at hk;cases hk with
 | ef v H' n' T hw hc At _=>exact MQ IN At
 | nw bl m T _ _ _ _=>exact Nat.le_succ _
 | _=>exact Nat.le_refl _
theorem Tra.nles(h:Tra P G ih r N ops bs σ V)(IN:md P G ih):∀ {i j:Nat},i <= j -> j <= ops.size -> (σ i).n <= (σ j).n:=by
 intro i j hij
 induction j with
 | zero =>
  intro _;obtain rfl:i=0:=by omega
  exact Nat.le_refl _
 | succ j ihj =>
  intro hj;rcases Nat.lt_or_ge i (j+1) with e|e
  ·exact Nat.le_trans (ihj (by omega) (by omega)) (h.nle IN (by omega))
  ·obtain rfl:i=j+1:=by omega
   exact Nat.le_refl _
theorem Tra.Hsame(h:Tra P G ih r N ops bs σ V){q:Nat}:∀ {j:Nat},q <= j -> j <= ops.size -> (∀k,q <= k -> k<j -> ¬ kE P ops σ k) -> (σ j).H=(σ q).H /\ (σ j).stg=(σ q).stg:=by
 intro j hq
 induction j with
 | zero =>
  intro _ _;obtain rfl:q=0:=by omega
  exact⟨rfl,rfl⟩
 | succ j ihj =>
  intro hj hn;rcases Nat.lt_or_ge q (j+1) with e|e
  ·obtain⟨h1,h2⟩:=ihj (by omega) (by omega) (λ k a b=>hn k a (by omega));obtain⟨h3,h4⟩:=h.notE (i:=j) (by omega) (hn j (by omega) (by omega));exact⟨h3.trans h1,h4.trans h2⟩
  ·obtain rfl:q=j+1:=by omega
   exact⟨rfl,rfl⟩
theorem Stat.dst(h:Stat P G ops bs){i j:Nat}{o o':Oper}{t:Tmp}(ho:ops[i]?=some o)(S5:ops[j]?=some o')(hd:o.dst=some t)(WQ:o'.dst=some t):i=j:=by
 have key:∀ {i j:Nat} {o o':Oper},i<j -> ops[i]?=some o -> ops[j]?=some o' -> o.dst=some t -> o'.dst=some t -> False:=by
  intro i j o o' hij ho S5 hd WQ;have hb:∃b',bs[j]?=some b':=⟨_,List.getElem?_eq_getElem (by rw[h.len];exact(Array.getElem?_eq_some_iff.1 S5).1)⟩;obtain⟨b',V6⟩:=hb;have hp:=h.pair i j o o' b' hij ho S5 V6;unfold ud at hp;split at hp
  ·rw[hd,WQ] at hp;simp at hp
  ·split at hp
   ·cases hp
   ·split at hp
    ·rw[hd,WQ] at hp;simp at hp
    ·cases hp
 rcases Nat.lt_trichotomy i j with e|e|e
 ·exact(key e ho S5 hd WQ).elim
 ·exact e
 ·exact(key e S5 ho WQ hd).elim
theorem Tra.Tno(h:Tra P G ih r N ops bs σ V){t:Tmp}:∀ {i:Nat},i <= ops.size -> (∀k o,k<i -> ops[k]?=some o -> o.dst≠some t) -> dz (σ i).T t=dz (σ 0).T t:=by
 intro i
 induction i with
 | zero=>intro _ _;rfl
 | succ i ihi =>
  intro hi hn;obtain⟨o,b,ho,hb,hk⟩:=h.at (i:=i) (by omega);rw[(ne (h.put ho)).1 t,if_neg (hn i o (by omega) ho)];exact ihi (by omega) (λ k o hk=>hn k o (by omega))
theorem Tra.Tyes(h:Tra P G ih r N ops bs σ V){t:Tmp}{j:Nat}{o:Oper}(ho:ops[j]?=some o)(hd:o.dst=some t):∀ {i:Nat},j<i -> i <= ops.size -> dz (σ i).T t=V j:=by
 intro i
 induction i with
 | zero=>intro hj;omega
 | succ i ihi =>
  intro hj hi;obtain⟨o',b,S5,hb,hk⟩:=h.at (i:=i) (by omega);rw[(ne (h.put S5)).1 t]
  by_cases e:i=j
  ·subst e;rw[ho] at S5;cases S5;rw[if_pos hd]
  ·rw[if_neg (λ WQ=>e (h.st.dst S5 ho WQ hd))];exact ihi (by omega) (by omega)
inductive Rch:List Nat -> AH -> List (Nat × List Nat × AH) -> List Nat -> AH -> List (Nat × List Nat × AH) -> Prop
 | here (be:List Nat) (H:AH) (l:List (Nat × List Nat × AH)):Rch be H l be H l
 | next {be be' be'':List Nat} {H H' H'':AH} {e:Nat} {l l':List (Nat × List Nat × AH)}:Rch be' H' l be'' H'' l' -> Rch be H ((e,be',H')::l) be'' H'' l'
theorem Rch.snoc{be be' b:List Nat}{H H' h:AH}{e:Nat}{l l':List (Nat × List Nat × AH)}(hr:Rch be H l be' H' ((e,b,h)::l')):Rch be H l b h l':=by
 generalize hx:(e,b,h)::l'=x at hr
 induction hr with
 | here be H l=>subst hx;exact .next (.here _ _ _)
 | next _ ih=>exact .next (ih hx)
theorem GX{d:DLd}{be be':List Nat}{H H':AH}{l l':List (Nat × List Nat × AH)}(h:vB P d be H l=true)(hr:Rch be H l be' H' l'):d.i∈be' \/ (∃e b h x,l'=(e,b,h)::x /\ e∈d.b) \/ RX P d H'=true:=by
 induction hr with
 | here be H l =>
  cases l with
  | nil =>
   rw[vB] at h;split at h
   ·rename_i e;exact .inl (ji.1 e)
   ·exact .inr (.inr h)
  | cons x l =>
   obtain⟨e,b,hh⟩:=x;rw[vB] at h;split at h
   ·rename_i e1;rw[Bool.or_eq_true] at e1;rcases e1 with e1|e1
    ·exact .inl (ji.1 e1)
    ·exact .inr (.inl ⟨e,b,hh,l,rfl,ji.1 e1⟩)
   ·split at h
    ·rename_i e2;exact .inr (.inr e2)
    ·cases h
 | next _ ih =>
  rw[vB] at h;split at h
  ·exact ih h
  ·split at h
   ·exact ih h
   ·cases h
theorem uw{H:AH}{stg:List (Nat × List Nat × AH)}:∀ {l:List DLd},Es P H stg l=true -> ∀d∈l,vB P d [] H stg=true
 | [],_,d,hd=>by cases hd
 | x::l,h,d,hd=>by
  rw[Es] at h;split at h
  ·rename_i e;rcases List.mem_cons.1 hd with rfl|hd
   ·exact e
   ·exact uw h d hd
  ·cases h
theorem Tra.rch(h:Tra P G ih r N ops bs σ V)(h0:(σ 0).stg=[]):∀ {i:Nat},i <= ops.size -> ∃be,(∀rest,Rch [] (σ 0).H ((σ i).stg++rest) be (σ i).H rest) /\ (be=[] \/ ∃e,e<i /\ kE P ops σ e /\ bs[e]?=some be /\ ∀k,e<k -> k<i -> ¬ kE P ops σ k):=by
 intro i
 induction i with
 | zero=>intro _;exact⟨[],λ rest=>by rw[h0];exact .here _ _ _,.inl rfl⟩
 | succ i ihi =>
  intro hi;obtain⟨be,h1,h2⟩:=ihi (by omega)
  by_cases hE:kE P ops σ i
  ·obtain⟨o,b,ho,hb,hc,hw,At,hp,hs⟩:=h.isE hE;refine⟨b,λ rest=>?_,.inr ⟨i,by omega,hE,hb,λ k a b=>by omega⟩⟩;rw[hs,List.append_assoc];exact(h1 _).snoc
  ·obtain⟨e1,e2⟩:=h.notE (i:=i) (by omega) hE;refine⟨be,λ rest=>by rw[e1,e2];exact h1 rest,?_⟩;rcases h2 with h2|⟨e,g1,g2,g3,g4⟩
   ·exact .inl h2
   ·refine .inr ⟨e,by omega,g2,g3,λ k a b=>?_⟩;rcases Nat.lt_or_ge k i with hk|hk
    ·exact g4 k a hk
    ·obtain rfl:k=i:=by omega
     exact hE
theorem Tra.stgs(h:Tra P G ih r N ops bs σ V){q:Nat}:∀ {j:Nat},q <= j -> j <= ops.size -> ∃rest,(σ j).stg=(σ q).stg++rest /\ (rest=[] \/ ∃e b hh l,rest=(e,b,hh)::l /\ q <= e /\ kE P ops σ e):=by
 intro j hq
 induction j with
 | zero =>
  intro _;obtain rfl:q=0:=by omega
  exact⟨[],by simp,.inl rfl⟩
 | succ j ihj =>
  intro hj;rcases Nat.lt_or_ge q (j+1) with e|e
  ·obtain⟨rest,h1,h2⟩:=ihj (by omega) (by omega)
   by_cases hE:kE P ops σ j
   ·obtain⟨o,b,ho,hb,hc,hw,At,hp,hs⟩:=h.isE hE;refine⟨rest++[(j,b,(σ (j+1)).H)],by rw[hs,h1,List.append_assoc],.inr ?_⟩;rcases h2 with rfl|⟨e,b',hh,l,rfl,g2,g3⟩
    ·exact⟨j,b,_,[],rfl,by omega,hE⟩
    ·exact⟨e,b',hh,_,rfl,g2,g3⟩
   ·obtain⟨e1,e2⟩:=h.notE (i:=j) (by omega) hE;exact⟨rest,by rw[e2,h1],h2⟩
  ·obtain rfl:q=j+1:=by omega
   exact⟨[],by simp,.inl rfl⟩
theorem Tra.lds(h:Tra P G ih r N ops bs σ V){d:DLd}{i:Nat}:∀ {j:Nat},i <= j -> j <= ops.size -> d∈(σ i).lds -> d∈(σ j).lds:=by
 intro j hij
 induction j with
 | zero =>
  intro _ hd;obtain rfl:i=0:=by omega
  exact hd
 | succ j ihj =>
  intro hj hd;rcases Nat.lt_or_ge i (j+1) with e|e
  ·have h1:=ihj (by omega) (by omega) hd;obtain⟨o,b,ho,hb,hk⟩:=h.at (i:=j) (by omega);generalize TU:σ (j+1)=s' at hk ⊢;generalize hv:V j=v at hk;cases hk <;> first|exact h1|exact List.mem_cons_of_mem _ h1
  ·obtain rfl:i=j+1:=by omega
   exact hd
theorem Tra.opnd(h:Tra P G ih r N ops bs σ V){S:Nat -> Prop}{tm:Array Value}(ars:tm.size=N)
  (dc:∀i b,S i -> bs[i]?=some b -> ∀x∈b,S x)
  (tA:∀j o t,S j -> ops[j]?=some o -> o.dst=some t -> ∃v',tm[t]?=some v' /\ VRi ν (V j) v')
  (tB:∀t,t<N -> (∀j o,S j -> ops[j]?=some o -> o.dst≠some t) -> ∃v',tm[t]?=some v' /\ VRi ν (dz (σ 0).T t) v')
  (tO:∀t,N <= t -> dz (σ 0).T t=undef)
  {i:Nat} {o:Oper} {b:List Nat} (ho:ops[i]?=some o) (hb:bs[i]?=some b) (hi:¬ S i) (XH:∀x∈b,S x) {l:List Tmp} (hl:looks ops o=some l) {t:Tmp} (ht:t∈l) :
  (∃v',tm[t]?=some v' /\ VRi ν (dz (σ i).T t) v') \/ (tm[t]?=none /\ dz (σ i).T t=undef):=by
 have him:i<ops.size:=(Array.getElem?_eq_some_iff.1 ho).1
 by_cases hj:∃ (j:Nat) (o':Oper),ops[j]?=some o' /\ o'.dst=some t
 ·obtain⟨j,o',S5,hd⟩:=hj;have hjm:j<ops.size:=(Array.getElem?_eq_some_iff.1 S5).1;have htN:t<N:=(ne (h.put S5)).2 t hd;have uniq:∀k o2,ops[k]?=some o2 -> o2.dst=some t -> k=j:=λ k o2 h1 h2=>h.st.dst h1 S5 h2 hd;rcases Nat.lt_trichotomy j i with e|e|e
  ·have hp:=h.st.pair j i o' o b e S5 ho hb
   by_cases hm:lB j b=true
   ·have hS:=XH j (ji.1 hm);rw[h.Tyes S5 hd e (by omega)];exact .inl (tA j o' t hS S5 hd)
   ·exfalso;have hm':lB j b=false:=by simpa using hm
    have hmt:lB t l=true:=ji.2 ht;obtain⟨l',X7⟩:=(h.st.ok j o' S5).2;unfold ud at hp;rw[hm'] at hp;simp only[hl,X7,hd] at hp;split at hp
    ·cases hp
    ·cases hdo:o.dst <;> simp[hdo,hmt] at hp
  ·subst e;rw[ho] at S5;cases S5;rw[h.Tno (by omega) (λ k o2 hk h1 h2=>by have:=uniq k o2 h1 h2;omega)];exact .inl (tB t htN (λ k o2 hS h1 h2=>by have:=uniq k o2 h1 h2;subst this;exact hi hS))
  ·obtain⟨b',V6⟩:=h.bef S5;have hp:=h.st.pair i j o o' b' e ho S5 V6
   by_cases hm:lB i b'=true
   ·have hnS:¬ S j:=λ hS=>hi (dc j b' hS V6 i (ji.1 hm));rw[h.Tno (by omega) (λ k o2 hk h1 h2=>by have:=uniq k o2 h1 h2;omega)];exact .inl (tB t htN (λ k o2 hS h1 h2=>by have:=uniq k o2 h1 h2;subst this;exact hnS hS))
   ·exfalso;have hm':lB i b'=false:=by simpa using hm
    have hmt:lB t l=true:=ji.2 ht;obtain⟨l',X7⟩:=(h.st.ok j o' S5).2;unfold ud at hp;rw[hm'] at hp;simp only[hl,X7,hd] at hp;split at hp
    ·cases hp
    ·cases hdo:o.dst <;> simp[hdo,hmt] at hp
 ·have VL:∀ (k:Nat) (o2:Oper),ops[k]?=some o2 -> o2.dst≠some t:=λ k o2 h1 h2=>hj ⟨k,o2,h1,h2⟩;rw[h.Tno (by omega) (λ k o2 _ h1=>VL k o2 h1)];rcases Nat.lt_or_ge t N with e|e
  ·exact .inl (tB t e (λ k o2 _ h1=>VL k o2 h1))
  ·exact .inr ⟨Array.getElem?_eq_none (by omega),tO t e⟩
theorem HR.mono(hH:HR ν H F w)(hl:ν.Le ν'):HR ν' H F w:=by
 have key:∀h b r K,cw H h=some b -> ν' h=some (r,K) -> ν h=some (r,K):=λ h b r K hb hν=>by
  obtain⟨r',K',o,h1,-⟩:=hH.blk h b hb;rw[hl _ _ h1] at hν;rw[h1,hν]
 exact⟨λ h b hb=>let ⟨r,K,o,h1,h2,h3⟩:=hH.blk h b hb;⟨r,K,o,hl _ _ h1,h2,h3.mono hl⟩,λ h1 h2 b1 b2 r K1 K2 e1 e2 e3 e4=>hH.inj _ _ _ _ _ _ _ e1 e2 (key _ _ _ _ e1 e3) (key _ _ _ _ e2 e4),hH.frm,λ h b r K e1 e2=>hH.apt h b r K e1 (key _ _ _ _ e1 e2)⟩
theorem HR.less{F':HL}(hH:HR ν H F w)(h:∀x∈F',x∈F):HR ν H F' w:=⟨hH.blk,hH.inj,λ x hx=>hH.frm x (h x hx),λ k b r K e1 e2 x hx=>hH.apt k b r K e1 e2 x (h x hx)⟩
theorem HR.place(hH:HR ν H F w){n r K:Nat}{b:AB}{o:Obj}(hn:ν n=some (r,K))(hr:w.heap[r]?=some o)(ho:OR ν K b o)(hF:∀x∈F,x.1≠r)(Yb:∀k b' r' K',cw H k=some b' -> ν k=some (r',K') -> r'≠r):HR ν (dw H n (some b)) F w:=by
 have ID:∀k b',cw (dw H n (some b)) k=some b' -> k≠n -> cw H k=some b':=λ k b' hk IF=>by
  rw[ee,if_neg (Ne.symm IF)] at hk;exact hk
 refine⟨λ k b' hk=>?_,λ k1 k2 b1 b2 q K1 K2 h1 h2 h3 h4=>?_,hH.frm,λ k b' q K' hk hq x hx=>?_⟩
 ·by_cases e:k=n
  ·subst e;rw[ee,if_pos rfl] at hk;cases hk;exact⟨r,K,o,hn,hr,ho⟩
  ·exact hH.blk k b' (ID k b' hk e)
 ·by_cases e1:k1=n
  ·by_cases e2:k2=n
   ·rw[e1,e2]
   ·subst e1;rw[hn] at h3;cases h3;exact(Yb _ _ _ _ (ID _ _ h2 e2) h4 rfl).elim
  ·by_cases e2:k2=n
   ·subst e2;rw[hn] at h4;cases h4;exact(Yb _ _ _ _ (ID _ _ h1 e1) h3 rfl).elim
   ·exact hH.inj _ _ _ _ _ _ _ (ID _ _ h1 e1) (ID _ _ h2 e2) h3 h4
 ·by_cases e:k=n
  ·subst e;rw[hn] at hq;cases hq;exact hF x hx
  ·exact hH.apt _ _ _ _ (ID _ _ hk e) hq x hx
theorem Bc(H:AH):∀ (l:List (Nat × AB)) (h:Nat) (b:AB),js H (l++[(h,b)])=dw (js H l) h (some b):=by
 intro l
 induction l generalizing H with
 | nil=>intro h b;rfl
 | cons x l ih=>obtain⟨h',b'⟩:=x;intro h b;exact ih _ h b
theorem Kn(a:Act)(dst:Option Tmp)(v:Value)(t:Nat):(a.put dst v).tmps[t]?=if dst=some t then (if t<a.tmps.size then some v else none) else a.tmps[t]?:=by
 cases dst with
 | none=>simp[Act.put]
 | some d =>
  simp only[Act.put,Option.some.injEq];rw[Array.getElem?_setIfInBounds]
  by_cases e:d=t
  ·subst e;simp
  ·simp[e]
theorem Ko(a:Act)(dst:Option Tmp)(v:Value):(a.put dst v).tmps.size=a.tmps.size:=by cases dst <;> simp[Act.put]
structure Pen(P:Program)(ops:Array Oper)(σ:Nat -> DSt)(S:Nat -> Prop)(F:HL)(ν:Nu)(w:World)(q:Nat)(βb βK:Nat -> Nat)(βo:Nat -> Obj):Prop where
 be:∀k,kA P ops σ k -> S k -> q <= k -> ν (σ k).n=some (βb k,βK k) /\ w.heap[βb k]?=some (βo k) /\ ∀o bl m,ops[k]?=some o -> vA P o (σ k).T=some (bl,m) -> OR ν (βK k) bl (βo k)
 bi:∀k k',kA P ops σ k -> S k -> q <= k -> kA P ops σ k' -> S k' -> q <= k' -> k≠k' -> βb k≠βb k'
 bf:∀k,kA P ops σ k -> S k -> q <= k -> ∀x∈F,x.1≠βb k
 bh:∀k,kA P ops σ k -> S k -> q <= k -> ∀h b r K,cw (σ q).H h=some b -> ν h=some (r,K) -> r≠βb k
theorem Tra.placed(h:Tra P G ih r N ops bs σ V){S:Nat -> Prop}{q:Nat}{βb βK:Nat -> Nat}{βo:Nat -> Obj}(hp:Pen P ops σ S F ν w q βb βK βo)(hH:HR ν (σ q).H F w)(hq0:(σ q).pend=[]):∀ {j:Nat},q <= j -> j <= ops.size -> (∀k,q <= k -> k<j -> ¬ kE P ops σ k) -> (∀k,q <= k -> k<j -> kA P ops σ k -> S k) ->
  HR ν (js (σ q).H (σ j).pend) F w /\ ∀hd b r K,cw (js (σ q).H (σ j).pend) hd=some b -> ν hd=some (r,K) -> ∀k,kA P ops σ k -> S k -> j <= k -> r≠βb k:=by
 intro j hq
 induction j with
 | zero =>
  intro _ _ _;obtain rfl:q=0:=by omega
  rw[hq0];exact⟨hH,λ hd b r K e1 e2 k k1 k2 k3=>hp.bh k k1 k2 k3 hd b r K e1 e2⟩
 | succ j ihj =>
  intro hj hnE hA;rcases Nat.lt_or_ge q (j+1) with e|e
  ·obtain⟨g1,g2⟩:=ihj (by omega) (by omega) (λ k a b=>hnE k a (by omega)) (λ k a b=>hA k a (by omega));have hE:=hnE j (by omega) (by omega)
   by_cases hAj:kA P ops σ j
   ·obtain⟨o,bl,m,ho,hn,hv,hnn,hpd⟩:=h.isA hAj;have hS:=hA j (by omega) (by omega) hAj;obtain⟨b1,b2,b3⟩:=hp.be j hAj hS (by omega);rw[hpd,Bc];refine⟨g1.place b1 b2 (b3 o bl m ho hn) (hp.bf j hAj hS (by omega)) (λ k b' r' K' e1 e2=>g2 k b' r' K' e1 e2 j hAj hS (Nat.le_refl _)),λ hd b r K e1 e2 k k1 k2 k3=>?_⟩;rw[ee] at e1;split at e1
    ·rename_i e3;subst e3;rw[b1] at e2;cases e2;exact hp.bi j k hAj hS (by omega) k1 k2 (by omega) (by omega)
    ·exact g2 hd b r K e1 e2 k k1 k2 (by omega)
   ·obtain⟨e1,e2⟩:=h.notA (i:=j) (by omega) hE hAj;rw[e1];exact⟨g1,λ hd b r K e1 e2 k k1 k2 k3=>g2 hd b r K e1 e2 k k1 k2 (by omega)⟩
  ·obtain rfl:q=j+1:=by omega
   rw[hq0];exact⟨hH,λ hd b r K e1 e2 k k1 k2 k3=>hp.bh k k1 k2 k3 hd b r K e1 e2⟩
abbrev kC(listed:Array Bool)(j:Nat):Prop:=listed.getD j false=true
structure DInv(P:Program)(G N:Nat)(ops:Array Oper)(bs:List (List Nat))(σ:Nat -> DSt)(V:Nat -> Value)(F:HL)(ν0:Nu)(D0:List Deferred)(r r':Option Nat)(w0:World)(listed:Array Bool)(ν:Nu)(a:Act)(w:World)(q:Nat)(βb βK:Nat -> Nat)(βo:Nat -> Obj):Prop where
 sz:listed.size=ops.size
 dc:∀ (i:Nat) (b:List Nat),kC listed i -> bs[i]?=some b -> ∀x∈b,kC listed x
 g:Glb ν G
 rr:RR ν r r'
 tsz:a.tmps.size=N
 tA:∀ (j:Nat) (o:Oper) (t:Tmp),kC listed j -> ops[j]?=some o -> o.dst=some t -> ∃v',a.tmps[t]?=some v' /\ VRi ν (V j) v'
 tB:∀ (t:Tmp),t<N -> (∀ (j:Nat) (o:Oper),kC listed j -> ops[j]?=some o -> o.dst≠some t) -> ∃v',a.tmps[t]?=some v' /\ VRi ν (dz (σ 0).T t) v'
 fr:∀j,j<ops.size -> ¬ kC listed j -> Fr ν (σ j).n (σ (j+1)).n
 ex:Ext ν0 ν (σ 0).n (σ ops.size).n
 d:DsR ν D0 a.defers
 qq:q <= ops.size /\ (q=0 \/ ∃e,q=e+1 /\ kE P ops σ e /\ kC listed e)
 qe:∀e,kE P ops σ e -> (kC listed e↔e<q)
 h:HR ν (σ q).H F w
 pen:Pen P ops σ (kC listed) F ν w q βb βK βo
 bw:Below 0 w0 w
theorem MR{listed:Array Bool}{i j:Nat}(hi:i<listed.size):kC (listed.setIfInBounds i true) j↔(kC listed j \/ j=i):=by
 unfold kC
 by_cases e:i=j
 ·subst e;simp[Array.getD_eq_getD_getElem?,hi]
 ·rw[getD_set_ne _ e];constructor
  ·exact .inl
  ·rintro(h|h)
   ·exact h
   ·exact(e h.symm).elim
theorem DInv.step(h:Tra P G ih r N ops bs σ V){ν0:Nu}{D0:List Deferred}{w0:World}{listed:Array Bool}{q:Nat}{βb βK:Nat -> Nat}{βo:Nat -> Obj}(I:DInv P G N ops bs σ V F ν0 D0 r r' w0 listed ν a w q βb βK βo)
  {i:Nat} {o:Oper} {b:List Nat} (ho:ops[i]?=some o) (hb:bs[i]?=some b) (hi:¬ kC listed i) (XH:∀x∈b,kC listed x) {v':Value} (hl:ν.Le ν') (hv:VRi ν' (V i) v') {q':Nat} {βb' βK':Nat -> Nat} {βo':Nat -> Obj}
  (Yb:∀j,j<ops.size -> ¬ kC listed j -> j≠i -> Fr ν' (σ j).n (σ (j+1)).n) (hex:Ext ν0 ν' (σ 0).n (σ ops.size).n)
  (hq:q' <= ops.size /\ (q'=0 \/ ∃e,q'=e+1 /\ kE P ops σ e /\ (kC listed e \/ e=i))) (hqe:∀e,kE P ops σ e -> ((kC listed e \/ e=i)↔e<q'))
  (hH:HR ν' (σ q').H F w') (aca:Pen P ops σ (λ j=>kC listed j \/ j=i) F ν' w' q' βb' βK' βo') (hw:Below 0 w w') :
  DInv P G N ops bs σ V F ν0 D0 r r' w0 (listed.setIfInBounds i true) ν' (a.put o.dst v') w' q' βb' βK' βo':=by
 have him:i<ops.size:=(Array.getElem?_eq_some_iff.1 ho).1;have Ve:i<listed.size:=by rw[I.sz];exact him
 have hS:∀j,kC (listed.setIfInBounds i true) j↔(kC listed j \/ j=i):=λ j=>MR Ve;have hdN:∀d,o.dst=some d -> d<N:=(ne (h.put ho)).2;refine⟨by simpa using I.sz,λ j b' hj V6 x hx=>?_,I.g.mono hl,I.rr.mono hl,by rw[Ko];exact I.tsz,λ j o' t hj S5 hd=>?_,λ t ht VL=>?_,λ j hj hnj=>?_,hex,by rw[gE];exact I.d.mono hl,?_,λ e he=>?_,hH,?_,I.bw.trans hw⟩
 ·rw[hS] at hj ⊢;rcases hj with hj|rfl
  ·exact .inl (I.dc j b' hj V6 x hx)
  ·rw[hb] at V6;cases V6;exact .inl (XH x hx)
 ·rw[hS] at hj;rw[Kn];rcases hj with hj|rfl
  ·have IF:o.dst≠some t:=λ e=>by
    have:=h.st.dst ho S5 e hd;subst this;exact hi hj
   rw[if_neg IF];obtain⟨v2,e1,e2⟩:=I.tA j o' t hj S5 hd;exact⟨v2,e1,e2.mono hl⟩
  ·rw[ho] at S5;cases S5;rw[if_pos hd,if_pos (by rw[I.tsz];exact hdN t hd)];exact⟨v',rfl,hv⟩
 ·rw[Kn,if_neg (VL i o ((hS i).2 (.inr rfl)) ho)];obtain⟨v2,e1,e2⟩:=I.tB t ht (λ j o' hj S5=>VL j o' ((hS j).2 (.inl hj)) S5);exact⟨v2,e1,e2.mono hl⟩
 ·rw[hS] at hnj;exact Yb j hj (λ e=>hnj (.inl e)) (λ e=>hnj (.inr e))
 ·refine⟨hq.1,?_⟩;rcases hq.2 with e|⟨e,h1,h2,h3⟩
  ·exact .inl e
  ·exact .inr ⟨e,h1,h2,(hS e).2 h3⟩
 ·rw[hS];exact hqe e he
 ·exact⟨λ k k1 k2 k3=>aca.be k k1 ((hS k).1 k2) k3,λ k k' k1 k2 k3 k4 k5 k6=>aca.bi k k' k1 ((hS k).1 k2) k3 k4 ((hS k').1 k5) k6,λ k k1 k2 k3=>aca.bf k k1 ((hS k).1 k2) k3,λ k k1 k2 k3=>aca.bh k k1 ((hS k).1 k2) k3⟩
theorem DInv.still(h:Tra P G ih r N ops bs σ V){ν0:Nu}{D0:List Deferred}{w0:World}{listed:Array Bool}{q:Nat}{βb βK:Nat -> Nat}{βo:Nat -> Obj}(I:DInv P G N ops bs σ V F ν0 D0 r r' w0 listed ν a w q βb βK βo)
  {i:Nat} {o:Oper} {b:List Nat} (ho:ops[i]?=some o) (hb:bs[i]?=some b) (hi:¬ kC listed i) (XH:∀x∈b,kC listed x) {v':Value} (hv:VRi ν (V i) v') (hnE:¬ kE P ops σ i) (hnA:¬ kA P ops σ i) :
  DInv P G N ops bs σ V F ν0 D0 r r' w0 (listed.setIfInBounds i true) ν (a.put o.dst v') w q βb βK βo:=by
 refine I.step h ho hb hi XH (Nu.Le.refl _) hv (λ j hj hnj _=>I.fr j hj hnj) I.ex ⟨I.qq.1,?_⟩ (λ e he=>?_) I.h ?_ (Below.refl _ _)
 ·rcases I.qq.2 with e|⟨e,h1,h2,h3⟩
  ·exact .inl e
  ·exact .inr ⟨e,h1,h2,.inl h3⟩
 ·rw[<- I.qe e he];constructor
  ·rintro(h1|h1)
   ·exact h1
   ·subst h1;exact(hnE he).elim
  ·exact .inl
 ·have key:∀k,kA P ops σ k -> (kC listed k \/ k=i) -> kC listed k:=λ k k1 k2=>by
   rcases k2 with k2|k2
   ·exact k2
   ·subst k2;exact(hnA k1).elim
  exact⟨λ k k1 k2 k3=>I.pen.be k k1 (key k k1 k2) k3,λ k k' k1 k2 k3 k4 k5 k6=>I.pen.bi k k' k1 (key k k1 k2) k3 k4 (key k' k4 k5) k6,λ k k1 k2 k3=>I.pen.bf k k1 (key k k1 k2) k3,λ k k1 k2 k3=>I.pen.bh k k1 (key k k1 k2) k3⟩
theorem Kq{o:Oper}(h:pH G o=true):∃l,j9 o.op=some l /\ vz G l=true:=by
 unfold pH at h;split at h
 ·rename_i l hl;exact⟨l,hl,h⟩
 ·cases h
theorem wY{t:Tmp}:∀ {l:List Operand},Operand.tmp t∈l -> t∈ub l
 | [],h=>by cases h
 | x::l,h=>by
  rcases List.mem_cons.1 h with e|h'
  ·subst e;rw[ub];exact List.mem_cons_self
  ·have:=wY h';cases x with
   | tmp t'=>exact List.mem_cons_of_mem _ this
   | const v=>exact this
   | global g=>exact this
   | func f=>exact this
theorem GY{o:Oper}{l:List Operand}{lk:List Tmp}(hl:j9 o.op=some l)(h:looks ops o=some lk):∀t∈ub l,t∈lk:=by
 intro t ht;unfold looks at h;rw[hl] at h;simp only at h;split at h
 ·cases h;exact ht
 ·split at h
  ·cases h;exact List.mem_cons_of_mem _ ht
  ·cases h
theorem Bd{o:Oper}{lk:List Tmp}(h:looks ops o=some lk){j:Nat}{want:Bool}(hg:o.guard=some (j,want)){d:Tmp}(hd:(ops[j]?).bind (·.dst)=some d):d∈lk:=by
 unfold looks at h;split at h
 ·cases h
 rw[hg] at h;simp only[hd] at h;cases h;exact List.mem_cons_self
theorem GZ{o:Oper}{b:Bool}{tm:Array Value}(hv:∀j want,o.guard=some (j,want) -> ∀d,(ops[j]?).bind (·.dst)=some d -> (∃v',tm[d]?=some v' /\ VRi ν (dz T d) v') \/ (tm[d]?=none /\ dz T d=undef))(h:fD ops o T=some b):Region.wanted o (yielded ops tm)=b:=by
 unfold fD at h;unfold Region.wanted;split at h
 ·rename_i hg;rw[hg];cases h;rfl
 ·rename_i j want hg;rw[hg];simp only;split at h
  case h_2=>cases h
  rename_i d hd;have hy:yielded ops tm j=match tm[d]? with|some (.bool b)=>some b|_=>none:=by
   unfold yielded;rw[hd];rfl
  have hv:=hv j want hg d hd;rw[hy];split at h
  ·rename_i b' hb;cases h;rcases hv with ⟨v',e1,e2⟩|⟨e1,e2⟩
   ·rw[hb] at e2;rw[e2.plain_eq rfl] at e1;rw[e1];simp
   ·rw[hb] at e2;cases e2
  ·rename_i vs hb;cases h;rcases hv with ⟨v',e1,e2⟩|⟨e1,e2⟩
   ·rw[hb] at e2;rw[e1];cases e2 with
    | atom _ h=>simp[cV] at h
    | tuple _ _=>rfl
   ·rw[e1];rfl
  ·cases h
theorem yh{o:Oper}(h:vf P o.op=.ef):isE P o=true:=by unfold isE;rw[h]
theorem Kr{o:Oper}(h:vf P o.op=.nw):isN P o=true:=by unfold isN;rw[h]
theorem Stat.before(h:Stat P G ops bs){k j:Nat}{o o':Oper}{b':List Nat}(hkj:k<j)(ho:ops[k]?=some o)(S5:ops[j]?=some o')(V6:bs[j]?=some b')(hE:isE P o'=true)(hK:(isE P o || isN P o)=true):k∈b':=by
 have hp:=h.pair k j o o' b' hkj ho S5 V6
 by_cases hm:lB k b'=true
 ·exact ji.1 hm
 ·have hm':lB k b'=false:=by simpa using hm
  unfold ud at hp;rw[hm'] at hp;simp only[hE,hK] at hp;cases hp
theorem Tra.op(h:Tra P G ih r N ops bs σ V)(IN:md P G ih)(aeF:∀d∈(σ ops.size).lds,vB P d [] (σ 0).H (σ ops.size).stg=true)(h0s:(σ 0).stg=[])(h0p:(σ 0).pend=[])(hTO:∀t,N <= t -> dz (σ 0).T t=undef)
  {ν0:Nu} {D0:List Deferred} {w0:World} {listed:Array Bool} {q:Nat} {βb βK:Nat -> Nat} {βo:Nat -> Obj} (I:DInv P G N ops bs σ V F ν0 D0 r r' w0 listed ν a w q βb βK βo) {i:Nat} {o:Oper} {b:List Nat} (ho:ops[i]?=some o) (hb:bs[i]?=some b) (hi:¬ kC listed i) (XH:∀x∈b,kC listed x)
  {K:Act -> World -> Prop} {Q:Exit -> Act -> World -> Prop} (hK:∀ν' a' w' q' βb' βK' βo',DInv P G N ops bs σ V F ν0 D0 r r' w0 (listed.setIfInBounds i true) ν' a' w' q' βb' βK' βo' -> K a' w'):wpOpIn (Wr r') 0 P ops Q i K a w:=by
 have him:i<ops.size:=(Array.getElem?_eq_some_iff.1 ho).1;obtain⟨als,lk,hlk⟩:=h.st.ok i o ho;obtain⟨l,hl,hk⟩:=Kq als;have S8:∀t∈lk,(∃v',a.tmps[t]?=some v' /\ VRi ν (dz (σ i).T t) v') \/ (a.tmps[t]?=none /\ dz (σ i).T t=undef):=λ t ht=>h.opnd I.tsz I.dc I.tA I.tB hTO ho hb hi XH hlk ht;have iD:OK ν (σ i).T a l:=λ x hx=>by
  cases x with
  | tmp t =>
   show VRi ν (dz (σ i).T t) (a.tmps.getD t undef);rcases S8 t (GY hl hlk t (wY hx)) with ⟨v',e1,e2⟩|⟨e1,e2⟩
   ·simpa [Array.getD_eq_getD_getElem?,e1] using e2
   ·rw[e2,Array.getD_eq_getD_getElem?,e1];exact aaw
  | const v=>exact .plain_refl _ (uj hk _ hx)
  | global g =>
   obtain⟨K,e⟩:=I.g g (eH (uj hk _ hx));exact .ptr 0 e
  | func f=>exact .func (.func f) rfl (by simp) rfl (by simp)
 have WZ:∀bb,fD ops o (σ i).T=some bb -> Region.wanted o (yielded ops a.tmps)=bb:=λ bb hw=>GZ (λ j want hg d hd=>S8 d (Bd hlk hg hd)) hw;have hA:∀f,o.about P w a.eval=some f -> (Wr r').fn f:=λ _ _=>trivial;have hkd:=h.stp i o b ho hb;have U0:∀ {o2:Oper},ops[i]?=some o2 -> o2=o:=λ e=>by rw[ho] at e;cases e;rfl
 have hqi:vf P o.op=.nw -> q <= i:=λ hc=>by
  rcases I.qq.2 with e|⟨e,h1,⟨oe,h2,h3,h4⟩,h5⟩
  ·omega
  ·rcases Nat.lt_or_ge i e with h6|h6
   ·obtain⟨be,hbe⟩:=h.bef h2;have:=h.st.before h6 ho h2 hbe (yh h4) (by rw[Kr hc];simp);exact(hi (I.dc e be h5 hbe i this)).elim
   ·rcases Nat.lt_or_ge e i with h7|h7
    ·omega
    ·obtain rfl:e=i:=by omega
     exact(hi h5).elim
 unfold wpOpIn;rw[ho];simp only;generalize TU:σ (i+1)=s' at hkd;generalize hv:V i=v at hkd;cases hkd with
 | no T1 hw hp =>
  rw[if_neg (by rw[WZ _ hw];simp)];refine⟨hA,hK _ _ _ _ _ _ _ (I.still h ho hb hi XH (by rw[hv];exact aaw) ?_ ?_)⟩
  ·rintro⟨o2,h1,h2,-⟩;rw[U0 h1,hw] at h2;cases h2
  ·rintro⟨o2,h1,h2,-⟩;rw[U0 h1,hw] at h2;cases h2
 | pu v T1 hw hc hpv hp =>
  rw[if_pos (WZ _ hw)];have VM:∀c,o.op ≠ .defer c:=λ c e=>by rw[e] at hc;cases hc
  obtain⟨v',e1,e2⟩:=AP hpv (nX hl VM) iD;refine⟨hA,?_⟩;rw[Oper.semAt_eq _ _ _ VM,e2 w,Oper.uponIn_value];refine hK _ _ _ _ _ _ _ (I.still h ho hb hi XH (by rw[hv];exact e1) ?_ ?_)
  ·rintro⟨o2,h1,h2,h3⟩;rw[U0 h1,hc] at h3;cases h3
  ·rintro⟨o2,h1,h2,h3⟩;rw[U0 h1,hc] at h3;cases h3
 | lo v T1 hw hc hpv hp =>
  rw[if_pos (WZ _ hw)];have VM:∀c,o.op ≠ .defer c:=λ c e=>by rw[e] at hc;cases hc
  have hld:(⟨i,o,b,(σ i).T,v⟩:DLd)∈(σ ops.size).lds:=h.lds (i:=i+1) (by omega) (Nat.le_refl _) (by rw[TU];exact List.mem_cons_self);have hch:=aeF _ hld;obtain⟨be,g1,g2⟩:=h.rch h0s I.qq.1;obtain⟨rest,g3,g4⟩:=h.stgs I.qq.1 (Nat.le_refl _);rw[g3] at hch;have n_:kM P o (σ i).T (σ q).H=some v:=by
   rcases GX hch (g1 rest) with c1|⟨e,bb,hh,x,c1,c2⟩|c1
   ·exfalso;simp only at c1;rcases g2 with rfl|⟨e,f1,f2,f3,f4⟩
    ·cases c1
    ·exact hi (I.dc e be ((I.qe e f2).2 f1) f3 i c1)
   ·exfalso;simp only at c2;rcases g4 with g4|⟨e',b',hh',l',g5,g6,g7⟩
    ·rw[g4] at c1;cases c1
    ·rw[g5] at c1;cases c1;have:=(I.qe e g7).1 (XH e c2);omega
   ·unfold RX at c1;simp only at c1;split at c1
    ·rename_i v2 hv2;rw[hv2,<- Dg _ _ c1]
    ·cases c1
  obtain⟨v',e1,e2⟩:=AW I.h n_ (nX hl VM) iD;refine⟨hA,?_⟩;rw[Oper.semAt_eq _ _ _ VM,e2,Oper.uponIn_value];refine hK _ _ _ _ _ _ _ (I.still h ho hb hi XH (by rw[hv];exact e1) ?_ ?_)
  ·rintro⟨o2,h1,h2,h3⟩;rw[U0 h1,hc] at h3;cases h3
  ·rintro⟨o2,h1,h2,h3⟩;rw[U0 h1,hc] at h3;cases h3
 | nw bl m T1 hw hc hnv hp =>
  rw[if_pos (WZ _ hw)];have VM:∀c,o.op ≠ .defer c:=λ c e=>by rw[e] at hc;cases hc
  obtain⟨e1,e2,o',e3,e4⟩:=Ev hnv (nX hl VM) iD;refine⟨hA,?_⟩;rw[Oper.semAt_eq _ _ _ VM,e4 w,Oper.uponIn_value];have Ul:ν (σ i).n=none:=I.fr i him hi _ (Nat.le_refl _) (by rw[TU];exact Nat.lt_succ_self _);have hle:=lC (r:=w.heap.size) (K:=0) Ul;have arF:=hqi hc;have hAi:kA P ops σ i:=⟨o,ho,hw,hc⟩;have U1:¬ kE P ops σ i:=by rintro⟨o2,h1,h2,h3⟩;rw[U0 h1,hc] at h3;cases h3
  have O_:∀ {x y:Nat},x <= y -> y <= ops.size -> (σ x).n <= (σ y).n:=λ e1 e2=>h.nles IN e1 e2;have Xa:(σ (i+1)).n=(σ i).n+1:=by rw[TU]
  have adj:∀k,k<w.heap.size -> (w.heap.push o')[k]?=w.heap[k]?:=λ k hk=>by rw[Array.getElem?_push,if_neg (by omega)]
  refine hK (ν.upd (σ i).n w.heap.size 0) _ { w with heap:=w.heap.push o' } q (λ k=>if k=i then w.heap.size else βb k) (λ k=>if k=i then 0 else βK k) (λ k=>if k=i then o' else βo k) (I.step h ho hb hi XH hle (by rw[hv];exact Kd e2 cN) (λ j hj hnj IF=>?_) ?_ ⟨I.qq.1,?_⟩ (λ e he=>?_) ?_ ?_ ⟨rfl,rfl,rfl,by simp,λ k hk=>by omega⟩)
  ·intro x x1 x2;rw[fF]
   ·exact I.fr j hj hnj x x1 x2
   ·intro ex;subst ex;rcases Nat.lt_or_ge j i with e|e
    ·have:=O_ (x:=j+1) (y:=i) (by omega) (by omega);omega
    ·have h3:=O_ (x:=i+1) (y:=j) (by omega) (by omega);omega
  ·have h1:=O_ (x:=0) (y:=i) (by omega) (by omega);have h2:=O_ (x:=i+1) (y:=ops.size) (by omega) (by omega);exact⟨I.ex.le,λ x hx=>by rw[fF (by omega)];exact I.ex.out x hx⟩
  ·rcases I.qq.2 with e|⟨e,h1,h2,h3⟩
   ·exact .inl e
   ·exact .inr ⟨e,h1,h2,.inl h3⟩
  ·rw[<- I.qe e he];constructor
   ·rintro(h1|h1)
    ·exact h1
    ·subst h1;exact(U1 he).elim
   ·exact .inl
  ·exact(I.h.mono hle).world (λ k hk=>adj k hk)
  ·have ID:∀k,(kC listed k \/ k=i) -> k≠i -> kC listed k:=λ k k1 k2=>k1.resolve_right k2;have iS:∀k,kA P ops σ k -> kC listed k -> q <= k -> βb k<w.heap.size:=λ k k1 k2 k3=>cK (I.pen.be k k1 k2 k3).2.1;refine⟨λ k k1 k2 k3=>?_,λ k k' k1 k2 k3 k4 k5 k6 k7=>?_,λ k k1 k2 k3 x hx=>?_,λ k k1 k2 k3 hd bb rr KK f1 f2=>?_⟩
   ·by_cases e:k=i
    ·subst e;simp only[if_true];refine⟨cN,by simp,λ o2 bl2 m2 h1 h2=>?_⟩;rw[U0 h1,hnv] at h2;cases h2;exact(e3 0).mono hle
    ·simp only[if_neg e];obtain⟨f1,f2,f3⟩:=I.pen.be k k1 (ID k k2 e) k3;exact⟨hle _ _ f1,by rw[adj _ (cK f2)];exact f2,λ o2 bl2 m2 h1 h2=>(f3 o2 bl2 m2 h1 h2).mono hle⟩
   ·by_cases e:k=i
    ·by_cases e':k'=i
     ·omega
     ·have:=iS k' k4 (ID k' k5 e') k6;simp only[if_pos e,if_neg e'];omega
    ·have h1:=iS k k1 (ID k k2 e) k3
     by_cases e':k'=i
     ·simp only[if_neg e,if_pos e'];omega
     ·simp only[if_neg e,if_neg e'];exact I.pen.bi k k' k1 (ID k k2 e) k3 k4 (ID k' k5 e') k6 k7
   ·by_cases e:k=i
    ·simp only[if_pos e];have:=cK (I.h.frm x hx);omega
    ·simp only[if_neg e];exact I.pen.bf k k1 (ID k k2 e) k3 x hx
   ·by_cases e:k=i
    ·simp only[if_pos e];have:=(I.h.mono hle).lt f1 f2;omega
    ·simp only[if_neg e];obtain⟨r2,K2,o2,u1,-⟩:=I.h.blk _ _ f1;have f2':=hle _ _ u1;rw[f2] at f2';cases f2';exact I.pen.bh k k1 (ID k k2 e) k3 hd bb rr KK f1 u1
 | ef v H' n' T1 hw hc At hp =>
  rw[if_pos (WZ _ hw)];have O_:∀ {x y:Nat},x <= y -> y <= ops.size -> (σ x).n <= (σ y).n:=λ e1 e2=>h.nles IN e1 e2;have hEi:kE P ops σ i:=⟨o,ho,hw,hc⟩;have ahj:q <= i:=by
   rcases Nat.lt_or_ge i q with e|e
   ·exact(hi ((I.qe i hEi).2 e)).elim
   ·exact e
  have WI:∀k o2,k<i -> ops[k]?=some o2 -> (Go.Proofs.YtdppjkjbghbnjaaGreatDoor.isE P o2 || Go.Proofs.YtdppjkjbghbnjaaGreatDoor.isN P o2)=true -> kC listed k:=λ k o2 hk h1 h2=>XH k (h.st.before hk h1 ho hb (yh hc) h2);have ZT:∀k,q <= k -> k<i -> ¬ kE P ops σ k:=λ k k1 k2 hk=>by
   obtain⟨o2,h1,h2,h3⟩:=hk;have hS:=WI k o2 k2 h1 (by rw[yh h3];rfl);have:=(I.qe k ⟨o2,h1,h2,h3⟩).1 hS;omega
  have aie:∀k,q <= k -> k<i -> kA P ops σ k -> kC listed k:=λ k k1 k2 hk=>by
   obtain⟨o2,h1,h2,h3⟩:=hk;exact WI k o2 k2 h1 (by rw[Kr h3];simp)
  have hqp:(σ q).pend=[]:=by
   rcases I.qq.2 with e|⟨e,h1,h2,h3⟩
   ·rw[e];exact h0p
   ·rw[h1];obtain⟨_,_,_,_,_,_,_,g8,_⟩:=h.isE h2;exact g8
  obtain⟨p1,p2⟩:=h.placed I.pen I.h hqp ahj (by omega) ZT aie;obtain⟨s1,s2⟩:=h.Hsame ahj (by omega) ZT;rw[s1] at At;have Xa:(σ (i+1)).n=n':=by rw[TU]
  have hH1:(σ (i+1)).H=H':=by rw[TU]
  classical
  have hex:∃FA:HL,(∀k,kA P ops σ k -> kC listed k -> i<k -> (βb k,Blk.obj (βo k))∈FA) /\ (∀x∈FA,∃k,kA P ops σ k /\ kC listed k /\ i<k /\ x=(βb k,Blk.obj (βo k))):=by
   refine⟨((List.range ops.size).filter (λ k=>decide (kA P ops σ k /\ kC listed k /\ i<k))).map λ k=>(βb k,Blk.obj (βo k)),λ k k1 k2 k3=>?_,λ x hx=>?_⟩
   ·refine List.mem_map.2 ⟨k,List.mem_filter.2 ⟨List.mem_range.2 ?_,decide_eq_true ⟨k1,k2,k3⟩⟩,rfl⟩;obtain⟨o2,h1,-⟩:=k1;exact(Array.getElem?_eq_some_iff.1 h1).1
   ·obtain⟨k,h1,h2⟩:=List.mem_map.1 hx;obtain⟨-,h3⟩:=List.mem_filter.1 h1;have h4:kA P ops σ k /\ kC listed k /\ i<k:=of_decide_eq_true h3;exact⟨k,h4.1,h4.2.1,h4.2.2,h2.symm⟩
  obtain⟨FA,fa1,fa2⟩:=hex;have hH2:HR ν (js (σ q).H (σ i).pend) (FA++F) w:=by
   refine⟨p1.blk,p1.inj,λ x hx=>?_,λ hd bb rr KK f1 f2 x hx=>?_⟩
   ·rcases List.mem_append.1 hx with hx|hx
    ·obtain⟨k,k1,k2,k3,rfl⟩:=fa2 x hx;exact(I.pen.be k k1 k2 (by omega)).2.1
    ·exact p1.frm x hx
   ·rcases List.mem_append.1 hx with hx|hx
    ·obtain⟨k,k1,k2,k3,rfl⟩:=fa2 x hx;exact(p2 hd bb rr KK f1 f2 k k1 k2 (by omega)).symm
    ·exact p1.apt hd bb rr KK f1 f2 x hx
  obtain⟨-,hgo⟩:=yg (a:=a) (r':=r') IN I.g I.rr (λ l' X7 _=>by rw[hl] at X7;cases X7;exact iD) hH2 At;have hfi:Fr ν (σ i).n n':=by rw[<- Xa];exact I.fr i him hi
  refine hgo hfi _ _ (λ ν' v' w' k1 k2 k3 k4=>?_);have hle:=k2.sub hfi;have ahW:∀j,j<ops.size -> j≠i -> ∀x,(σ j).n <= x -> x<(σ (j+1)).n -> (x<(σ i).n \/ n' <= x):=λ j hj IF x x1 x2=>by
   rcases Nat.lt_or_ge j i with e|e
   ·have:=O_ (x:=j+1) (y:=i) (by omega) (by omega);omega
   ·have:=O_ (x:=i+1) (y:=j) (by omega) (by omega);omega
  refine hK ν' _ w' (i+1) βb βK βo (I.step h ho hb hi XH hle (by rw[hv];exact k1) (λ j hj hnj IF x x1 x2=>?_) ?_ ⟨by omega,.inr ⟨i,rfl,hEi,.inr rfl⟩⟩ (λ e he=>?_) ?_ ?_ k4)
  ·rw[k2.out x (ahW j hj IF x x1 x2)];exact I.fr j hj hnj x x1 x2
  ·have h1:=O_ (x:=0) (y:=i) (by omega) (by omega);have h2:=O_ (x:=i+1) (y:=ops.size) (by omega) (by omega);exact⟨I.ex.le,λ x hx=>by rw[k2.out x (by omega)];exact I.ex.out x hx⟩
  ·constructor
   ·rintro(h1|h1)
    ·have:=(I.qe e he).1 h1;omega
    ·omega
   ·intro h1
    by_cases e2:e=i
    ·exact .inr e2
    ·obtain⟨o2,u1,u2,u3⟩:=he;exact .inl (WI e o2 (by omega) u1 (by rw[yh u3];rfl))
  ·rw[hH1];exact k3.less (λ x hx=>List.mem_append_right _ hx)
  ·have ID:∀k,(kC listed k \/ k=i) -> i+1 <= k -> kC listed k:=λ k u1 u2=>u1.resolve_right (by omega);refine⟨λ k u1 u2 u3=>?_,λ k k' u1 u2 u3 u4 u5 u6 u7=>I.pen.bi k k' u1 (ID k u2 u3) (by omega) u4 (ID k' u5 u6) (by omega) u7,λ k u1 u2 u3=>I.pen.bf k u1 (ID k u2 u3) (by omega),λ k u1 u2 u3 hd bb rr KK f1 f2=>?_⟩
   ·obtain⟨f1,f2,f3⟩:=I.pen.be k u1 (ID k u2 u3) (by omega);exact⟨hle _ _ f1,k3.frm _ (List.mem_append_left _ (fa1 k u1 (ID k u2 u3) (by omega))),λ o2 bl2 m2 h1 h2=>(f3 o2 bl2 m2 h1 h2).mono hle⟩
   ·rw[hH1] at f1;exact(k3.apt hd bb rr KK f1 f2 _ (List.mem_append_left _ (fa1 k u1 (ID k u2 u3) (by omega)))).symm
theorem Tra.all(h:Tra P G ih r N ops bs σ V){listed:Array Bool}(S4:listed.size=ops.size)(hr:Region.ready .any ops listed=[]):∀i,i<ops.size -> kC listed i:=by
 intro i
 induction i using Nat.strongRecOn with
 | _ i ihi =>
  intro hi
  by_cases hS:kC listed i
  ·exact hS
  ·exfalso;obtain⟨o,b,ho,hb,-⟩:=h.at hi;have hm:i∈Region.ready .any ops listed:=by
    refine mem_ready.2 ⟨?_,o,ho,λ e he hbd=>?_⟩
    ·have Ve:i<listed.size:=by omega
     unfold kC at hS;rw[Array.getD_eq_getD_getElem?,Array.getElem?_eq_getElem Ve] at hS ⊢;simpa using hS
    ·have iS:=h.st.dir i o b ho hb e he hbd;exact ihi _ iS (by omega)
   rw[hr] at hm;cases hm
theorem DInv.fin(h:Tra P G ih r N ops bs σ V)(h0p:(σ 0).pend=[])(hTO:∀t,N <= t -> dz (σ 0).T t=undef){ν0:Nu}{D0:List Deferred}{w0:World}{listed:Array Bool}{q:Nat}{βb βK:Nat -> Nat}{βo:Nat -> Obj}(I:DInv P G N ops bs σ V F ν0 D0 r r' w0 listed ν a w q βb βK βo)(Tc:∀i,i<ops.size -> kC listed i) :
  SR ν G N ⟨(σ ops.size).T,D0,js (σ ops.size).H (σ ops.size).pend,(σ ops.size).n⟩ F a w:=by
 have iS:∀ {k:Nat} {o:Oper},ops[k]?=some o -> k<ops.size:=λ h=>(Array.getElem?_eq_some_iff.1 h).1;have ZT:∀k,q <= k -> k<ops.size -> ¬ kE P ops σ k:=λ k k1 k2 hk=>by
  have:=(I.qe k hk).1 (Tc k k2);omega
 have hqp:(σ q).pend=[]:=by
  rcases I.qq.2 with e|⟨e,h1,h2,h3⟩
  ·rw[e];exact h0p
  ·rw[h1];obtain⟨_,_,_,_,_,_,_,g8,_⟩:=h.isE h2;exact g8
 obtain⟨p1,-⟩:=h.placed I.pen I.h hqp I.qq.1 (Nat.le_refl _) ZT (λ k k1 k2 _=>Tc k k2);obtain⟨s1,-⟩:=h.Hsame I.qq.1 (Nat.le_refl _) ZT;refine⟨I.g,⟨I.tsz,λ t ht=>?_,λ t ht=>?_⟩,I.d,by simp only;rw[s1];exact p1⟩
 ·by_cases hj:∃ (j:Nat) (o:Oper),ops[j]?=some o /\ o.dst=some t
  ·obtain⟨j,o,ho,hd⟩:=hj;rw[h.Tyes ho hd (iS ho) (Nat.le_refl _)];exact I.tA j o t (Tc j (iS ho)) ho hd
  ·rw[h.Tno (Nat.le_refl _) (λ k o _ h1 h2=>hj ⟨k,o,h1,h2⟩)];exact I.tB t ht (λ j o _ h1 h2=>hj ⟨j,o,h1,h2⟩)
 ·rw[h.Tno (Nat.le_refl _) (λ k o _ h1 h2=>by
   exact absurd ((ne (h.put h1)).2 t h2) (Nat.not_lt.2 ht))]
  exact hTO t ht
theorem Tra.any(h:Tra P G ih r N ops bs σ V)(IN:md P G ih)(aeF:∀d∈(σ ops.size).lds,vB P d [] (σ 0).H (σ ops.size).stg=true)(h0s:(σ 0).stg=[])(h0p:(σ 0).pend=[])(hTO:∀t,N <= t -> dz (σ 0).T t=undef)
  {ν0:Nu} {D0:List Deferred} {w0:World} {Q:Exit -> Act -> World -> Prop} (hQ:∀ν a w,Ext ν0 ν (σ 0).n (σ ops.size).n -> SR ν G N ⟨(σ ops.size).T,D0,js (σ ops.size).H (σ ops.size).pend,(σ ops.size).n⟩ F a w -> Below 0 w0 w -> Q .normal a w) :
  ∀ (fuel:Nat) (listed:Array Bool) (ν:Nu) (a:Act) (w:World) (q:Nat) (βb βK:Nat -> Nat) (βo:Nat -> Obj),DInv P G N ops bs σ V F ν0 D0 r r' w0 listed ν a w q βb βK βo -> listed.toList.count false <= fuel -> wpAnyIn (Wr r') 0 P .any ops Q fuel listed a w:=by
 have done:∀ (listed:Array Bool) (ν:Nu) (a:Act) (w:World) (q:Nat) (βb βK:Nat -> Nat) (βo:Nat -> Obj),DInv P G N ops bs σ V F ν0 D0 r r' w0 listed ν a w q βb βK βo -> Region.ready .any ops listed=[] -> Q .normal a w:=λ listed ν a w q βb βK βo I hr =>
  hQ ν a w I.ex (I.fin h h0p hTO (h.all I.sz hr)) I.bw
 have unl:∀ (listed:Array Bool) (i:Nat),listed.size=ops.size -> i∈Region.ready .any ops listed -> ∃Ve:i<listed.toList.length,listed.toList[i]=false:=λ listed i S4 hi=>by
  obtain⟨h1,o,h2,-⟩:=mem_ready.1 hi;have him:=(Array.getElem?_eq_some_iff.1 h2).1;have Ve:i<listed.size:=by omega
  refine⟨by simpa using Ve,?_⟩;rw[Array.getD_eq_getD_getElem?,Array.getElem?_eq_getElem Ve] at h1;simpa using h1
 intro fuel
 induction fuel with
 | zero =>
  intro listed ν a w q βb βK βo I hc;have hr:Region.ready .any ops listed=[]:=by
   cases hrr:Region.ready .any ops listed with
   | nil=>rfl
   | cons i l =>
    exfalso;obtain⟨Ve,e⟩:=unl listed i I.sz (by rw[hrr];exact List.mem_cons_self);have:0<listed.toList.count false:=List.count_pos_iff.2 (by rw[<- e];exact List.getElem_mem Ve);omega
  exact⟨hr,done _ _ _ _ _ _ _ _ I hr⟩
 | succ fuel ihf =>
  intro listed ν a w q βb βK βo I hc;refine⟨λ hr=>done _ _ _ _ _ _ _ _ I hr,λ i hi=>?_⟩;obtain⟨Ve,e⟩:=unl listed i I.sz hi;obtain⟨h1,o,ho,Tc⟩:=mem_ready.1 hi;obtain⟨b,hb⟩:=h.bef ho;have hnS:¬ kC listed i:=by
   unfold kC;have alT:i<listed.size:=by simpa using Ve
   rw[Array.getD_eq_getD_getElem?,Array.getElem?_eq_getElem alT];simpa using e
  have XH:∀x∈b,kC listed x:=λ x hx=>by
   obtain⟨ed,e1,e2,e3⟩:=h.st.dc i o b ho hb x hx;have hon:=Tc ed e1 e2;rcases e3 with rfl|⟨b',e4,e5⟩
   ·exact hon
   ·exact I.dc _ b' hon e4 x e5
  refine h.op IN aeF h0s h0p hTO I ho hb hnS XH (λ ν' a' w' q' βb' βK' βo' I'=>ihf _ _ _ _ _ _ _ _ I' ?_);have Zb:(listed.setIfInBounds i true).toList.count false=listed.toList.count false-1:=by
   rw[Array.toList_setIfInBounds,List.count_set Ve];simp[e]
  omega
end tra
theorem MS(IN:md P G ih)(hm:P.follows .mixedOrders=true){id:Nat}{ops:Array Oper}{s s':St}(h:Pf P G ih r N ops s=some s'):s.n <= s'.n /\ ∀ν F a w r' (Q:Exit -> Act -> World -> Prop),RR ν r r' -> SR ν G N s F a w -> Fr ν s.n s'.n ->
  (∀ν' a' w',Ext ν ν' s.n s'.n -> SR ν' G N s' F a' w' -> Below 0 w w' -> Q .normal a' w') -> (Code.region id ops true).wpIn (Wr r') 0 P Q a w:=by
 unfold Pf at h;split at h
 ·cases h
 rename_i bs hbs;split at h
 ·cases h
 rename_i d hd;split at h
 case h_2=>cases h
 rename_i amj;cases h;have At:=Bb hbs;obtain⟨σ,V,e0,e1,e2⟩:=uv hd (by rw[At.len];simp);have aeh:ops.toList.length=ops.size:=by simp
 rw[Nat.zero_add,aeh] at e1;have htr:Tra P G ih r N ops bs σ V:=⟨At,λ i o b ho hb=>by
  obtain⟨h1,h2⟩:=Array.getElem?_eq_some_iff.1 ho;obtain⟨b',g1,g2⟩:=e2 i (by rw[aeh];exact h1);rw[g1] at hb;cases hb;rw[Nat.zero_add] at g2;have:ops.toList[i]'(by rw[aeh];exact h1)=o:=by simpa using h2
  rw[this] at g2;exact g2⟩
 have O_:=htr.nles IN (Nat.zero_le ops.size) (Nat.le_refl _);rw[e0,e1] at O_;refine⟨O_,λ ν F a w r' Q hr hs hf hk=>wpIn_region_any hm ?_⟩;have alz:s.n <= d.n:=O_;have hf':Fr ν s.n d.n:=hf;have Ul:(σ 0).n=s.n:=by rw[e0]
 have hnm:(σ ops.size).n=d.n:=by rw[e1]
 refine htr.any (F:=F) (ν0:=ν) (D0:=s.D) (w0:=w) (r':=r') IN (λ x hx=>?_) (by rw[e0]) (by rw[e0]) (λ t ht=>by rw[e0];exact hs.t.out t ht) (λ ν' a' w' k1 k2 k3=>?_) ops.size _ ν a _ 0 (λ _=>0) (λ _=>0) (λ _=>.deferred none) ?_ ?_
 ·rw[e1] at hx ⊢;rw[e0];exact uw amj x hx
 ·rw[e1] at k2;rw[Ul,hnm] at k1;exact hk ν' a' w' k1 k2 k3
 ·have VL:∀j,¬ kC (Array.replicate ops.size false) j:=λ j hj=>by
   unfold kC at hj;rw[Array.getD_eq_getD_getElem?,Array.getElem?_replicate] at hj;split at hj <;> simp at hj
  refine⟨by simp,λ i b hi _ _ _=>(VL i hi).elim,hs.g,hr,hs.t.size,λ j o t hj _ _=>(VL j hj).elim,λ t ht _=>by rw[e0];exact hs.t.get t ht,λ j hj _=>λ x x1 x2=>?_,⟨?_,λ _ _=>rfl⟩,hs.d,⟨Nat.zero_le _,.inl rfl⟩,λ e he=>⟨λ h=>(VL e h).elim,λ h=>by omega⟩,?_,?_,?_⟩
  ·have h1:=htr.nles IN (Nat.zero_le j) (by omega);have h2:=htr.nles IN (i:=j+1) (j:=ops.size) (by omega) (Nat.le_refl _);exact hf' x (by omega) (by omega)
  ·omega
  ·rw[e0];exact hs.h.world (λ k hk=>rfl)
  ·exact⟨λ k _ h2 _=>(VL k h2).elim,λ k k' _ h2 _ _ _ _ _=>(VL k h2).elim,λ k _ h2 _=>(VL k h2).elim,λ k _ h2 _=>(VL k h2).elim⟩
  ·exact⟨rfl,rfl,rfl,Nat.le_refl _,λ _ _=>rfl⟩
 ·simp
end dr
section code
variable {ν ν':Nu} {P:Program} {G N:Nat} {T T':Tr Value} {a:Act} {H H':AH} {F:HL} {w w':World} {r r':Option Nat} {ih:Task -> Option Rs}
theorem Ext.sub'{n m k:Nat}(h1:Ext ν ν' n m)(hf:Fr ν n k)(hm:m <= k):ν.Le ν':=h1.sub λ i a b=>hf i a (by omega)
theorem Be(IN:md P G ih){c:Code}(hc:∀ (s:St) e s',kx P G ih r N c s=some (e,s') -> k8 P G (.code r N c s) (.cd e s')){s s':St}{e:Ex}(h:kx P G ih r N (.loop c) s=some (e,s')):k8 P G (.loop r N c s) (.cd e s'):=by
 rw[kx] at h;split at h
 ·rename_i s1 h1;obtain⟨q1,q2⟩:=hc _ _ _ h1;split at h
  ·rename_i e2 s2 h2;cases h;obtain⟨p1,p2⟩:=IN _ _ h2;refine⟨by omega,λ ν F a w r' Q hr hs hf hk=>AZ ?_⟩;refine q2 ν F a w r' _ hr hs (λ i a b=>hf i a (by omega)) (λ ν' a' w' k1 k2 k3=>?_);have To:=k1.sub' hf p1;exact p2 ν' F a' w' r' Q (hr.mono To) k2 (k1.fr hf p1) (λ ν2 a2 w2 g1 g2 g3=>hk ν2 a2 w2 (k1.trans g1) g2 (k3.trans g3))
  ·cases h
 ·rename_i x IF;obtain⟨q1,q2⟩:=hc _ _ _ h;refine⟨q1,λ ν F a w r' Q hr hs hf hk=>AZ ?_⟩;refine q2 ν F a w r' _ hr hs hf (λ ν' a' w' k1 k2 k3=>?_);have:=hk ν' a' w' k1 k2 k3;cases e with
  | normal=>exact(IF _ h).elim
  | exit id=>exact this
  | ret=>exact this
theorem Ks{c:Code}{e:Ex}{Q:Exit -> Act -> World -> Prop}{a:Act}(h:Et c=some e)(hq:Q e.out a w):c.wpIn (Wr r') 0 P Q a w:=by
 unfold Et at h;split at h
 ·cases h;exact wpIn_ret hq
 ·cases h;exact wpIn_exit hq
 ·cases h
theorem Dh{fn:FuncId}{tm:Array Value}{ps:Array Tmp}{as bo:Code}{w:World}:(Instr.enterLoop fn tm ps as bo none).run P w =
  .ok (w.heap.size+1,[{ target:=.collected w.heap.size,args:=#[] }]) { w with heap:=(w.heap.push (.deferred (some []))).push (.loop { state:=.ready,pending:=none,fn,tmps:=tm,params:=ps,assign:=as,body:=bo,defers:=w.heap.size }) }:=by
 unfold Instr.enterLoop;simp only[Sem.run_bind,fY,cP,Result.andThen_ok,Array.size_push]
theorem Di{fn:FuncId}{tm:Array Value}{ps:Array Tmp}{as bo:Code}{w:World}{l:Nat}{lp:Loop}(h:w.heap[l]?=some (.loop lp)):(Instr.enterLoop fn tm ps as bo (some l)).run P w =
  .ok (w.heap.size,[]) { w with heap:=w.heap.push (.loop { state:=.ready,pending:=none,fn,tmps:=tm,params:=ps,assign:=as,body:=bo,defers:=lp.defers }) }:=by
 unfold Instr.enterLoop;simp only[Sem.run_bind,fY,cP,Result.andThen_ok,jh h]
theorem ng{l:Nat}{lp:Loop}{o:Obj}(h:w.heap[l]?=some (.loop lp)):(setObj l o).run P w=.ok () { w with heap:=w.heap.setIfInBounds l o }:=by
 unfold setObj;rw[Sem.run.eq_def];simp only[h];rfl
theorem HR.setObj(hH:HR ν H F w){h b K:Nat}{b0 b1:AB}{o':Obj}(hb:cw H h=some b0)(hw0:Ka b0=true)(hw1:Ka b1=true)(hν:ν h=some (b,K))(ho:OR ν K b1 o'):HR ν (dw H h (some b1)) F { w with heap:=w.heap.setIfInBounds b o' }:=by
 have iS:=hH.lt hb hν;refine hH.upd hb hw0 hw1 hν (o':=o') ?_ ho (λ k hk=>?_)
 ·show (w.heap.setIfInBounds b o')[b]?=_;rw[Array.getElem?_setIfInBounds_self_of_lt iS]
 ·show (w.heap.setIfInBounds b o')[k]?=_;rw[Array.getElem?_setIfInBounds_ne (Ne.symm hk)]
theorem nZ{b:Nat}{o:Obj}:Below 0 w { w with heap:=w.heap.setIfInBounds b o }:=⟨rfl,rfl,rfl,by simp,λ k hk=>by omega⟩
theorem Bf{l:Nat}{lp:Loop}(h:w.heap[l]?=some (.loop lp))(hb:lp.state ≠ .busy):(Instr.endLoop l).run P w=.ok lp.pending { w with heap:=w.heap.setIfInBounds l (.loop { lp with state:=.exhausted }) }:=by
 unfold Instr.endLoop;rw[Sem.run_bind,jh h];simp only[Result.andThen_ok];rw[if_neg (by simpa using hb)];rw[Sem.run_bind,ng h];rfl
theorem G1(IN:md P G ih){g:Operand}{ps:Array Tmp}{as bo:Code}{s s':St}{e:Ex}(h:kx P G ih r N (.rangeFunc g ps as bo) s=some (e,s')):k8 P G (.code r N (.rangeFunc g ps as bo) s) (.cd e s'):=by
 rw[kx.eq_def] at h;simp only at h;split at h
 case h_2=>cases h
 rename_i f first captured hg hk
 split at h
 case h_2=>cases h
 rename_i hB;split at h
 case h_2=>cases h
 rename_i d D H1 n1 Ui;split at h
 case h_2=>cases h
 rename_i v H2 n2 Vy;split at h
 case h_2=>cases h
 rename_i st pend T' N' Zm Y1 bo' d' hlp;obtain⟨hle,Yw⟩:=IN _ _ Vy;have Xa:s.n <= n1:=by
  cases r with
  | none=>simp only[Option.some.injEq,Prod.mk.injEq] at Ui;omega
  | some l0 =>
   simp only at Ui;split at Ui
   ·simp only[Option.some.injEq,Prod.mk.injEq] at Ui;omega
   ·cases Ui
 have At:st ≠ .busy:=by
  rintro rfl;simp at h
 have TU:s'=⟨s.T,D,dw H2 n1 (some (.loop .exhausted pend T' N' Zm Y1 bo' d')),n2⟩ /\ ((pend=none /\ e=.normal) \/ ∃c,pend=some c /\ Et c=some e):=by
  cases st with
  | busy=>exact(At rfl).elim
  | _ =>
   cases pend with
   | none=>simp at h;exact⟨h.2.symm,.inl ⟨rfl,h.1.symm⟩⟩
   | some c =>
    simp only at h;split at h
    ·rename_i e1 he;cases h;exact⟨rfl,.inr ⟨c,rfl,he⟩⟩
    ·cases h
 obtain⟨rfl,ahp⟩:=TU;refine⟨by simp only;omega,λ ν F a w r' Q hr hs hf hkk=>?_⟩;simp only at hf hkk;refine wpIn_rangeFunc λ fn _=>?_;have alJ:∃ (l:Nat) (mark:List Deferred) (w1:World) (ν1:Nu),(Instr.enterLoop fn a.tmps ps as bo (Wr r').round).run P w=.ok (l,mark) w1 /\ ν1 n1=some (l,0) /\ Ext ν ν1 s.n (n1+1) /\ HR ν1 (dw H1 n1 (some (.loop .ready none s.T N ps as bo d))) F w1 /\ Below 0 w w1 /\ DsR ν1 D (mark++a.defers) /\ ν.Le ν1:=by
  cases hr with
  | none =>
   simp only[Option.some.injEq,Prod.mk.injEq] at Ui;obtain⟨e1,e2,e3,e4⟩:=Ui;subst e1;subst e2;subst e3;subst e4;have Ul:ν s.n=none:=hf _ (Nat.le_refl _) (by omega);have hx1:Ext ν (ν.upd s.n w.heap.size 0) s.n (s.n+1):=.upd;have YS:=lC (r:=w.heap.size) (K:=0) Ul;have h1:HR (ν.upd s.n w.heap.size 0) (dw s.H s.n (some (.dfr false))) F { w with heap:=w.heap.push (.deferred (some [])) }:=hs.h.new (K:=0) Ul (b:=.dfr false) (o:=.deferred (some [])) rfl rfl rfl;have hn2:(ν.upd s.n w.heap.size 0) (s.n+1)=none:=by rw[fF (by omega)];exact hf _ (by omega) (by omega)
   have hx2:Ext (ν.upd s.n w.heap.size 0) ((ν.upd s.n w.heap.size 0).upd (s.n+1) (w.heap.size+1) 0) (s.n+1) (s.n+1+1):=.upd;have ZY:=lC (r:=w.heap.size+1) (K:=0) hn2;have h2:=h1.new (K:=0) (w':={ w with heap:=(w.heap.push (.deferred (some []))).push (.loop { state:=.ready,pending:=none,fn,tmps:=a.tmps,params:=ps,assign:=as,body:=bo,defers:=w.heap.size }) }) hn2 (b:=.loop .ready none s.T N ps as bo s.n) (o:=.loop { state:=.ready,pending:=none,fn,tmps:=a.tmps,params:=ps,assign:=as,body:=bo,defers:=w.heap.size }) ⟨rfl,rfl,hs.t.mono YS,rfl,rfl,rfl,0,cN⟩ rfl rfl;have S4:({ w with heap:=w.heap.push (.deferred (some [])) }:World).heap.size=w.heap.size+1:=by simp
   rw[S4] at h2;refine⟨w.heap.size+1,_,_,_,Dh,cN,hx1.trans hx2,h2,⟨rfl,rfl,rfl,by simp;omega,λ k hk=>by omega⟩,.cons ⟨.coll (b:=w.heap.size) (K:=0) ?_,.nil⟩ ((hs.d.mono YS).mono ZY),YS.trans ZY⟩;exact ZY _ _ cN
  | @some l0 b0 K0 hν0 =>
   simp only at Ui;split at Ui
   case h_2=>cases Ui
   rename_i _ _ _ _ _ _ _ dd Uu;simp only[Option.some.injEq,Prod.mk.injEq] at Ui;obtain⟨e1,e2,e3,e4⟩:=Ui;subst e1;subst e2;subst e3;subst e4;obtain⟨lp,g1,g2,g3,g4,g5,g6,g7,K',g8⟩:=hs.h.loop Uu hν0;have Ul:ν s.n=none:=hf _ (Nat.le_refl _) (by omega);have YS:=lC (r:=w.heap.size) (K:=0) Ul;have h1:=hs.h.new (K:=0) (w':={ w with heap:=w.heap.push (.loop { state:=.ready,pending:=none,fn,tmps:=a.tmps,params:=ps,assign:=as,body:=bo,defers:=lp.defers }) }) Ul (b:=.loop .ready none s.T N ps as bo dd) (o:=.loop { state:=.ready,pending:=none,fn,tmps:=a.tmps,params:=ps,assign:=as,body:=bo,defers:=lp.defers }) ⟨rfl,rfl,hs.t,rfl,rfl,rfl,K',g8⟩ rfl rfl;refine⟨w.heap.size,_,_,_,Di g1,cN,.upd,h1,⟨rfl,rfl,rfl,by simp,λ k hk=>by omega⟩,hs.d.mono YS,YS⟩
 obtain⟨l,mark,w1,ν1,g1,g2,g3,g4,g5,g6,g7⟩:=alJ;have hgv:VRi ν (ael s.T g) (a.eval g):=(FE.mk hs.t hs.g:FE ν G N s.T a).ael hk;rw[hg] at hgv;obtain⟨fn',f',c',e',r1,r2,r3⟩:=ut hgv;cases r1;refine⟨l,mark,w1,{ target:=.fn (.func f) c',args:=f'++#[.func (.yield l) #[] #[]] },w1,f,⟨f'.toList++(.func (.yield l) #[] #[]::c'.toList)⟩,w1,g1,?_,λ _ _=>trivial,?_,λ h=>(by cases h),?_⟩
 ·have:=pq (P:=P) (c:=rangeCall g l) (ty:=0) (ρ:=a.eval) rfl e' w1;rw[this];simp[Act.eval]
 ·show (callFunc f (f'++#[.func (.yield l) #[] #[]]++c')).run P w1=_;rw[jK hB];congr 2;apply Array.ext';simp
 ·have WE:Fr ν1 (n1+1) n2:=g3.fr hf (by omega);refine lc ((Yw ν1 F w1 _ (hs.g.mono g7) WE g4 ((r2.mono g7).append (.cons (.func_of (.yield g2) .nil .nil) (r3.mono g7)))).mono ?_);rintro en w3 ⟨ν3,v',rfl,k1,k2,k3,k4⟩;have YT:ν3 n1=some (l,0):=k2.sub WE _ _ g2;obtain⟨lp,q1,q2,q3,q4,q5,q6,q7,K',q8⟩:=k3.loop hlp YT;refine⟨lp.pending,_,Bf q1 (by rw[q2];exact At),?_⟩;have hH3:HR ν3 (dw H2 n1 (some (.loop .exhausted pend T' N' Zm Y1 bo' d'))) F { w3 with heap:=w3.heap.setIfInBounds l (.loop { lp with state:=.exhausted }) } :=
   k3.setObj hlp rfl rfl YT ⟨rfl,q3,q4,q5,q6,q7,K',q8⟩
  have amW:Ext ν ν3 s.n n2:=g3.trans k2;have V1:=hkk ν3 { a with defers:=mark++a.defers } { w3 with heap:=w3.heap.setIfInBounds l (.loop { lp with state:=.exhausted }) } amW ⟨(hs.g.mono g7).mono (k2.sub WE),(hs.t.mono g7).mono (k2.sub WE),g6.mono (k2.sub WE),hH3⟩ ((g5.trans k4).trans nZ);rcases ahp with ⟨hp,he⟩|⟨c,hp,he⟩
  ·rw[q3.trans hp] at V1 ⊢;subst he;exact V1
  ·rw[q3.trans hp] at V1 ⊢;exact Ks he V1
theorem rj(IN:md P G ih)(hm:P.follows .mixedOrders=true):∀ (c:Code) (s:St) (e:Ex) (s':St),kx P G ih r N c s=some (e,s') -> k8 P G (.code r N c s) (.cd e s'):=by
 have calm:∀ (c:Code) (s:St) (e:Ex),(∀r' (Q:Exit -> Act -> World -> Prop) a w,Q e.out a w -> c.wpIn (Wr r') 0 P Q a w) -> k8 P G (.code r N c s) (.cd e s):=λ c s e h =>
  ⟨Nat.le_refl _,λ ν F a w r' Q hr hs hf hk=>h r' Q a w (hk ν a w (.refl _ _) hs (Below.refl _ _))⟩
 intro c
 induction c with
 | skip=>intro s e s' h;rw[kx] at h;cases h;exact calm _ _ _ λ r' Q a w hq=>wpIn_skip hq
 | label l=>intro s e s' h;rw[kx] at h;cases h;exact calm _ _ _ λ r' Q a w hq=>wpIn_label hq
 | exit id=>intro s e s' h;rw[kx] at h;cases h;exact calm _ _ _ λ r' Q a w hq=>wpIn_exit hq
 | ret=>intro s e s' h;rw[kx] at h;cases h;exact calm _ _ _ λ r' Q a w hq=>wpIn_ret hq
 | goto l=>intro s e s' h;rw[kx] at h;cases h
 | refuse y=>intro s e s' h;rw[kx] at h;cases h
 | region id ops draw =>
  intro s e s' h;rw[kx.eq_def] at h;simp only at h;split at h
  ·split at h
   ·rename_i s1 h1;cases h;obtain⟨q1,q2⟩:=qp IN _ _ _ h1;exact⟨q1,λ ν F a w r' Q hr hs hf hk=>wpIn_region_list (q2 ν F a w r' Q hr hs hf hk)⟩
   ·cases h
  ·split at h
   ·rename_i s1 h1;cases h;exact MS IN hm h1
   ·cases h
 | seq x y ihx ihy =>
  intro s e s' h;rw[kx] at h;split at h
  ·rename_i s1 h1;obtain⟨q1,q2⟩:=ihx _ _ _ h1;obtain⟨p1,p2⟩:=ihy _ _ _ h;refine⟨by omega,λ ν F a w r' Q hr hs hf hk=>wpIn_seq ?_⟩;refine q2 ν F a w r' _ hr hs (λ i a b=>hf i a (by omega)) (λ ν' a' w' k1 k2 k3=>?_);exact p2 ν' F a' w' r' Q (hr.mono (k1.sub' hf p1)) k2 (k1.fr hf p1) (λ ν2 a2 w2 g1 g2 g3=>hk ν2 a2 w2 (k1.trans g1) g2 (k3.trans g3))
  ·rename_i IF;obtain⟨q1,q2⟩:=ihx _ _ _ h;refine⟨q1,λ ν F a w r' Q hr hs hf hk=>wpIn_seq ?_⟩;refine q2 ν F a w r' _ hr hs hf (λ ν' a' w' k1 k2 k3=>?_);have:=hk ν' a' w' k1 k2 k3;cases e with
   | normal=>exact(IF _ h).elim
   | exit id=>exact this
   | ret=>exact this
 | cond c x y ihx ihy =>
  intro s e s' h;rw[kx] at h;have S8:∀ν F a w b,SR ν G N s F a w -> ael s.T c=.bool b -> a.eval c=.bool b:=λ ν F a w b hs he=>by
   cases c with
   | tmp t =>
    have:=(FE.mk hs.t hs.g:FE ν G N s.T a).ael (x:=.tmp t) rfl;rw[he] at this;exact this.plain_eq rfl
   | const v=>exact he
   | global g=>cases he
   | func f=>cases he
  split at h
  ·rename_i he;obtain⟨q1,q2⟩:=ihx _ _ _ h;exact⟨q1,λ ν F a w r' Q hr hs hf hk=>wpIn_cond_true (S8 _ _ _ _ _ hs he) (q2 ν F a w r' Q hr hs hf hk)⟩
  ·rename_i he;obtain⟨q1,q2⟩:=ihy _ _ _ h;exact⟨q1,λ ν F a w r' Q hr hs hf hk=>wpIn_cond_false (S8 _ _ _ _ _ hs he) (q2 ν F a w r' Q hr hs hf hk)⟩
  ·cases h
 | block id c ihc =>
  intro s e s' h;rw[kx] at h;split at h
  ·rename_i XS s1 h1;obtain⟨q1,q2⟩:=ihc _ _ _ h1;split at h
   ·rename_i hid;cases h;have alU:XS=id:=Nat.eq_of_beq_eq_true hid;refine⟨q1,λ ν F a w r' Q hr hs hf hk=>wpIn_block ?_⟩;refine q2 ν F a w r' _ hr hs hf (λ ν' a' w' k1 k2 k3=>?_);show (if XS=id then _ else _);rw[if_pos alU];exact hk ν' a' w' k1 k2 k3
   ·rename_i hid;cases h;refine⟨q1,λ ν F a w r' Q hr hs hf hk=>wpIn_block ?_⟩;refine q2 ν F a w r' _ hr hs hf (λ ν' a' w' k1 k2 k3=>?_);show (if XS=id then _ else _);rw[if_neg (λ e=>by subst e;simp at hid)];exact hk ν' a' w' k1 k2 k3
  ·rename_i IF;obtain⟨q1,q2⟩:=ihc _ _ _ h;refine⟨q1,λ ν F a w r' Q hr hs hf hk=>wpIn_block ?_⟩;refine q2 ν F a w r' _ hr hs hf (λ ν' a' w' k1 k2 k3=>?_);have:=hk ν' a' w' k1 k2 k3;cases e with
   | normal=>exact this
   | exit XS=>exact(IF _ _ h).elim
   | ret=>exact this
 | loop c ihc =>
  intro s e s' h;obtain⟨q1,q2⟩:=Be IN (λ s e s' h=>ihc s e s' h) h;exact⟨q1,λ ν F a w r' Q hr hs hf hk=>Df (q2 ν F a w r' Q hr hs hf hk)⟩
 | rangeFunc g ps as bo _ _=>intro s e s' h;exact G1 IN h
 | scope c ihc =>
  intro s e s' h;rw[kx] at h;obtain⟨q1,q2⟩:=ihc _ _ _ h;refine⟨q1,λ ν F a w r' Q hr hs hf hk=>jA ?_⟩;refine q2 ν F a w r' _ hr hs hf (λ ν' a' w' k1 k2 k3=>?_);have:=hk ν' a' w' k1 k2 k3;cases e <;> exact this
end code
section fn
variable {ν ν':Nu} {P:Program} {G N:Nat} {T T':Tr Value} {a:Act} {H H':AH} {F:HL} {w w':World} {r r':Option Nat} {ih:Task -> Option Rs}
theorem wZ{args z_:List Value}(h:LR ν args z_)(hl:iC args <= N):TRel ν N (oN args) ((⟨z_⟩:Array Value)++Array.replicate (N-(⟨z_⟩:Array Value).size) undef):=by
 rw[fg] at hl;have hlen:=h.length;refine⟨by simp;omega,λ t ht=>?_,λ t ht=>?_⟩
 ·rcases Nat.lt_or_ge t args.length with h1|h1
  ·obtain⟨v',e,q⟩:=h.get (List.getElem?_eq_getElem h1);refine⟨v',?_,?_⟩
   ·rw[Array.getElem?_append_left (by simp;omega)];simpa using e
   ·unfold oN;rw[m8 h1];exact q
  ·refine⟨undef,?_,?_⟩
   ·rw[Array.getElem?_append_right (by simp;omega),Array.getElem?_replicate];rw[if_pos (by simp;omega)]
   ·have:dz (oN args) t=undef:=by
     unfold oN dz;rw[s8];rw[if_pos (Nat.zero_le _),dif_neg (by omega)];exact C5 _
    rw[this];exact aaw
 ·unfold oN dz;rw[s8,if_pos (Nat.zero_le _),dif_neg (by omega)];exact C5 _
def Ku(tm:Array Value):ResultVar -> Sem Value
 | .tmp t=>pure (tm.getD t undef)
 | .cell ad t=>do loadVar t (<- asAddr (tm.getD ad undef))
theorem rk(hE:FE ν G N T a)(hH:HR ν H F w):∀ {rs:List ResultVar} {vs:List Value},qZ P T H rs=some vs -> ∃Tv,LR ν vs Tv /\ (rs.mapM (Ku a.tmps)).run P w=.ok Tv w
 | [],vs,h=>by rw[qZ] at h;cases h;exact⟨[],.nil,rfl⟩
 | .tmp t::rs,vs,h=>by
  rw[qZ] at h;split at h
  ·rename_i vs0 h0;cases h;obtain⟨Tv,q1,q2⟩:=rk hE hH h0;have hv:VRi ν (dz T t) (a.tmps.getD t undef):=hE.ael (x:=.tmp t) rfl
   haveI:=kf
   refine⟨_,.cons hv q1,?_⟩;have h1:(Ku a.tmps (.tmp t)).run P w=.ok (a.tmps.getD t undef) w:=rfl;rw[List.mapM_cons,Sem.run_bind,h1];simp only[Result.andThen_ok];rw[Sem.run_bind,q2];rfl
  ·cases h
 | .cell ad t::rs,vs,h=>by
  rw[qZ] at h;split at h
  ·rename_i ad' he;split at h
   ·rename_i v vs0 hv h0;cases h;obtain⟨Tv,q1,q2⟩:=rk hE hH h0;have hp:VRi ν (dz T ad) (a.tmps.getD ad undef):=hE.ael (x:=.tmp ad) rfl;rw[he] at hp;generalize hu:a.tmps.getD ad undef=u at hp;have hp2:=hp;cases hp with
    | atom _ h=>simp[cV] at h
    | ptr o hν =>
     obtain⟨v',r1,r2⟩:=AR (P:=P) (t:=t) hH hp2 hv
     haveI:=kf
     refine⟨_,.cons r1 q1,?_⟩;have h1:(Ku a.tmps (.cell ad t)).run P w=.ok v' w:=by
      show ((asAddr (a.tmps.getD ad undef)) >>= λ x=>loadVar t x).run P w=_;rw[hu,Sem.run_bind];exact r2
     rw[List.mapM_cons,Sem.run_bind,h1];simp only[Result.andThen_ok];rw[Sem.run_bind,q2];rfl
   ·cases h
  ·cases h
theorem ux{fn:Func}{vs:List Value}(hE:FE ν G N T a)(hH:HR ν H F w)(h:qZ P T H fn.results.toList=some vs):∃v',VRi ν (AA vs) v' /\ (results fn a.tmps).run P w=.ok v' w:=by
 obtain⟨Tv,q1,q2⟩:=rk hE hH h
 haveI:=kf
 have h5:(fn.results.mapM (Ku a.tmps)).run P w=.ok ⟨Tv⟩ w:=by
  rw[Array.mapM_eq_mapM_toList,<- bind_pure_comp,Sem.run_bind,q2];rfl
 have h6:∀v',(∀W,(pure (if h:(⟨Tv⟩:Array Value).size=1 then (⟨Tv⟩:Array Value)[0] else .tuple ⟨Tv⟩):Sem Value).run P W=.ok v' W) -> (results fn a.tmps).run P w=.ok v' w:=λ v' hv=>by
  have:results fn a.tmps=(fn.results.mapM (Ku a.tmps) >>= λ vs=>pure (if h:vs.size=1 then vs[0] else .tuple vs)):=rfl;rw[this,Sem.run_bind,h5];exact hv w
 cases q1 with
 | nil=>exact⟨_,.tuple_of .nil,h6 _ λ W=>rfl⟩
 | cons h1 h2 =>
  cases h2 with
  | nil=>exact⟨_,h1,h6 _ λ W=>rfl⟩
  | cons h3 h4=>exact⟨_,.tuple_of (.cons h1 (.cons h3 h4)),h6 _ λ W=>rfl⟩
theorem oa(IN:md P G ih){fn:Func}{tm:Array Value}{R:Ending -> World -> Prop}:∀ {D:List Deferred} {H:AH} {n:Nat} {H':AH} {n':Nat},lX P ih D H n=some (H',n') -> n <= n' /\ ∀ν D' w,Glb ν G -> DsR ν D D' -> HR ν H F w -> Fr ν n n' ->
  (∀ν' w',Ext ν ν' n n' -> HR ν' H' F w' -> Below 0 w w' -> LeavesInM (Wr none) 0 P fn tm R [] .returning w') -> LeavesInM (Wr none) 0 P fn tm R D' .returning w
 | [],H,n,H',n',h=>by
  rw[lX] at h;cases h;exact⟨Nat.le_refl _,λ ν D' w hg hd hH hf hk=>by cases hd;exact hk ν w (.refl _ _) hH (Below.refl _ _)⟩
 | d::ds,H,n,H',n',h=>by
  rw[lX] at h;split at h
  ·rename_i hd ht;split at h
   ·rename_i hb;obtain⟨q1,q2⟩:=oa IN (fn:=fn) (tm:=tm) (R:=R) h;refine⟨q1,λ ν D' w hg hds hH hf hk=>?_⟩;cases hds with
    | @cons _ d' _ l' hdr hl =>
    obtain⟨hdt,hda⟩:=hdr;rw[ht] at hdt;generalize htt:d'.target=tt at hdt;cases hdt with
    | @coll _ b K hν =>
    obtain⟨rr,K',o,g1,g2,g3⟩:=hH.blk _ _ hb;rw[hν] at g1;cases g1;unfold OR at g3;split at g3
    ·rename_i e1;cases e1
    ·rename_i e1;cases e1
    ·rename_i e1;cases e1
    ·rename_i sh cc e1;cases e1;subst g3;refine⟨by simp,.inl ⟨b,{ w with heap:=w.heap.setIfInBounds b (.deferred none) },htt,?_,?_⟩⟩
     ·unfold Instr.takeDeferred;rw[Sem.run_bind];have h1:(getObj b).run P w=.ok (.deferred (some [])) w:=by
       unfold getObj;rw[Sem.run.eq_def];simp only[g2];rfl
      rw[h1];simp only[Result.andThen_ok];rw[Sem.run_bind];have h2:(setObj b (.deferred none)).run P w=.ok () { w with heap:=w.heap.setIfInBounds b (.deferred none) }:=by
       unfold setObj;rw[Sem.run.eq_def];simp only[g2];rfl
      rw[h2];rfl
     ·have h3:HR ν (dw H hd (some (.dfr true))) F { w with heap:=w.heap.setIfInBounds b (.deferred none) }:=hH.setObj hb rfl rfl hν (b1:=.dfr true) (o':=.deferred none) rfl;exact q2 ν l' _ hg hl h3 hf (λ ν' w' k1 k2 k3=>hk ν' w' k1 k2 (nZ.trans k3))
    ·exact g3.elim
   ·cases h
  ·rename_i f captured ht;split at h
   case h_2=>cases h
   rename_i hB;split at h
   case h_2=>cases h
   rename_i v H1 n1 hc;obtain⟨p1,p2⟩:=IN _ _ hc;obtain⟨q1,q2⟩:=oa IN (fn:=fn) (tm:=tm) (R:=R) h;refine⟨by omega,λ ν D' w hg hds hH hf hk=>?_⟩;cases hds with
   | @cons _ d' _ l' hdr hl =>
   obtain⟨hdt,hda⟩:=hdr;rw[ht] at hdt;generalize htt:d'.target=tt at hdt;cases hdt with
   | @fn _ f' _ c' hf1 WE =>
   cases hf1;refine⟨by simp,.inr ⟨λ h=>(by cases h),.func f,c',f,⟨d'.args.toList++c'.toList⟩,htt,?_,λ _ _=>trivial,?_⟩⟩
   ·rw[htt];show (callFunc f (d'.args++c')).run P w=_;rw[jK hB];congr 2;apply Array.ext';simp
   ·refine(p2 ν F w _ hg (λ i a b=>hf i a (by omega)) hH (hda.append WE)).mono ?_;rintro en u' w2 ⟨rfl,ν2,v',rfl,k1,k2,k3,k4⟩;have To:=k2.sub' hf q1;show LeavesInM (Wr none) 0 P fn tm R l' (settle .returning) w2;exact q2 ν2 l' w2 (hg.mono To) (hl.mono To) k3 (k2.fr hf q1) (λ ν3 w3 g1 g2 g3=>hk ν3 w3 (k2.trans g1) g2 (k4.trans g3))
  ·cases h
theorem Bg{f:FuncId}{fn:Func}{c:Code}(h:uf P f=some (fn,c)):P.funcs[f]?=some fn /\ fn.body=some c:=by
 unfold uf at h;split at h
 ·rename_i fn' hf;split at h
  ·rename_i c' hc;cases h;exact⟨hf,hc⟩
  ·cases h
 ·cases h
theorem QY(IN:md P G ih)(hm:P.follows .mixedOrders=true){f:FuncId}{args:List Value}{H:AH}{n:Nat}{res:Rs}(h:jg P G ih (.fn f args H n)=some res):k8 P G (.fn f args H n) res:=by
 simp only[jg] at h;split at h
 case h_2=>cases h
 rename_i fn c hb;split at h
 case h_2=>cases h
 rename_i hle;obtain⟨b1,b2⟩:=Bg hb;have fin:∀e s H2 n2 vs,(e=.normal \/ e=.ret) -> kx P G ih none fn.ntmps c ⟨oN args,[],H,n⟩=some (e,s) -> lX P ih s.D s.H s.n=some (H2,n2) -> qZ P s.T H2 fn.results.toList=some vs -> k8 P G (.fn f args H n) (.fn (AA vs) H2 n2):=by
  intro e s H2 n2 vs he XG ZW Y6;obtain⟨q1,q2⟩:=rj IN hm _ _ _ _ XG;simp only at q1 q2;have aeD:=(oa (F:=[]) (fn:=fn) (tm:=#[]) (R:=λ _ _=>True) IN ZW).1;refine⟨by omega,λ ν F w z_ hg hf hH hl=>?_⟩;refine callsIn_wide.1 (callsIn_of_wp_marks (F:=Fence.wide) (n:=0) b1 b2 trivial ?_);have hlen:=hl.length;refine q2 ν F _ w none _ .none ⟨hg,wZ hl (cj hle),.nil,hH⟩ (λ i a b=>hf i a (by omega)) (λ ν' a' w' k1 k2 k3=>?_);have To:=k1.sub' hf aeD;have alE:=(oa (F:=F) (fn:=fn) (tm:=a'.tmps) (R:=Kk ν (AA vs) n n2 H2 F w) IN ZW).2 ν' a'.defers w' k2.g k2.d k2.h (k1.fr hf aeD) (λ ν2 w2 g1 g2 g3=>by
   have adb:=g1.sub (k1.fr hf aeD);obtain⟨v',r1,r2⟩:=ux (G:=G) (fn:=fn) (a:=a') (FE.mk (k2.t.mono adb) (k2.g.mono adb)) g2 Y6;exact⟨v',r2,ν2,v',rfl,r1,k1.trans g1,g2,k3.trans g3⟩)
  rcases he with rfl|rfl <;> exact alE
 split at h
 ·cases h
 ·rename_i e s IF XG;split at h
  ·rename_i H2 n2 ZW;split at h
   ·rename_i vs Y6;cases h;cases e with
    | normal=>exact fin _ _ _ _ _ (.inl rfl) XG ZW Y6
    | ret=>exact fin _ _ _ _ _ (.inr rfl) XG ZW Y6
    | exit id=>first|exact(IF _ _ rfl).elim|exact(IF _ rfl).elim|exact(IF _ _).elim
   ·cases h
  ·cases h
 ·cases h
theorem G2{b:Nat}{lp:Loop}(h:w.heap[b]?=some (.loop lp))(hs:lp.state=.ready):(Instr.beginRound b).run P w=.ok () { w with heap:=w.heap.setIfInBounds b (.loop { lp with state:=.busy }) }:=by
 unfold Instr.beginRound;rw[Sem.run_bind,jh h];simp only[Result.andThen_ok];rw[Sem.run_bind,ng h];simp only[Result.andThen_ok,hs];rfl
theorem MT{b:Nat}{lp:Loop}{j:Option Code}(h:w.heap[b]?=some (.loop lp)):(Instr.endRound b j).run P w=.ok (.bool j.isNone) { w with heap:=w.heap.setIfInBounds b (.loop { lp with state:=if j.isNone then .ready else .done,pending:=j }) }:=by
 unfold Instr.endRound;rw[Sem.run_bind,jh h];simp only[Result.andThen_ok];rw[Sem.run_bind,ng h];rfl
def RY:Ex -> Option Code
 | .normal=>none
 | .ret=>some .ret
 | .exit id=>some (.exit id)
theorem yi{b:Nat}{R:Ending -> World -> Prop}{e:Ex}(h:∃v w',(Instr.endRound b (RY e)).run P w=.ok v w' /\ R (.returned v) w'):roundPost P b R e.out a w:=by
 cases e <;> exact h
theorem Pi(IN:md P G ih)(hm:P.follows .mixedOrders=true){l:Nat}{T:Tr Value}{N:Nat}{as bo:Code}{H:AH}{n:Nat}{res:Rs}(h:jg P G ih (.rnd l T N as bo H n)=some res):k8 P G (.rnd l T N as bo H n) res:=by
 simp only[jg] at h;split at h
 case h_2=>cases h
 rename_i s1 h1;split at h
 case h_2=>cases h
 rename_i pend T' N' ps Y1 bo' d Uj hd1;split at h
 case h_2=>cases h
 rename_i e s2 h2;split at h
 case h_2=>cases h
 rename_i st2 aoc T2 N2 ps2 as2 bo2 d2 TM;obtain⟨q1,q2⟩:=rj IN hm _ _ _ _ h1;obtain⟨p1,p2⟩:=rj IN hm _ _ _ _ h2;simp only at q1 q2 p1 p2;have WB:res=.fn (.bool (RY e).isNone) (dw s2.H l (some (.loop (if (RY e).isNone then .ready else .done) (RY e) T2 N2 ps2 as2 bo2 d2))) s2.n:=by
  cases e <;> (cases h;rfl)
 subst WB;refine⟨by omega,λ ν F w b K tm f r' hg hν hT hf hH=>?_⟩;refine roundIn_of_wpIn trivial ?_;show as.wpIn (Wr (some b)) 0 P _ _ _;refine q2 ν F _ w (some b) _ (.some hν) ⟨hg,hT,.nil,hH⟩ (λ i x y=>hf i x (by omega)) (λ ν1 a1 w1 k1 k2 k3=>?_);have ag1:=k1.sub' hf p1;have hν1:=ag1 _ _ hν;obtain⟨lp,g1,g2,g3,g4,g5,g6,g7,K',g8⟩:=k2.h.loop Uj hν1;refine⟨_,G2 g1 g2,?_⟩;show bo.wpIn (Wr (some b)) 0 P _ _ _;have hH1:HR ν1 (dw s1.H l (some (.loop .busy pend T' N' ps Y1 bo' d))) F { w1 with heap:=w1.heap.setIfInBounds b (.loop { lp with state:=.busy }) }:=k2.h.setObj Uj rfl rfl hν1 ⟨rfl,g3,g4,g5,g6,g7,K',g8⟩;have hd:DsR ν1 [] a1.defers:=by have:=k2.d;rw[hd1] at this;exact this
 refine p2 ν1 F a1 _ (some b) _ (.some hν1) ⟨k2.g,k2.t,hd,hH1⟩ (k1.fr hf p1) (λ ν2 a2 w2 j1 j2 j3=>?_);have hν2:=(j1.sub (k1.fr hf p1)) _ _ hν1;obtain⟨lp2,u1,u2,u3,u4,u5,u6,u7,K2,u8⟩:=j2.h.loop TM hν2;refine yi ⟨_,_,MT u1,ν2,_,rfl,.atom _ rfl,k1.trans j1,?_,((k3.trans nZ).trans j3).trans nZ⟩;exact j2.h.setObj TM rfl rfl hν2 ⟨rfl,rfl,u4,u5,u6,u7,K2,u8⟩
theorem oc{ops:Array Oper}{c₀:Frame}{cs:List Frame}(hc:c₀.mode=.returning):∀ (rest:List Oper) (k:Nat) (s s':St),ops.toList.drop k=rest -> pk P G N ops rest s=some s' -> s.n <= s'.n /\ ∀ν F a w (Q:Exit -> Act -> List Frame -> World -> Prop),SR ν G N s F a w -> Fr ν s.n s'.n ->
  (∀ν' a' w',Ext ν ν' s.n s'.n -> SR ν' G N s' F a' w' -> Below 0 w w' -> Q .normal a' (c₀::cs) w') -> wpOpsSIn (Wr none) 0 P ops Q (List.range' k rest.length) a (c₀::cs) w
 | [],k,s,s',hk,h=>by
  rw[pk] at h;cases h;exact⟨Nat.le_refl _,λ ν F a w Q hs hf hq=>hq ν a w (.refl _ _) hs (Below.refl _ _)⟩
 | o::rest,k,s,s',hk,h=>by
  have iS:k<ops.toList.length:=by
   rcases Nat.lt_or_ge k ops.toList.length with e|e
   ·exact e
   ·rw[List.drop_eq_nil_of_le e] at hk;cases hk
  have XD:=hk;rw[List.drop_eq_getElem_cons iS] at XD;simp only[List.cons.injEq] at XD;obtain⟨ho,ZM⟩:=XD;have S5:ops[k]?=some o:=by
   rw[Array.getElem?_eq_getElem (by simpa using iS)];simpa using ho
  rw[pk] at h;split at h
  ·cases h
  ·rename_i hw;split at h
   case h_2=>cases h
   rename_i T1 hp;obtain⟨h1,h2⟩:=oc hc rest (k+1) _ _ ZM h;refine⟨h1,λ ν F a w Q hs hf hq=>?_⟩;rw[List.length_cons,List.range'_succ,wpOpsSIn];simp only[S5];refine⟨λ _ _=>trivial,?_⟩;rw[if_neg (by rw[lH hs.t hw];simp)];exact h2 ν F _ w Q ⟨hs.g,hs.t.put aaw hp,by rw[gE];exact hs.d,hs.h⟩ hf hq
  ·rename_i hw;split at h
   ·rename_i v H1 n1 At;split at h
    case h_2=>cases h
    rename_i T1 hp;obtain⟨h1,h2⟩:=oc hc rest (k+1) _ _ ZM h;simp only at h1 h2;have hle:=yf At;refine⟨by omega,λ ν F a w Q hs hf hq=>?_⟩;rw[List.length_cons,List.range'_succ,wpOpsSIn];simp only[S5];refine⟨λ _ _=>trivial,?_⟩;rw[if_pos (lH hs.t hw)];obtain⟨ν',v',w',q,e1,e2,e3,e4,e5,e6⟩:=nY hs.op hs.h At (λ v H' n' e=>by cases e;exact λ i x y=>hf i x (by omega));have To:=e4.sub' hf h1;have V1:=h2 ν' F (a.put o.dst v') w' Q ⟨hs.g.mono To,(hs.t.mono To).put e3 hp,by rw[gE];exact hs.d.mono To,e5⟩ (e4.fr hf h1) (λ ν2 a2 w2 g1 g2 g3=>hq ν2 a2 w2 (e4.trans g1) g2 (e6.trans g3));rw[e1];rcases e2 with rfl|⟨rfl,rfl⟩
    ·exact V1
    ·exact V1
   ·rename_i At;split at h
    case h_2=>cases h
    rename_i T1 hp;obtain⟨h1,h2⟩:=oc hc rest (k+1) _ _ ZM h;refine⟨h1,λ ν F a w Q hs hf hq=>?_⟩;rw[List.length_cons,List.range'_succ,wpOpsSIn];simp only[S5];refine⟨λ _ _=>trivial,?_⟩;rw[if_pos (lH hs.t hw)];have e1:=nY hs.op hs.h At (λ v H' n' e=>by cases e);rw[show (execOp a.eval o).run P w=.ok .recover w from e1];have hrc:recoverD (c₀::cs)=none:=by simp[recoverD,hc]
    simp only[hrc];exact h2 ν F _ w Q ⟨hs.g,hs.t.put (.atom _ rfl) hp,by rw[gE];exact hs.d,hs.h⟩ hf hq
   ·cases h
theorem Pj(IN:md P G ih)(hm:P.follows .mixedOrders=true){c₀:Frame}{cs:List Frame}(hc:c₀.mode=.returning):∀ (c:Code) (s:St) (e:Ex) (s':St),J1 P G ih N c s=some (e,s') -> s.n <= s'.n /\ ∀ν F a w (Q:Exit -> Act -> List Frame -> World -> Prop),SR ν G N s F a w -> Fr ν s.n s'.n ->
  (∀ν' a' w',Ext ν ν' s.n s'.n -> SR ν' G N s' F a' w' -> Below 0 w w' -> Q e.out a' (c₀::cs) w') -> c.wpSIn (Wr none) 0 P Q a (c₀::cs) w:=by
 have plain:∀ (c:Code) (s:St) (e:Ex) (s':St),kx P G ih none N c s=some (e,s') -> s.n <= s'.n /\ ∀ν F a w (Q:Exit -> Act -> List Frame -> World -> Prop),SR ν G N s F a w -> Fr ν s.n s'.n ->
  (∀ν' a' w',Ext ν ν' s.n s'.n -> SR ν' G N s' F a' w' -> Below 0 w w' -> Q e.out a' (c₀::cs) w') -> c.wpSIn (Wr none) 0 P Q a (c₀::cs) w:=λ c s e s' h=>by
  obtain⟨q1,q2⟩:=rj IN hm _ _ _ _ h;exact⟨q1,λ ν F a w Q hs hf hq=>wpSIn_of_wpIn rfl (q2 ν F a w none _ .none hs hf hq)⟩
 intro c
 induction c with
 | seq x y ihx ihy =>
  intro s e s' h;rw[J1] at h;split at h
  ·rename_i s1 h1;obtain⟨q1,q2⟩:=ihx _ _ _ h1;obtain⟨p1,p2⟩:=ihy _ _ _ h;refine⟨by omega,λ ν F a w Q hs hf hk=>wpSIn_seq ?_⟩;refine q2 ν F a w _ hs (λ i a b=>hf i a (by omega)) (λ ν' a' w' k1 k2 k3=>?_);exact p2 ν' F a' w' Q k2 (k1.fr hf p1) (λ ν2 a2 w2 g1 g2 g3=>hk ν2 a2 w2 (k1.trans g1) g2 (k3.trans g3))
  ·rename_i IF;obtain⟨q1,q2⟩:=ihx _ _ _ h;refine⟨q1,λ ν F a w Q hs hf hk=>wpSIn_seq ?_⟩;refine q2 ν F a w _ hs hf (λ ν' a' w' k1 k2 k3=>?_);have:=hk ν' a' w' k1 k2 k3;cases e with
   | normal=>exact(IF _ h).elim
   | exit id=>exact this
   | ret=>exact this
 | cond c x y ihx ihy =>
  intro s e s' h;rw[J1] at h;have S8:∀ν F a w b,SR ν G N s F a w -> ael s.T c=.bool b -> a.eval c=.bool b:=λ ν F a w b hs he=>by
   cases c with
   | tmp t =>
    have:=(FE.mk hs.t hs.g:FE ν G N s.T a).ael (x:=.tmp t) rfl;rw[he] at this;exact this.plain_eq rfl
   | const v=>exact he
   | global g=>cases he
   | func f=>cases he
  split at h
  ·rename_i he;obtain⟨q1,q2⟩:=ihx _ _ _ h;exact⟨q1,λ ν F a w Q hs hf hk=>wpSIn_cond (S8 _ _ _ _ _ hs he) (q2 ν F a w Q hs hf hk)⟩
  ·rename_i he;obtain⟨q1,q2⟩:=ihy _ _ _ h;exact⟨q1,λ ν F a w Q hs hf hk=>wpSIn_cond (S8 _ _ _ _ _ hs he) (q2 ν F a w Q hs hf hk)⟩
  ·cases h
 | region id ops draw =>
  intro s e s' h;cases draw with
  | true=>rw[J1] at h;exact plain _ _ _ _ h;all_goals simp
  | false =>
   rw[J1] at h;split at h
   ·rename_i s1 h1;cases h;obtain⟨q1,q2⟩:=oc hc _ 0 _ _ (by simp) h1;refine⟨q1,λ ν F a w Q hs hf hk=>wpSIn_region ?_⟩;have:=q2 ν F a w Q hs hf hk;rw[List.range_eq_range'];simpa using this
   ·split at h
    ·rename_i x h1;cases h;exact plain _ _ _ _ h1
    ·cases h
 | _=>intro s e s' h;rw[J1] at h;exact plain _ _ _ _ h;all_goals simp
theorem Pk(IN:md P G ih)(hm:P.follows .mixedOrders=true){f:FuncId}{args:List Value}{H:AH}{n:Nat}{res:Rs}(h:jg P G ih (.dfn f args H n)=some res):k8 P G (.dfn f args H n) res:=by
 simp only[jg] at h;split at h
 case h_2=>cases h
 rename_i fn c hb;split at h
 case h_2=>cases h
 rename_i hle;obtain⟨b1,b2⟩:=Bg hb;split at h
 ·cases h
 ·rename_i e s IF XG;split at h
  ·rename_i hd;split at h
   ·rename_i vs Y6;cases h;have hq:∀ (c₀:Frame) (cs:List Frame),c₀.mode=.returning -> _:=λ c₀ cs hc=>Pj (c₀:=c₀) (cs:=cs) IN hm hc _ _ _ _ XG;have hn:n <= s.n:=(hq { (default:Frame) with mode:=.returning } [] rfl).1;refine⟨hn,λ ν F w z_ hg hf hH hl=>?_⟩;refine callsDIn_of_wpSIn b1 b2 trivial (λ c₀ cs hc=>?_);refine(hq c₀ cs hc).2 ν F _ w _ ⟨hg,wZ hl (cj hle),.nil,hH⟩ hf (λ ν' a' w' k1 k2 k3=>?_);have hdd:a'.defers=[]:=by
     have:=k2.d;rw[hd] at this;generalize a'.defers=q at this;cases this;rfl
    obtain⟨v',r1,r2⟩:=ux (G:=G) (fn:=fn) (a:=a') (FE.mk k2.t k2.g) k2.h Y6;have hcc:c₀::cs={ c₀ with mode:=.returning }::cs:=by rw[<- hc]
    have V1:a'.defers=[] /\ ∃u',c₀::cs={ c₀ with mode:=u' }::cs /\ ∃v,(results fn a'.tmps).run P w'=.ok v w' /\ (u'=.returning /\ Kk ν (AA vs) n s.n s.H F w (.returned v) w') :=
     ⟨hdd,.returning,hcc,v',r2,rfl,ν',v',rfl,r1,k1,k2.h,k3⟩
    cases e with
    | normal=>exact V1
    | ret=>exact V1
    | exit id=>first|exact(IF _ _ rfl).elim|exact(IF _ rfl).elim|exact(IF _ _).elim
   ·cases h
  ·cases h
 ·cases h
theorem Kv(IN:md P G ih)(hm:P.follows .mixedOrders=true):md P G (jg P G ih):=by
 intro t res h;cases t with
 | code r N c s =>
  simp only[jg] at h;split at h
  ·rename_i h1;cases h;exact rj IN hm _ _ _ _ h1
  ·cases h
 | loop r N c s =>
  simp only[jg] at h;split at h
  ·rename_i h1;cases h;exact Be IN (λ s e s' h=>rj IN hm _ _ _ _ h) h1
  ·cases h
 | fn f args H n=>exact QY IN hm h
 | rnd l T N as bo H n=>exact Pi IN hm h
 | dfn f args H n=>exact Pk IN hm h
theorem EA(hm:P.follows .mixedOrders=true):∀k,md P G (J3 P G k)
 | 0=>λ t res h=>by rw[J3] at h;cases h
 | k+1=>by
  have:=Kv (EA hm k) hm;intro t res h;rw[J3] at h;exact this t res h
end fn
noncomputable section
inductive CzV where|mk (f:Tr Value -> Value)
inductive CzS where|mk (f:Value -> Tr Value -> Tr Value)
abbrev Ih:=Task -> Option Rs
inductive CzR where|mk (f:Ih -> Option Nat -> Tr Value -> List Deferred -> AH -> Nat -> Option St)
inductive CzC where|mk (f:Ih -> Option Nat -> Tr Value -> List Deferred -> AH -> Nat -> Option (Ex × St))
inductive CzF where|mk (f:Ih -> List Value -> AH -> Nat -> Option Rs)
inductive CzA where|mk (f:Tr Value -> List Value)
def CzV.f:CzV -> Tr Value -> Value | .mk f=>f
def CzS.f:CzS -> Value -> Tr Value -> Tr Value | .mk f=>f
def CzR.f:CzR -> Ih -> Option Nat -> Tr Value -> List Deferred -> AH -> Nat -> Option St | .mk f=>f
def CzC.f:CzC -> Ih -> Option Nat -> Tr Value -> List Deferred -> AH -> Nat -> Option (Ex × St) | .mk f=>f
def CzF.f:CzF -> Ih -> List Value -> AH -> Nat -> Option Rs | .mk f=>f
def CzA.f:CzA -> Tr Value -> List Value | .mk f=>f
def fM{α:Type}(v:Value)(x:Value -> α):α:=match v with
 | .bool b=>x (.bool b)
 | .int k n=>x (.int k n)
 | .float k b=>x (.float k b)
 | .complex k a b=>x (.complex k a b)
 | .string s=>x (.string s)
 | .pointer a=>x (.pointer a)
 | .slice a l c=>x (.slice a l c)
 | .map r=>x (.map r)
 | .chan r=>x (.chan r)
 | .func f a c=>x (.func f a c)
 | .nilFunc=>x .nilFunc
 | .iface t v=>x (.iface t v)
 | .nilIface=>x .nilIface
 | .agg c=>x (.agg c)
 | .tuple c=>x (.tuple c)
theorem cZ{α:Type}(v:Value)(x:Value -> α):fM v x=x v:=by cases v <;> rfl
def Dj{α:Type}(l:List Value):(List Value -> α) -> α:=List.rec (motive:=λ _=>(List Value -> α) -> α) (λ x=>x []) (λ v _ ih x=>fM v λ v=>ih λ l=>x (v::l)) l
theorem w7{α:Type}:∀ (l:List Value) (x:List Value -> α),Dj l x=x l
 | [],x=>rfl
 | v::l,x=>by
  show fM v (λ v=>Dj l λ l=>x (v::l))=_;rw[cZ,w7 l]
def yj:List Bool -> CzV
 | []=>.mk λ T=>Tr.rec (motive:=λ _=>Value) undef (λ v _ _ _ _=>v) T
 | b::p=>match yj p with
  | .mk f=>match b with
   | true=>.mk λ T=>Tr.rec (motive:=λ _=>Value) undef (λ _ _ r _ _=>f r) T
   | false=>.mk λ T=>Tr.rec (motive:=λ _=>Value) undef (λ _ l _ _ _=>f l) T
theorem s9:∀ (p:List Bool) (T:Tr Value),(yj p).f T=gW undef p T
 | [],T=>by cases T <;> rfl
 | b::p,T=>by
  have ih:=s9 p;cases h:yj p with
  | mk f =>
   rw[h] at ih;cases b <;> simp only[yj,h,CzV.f] <;> cases T <;> first|rfl|exact ih _
def Dk:List Bool -> CzS
 | []=>.mk λ x T=>Tr.rec (motive:=λ _=>Tr Value) (.nd x .lf .lf) (λ _ l r _ _=>.nd x l r) T
 | b::p=>match Dk p with
  | .mk f=>match b with
   | true=>.mk λ x T=>Tr.rec (motive:=λ _=>Tr Value) (.nd undef .lf (f x .lf)) (λ v l r _ _=>.nd v l (f x r)) T
   | false=>.mk λ x T=>Tr.rec (motive:=λ _=>Tr Value) (.nd undef (f x .lf) .lf) (λ v l r _ _=>.nd v (f x l) r) T
theorem EB(x:Value):∀ (p:List Bool) (T:Tr Value),(Dk p).f x T=eM undef x p T
 | [],T=>by cases T <;> rfl
 | b::p,T=>by
  have ih:=EB x p;cases h:Dk p with
  | mk f =>
   rw[h] at ih;simp only[CzS.f] at ih;cases b <;> simp only[Dk,h,CzS.f] <;> cases T <;> simp only[ih] <;> rfl
def cv:Operand -> CzV
 | .tmp t=>yj (pth t)
 | .const v=>.mk λ _=>v
 | .global g=>.mk λ _=>.pointer (some ⟨g,0,none⟩)
 | .func f=>.mk λ _=>.func (.func f) #[] #[]
theorem Oa(x:Operand)(T:Tr Value):(cv x).f T=ael T x:=by
 cases x with
 | tmp t=>exact s9 _ _
 | const v=>rfl
 | global g=>rfl
 | func f=>rfl
def ca:List Operand -> CzA
 | []=>.mk λ _=>[]
 | x::l=>match cv x,ca l with
  | .mk f,.mk g=>.mk λ T=>f T::g T
theorem Oc:∀ (l:List Operand) (T:Tr Value),(ca l).f T=pi T l
 | [],T=>rfl
 | x::l,T=>by
  have h1:=Oa x T;have h2:=Oc l T;cases hx:cv x with
  | mk f=>cases hl:ca l with
   | mk g =>
    rw[hx] at h1;rw[hl] at h2;simp only[CzV.f] at h1;simp only[CzA.f] at h2;simp only[ca,hx,hl,CzA.f,pi,h1,h2]
inductive CzD where
 | no
 | ok (f:Value -> Tr Value -> Tr Value)
 | bad
def jL(N:Nat):Option Tmp -> CzD
 | none=>.no
 | some d=>match Nat.blt d N with
  | true=>match Dk (pth d) with
   | .mk f=>.ok f
  | false=>.bad
theorem EC{N:Nat}{d:Option Tmp}{f}(h:jL N d=.ok f)(v:Value)(T:Tr Value):gc N d v T=some (f v T):=by
 cases d with
 | none=>simp[jL] at h
 | some d =>
  simp only[jL] at h;cases hb:Nat.blt d N <;> rw[hb] at h
  ·simp at h
  ·cases hs:Dk (pth d) with
   | mk g =>
    simp only[hs,CzD.ok.injEq] at h;subst h;have:=EB v (pth d) T;rw[hs] at this;simp only[CzS.f] at this;simp only[gc,hb,this];rfl
theorem ED{N:Nat}{d:Option Tmp}(h:jL N d=.no)(v:Value)(T:Tr Value):gc N d v T=some T:=by
 cases d with
 | none=>rfl
 | some d =>
  simp only[jL] at h;cases hb:Nat.blt d N <;> rw[hb] at h
  ·simp at h
  ·cases hs:Dk (pth d) with
   | mk g=>simp[hs] at h
def dE(P:Program)(G N:Nat)(ops:Array Oper)(o:Oper)(k:Ih -> Option Nat -> Tr Value -> List Deferred -> AH -> Nat -> Option St)(ih:Ih)(r:Option Nat)(T:Tr Value)(D:List Deferred)(H:AH)(n:Nat):Option St:=match fD ops o T with
 | none=>none
 | some false=>match gc N o.dst undef T with
  | some T=>k ih r T D H n
  | none=>none
 | some true=>match lA P G ih r o T H n with
  | none=>none
  | some (.val v H n)=>fM v λ v=>match gc N o.dst v T with
   | some T=>k ih r T D H n
   | none=>none
  | some (.dfr d)=>match gc N o.dst undef T with
   | some T=>k ih r T (d::D) H n
   | none=>none
def CzR.okL(P:Program)(G N:Nat)(ops:Array Oper)(l:List Oper)(k:Ih -> Option Nat -> Tr Value -> List Deferred -> AH -> Nat -> Option St):Prop:=∀ih r T D H n,k ih r T D H n=oM P G ih r N ops l ⟨T,D,H,n⟩
theorem MU{P:Program}{G N:Nat}{ops:Array Oper}{l:List Oper}{k}(h:CzR.okL P G N ops l k)(o:Oper):CzR.okL P G N ops (o::l) (dE P G N ops o k):=by
 intro ih r T D H n;simp only[dE,oM];cases fD ops o T with
 | none=>rfl
 | some b =>
  cases b with
  | false=>cases gc N o.dst undef T with
   | none=>rfl
   | some T'=>exact h _ _ _ _ _ _
  | true=>cases lA P G ih r o T H n with
   | none=>rfl
   | some x=>cases x with
    | val v H' n'=>simp only[cZ];cases hp:gc N o.dst v T with
     | none=>simp only[hp]
     | some T'=>simp only[hp];exact h _ _ _ _ _ _
    | dfr d=>cases hp:gc N o.dst undef T with
     | none=>simp only[hp]
     | some T'=>simp only[hp];exact h _ _ _ _ _ _
def qr(N:Nat)(o:Oper)(k:Ih -> Option Nat -> Tr Value -> List Deferred -> AH -> Nat -> Option St)(ih:Ih)(r:Option Nat)(T:Tr Value)(D:List Deferred)(v:Value)(H:AH)(n:Nat):Option St:=match gc N o.dst v T with
 | some T=>k ih r T D H n
 | none=>none
theorem rm{P:Program}{G N:Nat}{ops:Array Oper}{o:Oper}{k}(hg:o.guard=none)(ho:pH G o=true)(hc:vf P o.op=.pu)(ih:Ih)(r:Option Nat)(T:Tr Value)(D:List Deferred)(H:AH)(n:Nat) :
  dE P G N ops o k ih r T D H n=match je P o T with
   | some v=>qr N o k ih r T D v H n
   | none=>none:=by
 simp only[pH] at ho;cases hl:j9 o.op with
 | none=>rw[hl] at ho;simp at ho
 | some l =>
  rw[hl] at ho;simp only at ho;simp only[dE,fD,hg,lA,Ep,hl,ho,hc];cases je P o T with
  | none=>rfl
  | some v=>simp only[cZ];rfl
theorem Kw{P:Program}{G N:Nat}{ops:Array Oper}{o:Oper}{k}(hg:o.guard=none)(ho:pH G o=true)(hc:vf P o.op=.lo)(ih:Ih)(r:Option Nat)(T:Tr Value)(D:List Deferred)(H:AH)(n:Nat) :
  dE P G N ops o k ih r T D H n=match kM P o T H with
   | some v=>qr N o k ih r T D v H n
   | none=>none:=by
 simp only[pH] at ho;cases hl:j9 o.op with
 | none=>rw[hl] at ho;simp at ho
 | some l =>
  rw[hl] at ho;simp only at ho;simp only[dE,fD,hg,lA,Ep,hl,ho,hc];cases kM P o T H with
  | none=>rfl
  | some v=>simp only[cZ];rfl
theorem Pl{P:Program}{G N:Nat}{ops:Array Oper}{o:Oper}{k}(hg:o.guard=none)(ho:pH G o=true)(hc:vf P o.op=.nw)(ih:Ih)(r:Option Nat)(T:Tr Value)(D:List Deferred)(H:AH)(n:Nat) :
  dE P G N ops o k ih r T D H n=match vA P o T with
   | some (b,m)=>qr N o k ih r T D (m.val n) (dw H n (some b)) (n+1)
   | none=>none:=by
 simp only[pH] at ho;cases hl:j9 o.op with
 | none=>rw[hl] at ho;simp at ho
 | some l =>
  rw[hl] at ho;simp only at ho;simp only[dE,fD,hg,lA,Ep,hl,ho,hc];cases vA P o T with
  | none=>rfl
  | some v=>simp only[Pe,cZ];rfl
theorem Pm{P:Program}{G N:Nat}{ops:Array Oper}{o:Oper}{k}(hg:o.guard=none)(ho:pH G o=true)(hc:vf P o.op=.ef)(ih:Ih)(r:Option Nat)(T:Tr Value)(D:List Deferred)(H:AH)(n:Nat){v:Value}{H':AH}{n':Nat}(he:pj P o T H n=some (.val v H' n')) :
  dE P G N ops o k ih r T D H n=qr N o k ih r T D v H' n':=by
 simp only[pH] at ho;cases hl:j9 o.op with
 | none=>rw[hl] at ho;simp at ho
 | some l =>
  rw[hl] at ho;simp only at ho;simp only[dE,fD,hg,lA,Ep,hl,ho,hc,he,cZ];rfl
theorem EE{P:Program}{G N:Nat}{ops:Array Oper}{o:Oper}{k}(hg:o.guard=none)(ho:pH G o=true)(hc:vf P o.op=.ef)(ih:Ih)(r:Option Nat)(T:Tr Value)(D:List Deferred)(H:AH)(n:Nat){f:FuncId}{args:List Value}(he:pj P o T H n=some (.ent f args)) :
  dE P G N ops o k ih r T D H n=match ih (.fn f args H n) with
   | some (.fn v H n)=>qr N o k ih r T D v H n
   | _=>none:=by
 simp only[pH] at ho;cases hl:j9 o.op with
 | none=>rw[hl] at ho;simp at ho
 | some l =>
  rw[hl] at ho;simp only at ho;simp only[dE,fD,hg,lA,Ep,hl,ho,hc,he];cases ih (.fn f args H n) with
  | none=>rfl
  | some x=>cases x <;> simp only[cZ] <;> rfl
end
noncomputable section
abbrev Kt:=Ih -> Option Nat -> Tr Value -> List Deferred -> AH -> Nat -> Option St
def kN(k:IntKind):Nat:=IntKind.rec (motive:=λ _=>Nat) 0 1 2 3 4 5 6 7 k
def SA(a b:IntKind):Bool:=Nat.beq (kN a) (kN b)
theorem Pn(a b:IntKind):SA a b=decide (a=b):=by cases a <;> cases b <;> rfl
def P7(a b:Int):Bool:=match a,b with
 | .ofNat m,.ofNat n=>Nat.blt m n
 | .negSucc _,.ofNat _=>true
 | .ofNat _,.negSucc _=>false
 | .negSucc m,.negSucc n=>Nat.blt n m
theorem EF(m n:Nat):Nat.blt m n=decide (m<n):=by
 by_cases h:m<n
 ·simp[Nat.blt_eq,h]
 ·rw[decide_eq_false h];cases hb:Nat.blt m n
  ·rfl
  ·exact absurd (Eq.mp Nat.blt_eq hb) h
theorem Kx(a b:Int):P7 a b=decide (a<b):=by
 cases a with
 | ofNat m=>cases b with
  | ofNat n =>
   simp only[P7,EF];exact decide_eq_decide.2 (Int.ofNat_lt).symm
  | negSucc n=>exact(decide_eq_false (show ¬ ((m:Int)<Int.negSucc n) by omega)).symm
 | negSucc m=>cases b with
  | ofNat n=>exact(decide_eq_true (show Int.negSucc m<(n:Int) by omega)).symm
  | negSucc n =>
   simp only[P7,EF];exact decide_eq_decide.2 (by omega)
def Po(b:Bool):Bool:=match b with
 | true=>false
 | false=>true
theorem EG(b:Bool):Po b=!b:=by cases b <;> rfl
def RZ(a b:Int):Bool:=Po (P7 b a)
theorem Pp(a b:Int):RZ a b=decide (a <= b):=by
 rw[RZ,EG,Kx]
 by_cases h:b<a
 ·rw[decide_eq_true h,decide_eq_false (by omega)];rfl
 ·rw[decide_eq_false h,decide_eq_true (by omega)];rfl
def QZ(a b:Int):Bool:=match a,b with
 | .ofNat m,.ofNat n=>Nat.beq m n
 | .negSucc m,.negSucc n=>Nat.beq m n
 | _,_=>false
theorem EH(m n:Nat):Nat.beq m n=decide (m=n):=by
 by_cases h:m=n
 ·rw[decide_eq_true h];exact Eq.mpr Nat.beq_eq h
 ·rw[decide_eq_false h];cases hb:Nat.beq m n
  ·rfl
  ·exact absurd (Eq.mp Nat.beq_eq hb) h
theorem Pq(a b:Int):QZ a b=(a == b):=by
 have e:(a == b)=decide (a=b):=rfl;rw[e];cases a with
 | ofNat m=>cases b with
  | ofNat n =>
   simp only[QZ,EH];exact decide_eq_decide.2 (Int.ofNat_inj (m:=m) (n:=n)).symm
  | negSucc n=>rfl
 | negSucc m=>cases b with
  | ofNat n=>rfl
  | negSucc n =>
   simp only[QZ,EH];exact decide_eq_decide.2 (by simp)
def MW:BinOp -> Option (Int -> Int -> Bool)
 | .lss=>some λ a b=>P7 a b
 | .leq=>some λ a b=>RZ a b
 | .gtr=>some λ a b=>P7 b a
 | .geq=>some λ a b=>RZ b a
 | .eql=>some λ a b=>QZ a b
 | .neq=>some λ a b=>Po (QZ a b)
 | _=>none
theorem MX{op:BinOp}{q}(h:MW op=some q)(a b:Int):JP op a b=some (q a b):=by
 cases op <;> simp only[MW,Option.some.injEq,reduceCtorEq] at h <;> subst h <;> simp only[JP,Kx,Pp,Pq,EG] <;> rfl
section
variable (P:Program) (G N:Nat) (ops:Array Oper) (o:Oper) (k:Kt) (g:Value -> Tr Value -> Tr Value)
def R0(f:Tr Value -> Value)(ih:Ih)(r:Option Nat)(T:Tr Value)(D:List Deferred)(H:AH)(n:Nat):Option St:=fM (f T) λ v=>k ih r (g v T) D H n
def Q0(u:Value)(x y:Option St):Option St:=match u with
 | .bool b=>match b with
  | true=>x
  | false=>y
 | _=>none
def Ky(f fa fb:Tr Value -> Value)(ih:Ih)(r:Option Nat)(T:Tr Value)(D:List Deferred)(H:AH)(n:Nat):Option St:=Q0 (f T) (fM (fa T) λ v=>k ih r (g v T) D H n) (fM (fb T) λ v=>k ih r (g v T) D H n)
def Q1(u:Value)(x y:Option St):Option St:=match u with
 | .pointer p=>match p with
  | some _=>x
  | none=>y
 | _=>y
def Pr(f:Tr Value -> Value)(ih:Ih)(r:Option Nat)(T:Tr Value)(D:List Deferred)(H:AH)(n:Nat):Option St:=Q1 (f T) (fM (f T) λ v=>k ih r (g v T) D H n) (dE P G N ops o k ih r T D H n)
def Q2(q:Int -> Int -> Bool)(u v:Value)(x:Bool -> Option St)(y:Option St):Option St:=match u with
 | .int ka a=>match v with
  | .int kb b=>match SA ka kb with
   | true=>match q a b with
    | true=>x true
    | false=>x false
   | false=>y
  | _=>y
 | _=>y
def Ps(q:Int -> Int -> Bool)(f1 f2:Tr Value -> Value)(ih:Ih)(r:Option Nat)(T:Tr Value)(D:List Deferred)(H:AH)(n:Nat):Option St:=Q2 q (f1 T) (f2 T) (λ b=>k ih r (g (.bool b) T) D H n) (dE P G N ops o k ih r T D H n)
def SB(c:Nat)(u:Value)(x:Value -> Option St):Option St:=match u with
 | .pointer p=>match p with
  | some a=>match a with
   | ⟨b,off,s⟩=>match c with
    | 0=>x (.pointer (some ⟨b,off,s⟩))
    | c+1=>x (.pointer (some ⟨b,off+(c+1),none⟩))
  | none=>none
 | _=>none
def Pt(c:Nat)(f:Tr Value -> Value)(ih:Ih)(r:Option Nat)(T:Tr Value)(D:List Deferred)(H:AH)(n:Nat):Option St:=SB c (f T) λ v=>k ih r (g v T) D H n
def ldB(off:Nat)(s:Option Nat)(b:Option AB)(x:Value -> Option St):Option St:=match s with
 | none=>match b with
  | some c=>match c with
   | .cells n tr _ _ _=>match Nat.blt off n with
    | true=>fM (dz tr off) x
    | false=>none
   | _=>none
  | none=>none
 | some _=>none
def ldR(H:AH)(u:Value)(x:Value -> Option St):Option St:=match u with
 | .pointer p=>match p with
  | some a=>match a with
   | ⟨b,off,s⟩=>ldB off s (cw H b) x
  | none=>none
 | _=>none
def SC(f:Tr Value -> Value)(ih:Ih)(r:Option Nat)(T:Tr Value)(D:List Deferred)(H:AH)(n:Nat):Option St:=ldR H (f T) λ v=>k ih r (g v T) D H n
def laB(off c:Nat)(s:Option Nat)(b:Option AB)(x:Value -> Option St):Option St:=match s with
 | none=>match b with
  | some ab=>match ab with
   | .cells n tr _ _ _=>match Nat.ble (off+c) n with
    | true=>Dj (jf tr off c) λ l=>x (.agg ⟨l⟩)
    | false=>none
   | _=>none
  | none=>none
 | some _=>none
def laR(c:Nat)(H:AH)(u:Value)(x:Value -> Option St):Option St:=match u with
 | .pointer p=>match p with
  | some a=>match a with
   | ⟨b,off,s⟩=>laB off c s (cw H b) x
  | none=>none
 | _=>none
def SD(c:Nat)(f:Tr Value -> Value)(ih:Ih)(r:Option Nat)(T:Tr Value)(D:List Deferred)(H:AH)(n:Nat):Option St:=laR c H (f T) λ v=>k ih r (g v T) D H n
def alF(b:AB)(ih:Ih)(r:Option Nat)(T:Tr Value)(D:List Deferred)(H:AH)(n:Nat):Option St:=k ih r (g (.pointer (some ⟨n,0,none⟩)) T) D (dw H n (some b)) (n+1)
def ixR(c:Nat)(u i:Value)(x:Value -> Option St):Option St:=match u with
 | .slice p m _=>match p with
  | some a=>match i with
   | .int _ i=>match i with
    | .ofNat i=>match Nat.blt i m with
     | true=>match a with
      | ⟨b,off,s⟩=>match i*c with
       | 0=>x (.pointer (some ⟨b,off,s⟩))
       | j+1=>x (.pointer (some ⟨b,off+(j+1),none⟩))
     | false=>none
    | _=>none
   | _=>none
  | none=>none
 | _=>none
def SE(c:Nat)(f1 f2:Tr Value -> Value)(ih:Ih)(r:Option Nat)(T:Tr Value)(D:List Deferred)(H:AH)(n:Nat):Option St:=ixR c (f1 T) (f2 T) λ v=>k ih r (g v T) D H n
def stB(off:Nat)(s:Option Nat)(v:Value)(b:Option AB)(x:AB -> Option St)(y:Option St):Option St:=match s with
 | none=>match b with
  | some c=>match c with
   | .cells n tr ty w ro=>match ro with
    | false=>match Nat.blt off n with
     | true=>x (.cells n (vw tr off v) ty w false)
     | false=>y
    | true=>y
   | _=>y
  | none=>y
 | some _=>y
def EI(v:Value):Bool:=match v with
 | .agg _=>false
 | .tuple _=>false
 | _=>true
def stR(H:AH)(u v:Value)(x:Nat -> AB -> Option St)(y:Option St):Option St:=match EI v with
 | true=>match u with
  | .pointer p=>match p with
   | some a=>match a with
    | ⟨b,off,s⟩=>fM v λ v=>stB off s v (cw H b) (x b) y
   | none=>y
  | _=>y
 | false=>y
def SF(f1 f2:Tr Value -> Value)(ih:Ih)(r:Option Nat)(T:Tr Value)(D:List Deferred)(H:AH)(n:Nat):Option St:=stR H (f1 T) (f2 T) (λ b ab=>k ih r T D (dw H b (some ab)) n) (dE P G N ops o k ih r T D H n)
def R1(x:Option Rs)(y:Value -> AH -> Nat -> Option St):Option St:=match x with
 | some x=>match x with
  | .fn v H n=>fM v λ v=>y v H n
  | .cd _ _=>none
 | none=>none
def SG(f:FuncId)(as:Tr Value -> List Value)(ih:Ih)(r:Option Nat)(T:Tr Value)(D:List Deferred)(H:AH)(n:Nat):Option St:=R1 (ih (.fn f (as T) H n)) λ v H n=>k ih r (g v T) D H n
def SH(f:FuncId)(as:Tr Value -> List Value)(ih:Ih)(r:Option Nat)(T:Tr Value)(D:List Deferred)(H:AH)(n:Nat):Option St:=R1 (ih (.fn f (as T) H n)) λ v H n=>k ih r T D H n
end
section
variable {P:Program} {G N:Nat} {ops:Array Oper} {o:Oper} {k:Kt} {g:Value -> Tr Value -> Tr Value}
theorem gB(hd:jL N o.dst=.ok g)(ih:Ih)(r:Option Nat)(T:Tr Value)(D:List Deferred)(v:Value)(H:AH)(n:Nat):qr N o k ih r T D v H n=k ih r (g v T) D H n:=by
 rw[qr,EC hd]
theorem EJ(hd:jL N o.dst=.no)(ih:Ih)(r:Option Nat)(T:Tr Value)(D:List Deferred)(v:Value)(H:AH)(n:Nat):qr N o k ih r T D v H n=k ih r T D H n:=by
 rw[qr,ED hd]
theorem Od(hg:o.guard=none)(ho:pH G o=true)(hd:jL N o.dst=.ok g){x:Operand}(hx:o.op=.move x \/ o.op=.assign x){f}(hf:∀T,f T=ael T x)(ih r T D H n):R0 k g f ih r T D H n=dE P G N ops o k ih r T D H n:=by
 have hc:vf P o.op=.pu:=by cases hx with|inl h=>rw[h];rfl|inr h=>rw[h];rfl
 have hp:je P o T=some (ael T x):=by unfold je;cases hx with|inl h=>rw[h]|inr h=>rw[h]
 rw[rm hg ho hc,hp,R0,hf,cZ];exact(gB hd ..).symm
theorem MY(hg:o.guard=none)(ho:pH G o=true)(hd:jL N o.dst=.ok g){c a b:Operand}(hx:o.op=.pick c a b){f fa fb}(hf:∀T,f T=ael T c)(hfa:∀T,fa T=ael T a)(hfb:∀T,fb T=ael T b)(ih r T D H n):Ky k g f fa fb ih r T D H n=dE P G N ops o k ih r T D H n:=by
 rw[rm hg ho (by rw[hx];rfl)];unfold je;rw[hx];simp only[Ky,hf,hfa,hfb,cZ];cases ael T c with
 | bool q=>cases q <;> exact(gB hd ..).symm
 | _=>rfl
theorem Pu(hg:o.guard=none)(ho:pH G o=true)(hd:jL N o.dst=.ok g){x:Operand}(hx:o.op=.nilCheck x){f}(hf:∀T,f T=ael T x)(ih r T D H n):Pr P G N ops o k g f ih r T D H n=dE P G N ops o k ih r T D H n:=by
 simp only[Pr,hf];cases he:ael T x with
 | pointer p=>cases p with
  | none=>rfl
  | some a =>
   rw[rm hg ho (by rw[hx];rfl)];unfold je;rw[hx];simp only[he,Q1,cZ];exact(gB hd ..).symm
 | _=>rfl
theorem Pv(hg:o.guard=none)(ho:pH G o=true)(hd:jL N o.dst=.ok g){op t x y z}(hx:o.op=.binOp op t x y z){q}(hq:MW op=some q){f1 f2}(hf1:∀T,f1 T=ael T x)(WE:∀T,f2 T=ael T y)(ih r T D H n):Ps P G N ops o k g q f1 f2 ih r T D H n=dE P G N ops o k ih r T D H n:=by
 simp only[Ps,hf1,WE];cases he:ael T x with
 | int ka a=>cases he2:ael T y with
  | int kb b =>
   simp only[Q2];cases hk:SA ka kb with
   | false=>rfl
   | true =>
    rw[rm hg ho (by rw[hx];rfl)];unfold je;rw[hx];rw[Pn] at hk;simp only[he,he2,MX hq,hk];cases q a b <;> exact(gB hd ..).symm
  | _=>rfl
 | _=>rfl
theorem Pw(hg:o.guard=none)(ho:pH G o=true)(hd:jL N o.dst=.ok g){t x j}(hx:o.op=.fieldAddr t x j){c ft}(hc:Aq P t j=some (c,ft)){f}(hf:∀T,f T=ael T x)(ih r T D H n):Pt k g c f ih r T D H n=dE P G N ops o k ih r T D H n:=by
 rw[rm hg ho (by rw[hx];rfl)];unfold je;rw[hx];simp only[Pt,hf,hc];cases he:ael T x with
 | pointer p=>cases p with
  | none=>rfl
  | some a=>cases a with
   | mk b off s=>cases c with
    | zero=>exact(gB hd ..).symm
    | succ c=>exact(gB hd ..).symm
 | _=>rfl
theorem Q3(hg:o.guard=none)(ho:pH G o=true)(hd:jL N o.dst=.ok g){t x}(hx:o.op=.load t x)(hc:Ap P t=true){f}(hf:∀T,f T=ael T x)(ih r T D H n):SC k g f ih r T D H n=dE P G N ops o k ih r T D H n:=by
 rw[Kw hg ho (by rw[hx];rfl)];unfold kM;rw[hx];simp only[SC,hf];cases he:ael T x with
 | pointer p=>cases p with
  | none=>rfl
  | some a=>cases a with
   | mk b off s =>
    cases s with
    | some s=>rfl
    | none =>
     simp only[ldR,wG];cases cw H b with
     | none=>rfl
     | some c=>cases c with
      | cells nn tr ty w ro =>
       simp only[ldB,hc];cases Nat.blt off nn
       ·rfl
       ·simp only[cZ];exact(gB hd ..).symm
      | _=>rfl
 | _=>rfl
theorem Q4(hg:o.guard=none)(ho:pH G o=true)(hd:jL N o.dst=.ok g){t x}(hx:o.op=.load t x)(hc:Ap P t=false){c}(ha:CY P t=some c){f}(hf:∀T,f T=ael T x)(ih r T D H n):SD k g c f ih r T D H n=dE P G N ops o k ih r T D H n:=by
 rw[Kw hg ho (by rw[hx];rfl)];unfold kM;rw[hx];simp only[SD,hf];cases he:ael T x with
 | pointer p=>cases p with
  | none=>rfl
  | some a=>cases a with
   | mk b off s =>
    cases s with
    | some s=>rfl
    | none =>
     simp only[laR,wG];cases cw H b with
     | none=>rfl
     | some ab=>cases ab with
      | cells nn tr ty w ro =>
       simp only[laB,hc,ha];cases Nat.ble (off+c) nn
       ·rfl
       ·simp only[w7];exact(gB hd ..).symm
      | _=>rfl
 | _=>rfl
theorem Q5(hg:o.guard=none)(ho:pH G o=true)(hd:jL N o.dst=.ok g){t}(hx:o.op=.alloc t){z}(hz:mC P t=some z){b}(hb:kZ z t=b)(ih r T D H n):alF k g b ih r T D H n=dE P G N ops o k ih r T D H n:=by
 rw[Pl hg ho (by rw[hx];rfl)];unfold vA;rw[hx];simp only[hz,hb];exact(gB hd ..).symm
theorem Q6(hg:o.guard=none)(ho:pH G o=true)(hd:jL N o.dst=.ok g){t x i}(hx:o.op=.indexAddr t x i){el c}(ht:P.underlying t=some (.slice el))(hc:fW P el=some c){f1 f2}(hf1:∀T,f1 T=ael T x)(WE:∀T,f2 T=ael T i)(ih r T D H n):SE k g c f1 f2 ih r T D H n=dE P G N ops o k ih r T D H n:=by
 rw[rm hg ho (by rw[hx];rfl)];unfold je;rw[hx];simp only[SE,hf1,WE,ht];cases he:ael T x with
 | slice p m cc=>cases p with
  | none=>rfl
  | some a=>cases a with
   | mk b off s=>cases he2:ael T i with
    | int ki i=>cases i with
     | ofNat i =>
      simp only[ixR,LN,hc];cases Nat.blt i m with
      | false=>rfl
      | true =>
       simp only[C0];cases i*c with
       | zero=>exact(gB hd ..).symm
       | succ j=>exact(gB hd ..).symm
     | negSucc i=>rfl
    | _=>rfl
 | _=>cases he2:ael T i <;> rfl
theorem Q7(hg:o.guard=none)(ho:pH G o=true)(hd:jL N o.dst=.no){t x y}(hx:o.op=.store t x y)(ht:fW P t=some 1){f1 f2}(hf1:∀T,f1 T=ael T x)(WE:∀T,f2 T=ael T y)(ih r T D H n):SF P G N ops o k f1 f2 ih r T D H n=dE P G N ops o k ih r T D H n:=by
 simp only[SF,hf1,WE];unfold stR;cases UQ:EI (ael T y) with
 | false=>rfl
 | true =>
  cases he:ael T x with
  | pointer p=>cases p with
   | none=>rfl
   | some a=>cases a with
    | mk b off s=>cases s with
     | some s=>simp only[cZ];rfl
     | none =>
      simp only[cZ];cases hb:cw H b with
      | none=>rfl
      | some c=>cases c with
       | cells nn tr ty w ro=>cases ro with
        | true=>rfl
        | false =>
         simp only[stB];cases iS:Nat.blt off nn with
         | false=>rfl
         | true =>
          have TA:jq (ael T y)=[ael T y]:=by
           cases hv:ael T y <;> first|rfl|(rw[hv] at UQ;simp[EI] at UQ)
          have hff:lz [ael T y]=true:=by
           cases hv:ael T y <;> first|rfl|(rw[hv] at UQ;simp[EI] at UQ)
          have hle:Nat.ble (off+1) nn=true:=iS;have he':pj P o T H n=some (.val undef (dw H b (some (.cells nn (vw tr off (ael T y)) ty w false))) n):=by
           unfold pj;rw[hx];simp only[he,yb,ht,TA,iC,qY,hb,hle,hff];rfl
          rw[Pm hg ho (by rw[hx];rfl) ih r T D H n he'];exact(EJ hd ..).symm
       | _=>rfl
  | _=>rfl
theorem Kz{f:FuncId}{c:Call}(hx:o.op=.call c)(hc:c.callee=.value (.func f))(hb:ua P f=true)(T H n):pj P o T H n=some (.ent f (pi T c.args.toList)):=by
 unfold pj;rw[hx];simp only[hc,ael,s0,hb];simp
theorem KA{f:FuncId}{c:Call}(hx:o.op=.call c)(hc:c.callee=.value (.func f)):vf P o.op=.ef:=by
 rw[hx];obtain⟨ce,a,t⟩:=c;simp only at hc;subst hc;rfl
theorem Q8(hg:o.guard=none)(ho:pH G o=true)(hd:jL N o.dst=.ok g){f:FuncId}{c:Call}(hx:o.op=.call c)(hc:c.callee=.value (.func f))(hb:ua P f=true){as}(ha:∀T,as T=pi T c.args.toList)(ih r T D H n):SG k g f as ih r T D H n=dE P G N ops o k ih r T D H n:=by
 rw[EE hg ho (KA hx hc) ih r T D H n (Kz hx hc hb T H n),SG,ha];cases ih (.fn f (pi T c.args.toList) H n) with
 | none=>rfl
 | some x=>cases x with
  | cd _ _=>rfl
  | fn v H n=>simp only[R1,cZ];exact(gB hd ..).symm
theorem Px(hg:o.guard=none)(ho:pH G o=true)(hd:jL N o.dst=.no){f:FuncId}{c:Call}(hx:o.op=.call c)(hc:c.callee=.value (.func f))(hb:ua P f=true){as}(ha:∀T,as T=pi T c.args.toList)(ih r T D H n):SH k f as ih r T D H n=dE P G N ops o k ih r T D H n:=by
 rw[EE hg ho (KA hx hc) ih r T D H n (Kz hx hc hb T H n),SH,ha];cases ih (.fn f (pi T c.args.toList) H n) with
 | none=>rfl
 | some x=>cases x with
  | cd _ _=>rfl
  | fn v H n=>simp only[R1,cZ];exact(EJ hd ..).symm
end
end
noncomputable section
def SI(P:Program)(G N:Nat)(ops:Array Oper)(o:Oper)(k:Kt)(g:Value -> Tr Value -> Tr Value):CzR:=match o.op with
 | .move x=>match cv x with
  | .mk f=>.mk (R0 k g f)
 | .assign x=>match cv x with
  | .mk f=>.mk (R0 k g f)
 | .pick c a b=>match cv c with
  | .mk f=>match cv a with
   | .mk fa=>match cv b with
    | .mk fb=>.mk (Ky k g f fa fb)
 | .nilCheck x=>match cv x with
  | .mk f=>.mk (Pr P G N ops o k g f)
 | .binOp op _ x y _=>match MW op with
  | some q=>match cv x with
   | .mk f1=>match cv y with
    | .mk f2=>.mk (Ps P G N ops o k g q f1 f2)
  | none=>.mk (dE P G N ops o k)
 | .fieldAddr t x j=>match Aq P t j with
  | some (c,_)=>match cv x with
   | .mk f=>.mk (Pt k g c f)
  | none=>.mk (dE P G N ops o k)
 | .load t x=>match Ap P t with
  | true=>match cv x with
   | .mk f=>.mk (SC k g f)
  | false=>match CY P t with
   | some c=>match cv x with
    | .mk f=>.mk (SD k g c f)
   | none=>.mk (dE P G N ops o k)
 | .alloc t=>match mC P t with
  | some z=>match kZ z t with
   | .cells a b c d e=>.mk (alF k g (.cells a b c d e))
   | _=>.mk (dE P G N ops o k)
  | none=>.mk (dE P G N ops o k)
 | .indexAddr t x i=>match P.underlying t with
  | some (.slice el)=>match fW P el with
   | some c=>match cv x with
    | .mk f1=>match cv i with
     | .mk f2=>.mk (SE k g c f1 f2)
   | none=>.mk (dE P G N ops o k)
  | _=>.mk (dE P G N ops o k)
 | .call c=>match c.callee with
  | .value (.func f)=>match ua P f with
   | true=>match ca c.args.toList with
    | .mk as=>.mk (SG k g f as)
   | false=>.mk (dE P G N ops o k)
  | _=>.mk (dE P G N ops o k)
 | _=>.mk (dE P G N ops o k)
def SJ(P:Program)(G N:Nat)(ops:Array Oper)(o:Oper)(k:Kt):CzR:=match o.op with
 | .store t x y=>match fW P t with
  | some 1=>match cv x with
   | .mk f1=>match cv y with
    | .mk f2=>.mk (SF P G N ops o k f1 f2)
  | _=>.mk (dE P G N ops o k)
 | .call c=>match c.callee with
  | .value (.func f)=>match ua P f with
   | true=>match ca c.args.toList with
    | .mk as=>.mk (SH k f as)
   | false=>.mk (dE P G N ops o k)
  | _=>.mk (dE P G N ops o k)
 | _=>.mk (dE P G N ops o k)
def KB(P:Program)(G N:Nat)(ops:Array Oper)(o:Oper)(k:Kt):CzR:=match pH G o with
 | true=>match jL N o.dst with
  | .ok g=>SI P G N ops o k g
  | .no=>SJ P G N ops o k
  | .bad=>.mk (dE P G N ops o k)
 | false=>.mk (dE P G N ops o k)
def HJ(o:Oper):Oper:=⟨o.dst,o.op,o.type,o.pos,o.after,none⟩
def SK(want:Bool)(u:Value)(x y:Option St):Option St:=match u with
 | .bool b=>match b with
  | true=>match want with
   | true=>x
   | false=>y
  | false=>match want with
   | true=>y
   | false=>x
 | .tuple _=>y
 | _=>none
def guF(want:Bool)(f:Tr Value -> Value)(h:Kt)(k:Kt)(g:Value -> Tr Value -> Tr Value)(ih:Ih)(r:Option Nat)(T:Tr Value)(D:List Deferred)(H:AH)(n:Nat):Option St:=SK want (f T) (h ih r T D H n) (k ih r (g undef T) D H n)
def guN(want:Bool)(f:Tr Value -> Value)(h:Kt)(k:Kt)(ih:Ih)(r:Option Nat)(T:Tr Value)(D:List Deferred)(H:AH)(n:Nat):Option St:=SK want (f T) (h ih r T D H n) (k ih r T D H n)
def Py(P:Program)(G N:Nat)(ops:Array Oper)(o:Oper)(nx:CzR):CzR:=match nx with
 | .mk k=>match o.guard with
  | none=>KB P G N ops o k
  | some (j,want)=>match (ops[j]?).bind (·.dst) with
   | some d=>match yj (pth d) with
    | .mk f=>match KB P G N ops (HJ o) k with
     | .mk h=>match jL N o.dst with
      | .ok g=>.mk (guF want f h k g)
      | .no=>.mk (guN want f h k)
      | .bad=>.mk (dE P G N ops o k)
   | none=>.mk (dE P G N ops o k)
def G3(P:Program)(G N:Nat)(ops:Array Oper):List Oper -> CzR
 | []=>.mk λ _ _ T D H n=>some ⟨T,D,H,n⟩
 | o::l=>Py P G N ops o (G3 P G N ops l)
def KC(P:Program)(G N:Nat)(ops:Array Oper)(o:Oper)(k:Kt)(c:CzR):Prop:=∀ih r T D H n,c.f ih r T D H n=dE P G N ops o k ih r T D H n
theorem ez{P:Program}{G N:Nat}{ops:Array Oper}{o:Oper}{k:Kt}:KC P G N ops o k (.mk (dE P G N ops o k)):=λ _ _ _ _ _ _=>rfl
theorem B3{x:Operand}{f}(h:cv x=.mk f)(T:Tr Value):f T=ael T x:=by
 have:=Oa x T;rw[h] at this;exact this
theorem cam{x:List Operand}{f}(h:ca x=.mk f)(T:Tr Value):f T=pi T x:=by
 have:=Oc x T;rw[h] at this;exact this
theorem Pz{P:Program}{G N:Nat}{ops:Array Oper}{o:Oper}{k:Kt}{g}(hg:o.guard=none)(ho:pH G o=true)(hd:jL N o.dst=.ok g):KC P G N ops o k (SI P G N ops o k g):=by
 unfold SI;split
 ·rename_i x hx;split;rename_i f hf;exact λ ih r T D H n=>Od hg ho hd (.inl hx) (B3 hf) ih r T D H n
 ·rename_i x hx;split;rename_i f hf;exact λ ih r T D H n=>Od hg ho hd (.inr hx) (B3 hf) ih r T D H n
 ·rename_i c a b hx;split;rename_i f hf;split;rename_i fa hfa;split;rename_i fb hfb;exact λ ih r T D H n=>MY hg ho hd hx (B3 hf) (B3 hfa) (B3 hfb) ih r T D H n
 ·rename_i x hx;split;rename_i f hf;exact λ ih r T D H n=>Pu hg ho hd hx (B3 hf) ih r T D H n
 ·rename_i op t x y z hx;split
  ·rename_i q hq;split;rename_i f hf;split;rename_i f2 WE;exact λ ih r T D H n=>Pv hg ho hd hx hq (B3 hf) (B3 WE) ih r T D H n
  ·exact ez
 ·rename_i t x j hx;split
  ·rename_i c ft hc;split;rename_i f hf;exact λ ih r T D H n=>Pw hg ho hd hx hc (B3 hf) ih r T D H n
  ·exact ez
 ·rename_i t x hx;split
  ·rename_i hc;split;rename_i f hf;exact λ ih r T D H n=>Q3 hg ho hd hx hc (B3 hf) ih r T D H n
  ·rename_i hc;split
   ·rename_i c ha;split;rename_i f hf;exact λ ih r T D H n=>Q4 hg ho hd hx hc ha (B3 hf) ih r T D H n
   ·exact ez
 ·rename_i t hx;split
  ·rename_i z hz;split
   ·rename_i a b c d e hb;exact λ ih r T D H n=>Q5 hg ho hd hx hz hb ih r T D H n
   ·exact ez
  ·exact ez
 ·rename_i t x i hx;split
  ·rename_i el ht;split
   ·rename_i c hc;split;rename_i f hf;split;rename_i f2 WE;exact λ ih r T D H n=>Q6 hg ho hd hx ht hc (B3 hf) (B3 WE) ih r T D H n
   ·exact ez
  ·exact ez
 ·rename_i c hx;split
  ·rename_i f hc;split
   ·rename_i hb;split;rename_i as ha;exact λ ih r T D H n=>Q8 hg ho hd hx hc hb (cam ha) ih r T D H n
   ·exact ez
  ·exact ez
 ·exact ez
theorem PA{P:Program}{G N:Nat}{ops:Array Oper}{o:Oper}{k:Kt}(hg:o.guard=none)(ho:pH G o=true)(hd:jL N o.dst=.no):KC P G N ops o k (SJ P G N ops o k):=by
 unfold SJ;split
 ·rename_i t x y hx;split
  ·rename_i hc;split;rename_i f hf;split;rename_i f2 WE;exact λ ih r T D H n=>Q7 hg ho hd hx hc (B3 hf) (B3 WE) ih r T D H n
  ·exact ez
 ·rename_i c hx;split
  ·rename_i f hc;split
   ·rename_i hb;split;rename_i as ha;exact λ ih r T D H n=>Px hg ho hd hx hc hb (cam ha) ih r T D H n
   ·exact ez
  ·exact ez
 ·exact ez
theorem EK{P:Program}{G N:Nat}{ops:Array Oper}{o:Oper}{k:Kt}(hg:o.guard=none):KC P G N ops o k (KB P G N ops o k):=by
 unfold KB;split
 ·rename_i ho;split
  ·rename_i g hd;exact Pz hg ho hd
  ·rename_i hd;exact PA hg ho hd
  ·exact ez
 ·exact ez
theorem pr(P:Program)(T:Tr Value)(o:Oper):iE P T (HJ o)=iE P T o:=by
 have e:execOp (ael T) (HJ o)=execOp (ael T) o:=by
  obtain⟨dst,op,type,pos,after,guard⟩:=o;cases op <;> rfl
 unfold iE;rw[e];rfl
theorem G4(P:Program)(T:Tr Value)(o:Oper):je P (HJ o) T=je P o T:=by
 unfold je;simp only[pr];rfl
theorem G5(P:Program)(T:Tr Value)(H:AH)(o:Oper):kM P (HJ o) T H=kM P o T H:=by
 unfold kM;simp only[pr];rfl
theorem KD(P:Program)(T:Tr Value)(H:AH)(n:Nat)(o:Oper):pj P (HJ o) T H n=pj P o T H n:=by
 unfold pj;simp only[pr];rfl
theorem KE(P:Program)(G:Nat)(ih:Ih)(r:Option Nat)(T:Tr Value)(H:AH)(n:Nat)(o:Oper):lA P G ih r (HJ o) T H n=lA P G ih r o T H n:=by
 unfold lA Ep;simp only[G4,G5,KD];rfl
theorem uy{P:Program}{G N:Nat}{ops:Array Oper}{o:Oper}{k:Kt}{j:Nat}{want:Bool}(hg:o.guard=some (j,want)){d:Tmp}(hd:(ops[j]?).bind (·.dst)=some d){f:Tr Value -> Value}(hf:∀T,f T=dz T d){h:Kt}(hh:∀ih r T D H n,h ih r T D H n=dE P G N ops (HJ o) k ih r T D H n)(ih r T D H n) :
  dE P G N ops o k ih r T D H n=SK want (f T) (h ih r T D H n) (match gc N o.dst undef T with|some T=>k ih r T D H n|none=>none):=by
 rw[hh,hf];have e:dE P G N ops (HJ o) k ih r T D H n=match lA P G ih r o T H n with
  | none=>none
  | some (.val v H n)=>fM v λ v=>match gc N o.dst v T with
   | some T=>k ih r T D H n
   | none=>none
  | some (.dfr d)=>match gc N o.dst undef T with
   | some T=>k ih r T (d::D) H n
   | none=>none:=by
  simp only[dE,fD,HJ];rw[<- KE P G ih r T H n o];rfl
 rw[e];simp only[dE,fD,hg,hd];cases dz T d with
 | bool b=>cases b <;> cases want <;> rfl
 | _=>rfl
theorem PC{P:Program}{G N:Nat}{ops:Array Oper}{o:Oper}{k:Kt}:KC P G N ops o k (Py P G N ops o (.mk k)):=by
 cases hg:o.guard with
 | none=>simp only[Py,hg];exact EK hg
 | some jw =>
  obtain⟨j,want⟩:=jw;cases hd:(ops[j]?).bind (·.dst) with
  | none=>simp only[Py,hg,hd];exact ez
  | some d =>
   cases hf:yj (pth d) with
   | mk f=>cases hh:KB P G N ops (HJ o) k with
    | mk h =>
     have hf':∀T,f T=dz T d:=λ T=>by have:=s9 (pth d) T;rw[hf] at this;exact this
     have hh':=EK (P:=P) (G:=G) (N:=N) (ops:=ops) (o:=HJ o) (k:=k) rfl;rw[hh] at hh';cases hdk:jL N o.dst with
     | ok g =>
      simp only[Py,hg,hd,hf,hh,hdk];intro ih r T D H n;rw[uy hg hd hf' hh',EC hdk];rfl
     | no =>
      simp only[Py,hg,hd,hf,hh,hdk];intro ih r T D H n;rw[uy hg hd hf' hh',ED hdk];rfl
     | bad=>simp only[Py,hg,hd,hf,hh,hdk];exact ez
theorem EL(P:Program)(G N:Nat)(ops:Array Oper):∀l,CzR.okL P G N ops l (G3 P G N ops l).f
 | []=>λ ih r T D H n=>rfl
 | o::l=>by
  have h:=EL P G N ops l;cases hk:G3 P G N ops l with
  | mk k =>
   rw[hk] at h;intro ih r T D H n;simp only[G3,hk];rw[PC];exact MU h o ih r T D H n
def R3(P:Program)(G N:Nat)(c:Code)(ih:Ih)(r:Option Nat)(T:Tr Value)(D:List Deferred)(H:AH)(n:Nat):Option (Ex × St):=kx P G ih r N c ⟨T,D,H,n⟩
def Q9(k:Kt)(ih:Ih)(r:Option Nat)(T:Tr Value)(D:List Deferred)(H:AH)(n:Nat):Option (Ex × St):=match k ih r T D H n with
 | some s=>some (.normal,s)
 | none=>none
abbrev Kc:=Ih -> Option Nat -> Tr Value -> List Deferred -> AH -> Nat -> Option (Ex × St)
def SL(x:Option (Ex × St))(y:Tr Value -> List Deferred -> AH -> Nat -> Option (Ex × St)):Option (Ex × St):=match x with
 | some p=>match p with
  | (e,s)=>match e with
   | .normal=>match s with
    | ⟨T,D,H,n⟩=>y T D H n
   | .exit id=>some (.exit id,s)
   | .ret=>some (.ret,s)
 | none=>none
def Ra(a b:Kc)(ih:Ih)(r:Option Nat)(T:Tr Value)(D:List Deferred)(H:AH)(n:Nat):Option (Ex × St):=SL (a ih r T D H n) λ T D H n=>b ih r T D H n
def Rb(u:Value)(x y:Option (Ex × St)):Option (Ex × St):=match u with
 | .bool b=>match b with
  | true=>x
  | false=>y
 | _=>none
def Oe(f:Tr Value -> Value)(a b:Kc)(ih:Ih)(r:Option Nat)(T:Tr Value)(D:List Deferred)(H:AH)(n:Nat):Option (Ex × St):=Rb (f T) (a ih r T D H n) (b ih r T D H n)
def Rc(id:Nat)(x:Option (Ex × St)):Option (Ex × St):=match x with
 | some p=>match p with
  | (e,s)=>match e with
   | .exit XS=>match Nat.beq XS id with
    | true=>some (.normal,s)
    | false=>some (.exit XS,s)
   | .normal=>some (.normal,s)
   | .ret=>some (.ret,s)
 | none=>none
def Re(id:Nat)(a:Kc)(ih:Ih)(r:Option Nat)(T:Tr Value)(D:List Deferred)(H:AH)(n:Nat):Option (Ex × St):=Rc id (a ih r T D H n)
def Rf(x:Option (Ex × St))(y:St -> Option Rs):Option (Ex × St):=match x with
 | some p=>match p with
  | (e,s)=>match e with
   | .normal=>match y s with
    | some q=>match q with
     | .cd e s=>some (e,s)
     | .fn _ _ _=>none
    | none=>none
   | .exit id=>some (.exit id,s)
   | .ret=>some (.ret,s)
 | none=>none
def Rg(N:Nat)(c:Code)(a:Kc)(ih:Ih)(r:Option Nat)(T:Tr Value)(D:List Deferred)(H:AH)(n:Nat):Option (Ex × St):=Rf (a ih r T D H n) λ s=>ih (.loop r N c s)
def jM(P:Program)(G N:Nat):Code -> CzC
 | .skip=>.mk λ _ _ T D H n=>some (.normal,⟨T,D,H,n⟩)
 | .label _=>.mk λ _ _ T D H n=>some (.normal,⟨T,D,H,n⟩)
 | .region id ops draw=>match draw with
  | false=>match G3 P G N ops ops.toList with
   | .mk k=>.mk (Q9 k)
  | true=>.mk (R3 P G N (.region id ops true))
 | .seq a b=>match jM P G N a with
  | .mk fa=>match jM P G N b with
   | .mk fb=>.mk (Ra fa fb)
 | .cond c a b=>match cv c with
  | .mk f=>match jM P G N a with
   | .mk fa=>match jM P G N b with
    | .mk fb=>.mk (Oe f fa fb)
 | .block id c=>match jM P G N c with
  | .mk fa=>.mk (Re id fa)
 | .loop c=>match jM P G N c with
  | .mk fa=>.mk (Rg N c fa)
 | .rangeFunc g ps assign body=>.mk (R3 P G N (.rangeFunc g ps assign body))
 | .exit id=>.mk λ _ _ T D H n=>some (.exit id,⟨T,D,H,n⟩)
 | .scope c=>jM P G N c
 | .goto l=>.mk (R3 P G N (.goto l))
 | .ret=>.mk λ _ _ T D H n=>some (.ret,⟨T,D,H,n⟩)
 | .refuse x=>.mk (R3 P G N (.refuse x))
def Rh(P:Program)(G N:Nat)(c:Code)(f:Kc):Prop:=∀ih r T D H n,f ih r T D H n=kx P G ih r N c ⟨T,D,H,n⟩
theorem jN(P:Program)(G N:Nat):∀c,Rh P G N c (jM P G N c).f
 | .skip=>λ _ _ _ _ _ _=>rfl
 | .label _=>λ _ _ _ _ _ _=>rfl
 | .region id ops draw=>by
  cases draw with
  | true=>exact λ _ _ _ _ _ _=>rfl
  | false =>
   have h:=EL P G N ops ops.toList;cases hk:G3 P G N ops ops.toList with
   | mk k =>
    rw[hk] at h;intro ih r T D H n;simp only[jM,hk,CzC.f,Q9,kx];have:=h ih r T D H n;simp only[CzR.f] at this;rw[this];cases oM P G ih r N ops ops.toList ⟨T,D,H,n⟩ <;> rfl
 | .seq a b=>by
  have h1:=jN P G N a;have h2:=jN P G N b;cases ha:jM P G N a with
  | mk fa=>cases hb:jM P G N b with
   | mk fb =>
    rw[ha] at h1;rw[hb] at h2;intro ih r T D H n;have e1:=h1 ih r T D H n;simp only[CzC.f] at e1;simp only[jM,ha,hb,CzC.f,Ra,kx,e1];cases kx P G ih r N a ⟨T,D,H,n⟩ with
    | none=>rfl
    | some p=>obtain⟨e,s⟩:=p;cases e with
     | normal=>obtain⟨T,D,H,n⟩:=s;exact h2 ih r T D H n
     | exit id=>rfl
     | ret=>rfl
 | .cond c a b=>by
  have h1:=jN P G N a;have h2:=jN P G N b;cases hc:cv c with
  | mk f=>cases ha:jM P G N a with
   | mk fa=>cases hb:jM P G N b with
    | mk fb =>
     rw[ha] at h1;rw[hb] at h2;intro ih r T D H n;simp only[jM,hc,ha,hb,CzC.f,Oe,kx,B3 hc];cases ael T c with
     | bool q=>cases q with
      | true=>exact h1 ih r T D H n
      | false=>exact h2 ih r T D H n
     | _=>rfl
 | .block id c=>by
  have h1:=jN P G N c;cases ha:jM P G N c with
  | mk fa =>
   rw[ha] at h1;intro ih r T D H n;have e1:=h1 ih r T D H n;simp only[CzC.f] at e1;simp only[jM,ha,CzC.f,Re,kx,e1];cases kx P G ih r N c ⟨T,D,H,n⟩ with
   | none=>rfl
   | some p=>obtain⟨e,s⟩:=p;cases e with
    | normal=>rfl
    | exit XS=>simp only[Rc];cases Nat.beq XS id <;> rfl
    | ret=>rfl
 | .loop c=>by
  have h1:=jN P G N c;cases ha:jM P G N c with
  | mk fa =>
   rw[ha] at h1;intro ih r T D H n;have e1:=h1 ih r T D H n;simp only[CzC.f] at e1;simp only[jM,ha,CzC.f,Rg,kx,e1];cases kx P G ih r N c ⟨T,D,H,n⟩ with
   | none=>rfl
   | some p=>obtain⟨e,s⟩:=p;cases e with
    | normal =>
     simp only[Rf];cases ih (.loop r N c s) with
     | none=>rfl
     | some q=>cases q <;> rfl
    | exit XS=>rfl
    | ret=>rfl
 | .rangeFunc g ps assign body=>λ _ _ _ _ _ _=>rfl
 | .exit id=>λ _ _ _ _ _ _=>rfl
 | .scope c=>by
  intro ih r T D H n;simp only[jM,kx];exact jN P G N c ih r T D H n
 | .goto l=>λ _ _ _ _ _ _=>rfl
 | .ret=>λ _ _ _ _ _ _=>rfl
 | .refuse x=>λ _ _ _ _ _ _=>rfl
def MZ:List ResultVar -> Option CzA
 | []=>some (.mk λ _=>[])
 | x::l=>match x with
  | .tmp t=>match yj (pth t) with
   | .mk f=>match MZ l with
    | some c=>match c with
     | .mk h=>some (.mk λ T=>f T::h T)
    | none=>none
  | .cell _ _=>none
theorem KF(P:Program)(H:AH)(T:Tr Value):∀ {l:List ResultVar} {h},MZ l=some (.mk h) -> qZ P T H l=some (h T)
 | [],h,e=>by simp only[MZ,Option.some.injEq,CzA.mk.injEq] at e;subst e;rfl
 | .cell _ _::l,h,e=>by simp[MZ] at e
 | .tmp t::l,h,e=>by
  simp only[MZ] at e;cases hf:yj (pth t) with
  | mk f =>
   rw[hf] at e;simp only at e;cases hl:MZ l with
   | none=>rw[hl] at e;simp at e
   | some c=>cases c with
    | mk h' =>
     rw[hl] at e;simp only[Option.some.injEq,CzA.mk.injEq] at e;subst e;have:=s9 (pth t) T;rw[hf] at this;simp only[CzV.f] at this;simp only[qZ,KF P H T hl,this];rfl
def PD(l:List Value):Nat -> Tr Value -> Tr Value:=List.rec (motive:=λ _=>Nat -> Tr Value -> Tr Value) (λ _ t=>t) (λ x _ ih i t=>fM x λ x=>ih (i+1) (eM undef x (pth i) t)) l
theorem EM:∀ (l:List Value) (i:Nat) (t:Tr Value),PD l i t=eF undef l i t
 | [],i,t=>rfl
 | x::l,i,t=>by
  have:=EM l (i+1) (eM undef x (pth i) t);show (fM x λ x=>PD l (i+1) (eM undef x (pth i) t))=_;rw[cZ,this,eF];have e:Tr.set undef x t i=eM undef x (pth i) t:=rfl;rw[e];cases eM undef x (pth i) t <;> rfl
def Ri(h:List Value):Value:=match h with
 | []=>.tuple ⟨[]⟩
 | v::l=>match l with
  | []=>v
  | w::l=>.tuple ⟨v::w::l⟩
theorem M3(h:List Value):Ri h=AA h:=by
 cases h with
 | nil=>rfl
 | cons v l=>cases l <;> rfl
def Rj(P:Program)(fn:Func)(ih:Ih)(s:St):Option Rs:=match lX P ih s.D s.H s.n with
 | some (H,n)=>match qZ P s.T H fn.results.toList with
  | some vs=>some (.fn (AA vs) H n)
  | none=>none
 | none=>none
def SM(P:Program)(fn:Func)(h:Tr Value -> List Value)(ih:Ih)(s:St):Option Rs:=match s with
 | ⟨T,D,H,n⟩=>match D with
  | []=>some (.fn (Ri (h T)) H n)
  | d::D=>Rj P fn ih ⟨T,d::D,H,n⟩
def fnR(x:Option (Ex × St))(y:St -> Option Rs):Option Rs:=match x with
 | some p=>match p with
  | (e,s)=>match e with
   | .exit _=>none
   | .normal=>y s
   | .ret=>y s
 | none=>none
def R4(N:Nat)(k:Kc)(y:Ih -> St -> Option Rs)(ih:Ih)(args:List Value)(H:AH)(n:Nat):Option Rs:=match Nat.ble (iC args) N with
 | true=>fnR (k ih none (PD args 0 .lf) [] H n) (y ih)
 | false=>none
def G6(P:Program)(G:Nat)(f:FuncId):CzF:=match uf P f with
 | some (fn,c)=>match jM P G fn.ntmps c with
  | .mk k=>match MZ fn.results.toList with
   | some h=>match h with
    | .mk h=>.mk (R4 fn.ntmps k (SM P fn h))
   | none=>.mk (R4 fn.ntmps k (Rj P fn))
 | none=>.mk λ _ _ _ _=>none
theorem PE{P:Program}{fn:Func}{h}(e:MZ fn.results.toList=some (.mk h))(ih:Ih)(s:St):SM P fn h ih s=Rj P fn ih s:=by
 obtain⟨T,D,H,n⟩:=s;cases D with
 | cons d D=>rfl
 | nil=>simp only[SM,Rj,lX,KF P H T e,M3]
theorem KG{P:Program}{G:Nat}{fn:Func}{c:Code}{f:FuncId}(hb:uf P f=some (fn,c)){k:Kc}(hk:Rh P G fn.ntmps c k){y:Ih -> St -> Option Rs}(hy:∀ih s,y ih s=Rj P fn ih s)(ih:Ih)(args:List Value)(H:AH)(n:Nat):R4 fn.ntmps k y ih args H n=jg P G ih (.fn f args H n):=by
 simp only[R4,jg,hb];cases Nat.ble (iC args) fn.ntmps with
 | false=>rfl
 | true =>
  simp only[hk ih,EM];rw[show eF undef args 0 .lf=oN args from rfl];cases kx P G ih none fn.ntmps c ⟨oN args,[],H,n⟩ with
  | none=>rfl
  | some p=>obtain⟨e,s⟩:=p;cases e with
   | exit _=>rfl
   | normal=>exact hy ih s
   | ret=>exact hy ih s
theorem M4(P:Program)(G:Nat)(f:FuncId)(ih:Ih)(args:List Value)(H:AH)(n:Nat):(G6 P G f).f ih args H n=jg P G ih (.fn f args H n):=by
 cases hb:uf P f with
 | none=>simp only[G6,hb,CzF.f,jg]
 | some p =>
  obtain⟨fn,c⟩:=p;have h1:=jN P G fn.ntmps c;cases hk:jM P G fn.ntmps c with
  | mk k =>
   rw[hk] at h1;cases hr:MZ fn.results.toList with
   | none =>
    simp only[G6,hb,hk,hr,CzF.f];exact KG hb h1 (λ _ _=>rfl) ih args H n
   | some h=>cases h with
    | mk h =>
     simp only[G6,hb,hk,hr,CzF.f];exact KG hb h1 (λ ih s=>PE hr ih s) ih args H n
def Bh(P:Program)(G:Nat)(ih:Ih)(t:Task):Option Rs:=match t with
 | .loop r N c s=>match jM P G N (.loop c) with
  | .mk k=>match s with
   | ⟨T,D,H,n⟩=>match k ih r T D H n with
    | some p=>match p with
     | (e,s)=>some (.cd e s)
    | none=>none
 | .fn f args H n=>match G6 P G f with
  | .mk k=>k ih args H n
 | t=>jg P G ih t
theorem KH(P:Program)(G:Nat)(ih:Ih)(t:Task):Bh P G ih t=jg P G ih t:=by
 cases t with
 | loop r N c s =>
  obtain⟨T,D,H,n⟩:=s;have h1:=jN P G N (.loop c);cases hk:jM P G N (.loop c) with
  | mk k =>
   rw[hk] at h1;have:=h1 ih r T D H n;simp only[CzC.f] at this;simp only[Bh,hk,jg,this];cases kx P G ih r N (.loop c) ⟨T,D,H,n⟩ with
   | none=>rfl
   | some p=>rfl
 | fn f args H n =>
  have:=M4 P G f ih args H n;cases hk:G6 P G f with
  | mk k =>
   rw[hk] at this;simp only[Bh,hk];exact this
 | _=>rfl
def KJ(P:Program)(G:Nat)(k:Nat):Ih:=Nat.rec (motive:=λ _=>Ih) (λ _=>none) (λ _ ih t=>Bh P G ih t) k
theorem EN(P:Program)(G:Nat):∀k,KJ P G k=J3 P G k
 | 0=>rfl
 | k+1=>by
  funext t;show Bh P G (KJ P G k) t=_;rw[KH,EN P G k];rfl
end
end Go.Proofs.YtdppjkjbghbnjaaGreatDoor
