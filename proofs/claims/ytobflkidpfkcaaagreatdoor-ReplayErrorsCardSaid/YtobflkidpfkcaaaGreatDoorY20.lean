import Derived.Test.YtobflkidpfkcaaaGreatDoorY19
set_option maxHeartbeats 4000000
set_option maxRecDepth 100000
set_option linter.unusedSimpArgs false
set_option linter.unusedVariables false
namespace Go.Proofs.YtobflkidpfkcaaaGreatDoor
open Go.RowKit
theorem yR:∀ (v v':Value),rE v v'=true -> v=v':=by
 intro v
 refine Value.rec (motive_1:=λ v=>∀ v',rE v v'=true -> v=v') (motive_2:=λ a=>∀ a',Cx a a'=true -> a=a') (motive_3:=λ l=>∀ l',pq l l'=true -> l=l')
  ?_ ?_ ?_ ?_ ?_ ?_ ?_ ?_ ?_ ?_ ?_ ?_ ?_ ?_ ?_ ?_ ?_ ?_ v
 case _=>intro b v' h;cases v' <;> simp [rE] at h;rw [h]
 case _ =>
  intro k n v' h
  cases v' <;> simp [rE] at h
  split at h
  ·rename_i e;simp at e h;rw [e,h]
  ·cases h
 case _=>intro k b v' h;cases v' <;> simp [rE] at h
 case _=>intro k b c v' h;cases v' <;> simp [rE] at h
 case _=>intro s v' h;cases v' <;> simp [rE] at h;rw [Dz.1 h]
 case _=>intro a v' h;cases v' <;> simp [rE] at h;rw [h]
 case _ =>
  intro a n c v' h
  cases v' <;> simp [rE] at h
  split at h
  ·rename_i e1 e2 e3;simp at e1;rw [e1,Nat.eq_of_beq_eq_true e2,Nat.eq_of_beq_eq_true e3]
  ·cases h
 case _=>intro a v' h;cases v' <;> simp [rE] at h;rw [h]
 case _=>intro a v' h;cases v' <;> simp [rE] at h
 case _ =>
  intro fn f c ih1 ih2 v' h
  cases v' <;> simp [rE] at h
  split at h
  ·rename_i e1 e2;simp at e1;rw [e1,ih1 _ e2,ih2 _ h]
  ·cases h
 case _=>intro v' h;cases v' <;> simp [rE] at h;rfl
 case _ =>
  intro t v ih v' h
  cases v' <;> simp [rE] at h
  split at h
  ·rename_i e1;rw [Nat.eq_of_beq_eq_true e1,ih _ h]
  ·cases h
 case _=>intro v' h;cases v' <;> simp [rE] at h;rfl
 case _=>intro c ih v' h;cases v' <;> simp [rE] at h;rw [ih _ h]
 case _=>intro c ih v' h;cases v' <;> simp [rE] at h;rw [ih _ h]
 case _=>intro l ih a' h;obtain ⟨l'⟩:=a';rw [ih l' (by simpa [Cx] using h)]
 case _=>intro l' h;cases l' <;> simp [pq] at h;rfl
 case _ =>
  intro v l ih1 ih2 l' h
  cases l' with
  | nil=>simp [pq] at h
  | cons v' l' =>
   rw [pq] at h
   split at h
   ·rename_i e;rw [ih1 _ e,ih2 _ h]
   ·cases h
theorem gA {i:Nat} {l:List Nat}:jI i l=true ↔ i ∈ l:=by
 induction l with
 | nil=>simp [jI]
 | cons j l ih =>
  rw [jI]
  split
  ·rename_i e;simp [Nat.eq_of_beq_eq_true e]
  ·rename_i e
   have:i ≠ j:=λ h=>by subst h;simp at e
   simp [ih,this]
theorem IQ {α:Type} (l:List α) (i:Nat):IH l i=l[i]?:=by
 induction l generalizing i with
 | nil=>rfl
 | cons v l ih=>cases i with
  | zero=>rfl
  | succ i=>simpa [IH] using ih i
theorem ol {bs:List (List Nat)}:∀ {es:List Edge} {l:List Nat},yE bs es=some l -> (∀ e ∈ es,wm e=true -> e.on < bs.length) /\ ∀ x ∈ l,∃ e ∈ es,wm e=true /\ (x=e.on \/ ∃ b,bs[e.on]?=some b /\ x ∈ b)
 | [],l,h=>by rw [yE] at h;cases h;exact ⟨λ e he=>(by cases he),λ x hx=>(by cases hx)⟩
 | e :: es,l,h=>by
  rw [yE] at h
  split at h
  ·cases h
  rename_i l0 h0
  obtain ⟨q1,q2⟩:=ol h0
  split at h
  ·rename_i hb
   cases h
   refine ⟨λ e' he' hb'=>?_,λ x hx=>?_⟩
   ·rcases List.mem_cons.1 he' with rfl | he'
    ·rw [hb] at hb';cases hb'
    ·exact q1 e' he' hb'
   ·obtain ⟨e',h1,h2⟩:=q2 x hx
    exact ⟨e',List.mem_cons_of_mem _ h1,h2⟩
  ·rename_i hb
   split at h
   ·rename_i b hbs
    cases h
    rw [IQ] at hbs
    refine ⟨λ e' he' hb'=>?_,λ x hx=>?_⟩
    ·rcases List.mem_cons.1 he' with rfl | he'
     ·exact (List.getElem?_eq_some_iff.1 hbs).1
     ·exact q1 e' he' hb'
    ·rcases List.mem_cons.1 hx with rfl | hx
     ·exact ⟨e,List.mem_cons_self,hb,.inl rfl⟩
     ·rcases List.mem_append.1 hx with hx | hx
      ·exact ⟨e,List.mem_cons_self,hb,.inr ⟨b,hbs,hx⟩⟩
      ·obtain ⟨e',h1,h2⟩:=q2 x hx
       exact ⟨e',List.mem_cons_of_mem _ h1,h2⟩
   ·cases h
theorem s8:∀ {l:List Oper} {bs0 bs:List (List Nat)},Fq l bs0=some bs -> bs.length=bs0.length+l.length /\ (∀ i,i < bs0.length -> bs[i]?=bs0[i]?) /\ ∀ j (hj:j < l.length),∃ b,bs[bs0.length+j]?=some b /\ yE (bs.take (bs0.length+j)) (l[j].after.toList)=some b
 | [],bs0,bs,h=>by rw [Fq] at h;cases h;exact ⟨by simp,λ _ _=>rfl,λ j hj=>(by simp at hj)⟩
 | o :: l,bs0,bs,h=>by
  rw [Fq] at h
  split at h
  ·rename_i b hb
   obtain ⟨q1,q2,q3⟩:=s8 h
   simp only [List.length_append,List.length_singleton] at q1 q2 q3
   have hpre:bs.take bs0.length=bs0:=by
    apply List.ext_getElem?
    intro i
    rcases Nat.lt_or_ge i bs0.length with hi | hi
    ·rw [List.getElem?_take_of_lt hi,q2 i (by omega),List.getElem?_append_left hi]
    ·rw [List.getElem?_eq_none (by rw [List.length_take];omega),List.getElem?_eq_none hi]
   refine ⟨by simp;omega,λ i hi=>by rw [q2 i (by omega),List.getElem?_append_left hi],λ j hj=>?_⟩
   cases j with
   | zero =>
    refine ⟨b,?_,?_⟩
    ·rw [Nat.add_zero,q2 _ (by omega)];simp
    ·rw [Nat.add_zero,hpre];exact hb
   | succ j =>
    obtain ⟨b',g1,g2⟩:=q3 j (by simpa using hj)
    have e:bs0.length+1+j=bs0.length+(j+1):=by omega
    rw [e] at g1 g2
    exact ⟨b',g1,g2⟩
  ·cases h
structure Stat (P:Program) (G:Nat) (ops:Array Oper) (bs:List (List Nat)):Prop where
 len:bs.length=ops.size
 ok:∀ (i:Nat) (o:Oper),ops[i]?=some o -> mM G o=true /\ ∃ l,looks ops o=some l
 pair:∀ (i j:Nat) (o o':Oper) (b':List Nat),i < j -> ops[i]?=some o -> ops[j]?=some o' -> bs[j]?=some b' -> qF P ops i o o' b'=true
 lt:∀ (i:Nat) (b:List Nat),bs[i]?=some b -> ∀ x ∈ b,x < i
 dc:∀ (i:Nat) (o:Oper) (b:List Nat),ops[i]?=some o -> bs[i]?=some b -> ∀ x ∈ b,∃ e ∈ o.after,Region.binds .any e=true /\ (x=e.on \/ ∃ b',bs[e.on]?=some b' /\ x ∈ b')
 dir:∀ (i:Nat) (o:Oper) (b:List Nat),ops[i]?=some o -> bs[i]?=some b -> ∀ e ∈ o.after,Region.binds .any e=true -> e.on < i
theorem wM (e:Edge):Region.binds .any e=wm e:=by
 unfold Region.binds wm
 cases e.ground <;> rfl
theorem oZ {P:Program} {ops:Array Oper} {o':Oper} {b':List Nat}:∀ {l:List Oper} {i:Nat},qG P ops o' b' i l=true -> ∀ j (hj:j < l.length),qF P ops (i+j) l[j] o' b'=true
 | [],i,h,j,hj=>by simp at hj
 | o :: l,i,h,j,hj=>by
  rw [qG] at h
  split at h
  ·rename_i h1
   cases j with
   | zero=>exact h1
   | succ j =>
    have:=oZ h j (by simpa using hj)
    rw [show i+(j+1)=i+1+j from by omega]
    exact this
  ·cases h
theorem qT {P:Program} {G:Nat} {ops:Array Oper} {all:List Oper}:∀ {l:List Oper} {bs:List (List Nat)} {i:Nat},sO P G ops all i l bs=true -> bs.length=l.length /\ ∀ j (hj:j < l.length),∃ b,bs[j]?=some b /\ mM G l[j]=true /\ qG P ops l[j] b 0 (all.take (i+j))=true /\ (looks ops l[j]).isSome=true
 | [],[],i,h=>⟨rfl,λ j hj=>by simp at hj⟩
 | [],_ :: _,i,h=>by simp [sO] at h
 | _ :: _,[],i,h=>by simp [sO] at h
 | o :: l,b :: bs,i,h=>by
  rw [sO] at h
  split at h
  ·rename_i h1 h2 h3
   obtain ⟨q1,q2⟩:=qT h
   refine ⟨by simp [q1],λ j hj=>?_⟩
   cases j with
   | zero=>exact ⟨b,rfl,h1,h2,h3⟩
   | succ j =>
    obtain ⟨b',g1,g2,g3,g4⟩:=q2 j (by simpa using hj)
    refine ⟨b',by simpa using g1,g2,?_,g4⟩
    rw [show i+(j+1)=i+1+j from by omega]
    exact g3
  ·cases h
theorem wN {P:Program} {G:Nat} {ops:Array Oper} {bs:List (List Nat)} (h:yF P G ops=some bs):Stat P G ops bs:=by
 unfold yF at h
 split at h
 case h_2=>cases h
 rename_i bs' hb
 split at h
 case h_2=>cases h
 rename_i hs
 cases h
 obtain ⟨q1,-,q3⟩:=s8 hb
 obtain ⟨p1,p2⟩:=qT hs
 simp only [List.length_nil,Nat.zero_add] at q1 q3
 have hlt:∀ {i:Nat} {o:Oper},ops[i]?=some o -> ∃ hi:i < ops.toList.length,ops.toList[i]=o:=λ {i o} h=>by
  obtain ⟨h1,h2⟩:=Array.getElem?_eq_some_iff.1 h
  exact ⟨by simpa using h1,by simpa using h2⟩
 have hbe:∀ {i:Nat} {o:Oper} {b:List Nat},ops[i]?=some o -> bs[i]?=some b -> yE (bs.take i) o.after.toList=some b:=λ {i o b} ho hb=>by
  obtain ⟨hi,ho'⟩:=hlt ho
  obtain ⟨b',g1,g2⟩:=q3 i hi
  rw [g1] at hb
  cases hb
  rw [ho'] at g2
  exact g2
 have hdc:∀ (i:Nat) (o:Oper) (b:List Nat),ops[i]?=some o -> bs[i]?=some b -> ∀ x ∈ b,∃ e ∈ o.after,Region.binds .any e=true /\ (x=e.on \/ ∃ b',bs[e.on]?=some b' /\ x ∈ b'):=λ i o b ho hb x hx=>by
  obtain ⟨e,h1,h2,h3⟩:=(ol (hbe ho hb)).2 x hx
  refine ⟨e,by simpa using h1,by rw [wM];exact h2,?_⟩
  rcases h3 with h3 | ⟨b',h4,h5⟩
  ·exact .inl h3
  ·have:=(List.getElem?_eq_some_iff.1 h4).1
   rw [List.getElem?_take_of_lt (by rw [List.length_take] at this;omega)] at h4
   exact .inr ⟨b',h4,h5⟩
 have hdir:∀ (i:Nat) (o:Oper) (b:List Nat),ops[i]?=some o -> bs[i]?=some b -> ∀ e ∈ o.after,Region.binds .any e=true -> e.on < i:=λ i o b ho hb e he hbind=>by
  have:=(ol (hbe ho hb)).1 e (by simpa using he) (by rw [<- wM];exact hbind)
  rw [List.length_take] at this
  omega
 refine ⟨by rw [q1];simp,λ i o ho=>?_,λ i j o o' b' hij ho ho' hb'=>?_,?_,hdc,hdir⟩
 ·obtain ⟨hi,ho'⟩:=hlt ho
  obtain ⟨b,-,g2,-,g4⟩:=p2 i hi
  rw [ho'] at g2 g4
  exact ⟨g2,Option.isSome_iff_exists.1 g4⟩
 ·obtain ⟨hj,hoj⟩:=hlt ho'
  obtain ⟨hi,hoi⟩:=hlt ho
  obtain ⟨b,g1,-,g3,-⟩:=p2 j hj
  rw [g1] at hb'
  cases hb'
  rw [hoj,Nat.zero_add] at g3
  have:=oZ g3 i (by rw [List.length_take];omega)
  simpa [hoi] using this
 ·intro i
  induction i using Nat.strongRecOn with
  | _ i ih =>
   intro b hb x hx
   have hil:i < ops.size:=by
    have:=(List.getElem?_eq_some_iff.1 hb).1
    rw [q1] at this
    simpa using this
   have ho:ops[i]?=some ops[i]:=Array.getElem?_eq_getElem hil
   obtain ⟨e,h1,h2,h3⟩:=hdc i _ b ho hb x hx
   have hlt2:=hdir i _ b ho hb e h1 h2
   rcases h3 with rfl | ⟨b',h4,h5⟩
   ·exact hlt2
   ·have:=ih _ hlt2 b' h4 x h5
    omega
section dr
variable {ν ν':Nu} {P:Program} {G N:Nat} {T T':Tr Value} {a:Act} {H H':AH} {F:HL} {w w':World} {r r':Option Nat} {ih:Task -> Option Rs}
inductive DK (P:Program) (G:Nat) (ih:Task -> Option Rs) (r:Option Nat) (N:Nat) (ops:Array Oper) (i:Nat) (o:Oper) (b:List Nat) (s:DSt):Value -> DSt -> Prop
 | no (T:Tr Value):ew ops o s.T=some false -> eX N o.dst undef s.T=some T -> DK P G ih r N ops i o b s undef { s with T:=T }
 | pu (v:Value) (T:Tr Value):ew ops o s.T=some true -> rD P o.op=.pu -> gw P o s.T=some v -> eX N o.dst v s.T=some T -> DK P G ih r N ops i o b s v { s with T:=T }
 | lo (v:Value) (T:Tr Value):ew ops o s.T=some true -> rD P o.op=.lo -> ja P o s.T s.H=some v -> eX N o.dst v s.T=some T -> DK P G ih r N ops i o b s v { s with T:=T,lds:=⟨i,o,b,s.T,v⟩ :: s.lds }
 | nw (bl:AB) (m:Mk) (T:Tr Value):ew ops o s.T=some true -> rD P o.op=.nw -> rS P o s.T=some (bl,m) -> eX N o.dst (m.val s.n) s.T=some T -> DK P G ih r N ops i o b s (m.val s.n) { s with T:=T,n:=s.n+1,pend:=s.pend++[(s.n,bl)] }
 | ef (v:Value) (H':AH) (n':Nat) (T:Tr Value):ew ops o s.T=some true -> rD P o.op=.ef -> jH P G ih r o s.T (gG s.H s.pend) s.n=some (.val v H' n') -> eX N o.dst v s.T=some T -> DK P G ih r N ops i o b s v { s with T:=T,H:=H',n:=n',pend:=[],stg:=s.stg++[(i,b,H')] }
theorem FO {ops:Array Oper} {i:Nat} {o:Oper} {b:List Nat} {s s':DSt} (h:OH P G ih r N ops i o b s=some s'):∃ v,DK P G ih r N ops i o b s v s':=by
 unfold OH at h
 split at h
 ·cases h
 ·rename_i hw
  split at h
  ·rename_i T1 hp;cases h;exact ⟨_,.no _ hw hp⟩
  ·cases h
 ·rename_i hw
  split at h
  ·rename_i hc
   split at h
   ·rename_i v hv
    split at h
    ·rename_i T1 hp;cases h;exact ⟨_,.pu _ _ hw hc hv hp⟩
    ·cases h
   ·cases h
  ·rename_i hc
   split at h
   ·rename_i v hv
    split at h
    ·rename_i T1 hp;cases h;exact ⟨_,.lo _ _ hw hc hv hp⟩
    ·cases h
   ·cases h
  ·rename_i hc
   split at h
   ·rename_i bl m hv
    split at h
    ·rename_i T1 hp;cases h;exact ⟨_,.nw _ _ _ hw hc hv hp⟩
    ·cases h
   ·cases h
  ·rename_i hc
   simp only at h
   split at h
   ·rename_i v H' n' hv
    split at h
    ·rename_i T1 hp;cases h;exact ⟨_,.ef _ _ _ _ hw hc hv hp⟩
    ·cases h
   ·cases h
theorem qU {ops:Array Oper}:∀ {l:List Oper} {bs:List (List Nat)} {k:Nat} {s d:DSt},wo P G ih r N ops k l bs s=some d -> bs.length=l.length -> ∃ (σ:Nat -> DSt) (V:Nat -> Value),σ k=s /\ σ (k+l.length)=d /\ ∀ j (hj:j < l.length),∃ b,bs[j]?=some b /\ DK P G ih r N ops (k+j) l[j] b (σ (k+j)) (V (k+j)) (σ (k+j+1))
 | [],bs,k,s,d,h,hl=>by
  rw [wo] at h
  cases h
  exact ⟨λ _=>s,λ _=>undef,rfl,rfl,λ j hj=>(by simp at hj)⟩
 | o :: l,[],k,s,d,h,hl=>by simp at hl
 | o :: l,b :: bs,k,s,d,h,hl=>by
  rw [wo] at h
  split at h
  ·rename_i s1 h1
   obtain ⟨v,hv⟩:=FO h1
   obtain ⟨σ,V,e1,e2,e3⟩:=qU h (by simpa using hl)
   refine ⟨λ x=>if x=k then s else σ x,λ x=>if x=k then v else V x,if_pos rfl,?_,λ j hj=>?_⟩
   ·simp only [List.length_cons]
    rw [if_neg (by omega),<- e2]
    congr 1;omega
   ·cases j with
    | zero =>
     refine ⟨b,rfl,?_⟩
     simp only [Nat.add_zero,if_true]
     rw [if_neg (by omega),e1]
     exact hv
    | succ j =>
     obtain ⟨b',g1,g2⟩:=e3 j (by simpa using hj)
     refine ⟨b',by simpa using g1,?_⟩
     simp only
     rw [if_neg (by omega),if_neg (by omega),if_neg (by omega)]
     have e:k+(j+1)=k+1+j:=by omega
     rw [e]
     exact g2
  ·cases h
theorem IR (hih:kc P G ih) {o:Oper} {n n':Nat} {v:Value} {H':AH} (hst:jH P G ih r o T H n=some (.val v H' n')):n <= n':=by
 unfold jH at hst
 split at hst
 ·cases hst
 rename_i y hy
 split at hst
 ·cases hst;exact uk hy
 ·split at hst
  ·rename_i hc;cases hst;exact (hih _ _ hc).1
  ·cases hst
 ·split at hst
  case h_2=>cases hst
  split at hst
  case h_2=>cases hst
  split at hst
  ·rename_i hc;cases hst;exact (hih _ _ hc).1
  ·cases hst
 ·split at hst <;> cases hst
 ·cases hst
theorem kV {dst:Option Tmp} {v:Value} (h:eX N dst v T=some T'):(∀ t,cQ T' t=if dst=some t then v else cQ T t) /\ ∀ d,dst=some d -> d < N:=by
 unfold eX at h
 split at h
 ·cases h
  exact ⟨λ t=>by simp,λ d e=>(by cases e)⟩
 ·rename_i d
  split at h
  ·rename_i hd
   cases h
   refine ⟨λ t=>?_,λ d' e=>by cases e;exact dE hd⟩
   unfold cQ rQ
   rw [iI]
   simp
  ·cases h
structure Tra (P:Program) (G:Nat) (ih:Task -> Option Rs) (r:Option Nat) (N:Nat) (ops:Array Oper) (bs:List (List Nat)) (σ:Nat -> DSt) (V:Nat -> Value):Prop where
 st:Stat P G ops bs
 stp:∀ (i:Nat) (o:Oper) (b:List Nat),ops[i]?=some o -> bs[i]?=some b -> DK P G ih r N ops i o b (σ i) (V i) (σ (i+1))
def kE (P:Program) (ops:Array Oper) (σ:Nat -> DSt) (i:Nat):Prop:=∃ o,ops[i]?=some o /\ ew ops o (σ i).T=some true /\ rD P o.op=.ef
def kA (P:Program) (ops:Array Oper) (σ:Nat -> DSt) (i:Nat):Prop:=∃ o,ops[i]?=some o /\ ew ops o (σ i).T=some true /\ rD P o.op=.nw
section tra
variable {ops:Array Oper} {bs:List (List Nat)} {σ:Nat -> DSt} {V:Nat -> Value}
theorem Tra.bef (h:Tra P G ih r N ops bs σ V) {i:Nat} {o:Oper} (ho:ops[i]?=some o):∃ b,bs[i]?=some b:=by
 have h1:=(Array.getElem?_eq_some_iff.1 ho).1
 exact ⟨_,List.getElem?_eq_getElem (by rw [h.st.len];exact h1)⟩
theorem Tra.at (h:Tra P G ih r N ops bs σ V) {i:Nat} (hi:i < ops.size):∃ o b,ops[i]?=some o /\ bs[i]?=some b /\ DK P G ih r N ops i o b (σ i) (V i) (σ (i+1)):=by
 have ho:ops[i]?=some ops[i]:=Array.getElem?_eq_getElem hi
 obtain ⟨b,hb⟩:=h.bef ho
 exact ⟨_,b,ho,hb,h.stp i _ b ho hb⟩
theorem Tra.notE (h:Tra P G ih r N ops bs σ V) {i:Nat} (hi:i < ops.size) (hn:¬ kE P ops σ i):(σ (i+1)).H=(σ i).H /\ (σ (i+1)).stg=(σ i).stg:=by
 obtain ⟨o,b,ho,hb,hk⟩:=h.at hi
 generalize hs':σ (i+1)=s' at hk ⊢
 generalize V i=v at hk
 cases hk with
 | ef v H' n' T hw hc _ _=>exact (hn ⟨o,ho,hw,hc⟩).elim
 | _=>exact ⟨rfl,rfl⟩
theorem Tra.notA (h:Tra P G ih r N ops bs σ V) {i:Nat} (hi:i < ops.size) (hn:¬ kE P ops σ i) (hn2:¬ kA P ops σ i):(σ (i+1)).pend=(σ i).pend /\ (σ (i+1)).n=(σ i).n:=by
 obtain ⟨o,b,ho,hb,hk⟩:=h.at hi
 generalize hs':σ (i+1)=s' at hk ⊢
 generalize V i=v at hk
 cases hk with
 | ef v H' n' T hw hc _ _=>exact (hn ⟨o,ho,hw,hc⟩).elim
 | nw bl m T hw hc _ _=>exact (hn2 ⟨o,ho,hw,hc⟩).elim
 | _=>exact ⟨rfl,rfl⟩
theorem Tra.isA (h:Tra P G ih r N ops bs σ V) {i:Nat} (hA:kA P ops σ i):∃ o bl m,ops[i]?=some o /\ rS P o (σ i).T=some (bl,m) /\ V i=m.val (σ i).n /\ (σ (i+1)).n=(σ i).n+1 /\ (σ (i+1)).pend=(σ i).pend++[((σ i).n,bl)]:=by
 obtain ⟨o,ho,hw,hc⟩:=hA
 obtain ⟨b,hb⟩:=h.bef ho
 have hk:=h.stp i o b ho hb
 generalize hs':σ (i+1)=s' at hk ⊢
 generalize hv:V i=v at hk ⊢
 cases hk with
 | no T hw' _=>rw [hw] at hw';cases hw'
 | pu v T _ hc' _ _=>rw [hc] at hc';cases hc'
 | lo v T _ hc' _ _=>rw [hc] at hc';cases hc'
 | ef v H' n' T _ hc' _ _=>rw [hc] at hc';cases hc'
 | nw bl m T _ _ hn _=>exact ⟨o,bl,m,ho,hn,rfl,rfl,rfl⟩
theorem Tra.isE (h:Tra P G ih r N ops bs σ V) {i:Nat} (hE:kE P ops σ i):∃ o b,ops[i]?=some o /\ bs[i]?=some b /\ rD P o.op=.ef /\ ew ops o (σ i).T=some true /\ jH P G ih r o (σ i).T (gG (σ i).H (σ i).pend) (σ i).n=some (.val (V i) (σ (i+1)).H (σ (i+1)).n) /\ (σ (i+1)).pend=[] /\ (σ (i+1)).stg=(σ i).stg++[(i,b,(σ (i+1)).H)]:=by
 obtain ⟨o,ho,hw,hc⟩:=hE
 obtain ⟨b,hb⟩:=h.bef ho
 have hk:=h.stp i o b ho hb
 generalize hs':σ (i+1)=s' at hk ⊢
 generalize hv:V i=v at hk ⊢
 cases hk with
 | no T hw' _=>rw [hw] at hw';cases hw'
 | pu v T _ hc' _ _=>rw [hc] at hc';cases hc'
 | lo v T _ hc' _ _=>rw [hc] at hc';cases hc'
 | nw bl m T _ hc' _ _=>rw [hc] at hc';cases hc'
 | ef v H' n' T _ _ hst _=>exact ⟨o,b,ho,hb,hc,hw,hst,rfl,rfl⟩
theorem Tra.put (h:Tra P G ih r N ops bs σ V) {i:Nat} {o:Oper} (ho:ops[i]?=some o):eX N o.dst (V i) (σ i).T=some (σ (i+1)).T:=by
 obtain ⟨b,hb⟩:=h.bef ho
 have hk:=h.stp i o b ho hb
 generalize hs':σ (i+1)=s' at hk ⊢
 generalize hv:V i=v at hk ⊢
 cases hk <;> assumption
theorem Tra.nle (h:Tra P G ih r N ops bs σ V) (hih:kc P G ih) {i:Nat} (hi:i < ops.size):(σ i).n <= (σ (i+1)).n:=by
 obtain ⟨o,b,ho,hb,hk⟩:=h.at hi
 generalize hs':σ (i+1)=s' at hk ⊢
 generalize hv:V i=v at hk
 cases hk with
 | ef v H' n' T hw hc hst _=>exact IR hih hst
 | nw bl m T _ _ _ _=>exact Nat.le_succ _
 | _=>exact Nat.le_refl _
theorem Tra.nles (h:Tra P G ih r N ops bs σ V) (hih:kc P G ih):∀ {i j:Nat},i <= j -> j <= ops.size -> (σ i).n <= (σ j).n:=by
 intro i j hij
 induction j with
 | zero =>
  intro _;obtain rfl:i=0:=by omega
  exact Nat.le_refl _
 | succ j ihj =>
  intro hj
  rcases Nat.lt_or_ge i (j+1) with e | e
  ·exact Nat.le_trans (ihj (by omega) (by omega)) (h.nle hih (by omega))
  ·obtain rfl:i=j+1:=by omega
   exact Nat.le_refl _
theorem Tra.Hsame (h:Tra P G ih r N ops bs σ V) {q:Nat}:∀ {j:Nat},q <= j -> j <= ops.size -> (∀ k,q <= k -> k < j -> ¬ kE P ops σ k) -> (σ j).H=(σ q).H /\ (σ j).stg=(σ q).stg:=by
 intro j hq
 induction j with
 | zero =>
  intro _ _;obtain rfl:q=0:=by omega
  exact ⟨rfl,rfl⟩
 | succ j ihj =>
  intro hj hn
  rcases Nat.lt_or_ge q (j+1) with e | e
  ·obtain ⟨h1,h2⟩:=ihj (by omega) (by omega) (λ k a b=>hn k a (by omega))
   obtain ⟨h3,h4⟩:=h.notE (i:=j) (by omega) (hn j (by omega) (by omega))
   exact ⟨h3.trans h1,h4.trans h2⟩
  ·obtain rfl:q=j+1:=by omega
   exact ⟨rfl,rfl⟩
theorem Stat.dst (h:Stat P G ops bs) {i j:Nat} {o o':Oper} {t:Tmp} (ho:ops[i]?=some o) (ho':ops[j]?=some o') (hd:o.dst=some t) (hd':o'.dst=some t):i=j:=by
 have key:∀ {i j:Nat} {o o':Oper},i < j -> ops[i]?=some o -> ops[j]?=some o' -> o.dst=some t -> o'.dst=some t -> False:=by
  intro i j o o' hij ho ho' hd hd'
  have hb:∃ b',bs[j]?=some b':=⟨_,List.getElem?_eq_getElem (by rw [h.len];exact (Array.getElem?_eq_some_iff.1 ho').1)⟩
  obtain ⟨b',hb'⟩:=hb
  have hp:=h.pair i j o o' b' hij ho ho' hb'
  unfold qF at hp
  split at hp
  ·rw [hd,hd'] at hp;simp at hp
  ·split at hp
   ·cases hp
   ·split at hp
    ·rw [hd,hd'] at hp;simp at hp
    ·cases hp
 rcases Nat.lt_trichotomy i j with e | e | e
 ·exact (key e ho ho' hd hd').elim
 ·exact e
 ·exact (key e ho' ho hd' hd).elim
theorem Tra.Tno (h:Tra P G ih r N ops bs σ V) {t:Tmp}:∀ {i:Nat},i <= ops.size -> (∀ k o,k < i -> ops[k]?=some o -> o.dst ≠ some t) -> cQ (σ i).T t=cQ (σ 0).T t:=by
 intro i
 induction i with
 | zero=>intro _ _;rfl
 | succ i ihi =>
  intro hi hn
  obtain ⟨o,b,ho,hb,hk⟩:=h.at (i:=i) (by omega)
  rw [(kV (h.put ho)).1 t,if_neg (hn i o (by omega) ho)]
  exact ihi (by omega) (λ k o hk=>hn k o (by omega))
theorem Tra.Tyes (h:Tra P G ih r N ops bs σ V) {t:Tmp} {j:Nat} {o:Oper} (ho:ops[j]?=some o) (hd:o.dst=some t):∀ {i:Nat},j < i -> i <= ops.size -> cQ (σ i).T t=V j:=by
 intro i
 induction i with
 | zero=>intro hj;omega
 | succ i ihi =>
  intro hj hi
  obtain ⟨o',b,ho',hb,hk⟩:=h.at (i:=i) (by omega)
  rw [(kV (h.put ho')).1 t]
  by_cases e:i=j
  ·subst e
   rw [ho] at ho'
   cases ho'
   rw [if_pos hd]
  ·rw [if_neg (λ hd'=>e (h.st.dst ho' ho hd' hd))]
   exact ihi (by omega) (by omega)
inductive Rch:List Nat -> AH -> List (Nat × List Nat × AH) -> List Nat -> AH -> List (Nat × List Nat × AH) -> Prop
 | here (be:List Nat) (H:AH) (l:List (Nat × List Nat × AH)):Rch be H l be H l
 | next {be be' be'':List Nat} {H H' H'':AH} {e:Nat} {l l':List (Nat × List Nat × AH)}:Rch be' H' l be'' H'' l' -> Rch be H ((e,be',H') :: l) be'' H'' l'
theorem Rch.snoc {be be' b:List Nat} {H H' h:AH} {e:Nat} {l l':List (Nat × List Nat × AH)} (hr:Rch be H l be' H' ((e,b,h) :: l')):Rch be H l b h l':=by
 generalize hx:(e,b,h) :: l'=x at hr
 induction hr with
 | here be H l=>subst hx;exact .next (.here _ _ _)
 | next _ ih=>exact .next (ih hx)
theorem CI {d:DLd} {be be':List Nat} {H H':AH} {l l':List (Nat × List Nat × AH)} (h:rT P d be H l=true) (hr:Rch be H l be' H' l'):d.i ∈ be' \/ (∃ e b h x,l'=(e,b,h) :: x /\ e ∈ d.b) \/ N7 P d H'=true:=by
 induction hr with
 | here be H l =>
  cases l with
  | nil =>
   rw [rT] at h
   split at h
   ·rename_i e;exact .inl (gA.1 e)
   ·exact .inr (.inr h)
  | cons x l =>
   obtain ⟨e,b,hh⟩:=x
   rw [rT] at h
   split at h
   ·rename_i e1
    rw [Bool.or_eq_true] at e1
    rcases e1 with e1 | e1
    ·exact .inl (gA.1 e1)
    ·exact .inr (.inl ⟨e,b,hh,l,rfl,gA.1 e1⟩)
   ·split at h
    ·rename_i e2;exact .inr (.inr e2)
    ·cases h
 | next _ ih =>
  rw [rT] at h
  split at h
  ·exact ih h
  ·split at h
   ·exact ih h
   ·cases h
theorem qV {H:AH} {stg:List (Nat × List Nat × AH)}:∀ {l:List DLd},Ai P H stg l=true -> ∀ d ∈ l,rT P d [] H stg=true
 | [],_,d,hd=>by cases hd
 | x :: l,h,d,hd=>by
  rw [Ai] at h
  split at h
  ·rename_i e
   rcases List.mem_cons.1 hd with rfl | hd
   ·exact e
   ·exact qV h d hd
  ·cases h
theorem Tra.rch (h:Tra P G ih r N ops bs σ V) (h0:(σ 0).stg=[]):∀ {i:Nat},i <= ops.size -> ∃ be,(∀ rest,Rch [] (σ 0).H ((σ i).stg++rest) be (σ i).H rest) /\ (be=[] \/ ∃ e,e < i /\ kE P ops σ e /\ bs[e]?=some be /\ ∀ k,e < k -> k < i -> ¬ kE P ops σ k):=by
 intro i
 induction i with
 | zero=>intro _;exact ⟨[],λ rest=>by rw [h0];exact .here _ _ _,.inl rfl⟩
 | succ i ihi =>
  intro hi
  obtain ⟨be,h1,h2⟩:=ihi (by omega)
  by_cases hE:kE P ops σ i
  ·obtain ⟨o,b,ho,hb,hc,hw,hst,hp,hs⟩:=h.isE hE
   refine ⟨b,λ rest=>?_,.inr ⟨i,by omega,hE,hb,λ k a b=>by omega⟩⟩
   rw [hs,List.append_assoc]
   exact (h1 _).snoc
  ·obtain ⟨e1,e2⟩:=h.notE (i:=i) (by omega) hE
   refine ⟨be,λ rest=>by rw [e1,e2];exact h1 rest,?_⟩
   rcases h2 with h2 | ⟨e,g1,g2,g3,g4⟩
   ·exact .inl h2
   ·refine .inr ⟨e,by omega,g2,g3,λ k a b=>?_⟩
    rcases Nat.lt_or_ge k i with hk | hk
    ·exact g4 k a hk
    ·obtain rfl:k=i:=by omega
     exact hE
theorem Tra.stgs (h:Tra P G ih r N ops bs σ V) {q:Nat}:∀ {j:Nat},q <= j -> j <= ops.size -> ∃ rest,(σ j).stg=(σ q).stg++rest /\ (rest=[] \/ ∃ e b hh l,rest=(e,b,hh) :: l /\ q <= e /\ kE P ops σ e):=by
 intro j hq
 induction j with
 | zero =>
  intro _;obtain rfl:q=0:=by omega
  exact ⟨[],by simp,.inl rfl⟩
 | succ j ihj =>
  intro hj
  rcases Nat.lt_or_ge q (j+1) with e | e
  ·obtain ⟨rest,h1,h2⟩:=ihj (by omega) (by omega)
   by_cases hE:kE P ops σ j
   ·obtain ⟨o,b,ho,hb,hc,hw,hst,hp,hs⟩:=h.isE hE
    refine ⟨rest++[(j,b,(σ (j+1)).H)],by rw [hs,h1,List.append_assoc],.inr ?_⟩
    rcases h2 with rfl | ⟨e,b',hh,l,rfl,g2,g3⟩
    ·exact ⟨j,b,_,[],rfl,by omega,hE⟩
    ·exact ⟨e,b',hh,_,rfl,g2,g3⟩
   ·obtain ⟨e1,e2⟩:=h.notE (i:=j) (by omega) hE
    exact ⟨rest,by rw [e2,h1],h2⟩
  ·obtain rfl:q=j+1:=by omega
   exact ⟨[],by simp,.inl rfl⟩
theorem Tra.lds (h:Tra P G ih r N ops bs σ V) {d:DLd} {i:Nat}:∀ {j:Nat},i <= j -> j <= ops.size -> d ∈ (σ i).lds -> d ∈ (σ j).lds:=by
 intro j hij
 induction j with
 | zero =>
  intro _ hd;obtain rfl:i=0:=by omega
  exact hd
 | succ j ihj =>
  intro hj hd
  rcases Nat.lt_or_ge i (j+1) with e | e
  ·have h1:=ihj (by omega) (by omega) hd
   obtain ⟨o,b,ho,hb,hk⟩:=h.at (i:=j) (by omega)
   generalize hs':σ (j+1)=s' at hk ⊢
   generalize hv:V j=v at hk
   cases hk <;> first | exact h1 | exact List.mem_cons_of_mem _ h1
  ·obtain rfl:i=j+1:=by omega
   exact hd
theorem Tra.opnd (h:Tra P G ih r N ops bs σ V) {S:Nat -> Prop} {tm:Array Value} (htsz:tm.size=N)
  (dc:∀ i b,S i -> bs[i]?=some b -> ∀ x ∈ b,S x)
  (tA:∀ j o t,S j -> ops[j]?=some o -> o.dst=some t -> ∃ v',tm[t]?=some v' /\ VRi ν (V j) v')
  (tB:∀ t,t < N -> (∀ j o,S j -> ops[j]?=some o -> o.dst ≠ some t) -> ∃ v',tm[t]?=some v' /\ VRi ν (cQ (σ 0).T t) v')
  (tO:∀ t,N <= t -> cQ (σ 0).T t=undef)
  {i:Nat} {o:Oper} {b:List Nat} (ho:ops[i]?=some o) (hb:bs[i]?=some b) (hi:¬ S i) (hbS:∀ x ∈ b,S x) {l:List Tmp} (hl:looks ops o=some l) {t:Tmp} (ht:t ∈ l) :
  (∃ v',tm[t]?=some v' /\ VRi ν (cQ (σ i).T t) v') \/ (tm[t]?=none /\ cQ (σ i).T t=undef):=by
 have him:i < ops.size:=(Array.getElem?_eq_some_iff.1 ho).1
 by_cases hj:∃ (j:Nat) (o':Oper),ops[j]?=some o' /\ o'.dst=some t
 ·obtain ⟨j,o',ho',hd⟩:=hj
  have hjm:j < ops.size:=(Array.getElem?_eq_some_iff.1 ho').1
  have htN:t < N:=(kV (h.put ho')).2 t hd
  have uniq:∀ k o2,ops[k]?=some o2 -> o2.dst=some t -> k=j:=λ k o2 h1 h2=>h.st.dst h1 ho' h2 hd
  rcases Nat.lt_trichotomy j i with e | e | e
  ·have hp:=h.st.pair j i o' o b e ho' ho hb
   by_cases hm:jI j b=true
   ·have hS:=hbS j (gA.1 hm)
    rw [h.Tyes ho' hd e (by omega)]
    exact .inl (tA j o' t hS ho' hd)
   ·exfalso
    have hm':jI j b=false:=by simpa using hm
    have hmt:jI t l=true:=gA.2 ht
    obtain ⟨l',hl'⟩:=(h.st.ok j o' ho').2
    unfold qF at hp
    rw [hm'] at hp
    simp only [hl,hl',hd] at hp
    split at hp
    ·cases hp
    ·cases hdo:o.dst <;> simp [hdo,hmt] at hp
  ·subst e
   rw [ho] at ho'
   cases ho'
   rw [h.Tno (by omega) (λ k o2 hk h1 h2=>by have:=uniq k o2 h1 h2;omega)]
   exact .inl (tB t htN (λ k o2 hS h1 h2=>by have:=uniq k o2 h1 h2;subst this;exact hi hS))
  ·obtain ⟨b',hb'⟩:=h.bef ho'
   have hp:=h.st.pair i j o o' b' e ho ho' hb'
   by_cases hm:jI i b'=true
   ·have hnS:¬ S j:=λ hS=>hi (dc j b' hS hb' i (gA.1 hm))
    rw [h.Tno (by omega) (λ k o2 hk h1 h2=>by have:=uniq k o2 h1 h2;omega)]
    exact .inl (tB t htN (λ k o2 hS h1 h2=>by have:=uniq k o2 h1 h2;subst this;exact hnS hS))
   ·exfalso
    have hm':jI i b'=false:=by simpa using hm
    have hmt:jI t l=true:=gA.2 ht
    obtain ⟨l',hl'⟩:=(h.st.ok j o' ho').2
    unfold qF at hp
    rw [hm'] at hp
    simp only [hl,hl',hd] at hp
    split at hp
    ·cases hp
    ·cases hdo:o.dst <;> simp [hdo,hmt] at hp
 ·have hno:∀ (k:Nat) (o2:Oper),ops[k]?=some o2 -> o2.dst ≠ some t:=λ k o2 h1 h2=>hj ⟨k,o2,h1,h2⟩
  rw [h.Tno (by omega) (λ k o2 _ h1=>hno k o2 h1)]
  rcases Nat.lt_or_ge t N with e | e
  ·exact .inl (tB t e (λ k o2 _ h1=>hno k o2 h1))
  ·exact .inr ⟨Array.getElem?_eq_none (by omega),tO t e⟩
theorem HR.mono (hH:HR ν H F w) (hl:ν.Le ν'):HR ν' H F w:=by
 have key:∀ h b r K,bO H h=some b -> ν' h=some (r,K) -> ν h=some (r,K):=λ h b r K hb hν=>by
  obtain ⟨r',K',o,h1,-⟩:=hH.blk h b hb
  rw [hl _ _ h1] at hν
  rw [h1,hν]
 exact ⟨λ h b hb=>let ⟨r,K,o,h1,h2,h3⟩:=hH.blk h b hb;⟨r,K,o,hl _ _ h1,h2,h3.mono hl⟩,λ h1 h2 b1 b2 r K1 K2 e1 e2 e3 e4=>hH.inj _ _ _ _ _ _ _ e1 e2 (key _ _ _ _ e1 e3) (key _ _ _ _ e2 e4),hH.frm,λ h b r K e1 e2=>hH.apt h b r K e1 (key _ _ _ _ e1 e2)⟩
theorem HR.less {F':HL} (hH:HR ν H F w) (h:∀ x ∈ F',x ∈ F):HR ν H F' w:=⟨hH.blk,hH.inj,λ x hx=>hH.frm x (h x hx),λ k b r K e1 e2 x hx=>hH.apt k b r K e1 e2 x (h x hx)⟩
theorem HR.place (hH:HR ν H F w) {n r K:Nat} {b:AB} {o:Obj} (hn:ν n=some (r,K)) (hr:w.heap[r]?=some o) (ho:OR ν K b o) (hF:∀ x ∈ F,x.1 ≠ r) (hfr:∀ k b' r' K',bO H k=some b' -> ν k=some (r',K') -> r' ≠ r):HR ν (cP H n (some b)) F w:=by
 have old:∀ k b',bO (cP H n (some b)) k=some b' -> k ≠ n -> bO H k=some b':=λ k b' hk hne=>by
  rw [dq,if_neg (Ne.symm hne)] at hk;exact hk
 refine ⟨λ k b' hk=>?_,λ k1 k2 b1 b2 q K1 K2 h1 h2 h3 h4=>?_,hH.frm,λ k b' q K' hk hq x hx=>?_⟩
 ·by_cases e:k=n
  ·subst e
   rw [dq,if_pos rfl] at hk
   cases hk
   exact ⟨r,K,o,hn,hr,ho⟩
  ·exact hH.blk k b' (old k b' hk e)
 ·by_cases e1:k1=n
  ·by_cases e2:k2=n
   ·rw [e1,e2]
   ·subst e1
    rw [hn] at h3
    cases h3
    exact (hfr _ _ _ _ (old _ _ h2 e2) h4 rfl).elim
  ·by_cases e2:k2=n
   ·subst e2
    rw [hn] at h4
    cases h4
    exact (hfr _ _ _ _ (old _ _ h1 e1) h3 rfl).elim
   ·exact hH.inj _ _ _ _ _ _ _ (old _ _ h1 e1) (old _ _ h2 e2) h3 h4
 ·by_cases e:k=n
  ·subst e
   rw [hn] at hq
   cases hq
   exact hF x hx
  ·exact hH.apt _ _ _ _ (old _ _ hk e) hq x hx
theorem wO (H:AH):∀ (l:List (Nat × AB)) (h:Nat) (b:AB),gG H (l++[(h,b)])=cP (gG H l) h (some b):=by
 intro l
 induction l generalizing H with
 | nil=>intro h b;rfl
 | cons x l ih=>obtain ⟨h',b'⟩:=x;intro h b;exact ih _ h b
theorem FP (a:Act) (dst:Option Tmp) (v:Value) (t:Nat):(a.put dst v).tmps[t]?=if dst=some t then (if t < a.tmps.size then some v else none) else a.tmps[t]?:=by
 cases dst with
 | none=>simp [Act.put]
 | some d =>
  simp only [Act.put,Option.some.injEq]
  rw [Array.getElem?_setIfInBounds]
  by_cases e:d=t
  ·subst e;simp
  ·simp [e]
theorem FQ (a:Act) (dst:Option Tmp) (v:Value):(a.put dst v).tmps.size=a.tmps.size:=by cases dst <;> simp [Act.put]
structure Pen (P:Program) (ops:Array Oper) (σ:Nat -> DSt) (S:Nat -> Prop) (F:HL) (ν:Nu) (w:World) (q:Nat) (βb βK:Nat -> Nat) (βo:Nat -> Obj):Prop where
 be:∀ k,kA P ops σ k -> S k -> q <= k -> ν (σ k).n=some (βb k,βK k) /\ w.heap[βb k]?=some (βo k) /\ ∀ o bl m,ops[k]?=some o -> rS P o (σ k).T=some (bl,m) -> OR ν (βK k) bl (βo k)
 bi:∀ k k',kA P ops σ k -> S k -> q <= k -> kA P ops σ k' -> S k' -> q <= k' -> k ≠ k' -> βb k ≠ βb k'
 bf:∀ k,kA P ops σ k -> S k -> q <= k -> ∀ x ∈ F,x.1 ≠ βb k
 bh:∀ k,kA P ops σ k -> S k -> q <= k -> ∀ h b r K,bO (σ q).H h=some b -> ν h=some (r,K) -> r ≠ βb k
theorem Tra.placed (h:Tra P G ih r N ops bs σ V) {S:Nat -> Prop} {q:Nat} {βb βK:Nat -> Nat} {βo:Nat -> Obj} (hp:Pen P ops σ S F ν w q βb βK βo) (hH:HR ν (σ q).H F w) (hq0:(σ q).pend=[]):∀ {j:Nat},q <= j -> j <= ops.size -> (∀ k,q <= k -> k < j -> ¬ kE P ops σ k) -> (∀ k,q <= k -> k < j -> kA P ops σ k -> S k) ->
  HR ν (gG (σ q).H (σ j).pend) F w /\ ∀ hd b r K,bO (gG (σ q).H (σ j).pend) hd=some b -> ν hd=some (r,K) -> ∀ k,kA P ops σ k -> S k -> j <= k -> r ≠ βb k:=by
 intro j hq
 induction j with
 | zero =>
  intro _ _ _
  obtain rfl:q=0:=by omega
  rw [hq0]
  exact ⟨hH,λ hd b r K e1 e2 k k1 k2 k3=>hp.bh k k1 k2 k3 hd b r K e1 e2⟩
 | succ j ihj =>
  intro hj hnE hA
  rcases Nat.lt_or_ge q (j+1) with e | e
  ·obtain ⟨g1,g2⟩:=ihj (by omega) (by omega) (λ k a b=>hnE k a (by omega)) (λ k a b=>hA k a (by omega))
   have hE:=hnE j (by omega) (by omega)
   by_cases hAj:kA P ops σ j
   ·obtain ⟨o,bl,m,ho,hn,hv,hnn,hpd⟩:=h.isA hAj
    have hS:=hA j (by omega) (by omega) hAj
    obtain ⟨b1,b2,b3⟩:=hp.be j hAj hS (by omega)
    rw [hpd,wO]
    refine ⟨g1.place b1 b2 (b3 o bl m ho hn) (hp.bf j hAj hS (by omega)) (λ k b' r' K' e1 e2=>g2 k b' r' K' e1 e2 j hAj hS (Nat.le_refl _)),λ hd b r K e1 e2 k k1 k2 k3=>?_⟩
    rw [dq] at e1
    split at e1
    ·rename_i e3
     subst e3
     rw [b1] at e2
     cases e2
     exact hp.bi j k hAj hS (by omega) k1 k2 (by omega) (by omega)
    ·exact g2 hd b r K e1 e2 k k1 k2 (by omega)
   ·obtain ⟨e1,e2⟩:=h.notA (i:=j) (by omega) hE hAj
    rw [e1]
    exact ⟨g1,λ hd b r K e1 e2 k k1 k2 k3=>g2 hd b r K e1 e2 k k1 k2 (by omega)⟩
  ·obtain rfl:q=j+1:=by omega
   rw [hq0]
   exact ⟨hH,λ hd b r K e1 e2 k k1 k2 k3=>hp.bh k k1 k2 k3 hd b r K e1 e2⟩
abbrev iV (listed:Array Bool) (j:Nat):Prop:=listed.getD j false=true
structure DInv (P:Program) (G N:Nat) (ops:Array Oper) (bs:List (List Nat)) (σ:Nat -> DSt) (V:Nat -> Value) (F:HL) (ν0:Nu) (D0:List Deferred) (r r':Option Nat) (w0:World) (listed:Array Bool) (ν:Nu) (a:Act) (w:World) (q:Nat) (βb βK:Nat -> Nat) (βo:Nat -> Obj):Prop where
 sz:listed.size=ops.size
 dc:∀ (i:Nat) (b:List Nat),iV listed i -> bs[i]?=some b -> ∀ x ∈ b,iV listed x
 g:Glb ν G
 rr:RR ν r r'
 tsz:a.tmps.size=N
 tA:∀ (j:Nat) (o:Oper) (t:Tmp),iV listed j -> ops[j]?=some o -> o.dst=some t -> ∃ v',a.tmps[t]?=some v' /\ VRi ν (V j) v'
 tB:∀ (t:Tmp),t < N -> (∀ (j:Nat) (o:Oper),iV listed j -> ops[j]?=some o -> o.dst ≠ some t) -> ∃ v',a.tmps[t]?=some v' /\ VRi ν (cQ (σ 0).T t) v'
 fr:∀ j,j < ops.size -> ¬ iV listed j -> Fr ν (σ j).n (σ (j+1)).n
 ex:Ext ν0 ν (σ 0).n (σ ops.size).n
 d:DsR ν D0 a.defers
 qq:q <= ops.size /\ (q=0 \/ ∃ e,q=e+1 /\ kE P ops σ e /\ iV listed e)
 qe:∀ e,kE P ops σ e -> (iV listed e ↔ e < q)
 h:HR ν (σ q).H F w
 pen:Pen P ops σ (iV listed) F ν w q βb βK βo
 bw:Below 0 w0 w
theorem IU {listed:Array Bool} {i j:Nat} (hi:i < listed.size):iV (listed.setIfInBounds i true) j ↔ (iV listed j \/ j=i):=by
 unfold iV
 by_cases e:i=j
 ·subst e
  simp [Array.getD_eq_getD_getElem?,hi]
 ·rw [getD_set_ne _ e]
  constructor
  ·exact .inl
  ·rintro (h | h)
   ·exact h
   ·exact (e h.symm).elim
theorem DInv.step (h:Tra P G ih r N ops bs σ V) {ν0:Nu} {D0:List Deferred} {w0:World} {listed:Array Bool} {q:Nat} {βb βK:Nat -> Nat} {βo:Nat -> Obj} (I:DInv P G N ops bs σ V F ν0 D0 r r' w0 listed ν a w q βb βK βo)
  {i:Nat} {o:Oper} {b:List Nat} (ho:ops[i]?=some o) (hb:bs[i]?=some b) (hi:¬ iV listed i) (hbS:∀ x ∈ b,iV listed x) {v':Value} (hl:ν.Le ν') (hv:VRi ν' (V i) v') {q':Nat} {βb' βK':Nat -> Nat} {βo':Nat -> Obj}
  (hfr:∀ j,j < ops.size -> ¬ iV listed j -> j ≠ i -> Fr ν' (σ j).n (σ (j+1)).n) (hex:Ext ν0 ν' (σ 0).n (σ ops.size).n)
  (hq:q' <= ops.size /\ (q'=0 \/ ∃ e,q'=e+1 /\ kE P ops σ e /\ (iV listed e \/ e=i))) (hqe:∀ e,kE P ops σ e -> ((iV listed e \/ e=i) ↔ e < q'))
  (hH:HR ν' (σ q').H F w') (hpen:Pen P ops σ (λ j=>iV listed j \/ j=i) F ν' w' q' βb' βK' βo') (hw:Below 0 w w') :
  DInv P G N ops bs σ V F ν0 D0 r r' w0 (listed.setIfInBounds i true) ν' (a.put o.dst v') w' q' βb' βK' βo':=by
 have him:i < ops.size:=(Array.getElem?_eq_some_iff.1 ho).1
 have hil:i < listed.size:=by rw [I.sz];exact him
 have hS:∀ j,iV (listed.setIfInBounds i true) j ↔ (iV listed j \/ j=i):=λ j=>IU hil
 have hdN:∀ d,o.dst=some d -> d < N:=(kV (h.put ho)).2
 refine ⟨by simpa using I.sz,λ j b' hj hb' x hx=>?_,I.g.mono hl,I.rr.mono hl,by rw [FQ];exact I.tsz,λ j o' t hj ho' hd=>?_,λ t ht hno=>?_,λ j hj hnj=>?_,hex,by rw [fo];exact I.d.mono hl,?_,λ e he=>?_,hH,?_,I.bw.trans hw⟩
 ·rw [hS] at hj ⊢
  rcases hj with hj | rfl
  ·exact .inl (I.dc j b' hj hb' x hx)
  ·rw [hb] at hb';cases hb';exact .inl (hbS x hx)
 ·rw [hS] at hj
  rw [FP]
  rcases hj with hj | rfl
  ·have hne:o.dst ≠ some t:=λ e=>by
    have:=h.st.dst ho ho' e hd
    subst this
    exact hi hj
   rw [if_neg hne]
   obtain ⟨v2,e1,e2⟩:=I.tA j o' t hj ho' hd
   exact ⟨v2,e1,e2.mono hl⟩
  ·rw [ho] at ho';cases ho'
   rw [if_pos hd,if_pos (by rw [I.tsz];exact hdN t hd)]
   exact ⟨v',rfl,hv⟩
 ·rw [FP,if_neg (hno i o ((hS i).2 (.inr rfl)) ho)]
  obtain ⟨v2,e1,e2⟩:=I.tB t ht (λ j o' hj ho'=>hno j o' ((hS j).2 (.inl hj)) ho')
  exact ⟨v2,e1,e2.mono hl⟩
 ·rw [hS] at hnj
  exact hfr j hj (λ e=>hnj (.inl e)) (λ e=>hnj (.inr e))
 ·refine ⟨hq.1,?_⟩
  rcases hq.2 with e | ⟨e,h1,h2,h3⟩
  ·exact .inl e
  ·exact .inr ⟨e,h1,h2,(hS e).2 h3⟩
 ·rw [hS];exact hqe e he
 ·exact ⟨λ k k1 k2 k3=>hpen.be k k1 ((hS k).1 k2) k3,λ k k' k1 k2 k3 k4 k5 k6=>hpen.bi k k' k1 ((hS k).1 k2) k3 k4 ((hS k').1 k5) k6,λ k k1 k2 k3=>hpen.bf k k1 ((hS k).1 k2) k3,λ k k1 k2 k3=>hpen.bh k k1 ((hS k).1 k2) k3⟩
theorem DInv.still (h:Tra P G ih r N ops bs σ V) {ν0:Nu} {D0:List Deferred} {w0:World} {listed:Array Bool} {q:Nat} {βb βK:Nat -> Nat} {βo:Nat -> Obj} (I:DInv P G N ops bs σ V F ν0 D0 r r' w0 listed ν a w q βb βK βo)
  {i:Nat} {o:Oper} {b:List Nat} (ho:ops[i]?=some o) (hb:bs[i]?=some b) (hi:¬ iV listed i) (hbS:∀ x ∈ b,iV listed x) {v':Value} (hv:VRi ν (V i) v') (hnE:¬ kE P ops σ i) (hnA:¬ kA P ops σ i) :
  DInv P G N ops bs σ V F ν0 D0 r r' w0 (listed.setIfInBounds i true) ν (a.put o.dst v') w q βb βK βo:=by
 refine I.step h ho hb hi hbS (Nu.Le.refl _) hv (λ j hj hnj _=>I.fr j hj hnj) I.ex ⟨I.qq.1,?_⟩ (λ e he=>?_) I.h ?_ (Below.refl _ _)
 ·rcases I.qq.2 with e | ⟨e,h1,h2,h3⟩
  ·exact .inl e
  ·exact .inr ⟨e,h1,h2,.inl h3⟩
 ·rw [<- I.qe e he]
  constructor
  ·rintro (h1 | h1)
   ·exact h1
   ·subst h1;exact (hnE he).elim
  ·exact .inl
 ·have key:∀ k,kA P ops σ k -> (iV listed k \/ k=i) -> iV listed k:=λ k k1 k2=>by
   rcases k2 with k2 | k2
   ·exact k2
   ·subst k2;exact (hnA k1).elim
  exact ⟨λ k k1 k2 k3=>I.pen.be k k1 (key k k1 k2) k3,λ k k' k1 k2 k3 k4 k5 k6=>I.pen.bi k k' k1 (key k k1 k2) k3 k4 (key k' k4 k5) k6,λ k k1 k2 k3=>I.pen.bf k k1 (key k k1 k2) k3,λ k k1 k2 k3=>I.pen.bh k k1 (key k k1 k2) k3⟩
theorem FR {o:Oper} (h:mM G o=true):∃ l,iG o.op=some l /\ rR G l=true:=by
 unfold mM at h
 split at h
 ·rename_i l hl;exact ⟨l,hl,h⟩
 ·cases h
theorem s9 {t:Tmp}:∀ {l:List Operand},Operand.tmp t ∈ l -> t ∈ qE l
 | [],h=>by cases h
 | x :: l,h=>by
  rcases List.mem_cons.1 h with e | h'
  ·subst e;rw [qE];exact List.mem_cons_self
  ·have:=s9 h'
   cases x with
   | tmp t'=>exact List.mem_cons_of_mem _ this
   | const v=>exact this
   | global g=>exact this
   | func f=>exact this
theorem CJ {o:Oper} {l:List Operand} {lk:List Tmp} (hl:iG o.op=some l) (h:looks ops o=some lk):∀ t ∈ qE l,t ∈ lk:=by
 intro t ht
 unfold looks at h
 rw [hl] at h
 simp only at h
 split at h
 ·cases h;exact ht
 ·split at h
  ·cases h;exact List.mem_cons_of_mem _ ht
  ·cases h
theorem wP {o:Oper} {lk:List Tmp} (h:looks ops o=some lk) {j:Nat} {want:Bool} (hg:o.guard=some (j,want)) {d:Tmp} (hd:(ops[j]?).bind (·.dst)=some d):d ∈ lk:=by
 unfold looks at h
 split at h
 ·cases h
 rw [hg] at h
 simp only [hd] at h
 cases h
 exact List.mem_cons_self
theorem CK {o:Oper} {b:Bool} {tm:Array Value} (hv:∀ j want,o.guard=some (j,want) -> ∀ d,(ops[j]?).bind (·.dst)=some d -> (∃ v',tm[d]?=some v' /\ VRi ν (cQ T d) v') \/ (tm[d]?=none /\ cQ T d=undef)) (h:ew ops o T=some b):Region.wanted o (yielded ops tm)=b:=by
 unfold ew at h
 unfold Region.wanted
 split at h
 ·rename_i hg
  rw [hg];cases h;rfl
 ·rename_i j want hg
  rw [hg]
  simp only
  split at h
  case h_2=>cases h
  rename_i d hd
  have hy:yielded ops tm j=match tm[d]? with | some (.bool b)=>some b | _=>none:=by
   unfold yielded
   rw [hd]
   rfl
  have hv:=hv j want hg d hd
  rw [hy]
  split at h
  ·rename_i b' hb
   cases h
   rcases hv with ⟨v',e1,e2⟩ | ⟨e1,e2⟩
   ·rw [hb] at e2
    rw [e2.plain_eq rfl] at e1
    rw [e1];simp
   ·rw [hb] at e2;cases e2
  ·rename_i vs hb
   cases h
   rcases hv with ⟨v',e1,e2⟩ | ⟨e1,e2⟩
   ·rw [hb] at e2
    rw [e1]
    cases e2 with
    | atom _ h=>simp [cz] at h
    | tuple _ _=>rfl
   ·rw [e1];rfl
  ·cases h
theorem um {o:Oper} (h:rD P o.op=.ef):isE P o=true:=by unfold isE;rw [h]
theorem FS {o:Oper} (h:rD P o.op=.nw):isN P o=true:=by unfold isN;rw [h]
theorem Stat.before (h:Stat P G ops bs) {k j:Nat} {o o':Oper} {b':List Nat} (hkj:k < j) (ho:ops[k]?=some o) (ho':ops[j]?=some o') (hb':bs[j]?=some b') (hE:isE P o'=true) (hK:(isE P o || isN P o)=true):k ∈ b':=by
 have hp:=h.pair k j o o' b' hkj ho ho' hb'
 by_cases hm:jI k b'=true
 ·exact gA.1 hm
 ·have hm':jI k b'=false:=by simpa using hm
  unfold qF at hp
  rw [hm'] at hp
  simp only [hE,hK] at hp
  cases hp
theorem Tra.op (h:Tra P G ih r N ops bs σ V) (hih:kc P G ih) (hlds:∀ d ∈ (σ ops.size).lds,rT P d [] (σ 0).H (σ ops.size).stg=true) (h0s:(σ 0).stg=[]) (h0p:(σ 0).pend=[]) (hTO:∀ t,N <= t -> cQ (σ 0).T t=undef)
  {ν0:Nu} {D0:List Deferred} {w0:World} {listed:Array Bool} {q:Nat} {βb βK:Nat -> Nat} {βo:Nat -> Obj} (I:DInv P G N ops bs σ V F ν0 D0 r r' w0 listed ν a w q βb βK βo) {i:Nat} {o:Oper} {b:List Nat} (ho:ops[i]?=some o) (hb:bs[i]?=some b) (hi:¬ iV listed i) (hbS:∀ x ∈ b,iV listed x)
  {K:Act -> World -> Prop} {Q:Exit -> Act -> World -> Prop} (hK:∀ ν' a' w' q' βb' βK' βo',DInv P G N ops bs σ V F ν0 D0 r r' w0 (listed.setIfInBounds i true) ν' a' w' q' βb' βK' βo' -> K a' w'):wpOpIn (Wr r') 0 P ops Q i K a w:=by
 have him:i < ops.size:=(Array.getElem?_eq_some_iff.1 ho).1
 obtain ⟨hokO,lk,hlk⟩:=h.st.ok i o ho
 obtain ⟨l,hl,hk⟩:=FR hokO
 have hop:∀ t ∈ lk,(∃ v',a.tmps[t]?=some v' /\ VRi ν (cQ (σ i).T t) v') \/ (a.tmps[t]?=none /\ cQ (σ i).T t=undef):=λ t ht=>h.opnd I.tsz I.dc I.tA I.tB hTO ho hb hi hbS hlk ht
 have hok:OK ν (σ i).T a l:=λ x hx=>by
  cases x with
  | tmp t =>
   show VRi ν (cQ (σ i).T t) (a.tmps.getD t undef)
   rcases hop t (CJ hl hlk t (s9 hx)) with ⟨v',e1,e2⟩ | ⟨e1,e2⟩
   ·simpa [Array.getD_eq_getD_getElem?,e1] using e2
   ·rw [e2,Array.getD_eq_getD_getElem?,e1];exact VRi.undef
  | const v=>exact .plain_refl _ (qL hk _ hx)
  | global g =>
   obtain ⟨K,e⟩:=I.g g (dE (qL hk _ hx))
   exact .ptr 0 e
  | func f=>exact .func (.func f) rfl (by simp) rfl (by simp)
 have hwant:∀ bb,ew ops o (σ i).T=some bb -> Region.wanted o (yielded ops a.tmps)=bb:=λ bb hw=>CK (λ j want hg d hd=>hop d (wP hlk hg hd)) hw
 have hA:∀ f,o.about P w a.eval=some f -> (Wr r').fn f:=λ _ _=>trivial
 have hkd:=h.stp i o b ho hb
 have onlyE:∀ {o2:Oper},ops[i]?=some o2 -> o2=o:=λ e=>by rw [ho] at e;cases e;rfl
 have hqi:rD P o.op=.nw -> q <= i:=λ hc=>by
  rcases I.qq.2 with e | ⟨e,h1,⟨oe,h2,h3,h4⟩,h5⟩
  ·omega
  ·rcases Nat.lt_or_ge i e with h6 | h6
   ·obtain ⟨be,hbe⟩:=h.bef h2
    have:=h.st.before h6 ho h2 hbe (um h4) (by rw [FS hc];simp)
    exact (hi (I.dc e be h5 hbe i this)).elim
   ·rcases Nat.lt_or_ge e i with h7 | h7
    ·omega
    ·obtain rfl:e=i:=by omega
     exact (hi h5).elim
 unfold wpOpIn
 rw [ho]
 simp only
 generalize hs':σ (i+1)=s' at hkd
 generalize hv:V i=v at hkd
 cases hkd with
 | no T1 hw hp =>
  rw [if_neg (by rw [hwant _ hw];simp)]
  refine ⟨hA,hK _ _ _ _ _ _ _ (I.still h ho hb hi hbS (by rw [hv];exact VRi.undef) ?_ ?_)⟩
  ·rintro ⟨o2,h1,h2,-⟩;rw [onlyE h1,hw] at h2;cases h2
  ·rintro ⟨o2,h1,h2,-⟩;rw [onlyE h1,hw] at h2;cases h2
 | pu v T1 hw hc hpv hp =>
  rw [if_pos (hwant _ hw)]
  have hnd:∀ c,o.op ≠ .defer c:=λ c e=>by rw [e] at hc;cases hc
  obtain ⟨v',e1,e2⟩:=wD hpv (ls hl hnd) hok
  refine ⟨hA,?_⟩
  rw [Oper.semAt_eq _ _ _ hnd,e2 w,Oper.uponIn_value]
  refine hK _ _ _ _ _ _ _ (I.still h ho hb hi hbS (by rw [hv];exact e1) ?_ ?_)
  ·rintro ⟨o2,h1,h2,h3⟩;rw [onlyE h1,hc] at h3;cases h3
  ·rintro ⟨o2,h1,h2,h3⟩;rw [onlyE h1,hc] at h3;cases h3
 | lo v T1 hw hc hpv hp =>
  rw [if_pos (hwant _ hw)]
  have hnd:∀ c,o.op ≠ .defer c:=λ c e=>by rw [e] at hc;cases hc
  have hld:(⟨i,o,b,(σ i).T,v⟩:DLd) ∈ (σ ops.size).lds:=h.lds (i:=i+1) (by omega) (Nat.le_refl _) (by rw [hs'];exact List.mem_cons_self)
  have hch:=hlds _ hld
  obtain ⟨be,g1,g2⟩:=h.rch h0s I.qq.1
  obtain ⟨rest,g3,g4⟩:=h.stgs I.qq.1 (Nat.le_refl _)
  rw [g3] at hch
  have hval:ja P o (σ i).T (σ q).H=some v:=by
   rcases CI hch (g1 rest) with c1 | ⟨e,bb,hh,x,c1,c2⟩ | c1
   ·exfalso
    simp only at c1
    rcases g2 with rfl | ⟨e,f1,f2,f3,f4⟩
    ·cases c1
    ·exact hi (I.dc e be ((I.qe e f2).2 f1) f3 i c1)
   ·exfalso
    simp only at c2
    rcases g4 with g4 | ⟨e',b',hh',l',g5,g6,g7⟩
    ·rw [g4] at c1;cases c1
    ·rw [g5] at c1
     cases c1
     have:=(I.qe e g7).1 (hbS e c2)
     omega
   ·unfold N7 at c1
    simp only at c1
    split at c1
    ·rename_i v2 hv2
     rw [hv2,<- yR _ _ c1]
    ·cases c1
  obtain ⟨v',e1,e2⟩:=wI I.h hval (ls hl hnd) hok
  refine ⟨hA,?_⟩
  rw [Oper.semAt_eq _ _ _ hnd,e2,Oper.uponIn_value]
  refine hK _ _ _ _ _ _ _ (I.still h ho hb hi hbS (by rw [hv];exact e1) ?_ ?_)
  ·rintro ⟨o2,h1,h2,h3⟩;rw [onlyE h1,hc] at h3;cases h3
  ·rintro ⟨o2,h1,h2,h3⟩;rw [onlyE h1,hc] at h3;cases h3
 | nw bl m T1 hw hc hnv hp =>
  rw [if_pos (hwant _ hw)]
  have hnd:∀ c,o.op ≠ .defer c:=λ c e=>by rw [e] at hc;cases hc
  obtain ⟨e1,e2,o',e3,e4⟩:=Al hnv (ls hl hnd) hok
  refine ⟨hA,?_⟩
  rw [Oper.semAt_eq _ _ _ hnd,e4 w,Oper.uponIn_value]
  have hn0:ν (σ i).n=none:=I.fr i him hi _ (Nat.le_refl _) (by rw [hs'];exact Nat.lt_succ_self _)
  have hle:=jJ (r:=w.heap.size) (K:=0) hn0
  have hqi':=hqi hc
  have hAi:kA P ops σ i:=⟨o,ho,hw,hc⟩
  have hni:¬ kE P ops σ i:=by rintro ⟨o2,h1,h2,h3⟩;rw [onlyE h1,hc] at h3;cases h3
  have hmono:∀ {x y:Nat},x <= y -> y <= ops.size -> (σ x).n <= (σ y).n:=λ e1 e2=>h.nles hih e1 e2
  have hn1:(σ (i+1)).n=(σ i).n+1:=by rw [hs']
  have hpush:∀ k,k < w.heap.size -> (w.heap.push o')[k]?=w.heap[k]?:=λ k hk=>by rw [Array.getElem?_push,if_neg (by omega)]
  refine hK (ν.upd (σ i).n w.heap.size 0) _ { w with heap:=w.heap.push o' } q (λ k=>if k=i then w.heap.size else βb k) (λ k=>if k=i then 0 else βK k) (λ k=>if k=i then o' else βo k) (I.step h ho hb hi hbS hle (by rw [hv];exact FD e2 cm) (λ j hj hnj hne=>?_) ?_ ⟨I.qq.1,?_⟩ (λ e he=>?_) ?_ ?_ ⟨rfl,rfl,rfl,by simp,λ k hk=>by omega⟩)
  ·intro x x1 x2
   rw [ez]
   ·exact I.fr j hj hnj x x1 x2
   ·intro ex
    subst ex
    rcases Nat.lt_or_ge j i with e | e
    ·have:=hmono (x:=j+1) (y:=i) (by omega) (by omega);omega
    ·have h3:=hmono (x:=i+1) (y:=j) (by omega) (by omega)
     omega
  ·have h1:=hmono (x:=0) (y:=i) (by omega) (by omega)
   have h2:=hmono (x:=i+1) (y:=ops.size) (by omega) (by omega)
   exact ⟨I.ex.le,λ x hx=>by rw [ez (by omega)];exact I.ex.out x hx⟩
  ·rcases I.qq.2 with e | ⟨e,h1,h2,h3⟩
   ·exact .inl e
   ·exact .inr ⟨e,h1,h2,.inl h3⟩
  ·rw [<- I.qe e he]
   constructor
   ·rintro (h1 | h1)
    ·exact h1
    ·subst h1;exact (hni he).elim
   ·exact .inl
  ·exact (I.h.mono hle).world (λ k hk=>hpush k hk)
  ·have old:∀ k,(iV listed k \/ k=i) -> k ≠ i -> iV listed k:=λ k k1 k2=>k1.resolve_right k2
   have hlt:∀ k,kA P ops σ k -> iV listed k -> q <= k -> βb k < w.heap.size:=λ k k1 k2 k3=>de (I.pen.be k k1 k2 k3).2.1
   refine ⟨λ k k1 k2 k3=>?_,λ k k' k1 k2 k3 k4 k5 k6 k7=>?_,λ k k1 k2 k3 x hx=>?_,λ k k1 k2 k3 hd bb rr KK f1 f2=>?_⟩
   ·by_cases e:k=i
    ·subst e
     simp only [if_true]
     refine ⟨cm,by simp,λ o2 bl2 m2 h1 h2=>?_⟩
     rw [onlyE h1,hnv] at h2
     cases h2
     exact (e3 0).mono hle
    ·simp only [if_neg e]
     obtain ⟨f1,f2,f3⟩:=I.pen.be k k1 (old k k2 e) k3
     exact ⟨hle _ _ f1,by rw [hpush _ (de f2)];exact f2,λ o2 bl2 m2 h1 h2=>(f3 o2 bl2 m2 h1 h2).mono hle⟩
   ·by_cases e:k=i
    ·by_cases e':k'=i
     ·omega
     ·have:=hlt k' k4 (old k' k5 e') k6
      simp only [if_pos e,if_neg e']
      omega
    ·have h1:=hlt k k1 (old k k2 e) k3
     by_cases e':k'=i
     ·simp only [if_neg e,if_pos e']
      omega
     ·simp only [if_neg e,if_neg e']
      exact I.pen.bi k k' k1 (old k k2 e) k3 k4 (old k' k5 e') k6 k7
   ·by_cases e:k=i
    ·simp only [if_pos e]
     have:=de (I.h.frm x hx)
     omega
    ·simp only [if_neg e]
     exact I.pen.bf k k1 (old k k2 e) k3 x hx
   ·by_cases e:k=i
    ·simp only [if_pos e]
     have:=(I.h.mono hle).lt f1 f2
     omega
    ·simp only [if_neg e]
     obtain ⟨r2,K2,o2,u1,-⟩:=I.h.blk _ _ f1
     have f2':=hle _ _ u1
     rw [f2] at f2'
     cases f2'
     exact I.pen.bh k k1 (old k k2 e) k3 hd bb rr KK f1 u1
 | ef v H' n' T1 hw hc hst hp =>
  rw [if_pos (hwant _ hw)]
  have hmono:∀ {x y:Nat},x <= y -> y <= ops.size -> (σ x).n <= (σ y).n:=λ e1 e2=>h.nles hih e1 e2
  have hEi:kE P ops σ i:=⟨o,ho,hw,hc⟩
  have hqi2:q <= i:=by
   rcases Nat.lt_or_ge i q with e | e
   ·exact (hi ((I.qe i hEi).2 e)).elim
   ·exact e
  have hbefore:∀ k o2,k < i -> ops[k]?=some o2 -> (Go.Proofs.YtobflkidpfkcaaaGreatDoor.isE P o2 || Go.Proofs.YtobflkidpfkcaaaGreatDoor.isN P o2)=true -> iV listed k:=λ k o2 hk h1 h2=>hbS k (h.st.before hk h1 ho hb (um hc) h2)
  have hnoE:∀ k,q <= k -> k < i -> ¬ kE P ops σ k:=λ k k1 k2 hk=>by
   obtain ⟨o2,h1,h2,h3⟩:=hk
   have hS:=hbefore k o2 k2 h1 (by rw [um h3];rfl)
   have:=(I.qe k ⟨o2,h1,h2,h3⟩).1 hS
   omega
  have hallA:∀ k,q <= k -> k < i -> kA P ops σ k -> iV listed k:=λ k k1 k2 hk=>by
   obtain ⟨o2,h1,h2,h3⟩:=hk
   exact hbefore k o2 k2 h1 (by rw [FS h3];simp)
  have hqp:(σ q).pend=[]:=by
   rcases I.qq.2 with e | ⟨e,h1,h2,h3⟩
   ·rw [e];exact h0p
   ·rw [h1];obtain ⟨_,_,_,_,_,_,_,g8,_⟩:=h.isE h2;exact g8
  obtain ⟨p1,p2⟩:=h.placed I.pen I.h hqp hqi2 (by omega) hnoE hallA
  obtain ⟨s1,s2⟩:=h.Hsame hqi2 (by omega) hnoE
  rw [s1] at hst
  have hn1:(σ (i+1)).n=n':=by rw [hs']
  have hH1:(σ (i+1)).H=H':=by rw [hs']
  classical
  have hex:∃ FA:HL,(∀ k,kA P ops σ k -> iV listed k -> i < k -> (βb k,Blk.obj (βo k)) ∈ FA) /\ (∀ x ∈ FA,∃ k,kA P ops σ k /\ iV listed k /\ i < k /\ x=(βb k,Blk.obj (βo k))):=by
   refine ⟨((List.range ops.size).filter (λ k=>decide (kA P ops σ k /\ iV listed k /\ i < k))).map λ k=>(βb k,Blk.obj (βo k)),λ k k1 k2 k3=>?_,λ x hx=>?_⟩
   ·refine List.mem_map.2 ⟨k,List.mem_filter.2 ⟨List.mem_range.2 ?_,decide_eq_true ⟨k1,k2,k3⟩⟩,rfl⟩
    obtain ⟨o2,h1,-⟩:=k1
    exact (Array.getElem?_eq_some_iff.1 h1).1
   ·obtain ⟨k,h1,h2⟩:=List.mem_map.1 hx
    obtain ⟨-,h3⟩:=List.mem_filter.1 h1
    have h4:kA P ops σ k /\ iV listed k /\ i < k:=of_decide_eq_true h3
    exact ⟨k,h4.1,h4.2.1,h4.2.2,h2.symm⟩
  obtain ⟨FA,fa1,fa2⟩:=hex
  have hH2:HR ν (gG (σ q).H (σ i).pend) (FA++F) w:=by
   refine ⟨p1.blk,p1.inj,λ x hx=>?_,λ hd bb rr KK f1 f2 x hx=>?_⟩
   ·rcases List.mem_append.1 hx with hx | hx
    ·obtain ⟨k,k1,k2,k3,rfl⟩:=fa2 x hx
     exact (I.pen.be k k1 k2 (by omega)).2.1
    ·exact p1.frm x hx
   ·rcases List.mem_append.1 hx with hx | hx
    ·obtain ⟨k,k1,k2,k3,rfl⟩:=fa2 x hx
     exact (p2 hd bb rr KK f1 f2 k k1 k2 (by omega)).symm
    ·exact p1.apt hd bb rr KK f1 f2 x hx
  obtain ⟨-,hgo⟩:=ul (a:=a) (r':=r') hih I.g I.rr (λ l' hl' _=>by rw [hl] at hl';cases hl';exact hok) hH2 hst
  have hfi:Fr ν (σ i).n n':=by rw [<- hn1];exact I.fr i him hi
  refine hgo hfi _ _ (λ ν' v' w' k1 k2 k3 k4=>?_)
  have hle:=k2.sub hfi
  have hdisj:∀ j,j < ops.size -> j ≠ i -> ∀ x,(σ j).n <= x -> x < (σ (j+1)).n -> (x < (σ i).n \/ n' <= x):=λ j hj hne x x1 x2=>by
   rcases Nat.lt_or_ge j i with e | e
   ·have:=hmono (x:=j+1) (y:=i) (by omega) (by omega);omega
   ·have:=hmono (x:=i+1) (y:=j) (by omega) (by omega);omega
  refine hK ν' _ w' (i+1) βb βK βo (I.step h ho hb hi hbS hle (by rw [hv];exact k1) (λ j hj hnj hne x x1 x2=>?_) ?_ ⟨by omega,.inr ⟨i,rfl,hEi,.inr rfl⟩⟩ (λ e he=>?_) ?_ ?_ k4)
  ·rw [k2.out x (hdisj j hj hne x x1 x2)]
   exact I.fr j hj hnj x x1 x2
  ·have h1:=hmono (x:=0) (y:=i) (by omega) (by omega)
   have h2:=hmono (x:=i+1) (y:=ops.size) (by omega) (by omega)
   exact ⟨I.ex.le,λ x hx=>by rw [k2.out x (by omega)];exact I.ex.out x hx⟩
  ·constructor
   ·rintro (h1 | h1)
    ·have:=(I.qe e he).1 h1;omega
    ·omega
   ·intro h1
    by_cases e2:e=i
    ·exact .inr e2
    ·obtain ⟨o2,u1,u2,u3⟩:=he
     exact .inl (hbefore e o2 (by omega) u1 (by rw [um u3];rfl))
  ·rw [hH1]
   exact k3.less (λ x hx=>List.mem_append_right _ hx)
  ·have old:∀ k,(iV listed k \/ k=i) -> i+1 <= k -> iV listed k:=λ k u1 u2=>u1.resolve_right (by omega)
   refine ⟨λ k u1 u2 u3=>?_,λ k k' u1 u2 u3 u4 u5 u6 u7=>I.pen.bi k k' u1 (old k u2 u3) (by omega) u4 (old k' u5 u6) (by omega) u7,λ k u1 u2 u3=>I.pen.bf k u1 (old k u2 u3) (by omega),λ k u1 u2 u3 hd bb rr KK f1 f2=>?_⟩
   ·obtain ⟨f1,f2,f3⟩:=I.pen.be k u1 (old k u2 u3) (by omega)
    exact ⟨hle _ _ f1,k3.frm _ (List.mem_append_left _ (fa1 k u1 (old k u2 u3) (by omega))),λ o2 bl2 m2 h1 h2=>(f3 o2 bl2 m2 h1 h2).mono hle⟩
   ·rw [hH1] at f1
    exact (k3.apt hd bb rr KK f1 f2 _ (List.mem_append_left _ (fa1 k u1 (old k u2 u3) (by omega)))).symm
theorem Tra.all (h:Tra P G ih r N ops bs σ V) {listed:Array Bool} (hsz:listed.size=ops.size) (hr:Region.ready .any ops listed=[]):∀ i,i < ops.size -> iV listed i:=by
 intro i
 induction i using Nat.strongRecOn with
 | _ i ihi =>
  intro hi
  by_cases hS:iV listed i
  ·exact hS
  ·exfalso
   obtain ⟨o,b,ho,hb,-⟩:=h.at hi
   have hm:i ∈ Region.ready .any ops listed:=by
    refine mem_ready.2 ⟨?_,o,ho,λ e he hbd=>?_⟩
    ·have hil:i < listed.size:=by omega
     unfold iV at hS
     rw [Array.getD_eq_getD_getElem?,Array.getElem?_eq_getElem hil] at hS ⊢
     simpa using hS
    ·have hlt:=h.st.dir i o b ho hb e he hbd
     exact ihi _ hlt (by omega)
   rw [hr] at hm
   cases hm
theorem DInv.fin (h:Tra P G ih r N ops bs σ V) (h0p:(σ 0).pend=[]) (hTO:∀ t,N <= t -> cQ (σ 0).T t=undef) {ν0:Nu} {D0:List Deferred} {w0:World} {listed:Array Bool} {q:Nat} {βb βK:Nat -> Nat} {βo:Nat -> Obj} (I:DInv P G N ops bs σ V F ν0 D0 r r' w0 listed ν a w q βb βK βo) (hall:∀ i,i < ops.size -> iV listed i) :
  SR ν G N ⟨(σ ops.size).T,D0,gG (σ ops.size).H (σ ops.size).pend,(σ ops.size).n⟩ F a w:=by
 have hlt:∀ {k:Nat} {o:Oper},ops[k]?=some o -> k < ops.size:=λ h=>(Array.getElem?_eq_some_iff.1 h).1
 have hnoE:∀ k,q <= k -> k < ops.size -> ¬ kE P ops σ k:=λ k k1 k2 hk=>by
  have:=(I.qe k hk).1 (hall k k2);omega
 have hqp:(σ q).pend=[]:=by
  rcases I.qq.2 with e | ⟨e,h1,h2,h3⟩
  ·rw [e];exact h0p
  ·rw [h1];obtain ⟨_,_,_,_,_,_,_,g8,_⟩:=h.isE h2;exact g8
 obtain ⟨p1,-⟩:=h.placed I.pen I.h hqp I.qq.1 (Nat.le_refl _) hnoE (λ k k1 k2 _=>hall k k2)
 obtain ⟨s1,-⟩:=h.Hsame I.qq.1 (Nat.le_refl _) hnoE
 refine ⟨I.g,⟨I.tsz,λ t ht=>?_,λ t ht=>?_⟩,I.d,by simp only;rw [s1];exact p1⟩
 ·by_cases hj:∃ (j:Nat) (o:Oper),ops[j]?=some o /\ o.dst=some t
  ·obtain ⟨j,o,ho,hd⟩:=hj
   rw [h.Tyes ho hd (hlt ho) (Nat.le_refl _)]
   exact I.tA j o t (hall j (hlt ho)) ho hd
  ·rw [h.Tno (Nat.le_refl _) (λ k o _ h1 h2=>hj ⟨k,o,h1,h2⟩)]
   exact I.tB t ht (λ j o _ h1 h2=>hj ⟨j,o,h1,h2⟩)
 ·rw [h.Tno (Nat.le_refl _) (λ k o _ h1 h2=>by
   exact absurd ((kV (h.put h1)).2 t h2) (Nat.not_lt.2 ht))]
  exact hTO t ht
theorem Tra.any (h:Tra P G ih r N ops bs σ V) (hih:kc P G ih) (hlds:∀ d ∈ (σ ops.size).lds,rT P d [] (σ 0).H (σ ops.size).stg=true) (h0s:(σ 0).stg=[]) (h0p:(σ 0).pend=[]) (hTO:∀ t,N <= t -> cQ (σ 0).T t=undef)
  {ν0:Nu} {D0:List Deferred} {w0:World} {Q:Exit -> Act -> World -> Prop} (hQ:∀ ν a w,Ext ν0 ν (σ 0).n (σ ops.size).n -> SR ν G N ⟨(σ ops.size).T,D0,gG (σ ops.size).H (σ ops.size).pend,(σ ops.size).n⟩ F a w -> Below 0 w0 w -> Q .normal a w) :
  ∀ (fuel:Nat) (listed:Array Bool) (ν:Nu) (a:Act) (w:World) (q:Nat) (βb βK:Nat -> Nat) (βo:Nat -> Obj),DInv P G N ops bs σ V F ν0 D0 r r' w0 listed ν a w q βb βK βo -> listed.toList.count false <= fuel -> wpAnyIn (Wr r') 0 P .any ops Q fuel listed a w:=by
 have done:∀ (listed:Array Bool) (ν:Nu) (a:Act) (w:World) (q:Nat) (βb βK:Nat -> Nat) (βo:Nat -> Obj),DInv P G N ops bs σ V F ν0 D0 r r' w0 listed ν a w q βb βK βo -> Region.ready .any ops listed=[] -> Q .normal a w:=λ listed ν a w q βb βK βo I hr =>
  hQ ν a w I.ex (I.fin h h0p hTO (h.all I.sz hr)) I.bw
 have unl:∀ (listed:Array Bool) (i:Nat),listed.size=ops.size -> i ∈ Region.ready .any ops listed -> ∃ hil:i < listed.toList.length,listed.toList[i]=false:=λ listed i hsz hi=>by
  obtain ⟨h1,o,h2,-⟩:=mem_ready.1 hi
  have him:=(Array.getElem?_eq_some_iff.1 h2).1
  have hil:i < listed.size:=by omega
  refine ⟨by simpa using hil,?_⟩
  rw [Array.getD_eq_getD_getElem?,Array.getElem?_eq_getElem hil] at h1
  simpa using h1
 intro fuel
 induction fuel with
 | zero =>
  intro listed ν a w q βb βK βo I hc
  have hr:Region.ready .any ops listed=[]:=by
   cases hrr:Region.ready .any ops listed with
   | nil=>rfl
   | cons i l =>
    exfalso
    obtain ⟨hil,e⟩:=unl listed i I.sz (by rw [hrr];exact List.mem_cons_self)
    have:0 < listed.toList.count false:=List.count_pos_iff.2 (by rw [<- e];exact List.getElem_mem hil)
    omega
  exact ⟨hr,done _ _ _ _ _ _ _ _ I hr⟩
 | succ fuel ihf =>
  intro listed ν a w q βb βK βo I hc
  refine ⟨λ hr=>done _ _ _ _ _ _ _ _ I hr,λ i hi=>?_⟩
  obtain ⟨hil,e⟩:=unl listed i I.sz hi
  obtain ⟨h1,o,ho,hall⟩:=mem_ready.1 hi
  obtain ⟨b,hb⟩:=h.bef ho
  have hnS:¬ iV listed i:=by
   unfold iV
   have hil':i < listed.size:=by simpa using hil
   rw [Array.getD_eq_getD_getElem?,Array.getElem?_eq_getElem hil']
   simpa using e
  have hbS:∀ x ∈ b,iV listed x:=λ x hx=>by
   obtain ⟨ed,e1,e2,e3⟩:=h.st.dc i o b ho hb x hx
   have hon:=hall ed e1 e2
   rcases e3 with rfl | ⟨b',e4,e5⟩
   ·exact hon
   ·exact I.dc _ b' hon e4 x e5
  refine h.op hih hlds h0s h0p hTO I ho hb hnS hbS (λ ν' a' w' q' βb' βK' βo' I'=>ihf _ _ _ _ _ _ _ _ I' ?_)
  have hcs:(listed.setIfInBounds i true).toList.count false=listed.toList.count false - 1:=by
   rw [Array.toList_setIfInBounds,List.count_set hil]
   simp [e]
  omega
end tra
theorem IV (hih:kc P G ih) (hm:P.follows .mixedOrders=true) {id:Nat} {ops:Array Oper} {s s':St} (h:K5 P G ih r N ops s=some s'):s.n <= s'.n /\ ∀ ν F a w r' (Q:Exit -> Act -> World -> Prop),RR ν r r' -> SR ν G N s F a w -> Fr ν s.n s'.n ->
  (∀ ν' a' w',Ext ν ν' s.n s'.n -> SR ν' G N s' F a' w' -> Below 0 w w' -> Q .normal a' w') -> (Code.region id ops true).wpIn (Wr r') 0 P Q a w:=by
 unfold K5 at h
 split at h
 ·cases h
 rename_i bs hbs
 split at h
 ·cases h
 rename_i d hd
 split at h
 case h_2=>cases h
 rename_i hchk
 cases h
 have hst:=wN hbs
 obtain ⟨σ,V,e0,e1,e2⟩:=qU hd (by rw [hst.len];simp)
 have hszl:ops.toList.length=ops.size:=by simp
 rw [Nat.zero_add,hszl] at e1
 have htr:Tra P G ih r N ops bs σ V:=⟨hst,λ i o b ho hb=>by
  obtain ⟨h1,h2⟩:=Array.getElem?_eq_some_iff.1 ho
  obtain ⟨b',g1,g2⟩:=e2 i (by rw [hszl];exact h1)
  rw [g1] at hb
  cases hb
  rw [Nat.zero_add] at g2
  have:ops.toList[i]'(by rw [hszl];exact h1)=o:=by simpa using h2
  rw [this] at g2
  exact g2⟩
 have hmono:=htr.nles hih (Nat.zero_le ops.size) (Nat.le_refl _)
 rw [e0,e1] at hmono
 refine ⟨hmono,λ ν F a w r' Q hr hs hf hk=>wpIn_region_any hm ?_⟩
 have hmono':s.n <= d.n:=hmono
 have hf':Fr ν s.n d.n:=hf
 have hn0:(σ 0).n=s.n:=by rw [e0]
 have hnm:(σ ops.size).n=d.n:=by rw [e1]
 refine htr.any (F:=F) (ν0:=ν) (D0:=s.D) (w0:=w) (r':=r') hih (λ x hx=>?_) (by rw [e0]) (by rw [e0]) (λ t ht=>by rw [e0];exact hs.t.out t ht) (λ ν' a' w' k1 k2 k3=>?_) ops.size _ ν a _ 0 (λ _=>0) (λ _=>0) (λ _=>.deferred none) ?_ ?_
 ·rw [e1] at hx ⊢
  rw [e0]
  exact qV hchk x hx
 ·rw [e1] at k2
  rw [hn0,hnm] at k1
  exact hk ν' a' w' k1 k2 k3
 ·have hno:∀ j,¬ iV (Array.replicate ops.size false) j:=λ j hj=>by
   unfold iV at hj
   rw [Array.getD_eq_getD_getElem?,Array.getElem?_replicate] at hj
   split at hj <;> simp at hj
  refine ⟨by simp,λ i b hi _ _ _=>(hno i hi).elim,hs.g,hr,hs.t.size,λ j o t hj _ _=>(hno j hj).elim,λ t ht _=>by rw [e0];exact hs.t.get t ht,λ j hj _=>λ x x1 x2=>?_,⟨?_,λ _ _=>rfl⟩,hs.d,⟨Nat.zero_le _,.inl rfl⟩,λ e he=>⟨λ h=>(hno e h).elim,λ h=>by omega⟩,?_,?_,?_⟩
  ·have h1:=htr.nles hih (Nat.zero_le j) (by omega)
   have h2:=htr.nles hih (i:=j+1) (j:=ops.size) (by omega) (Nat.le_refl _)
   exact hf' x (by omega) (by omega)
  ·omega
  ·rw [e0]
   exact hs.h.world (λ k hk=>rfl)
  ·exact ⟨λ k _ h2 _=>(hno k h2).elim,λ k k' _ h2 _ _ _ _ _=>(hno k h2).elim,λ k _ h2 _=>(hno k h2).elim,λ k _ h2 _=>(hno k h2).elim⟩
  ·exact ⟨rfl,rfl,rfl,Nat.le_refl _,λ _ _=>rfl⟩
 ·simp
end dr
end Go.Proofs.YtobflkidpfkcaaaGreatDoor
