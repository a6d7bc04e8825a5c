import Derived.Test.YtghjbimijeinfaaGreatDoorY04
set_option maxHeartbeats 4000000
set_option maxRecDepth 100000
set_option linter.unusedSimpArgs false
set_option linter.unusedVariables false
namespace Go.Proofs.YtghjbimijeinfaaGreatDoor
open Go.RowKit
def mO (s:Cfg):Array Oper:=match s.c with
 | .drw ops _=>ops
 | _=>#[]
def gB (s:Cfg):List Bool:=match s.c with
 | .drw _ l=>l
 | _=>[]
def ff:List Bool -> Nat
 | []=>0
 | true :: l=>ff l
 | false :: l=>ff l+1
theorem A5 (n:Nat):ff (List.replicate n false)=n:=by
 induction n with
 | zero=>rfl
 | succ n ih=>rw [List.replicate_succ,ff,ih]
def LW (s:Cfg):Cfg:=match s with
 | ⟨.code (.region _ ops true),k,L,A,Ts⟩=>⟨.drw ops (List.replicate ops.toList.length false),k,L,A,Ts⟩
 | s=>s
def Jj (s:Cfg):Bool:=match s.c with
 | .code (.region _ ops true)=>Region.noSelect ops && pj ops
 | _=>false
structure RD (r:Option Nat) (P:Program) (N:Nat) (D:List Deferred) (F:HL) (w0:World) (R:HL) (hards:List Nat) (Rd:HL) (s:Cfg) (Q:Exit -> Act -> World -> Prop):Prop where
 h:(∀ y ∈ R,y ∈ F) -> Region.noSelect (mO s)=true -> TD P N D F w0 (mO s) hards Rd (ff (gB s)) (gB s) s.L (ap s.A s.Ts) (NoPanic (ky r P s.k Q))
section
variable {r:Option Nat} {P:Program} {N:Nat} {D:List Deferred} {F:HL} {w0:World} {R:HL} {s:Cfg} {Q:Exit -> Act -> World -> Prop} {hards:List Nat} {Rd:HL}
def A7 (ix:List Nat) (s:Cfg):HL:=ix.filterMap (s.A[·]?)
theorem RN.draw (hards ix:List Nat) (hk:RD r P N D F w0 R hards (A7 ix s) (LW s) Q) (hm:P.follows .mixedOrders=true:=by kernel_rfl) (hc:Jj s=true:=by kernel_rfl):RN r P N D F w0 R s Q:=by
 refine ⟨λ hR=>?_⟩
 obtain ⟨c,k,L,A,Ts⟩:=s
 unfold Jj at hc
 split at hc
 case h_2=>cases hc
 rename_i id ops e
 simp only at e
 subst e
 rw [Bool.and_eq_true] at hc
 have h1:=hk.h hR hc.1
 exact TR.draw hards _ hm hc.1 hc.2 (by
  simp only [LW,gB,mO,A5] at h1
  have e:ops.toList.length=ops.size:=by simp
  rw [e] at h1 ⊢
  exact h1)
def NC (s:Cfg):Cfg:=match s with
 | ⟨.drw _ _,k,L,A,Ts⟩=>⟨.ex .normal,k,L,A,Ts⟩
 | s=>s
def A8 (s:Cfg):Bool:=match s.c with
 | .drw ops l=>(i6 ops.toList l).isEmpty
 | _=>false
theorem RD.fin (hk:RN r P N D F w0 R (NC s) Q) (hc:A8 s=true:=by kernel_rfl):RD r P N D F w0 R hards Rd s Q:=by
 refine ⟨λ hR _=>?_⟩
 obtain ⟨c,k,L,A,Ts⟩:=s
 unfold A8 at hc
 split at hc
 case h_2=>cases hc
 rename_i ops l e
 simp only at e
 subst e
 exact TD.fin (List.isEmpty_iff.1 hc) (LQ (λ a w h1 h2 h3=>hk.h hR a w h1 h2 h3))
def C4 (P:Program) (N:Nat) (R:HL) (hards:List Nat) (Rd:HL) (is:List Nat) (hints:List Hint) (s:Cfg):Option (List Bool × FL × SS):=match s.c with
 | .drw ops l=>ru P 0 N ops.toList hards Rd is l s.L ⟨ap s.A s.Ts,R,hints,0,[],[],false⟩
 | _=>none
def Nh (P:Program) (N:Nat) (R:HL) (hards:List Nat) (Rd:HL) (is:List Nat) (hints:List Hint) (s:Cfg):Cfg:=match C4 P N R hards Rd is hints s with
 | some (b,L',_)=>match s with
  | ⟨.drw ops _,k,_,A,Ts⟩=>⟨.drw ops b,k,L',A,Ts⟩
  | s=>s
 | none=>s
def Ni (x:Option (List Bool × FL × SS)):List Nat:=match x with
 | some (_,_,ss)=>ss.eq.map (·.2)
 | none=>[]
def J2 (n:Nat) (x:Option (List Bool × FL × SS)):Option (Nat × List Nat × List Prop):=match x with
 | some (b,_,ss)=>match ss.hints with
  | []=>some (ff b+n,ss.eq.map (·.1),ss.ob)
  | _=>none
 | none=>none
theorem C5 (ix is:List Nat) (hints:List Hint) (Ob:List Prop) (hob:AllP Ob) (hk:RD r P N D F w0 R hards Rd (Nh P N R hards Rd is hints s) Q)
  (h:J2 is.length (C4 P N R hards Rd is hints s)=some (ff (gB s),Ni (C4 P N R hards Rd is hints s),Ob):=by kernel_rfl) (hix:A7 ix s=Rd:=by kernel_rfl):RD r P N D F w0 R hards Rd s Q:=by
 refine ⟨λ hR hs=>?_⟩
 obtain ⟨c,k,L,A,Ts⟩:=s
 cases c with
 | drw ops l =>
  simp only [mO,gB] at hs ⊢
  unfold Nh at hk
  generalize hx:C4 P N R hards Rd is hints ⟨.drw ops l,k,L,A,Ts⟩=x at h hk
  unfold J2 at h
  split at h
  case h_2=>cases h
  rename_i b L' ss
  split at h
  case h_2=>cases h
  simp only [Ni,gB,Option.some.injEq,Prod.mk.injEq] at h
  obtain ⟨e1,e2,e3⟩:=h
  rw [<- e1]
  refine iP (Rr:=R) hs (λ x hx=>List.mem_append_left _ (uI ix hix x hx)) hR is l b L L' _ ss hx rfl rfl rfl (fG e2 rfl) (by rw [e3];exact eE hob) ?_
  exact hk.h hR hs
 | code c=>simp [C4,J2] at h
 | ops ops i=>simp [C4,J2] at h
 | ex e=>simp [C4,J2] at h
theorem ag (ix is:List Nat) (hints:List Hint) (hk:RD r P N D F w0 R hards Rd (Nh P N R hards Rd is hints s) Q)
 (h:J2 is.length (C4 P N R hards Rd is hints s)=some (ff (gB s),Ni (C4 P N R hards Rd is hints s),[]):=by kernel_rfl) (hix:A7 ix s=Rd:=by kernel_rfl):RD r P N D F w0 R hards Rd s Q:=C5 ix is hints [] trivial hk h hix
theorem aJ (ix is:List Nat) (hints:List Hint) (Ob:List Prop) (hk:RD r P N D F w0 R hards Rd (Nh P N R hards Rd is hints s) Q) (hob:AllP Ob:=by simp only [AllP,br,and_true,true_and] <;> (repeat' with_reducible refine And.intro ?_ ?_) <;> omega)
 (h:J2 is.length (C4 P N R hards Rd is hints s)=some (ff (gB s),Ni (C4 P N R hards Rd is hints s),Ob):=by kernel_rfl) (hix:A7 ix s=Rd:=by kernel_rfl):RD r P N D F w0 R hards Rd s Q:=C5 ix is hints Ob hob hk h hix
theorem Jk {b v:Bool} (t:Nat) (hb:b=v) (hk:RD r P N D F w0 R hards Rd (oX t v s) Q) (h:s.L.lookup t=some (.bool b):=by kernel_rfl):RD r P N D F w0 R hards Rd s Q:=by
 subst hb
 exact ⟨λ hR hs hcl a hF=>hk.h hR hs hcl a (hF.fix h)⟩
theorem RD.em (p:Prop) [Decidable p] (t:Nat) (h1:p -> RD r P N D F w0 R hards Rd (oX t true s) Q) (h2:¬ p -> RD r P N D F w0 R hards Rd (oX t false s) Q) (h:s.L.lookup t=some (.bool (decide p)):=by kernel_rfl):RD r P N D F w0 R hards Rd s Q:=by
 by_cases hp:p
 ·exact Jk t (decide_eq_true hp) (h1 hp) h
 ·exact Jk t (decide_eq_false hp) (h2 hp) h
theorem RD.ro {R':HL} (h:(∀ y ∈ R,y ∈ F) -> ∀ y ∈ R',y ∈ F) (hk:RD r P N D F w0 R' hards Rd s Q):RD r P N D F w0 R hards Rd s Q:=⟨λ hR=>hk.h (h hR)⟩
def J3 (P:Program) (N:Nat) (R:HL) (i:Nat) (s:Cfg):Option (Option Tmp × FuncId × Array Value × List Nat × List Prop):=match s.c with
 | .drw ops _=>match ops.toList[i]? with
  | none=>none
  | some o=>match iM ops.toList o s.L ⟨ap s.A s.Ts,R,[],0,[],[],false⟩ with
   | some (true,ss)=>match hZ o.op s.L with
    | true=>match ev P 0 o (i5 s.L) ss with
     | some (.enter f args,s')=>match s'.hints with
      | []=>some (o.dst,f,args,s'.eq.map (·.1),s'.ob)
      | _=>none
     | _=>none
    | false=>none
   | _=>none
 | _=>none
def LX (N:Nat) (hards:List Nat) (i:Nat) (s:Cfg) (x:Option (Option Tmp × FuncId × Array Value × List Nat × List Prop)):Option (FuncId × Array Value × List Nat × List Prop × Nat):=match x with
 | some (dst,f,args,E,Ob)=>match (fi N dst undef s.L).isSome,LH (mO s).toList hards (gB s) i with
  | true,true=>some (f,args,E,Ob,ff (bm (gB s) i true)+1)
  | _,_=>none
 | none=>none
def G5 (N i:Nat) (v:Value) (s:Cfg):Cfg:=match s with
 | ⟨.drw ops l,k,L,A,Ts⟩=>match ops.toList[i]? with
  | some o=>match fi N o.dst v L with
   | some L'=>⟨.drw ops (bm l i true),k,L',A,Ts⟩
   | none=>⟨.drw ops l,k,L,A,Ts⟩
  | none=>⟨.drw ops l,k,L,A,Ts⟩
 | s=>s
theorem ar (ix:List Nat) (i:Nat) {f:FuncId} {args:Array Value} {v:Value} (hc:∀ X,Sp P f args [] (X++(ap s.A s.Ts++F)) (λ u H'=>u=v /\ H'=[])) (hk:RD r P N D F w0 R hards Rd (G5 N i v s) Q)
  (h:LX N hards i s (J3 P N R i s)=some (f,args,[],[],ff (gB s)):=by kernel_rfl) (hix:A7 ix s=Rd:=by kernel_rfl):RD r P N D F w0 R hards Rd s Q:=by
 refine ⟨λ hR hs=>?_⟩
 obtain ⟨c,k,L,A,Ts⟩:=s
 cases c with
 | drw ops l =>
  simp only [mO,gB] at hs ⊢ h
  generalize hx:J3 P N R i ⟨.drw ops l,k,L,A,Ts⟩=x at h
  unfold LX at h
  split at h
  case h_2=>cases h
  rename_i dst f' args' E Ob
  split at h
  case h_2=>cases h
  rename_i hput hok
  simp only [mO,gB,Option.some.injEq,Prod.mk.injEq] at h hok
  obtain ⟨e1,e2,e3,e4,e5⟩:=h
  subst e1;subst e2;subst e3;subst e4
  obtain ⟨L',hl⟩:=eT hput v
  have hx':=hx
  unfold J3 at hx'
  simp only at hx'
  have ho:∃ o,ops.toList[i]?=some o /\ o.dst=dst:=by
   split at hx'
   ·cases hx'
   rename_i o ho
   split at hx'
   case h_2=>cases hx'
   split at hx'
   case h_2=>cases hx'
   split at hx'
   case h_2=>cases hx'
   split at hx'
   case h_2=>cases hx'
   simp only [Option.some.injEq,Prod.mk.injEq] at hx'
   exact ⟨o,ho,hx'.1⟩
  obtain ⟨o,ho,hd⟩:=ho
  have hpc:G5 N i v ⟨.drw ops l,k,L,A,Ts⟩=⟨.drw ops (bm l i true),k,L',A,Ts⟩:=by
   unfold G5
   simp only [ho,hd,hl]
  rw [hpc] at hk
  subst hd
  show TD P N D F w0 ops hards Rd (ff l) l L (ap A Ts) (NoPanic (ky r P k Q))
  rw [<- e5]
  refine zq (v:=v) (L1:=L') hs (by unfold LH at hok;unfold LP;simp only [Bool.and_eq_true] at hok ⊢;exact hok.1) (by simpa using ho) (λ a hF=>hF.put hl) (λ a hF=>?_) (λ x hx=>List.mem_append_left _ (uI ix hix x hx)) (.inl hok) (hk.h hR hs)
  unfold J3 at hx
  simp only [ho] at hx
  split at hx
  case h_2=>cases hx
  rename_i ss hwl
  split at hx
  case h_2=>cases hx
  rename_i hokp
  split at hx
  case h_2=>cases hx
  rename_i f2 args2 s2 he
  split at hx
  case h_2=>cases hx
  simp only [Option.some.injEq,Prod.mk.injEq] at hx
  obtain ⟨-,e2,e3,e4,e5⟩:=hx
  subst e2;subst e3
  obtain ⟨a1,a2,a3,a4⟩:=bD hwl
  obtain ⟨d1,d2,d3,d4⟩:=dh he
  have hobs:∀ p ∈ s2.ob,p:=by rw [e5];intro p hp;cases hp
  have heqs:∀ p ∈ s2.eq,p.1=p.2:=by
   have:s2.eq=[]:=by simpa using e4
   rw [this];intro p hp;cases hp
  obtain ⟨c1,c2,c3⟩:=cf hwl hF (λ p hp=>hobs p (d2 p hp))
  refine .inl ⟨c1,λ X w hRel hB=>?_⟩
  have hRel':Rel (ap A Ts++(X++F)) w:=hRel.perm (by
   rw [<- List.append_assoc,<- List.append_assoc]
   exact List.Perm.append_right F List.perm_append_comm)
  obtain ⟨w1,r1,r2,r3,r4,r5⟩:=gi (w:=w) (F:=X++F) he heqs hobs (by rw [c2];exact hRel') (by rw [a3];exact λ y hy=>List.mem_append_right _ (hR y hy)) (λ e=>by rw [a4] at e;cases e)
  obtain rfl:=r5 a4
  unfold eo
  rw [hF.exec hokp,r1]
  refine (hc X w1 (by simpa using hRel)).mono ?_
  rintro e w2 ⟨u,H',rfl,⟨rfl,rfl⟩,h3,h4⟩
  exact ⟨rfl,by simpa using h3,hB.trans h4⟩
 | code c=>simp [J3,LX] at h
 | ops ops i=>simp [J3,LX] at h
 | ex e=>simp [J3,LX] at h
structure RDO (r:Option Nat) (P:Program) (N:Nat) (D:List Deferred) (F:HL) (w0:World) (R:HL) (hards:List Nat) (Rd:HL) (i:Nat) (s:Cfg) (Q:Exit -> Act -> World -> Prop):Prop where
 h:(∀ y ∈ R,y ∈ F) -> Region.noSelect (mO s)=true -> ∀ a,Fm N D s.L a -> Closed (mO s) ⟨bm (gB s) i true⟩ -> OPJ P (mO s) F w0 hards Rd i a (ap s.A s.Ts) (JJ P (mO s) (NoPanic (ky r P s.k Q)) F w0 hards Rd (ff (bm (gB s) i true)) ⟨bm (gB s) i true⟩)
def LY (s:Cfg):List Nat:=i6 (mO s).toList (gB s)
def Nj (i:Nat) (s:Cfg):Nat:=ff (bm (gB s) i true)+1
theorem RD.one (i:Nat) (hk:RDO r P N D F w0 R hards Rd i s Q) (h:(LY s,ff (gB s))=([i],Nj i s):=by kernel_rfl):RD r P N D F w0 R hards Rd s Q:=by
 refine ⟨λ hR hs=>?_⟩
 simp only [Prod.mk.injEq] at h
 exact TD.one i h.1 _ h.2 λ a hF hcl=>hk.h hR hs a hF hcl
theorem eh (i j:Nat) (h1:RDO r P N D F w0 R hards Rd i s Q) (h2:RDO r P N D F w0 R hards Rd j s Q) (h:(LY s,ff (gB s),ff (gB s))=([i,j],Nj i s,Nj j s):=by kernel_rfl):RD r P N D F w0 R hards Rd s Q:=by
 refine ⟨λ hR hs=>?_⟩
 simp only [Prod.mk.injEq] at h
 have e:ff (bm (gB s) i true)=ff (bm (gB s) j true):=by
  have:=h.2.1.symm.trans h.2.2
  unfold Nj at this;omega
 exact J1 i j h.1 _ h.2.1 (λ a hF hcl=>h1.h hR hs a hF hcl) (λ a hF hcl=>by have:=h2.h hR hs a hF hcl;rw [<- e] at this;exact this)
def Ba (P:Program) (n0 N:Nat) (R:HL) (i:Nat) (hints:List Hint) (s:Cfg):Option (Fo × FL × SS):=match s.c with
 | .drw ops l=>match ops.toList[i]? with
  | none=>none
  | some o=>match iM ops.toList o s.L ⟨s.A,R,hints,0,[],[],true⟩ with
   | some (true,ss)=>match hZ o.op s.L with
    | true=>match ev P n0 o (i5 s.L) ss with
     | some (.value v,s')=>match fi N o.dst v s.L with
      | some L'=>some (.drw ops (bm l i true),L',s')
      | none=>none
     | some (.skip,s')=>match fi N o.dst undef s.L with
      | some L'=>some (.drw ops (bm l i true),L',s')
      | none=>none
     | _=>none
    | false=>none
   | _=>none
 | _=>none
theorem C6 {n0 i:Nat} {hints:List Hint} {ops:Array Oper} {l:List Bool} {k:List KI} {L:FL} {A:HL} {Ts:List HL} {c:Fo} {L':FL} {s':SS} (h:Ba P n0 N R i hints ⟨.drw ops l,k,L,A,Ts⟩=some (c,L',s')) :
  ∃ o ss u x,ops[i]?=some o /\ iM ops.toList o L ⟨A,R,hints,0,[],[],true⟩=some (true,ss) /\ hZ o.op L=true /\ ev P n0 o (i5 L) ss=some (x,s') /\ (x=.value u \/ (x=.skip /\ u=undef)) /\ fi N o.dst u L=some L' /\ c=.drw ops (bm l i true):=by
 unfold Ba at h
 simp only at h
 split at h
 ·cases h
 rename_i o ho
 split at h
 case h_2=>cases h
 rename_i ss hw
 split at h
 case h_2=>cases h
 rename_i hok
 split at h
 ·rename_i v s2 he
  split at h
  case h_2=>cases h
  rename_i hp
  simp only [Option.some.injEq,Prod.mk.injEq] at h
  obtain ⟨e1,e2,e3⟩:=h
  subst e2;subst e3
  exact ⟨o,ss,v,_,by simpa using ho,hw,hok,he,.inl rfl,hp,e1.symm⟩
 ·rename_i s2 he
  split at h
  case h_2=>cases h
  rename_i hp
  simp only [Option.some.injEq,Prod.mk.injEq] at h
  obtain ⟨e1,e2,e3⟩:=h
  subst e2;subst e3
  exact ⟨o,ss,undef,_,by simpa using ho,hw,hok,he,.inr ⟨rfl,rfl⟩,hp,e1.symm⟩
 ·cases h
def LZ (P:Program) (n0 N:Nat) (R:HL) (i:Nat) (hints:List Hint) (s:Cfg):Cfg:=match Ba P n0 N R i hints s with
 | some (c,L',ss)=>match s with
  | ⟨_,k,_,_,Ts⟩=>⟨c,k,L',ss.h,Ts⟩
 | none=>s
def Nk (x:Option (Fo × FL × SS)):List Nat:=match x with
 | some (_,_,ss)=>ss.eq.map (·.2)
 | none=>[]
def Nl (hard:Bool) (ix:List Nat) (A A':HL):HL:=match hard with
 | true=>ix.filterMap (A'[·]?)
 | false=>A'.drop (A'.length - A.length)
def J4 (hard:Bool) (ix:List Nat) (A:HL) (x:Option (Fo × FL × SS)):Option (List Nat × List Prop × HL):=match x with
 | some (_,_,ss)=>match ss.hints with
  | []=>some (ss.eq.map (·.1),ss.ob,Nl hard ix A ss.h)
  | _=>none
 | none=>none
theorem zw (ix:List Nat) {i:Nat} (hints:List Hint) (Ob:Nat -> List Prop) (hob:∀ n0,AllP (Ob n0)) (hk:∀ n0,RD r P N D F w0 R hards Rd (LZ P n0 N R i hints s) Q)
  (h:∀ n0,J4 (hards.contains i) ix s.A (Ba P n0 N R i hints s)=some (Nk (Ba P n0 N R i hints s),Ob n0,cond (hards.contains i) Rd s.A):=by intro n0;kernel_rfl):RDO r P N D F w0 R hards Rd i s Q:=by
 refine ⟨λ hR hs a hF hcl=>?_⟩
 obtain ⟨c,k,L,A,Ts⟩:=s
 cases c with
 | code c=>simp [Ba,J4] at h
 | ops ops i=>simp [Ba,J4] at h
 | ex e=>simp [Ba,J4] at h
 | drw ops l =>
  simp only [mO,gB] at hs hcl h hF ⊢
  have key:∀ n0,∃ o ss s' u x L',ops[i]?=some o /\ iM ops.toList o L ⟨A,R,hints,0,[],[],true⟩=some (true,ss) /\ hZ o.op L=true /\ ev P n0 o (i5 L) ss=some (x,s') /\ (x=.value u \/ (x=.skip /\ u=undef)) /\ fi N o.dst u L=some L' /\
    LZ P n0 N R i hints ⟨.drw ops l,k,L,A,Ts⟩=⟨.drw ops (bm l i true),k,L',s'.h,Ts⟩ /\ (∀ p ∈ s'.eq,p.1=p.2) /\ s'.ob=Ob n0 /\ Nl (hards.contains i) ix A s'.h=cond (hards.contains i) Rd A:=by
   intro n0
   have h1:=h n0
   generalize hx:Ba P n0 N R i hints ⟨.drw ops l,k,L,A,Ts⟩=x at h1
   unfold J4 at h1
   split at h1
   case h_2=>cases h1
   rename_i c L' s'
   split at h1
   case h_2=>cases h1
   simp only [Nk,Option.some.injEq,Prod.mk.injEq] at h1
   obtain ⟨e1,e2,e3⟩:=h1
   obtain ⟨o,ss,u,x,q1,q2,q3,q4,q5,q6,q7⟩:=C6 hx
   refine ⟨o,ss,s',u,x,L',q1,q2,q3,q4,q5,q6,?_,fG e1 rfl,e2,e3⟩
   unfold LZ
   rw [hx]
   subst q7
   rfl
  unfold OPJ
  obtain ⟨o,ss,s',u,x,L',q1,q2,q3,q4,q5,q6,q7,q8,q9,q10⟩:=key 0
  rw [q1]
  simp only
  obtain ⟨d1,d2,d3,d4⟩:=dh q4
  rw [if_pos (cf q2 hF (λ p hp=>eE (hob 0) p (by rw [<- q9];exact d2 p hp))).1]
  intro w hRel hB
  obtain ⟨o',ss,s',u,x,L',q1',q2,q3,q4,q5,q6,q7,q8,q9,q10⟩:=key w.heap.size
  obtain rfl:o=o':=Option.some.inj (q1.symm.trans q1')
  obtain ⟨a1,a2,a3,a4⟩:=bD q2
  obtain ⟨d1,d2,d3,d4⟩:=dh q4
  have hobs:∀ p ∈ s'.ob,p:=by rw [q9];exact eE (hob _)
  obtain ⟨c1,c2,c3⟩:=cf q2 hF (λ p hp=>hobs p (d2 p hp))
  rw [jk] at hRel
  obtain ⟨w1,r1,r2,r3,r4,r5⟩:=gi (w:=w) (F:=Ts.flatten++F) q4 q8 hobs (by rw [c2];exact hRel) (by rw [a3];exact λ y hy=>List.mem_append_right _ (hR y hy)) (λ _=>by rw [c3];rfl)
  have hkk:=(hk w.heap.size).h hR
  rw [q7] at hkk
  have fin:∃ H',((i ∉ hards -> ∃ X,H'=X++ap A Ts) /\ (i ∈ hards -> ∀ x ∈ Rd,x ∈ H')) /\ JJ P ops (NoPanic (ky r P k Q)) F w0 hards Rd (ff (bm l i true)) ⟨bm l i true⟩ (a.put o.dst u) H' /\ Rel (H'++F) w1 /\ Below 0 w0 w1:=by
   refine ⟨ap s'.h Ts,⟨λ hi=>?_,λ hi=>?_⟩,hkk hs hcl _ (hF.put q6),by rw [jk];exact r2,hB.trans r3⟩
   ·have hc:hards.contains i=false:=by
     cases hq:hards.contains i with
     | false=>rfl
     | true=>exact absurd (List.contains_iff_mem.1 hq) hi
    rw [hc] at q10
    simp only [Nl,cond_false] at q10
    refine ⟨s'.h.take (s'.h.length - A.length),?_⟩
    show s'.h++Ts.flatten=_++(A++Ts.flatten)
    rw [<- List.append_assoc]
    congr 1
    conv=>lhs;rw [<- List.take_append_drop (s'.h.length - A.length) s'.h,q10]
   ·have hc:hards.contains i=true:=List.contains_iff_mem.2 hi
    rw [hc] at q10
    simp only [Nl,cond_true] at q10
    exact λ x hx=>List.mem_append_left _ (uI ix q10 x hx)
  unfold eo
  rw [hF.exec q3,r1]
  rcases q5 with rfl | ⟨rfl,rfl⟩
  ·exact fin
  ·exact fin
theorem RDO.ev (ix:List Nat) {i:Nat} (hints:List Hint) (hk:∀ n0,RD r P N D F w0 R hards Rd (LZ P n0 N R i hints s) Q)
 (h:∀ n0,J4 (hards.contains i) ix s.A (Ba P n0 N R i hints s)=some (Nk (Ba P n0 N R i hints s),[],cond (hards.contains i) Rd s.A):=by intro n0;kernel_rfl):RDO r P N D F w0 R hards Rd i s Q:=zw ix hints (λ _=>[]) (λ _=>trivial) hk h
theorem dX (ix:List Nat) {i:Nat} (hints:List Hint) (Ob:List Prop) (hk:∀ n0,RD r P N D F w0 R hards Rd (LZ P n0 N R i hints s) Q) (hob:AllP Ob:=by simp only [AllP,br,and_true,true_and] <;> (repeat' with_reducible refine And.intro ?_ ?_) <;> omega)
 (h:∀ n0,J4 (hards.contains i) ix s.A (Ba P n0 N R i hints s)=some (Nk (Ba P n0 N R i hints s),Ob,cond (hards.contains i) Rd s.A):=by intro n0;kernel_rfl):RDO r P N D F w0 R hards Rd i s Q:=zw ix hints (λ _=>Ob) (λ _=>hob) hk h
def L0 (P:Program) (n0 N:Nat) (R:HL) (i:Nat) (s:Cfg):Option (Option Tmp × FuncId × Array Value × HL × List Nat × List Nat × List Prop):=match s.c with
 | .drw ops _=>mI P n0 N ops.toList i s.L (ap s.A s.Ts) R []
 | _=>none
theorem uM {i:Nat} {ops:Array Oper} {l:List Bool} {k:List KI} {L:FL} {A:HL} {Ts:List HL} {o:Oper} (ho:ops[i]?=some o) {σ:Type} (G:Value -> σ -> Prop) (Ho:σ -> HL) (hl:(fi N o.dst undef L).isSome=true)
  (hg:∀ a,Fm N D L a -> Region.wanted o (yielded ops a.tmps)=true /\ ∀ w,Rel (ap A Ts++F) w -> Below 0 w0 w -> eo P o a w λ u w'=>∃ x,G u x /\ Rel (Ho x++F) w' /\ Below 0 w w')
  (hsoft:∀ x,(i ∉ hards -> ∃ X,Ho x=X++ap A Ts) /\ (i ∈ hards -> ∀ y ∈ Rd,y ∈ Ho x))
  (hk:∀ v x,G v x -> ∀ L',fi N o.dst v L=some L' -> Region.noSelect ops=true -> TD P N D F w0 ops hards Rd (ff (bm l i true)) (bm l i true) L' (Ho x) (NoPanic (ky r P k Q))):RDO r P N D F w0 R hards Rd i ⟨.drw ops l,k,L,A,Ts⟩ Q:=by
 refine ⟨λ hR hs a hF hcl=>?_⟩
 simp only [mO,gB] at hs hcl hF ⊢
 unfold OPJ
 rw [ho]
 simp only
 obtain ⟨h1,h2⟩:=hg a hF
 rw [if_pos h1]
 intro w hRel hB
 refine fV (h2 w hRel hB) ?_
 rintro u w' ⟨x,hx,hR',hB'⟩
 obtain ⟨L',hl'⟩:=eT hl u
 exact ⟨Ho x,hsoft x,hk u x hx L' hl' hs hcl _ (hF.put hl'),hR',hB.trans hB'⟩
def C7 (hard:Bool) (ix ip jp:List Nat) (s:Cfg) (Rd:HL):HL:=match hard with
 | true=>ix.filterMap ((eF ip s)[·]?)
 | false=>match ip,jp with
  | [],[]=>Rd
  | _,_=>(0,.obj (.deferred none)) :: Rd
theorem zx {α:Type} (l:List α):(oth [] l.length).filterMap (l[·]?)=l:=by
 have:oth [] l.length=List.range l.length:=by simp [oth]
 rw [this]
 exact C2 l
theorem C8 {L:FL} {H H':HL} {ops:Array Oper} {fuel:Nat} {l:List Bool} (hp:H'.Perm H) (h:TD P N D F w0 ops hards Rd fuel l L H' Q):TD P N D F w0 ops hards Rd fuel l L H Q:=λ hcl a hF=>JJ.perm _ _ _ _ _ hp (h hcl a hF)
theorem RDO.ct {τ:Type} {i:Nat} (ix ip jp:List Nat) {f:FuncId} {args:Array Value} {Hp:HL} {Tp:List HL} {Hq:τ -> HL} {Tq:τ -> List HL} {Rv:Value -> τ -> Prop}
  (hc:Sp P f args (ap Hp Tp) (ap (eF ip s) (fE jp s)++F) (λ v H'=>∃ x,H'=ap (Hq x) (Tq x) /\ Rv v x)) (hk:∀ v x,Rv v x -> RD r P N D F w0 R hards Rd (uL (λ A=>Hq x++(oth ip A.length).filterMap (A[·]?)) (λ Ts=>Tq x++(oth jp Ts.length).filterMap (Ts[·]?)) (G5 N i v s)) Q)
  (h:∀ n0,j7 N s (L0 P n0 N R i s)=some (f,args,[],[],ap s.A s.Ts):=by intro n0;kernel_rfl)
  (hp:bT ip jp s=true:=by kernel_rfl) (hH:picks ip jp s=(Hp,Tp):=by kernel_rfl) (hx:C7 (hards.contains i) ix ip jp s Rd=Rd:=by kernel_rfl):RDO r P N D F w0 R hards Rd i s Q:=by
 obtain ⟨c,k,L,A,Ts⟩:=s
 cases c with
 | code c=>simp [L0,j7] at h
 | ops ops i=>simp [L0,j7] at h
 | ex e=>simp [L0,j7] at h
 | drw ops l =>
  refine ⟨λ hR=>?_⟩
  unfold bT at hp
  unfold picks at hH
  simp only [L0,Bool.and_eq_true,Prod.mk.injEq] at h hp hH
  obtain ⟨e1,e2⟩:=hH
  have key:∀ n0,∃ dst,mI P n0 N ops.toList i L (ap A Ts) R []=some (dst,f,args,ap A Ts,[],[],[]) /\ (fi N dst undef L).isSome=true:=by
   intro n0
   have h1:=h n0
   generalize hx:mI P n0 N ops.toList i L (ap A Ts) R []=x at h1
   unfold j7 at h1
   split at h1
   case h_2=>cases h1
   rename_i dst f' args' H1 E E' Ob'
   split at h1
   case h_2=>cases h1
   rename_i hput
   simp only [Option.some.injEq,Prod.mk.injEq] at h1
   obtain ⟨e1,e2,e3,e4,e5⟩:=h1
   subst e1;subst e2;subst e3;subst e4;subst e5
   obtain ⟨o,s1,s',_,_,_,_,_,_,g1,g2,_⟩:=ia hx
   have:s'.eq=[]:=by simpa using g1
   rw [this] at g2
   simp only [List.map_nil] at g2
   subst g2
   exact ⟨dst,rfl,hput⟩
  obtain ⟨dst,hce,hput⟩:=key 0
  obtain ⟨o,s1,s',ho,_,_,_,hd,_⟩:=ia hce
  subst hd
  have hall:∀ n0,mI P n0 N ops.toList i L (ap A Ts) R []=some (o.dst,f,args,ap A Ts,[],[],[]):=by
   intro n0
   obtain ⟨dst',h1,_⟩:=key n0
   obtain ⟨o',_,_,ho',_,_,_,hd',_⟩:=ia h1
   obtain rfl:o=o':=Option.some.inj (ho.symm.trans ho')
   rw [hd'];exact h1
  have hperm:(ap Hp Tp++ap (eF ip ⟨.drw ops l,k,L,A,Ts⟩) (fE jp ⟨.drw ops l,k,L,A,Ts⟩)).Perm (ap A Ts):=by
   have h1:=kY A Ts ip (oth ip A.length) jp (oth jp Ts.length) hp.1 hp.2
   rw [e1,e2] at h1
   exact h1
  have hpc:∀ v L',fi N o.dst v L=some L' -> G5 N i v ⟨.drw ops l,k,L,A,Ts⟩=⟨.drw ops (bm l i true),k,L',A,Ts⟩:=by
   intro v L' hl
   unfold G5
   simp only [ho,hl]
  have hTD:∀ v x,Rv v x -> ∀ L',fi N o.dst v L=some L' -> Region.noSelect ops=true -> TD P N D F w0 ops hards Rd (ff (bm l i true)) (bm l i true) L' (ap (Hq x++(oth ip A.length).filterMap (A[·]?)) (Tq x++(oth jp Ts.length).filterMap (Ts[·]?))) (NoPanic (ky r P k Q)):=by
   intro v x hv L' hl hs
   have h1:=(hk v x hv).h hR
   rw [hpc v L' hl] at h1
   exact h1 hs
  have hgen:∀ a,Fm N D L a -> Region.wanted o (yielded ops a.tmps)=true /\ ∀ w,Rel (ap A Ts++F) w -> Below 0 w0 w -> eo P o a w λ u w'=>∃ x,Rv u x /\ Rel ((ap (Hq x) (Tq x)++ap (eF ip ⟨.drw ops l,k,L,A,Ts⟩) (fE jp ⟨.drw ops l,k,L,A,Ts⟩))++F) w' /\ Below 0 w w':=by
   intro a hF
   obtain ⟨h1,h2⟩:=xu (w0:=w0) ho hall hR trivial hperm hc a hF
   refine ⟨h1,λ w hR hB=>fV (h2 w hR hB) ?_⟩
   rintro u w' ⟨H',⟨x,rfl,hv⟩,hR2,hB2⟩
   exact ⟨x,hv,hR2,hB2⟩
  have hswap:∀ x,(ap (Hq x) (Tq x)++ap (eF ip ⟨.drw ops l,k,L,A,Ts⟩) (fE jp ⟨.drw ops l,k,L,A,Ts⟩)).Perm (ap (Hq x++(oth ip A.length).filterMap (A[·]?)) (Tq x++(oth jp Ts.length).filterMap (Ts[·]?))):=by
   intro x
   have h1:=tz (Hq x) (eF ip ⟨.drw ops l,k,L,A,Ts⟩) (Tq x) (fE jp ⟨.drw ops l,k,L,A,Ts⟩) []
   rw [List.append_nil,List.append_nil] at h1
   exact h1
  refine (uM (by simpa using ho) (λ v x=>Rv v x) (λ x=>ap (Hq x) (Tq x)++ap (eF ip ⟨.drw ops l,k,L,A,Ts⟩) (fE jp ⟨.drw ops l,k,L,A,Ts⟩)) hput hgen (λ x=>⟨λ hi=>?_,λ hi y hy=>?_⟩) (λ v x hv L' hl hs=>C8 (hswap x).symm (hTD v x hv L' hl hs)):RDO r P N D F w0 R hards Rd i ⟨.drw ops l,k,L,A,Ts⟩ Q).h hR
  ·have hc:hards.contains i=false:=by
    cases hq:hards.contains i with
    | false=>rfl
    | true=>exact absurd (List.contains_iff_mem.1 hq) hi
   rw [hc] at hx
   unfold C7 at hx
   simp only at hx
   split at hx
   ·refine ⟨ap (Hq x) (Tq x),?_⟩
    unfold eF fE
    show _++ap ((oth [] A.length).filterMap (A[·]?)) ((oth [] Ts.length).filterMap (Ts[·]?))=_
    rw [zx,zx]
   ·exact absurd hx (by simp)
  ·rw [List.contains_iff_mem.2 hi] at hx
   simp only [C7] at hx
   exact List.mem_append_right _ (List.mem_append_left _ (uI ix hx y hy))
def Jl (V:Inv) (ip jp:List Nat) (s:Cfg):(List (Option Value) × HL × List HL) × Bool × Bool:=(tF V ip jp s,bT ip jp s,A8 s)
def ND (V:Inv) (s:Cfg):Cfg:=match s with
 | ⟨_,k,_,_,_⟩=>⟨.ex .normal,k,V.L,V.A,V.Ts⟩
theorem il {σ:Type} (V:σ -> Inv) (k:∀ x,RN r P N D F w0 R (ND (V x) s) Q) (h:(∀ {s':Cfg} (x:σ) (ip jp:List Nat),(h:Jl (V x) ip jp s'=(mN (V x),true,true):=by kernel_rfl) -> (e:s'.k=s.k:=by kernel_rfl) -> RD r P N D F w0 R hards Rd s' Q) -> RD r P N D F w0 R hards Rd s Q):RD r P N D F w0 R hards Rd s Q:=by
 refine h λ {s'} x ip jp hm e=>?_
 unfold Jl at hm
 simp only [Prod.mk.injEq] at hm
 obtain ⟨m1,m2,m3⟩:=hm
 refine RD.fin ⟨λ hR a w h1 h2 h3=>?_⟩ m3
 obtain ⟨c,k',L,A,Ts⟩:=s'
 simp only at e
 subst e
 cases c with
 | drw ops l =>
  obtain ⟨k1,k2⟩:=pN (s:=⟨.drw ops l,s.k,L,A,Ts⟩) m1 m2 h1 h2
  exact (k x).h hR a w k1 k2 h3
 | code c=>simp [A8] at m3
 | ops ops i=>simp [A8] at m3
 | ex e=>simp [A8] at m3
end
end Go.Proofs.YtghjbimijeinfaaGreatDoor
