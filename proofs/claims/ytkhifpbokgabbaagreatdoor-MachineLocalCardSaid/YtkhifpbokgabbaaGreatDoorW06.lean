import Derived.Test.YtkhifpbokgabbaaGreatDoorW05
set_option maxHeartbeats 4000000
set_option maxRecDepth 100000
set_option linter.unusedSimpArgs false
set_option linter.unusedVariables false
namespace Go.Proofs.YtkhifpbokgabbaaGreatDoor
open Go.RowKit
def dOps (s:Cfg):Array Oper:=match s.c with
  | .drw ops _=>ops
  | _=>#[]
def dLst (s:Cfg):List Bool:=match s.c with
  | .drw _ l=>l
  | _=>[]
def nfree:List Bool -> Nat
  | []=>0
  | true :: l=>nfree l
  | false :: l=>nfree l+1
theorem nfree_rep (n:Nat):nfree (List.replicate n false)=n:=by
  induction n with
  | zero=>rfl
  | succ n ih=>rw [List.replicate_succ,nfree,ih]
def drwC (s:Cfg):Cfg:=match s with
  | ⟨.code (.region _ ops true),k,L,A,Ts⟩=>⟨.drw ops (List.replicate ops.toList.length false),k,L,A,Ts⟩
  | s=>s
def isDrw (s:Cfg):Bool:=match s.c with
  | .code (.region _ ops true)=>Region.noSelect ops && noDefer ops
  | _=>false
structure RD (r:Option Nat) (P:Program) (N:Nat) (D:List Deferred) (F:HL) (w0:World) (R:HL) (hards:List Nat) (Rd:HL) (s:Cfg) (Q:Exit -> Act -> World -> Prop):Prop where
  h:(∀ y ∈ R,y ∈ F) -> Region.noSelect (dOps s)=true -> TD P N D F w0 (dOps s) hards Rd (nfree (dLst s)) (dLst s) s.L (ap s.A s.Ts) (NoPanic (denK r P s.k Q))
section
variable {r:Option Nat} {P:Program} {N:Nat} {D:List Deferred} {F:HL} {w0:World} {R:HL} {s:Cfg} {Q:Exit -> Act -> World -> Prop} {hards:List Nat} {Rd:HL}
def rdOf (ix:List Nat) (s:Cfg):HL:=ix.filterMap (s.A[·]?)
theorem RN.draw (hards ix:List Nat) (hk:RD r P N D F w0 R hards (rdOf ix s) (drwC s) Q) (hm:P.follows .mixedOrders=true:=by kernel_rfl) (hc:isDrw s=true:=by kernel_rfl):RN r P N D F w0 R s Q:=by
  refine ⟨λ hR=>?_⟩
  obtain ⟨c,k,L,A,Ts⟩:=s
  unfold isDrw at hc
  split at hc
  case h_2=>cases hc
  rename_i id ops e
  simp only at e
  subst e
  rw [Bool.and_eq_true] at hc
  have h1:=hk.h hR hc.1
  exact TR.draw hards _ hm hc.1 hc.2 (by
    simp only [drwC,dLst,dOps,nfree_rep] at h1
    have e:ops.toList.length=ops.size:=by simp
    rw [e] at h1 ⊢
    exact h1)
def dEnd (s:Cfg):Cfg:=match s with
  | ⟨.drw _ _,k,L,A,Ts⟩=>⟨.ex .normal,k,L,A,Ts⟩
  | s=>s
def dFin (s:Cfg):Bool:=match s.c with
  | .drw ops l=>(readyL ops.toList l).isEmpty
  | _=>false
theorem RD.fin (hk:RN r P N D F w0 R (dEnd s) Q) (hc:dFin s=true:=by kernel_rfl):RD r P N D F w0 R hards Rd s Q:=by
  refine ⟨λ hR _=>?_⟩
  obtain ⟨c,k,L,A,Ts⟩:=s
  unfold dFin at hc
  split at hc
  case h_2=>cases hc
  rename_i ops l e
  simp only at e
  subst e
  exact TD.fin (List.isEmpty_iff.1 hc) (EX.np (λ a w h1 h2 h3=>hk.h hR a w h1 h2 h3))
def dvR (P:Program) (N:Nat) (R:HL) (hards:List Nat) (Rd:HL) (is:List Nat) (hints:List Hint) (s:Cfg):Option (List Bool × FL × SS):=match s.c with
  | .drw ops l=>segV P 0 N ops.toList hards Rd is l s.L ⟨ap s.A s.Ts,R,hints,0,[],[],false⟩
  | _=>none
def dvC (P:Program) (N:Nat) (R:HL) (hards:List Nat) (Rd:HL) (is:List Nat) (hints:List Hint) (s:Cfg):Cfg:=match dvR P N R hards Rd is hints s with
  | some (b,L',_)=>match s with
    | ⟨.drw ops _,k,_,A,Ts⟩=>⟨.drw ops b,k,L',A,Ts⟩
    | s=>s
  | none=>s
def dvE (x:Option (List Bool × FL × SS)):List Nat:=match x with
  | some (_,_,ss)=>ss.eq.map (·.2)
  | none=>[]
def dvK (n:Nat) (x:Option (List Bool × FL × SS)):Option (Nat × List Nat × List Prop):=match x with
  | some (b,_,ss)=>match ss.hints with
    | []=>some (nfree b+n,ss.eq.map (·.1),ss.ob)
    | _=>none
  | none=>none
theorem RD.goO (ix is:List Nat) (hints:List Hint) (Ob:List Prop) (hob:AllP Ob) (hk:RD r P N D F w0 R hards Rd (dvC P N R hards Rd is hints s) Q)
    (h:dvK is.length (dvR P N R hards Rd is hints s)=some (nfree (dLst s),dvE (dvR P N R hards Rd is hints s),Ob):=by kernel_rfl) (hix:rdOf ix s=Rd:=by kernel_rfl):RD r P N D F w0 R hards Rd s Q:=by
  refine ⟨λ hR hs=>?_⟩
  obtain ⟨c,k,L,A,Ts⟩:=s
  cases c with
  | drw ops l =>
    simp only [dOps,dLst] at hs ⊢
    unfold dvC at hk
    generalize hx:dvR P N R hards Rd is hints ⟨.drw ops l,k,L,A,Ts⟩=x at h hk
    unfold dvK at h
    split at h
    case h_2=>cases h
    rename_i b L' ss
    split at h
    case h_2=>cases h
    simp only [dvE,dLst,Option.some.injEq,Prod.mk.injEq] at h
    obtain ⟨e1,e2,e3⟩:=h
    rw [<- e1]
    refine TD.vals_gen (Rr:=R) hs (λ x hx=>List.mem_append_left _ (rd_in ix hix x hx)) hR is l b L L' _ ss hx rfl rfl rfl (pairs_eq e2 rfl) (by rw [e3];exact AllP.mem hob) ?_
    exact hk.h hR hs
  | code c=>simp [dvR,dvK] at h
  | ops ops i=>simp [dvR,dvK] at h
  | ex e=>simp [dvR,dvK] at h
theorem RD.go (ix is:List Nat) (hints:List Hint) (hk:RD r P N D F w0 R hards Rd (dvC P N R hards Rd is hints s) Q)
    (h:dvK is.length (dvR P N R hards Rd is hints s)=some (nfree (dLst s),dvE (dvR P N R hards Rd is hints s),[]):=by kernel_rfl) (hix:rdOf ix s=Rd:=by kernel_rfl):RD r P N D F w0 R hards Rd s Q:=RD.goO ix is hints [] trivial hk h hix
theorem RD.goP (ix is:List Nat) (hints:List Hint) (Ob:List Prop) (hk:RD r P N D F w0 R hards Rd (dvC P N R hards Rd is hints s) Q) (hob:AllP Ob:=by simp only [AllP,I64,and_true,true_and] <;> (repeat' with_reducible refine And.intro ?_ ?_) <;> omega)
    (h:dvK is.length (dvR P N R hards Rd is hints s)=some (nfree (dLst s),dvE (dvR P N R hards Rd is hints s),Ob):=by kernel_rfl) (hix:rdOf ix s=Rd:=by kernel_rfl):RD r P N D F w0 R hards Rd s Q:=RD.goO ix is hints Ob hob hk h hix
theorem RD.fx {b v:Bool} (t:Nat) (hb:b=v) (hk:RD r P N D F w0 R hards Rd (fixC t v s) Q) (h:s.L.lookup t=some (.bool b):=by kernel_rfl):RD r P N D F w0 R hards Rd s Q:=by
  subst hb
  exact ⟨λ hR hs hcl a hF=>hk.h hR hs hcl a (hF.fix h)⟩
theorem RD.em (p:Prop) [Decidable p] (t:Nat) (h1:p -> RD r P N D F w0 R hards Rd (fixC t true s) Q) (h2:¬ p -> RD r P N D F w0 R hards Rd (fixC t false s) Q) (h:s.L.lookup t=some (.bool (decide p)):=by kernel_rfl):RD r P N D F w0 R hards Rd s Q:=by
  by_cases hp:p
  · exact RD.fx t (decide_eq_true hp) (h1 hp) h
  · exact RD.fx t (decide_eq_false hp) (h2 hp) h
def dcR (P:Program) (N:Nat) (R:HL) (i:Nat) (s:Cfg):Option (Option Tmp × FuncId × Array Value × List Nat × List Prop):=match s.c with
  | .drw ops _=>match ops.toList[i]? with
    | none=>none
    | some o=>match wantL ops.toList o s.L ⟨ap s.A s.Ts,R,[],0,[],[],false⟩ with
      | some (true,ss)=>match okOps o.op s.L with
        | true=>match ev P 0 o (rho s.L) ss with
          | some (.enter f args,s')=>match s'.hints with
            | []=>some (o.dst,f,args,s'.eq.map (·.1),s'.ob)
            | _=>none
          | _=>none
        | false=>none
      | _=>none
  | _=>none
def dcK (N:Nat) (hards:List Nat) (i:Nat) (s:Cfg) (x:Option (Option Tmp × FuncId × Array Value × List Nat × List Prop)):Option (FuncId × Array Value × List Nat × List Prop × Nat):=match x with
  | some (dst,f,args,E,Ob)=>match (putL N dst undef s.L).isSome,okV (dOps s).toList hards (dLst s) i with
    | true,true=>some (f,args,E,Ob,nfree (setAt (dLst s) i true)+1)
    | _,_=>none
  | none=>none
def dpC (N i:Nat) (v:Value) (s:Cfg):Cfg:=match s with
  | ⟨.drw ops l,k,L,A,Ts⟩=>match ops.toList[i]? with
    | some o=>match putL N o.dst v L with
      | some L'=>⟨.drw ops (setAt l i true),k,L',A,Ts⟩
      | none=>⟨.drw ops l,k,L,A,Ts⟩
    | none=>⟨.drw ops l,k,L,A,Ts⟩
  | s=>s
theorem RD.cp (ix:List Nat) (i:Nat) {f:FuncId} {args:Array Value} {v:Value} (hc:∀ X,Sp P f args [] (X++(ap s.A s.Ts++F)) (λ u H'=>u=v /\ H'=[])) (hk:RD r P N D F w0 R hards Rd (dpC N i v s) Q)
    (h:dcK N hards i s (dcR P N R i s)=some (f,args,[],[],nfree (dLst s)):=by kernel_rfl) (hix:rdOf ix s=Rd:=by kernel_rfl):RD r P N D F w0 R hards Rd s Q:=by
  refine ⟨λ hR hs=>?_⟩
  obtain ⟨c,k,L,A,Ts⟩:=s
  cases c with
  | drw ops l =>
    simp only [dOps,dLst] at hs ⊢ h
    generalize hx:dcR P N R i ⟨.drw ops l,k,L,A,Ts⟩=x at h
    unfold dcK at h
    split at h
    case h_2=>cases h
    rename_i dst f' args' E Ob
    split at h
    case h_2=>cases h
    rename_i hput hok
    simp only [dOps,dLst,Option.some.injEq,Prod.mk.injEq] at h hok
    obtain ⟨e1,e2,e3,e4,e5⟩:=h
    subst e1;subst e2;subst e3;subst e4
    obtain ⟨L',hl⟩:=putL_some hput v
    have hx':=hx
    unfold dcR at hx'
    simp only at hx'
    have ho:∃ o,ops.toList[i]?=some o /\ o.dst=dst:=by
      split at hx'
      · cases hx'
      rename_i o ho
      split at hx'
      case h_2=>cases hx'
      split at hx'
      case h_2=>cases hx'
      split at hx'
      case h_2=>cases hx'
      split at hx'
      case h_2=>cases hx'
      simp only [Option.some.injEq,Prod.mk.injEq] at hx'
      exact ⟨o,ho,hx'.1⟩
    obtain ⟨o,ho,hd⟩:=ho
    have hpc:dpC N i v ⟨.drw ops l,k,L,A,Ts⟩=⟨.drw ops (setAt l i true),k,L',A,Ts⟩:=by
      unfold dpC
      simp only [ho,hd,hl]
    rw [hpc] at hk
    subst hd
    show TD P N D F w0 ops hards Rd (nfree l) l L (ap A Ts) (NoPanic (denK r P k Q))
    rw [<- e5]
    refine TD.vo (v:=v) (L1:=L') hs (by unfold okV at hok;unfold okW;simp only [Bool.and_eq_true] at hok ⊢;exact hok.1) (by simpa using ho) (λ a hF=>hF.put hl) (λ a hF=>?_) (λ x hx=>List.mem_append_left _ (rd_in ix hix x hx)) (.inl hok) (hk.h hR hs)
    unfold dcR at hx
    simp only [ho] at hx
    split at hx
    case h_2=>cases hx
    rename_i ss hwl
    split at hx
    case h_2=>cases hx
    rename_i hokp
    split at hx
    case h_2=>cases hx
    rename_i f2 args2 s2 he
    split at hx
    case h_2=>cases hx
    simp only [Option.some.injEq,Prod.mk.injEq] at hx
    obtain ⟨-,e2,e3,e4,e5⟩:=hx
    subst e2;subst e3
    obtain ⟨a1,a2,a3,a4⟩:=wantL_keeps hwl
    obtain ⟨d1,d2,d3,d4⟩:=ev_keeps he
    have hobs:∀ p ∈ s2.ob,p:=by rw [e5];intro p hp;cases hp
    have heqs:∀ p ∈ s2.eq,p.1=p.2:=by
      have:s2.eq=[]:=by simpa using e4
      rw [this];intro p hp;cases hp
    obtain ⟨c1,c2,c3⟩:=wantL_sound hwl hF (λ p hp=>hobs p (d2 p hp))
    refine .inl ⟨c1,λ X w hRel hB=>?_⟩
    have hRel':Rel (ap A Ts++(X++F)) w:=hRel.perm (by
      rw [<- List.append_assoc,<- List.append_assoc]
      exact List.Perm.append_right F List.perm_append_comm)
    obtain ⟨w1,r1,r2,r3,r4,r5⟩:=ev_sound (w:=w) (F:=X++F) he heqs hobs (by rw [c2];exact hRel') (by rw [a3];exact λ y hy=>List.mem_append_right _ (hR y hy)) (λ e=>by rw [a4] at e;cases e)
    obtain rfl:=r5 a4
    unfold gives
    rw [hF.exec hokp,r1]
    refine (hc X w1 (by simpa using hRel)).mono ?_
    rintro e w2 ⟨u,H',rfl,⟨rfl,rfl⟩,h3,h4⟩
    exact ⟨rfl,by simpa using h3,hB.trans h4⟩
  | code c=>simp [dcR,dcK] at h
  | ops ops i=>simp [dcR,dcK] at h
  | ex e=>simp [dcR,dcK] at h
structure RDO (r:Option Nat) (P:Program) (N:Nat) (D:List Deferred) (F:HL) (w0:World) (R:HL) (hards:List Nat) (Rd:HL) (i:Nat) (s:Cfg) (Q:Exit -> Act -> World -> Prop):Prop where
  h:(∀ y ∈ R,y ∈ F) -> Region.noSelect (dOps s)=true -> ∀ a,Fm N D s.L a -> Closed (dOps s) ⟨setAt (dLst s) i true⟩ -> OPJ P (dOps s) F w0 hards Rd i a (ap s.A s.Ts) (JJ P (dOps s) (NoPanic (denK r P s.k Q)) F w0 hards Rd (nfree (setAt (dLst s) i true)) ⟨setAt (dLst s) i true⟩)
def dRdy (s:Cfg):List Nat:=readyL (dOps s).toList (dLst s)
def dNf (i:Nat) (s:Cfg):Nat:=nfree (setAt (dLst s) i true)+1
theorem RD.one (i:Nat) (hk:RDO r P N D F w0 R hards Rd i s Q) (h:(dRdy s,nfree (dLst s))=([i],dNf i s):=by kernel_rfl):RD r P N D F w0 R hards Rd s Q:=by
  refine ⟨λ hR hs=>?_⟩
  simp only [Prod.mk.injEq] at h
  exact TD.one i h.1 _ h.2 λ a hF hcl=>hk.h hR hs a hF hcl
theorem RD.two (i j:Nat) (h1:RDO r P N D F w0 R hards Rd i s Q) (h2:RDO r P N D F w0 R hards Rd j s Q) (h:(dRdy s,nfree (dLst s),nfree (dLst s))=([i,j],dNf i s,dNf j s):=by kernel_rfl):RD r P N D F w0 R hards Rd s Q:=by
  refine ⟨λ hR hs=>?_⟩
  simp only [Prod.mk.injEq] at h
  have e:nfree (setAt (dLst s) i true)=nfree (setAt (dLst s) j true):=by
    have:=h.2.1.symm.trans h.2.2
    unfold dNf at this;omega
  exact TD.two i j h.1 _ h.2.1 (λ a hF hcl=>h1.h hR hs a hF hcl) (λ a hF hcl=>by have:=h2.h hR hs a hF hcl;rw [<- e] at this;exact this)
def deR (P:Program) (n0 N:Nat) (R:HL) (i:Nat) (hints:List Hint) (s:Cfg):Option (Fo × FL × SS):=match s.c with
  | .drw ops l=>match ops.toList[i]? with
    | none=>none
    | some o=>match wantL ops.toList o s.L ⟨s.A,R,hints,0,[],[],true⟩ with
      | some (true,ss)=>match okOps o.op s.L with
        | true=>match ev P n0 o (rho s.L) ss with
          | some (.value v,s')=>match putL N o.dst v s.L with
            | some L'=>some (.drw ops (setAt l i true),L',s')
            | none=>none
          | some (.skip,s')=>match putL N o.dst undef s.L with
            | some L'=>some (.drw ops (setAt l i true),L',s')
            | none=>none
          | _=>none
        | false=>none
      | _=>none
  | _=>none
theorem deR_spec {n0 i:Nat} {hints:List Hint} {ops:Array Oper} {l:List Bool} {k:List KI} {L:FL} {A:HL} {Ts:List HL} {c:Fo} {L':FL} {s':SS} (h:deR P n0 N R i hints ⟨.drw ops l,k,L,A,Ts⟩=some (c,L',s')) :
    ∃ o ss u x,ops[i]?=some o /\ wantL ops.toList o L ⟨A,R,hints,0,[],[],true⟩=some (true,ss) /\ okOps o.op L=true /\ ev P n0 o (rho L) ss=some (x,s') /\ (x=.value u \/ (x=.skip /\ u=undef)) /\ putL N o.dst u L=some L' /\ c=.drw ops (setAt l i true):=by
  unfold deR at h
  simp only at h
  split at h
  · cases h
  rename_i o ho
  split at h
  case h_2=>cases h
  rename_i ss hw
  split at h
  case h_2=>cases h
  rename_i hok
  split at h
  · rename_i v s2 he
    split at h
    case h_2=>cases h
    rename_i hp
    simp only [Option.some.injEq,Prod.mk.injEq] at h
    obtain ⟨e1,e2,e3⟩:=h
    subst e2;subst e3
    exact ⟨o,ss,v,_,by simpa using ho,hw,hok,he,.inl rfl,hp,e1.symm⟩
  · rename_i s2 he
    split at h
    case h_2=>cases h
    rename_i hp
    simp only [Option.some.injEq,Prod.mk.injEq] at h
    obtain ⟨e1,e2,e3⟩:=h
    subst e2;subst e3
    exact ⟨o,ss,undef,_,by simpa using ho,hw,hok,he,.inr ⟨rfl,rfl⟩,hp,e1.symm⟩
  · cases h
def deC (P:Program) (n0 N:Nat) (R:HL) (i:Nat) (hints:List Hint) (s:Cfg):Cfg:=match deR P n0 N R i hints s with
  | some (c,L',ss)=>match s with
    | ⟨_,k,_,_,Ts⟩=>⟨c,k,L',ss.h,Ts⟩
  | none=>s
def deE (x:Option (Fo × FL × SS)):List Nat:=match x with
  | some (_,_,ss)=>ss.eq.map (·.2)
  | none=>[]
def deS (hard:Bool) (ix:List Nat) (A A':HL):HL:=match hard with
  | true=>ix.filterMap (A'[·]?)
  | false=>A'.drop (A'.length - A.length)
def deK (hard:Bool) (ix:List Nat) (A:HL) (x:Option (Fo × FL × SS)):Option (List Nat × List Prop × HL):=match x with
  | some (_,_,ss)=>match ss.hints with
    | []=>some (ss.eq.map (·.1),ss.ob,deS hard ix A ss.h)
    | _=>none
  | none=>none
theorem RDO.evO (ix:List Nat) {i:Nat} (hints:List Hint) (Ob:Nat -> List Prop) (hob:∀ n0,AllP (Ob n0)) (hk:∀ n0,RD r P N D F w0 R hards Rd (deC P n0 N R i hints s) Q)
    (h:∀ n0,deK (hards.contains i) ix s.A (deR P n0 N R i hints s)=some (deE (deR P n0 N R i hints s),Ob n0,cond (hards.contains i) Rd s.A):=by intro n0;kernel_rfl):RDO r P N D F w0 R hards Rd i s Q:=by
  refine ⟨λ hR hs a hF hcl=>?_⟩
  obtain ⟨c,k,L,A,Ts⟩:=s
  cases c with
  | code c=>simp [deR,deK] at h
  | ops ops i=>simp [deR,deK] at h
  | ex e=>simp [deR,deK] at h
  | drw ops l =>
    simp only [dOps,dLst] at hs hcl h hF ⊢
    have key:∀ n0,∃ o ss s' u x L',ops[i]?=some o /\ wantL ops.toList o L ⟨A,R,hints,0,[],[],true⟩=some (true,ss) /\ okOps o.op L=true /\ ev P n0 o (rho L) ss=some (x,s') /\ (x=.value u \/ (x=.skip /\ u=undef)) /\ putL N o.dst u L=some L' /\
        deC P n0 N R i hints ⟨.drw ops l,k,L,A,Ts⟩=⟨.drw ops (setAt l i true),k,L',s'.h,Ts⟩ /\ (∀ p ∈ s'.eq,p.1=p.2) /\ s'.ob=Ob n0 /\ deS (hards.contains i) ix A s'.h=cond (hards.contains i) Rd A:=by
      intro n0
      have h1:=h n0
      generalize hx:deR P n0 N R i hints ⟨.drw ops l,k,L,A,Ts⟩=x at h1
      unfold deK at h1
      split at h1
      case h_2=>cases h1
      rename_i c L' s'
      split at h1
      case h_2=>cases h1
      simp only [deE,Option.some.injEq,Prod.mk.injEq] at h1
      obtain ⟨e1,e2,e3⟩:=h1
      obtain ⟨o,ss,u,x,q1,q2,q3,q4,q5,q6,q7⟩:=deR_spec hx
      refine ⟨o,ss,s',u,x,L',q1,q2,q3,q4,q5,q6,?_,pairs_eq e1 rfl,e2,e3⟩
      unfold deC
      rw [hx]
      subst q7
      rfl
    unfold OPJ
    obtain ⟨o,ss,s',u,x,L',q1,q2,q3,q4,q5,q6,q7,q8,q9,q10⟩:=key 0
    rw [q1]
    simp only
    obtain ⟨d1,d2,d3,d4⟩:=ev_keeps q4
    rw [if_pos (wantL_sound q2 hF (λ p hp=>AllP.mem (hob 0) p (by rw [<- q9];exact d2 p hp))).1]
    intro w hRel hB
    obtain ⟨o',ss,s',u,x,L',q1',q2,q3,q4,q5,q6,q7,q8,q9,q10⟩:=key w.heap.size
    obtain rfl:o=o':=Option.some.inj (q1.symm.trans q1')
    obtain ⟨a1,a2,a3,a4⟩:=wantL_keeps q2
    obtain ⟨d1,d2,d3,d4⟩:=ev_keeps q4
    have hobs:∀ p ∈ s'.ob,p:=by rw [q9];exact AllP.mem (hob _)
    obtain ⟨c1,c2,c3⟩:=wantL_sound q2 hF (λ p hp=>hobs p (d2 p hp))
    rw [ap_assoc] at hRel
    obtain ⟨w1,r1,r2,r3,r4,r5⟩:=ev_sound (w:=w) (F:=Ts.flatten++F) q4 q8 hobs (by rw [c2];exact hRel) (by rw [a3];exact λ y hy=>List.mem_append_right _ (hR y hy)) (λ _=>by rw [c3];rfl)
    have hkk:=(hk w.heap.size).h hR
    rw [q7] at hkk
    have fin:∃ H',((i ∉ hards -> ∃ X,H'=X++ap A Ts) /\ (i ∈ hards -> ∀ x ∈ Rd,x ∈ H')) /\ JJ P ops (NoPanic (denK r P k Q)) F w0 hards Rd (nfree (setAt l i true)) ⟨setAt l i true⟩ (a.put o.dst u) H' /\ Rel (H'++F) w1 /\ Below 0 w0 w1:=by
      refine ⟨ap s'.h Ts,⟨λ hi=>?_,λ hi=>?_⟩,hkk hs hcl _ (hF.put q6),by rw [ap_assoc];exact r2,hB.trans r3⟩
      · have hc:hards.contains i=false:=by
          cases hq:hards.contains i with
          | false=>rfl
          | true=>exact absurd (List.contains_iff_mem.1 hq) hi
        rw [hc] at q10
        simp only [deS,cond_false] at q10
        refine ⟨s'.h.take (s'.h.length - A.length),?_⟩
        show s'.h++Ts.flatten=_++(A++Ts.flatten)
        rw [<- List.append_assoc]
        congr 1
        conv=>lhs;rw [<- List.take_append_drop (s'.h.length - A.length) s'.h,q10]
      · have hc:hards.contains i=true:=List.contains_iff_mem.2 hi
        rw [hc] at q10
        simp only [deS,cond_true] at q10
        exact λ x hx=>List.mem_append_left _ (rd_in ix q10 x hx)
    unfold gives
    rw [hF.exec q3,r1]
    rcases q5 with rfl | ⟨rfl,rfl⟩
    · exact fin
    · exact fin
theorem RDO.ev (ix:List Nat) {i:Nat} (hints:List Hint) (hk:∀ n0,RD r P N D F w0 R hards Rd (deC P n0 N R i hints s) Q)
    (h:∀ n0,deK (hards.contains i) ix s.A (deR P n0 N R i hints s)=some (deE (deR P n0 N R i hints s),[],cond (hards.contains i) Rd s.A):=by intro n0;kernel_rfl):RDO r P N D F w0 R hards Rd i s Q:=RDO.evO ix hints (λ _=>[]) (λ _=>trivial) hk h
theorem RDO.evP (ix:List Nat) {i:Nat} (hints:List Hint) (Ob:List Prop) (hk:∀ n0,RD r P N D F w0 R hards Rd (deC P n0 N R i hints s) Q) (hob:AllP Ob:=by simp only [AllP,I64,and_true,true_and] <;> (repeat' with_reducible refine And.intro ?_ ?_) <;> omega)
    (h:∀ n0,deK (hards.contains i) ix s.A (deR P n0 N R i hints s)=some (deE (deR P n0 N R i hints s),Ob,cond (hards.contains i) Rd s.A):=by intro n0;kernel_rfl):RDO r P N D F w0 R hards Rd i s Q:=RDO.evO ix hints (λ _=>Ob) (λ _=>hob) hk h
def dkR (P:Program) (n0 N:Nat) (R:HL) (i:Nat) (s:Cfg):Option (Option Tmp × FuncId × Array Value × HL × List Nat × List Nat × List Prop):=match s.c with
  | .drw ops _=>callE P n0 N ops.toList i s.L (ap s.A s.Ts) R []
  | _=>none
theorem RDO.give {i:Nat} {ops:Array Oper} {l:List Bool} {k:List KI} {L:FL} {A:HL} {Ts:List HL} {o:Oper} (ho:ops[i]?=some o) {σ:Type} (G:Value -> σ -> Prop) (Ho:σ -> HL) (hl:(putL N o.dst undef L).isSome=true)
    (hg:∀ a,Fm N D L a -> Region.wanted o (yielded ops a.tmps)=true /\ ∀ w,Rel (ap A Ts++F) w -> Below 0 w0 w -> gives P o a w λ u w'=>∃ x,G u x /\ Rel (Ho x++F) w' /\ Below 0 w w')
    (hsoft:∀ x,(i ∉ hards -> ∃ X,Ho x=X++ap A Ts) /\ (i ∈ hards -> ∀ y ∈ Rd,y ∈ Ho x))
    (hk:∀ v x,G v x -> ∀ L',putL N o.dst v L=some L' -> Region.noSelect ops=true -> TD P N D F w0 ops hards Rd (nfree (setAt l i true)) (setAt l i true) L' (Ho x) (NoPanic (denK r P k Q))):RDO r P N D F w0 R hards Rd i ⟨.drw ops l,k,L,A,Ts⟩ Q:=by
  refine ⟨λ hR hs a hF hcl=>?_⟩
  simp only [dOps,dLst] at hs hcl hF ⊢
  unfold OPJ
  rw [ho]
  simp only
  obtain ⟨h1,h2⟩:=hg a hF
  rw [if_pos h1]
  intro w hRel hB
  refine gives_mono (h2 w hRel hB) ?_
  rintro u w' ⟨x,hx,hR',hB'⟩
  obtain ⟨L',hl'⟩:=putL_some hl u
  exact ⟨Ho x,hsoft x,hk u x hx L' hl' hs hcl _ (hF.put hl'),hR',hB.trans hB'⟩
def dsoft (hard:Bool) (ix ip jp:List Nat) (s:Cfg) (Rd:HL):HL:=match hard with
  | true=>ix.filterMap ((othA ip s)[·]?)
  | false=>match ip,jp with
    | [],[]=>Rd
    | _,_=>(0,.obj (.deferred none)) :: Rd
theorem oth_nil {α:Type} (l:List α):(oth [] l.length).filterMap (l[·]?)=l:=by
  have:oth [] l.length=List.range l.length:=by simp [oth]
  rw [this]
  exact range_fM l
theorem TD.permH {L:FL} {H H':HL} {ops:Array Oper} {fuel:Nat} {l:List Bool} (hp:H'.Perm H) (h:TD P N D F w0 ops hards Rd fuel l L H' Q):TD P N D F w0 ops hards Rd fuel l L H Q:=λ hcl a hF=>JJ.perm _ _ _ _ _ hp (h hcl a hF)
theorem RDO.ct {τ:Type} {i:Nat} (ix ip jp:List Nat) {f:FuncId} {args:Array Value} {Hp:HL} {Tp:List HL} {Hq:τ -> HL} {Tq:τ -> List HL} {Rv:Value -> τ -> Prop}
    (hc:Sp P f args (ap Hp Tp) (ap (othA ip s) (othT jp s)++F) (λ v H'=>∃ x,H'=ap (Hq x) (Tq x) /\ Rv v x)) (hk:∀ v x,Rv v x -> RD r P N D F w0 R hards Rd (setH (λ A=>Hq x++(oth ip A.length).filterMap (A[·]?)) (λ Ts=>Tq x++(oth jp Ts.length).filterMap (Ts[·]?)) (dpC N i v s)) Q)
    (h:∀ n0,callK N s (dkR P n0 N R i s)=some (f,args,[],[],ap s.A s.Ts):=by intro n0;kernel_rfl)
    (hp:permOk ip jp s=true:=by kernel_rfl) (hH:picks ip jp s=(Hp,Tp):=by kernel_rfl) (hx:dsoft (hards.contains i) ix ip jp s Rd=Rd:=by kernel_rfl):RDO r P N D F w0 R hards Rd i s Q:=by
  obtain ⟨c,k,L,A,Ts⟩:=s
  cases c with
  | code c=>simp [dkR,callK] at h
  | ops ops i=>simp [dkR,callK] at h
  | ex e=>simp [dkR,callK] at h
  | drw ops l =>
    refine ⟨λ hR=>?_⟩
    unfold permOk at hp
    unfold picks at hH
    simp only [dkR,Bool.and_eq_true,Prod.mk.injEq] at h hp hH
    obtain ⟨e1,e2⟩:=hH
    have key:∀ n0,∃ dst,callE P n0 N ops.toList i L (ap A Ts) R []=some (dst,f,args,ap A Ts,[],[],[]) /\ (putL N dst undef L).isSome=true:=by
      intro n0
      have h1:=h n0
      generalize hx:callE P n0 N ops.toList i L (ap A Ts) R []=x at h1
      unfold callK at h1
      split at h1
      case h_2=>cases h1
      rename_i dst f' args' H1 E E' Ob'
      split at h1
      case h_2=>cases h1
      rename_i hput
      simp only [Option.some.injEq,Prod.mk.injEq] at h1
      obtain ⟨e1,e2,e3,e4,e5⟩:=h1
      subst e1;subst e2;subst e3;subst e4;subst e5
      obtain ⟨o,s1,s',_,_,_,_,_,_,g1,g2,_⟩:=callE_spec hx
      have:s'.eq=[]:=by simpa using g1
      rw [this] at g2
      simp only [List.map_nil] at g2
      subst g2
      exact ⟨dst,rfl,hput⟩
    obtain ⟨dst,hce,hput⟩:=key 0
    obtain ⟨o,s1,s',ho,_,_,_,hd,_⟩:=callE_spec hce
    subst hd
    have hall:∀ n0,callE P n0 N ops.toList i L (ap A Ts) R []=some (o.dst,f,args,ap A Ts,[],[],[]):=by
      intro n0
      obtain ⟨dst',h1,_⟩:=key n0
      obtain ⟨o',_,_,ho',_,_,_,hd',_⟩:=callE_spec h1
      obtain rfl:o=o':=Option.some.inj (ho.symm.trans ho')
      rw [hd'];exact h1
    have hperm:(ap Hp Tp++ap (othA ip ⟨.drw ops l,k,L,A,Ts⟩) (othT jp ⟨.drw ops l,k,L,A,Ts⟩)).Perm (ap A Ts):=by
      have h1:=ap_perm A Ts ip (oth ip A.length) jp (oth jp Ts.length) hp.1 hp.2
      rw [e1,e2] at h1
      exact h1
    have hpc:∀ v L',putL N o.dst v L=some L' -> dpC N i v ⟨.drw ops l,k,L,A,Ts⟩=⟨.drw ops (setAt l i true),k,L',A,Ts⟩:=by
      intro v L' hl
      unfold dpC
      simp only [ho,hl]
    have hTD:∀ v x,Rv v x -> ∀ L',putL N o.dst v L=some L' -> Region.noSelect ops=true -> TD P N D F w0 ops hards Rd (nfree (setAt l i true)) (setAt l i true) L' (ap (Hq x++(oth ip A.length).filterMap (A[·]?)) (Tq x++(oth jp Ts.length).filterMap (Ts[·]?))) (NoPanic (denK r P k Q)):=by
      intro v x hv L' hl hs
      have h1:=(hk v x hv).h hR
      rw [hpc v L' hl] at h1
      exact h1 hs
    have hgen:∀ a,Fm N D L a -> Region.wanted o (yielded ops a.tmps)=true /\ ∀ w,Rel (ap A Ts++F) w -> Below 0 w0 w -> gives P o a w λ u w'=>∃ x,Rv u x /\ Rel ((ap (Hq x) (Tq x)++ap (othA ip ⟨.drw ops l,k,L,A,Ts⟩) (othT jp ⟨.drw ops l,k,L,A,Ts⟩))++F) w' /\ Below 0 w w':=by
      intro a hF
      obtain ⟨h1,h2⟩:=call_gives (w0:=w0) ho hall hR trivial hperm hc a hF
      refine ⟨h1,λ w hR hB=>gives_mono (h2 w hR hB) ?_⟩
      rintro u w' ⟨H',⟨x,rfl,hv⟩,hR2,hB2⟩
      exact ⟨x,hv,hR2,hB2⟩
    have hswap:∀ x,(ap (Hq x) (Tq x)++ap (othA ip ⟨.drw ops l,k,L,A,Ts⟩) (othT jp ⟨.drw ops l,k,L,A,Ts⟩)).Perm (ap (Hq x++(oth ip A.length).filterMap (A[·]?)) (Tq x++(oth jp Ts.length).filterMap (Ts[·]?))):=by
      intro x
      have h1:=ap_swap (Hq x) (othA ip ⟨.drw ops l,k,L,A,Ts⟩) (Tq x) (othT jp ⟨.drw ops l,k,L,A,Ts⟩) []
      rw [List.append_nil,List.append_nil] at h1
      exact h1
    refine (RDO.give (by simpa using ho) (λ v x=>Rv v x) (λ x=>ap (Hq x) (Tq x)++ap (othA ip ⟨.drw ops l,k,L,A,Ts⟩) (othT jp ⟨.drw ops l,k,L,A,Ts⟩)) hput hgen (λ x=>⟨λ hi=>?_,λ hi y hy=>?_⟩) (λ v x hv L' hl hs=>TD.permH (hswap x).symm (hTD v x hv L' hl hs)):RDO r P N D F w0 R hards Rd i ⟨.drw ops l,k,L,A,Ts⟩ Q).h hR
    · have hc:hards.contains i=false:=by
        cases hq:hards.contains i with
        | false=>rfl
        | true=>exact absurd (List.contains_iff_mem.1 hq) hi
      rw [hc] at hx
      unfold dsoft at hx
      simp only at hx
      split at hx
      · refine ⟨ap (Hq x) (Tq x),?_⟩
        unfold othA othT
        show _++ap ((oth [] A.length).filterMap (A[·]?)) ((oth [] Ts.length).filterMap (Ts[·]?))=_
        rw [oth_nil,oth_nil]
      · exact absurd hx (by simp)
    · rw [List.contains_iff_mem.2 hi] at hx
      simp only [dsoft] at hx
      exact List.mem_append_right _ (List.mem_append_left _ (rd_in ix hx y hy))
def dMeet (V:Inv) (ip jp:List Nat) (s:Cfg):(List (Option Value) × HL × List HL) × Bool × Bool:=(fits V ip jp s,permOk ip jp s,dFin s)
def dOut (V:Inv) (s:Cfg):Cfg:=match s with
  | ⟨_,k,_,_,_⟩=>⟨.ex .normal,k,V.L,V.A,V.Ts⟩
theorem RD.haveK {σ:Type} (V:σ -> Inv) (k:∀ x,RN r P N D F w0 R (dOut (V x) s) Q) (h:(∀ {s':Cfg} (x:σ) (ip jp:List Nat),(h:dMeet (V x) ip jp s'=(fitsV (V x),true,true):=by kernel_rfl) -> (e:s'.k=s.k:=by kernel_rfl) -> RD r P N D F w0 R hards Rd s' Q) -> RD r P N D F w0 R hards Rd s Q):RD r P N D F w0 R hards Rd s Q:=by
  refine h λ {s'} x ip jp hm e=>?_
  unfold dMeet at hm
  simp only [Prod.mk.injEq] at hm
  obtain ⟨m1,m2,m3⟩:=hm
  refine RD.fin ⟨λ hR a w h1 h2 h3=>?_⟩ m3
  obtain ⟨c,k',L,A,Ts⟩:=s'
  simp only at e
  subst e
  cases c with
  | drw ops l =>
    obtain ⟨k1,k2⟩:=fits_rel (s:=⟨.drw ops l,s.k,L,A,Ts⟩) m1 m2 h1 h2
    exact (k x).h hR a w k1 k2 h3
  | code c=>simp [dFin] at m3
  | ops ops i=>simp [dFin] at m3
  | ex e=>simp [dFin] at m3
end
end Go.Proofs.YtkhifpbokgabbaaGreatDoor
