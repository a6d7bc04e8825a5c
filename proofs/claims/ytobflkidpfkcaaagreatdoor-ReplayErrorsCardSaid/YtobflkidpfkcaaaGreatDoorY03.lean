import Derived.Test.YtobflkidpfkcaaaGreatDoorY02
import Derived.Test.YtobflkidpfkcaaaGreatDoorProg
import Derived.Shelf.Small.Bits
import Derived.Shelf.Strconv.Itoa0
set_option maxHeartbeats 4000000
set_option maxRecDepth 100000
set_option linter.unusedSimpArgs false
set_option linter.unusedVariables false
namespace Go.Proofs.YtobflkidpfkcaaaGreatDoor
open Go.RowKit
def lH (s:Cfg):Array Oper:=match s.c with
 | .drw ops _=>ops
 | _=>#[]
def fG (s:Cfg):List Bool:=match s.c with
 | .drw _ l=>l
 | _=>[]
def eC:List Bool -> Nat
 | []=>0
 | true :: l=>eC l
 | false :: l=>eC l+1
theorem Br (n:Nat):eC (List.replicate n false)=n:=by
 induction n with
 | zero=>rfl
 | succ n ih=>rw [List.replicate_succ,eC,ih]
def Mf (s:Cfg):Cfg:=match s with
 | ⟨.code (.region _ ops true),k,L,A,Ts⟩=>⟨.drw ops (List.replicate ops.toList.length false),k,L,A,Ts⟩
 | s=>s
def JF (s:Cfg):Bool:=match s.c with
 | .code (.region _ ops true)=>Region.noSelect ops && pz ops
 | _=>false
structure RD (r:Option Nat) (P:Program) (N:Nat) (D:List Deferred) (F:HL) (w0:World) (R:HL) (hards:List Nat) (Rd:HL) (s:Cfg) (Q:Exit -> Act -> World -> Prop):Prop where
 h:(∀ y ∈ R,y ∈ F) -> Region.noSelect (lH s)=true -> TD P N D F w0 (lH s) hards Rd (eC (fG s)) (fG s) s.L (ap s.A s.Ts) (NoPanic (kG r P s.k Q))
section
variable {r:Option Nat} {P:Program} {N:Nat} {D:List Deferred} {F:HL} {w0:World} {R:HL} {s:Cfg} {Q:Exit -> Act -> World -> Prop} {hards:List Nat} {Rd:HL}
def uQ (ix:List Nat) (s:Cfg):HL:=ix.filterMap (s.A[·]?)
theorem RN.draw (hards ix:List Nat) (hk:RD r P N D F w0 R hards (uQ ix s) (Mf s) Q) (hm:P.follows .mixedOrders=true:=by kernel_rfl) (hc:JF s=true:=by kernel_rfl):RN r P N D F w0 R s Q:=by
 refine ⟨λ hR=>?_⟩
 obtain ⟨c,k,L,A,Ts⟩:=s
 unfold JF at hc
 split at hc
 case h_2=>cases hc
 rename_i id ops e
 simp only at e
 subst e
 rw [Bool.and_eq_true] at hc
 have h1:=hk.h hR hc.1
 exact TR.draw hards _ hm hc.1 hc.2 (by
  simp only [Mf,fG,lH,Br] at h1
  have e:ops.toList.length=ops.size:=by simp
  rw [e] at h1 ⊢
  exact h1)
def Ok (s:Cfg):Cfg:=match s with
 | ⟨.drw _ _,k,L,A,Ts⟩=>⟨.ex .normal,k,L,A,Ts⟩
 | s=>s
def Bt (s:Cfg):Bool:=match s.c with
 | .drw ops l=>(jc ops.toList l).isEmpty
 | _=>false
theorem RD.fin (hk:RN r P N D F w0 R (Ok s) Q) (hc:Bt s=true:=by kernel_rfl):RD r P N D F w0 R hards Rd s Q:=by
 refine ⟨λ hR _=>?_⟩
 obtain ⟨c,k,L,A,Ts⟩:=s
 unfold Bt at hc
 split at hc
 case h_2=>cases hc
 rename_i ops l e
 simp only at e
 subst e
 exact TD.fin (List.isEmpty_iff.1 hc) (Mb (λ a w h1 h2 h3=>hk.h hR a w h1 h2 h3))
def DJ (P:Program) (N:Nat) (R:HL) (hards:List Nat) (Rd:HL) (is:List Nat) (hints:List Hint) (s:Cfg):Option (List Bool × FL × SS):=match s.c with
 | .drw ops l=>rJ P 0 N ops.toList hards Rd is l s.L ⟨ap s.A s.Ts,R,hints,0,[],[],false⟩
 | _=>none
def NT (P:Program) (N:Nat) (R:HL) (hards:List Nat) (Rd:HL) (is:List Nat) (hints:List Hint) (s:Cfg):Cfg:=match DJ P N R hards Rd is hints s with
 | some (b,L',_)=>match s with
  | ⟨.drw ops _,k,_,A,Ts⟩=>⟨.drw ops b,k,L',A,Ts⟩
  | s=>s
 | none=>s
def NU (x:Option (List Bool × FL × SS)):List Nat:=match x with
 | some (_,_,ss)=>ss.eq.map (·.2)
 | none=>[]
def Kl (n:Nat) (x:Option (List Bool × FL × SS)):Option (Nat × List Nat × List Prop):=match x with
 | some (b,_,ss)=>match ss.hints with
  | []=>some (eC b+n,ss.eq.map (·.1),ss.ob)
  | _=>none
 | none=>none
theorem tJ (ix is:List Nat) (hints:List Hint) (Ob:List Prop) (hob:AllP Ob) (hk:RD r P N D F w0 R hards Rd (NT P N R hards Rd is hints s) Q)
  (h:Kl is.length (DJ P N R hards Rd is hints s)=some (eC (fG s),NU (DJ P N R hards Rd is hints s),Ob):=by kernel_rfl) (hix:uQ ix s=Rd:=by kernel_rfl):RD r P N D F w0 R hards Rd s Q:=by
 refine ⟨λ hR hs=>?_⟩
 obtain ⟨c,k,L,A,Ts⟩:=s
 cases c with
 | drw ops l =>
  simp only [lH,fG] at hs ⊢
  unfold NT at hk
  generalize hx:DJ P N R hards Rd is hints ⟨.drw ops l,k,L,A,Ts⟩=x at h hk
  unfold Kl at h
  split at h
  case h_2=>cases h
  rename_i b L' ss
  split at h
  case h_2=>cases h
  simp only [NU,fG,Option.some.injEq,Prod.mk.injEq] at h
  obtain ⟨e1,e2,e3⟩:=h
  rw [<- e1]
  refine iZ (Rr:=R) hs (λ x hx=>List.mem_append_left _ (pW ix hix x hx)) hR is l b L L' _ ss hx rfl rfl rfl (fF e2 rfl) (by rw [e3];exact AllP.mem hob) ?_
  exact hk.h hR hs
 | code c=>simp [DJ,Kl] at h
 | ops ops i=>simp [DJ,Kl] at h
 | ex e=>simp [DJ,Kl] at h
theorem ag (ix is:List Nat) (hints:List Hint) (hk:RD r P N D F w0 R hards Rd (NT P N R hards Rd is hints s) Q)
 (h:Kl is.length (DJ P N R hards Rd is hints s)=some (eC (fG s),NU (DJ P N R hards Rd is hints s),[]):=by kernel_rfl) (hix:uQ ix s=Rd:=by kernel_rfl):RD r P N D F w0 R hards Rd s Q:=tJ ix is hints [] trivial hk h hix
theorem aJ (ix is:List Nat) (hints:List Hint) (Ob:List Prop) (hk:RD r P N D F w0 R hards Rd (NT P N R hards Rd is hints s) Q) (hob:AllP Ob:=by simp only [AllP,bg,and_true,true_and] <;> (repeat' with_reducible refine And.intro ?_ ?_) <;> omega)
 (h:Kl is.length (DJ P N R hards Rd is hints s)=some (eC (fG s),NU (DJ P N R hards Rd is hints s),Ob):=by kernel_rfl) (hix:uQ ix s=Rd:=by kernel_rfl):RD r P N D F w0 R hards Rd s Q:=tJ ix is hints Ob hob hk h hix
theorem RD.fx {b v:Bool} (t:Nat) (hb:b=v) (hk:RD r P N D F w0 R hards Rd (pg t v s) Q) (h:s.L.lookup t=some (.bool b):=by kernel_rfl):RD r P N D F w0 R hards Rd s Q:=by
 subst hb
 exact ⟨λ hR hs hcl a hF=>hk.h hR hs hcl a (hF.fix h)⟩
theorem RD.em (p:Prop) [Decidable p] (t:Nat) (h1:p -> RD r P N D F w0 R hards Rd (pg t true s) Q) (h2:¬ p -> RD r P N D F w0 R hards Rd (pg t false s) Q) (h:s.L.lookup t=some (.bool (decide p)):=by kernel_rfl):RD r P N D F w0 R hards Rd s Q:=by
 by_cases hp:p
 ·exact RD.fx t (decide_eq_true hp) (h1 hp) h
 ·exact RD.fx t (decide_eq_false hp) (h2 hp) h
theorem RD.ro {R':HL} (h:(∀ y ∈ R,y ∈ F) -> ∀ y ∈ R',y ∈ F) (hk:RD r P N D F w0 R' hards Rd s Q):RD r P N D F w0 R hards Rd s Q:=⟨λ hR=>hk.h (h hR)⟩
def Km (P:Program) (N:Nat) (R:HL) (i:Nat) (s:Cfg):Option (Option Tmp × FuncId × Array Value × List Nat × List Prop):=match s.c with
 | .drw ops _=>match ops.toList[i]? with
  | none=>none
  | some o=>match iX ops.toList o s.L ⟨ap s.A s.Ts,R,[],0,[],[],false⟩ with
   | some (true,ss)=>match ii o.op s.L with
    | true=>match ev P 0 o (iT s.L) ss with
     | some (.enter f args,s')=>match s'.hints with
      | []=>some (o.dst,f,args,s'.eq.map (·.1),s'.ob)
      | _=>none
     | _=>none
    | false=>none
   | _=>none
 | _=>none
def Mg (N:Nat) (hards:List Nat) (i:Nat) (s:Cfg) (x:Option (Option Tmp × FuncId × Array Value × List Nat × List Prop)):Option (FuncId × Array Value × List Nat × List Prop × Nat):=match x with
 | some (dst,f,args,E,Ob)=>match (eS N dst undef s.L).isSome,L0 (lH s).toList hards (fG s) i with
  | true,true=>some (f,args,E,Ob,eC (br (fG s) i true)+1)
  | _,_=>none
 | none=>none
def xO (N i:Nat) (v:Value) (s:Cfg):Cfg:=match s with
 | ⟨.drw ops l,k,L,A,Ts⟩=>match ops.toList[i]? with
  | some o=>match eS N o.dst v L with
   | some L'=>⟨.drw ops (br l i true),k,L',A,Ts⟩
   | none=>⟨.drw ops l,k,L,A,Ts⟩
  | none=>⟨.drw ops l,k,L,A,Ts⟩
 | s=>s
theorem au (ix:List Nat) (i:Nat) {f:FuncId} {args:Array Value} {v:Value} (hc:∀ X,Sp P f args [] (X++(ap s.A s.Ts++F)) (λ u H'=>u=v /\ H'=[])) (hk:RD r P N D F w0 R hards Rd (xO N i v s) Q)
  (h:Mg N hards i s (Km P N R i s)=some (f,args,[],[],eC (fG s)):=by kernel_rfl) (hix:uQ ix s=Rd:=by kernel_rfl):RD r P N D F w0 R hards Rd s Q:=by
 refine ⟨λ hR hs=>?_⟩
 obtain ⟨c,k,L,A,Ts⟩:=s
 cases c with
 | drw ops l =>
  simp only [lH,fG] at hs ⊢ h
  generalize hx:Km P N R i ⟨.drw ops l,k,L,A,Ts⟩=x at h
  unfold Mg at h
  split at h
  case h_2=>cases h
  rename_i dst f' args' E Ob
  split at h
  case h_2=>cases h
  rename_i hput hok
  simp only [lH,fG,Option.some.injEq,Prod.mk.injEq] at h hok
  obtain ⟨e1,e2,e3,e4,e5⟩:=h
  subst e1;subst e2;subst e3;subst e4
  obtain ⟨L',hl⟩:=dY hput v
  have hx':=hx
  unfold Km at hx'
  simp only at hx'
  have ho:∃ o,ops.toList[i]?=some o /\ o.dst=dst:=by
   split at hx'
   ·cases hx'
   rename_i o ho
   split at hx'
   case h_2=>cases hx'
   split at hx'
   case h_2=>cases hx'
   split at hx'
   case h_2=>cases hx'
   split at hx'
   case h_2=>cases hx'
   simp only [Option.some.injEq,Prod.mk.injEq] at hx'
   exact ⟨o,ho,hx'.1⟩
  obtain ⟨o,ho,hd⟩:=ho
  have hpc:xO N i v ⟨.drw ops l,k,L,A,Ts⟩=⟨.drw ops (br l i true),k,L',A,Ts⟩:=by
   unfold xO
   simp only [ho,hd,hl]
  rw [hpc] at hk
  subst hd
  show TD P N D F w0 ops hards Rd (eC l) l L (ap A Ts) (NoPanic (kG r P k Q))
  rw [<- e5]
  refine uL (v:=v) (L1:=L') hs (by unfold L0 at hok;unfold L2;simp only [Bool.and_eq_true] at hok ⊢;exact hok.1) (by simpa using ho) (λ a hF=>hF.put hl) (λ a hF=>?_) (λ x hx=>List.mem_append_left _ (pW ix hix x hx)) (.inl hok) (hk.h hR hs)
  unfold Km at hx
  simp only [ho] at hx
  split at hx
  case h_2=>cases hx
  rename_i ss hwl
  split at hx
  case h_2=>cases hx
  rename_i hokp
  split at hx
  case h_2=>cases hx
  rename_i f2 args2 s2 he
  split at hx
  case h_2=>cases hx
  simp only [Option.some.injEq,Prod.mk.injEq] at hx
  obtain ⟨-,e2,e3,e4,e5⟩:=hx
  subst e2;subst e3
  obtain ⟨a1,a2,a3,a4⟩:=bI hwl
  obtain ⟨d1,d2,d3,d4⟩:=dk he
  have hobs:∀ p ∈ s2.ob,p:=by rw [e5];intro p hp;cases hp
  have heqs:∀ p ∈ s2.eq,p.1=p.2:=by
   have:s2.eq=[]:=by simpa using e4
   rw [this];intro p hp;cases hp
  obtain ⟨c1,c2,c3⟩:=ci hwl hF (λ p hp=>hobs p (d2 p hp))
  refine .inl ⟨c1,λ X w hRel hB=>?_⟩
  have hRel':Rel (ap A Ts++(X++F)) w:=hRel.perm (by
   rw [<- List.append_assoc,<- List.append_assoc]
   exact List.Perm.append_right F List.perm_append_comm)
  obtain ⟨w1,r1,r2,r3,r4,r5⟩:=gi (w:=w) (F:=X++F) he heqs hobs (by rw [c2];exact hRel') (by rw [a3];exact λ y hy=>List.mem_append_right _ (hR y hy)) (λ e=>by rw [a4] at e;cases e)
  obtain rfl:=r5 a4
  unfold d7
  rw [hF.exec hokp,r1]
  refine (hc X w1 (by simpa using hRel)).mono ?_
  rintro e w2 ⟨u,H',rfl,⟨rfl,rfl⟩,h3,h4⟩
  exact ⟨rfl,by simpa using h3,hB.trans h4⟩
 | code c=>simp [Km,Mg] at h
 | ops ops i=>simp [Km,Mg] at h
 | ex e=>simp [Km,Mg] at h
structure RDO (r:Option Nat) (P:Program) (N:Nat) (D:List Deferred) (F:HL) (w0:World) (R:HL) (hards:List Nat) (Rd:HL) (i:Nat) (s:Cfg) (Q:Exit -> Act -> World -> Prop):Prop where
 h:(∀ y ∈ R,y ∈ F) -> Region.noSelect (lH s)=true -> ∀ a,Fm N D s.L a -> Closed (lH s) ⟨br (fG s) i true⟩ -> OPJ P (lH s) F w0 hards Rd i a (ap s.A s.Ts) (JJ P (lH s) (NoPanic (kG r P s.k Q)) F w0 hards Rd (eC (br (fG s) i true)) ⟨br (fG s) i true⟩)
def Mh (s:Cfg):List Nat:=jc (lH s).toList (fG s)
def NV (i:Nat) (s:Cfg):Nat:=eC (br (fG s) i true)+1
theorem RD.one (i:Nat) (hk:RDO r P N D F w0 R hards Rd i s Q) (h:(Mh s,eC (fG s))=([i],NV i s):=by kernel_rfl):RD r P N D F w0 R hards Rd s Q:=by
 refine ⟨λ hR hs=>?_⟩
 simp only [Prod.mk.injEq] at h
 exact TD.one i h.1 _ h.2 λ a hF hcl=>hk.h hR hs a hF hcl
theorem fH (i j:Nat) (h1:RDO r P N D F w0 R hards Rd i s Q) (h2:RDO r P N D F w0 R hards Rd j s Q) (h:(Mh s,eC (fG s),eC (fG s))=([i,j],NV i s,NV j s):=by kernel_rfl):RD r P N D F w0 R hards Rd s Q:=by
 refine ⟨λ hR hs=>?_⟩
 simp only [Prod.mk.injEq] at h
 have e:eC (br (fG s) i true)=eC (br (fG s) j true):=by
  have:=h.2.1.symm.trans h.2.2
  unfold NV at this;omega
 exact Kk i j h.1 _ h.2.1 (λ a hF hcl=>h1.h hR hs a hF hcl) (λ a hF hcl=>by have:=h2.h hR hs a hF hcl;rw [<- e] at this;exact this)
def Bu (P:Program) (n0 N:Nat) (R:HL) (i:Nat) (hints:List Hint) (s:Cfg):Option (Fo × FL × SS):=match s.c with
 | .drw ops l=>match ops.toList[i]? with
  | none=>none
  | some o=>match iX ops.toList o s.L ⟨s.A,R,hints,0,[],[],true⟩ with
   | some (true,ss)=>match ii o.op s.L with
    | true=>match ev P n0 o (iT s.L) ss with
     | some (.value v,s')=>match eS N o.dst v s.L with
      | some L'=>some (.drw ops (br l i true),L',s')
      | none=>none
     | some (.skip,s')=>match eS N o.dst undef s.L with
      | some L'=>some (.drw ops (br l i true),L',s')
      | none=>none
     | _=>none
    | false=>none
   | _=>none
 | _=>none
theorem DL {n0 i:Nat} {hints:List Hint} {ops:Array Oper} {l:List Bool} {k:List KI} {L:FL} {A:HL} {Ts:List HL} {c:Fo} {L':FL} {s':SS} (h:Bu P n0 N R i hints ⟨.drw ops l,k,L,A,Ts⟩=some (c,L',s')) :
  ∃ o ss u x,ops[i]?=some o /\ iX ops.toList o L ⟨A,R,hints,0,[],[],true⟩=some (true,ss) /\ ii o.op L=true /\ ev P n0 o (iT L) ss=some (x,s') /\ (x=.value u \/ (x=.skip /\ u=undef)) /\ eS N o.dst u L=some L' /\ c=.drw ops (br l i true):=by
 unfold Bu at h
 simp only at h
 split at h
 ·cases h
 rename_i o ho
 split at h
 case h_2=>cases h
 rename_i ss hw
 split at h
 case h_2=>cases h
 rename_i hok
 split at h
 ·rename_i v s2 he
  split at h
  case h_2=>cases h
  rename_i hp
  simp only [Option.some.injEq,Prod.mk.injEq] at h
  obtain ⟨e1,e2,e3⟩:=h
  subst e2;subst e3
  exact ⟨o,ss,v,_,by simpa using ho,hw,hok,he,.inl rfl,hp,e1.symm⟩
 ·rename_i s2 he
  split at h
  case h_2=>cases h
  rename_i hp
  simp only [Option.some.injEq,Prod.mk.injEq] at h
  obtain ⟨e1,e2,e3⟩:=h
  subst e2;subst e3
  exact ⟨o,ss,undef,_,by simpa using ho,hw,hok,he,.inr ⟨rfl,rfl⟩,hp,e1.symm⟩
 ·cases h
def Mi (P:Program) (n0 N:Nat) (R:HL) (i:Nat) (hints:List Hint) (s:Cfg):Cfg:=match Bu P n0 N R i hints s with
 | some (c,L',ss)=>match s with
  | ⟨_,k,_,_,Ts⟩=>⟨c,k,L',ss.h,Ts⟩
 | none=>s
def NW (x:Option (Fo × FL × SS)):List Nat:=match x with
 | some (_,_,ss)=>ss.eq.map (·.2)
 | none=>[]
def NX (hard:Bool) (ix:List Nat) (A A':HL):HL:=match hard with
 | true=>ix.filterMap (A'[·]?)
 | false=>A'.drop (A'.length - A.length)
def Kn (hard:Bool) (ix:List Nat) (A:HL) (x:Option (Fo × FL × SS)):Option (List Nat × List Prop × HL):=match x with
 | some (_,_,ss)=>match ss.hints with
  | []=>some (ss.eq.map (·.1),ss.ob,NX hard ix A ss.h)
  | _=>none
 | none=>none
theorem zF (ix:List Nat) {i:Nat} (hints:List Hint) (Ob:Nat -> List Prop) (hob:∀ n0,AllP (Ob n0)) (hk:∀ n0,RD r P N D F w0 R hards Rd (Mi P n0 N R i hints s) Q)
  (h:∀ n0,Kn (hards.contains i) ix s.A (Bu P n0 N R i hints s)=some (NW (Bu P n0 N R i hints s),Ob n0,cond (hards.contains i) Rd s.A):=by intro n0;kernel_rfl):RDO r P N D F w0 R hards Rd i s Q:=by
 refine ⟨λ hR hs a hF hcl=>?_⟩
 obtain ⟨c,k,L,A,Ts⟩:=s
 cases c with
 | code c=>simp [Bu,Kn] at h
 | ops ops i=>simp [Bu,Kn] at h
 | ex e=>simp [Bu,Kn] at h
 | drw ops l =>
  simp only [lH,fG] at hs hcl h hF ⊢
  have key:∀ n0,∃ o ss s' u x L',ops[i]?=some o /\ iX ops.toList o L ⟨A,R,hints,0,[],[],true⟩=some (true,ss) /\ ii o.op L=true /\ ev P n0 o (iT L) ss=some (x,s') /\ (x=.value u \/ (x=.skip /\ u=undef)) /\ eS N o.dst u L=some L' /\
    Mi P n0 N R i hints ⟨.drw ops l,k,L,A,Ts⟩=⟨.drw ops (br l i true),k,L',s'.h,Ts⟩ /\ (∀ p ∈ s'.eq,p.1=p.2) /\ s'.ob=Ob n0 /\ NX (hards.contains i) ix A s'.h=cond (hards.contains i) Rd A:=by
   intro n0
   have h1:=h n0
   generalize hx:Bu P n0 N R i hints ⟨.drw ops l,k,L,A,Ts⟩=x at h1
   unfold Kn at h1
   split at h1
   case h_2=>cases h1
   rename_i c L' s'
   split at h1
   case h_2=>cases h1
   simp only [NW,Option.some.injEq,Prod.mk.injEq] at h1
   obtain ⟨e1,e2,e3⟩:=h1
   obtain ⟨o,ss,u,x,q1,q2,q3,q4,q5,q6,q7⟩:=DL hx
   refine ⟨o,ss,s',u,x,L',q1,q2,q3,q4,q5,q6,?_,fF e1 rfl,e2,e3⟩
   unfold Mi
   rw [hx]
   subst q7
   rfl
  unfold OPJ
  obtain ⟨o,ss,s',u,x,L',q1,q2,q3,q4,q5,q6,q7,q8,q9,q10⟩:=key 0
  rw [q1]
  simp only
  obtain ⟨d1,d2,d3,d4⟩:=dk q4
  rw [if_pos (ci q2 hF (λ p hp=>AllP.mem (hob 0) p (by rw [<- q9];exact d2 p hp))).1]
  intro w hRel hB
  obtain ⟨o',ss,s',u,x,L',q1',q2,q3,q4,q5,q6,q7,q8,q9,q10⟩:=key w.heap.size
  obtain rfl:o=o':=Option.some.inj (q1.symm.trans q1')
  obtain ⟨a1,a2,a3,a4⟩:=bI q2
  obtain ⟨d1,d2,d3,d4⟩:=dk q4
  have hobs:∀ p ∈ s'.ob,p:=by rw [q9];exact AllP.mem (hob _)
  obtain ⟨c1,c2,c3⟩:=ci q2 hF (λ p hp=>hobs p (d2 p hp))
  rw [jv] at hRel
  obtain ⟨w1,r1,r2,r3,r4,r5⟩:=gi (w:=w) (F:=Ts.flatten++F) q4 q8 hobs (by rw [c2];exact hRel) (by rw [a3];exact λ y hy=>List.mem_append_right _ (hR y hy)) (λ _=>by rw [c3];rfl)
  have hkk:=(hk w.heap.size).h hR
  rw [q7] at hkk
  have fin:∃ H',((i ∉ hards -> ∃ X,H'=X++ap A Ts) /\ (i ∈ hards -> ∀ x ∈ Rd,x ∈ H')) /\ JJ P ops (NoPanic (kG r P k Q)) F w0 hards Rd (eC (br l i true)) ⟨br l i true⟩ (a.put o.dst u) H' /\ Rel (H'++F) w1 /\ Below 0 w0 w1:=by
   refine ⟨ap s'.h Ts,⟨λ hi=>?_,λ hi=>?_⟩,hkk hs hcl _ (hF.put q6),by rw [jv];exact r2,hB.trans r3⟩
   ·have hc:hards.contains i=false:=by
     cases hq:hards.contains i with
     | false=>rfl
     | true=>exact absurd (List.contains_iff_mem.1 hq) hi
    rw [hc] at q10
    simp only [NX,cond_false] at q10
    refine ⟨s'.h.take (s'.h.length - A.length),?_⟩
    show s'.h++Ts.flatten=_++(A++Ts.flatten)
    rw [<- List.append_assoc]
    congr 1
    conv=>lhs;rw [<- List.take_append_drop (s'.h.length - A.length) s'.h,q10]
   ·have hc:hards.contains i=true:=List.contains_iff_mem.2 hi
    rw [hc] at q10
    simp only [NX,cond_true] at q10
    exact λ x hx=>List.mem_append_left _ (pW ix q10 x hx)
  unfold d7
  rw [hF.exec q3,r1]
  rcases q5 with rfl | ⟨rfl,rfl⟩
  ·exact fin
  ·exact fin
theorem RDO.ev (ix:List Nat) {i:Nat} (hints:List Hint) (hk:∀ n0,RD r P N D F w0 R hards Rd (Mi P n0 N R i hints s) Q)
 (h:∀ n0,Kn (hards.contains i) ix s.A (Bu P n0 N R i hints s)=some (NW (Bu P n0 N R i hints s),[],cond (hards.contains i) Rd s.A):=by intro n0;kernel_rfl):RDO r P N D F w0 R hards Rd i s Q:=zF ix hints (λ _=>[]) (λ _=>trivial) hk h
theorem d9 (ix:List Nat) {i:Nat} (hints:List Hint) (Ob:List Prop) (hk:∀ n0,RD r P N D F w0 R hards Rd (Mi P n0 N R i hints s) Q) (hob:AllP Ob:=by simp only [AllP,bg,and_true,true_and] <;> (repeat' with_reducible refine And.intro ?_ ?_) <;> omega)
 (h:∀ n0,Kn (hards.contains i) ix s.A (Bu P n0 N R i hints s)=some (NW (Bu P n0 N R i hints s),Ob,cond (hards.contains i) Rd s.A):=by intro n0;kernel_rfl):RDO r P N D F w0 R hards Rd i s Q:=zF ix hints (λ _=>Ob) (λ _=>hob) hk h
def Mj (P:Program) (n0 N:Nat) (R:HL) (i:Nat) (s:Cfg):Option (Option Tmp × FuncId × Array Value × HL × List Nat × List Nat × List Prop):=match s.c with
 | .drw ops _=>mR P n0 N ops.toList i s.L (ap s.A s.Ts) R []
 | _=>none
theorem pZ {i:Nat} {ops:Array Oper} {l:List Bool} {k:List KI} {L:FL} {A:HL} {Ts:List HL} {o:Oper} (ho:ops[i]?=some o) {σ:Type} (G:Value -> σ -> Prop) (Ho:σ -> HL) (hl:(eS N o.dst undef L).isSome=true)
  (hg:∀ a,Fm N D L a -> Region.wanted o (yielded ops a.tmps)=true /\ ∀ w,Rel (ap A Ts++F) w -> Below 0 w0 w -> d7 P o a w λ u w'=>∃ x,G u x /\ Rel (Ho x++F) w' /\ Below 0 w w')
  (hsoft:∀ x,(i ∉ hards -> ∃ X,Ho x=X++ap A Ts) /\ (i ∈ hards -> ∀ y ∈ Rd,y ∈ Ho x))
  (hk:∀ v x,G v x -> ∀ L',eS N o.dst v L=some L' -> Region.noSelect ops=true -> TD P N D F w0 ops hards Rd (eC (br l i true)) (br l i true) L' (Ho x) (NoPanic (kG r P k Q))):RDO r P N D F w0 R hards Rd i ⟨.drw ops l,k,L,A,Ts⟩ Q:=by
 refine ⟨λ hR hs a hF hcl=>?_⟩
 simp only [lH,fG] at hs hcl hF ⊢
 unfold OPJ
 rw [ho]
 simp only
 obtain ⟨h1,h2⟩:=hg a hF
 rw [if_pos h1]
 intro w hRel hB
 refine d8 (h2 w hRel hB) ?_
 rintro u w' ⟨x,hx,hR',hB'⟩
 obtain ⟨L',hl'⟩:=dY hl u
 exact ⟨Ho x,hsoft x,hk u x hx L' hl' hs hcl _ (hF.put hl'),hR',hB.trans hB'⟩
def DM (hard:Bool) (ix ip jp:List Nat) (s:Cfg) (Rd:HL):HL:=match hard with
 | true=>ix.filterMap ((eH ip s)[·]?)
 | false=>match ip,jp with
  | [],[]=>Rd
  | _,_=>(0,.obj (.deferred none)) :: Rd
theorem zG {α:Type} (l:List α):(oth [] l.length).filterMap (l[·]?)=l:=by
 have:oth [] l.length=List.range l.length:=by simp [oth]
 rw [this]
 exact DH l
theorem DN {L:FL} {H H':HL} {ops:Array Oper} {fuel:Nat} {l:List Bool} (hp:H'.Perm H) (h:TD P N D F w0 ops hards Rd fuel l L H' Q):TD P N D F w0 ops hards Rd fuel l L H Q:=λ hcl a hF=>JJ.perm _ _ _ _ _ hp (h hcl a hF)
theorem RDO.ct {τ:Type} {i:Nat} (ix ip jp:List Nat) {f:FuncId} {args:Array Value} {Hp:HL} {Tp:List HL} {Hq:τ -> HL} {Tq:τ -> List HL} {Rv:Value -> τ -> Prop}
  (hc:Sp P f args (ap Hp Tp) (ap (eH ip s) (fC jp s)++F) (λ v H'=>∃ x,H'=ap (Hq x) (Tq x) /\ Rv v x)) (hk:∀ v x,Rv v x -> RD r P N D F w0 R hards Rd (uP (λ A=>Hq x++(oth ip A.length).filterMap (A[·]?)) (λ Ts=>Tq x++(oth jp Ts.length).filterMap (Ts[·]?)) (xO N i v s)) Q)
  (h:∀ n0,kh N s (Mj P n0 N R i s)=some (f,args,[],[],ap s.A s.Ts):=by intro n0;kernel_rfl)
  (hp:bX ip jp s=true:=by kernel_rfl) (hH:picks ip jp s=(Hp,Tp):=by kernel_rfl) (hx:DM (hards.contains i) ix ip jp s Rd=Rd:=by kernel_rfl):RDO r P N D F w0 R hards Rd i s Q:=by
 obtain ⟨c,k,L,A,Ts⟩:=s
 cases c with
 | code c=>simp [Mj,kh] at h
 | ops ops i=>simp [Mj,kh] at h
 | ex e=>simp [Mj,kh] at h
 | drw ops l =>
  refine ⟨λ hR=>?_⟩
  unfold bX at hp
  unfold picks at hH
  simp only [Mj,Bool.and_eq_true,Prod.mk.injEq] at h hp hH
  obtain ⟨e1,e2⟩:=hH
  have key:∀ n0,∃ dst,mR P n0 N ops.toList i L (ap A Ts) R []=some (dst,f,args,ap A Ts,[],[],[]) /\ (eS N dst undef L).isSome=true:=by
   intro n0
   have h1:=h n0
   generalize hx:mR P n0 N ops.toList i L (ap A Ts) R []=x at h1
   unfold kh at h1
   split at h1
   case h_2=>cases h1
   rename_i dst f' args' H1 E E' Ob'
   split at h1
   case h_2=>cases h1
   rename_i hput
   simp only [Option.some.injEq,Prod.mk.injEq] at h1
   obtain ⟨e1,e2,e3,e4,e5⟩:=h1
   subst e1;subst e2;subst e3;subst e4;subst e5
   obtain ⟨o,s1,s',_,_,_,_,_,_,g1,g2,_⟩:=ij hx
   have:s'.eq=[]:=by simpa using g1
   rw [this] at g2
   simp only [List.map_nil] at g2
   subst g2
   exact ⟨dst,rfl,hput⟩
  obtain ⟨dst,hce,hput⟩:=key 0
  obtain ⟨o,s1,s',ho,_,_,_,hd,_⟩:=ij hce
  subst hd
  have hall:∀ n0,mR P n0 N ops.toList i L (ap A Ts) R []=some (o.dst,f,args,ap A Ts,[],[],[]):=by
   intro n0
   obtain ⟨dst',h1,_⟩:=key n0
   obtain ⟨o',_,_,ho',_,_,_,hd',_⟩:=ij h1
   obtain rfl:o=o':=Option.some.inj (ho.symm.trans ho')
   rw [hd'];exact h1
  have hperm:(ap Hp Tp++ap (eH ip ⟨.drw ops l,k,L,A,Ts⟩) (fC jp ⟨.drw ops l,k,L,A,Ts⟩)).Perm (ap A Ts):=by
   have h1:=k8 A Ts ip (oth ip A.length) jp (oth jp Ts.length) hp.1 hp.2
   rw [e1,e2] at h1
   exact h1
  have hpc:∀ v L',eS N o.dst v L=some L' -> xO N i v ⟨.drw ops l,k,L,A,Ts⟩=⟨.drw ops (br l i true),k,L',A,Ts⟩:=by
   intro v L' hl
   unfold xO
   simp only [ho,hl]
  have hTD:∀ v x,Rv v x -> ∀ L',eS N o.dst v L=some L' -> Region.noSelect ops=true -> TD P N D F w0 ops hards Rd (eC (br l i true)) (br l i true) L' (ap (Hq x++(oth ip A.length).filterMap (A[·]?)) (Tq x++(oth jp Ts.length).filterMap (Ts[·]?))) (NoPanic (kG r P k Q)):=by
   intro v x hv L' hl hs
   have h1:=(hk v x hv).h hR
   rw [hpc v L' hl] at h1
   exact h1 hs
  have hgen:∀ a,Fm N D L a -> Region.wanted o (yielded ops a.tmps)=true /\ ∀ w,Rel (ap A Ts++F) w -> Below 0 w0 w -> d7 P o a w λ u w'=>∃ x,Rv u x /\ Rel ((ap (Hq x) (Tq x)++ap (eH ip ⟨.drw ops l,k,L,A,Ts⟩) (fC jp ⟨.drw ops l,k,L,A,Ts⟩))++F) w' /\ Below 0 w w':=by
   intro a hF
   obtain ⟨h1,h2⟩:=xJ (w0:=w0) ho hall hR trivial hperm hc a hF
   refine ⟨h1,λ w hR hB=>d8 (h2 w hR hB) ?_⟩
   rintro u w' ⟨H',⟨x,rfl,hv⟩,hR2,hB2⟩
   exact ⟨x,hv,hR2,hB2⟩
  have hswap:∀ x,(ap (Hq x) (Tq x)++ap (eH ip ⟨.drw ops l,k,L,A,Ts⟩) (fC jp ⟨.drw ops l,k,L,A,Ts⟩)).Perm (ap (Hq x++(oth ip A.length).filterMap (A[·]?)) (Tq x++(oth jp Ts.length).filterMap (Ts[·]?))):=by
   intro x
   have h1:=tE (Hq x) (eH ip ⟨.drw ops l,k,L,A,Ts⟩) (Tq x) (fC jp ⟨.drw ops l,k,L,A,Ts⟩) []
   rw [List.append_nil,List.append_nil] at h1
   exact h1
  refine (pZ (by simpa using ho) (λ v x=>Rv v x) (λ x=>ap (Hq x) (Tq x)++ap (eH ip ⟨.drw ops l,k,L,A,Ts⟩) (fC jp ⟨.drw ops l,k,L,A,Ts⟩)) hput hgen (λ x=>⟨λ hi=>?_,λ hi y hy=>?_⟩) (λ v x hv L' hl hs=>DN (hswap x).symm (hTD v x hv L' hl hs)):RDO r P N D F w0 R hards Rd i ⟨.drw ops l,k,L,A,Ts⟩ Q).h hR
  ·have hc:hards.contains i=false:=by
    cases hq:hards.contains i with
    | false=>rfl
    | true=>exact absurd (List.contains_iff_mem.1 hq) hi
   rw [hc] at hx
   unfold DM at hx
   simp only at hx
   split at hx
   ·refine ⟨ap (Hq x) (Tq x),?_⟩
    unfold eH fC
    show _++ap ((oth [] A.length).filterMap (A[·]?)) ((oth [] Ts.length).filterMap (Ts[·]?))=_
    rw [zG,zG]
   ·exact absurd hx (by simp)
  ·rw [List.contains_iff_mem.2 hi] at hx
   simp only [DM] at hx
   exact List.mem_append_right _ (List.mem_append_left _ (pW ix hx y hy))
def JG (V:Inv) (ip jp:List Nat) (s:Cfg):(List (Option Value) × HL × List HL) × Bool × Bool:=(tI V ip jp s,bX ip jp s,Bt s)
def Ol (V:Inv) (s:Cfg):Cfg:=match s with
 | ⟨_,k,_,_,_⟩=>⟨.ex .normal,k,V.L,V.A,V.Ts⟩
theorem jy {σ:Type} (V:σ -> Inv) (k:∀ x,RN r P N D F w0 R (Ol (V x) s) Q) (h:(∀ {s':Cfg} (x:σ) (ip jp:List Nat),(h:JG (V x) ip jp s'=(mV (V x),true,true):=by kernel_rfl) -> (e:s'.k=s.k:=by kernel_rfl) -> RD r P N D F w0 R hards Rd s' Q) -> RD r P N D F w0 R hards Rd s Q):RD r P N D F w0 R hards Rd s Q:=by
 refine h λ {s'} x ip jp hm e=>?_
 unfold JG at hm
 simp only [Prod.mk.injEq] at hm
 obtain ⟨m1,m2,m3⟩:=hm
 refine RD.fin ⟨λ hR a w h1 h2 h3=>?_⟩ m3
 obtain ⟨c,k',L,A,Ts⟩:=s'
 simp only at e
 subst e
 cases c with
 | drw ops l =>
  obtain ⟨k1,k2⟩:=pY (s:=⟨.drw ops l,s.k,L,A,Ts⟩) m1 m2 h1 h2
  exact (k x).h hR a w k1 k2 h3
 | code c=>simp [Bt] at m3
 | ops ops i=>simp [Bt] at m3
 | ex e=>simp [Bt] at m3
end
abbrev bd (n:Int):Int:=IntKind.i64.wrap n
structure V2 where (x y:Int)
structure Bx where (x0 y0 x1 y1:Int)
structure Mot where (px py vx vy inv:Int)
structure Con where (nx ny d:Int)
def aG (n lo hi:Int):Int:=if n < lo then lo else if n > hi then hi else n
def kH (a b:Int):Int:=if b=0 then 0 else if (a.tmod b > 0 /\ b < 0) \/ (a.tmod b < 0 /\ b > 0) then bd (bd (a.tdiv b) - 1) else bd (a.tdiv b)
def fN (a b:Int):Int:=kH (bd (a * b)) 1024
def aA (a b c:Int):Int:=kH (bd (a * b)) c
theorem cB (n:Int) (lo:Int) (hi:Int)  (F:HL):Sp Tryz.prog 185 #[vI n,vI lo,vI hi] [] F (λ u H'=>u=vI (aG n lo hi) /\ H'=[]):=by
 refine Sp.run Tryz.func185 rfl mn (A:=[]) (Ts:=[]) rfl λ w0=>?_
 refine ae 15 [] λ _=>RN.em (n < lo) 7 (λ h1=>?_) λ h1=>?_
 ·refine ae 7 [] λ _=>RN.ret [] [] [] (v:=vI lo) (H':=[]) ?_
  exact ⟨by unfold aG;simp [*],rfl⟩
 ·refine ae 9 [] λ _=>RN.em (n > hi) 12 (λ h2=>?_) λ h2=>?_
  ·refine ae 7 [] λ _=>RN.ret [] [] [] (v:=vI hi) (H':=[]) ?_
   exact ⟨by unfold aG;simp [*],rfl⟩
  ·refine ae 10 [] λ _=>RN.ret [] [] [] (v:=vI n) (H':=[]) ?_
   exact ⟨by unfold aG;simp [*],rfl⟩
theorem mW (a:Int) (b:Int)  (F:HL):Sp Tryz.prog 223 #[vI a,vI b] [] F (λ u H'=>u=vI (kH a b) /\ H'=[]):=by
 refine Sp.run Tryz.func223 rfl mn (A:=[]) (Ts:=[]) rfl λ w0=>?_
 refine ae 12 [] λ _=>RN.em (b=0) 8 (λ h1=>?_) λ h1=>?_
 ·refine ae 6 [] λ _=>RN.ret [] [] [] (v:=vI 0) (H':=[]) ?_
  exact ⟨by unfold kH;simp [*],rfl⟩
 ·refine ae 4 [] λ _=>RN.draw [] []<|aJ [] [0,1,3,4,2,5,6,7] [.dv,.dv] [b ≠ 0,b ≠ 0]<|RD.fin<|ae 13 [] λ _=>RN.em (a.tmod b > 0) 18 (λ h2=>?_) λ h2=>?_
  ·refine ae 6 [] λ _=>RN.em (b < 0) 15 (λ h3=>?_) λ h3=>?_
   ·refine ae 23 [] λ _=>RN.ret [] [] [] (v:=vI (IntKind.i64.wrap ((IntKind.i64.wrap (a.tdiv b)) - 1))) (H':=[]) ?_
    exact ⟨by unfold kH;simp [*],rfl⟩
   ·refine ae 8 [] λ _=>RN.em (a.tmod b < 0) 25 (λ h4=>?_) λ h4=>?_
    ·refine ae 6 [] λ _=>RN.em (b > 0) 22 (λ h5=>?_) λ h5=>?_
     ·refine ae 22 [] λ _=>RN.ret [] [] [] (v:=vI (IntKind.i64.wrap ((IntKind.i64.wrap (a.tdiv b)) - 1))) (H':=[]) ?_
      exact ⟨by unfold kH;simp [*],rfl⟩
     ·refine ae 15 [] λ _=>RN.ret [] [] [] (v:=vI (IntKind.i64.wrap (a.tdiv b))) (H':=[]) ?_
      exact ⟨by unfold kH;simp [*],rfl⟩
    ·refine ae 21 [] λ _=>RN.ret [] [] [] (v:=vI (IntKind.i64.wrap (a.tdiv b))) (H':=[]) ?_
     exact ⟨by unfold kH;simp [*],rfl⟩
  ·refine ae 14 [] λ _=>RN.em (a.tmod b < 0) 25 (λ h6=>?_) λ h6=>?_
   ·refine ae 6 [] λ _=>RN.em (b > 0) 22 (λ h7=>?_) λ h7=>?_
    ·refine ae 22 [] λ _=>RN.ret [] [] [] (v:=vI (IntKind.i64.wrap ((IntKind.i64.wrap (a.tdiv b)) - 1))) (H':=[]) ?_
     exact ⟨by unfold kH;simp [*],rfl⟩
    ·refine ae 15 [] λ _=>RN.ret [] [] [] (v:=vI (IntKind.i64.wrap (a.tdiv b))) (H':=[]) ?_
     exact ⟨by unfold kH;simp [*],rfl⟩
   ·refine ae 21 [] λ _=>RN.ret [] [] [] (v:=vI (IntKind.i64.wrap (a.tdiv b))) (H':=[]) ?_
    exact ⟨by unfold kH;simp [*],rfl⟩
theorem mX (a:Int) (b:Int)  (F:HL):Sp Tryz.prog 206 #[vI a,vI b] [] F (λ u H'=>u=vI (fN a b) /\ H'=[]):=by
 refine Sp.run Tryz.func206 rfl mn (A:=[]) (Ts:=[]) rfl λ w0=>?_
 refine ae 10 [] λ _=>aj (mW (IntKind.i64.wrap (a * b)) 1024  _)<|ae 3 [] λ _=>?_
 exact RN.ret [] [] [] ⟨rfl,rfl⟩
theorem fS (a:Int) (b:Int) (c:Int)  (F:HL):Sp Tryz.prog 232 #[vI a,vI b,vI c] [] F (λ u H'=>u=vI (aA a b c) /\ H'=[]):=by
 refine Sp.run Tryz.func232 rfl mn (A:=[]) (Ts:=[]) rfl λ w0=>?_
 refine ae 11 [] λ _=>aj (mW (IntKind.i64.wrap (a * b)) c  _)<|ae 3 [] λ _=>?_
 exact RN.ret [] [] [] ⟨rfl,rfl⟩
end Go.Proofs.YtobflkidpfkcaaaGreatDoor
namespace Go.Proofs
open Go.Shelf
def nL:Go.Shelf.Ren:=⟨λ | 125=>135 | 128=>175 | 129=>176 | n=>n,λ | 46=>174 | 3=>3 | 51=>286 | 53=>45 | 4=>4 | 5=>5 | 9=>9 | n=>n,λ | n=>n⟩
theorem tK:Go.Proofs.Lays.n125 Tryz.prog nL:={
 mixed:=by kernel_rfl
 f125:=Tryz.func135.trans (congrArg some (by kernel_rfl))
 f128:=Tryz.func175.trans (congrArg some (by kernel_rfl))
 f129:=Tryz.func176.trans (congrArg some (by kernel_rfl))
 t3:=Tryz.underlying3
 a3:=Tryz.isAgg3
 z3:=Tryz.sizeOf3
 v3:=Tryz.zeroValue3
 t4:=Tryz.underlying4
 a4:=Tryz.isAgg4
 z4:=Tryz.sizeOf4
 v4:=Tryz.zeroValue4
 t5:=Tryz.underlying5
 a5:=Tryz.isAgg5
 z5:=Tryz.sizeOf5
 v5:=Tryz.zeroValue5
 t9:=Tryz.underlying9
 a9:=Tryz.isAgg9
 z9:=Tryz.sizeOf9
 v9:=Tryz.zeroValue9
 t46:=Tryz.underlying174
 a46:=Tryz.isAgg174
 z46:=Tryz.sizeOf174
 v46:=Tryz.zeroValue174
 t51:=Tryz.underlying286
 a51:=Tryz.isAgg286
 z51:=Tryz.sizeOf286
 v51:=Tryz.zeroValue286
 t53:=Tryz.underlying45
 a53:=Tryz.isAgg45
 z53:=Tryz.sizeOf45
 v53:=Tryz.zeroValue45 }
theorem Tryz.bits_Len (x:Int) (w:World) (h0:0 <= x) (h1:x <= 18446744073709551615) :
 Calls Tryz.prog 135 #[.int .u64 x] w λ e w'=>e=.returned (.int .i64 (Lib.bitLen x.toNat)) /\ w'=w:=Any.bits_Len tK x w h0 h1
end Go.Proofs
namespace Go.Proofs.YtobflkidpfkcaaaGreatDoor
open Go.RowKit
abbrev uR (n:Int):Int:=IntKind.u64.wrap n
theorem tL (n:Int):0 <= uR n /\ uR n <= 18446744073709551615:=by
 show 0 <= IntKind.u64.wrap n /\ IntKind.u64.wrap n <= _
 unfold IntKind.wrap
 simp [IntKind.signed,IntKind.bits]
 omega
abbrev tM (n:Int):Int:=(Lib.bitLen (uR n).toNat:Int)
theorem uS (n:Int) (F:HL):Sp Tryz.prog 135 #[.int .u64 (uR n)] [] F (λ u H'=>u=vI (tM n) /\ H'=[]) :=
 uJ (λ w=>Tryz.bits_Len _ w (tL n).1 (tL n).2) F
theorem HI (n:Int):0 <= tM n /\ tM n <= 64:=by
 have h:=tL n
 have:=Lib.bitLen_le (uR n).toNat 64 (by omega) (by omega)
 unfold tM
 omega
def HJ (r:Int) (k:Nat):Int:=bd ((BitVec.ofInt 64 r ||| BitVec.ofInt 64 (bd (1 * 2 ^ min k 64))).toNat:Int)
def tN (n:Int):Nat -> Int -> Int
 | 0,r=>r
 | k+1,r=>tN n k (if HJ r k > bd (n.tdiv (HJ r k)) then r else HJ r k)
def Bv (n:Int):Int:=bd (bd ((bd (tM n+1)).tdiv 2) - 1)
def tP (n:Int):Int:=if n <= 0 then 0 else tN n (Bv n+1).toNat 0
theorem Om (v:BitVec 64) (h:bd (v.toNat:Int)=0):v=0#64:=by
 apply BitVec.eq_of_toNat_eq
 have h2:v.toNat < 18446744073709551616:=v.isLt
 generalize v.toNat=m at *
 rw [bd,IntKind.wrap_i64] at h
 simp
 omega
theorem Ko (r:Int) {k:Nat} (hk:k < 40):HJ r k ≠ 0:=by
 intro h
 have hb:BitVec.ofInt 64 (bd (1 * 2 ^ min k 64)) ≠ 0#64:=by
  have:∀ k < 40,BitVec.ofInt 64 (bd (1 * 2 ^ min k 64)) ≠ 0#64:=by decide
  exact this k hk
 have h1:=Om _ h
 clear h
 generalize BitVec.ofInt 64 (bd (1 * 2 ^ min k 64))=b at *
 generalize BitVec.ofInt 64 r=a at *
 apply hb
 have:(a ||| b) &&& b=b:=by
  apply BitVec.eq_of_getLsbD_eq
  intro i hi
  simp
  intro h
  exact .inr h
 rw [h1] at this
 simpa using this.symm
theorem zH (n:Int):-1 <= Bv n /\ Bv n <= 31:=by
 have:=HI n
 unfold Bv bd
 generalize tM n=l at *
 have e1:IntKind.i64.wrap (l+1)=l+1:=by rw [IntKind.wrap_i64];omega
 rw [e1,Int.tdiv_eq_ediv_of_nonneg (by omega)]
 have e2:IntKind.i64.wrap ((l+1) / 2)=(l+1) / 2:=by rw [IntKind.wrap_i64];omega
 rw [e2,IntKind.wrap_i64]
 omega
theorem cV {x:Int} (h:-9223372036854775808 <= x /\ x <= 9223372036854775807):bd x=x:=by
 rw [bd,IntKind.wrap_i64];omega
theorem uT {n r s:Int} {k:Int} (h0:¬ s < 0) (h:tN n (s+1).toNat r=k):tN n s.toNat (if HJ r s.toNat > bd (n.tdiv (HJ r s.toNat)) then r else HJ r s.toNat)=k:=by
 have e:(s+1).toNat=s.toNat+1:=by omega
 rw [e,tN] at h
 exact h
theorem Bw (n:Int)  (F:HL):Sp Tryz.prog 292 #[vI n] [] F (λ u H'=>u=vI (tP n) /\ H'=[]):=by
 refine Sp.run Tryz.func292 rfl mn (A:=[]) (Ts:=[]) rfl λ w0=>?_
 refine ae 13 [] λ _=>RN.em (n <= 0) 7 (λ h1=>?_) λ h1=>?_
 ·refine ae 6 [] λ _=>RN.ret [] [] [] (v:=vI 0) (H':=[]) ?_
  refine ⟨?_,rfl⟩
  unfold tP
  first | (simp [*];done) | (have e:(s+1).toNat=0:=by omega);(rw [e,tN] at hI2);(simp [*])
 ·refine ae 16 [] λ _=>aj (uS n _)<|ae 7 [] λ _=>RN.loop (σ:=Int × Int) (λ ⟨r,s⟩=>⟨[(0,vI n),(3,vI r),(4,vI s)],[],[],-1 <= s /\ s <= 31 /\ tN n (s+1).toNat r=tN n (Bv n+1).toNat 0,(s+1).toNat⟩) (0,Bv n) [] [] (⟨(zH n).1,(zH n).2,rfl⟩) ?_
  rintro ⟨r,s⟩ ⟨hI0,hI1,hI2⟩ mt3
  have hw:s >= 0 -> IntKind.i64.wrap (s - 1)=s - 1:=λ _=>cV (by omega)
  have hsub:(s - 1+1).toNat=s.toNat:=by rw [Int.sub_add_cancel]
  refine ae 7 [] λ _=>RN.em (s >= 0) 15 (λ h4=>?_) λ h4=>?_
  ·refine pX 24 [.dv,.gen,.dv] (λ _=>[IntKind.i64.wrap ((BitVec.ofInt 64 r ||| BitVec.ofInt 64 (IntKind.i64.wrap (1 * 2 ^ min (s).toNat 64))).toNat:Int) ≠ 0,0 <= s]) (λ _=>(ac (Ko r (by omega)) (ac (by omega) an))) λ _=>RN.em (IntKind.i64.wrap ((BitVec.ofInt 64 r ||| BitVec.ofInt 64 (IntKind.i64.wrap (1 * 2 ^ min (s).toNat 64))).toNat:Int) > IntKind.i64.wrap (n.tdiv (IntKind.i64.wrap ((BitVec.ofInt 64 r ||| BitVec.ofInt 64 (IntKind.i64.wrap (1 * 2 ^ min (s).toNat 64))).toNat:Int)))) 26 (λ h5=>?_) λ h5=>?_
   ·refine ae 10 [] λ _=>?_
    refine mt3 (r,IntKind.i64.wrap (s - 1)) [] [] ?_
    try dsimp only
    have hN:=uT (by omega) hI2
    rw [hw (by assumption),hsub]
    refine ⟨⟨by omega,by omega,?_⟩,by omega⟩
    simpa only [HJ, *,if_true,if_false] using hN
   ·refine ae 14 [] λ _=>?_
    refine mt3 (IntKind.i64.wrap ((BitVec.ofInt 64 r ||| BitVec.ofInt 64 (IntKind.i64.wrap (1 * 2 ^ min (s).toNat 64))).toNat:Int),IntKind.i64.wrap (s - 1)) [] [] ?_
    try dsimp only
    have hN:=uT (by omega) hI2
    rw [hw (by assumption),hsub]
    refine ⟨⟨by omega,by omega,?_⟩,by omega⟩
    simpa only [HJ, *,if_true,if_false] using hN
  ·refine ae 12 [] λ _=>RN.ret [] [] [] (v:=vI r) (H':=[]) ?_
   refine ⟨?_,rfl⟩
   unfold tP
   first | (simp [*];done) | (have e:(s+1).toNat=0:=by omega);(rw [e,tN] at hI2);(simp [*])
def aE (a b:V2):V2:=⟨bd (a.x+b.x),bd (a.y+b.y)⟩
def dm (a b:V2):V2:=⟨bd (a.x - b.x),bd (a.y - b.y)⟩
def Bz (a:V2):V2:=dm ⟨0,0⟩ a
def aq (a:V2) (f:Int):V2:=⟨fN a.x f,fN a.y f⟩
def eD (a:V2) (n d:Int):V2:=⟨aA a.x n d,aA a.y n d⟩
def DP (n:Int):Int:=n.fdiv 1024
def cW (a b:V2):Int:=DP (bd (bd (a.x * b.x)+bd (a.y * b.y)))
def DQ (a:V2):Int:=tP (bd (bd (a.x * a.x)+bd (a.y * a.y)))
def sd (a:V2):Prop:=a.x=0 /\ a.y=0
instance (a:V2):Decidable (sd a):=inferInstanceAs (Decidable (_ /\ _))
def kj (a:V2):V2:=if sd a then a else eD a 1024 (DQ a)
theorem uU (m n:Int) (F:HL):Sp Tryz.prog 204 #[vI m,vI n] [] F (λ u H'=>u=vI (bd (m+n)) /\ H'=[]):=by
 refine Sp.run Tryz.func204 rfl mn (A:=[]) (Ts:=[]) rfl λ w0=>?_
 refine ae 13 [] λ _=>?_
 exact RN.ret [] [] [] ⟨rfl,rfl⟩
theorem uV (m n:Int) (F:HL):Sp Tryz.prog 257 #[vI m,vI n] [] F (λ u H'=>u=vI (bd (m - n)) /\ H'=[]):=by
 refine Sp.run Tryz.func257 rfl mn (A:=[]) (Ts:=[]) rfl λ w0=>?_
 refine ae 13 [] λ _=>?_
 exact RN.ret [] [] [] ⟨rfl,rfl⟩
theorem oM (m n d:Int) (b:Nat) (F:HL) (hb:(b,.lit [vI d] 3 (0,0)) ∈ F):Sp Tryz.prog 240 #[vI m,vI n,vP b 0] [] F (λ u H'=>u=vI (aA m n d) /\ H'=[]):=by
 refine Sp.run Tryz.func240 rfl (mc hb mn) (A:=[]) (Ts:=[]) rfl λ w0=>?_
 refine ae 10 [.ro 0] λ _=>aj (fS m n d  _)<|ae 3 [] λ _=>?_
 exact RN.ret [] [] [] ⟨rfl,rfl⟩
theorem DS (a b:V2)  (F:HL):Sp Tryz.prog 203 #[.agg #[vI a.x,vI a.y],.agg #[vI b.x,vI b.y],.func (.func 204) #[] #[]] [] F (λ u H'=>u=.agg #[vI ((aE a b).x),vI ((aE a b).y)] /\ H'=[]):=by
 refine Sp.run Tryz.func203 rfl mn (A:=[]) (Ts:=[]) rfl λ w0=>?_
 refine ae 8 [] λ n1=>RN.draw [13] []<|ag [] [0,1,3,6,7,9,2,4,8,10] [.own 2,.own 1,.own 2,.own 1]<|au [] 5 (λ X_=>(uU a.x b.x _))<|au [] 11 (λ X_=>(uU a.y b.y _))<|ag [] [12] []<|RD.one 13 (RDO.ev [] [.own 0,.own 0] λ _=>?_)
 refine RD.fin<|ae 1 [] λ _=>?_
 exact RN.ret [.own 0,.own 0] [] [] ⟨rfl,rfl⟩
theorem DT (a b:V2)  (F:HL):Sp Tryz.prog 203 #[.agg #[vI a.x,vI a.y],.agg #[vI b.x,vI b.y],.func (.func 257) #[] #[]] [] F (λ u H'=>u=.agg #[vI ((dm a b).x),vI ((dm a b).y)] /\ H'=[]):=by
 refine Sp.run Tryz.func203 rfl mn (A:=[]) (Ts:=[]) rfl λ w0=>?_
 refine ae 8 [] λ n1=>RN.draw [13] []<|ag [] [0,1,3,6,7,9,2,4,8,10] [.own 2,.own 1,.own 2,.own 1]<|au [] 5 (λ X_=>(uV a.x b.x _))<|au [] 11 (λ X_=>(uV a.y b.y _))<|ag [] [12] []<|RD.one 13 (RDO.ev [] [.own 0,.own 0] λ _=>?_)
 refine RD.fin<|ae 1 [] λ _=>?_
 exact RN.ret [.own 0,.own 0] [] [] ⟨rfl,rfl⟩
theorem DU (a b:V2)  (F:HL):Sp Tryz.prog 203 #[.agg #[vI a.x,vI a.y],.agg #[vI b.x,vI b.y],.func (.func 206) #[] #[]] [] F (λ u H'=>u=.agg #[vI ((⟨fN a.x b.x,fN a.y b.y⟩:V2).x),vI ((⟨fN a.x b.x,fN a.y b.y⟩:V2).y)] /\ H'=[]):=by
 refine Sp.run Tryz.func203 rfl mn (A:=[]) (Ts:=[]) rfl λ w0=>?_
 refine ae 8 [] λ n1=>RN.draw [13] []<|ag [] [0,1,3,6,7,9,2,4,8,10] [.own 2,.own 1,.own 2,.own 1]<|au [] 5 (λ X_=>(mX a.x b.x  _))<|au [] 11 (λ X_=>(mX a.y b.y  _))<|ag [] [12] []<|RD.one 13 (RDO.ev [] [.own 0,.own 0] λ _=>?_)
 refine RD.fin<|ae 1 [] λ _=>?_
 exact RN.ret [.own 0,.own 0] [] [] ⟨rfl,rfl⟩
theorem uW (a b:V2) (d:Int) (q:Nat) (F:HL) (hq:(q,.lit [vI d] 3 (0,0)) ∈ F):Sp Tryz.prog 203 #[.agg #[vI a.x,vI a.y],.agg #[vI b.x,vI b.y],.func (.func 240) #[] #[vP q 0]] [] F (λ u H'=>u=.agg #[vI ((⟨aA a.x b.x d,aA a.y b.y d⟩:V2).x),vI ((⟨aA a.x b.x d,aA a.y b.y d⟩:V2).y)] /\ H'=[]):=by
 refine Sp.run Tryz.func203 rfl (mc hq mn) (A:=[]) (Ts:=[]) rfl λ w0=>?_
 refine ae 8 [] λ n1=>RN.draw [13] []<|ag [] [0,1,3,6,7,9,2,4,8,10] [.own 2,.own 1,.own 2,.own 1]<|au [] 5 (λ X_=>(oM a.x b.x d q _ (nJ hq)))<|au [] 11 (λ X_=>(oM a.y b.y d q _ (nJ hq)))<|ag [] [12] []<|RD.one 13 (RDO.ev [] [.own 0,.own 0] λ _=>?_)
 refine RD.fin<|ae 1 [] λ _=>?_
 exact RN.ret [.own 0,.own 0] [] [] ⟨rfl,rfl⟩
theorem oN (n:Int) (F:HL):Sp Tryz.prog 205 #[vI n] [] F (λ u H'=>u=.agg #[vI n,vI n] /\ H'=[]):=by
 refine Sp.run Tryz.func205 rfl mn (A:=[]) (Ts:=[]) rfl λ w0=>?_
 refine ae 13 [.own 0,.own 0] λ n1=>?_
 exact RN.ret [.own 0,.own 0] [] [] ⟨rfl,rfl⟩
theorem dZ (a:V2) (b:V2)  (F:HL):Sp Tryz.prog 183 #[.agg #[vI a.x,vI a.y],.agg #[vI b.x,vI b.y]] [] F (λ u H'=>u=.agg #[vI ((aE a b).x),vI ((aE a b).y)] /\ H'=[]):=by
 refine Sp.run Tryz.func183 rfl mn (A:=[]) (Ts:=[]) rfl λ w0=>?_
 refine ae 11 [.own 2,.own 2,.own 1,.own 1] λ n1=>aj (DS a b _)<|ae 3 [.own 0,.own 0] λ _=>?_
 exact RN.ret [.own 0,.own 0] [] [] ⟨rfl,rfl⟩
theorem iq (a:V2) (b:V2)  (F:HL):Sp Tryz.prog 229 #[.agg #[vI a.x,vI a.y],.agg #[vI b.x,vI b.y]] [] F (λ u H'=>u=.agg #[vI ((dm a b).x),vI ((dm a b).y)] /\ H'=[]):=by
 refine Sp.run Tryz.func229 rfl mn (A:=[]) (Ts:=[]) rfl λ w0=>?_
 refine ae 11 [.own 2,.own 2,.own 1,.own 1] λ n1=>aj (DT a b _)<|ae 3 [.own 0,.own 0] λ _=>?_
 exact RN.ret [.own 0,.own 0] [] [] ⟨rfl,rfl⟩
theorem DV (a:V2)  (F:HL):Sp Tryz.prog 230 #[.agg #[vI a.x,vI a.y]] [] F (λ u H'=>u=.agg #[vI ((Bz a).x),vI ((Bz a).y)] /\ H'=[]):=by
 refine Sp.run Tryz.func230 rfl mn (A:=[]) (Ts:=[]) rfl λ w0=>?_
 refine ae 10 [.own 1,.own 1] λ n1=>aj (iq (⟨0,0⟩:V2) a  _)<|ae 3 [.own 0,.own 0] λ _=>?_
 exact RN.ret [.own 0,.own 0] [] [] ⟨rfl,rfl⟩
theorem eI (a:V2) (f:Int)  (F:HL):Sp Tryz.prog 184 #[.agg #[vI a.x,vI a.y],vI f] [] F (λ u H'=>u=.agg #[vI ((aq a f).x),vI ((aq a f).y)] /\ H'=[]):=by
 refine Sp.run Tryz.func184 rfl mn (A:=[]) (Ts:=[]) rfl λ w0=>?_
 refine ae 7 [] λ n1=>RN.draw [4] []<|ag [] [0,1] [.own 1,.own 1]<|au [] 2 (λ X_=>(oN f _))<|au [] 3 (λ X_=>(DU a (⟨f,f⟩:V2) _))<|RD.one 4 (RDO.ev [] [.own 0,.own 0] λ _=>?_)
 refine RD.fin<|ae 1 [] λ _=>?_
 exact RN.ret [.own 0,.own 0] [] [] ⟨rfl,rfl⟩
theorem kI (a:V2) (n:Int) (d:Int)  (F:HL):Sp Tryz.prog 211 #[.agg #[vI a.x,vI a.y],vI n,vI d] [] F (λ u H'=>u=.agg #[vI ((eD a n d).x),vI ((eD a n d).y)] /\ H'=[]):=by
 refine Sp.run Tryz.func211 rfl mn (A:=[]) (Ts:=[]) rfl λ w0=>?_
 refine ae 8 [] λ n1=>RN.draw [5] []<|ag [] [0,1,3] [.own 2,.own 2]<|au [] 2 (λ X_=>(oN n _))<|au [] 4 (λ X_=>(uW a (⟨n,n⟩:V2) d (n1+1) _ (jf 1)))<|RD.one 5 (RDO.ev [] [.own 0,.own 0] λ _=>?_)
 refine RD.fin<|ae 1 [] λ _=>?_
 exact RN.ret [.own 0,.own 0] [] [] ⟨rfl,rfl⟩
theorem BA (n:Int)  (F:HL):Sp Tryz.prog 256 #[vI n] [] F (λ u H'=>u=vI (DP n) /\ H'=[]):=by
 refine Sp.run Tryz.func256 rfl mn (A:=[]) (Ts:=[]) rfl λ w0=>?_
 refine ae 12 [] λ _=>?_
 exact RN.ret [] [] [] ⟨rfl,rfl⟩
theorem mY (a:V2) (b:V2)  (F:HL):Sp Tryz.prog 228 #[.agg #[vI a.x,vI a.y],.agg #[vI b.x,vI b.y]] [] F (λ u H'=>u=vI (cW a b) /\ H'=[]):=by
 refine Sp.run Tryz.func228 rfl mn (A:=[]) (Ts:=[]) rfl λ w0=>?_
 refine ae 20 [.own 1,.own 0,.own 1,.own 0] λ n1=>aj (BA (IntKind.i64.wrap ((IntKind.i64.wrap (a.x * b.x))+(IntKind.i64.wrap (a.y * b.y))))  _)<|ae 3 [] λ _=>?_
 exact RN.ret [] [] [] ⟨rfl,rfl⟩
theorem DW (a:V2)  (F:HL):Sp Tryz.prog 290 #[.agg #[vI a.x,vI a.y]] [] F (λ u H'=>u=vI (DQ a) /\ H'=[]):=by
 refine Sp.run Tryz.func290 rfl mn (A:=[]) (Ts:=[]) rfl λ w0=>?_
 refine ae 19 [.own 0,.own 0,.own 0,.own 0] λ n1=>aj (Bw (IntKind.i64.wrap ((IntKind.i64.wrap (a.x * a.x))+(IntKind.i64.wrap (a.y * a.y))))  _)<|ae 3 [] λ _=>?_
 exact RN.ret [] [] [] ⟨rfl,rfl⟩
theorem BB (a:V2)  (F:HL):Sp Tryz.prog 286 #[.agg #[vI a.x,vI a.y]] [] F (λ u H'=>u=.agg #[vI ((kj a).x),vI ((kj a).y)] /\ H'=[]):=by
 refine Sp.run Tryz.func286 rfl mn (A:=[]) (Ts:=[]) rfl λ w0=>?_
 refine ae 14 [.own 1,.own 1,.sq] λ n1=>i0 ((decide (a.x=0) && (decide (a.y=0) && true))) 5 (λ h2=>?_) λ h2=>?_
 ·refine ae 7 [.own 1,.own 1,.own 0,.own 0] λ _=>RN.ret [.own 0,.own 0] [] [] (v:=.agg #[vI a.x,vI a.y]) (H':=[]) ?_
  refine ⟨?_,rfl⟩
  unfold kj
  first | rw [if_pos (by simpa [sd] using h2)] | rw [if_neg (by simpa [sd] using h2)]
 ·refine ae 4 [] λ _=>RN.draw [4] []<|ag [] [0,1] [.own 1,.own 1,.own 1,.own 1]<|au [] 2 (λ X_=>(DW a  _))<|au [] 3 (λ X_=>(kI a 1024 (DQ a)  _))<|RD.one 4 (RDO.ev [] [.own 0,.own 0] λ _=>?_)
  refine RD.fin<|ae 1 [] λ _=>RN.ret [.own 0,.own 0] [] [] (v:=.agg #[vI ((eD a 1024 (DQ a)).x),vI ((eD a 1024 (DQ a)).y)]) (H':=[]) ?_
  refine ⟨?_,rfl⟩
  unfold kj
  first | rw [if_pos (by simpa [sd] using h2)] | rw [if_neg (by simpa [sd] using h2)]
structure Shp where (r:Int) (poly:List V2) (A:Option Addr) (cap:Nat)
abbrev L3 (s:Shp):Value:=.agg #[vI s.r,.slice s.A s.poly.length s.cap]
def jz (l:List V2):Nat -> Nat -> Value:=λ i k=>match k with | 0=>vI (l.getD i ⟨0,0⟩).x | _=>vI (l.getD i ⟨0,0⟩).y
inductive ShIn (F:HL):Shp -> Prop
 | circle (r:Int) (A:Option Addr) (cap:Nat):ShIn F ⟨r,[],A,cap⟩
 | poly (r:Int) (l:List V2) (b cap:Nat) (h:(b,.rows 2 cap (jz l) 30 (0,0)) ∈ F) (h3:3 <= l.length) (h4:l.length <= cap) (h5:l.length <= 1000000):ShIn F ⟨r,l,some ⟨b,0,none⟩,cap⟩
theorem ShIn.mono {F F':HL} {s:Shp} (h:ShIn F s) (hs:∀ x ∈ F,x ∈ F'):ShIn F' s:=by
 cases h with
 | circle r A cap=>exact .circle r A cap
 | poly r l b cap h h3 h4 h5=>exact .poly r l b cap (hs _ h) h3 h4 h5
def jg (s:Shp):Prop:=s.poly=[]
instance (s:Shp):Decidable (jg s):=decidable_of_iff (s.poly.isEmpty=true) (by simp [jg])
def Ml (b:Bx) (c:V2):Bx:=⟨if c.x < b.x0 then c.x else b.x0,if c.y < b.y0 then c.y else b.y0,if c.x > b.x1 then c.x else b.x1,if c.y > b.y1 then c.y else b.y1⟩
def lN (pos:V2) (l:List V2):Nat -> Bx
 | 0=>⟨(aE pos (l.getD 0 ⟨0,0⟩)).x,(aE pos (l.getD 0 ⟨0,0⟩)).y,(aE pos (l.getD 0 ⟨0,0⟩)).x,(aE pos (l.getD 0 ⟨0,0⟩)).y⟩
 | k+1=>Ml (lN pos l k) (aE pos (l.getD (1+k) ⟨0,0⟩))
def ee (s:Shp) (pos:V2):Bx:=if jg s then ⟨bd (pos.x - s.r),bd (pos.y - s.r),bd (pos.x+s.r),bd (pos.y+s.r)⟩ else lN pos s.poly (s.poly.length - 1)
def oO (a b c d:Int):Prop:=a <= d /\ c <= b
instance (a b c d:Int):Decidable (oO a b c d):=inferInstanceAs (Decidable (_ /\ _))
def L4 (a b:Bx):Prop:=oO a.x0 a.x1 b.x0 b.x1 /\ oO a.y0 a.y1 b.y0 b.y1
instance (a b:Bx):Decidable (L4 a b):=inferInstanceAs (Decidable (_ /\ _))
theorem nM (r:Int) (A:Option Addr) (n cap:Nat) (F:HL):Sp Tryz.prog 105 #[.agg #[vI r,.slice A n cap]] [] F (λ u H'=>u=.bool (decide ((n:Int)=0)) /\ H'=[]):=by
 refine Sp.run Tryz.func105 rfl mn (A:=[]) (Ts:=[]) rfl λ w0=>?_
 refine ae 15 [.own 0] λ n1=>?_
 exact RN.ret [] [] [] ⟨rfl,rfl⟩
theorem iu (r:Int) (A:Option Addr) (n cap:Nat) (F:HL):Sp Tryz.prog 253 #[.agg #[vI r,.slice A n cap]] [] F (λ u H'=>u=.bool (decide ((n:Int)=0)) /\ H'=[]):=by
 refine Sp.run Tryz.func253 rfl mn (A:=[]) (Ts:=[]) rfl λ w0=>?_
 refine ae 15 [.own 0] λ n1=>?_
 exact RN.ret [] [] [] ⟨rfl,rfl⟩
theorem uX (a:Int) (b:Int) (c:Int) (d:Int)  (F:HL):Sp Tryz.prog 250 #[vI a,vI b,vI c,vI d] [] F (λ u H'=>u=.bool (decide (oO a b c d)) /\ H'=[]):=by
 refine Sp.run Tryz.func250 rfl mn (A:=[]) (Ts:=[]) rfl λ w0=>?_
 refine ae 11 [] λ _=>RN.em (a <= d) 12 (λ h1=>?_) λ h1=>?_
 ·refine ae 7 [] λ _=>RN.ret [] [] [] (v:=.bool (decide (c <= b))) (H':=[]) ?_
  exact ⟨by simp [oO, *],rfl⟩
 ·refine ae 7 [] λ _=>RN.ret [] [] [] (v:=.bool false) (H':=[]) ?_
  exact ⟨by simp [oO, *],rfl⟩
theorem HK (a:Bx) (b:Bx)  (F:HL):Sp Tryz.prog 224 #[.agg #[vI a.x0,vI a.y0,vI a.x1,vI a.y1],.agg #[vI b.x0,vI b.y0,vI b.x1,vI b.y1]] [] F (λ u H'=>u=.bool (decide (L4 a b)) /\ H'=[]):=by
 refine Sp.run Tryz.func224 rfl mn (A:=[]) (Ts:=[]) rfl λ w0=>?_
 refine ae 17 [.own 1,.own 1,.own 0,.own 0] λ n1=>aj (uX a.x0 a.x1 b.x0 b.x1  _)<|ae 1 [] λ _=>RN.em (oO a.x0 a.x1 b.x0 b.x1) 14 (λ h2=>?_) λ h2=>?_
 ·refine ae 8 [.own 1,.own 1,.own 0,.own 0] λ _=>aj (uX a.y0 a.y1 b.y0 b.y1  _)<|ae 4 [] λ _=>RN.ret [] [] [] (v:=.bool (decide (oO a.y0 a.y1 b.y0 b.y1))) (H':=[]) ?_
  exact ⟨by simp [L4, *],rfl⟩
 ·refine ae 13 [] λ _=>RN.ret [] [] [] (v:=.bool false) (H':=[]) ?_
  exact ⟨by simp [L4, *],rfl⟩
theorem rK (r:Int) (A:Option Addr) (cap:Nat) (pos:V2) (F:HL):Sp Tryz.prog 225 #[.agg #[vI r,.slice A 0 cap],.agg #[vI pos.x,vI pos.y]] [] F (λ u H'=>u=.agg #[vI ((ee ⟨r,[],A,cap⟩ pos).x0),vI ((ee ⟨r,[],A,cap⟩ pos).y0),vI ((ee ⟨r,[],A,cap⟩ pos).x1),vI ((ee ⟨r,[],A,cap⟩ pos).y1)] /\ H'=[]):=by
 refine Sp.run Tryz.func225 rfl mn (A:=[]) (Ts:=[]) rfl λ w0=>?_
 refine ae 11 [.own 2,.own 2] λ n1=>aj (nM r A 0 cap _)<|ae 29 [.own 1,.own 2,.own 1,.own 2,.own 1,.own 2,.own 1,.own 2,.own 0,.own 0,.own 0,.own 0] λ _=>?_
 exact RN.ret [.own 0,.own 0,.own 0,.own 0] [] [] ⟨rfl,rfl⟩
theorem uY (r:Int) (l:List V2) (b cap:Nat) (pos:V2) (F:HL) (hb:(b,.rows 2 cap (jz l) 30 (0,0)) ∈ F) (h3:3 <= l.length) (h4:l.length <= cap) (h5:l.length <= 1000000):Sp Tryz.prog 225 #[.agg #[vI r,vS b 0 l.length cap],.agg #[vI pos.x,vI pos.y]] [] F (λ u H'=>u=.agg #[vI ((ee ⟨r,l,some ⟨b,0,none⟩,cap⟩ pos).x0),vI ((ee ⟨r,l,some ⟨b,0,none⟩,cap⟩ pos).y0),vI ((ee ⟨r,l,some ⟨b,0,none⟩,cap⟩ pos).x1),vI ((ee ⟨r,l,some ⟨b,0,none⟩,cap⟩ pos).y1)] /\ H'=[]):=by
 refine Sp.run Tryz.func225 rfl (mc hb mn) (A:=[]) (Ts:=[]) rfl λ w0=>?_
 refine ae 11 [.own 2,.own 2] λ n1=>aj (nM r (some ⟨b,0,none⟩) l.length cap _)<|ae 2 [] λ _=>RN.fx 11 (decide_eq_false (show ¬ ((l.length:Int)=0) by omega))<|ae 4 [] λ _=>RN.draw [7] []<|aJ [] [0,1,2,3,4] [.own 1,.own 1,.own 2,.ix 0,.rorow 0 0 0,.rorow 0 0 1] [((0+0 * 2)+1)=0 * 2+1 /\ 0 < cap,(0+0 * 2)=0 * 2+0 /\ 0 < cap,0=((0:Nat):Int) /\ 0 < l.length]<|au [] 5 (λ X_=>(dZ pos (l.getD 0 ⟨0,0⟩)  _))<|RD.one 6 (RDO.ev [] [] λ n2=>?_)
 refine RD.one 7 (RDO.ev [] [.own 0,.own 0] λ _=>?_)
 refine RD.fin<|ai 27 (ow 0 8++[.own 4,.sl 1 l.length false]) [1=((1:Nat):Int) /\ l.length=l.length /\ 1 <= l.length /\ l.length <= cap /\ cap ≠ 1] λ n3=>RN.loop (σ:=Nat) (λ k=>⟨[(3,vP (n1+1) 0),(4,vP (n1+2) 0),(6,vP (n3+0) 0),(50,vS b 2 (l.length - 1) (cap - 1)),(51,vI (((l.length - 1):Nat):Int)),(52,vI (k:Int))],[((n3+0),.lit [vI ((lN pos l k).x0),vI ((lN pos l k).y0),vI ((lN pos l k).x1),vI ((lN pos l k).y1)] 26 (0,0)),((n2+0),.lit [vI ((aE pos (l.getD 0 ⟨0,0⟩)).x),vI ((aE pos (l.getD 0 ⟨0,0⟩)).y)] 30 (0,0)),((n1+2),.lit [vI 0,vI 0,vI 0,vI 0] 26 (0,0)),((n1+1),.lit [vI pos.x,vI pos.y] 30 (0,0)),((n1+0),.lit [vI r,vS b 0 l.length cap] 57 (0,0))],[],k <= l.length - 1,l.length - k⟩) 0 [0,1,2,3,4] [] (Nat.zero_le _) ?_
 rintro k hI4 mt5
 refine ae 6 [] λ _=>RN.em ((k:Int) < (((l.length - 1):Nat):Int)) 53 (λ h6=>?_) λ h6=>?_
 ·refine ai 17 [.ix k,.rorow 0 (1+k) 0,.rorow 0 (1+k) 1,.own 0,.own 0,.own 4,.own 4,.own 0,.own 0] [((2+k * 2)+1)=(1+k) * 2+1 /\ (1+k) < cap,(2+k * 2)=(1+k) * 2+0 /\ (1+k) < cap,(k:Int)=((k:Nat):Int) /\ k < (l.length - 1)] λ n7=>aj (dZ pos (l.getD (1+k) ⟨0,0⟩)  _)<|ae 5 [.own 0,.own 0] λ n8=>RN.draw [11,13] [0,1,3,4,5,6]<|ag [0,1,3,4,5,6] [0,2,5,7,1,3,6,8,4,9,10] [.own 2,.own 0,.own 2,.ro 0]<|RD.one 11 (RDO.ev [0,1,3,4,5,6] [.own 2] λ _=>?_)
  refine ag [0,1,3,4,5,6] [12] []<|RD.one 13 (RDO.ev [0,1,3,4,5,6] [.own 2] λ _=>?_)
  refine RD.fin<|ae 1 [] λ _=>RN.draw [11,13] [0,1,3,4,5,6]<|ag [0,1,3,4,5,6] [0,2,5,7,1,3,6,8,4,9,10] [.own 2,.own 0,.own 2,.ro 0]<|RD.one 11 (RDO.ev [0,1,3,4,5,6] [.own 2] λ _=>?_)
  refine ag [0,1,3,4,5,6] [12] []<|RD.one 13 (RDO.ev [0,1,3,4,5,6] [.own 2] λ _=>?_)
  refine RD.fin<|ai 6 [.nw] [bg ((k:Int)+1)] λ _=>?_
  refine mt5 (k+1) [2,3,4,5,6] [] ?_
  try dsimp only
  refine ⟨by omega,by omega⟩
 ·refine ae 12 [.own 0,.own 0,.own 0,.own 0,.own 2,.own 2,.own 2,.own 2] λ _=>RN.ret [.own 2,.own 2,.own 2,.own 2] [] [] (v:=.agg #[vI ((lN pos l k).x0),vI ((lN pos l k).y0),vI ((lN pos l k).x1),vI ((lN pos l k).y1)]) (H':=[]) ?_
  have ek:k=l.length - 1:=by omega
  subst ek
  refine ⟨?_,rfl⟩
  unfold ee
  rw [if_neg (by intro e;simp [jg] at e;rw [e] at h3;simp at h3)]
theorem p4 (s:Shp) (pos:V2) (F:HL) (h:ShIn F s):Sp Tryz.prog 225 #[L3 s,.agg #[vI pos.x,vI pos.y]] [] F (λ u H'=>u=.agg #[vI (ee s pos).x0,vI (ee s pos).y0,vI (ee s pos).x1,vI (ee s pos).y1] /\ H'=[]):=by
 cases h with
 | circle r A cap=>exact rK r A cap pos F
 | poly r l b cap h h3 h4 h5=>exact uY r l b cap pos F h h3 h4 h5
end Go.Proofs.YtobflkidpfkcaaaGreatDoor
