import Derived.Test.YtgdcbiiopbpgaaaGreatDoorR01
import Derived.Test.YtgdcbiiopbpgaaaGreatDoorProg
import Derived.Shelf.Small.Bits
import Derived.Shelf.Strconv.Itoa0
set_option maxHeartbeats 4000000
set_option maxRecDepth 100000
set_option linter.unusedSimpArgs false
set_option linter.unusedVariables false
namespace Go.Proofs.YtgdcbiiopbpgaaaGreatDoor
open IntKind
open Go.RowKit
def nH(s:Cfg):Array Oper:=match s.c with
 | .drw ops _=>ops
 | _=>#[]
def gP(s:Cfg):List Bool:=match s.c with
 | .drw _ l=>l
 | _=>[]
def fq:List Bool -> Nat
 | []=>0
 | true::l=>fq l
 | false::l=>fq l+1
theorem Cx(n:Nat):fq (List.replicate n false)=n:=by
 induction n with
 | zero=>rfl
 | succ n ih=>rw[List.replicate_succ,fq,ih]
def NU(s:Cfg):Cfg:=match s with
 | ⟨.code (.region _ ops true),k,L,A,Ts⟩=>⟨.drw ops (List.replicate ops.toList.length false),k,L,A,Ts⟩
 | s=>s
def Ld(s:Cfg):Bool:=match s.c with
 | .code (.region _ ops true)=>Region.noSelect ops && p8 ops
 | _=>false
structure RD(r:Option Nat)(P:Program)(N:Nat)(D:List Deferred)(F:HL)(w0:World)(R:HL)(hards:List Nat)(Rd:HL)(s:Cfg)(Q:Exit -> Act -> World -> Prop):Prop where
 h:(∀y∈R,y∈F) -> Region.noSelect (nH s)=true -> TD P N D F w0 (nH s) hards Rd (fq (gP s)) (gP s) s.L (ap s.A s.Ts) (NoPanic (lj r P s.k Q))
section
variable {r:Option Nat} {P:Program} {N:Nat} {D:List Deferred} {F:HL} {w0:World} {R:HL} {s:Cfg} {Q:Exit -> Act -> World -> Prop} {hards:List Nat} {Rd:HL}
def yX(ix:List Nat)(s:Cfg):HL:=ix.filterMap (s.A[·]?)
theorem RN.draw(hards ix:List Nat)(hk:RD r P N D F w0 R hards (yX ix s) (NU s) Q)(hm:P.follows .mixedOrders=true:=by kernel_rfl)(hc:Ld s=true:=by kernel_rfl):RN r P N D F w0 R s Q:=by
 refine⟨λ hR=>?_⟩
 obtain⟨c,k,L,A,Ts⟩:=s
 unfold Ld at hc
 split at hc
 case h_2=>cases hc
 rename_i id ops e
 simp only at e
 subst e
 rw[Bool.and_eq_true] at hc
 have h1:=hk.h hR hc.1
 exact TR.draw hards _ hm hc.1 hc.2 (by
  simp only[NU,gP,nH,Cx] at h1
  have e:ops.toList.length=ops.size:=by simp
  rw[e] at h1 ⊢
  exact h1)
def PY(s:Cfg):Cfg:=match s with
 | ⟨.drw _ _,k,L,A,Ts⟩=>⟨.ex .normal,k,L,A,Ts⟩
 | s=>s
def Cy(s:Cfg):Bool:=match s.c with
 | .drw ops l=>(jA ops.toList l).isEmpty
 | _=>false
theorem RD.fin(hk:RN r P N D F w0 R (PY s) Q)(hc:Cy s=true:=by kernel_rfl):RD r P N D F w0 R hards Rd s Q:=by
 refine⟨λ hR _=>?_⟩
 obtain⟨c,k,L,A,Ts⟩:=s
 unfold Cy at hc
 split at hc
 case h_2=>cases hc
 rename_i ops l e
 simp only at e
 subst e
 exact TD.fin (List.isEmpty_iff.1 hc) (NQ (λ a w h1 h2 h3=>hk.h hR a w h1 h2 h3))
def EU(P:Program)(N:Nat)(R:HL)(hards:List Nat)(Rd:HL)(is:List Nat)(hints:List Hint)(s:Cfg):Option (List Bool × FL × SS):=match s.c with
 | .drw ops l=>sD P 0 N ops.toList hards Rd is l s.L ⟨ap s.A s.Ts,R,hints,0,[],[],false⟩
 | _=>none
def PA(P:Program)(N:Nat)(R:HL)(hards:List Nat)(Rd:HL)(is:List Nat)(hints:List Hint)(s:Cfg):Cfg:=match EU P N R hards Rd is hints s with
 | some (b,L',_)=>match s with
  | ⟨.drw ops _,k,_,A,Ts⟩=>⟨.drw ops b,k,L',A,Ts⟩
  | s=>s
 | none=>s
def PC(x:Option (List Bool × FL × SS)):List Nat:=match x with
 | some (_,_,ss)=>ss.eq.map (·.2)
 | none=>[]
def LW(n:Nat)(x:Option (List Bool × FL × SS)):Option (Nat × List Nat × List Prop):=match x with
 | some (b,_,ss)=>match ss.hints with
  | []=>some (fq b+n,ss.eq.map (·.1),ss.ob)
  | _=>none
 | none=>none
theorem qF(ix is:List Nat)(hints:List Hint)(Ob:List Prop)(g_:AllP Ob)(hk:RD r P N D F w0 R hards Rd (PA P N R hards Rd is hints s) Q)
  (h:LW is.length (EU P N R hards Rd is hints s)=some (fq (gP s),PC (EU P N R hards Rd is hints s),Ob):=by kernel_rfl) (Ys:yX ix s=Rd:=by kernel_rfl):RD r P N D F w0 R hards Rd s Q:=by
 refine⟨λ hR hs=>?_⟩
 obtain⟨c,k,L,A,Ts⟩:=s
 cases c with
 | drw ops l =>
  simp only[nH,gP] at hs ⊢
  unfold PA at hk
  generalize hx:EU P N R hards Rd is hints ⟨.drw ops l,k,L,A,Ts⟩=x at h hk
  unfold LW at h
  split at h
  case h_2=>cases h
  rename_i b L' ss
  split at h
  case h_2=>cases h
  simp only[PC,gP,Option.some.injEq,Prod.mk.injEq] at h
  obtain⟨e1,e2,e3⟩:=h
  rw[<- e1]
  refine jk (Rr:=R) hs (λ x hx=>List.mem_append_left _ (sY ix Ys x hx)) hR is l b L L' _ ss hx rfl rfl rfl (fP e2 rfl) (by rw[e3];exact AllP.mem g_) ?_
  exact hk.h hR hs
 | code c=>simp[EU,LW] at h
 | ops ops i=>simp[EU,LW] at h
 | ex e=>simp[EU,LW] at h
theorem ag(ix is:List Nat)(hints:List Hint)(hk:RD r P N D F w0 R hards Rd (PA P N R hards Rd is hints s) Q)
 (h:LW is.length (EU P N R hards Rd is hints s)=some (fq (gP s),PC (EU P N R hards Rd is hints s),[]):=by kernel_rfl) (Ys:yX ix s=Rd:=by kernel_rfl):RD r P N D F w0 R hards Rd s Q:=qF ix is hints [] trivial hk h Ys
theorem aC(ix is:List Nat)(hints:List Hint)(Ob:List Prop)(hk:RD r P N D F w0 R hards Rd (PA P N R hards Rd is hints s) Q)(g_:AllP Ob:=by simp only[AllP,aS,and_true,true_and] <;> (repeat' with_reducible refine And.intro ?_ ?_) <;> omega)
 (h:LW is.length (EU P N R hards Rd is hints s)=some (fq (gP s),PC (EU P N R hards Rd is hints s),Ob):=by kernel_rfl) (Ys:yX ix s=Rd:=by kernel_rfl):RD r P N D F w0 R hards Rd s Q:=qF ix is hints Ob g_ hk h Ys
theorem Lf{b v:Bool}(t:Nat)(hb:b=v)(hk:RD r P N D F w0 R hards Rd (pR t v s) Q)(h:s.L.lookup t=some (.bool b):=by kernel_rfl):RD r P N D F w0 R hards Rd s Q:=by
 subst hb
 exact⟨λ hR hs hcl a hF=>hk.h hR hs hcl a (hF.fix h)⟩
theorem RD.em(p:Prop)[Decidable p](t:Nat)(h1:p -> RD r P N D F w0 R hards Rd (pR t true s) Q)(h2:¬ p -> RD r P N D F w0 R hards Rd (pR t false s) Q)(h:s.L.lookup t=some (.bool (decide p)):=by kernel_rfl):RD r P N D F w0 R hards Rd s Q:=by
 by_cases hp:p
 ·exact Lf t (decide_eq_true hp) (h1 hp) h
 ·exact Lf t (decide_eq_false hp) (h2 hp) h
theorem RD.ro{R':HL}(h:(∀y∈R,y∈F) -> ∀y∈R',y∈F)(hk:RD r P N D F w0 R' hards Rd s Q):RD r P N D F w0 R hards Rd s Q:=⟨λ hR=>hk.h (h hR)⟩
def LX(P:Program)(N:Nat)(R:HL)(i:Nat)(s:Cfg):Option (Option Tmp × FuncId × Array Value × List Nat × List Prop):=match s.c with
 | .drw ops _=>match ops.toList[i]? with
  | none=>none
  | some o=>match jh ops.toList o s.L ⟨ap s.A s.Ts,R,[],0,[],[],false⟩ with
   | some (true,ss)=>match iH o.op s.L with
    | true=>match ev P 0 o (ie s.L) ss with
     | some (.enter f args,s')=>match s'.hints with
      | []=>some (o.dst,f,args,s'.eq.map (·.1),s'.ob)
      | _=>none
     | _=>none
    | false=>none
   | _=>none
 | _=>none
def NV(N:Nat)(hards:List Nat)(i:Nat)(s:Cfg)(x:Option (Option Tmp × FuncId × Array Value × List Nat × List Prop)):Option (FuncId × Array Value × List Nat × List Prop × Nat):=match x with
 | some (dst,f,args,E,Ob)=>match (fh N dst undef s.L).isSome,NG (nH s).toList hards (gP s) i with
  | true,true=>some (f,args,E,Ob,fq (br (gP s) i true)+1)
  | _,_=>none
 | none=>none
def ED(N i:Nat)(v:Value)(s:Cfg):Cfg:=match s with
 | ⟨.drw ops l,k,L,A,Ts⟩=>match ops.toList[i]? with
  | some o=>match fh N o.dst v L with
   | some L'=>⟨.drw ops (br l i true),k,L',A,Ts⟩
   | none=>⟨.drw ops l,k,L,A,Ts⟩
  | none=>⟨.drw ops l,k,L,A,Ts⟩
 | s=>s
theorem RD.cp(ix:List Nat)(i:Nat){f:FuncId}{args:Array Value}{v:Value}(hc:∀X,Sp P f args [] (X++(ap s.A s.Ts++F)) (λ u H'=>u=v /\ H'=[]))(hk:RD r P N D F w0 R hards Rd (ED N i v s) Q)
  (h:NV N hards i s (LX P N R i s)=some (f,args,[],[],fq (gP s)):=by kernel_rfl) (Ys:yX ix s=Rd:=by kernel_rfl):RD r P N D F w0 R hards Rd s Q:=by
 refine⟨λ hR hs=>?_⟩
 obtain⟨c,k,L,A,Ts⟩:=s
 cases c with
 | drw ops l =>
  simp only[nH,gP] at hs ⊢ h
  generalize hx:LX P N R i ⟨.drw ops l,k,L,A,Ts⟩=x at h
  unfold NV at h
  split at h
  case h_2=>cases h
  rename_i dst f' iN E Ob
  split at h
  case h_2=>cases h
  rename_i TG dO
  simp only[nH,gP,Option.some.injEq,Prod.mk.injEq] at h dO
  obtain⟨e1,e2,e3,e4,e5⟩:=h
  subst e1;subst e2;subst e3;subst e4
  obtain⟨L',hl⟩:=eI TG v
  have Ue:=hx
  unfold LX at Ue
  simp only at Ue
  have ho:∃o,ops.toList[i]?=some o /\ o.dst=dst:=by
   split at Ue
   ·cases Ue
   rename_i o ho
   split at Ue
   case h_2=>cases Ue
   split at Ue
   case h_2=>cases Ue
   split at Ue
   case h_2=>cases Ue
   split at Ue
   case h_2=>cases Ue
   simp only[Option.some.injEq,Prod.mk.injEq] at Ue
   exact⟨o,ho,Ue.1⟩
  obtain⟨o,ho,hd⟩:=ho
  have RJ:ED N i v ⟨.drw ops l,k,L,A,Ts⟩=⟨.drw ops (br l i true),k,L',A,Ts⟩:=by
   unfold ED
   simp only[ho,hd,hl]
  rw[RJ] at hk
  subst hd
  show TD P N D F w0 ops hards Rd (fq l) l L (ap A Ts) (NoPanic (lj r P k Q))
  rw[<- e5]
  refine AO (v:=v) (L1:=L') hs (by unfold NG at dO;unfold NP;simp only[Bool.and_eq_true] at dO ⊢;exact dO.1) (by simpa using ho) (λ a hF=>hF.put hl) (λ a hF=>?_) (λ x hx=>List.mem_append_left _ (sY ix Ys x hx)) (.inl dO) (hk.h hR hs)
  unfold LX at hx
  simp only[ho] at hx
  split at hx
  case h_2=>cases hx
  rename_i ss Tf
  split at hx
  case h_2=>cases hx
  rename_i hokp
  split at hx
  case h_2=>cases hx
  rename_i f2 args2 s2 he
  split at hx
  case h_2=>cases hx
  simp only[Option.some.injEq,Prod.mk.injEq] at hx
  obtain⟨-,e2,e3,e4,e5⟩:=hx
  subst e2;subst e3
  obtain⟨a1,a2,a3,a4⟩:=bG Tf
  obtain⟨d1,d2,d3,d4⟩:=dw he
  have Re:∀p∈s2.ob,p:=by rw[e5];intro p hp;cases hp
  have Yy:∀p∈s2.eq,p.1=p.2:=by
   have:s2.eq=[]:=by simpa using e4
   rw[this];intro p hp;cases hp
  obtain⟨c1,c2,c3⟩:=cg Tf hF (λ p hp=>Re p (d2 p hp))
  refine .inl ⟨c1,λ X w aT hB=>?_⟩
  have QM:Rel (ap A Ts++(X++F)) w:=aT.perm (by
   rw[<- List.append_assoc,<- List.append_assoc]
   exact List.Perm.append_right F List.perm_append_comm)
  obtain⟨w1,r1,r2,r3,r4,r5⟩:=gB (w:=w) (F:=X++F) he Yy Re (by rw[c2];exact QM) (by rw[a3];exact λ y hy=>List.mem_append_right _ (hR y hy)) (λ e=>by rw[a4] at e;cases e)
  obtain rfl:=r5 a4
  unfold ew
  rw[hF.exec hokp,r1]
  refine(hc X w1 (by simpa using aT)).mono ?_
  rintro e w2 ⟨u,H',rfl,⟨rfl,rfl⟩,h3,h4⟩
  exact⟨rfl,by simpa using h3,hB.trans h4⟩
 | code c=>simp[LX,NV] at h
 | ops ops i=>simp[LX,NV] at h
 | ex e=>simp[LX,NV] at h
structure RDO(r:Option Nat)(P:Program)(N:Nat)(D:List Deferred)(F:HL)(w0:World)(R:HL)(hards:List Nat)(Rd:HL)(i:Nat)(s:Cfg)(Q:Exit -> Act -> World -> Prop):Prop where
 h:(∀y∈R,y∈F) -> Region.noSelect (nH s)=true -> ∀a,Fm N D s.L a -> Closed (nH s) ⟨br (gP s) i true⟩ -> OPJ P (nH s) F w0 hards Rd i a (ap s.A s.Ts) (JJ P (nH s) (NoPanic (lj r P s.k Q)) F w0 hards Rd (fq (br (gP s) i true)) ⟨br (gP s) i true⟩)
def NW(s:Cfg):List Nat:=jA (nH s).toList (gP s)
def PD(i:Nat)(s:Cfg):Nat:=fq (br (gP s) i true)+1
theorem RD.one(i:Nat)(hk:RDO r P N D F w0 R hards Rd i s Q)(h:(NW s,fq (gP s))=([i],PD i s):=by kernel_rfl):RD r P N D F w0 R hards Rd s Q:=by
 refine⟨λ hR hs=>?_⟩
 simp only[Prod.mk.injEq] at h
 exact TD.one i h.1 _ h.2 λ a hF hcl=>hk.h hR hs a hF hcl
theorem fQ(i j:Nat)(h1:RDO r P N D F w0 R hards Rd i s Q)(h2:RDO r P N D F w0 R hards Rd j s Q)(h:(NW s,fq (gP s),fq (gP s))=([i,j],PD i s,PD j s):=by kernel_rfl):RD r P N D F w0 R hards Rd s Q:=by
 refine⟨λ hR hs=>?_⟩
 simp only[Prod.mk.injEq] at h
 have e:fq (br (gP s) i true)=fq (br (gP s) j true):=by
  have:=h.2.1.symm.trans h.2.2
  unfold PD at this;omega
 exact LU i j h.1 _ h.2.1 (λ a hF hcl=>h1.h hR hs a hF hcl) (λ a hF hcl=>by have:=h2.h hR hs a hF hcl;rw[<- e] at this;exact this)
def Cz(P:Program)(n0 N:Nat)(R:HL)(i:Nat)(hints:List Hint)(s:Cfg):Option (Fo × FL × SS):=match s.c with
 | .drw ops l=>match ops.toList[i]? with
  | none=>none
  | some o=>match jh ops.toList o s.L ⟨s.A,R,hints,0,[],[],true⟩ with
   | some (true,ss)=>match iH o.op s.L with
    | true=>match ev P n0 o (ie s.L) ss with
     | some (.value v,s')=>match fh N o.dst v s.L with
      | some L'=>some (.drw ops (br l i true),L',s')
      | none=>none
     | some (.skip,s')=>match fh N o.dst undef s.L with
      | some L'=>some (.drw ops (br l i true),L',s')
      | none=>none
     | _=>none
    | false=>none
   | _=>none
 | _=>none
theorem EV{n0 i:Nat}{hints:List Hint}{ops:Array Oper}{l:List Bool}{k:List KI}{L:FL}{A:HL}{Ts:List HL}{c:Fo}{L':FL}{s':SS}(h:Cz P n0 N R i hints ⟨.drw ops l,k,L,A,Ts⟩=some (c,L',s')) :
  ∃o ss u x,ops[i]?=some o /\ jh ops.toList o L ⟨A,R,hints,0,[],[],true⟩=some (true,ss) /\ iH o.op L=true /\ ev P n0 o (ie L) ss=some (x,s') /\ (x=.value u \/ (x=.skip /\ u=undef)) /\ fh N o.dst u L=some L' /\ c=.drw ops (br l i true):=by
 unfold Cz at h
 simp only at h
 split at h
 ·cases h
 rename_i o ho
 split at h
 case h_2=>cases h
 rename_i ss hw
 split at h
 case h_2=>cases h
 rename_i dO
 split at h
 ·rename_i v s2 he
  split at h
  case h_2=>cases h
  rename_i hp
  simp only[Option.some.injEq,Prod.mk.injEq] at h
  obtain⟨e1,e2,e3⟩:=h
  subst e2;subst e3
  exact⟨o,ss,v,_,by simpa using ho,hw,dO,he,.inl rfl,hp,e1.symm⟩
 ·rename_i s2 he
  split at h
  case h_2=>cases h
  rename_i hp
  simp only[Option.some.injEq,Prod.mk.injEq] at h
  obtain⟨e1,e2,e3⟩:=h
  subst e2;subst e3
  exact⟨o,ss,undef,_,by simpa using ho,hw,dO,he,.inr ⟨rfl,rfl⟩,hp,e1.symm⟩
 ·cases h
def NX(P:Program)(n0 N:Nat)(R:HL)(i:Nat)(hints:List Hint)(s:Cfg):Cfg:=match Cz P n0 N R i hints s with
 | some (c,L',ss)=>match s with
  | ⟨_,k,_,_,Ts⟩=>⟨c,k,L',ss.h,Ts⟩
 | none=>s
def PE(x:Option (Fo × FL × SS)):List Nat:=match x with
 | some (_,_,ss)=>ss.eq.map (·.2)
 | none=>[]
def PF(Vz:Bool)(ix:List Nat)(A A':HL):HL:=match Vz with
 | true=>ix.filterMap (A'[·]?)
 | false=>A'.drop (A'.length-A.length)
def LY(Vz:Bool)(ix:List Nat)(A:HL)(x:Option (Fo × FL × SS)):Option (List Nat × List Prop × HL):=match x with
 | some (_,_,ss)=>match ss.hints with
  | []=>some (ss.eq.map (·.1),ss.ob,PF Vz ix A ss.h)
  | _=>none
 | none=>none
theorem AU(ix:List Nat){i:Nat}(hints:List Hint)(Ob:Nat -> List Prop)(g_:∀n0,AllP (Ob n0))(hk:∀n0,RD r P N D F w0 R hards Rd (NX P n0 N R i hints s) Q)
  (h:∀n0,LY (hards.contains i) ix s.A (Cz P n0 N R i hints s)=some (PE (Cz P n0 N R i hints s),Ob n0,cond (hards.contains i) Rd s.A):=by intro n0;kernel_rfl):RDO r P N D F w0 R hards Rd i s Q:=by
 refine⟨λ hR hs a hF hcl=>?_⟩
 obtain⟨c,k,L,A,Ts⟩:=s
 cases c with
 | code c=>simp[Cz,LY] at h
 | ops ops i=>simp[Cz,LY] at h
 | ex e=>simp[Cz,LY] at h
 | drw ops l =>
  simp only[nH,gP] at hs hcl h hF ⊢
  have key:∀n0,∃o ss s' u x L',ops[i]?=some o /\ jh ops.toList o L ⟨A,R,hints,0,[],[],true⟩=some (true,ss) /\ iH o.op L=true /\ ev P n0 o (ie L) ss=some (x,s') /\ (x=.value u \/ (x=.skip /\ u=undef)) /\ fh N o.dst u L=some L' /\
    NX P n0 N R i hints ⟨.drw ops l,k,L,A,Ts⟩=⟨.drw ops (br l i true),k,L',s'.h,Ts⟩ /\ (∀p∈s'.eq,p.1=p.2) /\ s'.ob=Ob n0 /\ PF (hards.contains i) ix A s'.h=cond (hards.contains i) Rd A:=by
   intro n0
   have h1:=h n0
   generalize hx:Cz P n0 N R i hints ⟨.drw ops l,k,L,A,Ts⟩=x at h1
   unfold LY at h1
   split at h1
   case h_2=>cases h1
   rename_i c L' s'
   split at h1
   case h_2=>cases h1
   simp only[PE,Option.some.injEq,Prod.mk.injEq] at h1
   obtain⟨e1,e2,e3⟩:=h1
   obtain⟨o,ss,u,x,q1,q2,q3,q4,q5,q6,q7⟩:=EV hx
   refine⟨o,ss,s',u,x,L',q1,q2,q3,q4,q5,q6,?_,fP e1 rfl,e2,e3⟩
   unfold NX
   rw[hx]
   subst q7
   rfl
  unfold OPJ
  obtain⟨o,ss,s',u,x,L',q1,q2,q3,q4,q5,q6,q7,q8,q9,RZ⟩:=key 0
  rw[q1]
  simp only
  obtain⟨d1,d2,d3,d4⟩:=dw q4
  rw[if_pos (cg q2 hF (λ p hp=>AllP.mem (g_ 0) p (by rw[<- q9];exact d2 p hp))).1]
  intro w aT hB
  obtain⟨o',ss,s',u,x,L',q1',q2,q3,q4,q5,q6,q7,q8,q9,RZ⟩:=key w.heap.size
  obtain rfl:o=o':=Option.some.inj (q1.symm.trans q1')
  obtain⟨a1,a2,a3,a4⟩:=bG q2
  obtain⟨d1,d2,d3,d4⟩:=dw q4
  have Re:∀p∈s'.ob,p:=by rw[q9];exact AllP.mem (g_ _)
  obtain⟨c1,c2,c3⟩:=cg q2 hF (λ p hp=>Re p (d2 p hp))
  rw[jO] at aT
  obtain⟨w1,r1,r2,r3,r4,r5⟩:=gB (w:=w) (F:=Ts.flatten++F) q4 q8 Re (by rw[c2];exact aT) (by rw[a3];exact λ y hy=>List.mem_append_right _ (hR y hy)) (λ _=>by rw[c3];rfl)
  have hkk:=(hk w.heap.size).h hR
  rw[q7] at hkk
  have fin:∃H',((i ∉ hards -> ∃X,H'=X++ap A Ts) /\ (i∈hards -> ∀x∈Rd,x∈H')) /\ JJ P ops (NoPanic (lj r P k Q)) F w0 hards Rd (fq (br l i true)) ⟨br l i true⟩ (a.put o.dst u) H' /\ Rel (H'++F) w1 /\ Below 0 w0 w1:=by
   refine⟨ap s'.h Ts,⟨λ hi=>?_,λ hi=>?_⟩,hkk hs hcl _ (hF.put q6),by rw[jO];exact r2,hB.trans r3⟩
   ·have hc:hards.contains i=false:=by
     cases hq:hards.contains i with
     | false=>rfl
     | true=>exact absurd (List.contains_iff_mem.1 hq) hi
    rw[hc] at RZ
    simp only[PF,cond_false] at RZ
    refine⟨s'.h.take (s'.h.length-A.length),?_⟩
    show s'.h++Ts.flatten=_++(A++Ts.flatten)
    rw[<- List.append_assoc]
    congr 1
    conv=>lhs;rw[<- List.take_append_drop (s'.h.length-A.length) s'.h,RZ]
   ·have hc:hards.contains i=true:=List.contains_iff_mem.2 hi
    rw[hc] at RZ
    simp only[PF,cond_true] at RZ
    exact λ x hx=>List.mem_append_left _ (sY ix RZ x hx)
  unfold ew
  rw[hF.exec q3,r1]
  rcases q5 with rfl|⟨rfl,rfl⟩
  ·exact fin
  ·exact fin
theorem RDO.ev(ix:List Nat){i:Nat}(hints:List Hint)(hk:∀n0,RD r P N D F w0 R hards Rd (NX P n0 N R i hints s) Q)
 (h:∀n0,LY (hards.contains i) ix s.A (Cz P n0 N R i hints s)=some (PE (Cz P n0 N R i hints s),[],cond (hards.contains i) Rd s.A):=by intro n0;kernel_rfl):RDO r P N D F w0 R hards Rd i s Q:=AU ix hints (λ _=>[]) (λ _=>trivial) hk h
theorem eA(ix:List Nat){i:Nat}(hints:List Hint)(Ob:List Prop)(hk:∀n0,RD r P N D F w0 R hards Rd (NX P n0 N R i hints s) Q)(g_:AllP Ob:=by simp only[AllP,aS,and_true,true_and] <;> (repeat' with_reducible refine And.intro ?_ ?_) <;> omega)
 (h:∀n0,LY (hards.contains i) ix s.A (Cz P n0 N R i hints s)=some (PE (Cz P n0 N R i hints s),Ob,cond (hards.contains i) Rd s.A):=by intro n0;kernel_rfl):RDO r P N D F w0 R hards Rd i s Q:=AU ix hints (λ _=>Ob) (λ _=>g_) hk h
def NY(P:Program)(n0 N:Nat)(R:HL)(i:Nat)(s:Cfg):Option (Option Tmp × FuncId × Array Value × HL × List Nat × List Nat × List Prop):=match s.c with
 | .drw ops _=>nC P n0 N ops.toList i s.L (ap s.A s.Ts) R []
 | _=>none
theorem qG{i:Nat}{ops:Array Oper}{l:List Bool}{k:List KI}{L:FL}{A:HL}{Ts:List HL}{o:Oper}(ho:ops[i]?=some o){σ:Type}(G:Value -> σ -> Prop)(Ho:σ -> HL)(hl:(fh N o.dst undef L).isSome=true)
  (hg:∀a,Fm N D L a -> Region.wanted o (yielded ops a.tmps)=true /\ ∀w,Rel (ap A Ts++F) w -> Below 0 w0 w -> ew P o a w λ u w'=>∃x,G u x /\ Rel (Ho x++F) w' /\ Below 0 w w')
  (ZY:∀x,(i ∉ hards -> ∃X,Ho x=X++ap A Ts) /\ (i∈hards -> ∀y∈Rd,y∈Ho x))
  (hk:∀v x,G v x -> ∀L',fh N o.dst v L=some L' -> Region.noSelect ops=true -> TD P N D F w0 ops hards Rd (fq (br l i true)) (br l i true) L' (Ho x) (NoPanic (lj r P k Q))):RDO r P N D F w0 R hards Rd i ⟨.drw ops l,k,L,A,Ts⟩ Q:=by
 refine⟨λ hR hs a hF hcl=>?_⟩
 simp only[nH,gP] at hs hcl hF ⊢
 unfold OPJ
 rw[ho]
 simp only
 obtain⟨h1,h2⟩:=hg a hF
 rw[if_pos h1]
 intro w aT hB
 refine eV (h2 w aT hB) ?_
 rintro u w' ⟨x,hx,QK,S_⟩
 obtain⟨L',TI⟩:=eI hl u
 exact⟨Ho x,ZY x,hk u x hx L' TI hs hcl _ (hF.put TI),QK,hB.trans S_⟩
def EW(Vz:Bool)(ix ip jp:List Nat)(s:Cfg)(Rd:HL):HL:=match Vz with
 | true=>ix.filterMap ((dF ip s)[·]?)
 | false=>match ip,jp with
  | [],[]=>Rd
  | _,_=>(0,.obj (.deferred none))::Rd
theorem AV{α:Type}(l:List α):(oth [] l.length).filterMap (l[·]?)=l:=by
 have:oth [] l.length=List.range l.length:=by simp[oth]
 rw[this]
 exact ES l
theorem TD.permH{L:FL}{H H':HL}{ops:Array Oper}{fuel:Nat}{l:List Bool}(hp:H'.Perm H)(h:TD P N D F w0 ops hards Rd fuel l L H' Q):TD P N D F w0 ops hards Rd fuel l L H Q:=λ hcl a hF=>JJ.perm _ _ _ _ _ hp (h hcl a hF)
theorem RDO.ct{τ:Type}{i:Nat}(ix ip jp:List Nat){f:FuncId}{args:Array Value}{Hp:HL}{Tp:List HL}{Hq:τ -> HL}{Tq:τ -> List HL}{Rv:Value -> τ -> Prop}
  (hc:Sp P f args (ap Hp Tp) (ap (dF ip s) (ez jp s)++F) (λ v H'=>∃x,H'=ap (Hq x) (Tq x) /\ Rv v x)) (hk:∀v x,Rv v x -> RD r P N D F w0 R hards Rd (vW (λ A=>Hq x++(oth ip A.length).filterMap (A[·]?)) (λ Ts=>Tq x++(oth jp Ts.length).filterMap (Ts[·]?)) (ED N i v s)) Q)
  (h:∀n0,kL N s (NY P n0 N R i s)=some (f,args,[],[],ap s.A s.Ts):=by intro n0;kernel_rfl)
  (hp:bI ip jp s=true:=by kernel_rfl) (hH:picks ip jp s=(Hp,Tp):=by kernel_rfl) (hx:EW (hards.contains i) ix ip jp s Rd=Rd:=by kernel_rfl):RDO r P N D F w0 R hards Rd i s Q:=by
 obtain⟨c,k,L,A,Ts⟩:=s
 cases c with
 | code c=>simp[NY,kL] at h
 | ops ops i=>simp[NY,kL] at h
 | ex e=>simp[NY,kL] at h
 | drw ops l =>
  refine⟨λ hR=>?_⟩
  unfold bI at hp
  unfold picks at hH
  simp only[NY,Bool.and_eq_true,Prod.mk.injEq] at h hp hH
  obtain⟨e1,e2⟩:=hH
  have key:∀n0,∃dst,nC P n0 N ops.toList i L (ap A Ts) R []=some (dst,f,args,ap A Ts,[],[],[]) /\ (fh N dst undef L).isSome=true:=by
   intro n0
   have h1:=h n0
   generalize hx:nC P n0 N ops.toList i L (ap A Ts) R []=x at h1
   unfold kL at h1
   split at h1
   case h_2=>cases h1
   rename_i dst f' iN H1 E E' Ob'
   split at h1
   case h_2=>cases h1
   rename_i TG
   simp only[Option.some.injEq,Prod.mk.injEq] at h1
   obtain⟨e1,e2,e3,e4,e5⟩:=h1
   subst e1;subst e2;subst e3;subst e4;subst e5
   obtain⟨o,s1,s',_,_,_,_,_,_,g1,g2,_⟩:=iJ hx
   have:s'.eq=[]:=by simpa using g1
   rw[this] at g2
   simp only[List.map_nil] at g2
   subst g2
   exact⟨dst,rfl,TG⟩
  obtain⟨dst,Zm,TG⟩:=key 0
  obtain⟨o,s1,s',ho,_,_,_,hd,_⟩:=iJ Zm
  subst hd
  have QJ:∀n0,nC P n0 N ops.toList i L (ap A Ts) R []=some (o.dst,f,args,ap A Ts,[],[],[]):=by
   intro n0
   obtain⟨dst',h1,_⟩:=key n0
   obtain⟨o',_,_,AT,_,_,_,SE,_⟩:=iJ h1
   obtain rfl:o=o':=Option.some.inj (ho.symm.trans AT)
   rw[SE];exact h1
  have rW:(ap Hp Tp++ap (dF ip ⟨.drw ops l,k,L,A,Ts⟩) (ez jp ⟨.drw ops l,k,L,A,Ts⟩)).Perm (ap A Ts):=by
   have h1:=kl A Ts ip (oth ip A.length) jp (oth jp Ts.length) hp.1 hp.2
   rw[e1,e2] at h1
   exact h1
  have RJ:∀v L',fh N o.dst v L=some L' -> ED N i v ⟨.drw ops l,k,L,A,Ts⟩=⟨.drw ops (br l i true),k,L',A,Ts⟩:=by
   intro v L' hl
   unfold ED
   simp only[ho,hl]
  have hTD:∀v x,Rv v x -> ∀L',fh N o.dst v L=some L' -> Region.noSelect ops=true -> TD P N D F w0 ops hards Rd (fq (br l i true)) (br l i true) L' (ap (Hq x++(oth ip A.length).filterMap (A[·]?)) (Tq x++(oth jp Ts.length).filterMap (Ts[·]?))) (NoPanic (lj r P k Q)):=by
   intro v x hv L' hl hs
   have h1:=(hk v x hv).h hR
   rw[RJ v L' hl] at h1
   exact h1 hs
  have hgen:∀a,Fm N D L a -> Region.wanted o (yielded ops a.tmps)=true /\ ∀w,Rel (ap A Ts++F) w -> Below 0 w0 w -> ew P o a w λ u w'=>∃x,Rv u x /\ Rel ((ap (Hq x) (Tq x)++ap (dF ip ⟨.drw ops l,k,L,A,Ts⟩) (ez jp ⟨.drw ops l,k,L,A,Ts⟩))++F) w' /\ Below 0 w w':=by
   intro a hF
   obtain⟨h1,h2⟩:=yS (w0:=w0) ho QJ hR trivial rW hc a hF
   refine⟨h1,λ w hR hB=>eV (h2 w hR hB) ?_⟩
   rintro u w' ⟨H',⟨x,rfl,hv⟩,RT,S8⟩
   exact⟨x,hv,RT,S8⟩
  have ZU:∀x,(ap (Hq x) (Tq x)++ap (dF ip ⟨.drw ops l,k,L,A,Ts⟩) (ez jp ⟨.drw ops l,k,L,A,Ts⟩)).Perm (ap (Hq x++(oth ip A.length).filterMap (A[·]?)) (Tq x++(oth jp Ts.length).filterMap (Ts[·]?))):=by
   intro x
   have h1:=uw (Hq x) (dF ip ⟨.drw ops l,k,L,A,Ts⟩) (Tq x) (ez jp ⟨.drw ops l,k,L,A,Ts⟩) []
   rw[List.append_nil,List.append_nil] at h1
   exact h1
  refine(qG (by simpa using ho) (λ v x=>Rv v x) (λ x=>ap (Hq x) (Tq x)++ap (dF ip ⟨.drw ops l,k,L,A,Ts⟩) (ez jp ⟨.drw ops l,k,L,A,Ts⟩)) TG hgen (λ x=>⟨λ hi=>?_,λ hi y hy=>?_⟩) (λ v x hv L' hl hs=>TD.permH (ZU x).symm (hTD v x hv L' hl hs)):RDO r P N D F w0 R hards Rd i ⟨.drw ops l,k,L,A,Ts⟩ Q).h hR
  ·have hc:hards.contains i=false:=by
    cases hq:hards.contains i with
    | false=>rfl
    | true=>exact absurd (List.contains_iff_mem.1 hq) hi
   rw[hc] at hx
   unfold EW at hx
   simp only at hx
   split at hx
   ·refine⟨ap (Hq x) (Tq x),?_⟩
    unfold dF ez
    show _++ap ((oth [] A.length).filterMap (A[·]?)) ((oth [] Ts.length).filterMap (Ts[·]?))=_
    rw[AV,AV]
   ·exact absurd hx (by simp)
  ·rw[List.contains_iff_mem.2 hi] at hx
   simp only[EW] at hx
   exact List.mem_append_right _ (List.mem_append_left _ (sY ix hx y hy))
def Lg(V:Inv)(ip jp:List Nat)(s:Cfg):(List (Option Value) × HL × List HL) × Bool × Bool:=(uA V ip jp s,bI ip jp s,Cy s)
def PZ(V:Inv)(s:Cfg):Cfg:=match s with
 | ⟨_,k,_,_,_⟩=>⟨.ex .normal,k,V.L,V.A,V.Ts⟩
theorem jQ{σ:Type}(V:σ -> Inv)(k:∀x,RN r P N D F w0 R (PZ (V x) s) Q)(h:(∀ {s':Cfg} (x:σ) (ip jp:List Nat),(h:Lg (V x) ip jp s'=(nG (V x),true,true):=by kernel_rfl) -> (e:s'.k=s.k:=by kernel_rfl) -> RD r P N D F w0 R hards Rd s' Q) -> RD r P N D F w0 R hards Rd s Q):RD r P N D F w0 R hards Rd s Q:=by
 refine h λ {s'} x ip jp hm e=>?_
 unfold Lg at hm
 simp only[Prod.mk.injEq] at hm
 obtain⟨m1,m2,m3⟩:=hm
 refine RD.fin ⟨λ hR a w h1 h2 h3=>?_⟩ m3
 obtain⟨c,k',L,A,Ts⟩:=s'
 simp only at e
 subst e
 cases c with
 | drw ops l =>
  obtain⟨k1,k2⟩:=qE (s:=⟨.drw ops l,s.k,L,A,Ts⟩) m1 m2 h1 h2
  exact(k x).h hR a w k1 k2 h3
 | code c=>simp[Cy] at m3
 | ops ops i=>simp[Cy] at m3
 | ex e=>simp[Cy] at m3
end
abbrev aZ(n:Int):Int:=i64.wrap n
structure V2 where (x y:Int)
structure Bx where (x0 y0 x1 y1:Int)
structure Mot where (px py vx vy inv:Int)
structure Con where (nx ny d:Int)
def aF(n lo hi:Int):Int:=if n<lo then lo else if n>hi then hi else n
def ll(a b:Int):Int:=if b=0 then 0 else if (a.tmod b>0 /\ b<0) \/ (a.tmod b<0 /\ b>0) then aZ (aZ (a.tdiv b)-1) else aZ (a.tdiv b)
def ga(a b:Int):Int:=ll (aZ (a * b)) 1024
def az(a b c:Int):Int:=ll (aZ (a * b)) c
theorem cC(n:Int)(lo:Int)(hi:Int)  (F:HL):Sp Tryz.prog 191 #[vI n,vI lo,vI hi] [] F (λ u H'=>u=vI (aF n lo hi) /\ H'=[]):=by
 refine Sp.run Tryz.func191 rfl mn (A:=[]) (Ts:=[]) rfl λ w0=>?_
 refine ae 15 [] λ _=>RN.em (n<lo) 7 (λ h1=>?_) λ h1=>?_
 ·refine ae 7 [] λ _=>RN.ret [] [] [] (v:=vI lo) (H':=[]) ?_
  exact⟨by unfold aF;simp[*],rfl⟩
 ·refine ae 9 [] λ _=>RN.em (n>hi) 12 (λ h2=>?_) λ h2=>?_
  ·refine ae 7 [] λ _=>RN.ret [] [] [] (v:=vI hi) (H':=[]) ?_
   exact⟨by unfold aF;simp[*],rfl⟩
  ·refine ae 10 [] λ _=>RN.ret [] [] [] (v:=vI n) (H':=[]) ?_
   exact⟨by unfold aF;simp[*],rfl⟩
theorem nJ(a:Int)(b:Int)  (F:HL):Sp Tryz.prog 229 #[vI a,vI b] [] F (λ u H'=>u=vI (ll a b) /\ H'=[]):=by
 refine Sp.run Tryz.func229 rfl mn (A:=[]) (Ts:=[]) rfl λ w0=>?_
 refine ae 12 [] λ _=>RN.em (b=0) 8 (λ h1=>?_) λ h1=>?_
 ·refine ae 6 [] λ _=>RN.ret [] [] [] (v:=vI 0) (H':=[]) ?_
  exact⟨by unfold ll;simp[*],rfl⟩
 ·refine ae 4 [] λ _=>RN.draw [] []<|aC [] [0,1,3,4,2,5,6,7] [.dv,.dv] [b≠0,b≠0]<|RD.fin<|ae 13 [] λ _=>RN.em (a.tmod b>0) 18 (λ h2=>?_) λ h2=>?_
  ·refine ae 6 [] λ _=>RN.em (b<0) 15 (λ h3=>?_) λ h3=>?_
   ·refine ae 23 [] λ _=>RN.ret [] [] [] (v:=vI (i64.wrap ((i64.wrap (a.tdiv b))-1))) (H':=[]) ?_
    exact⟨by unfold ll;simp[*],rfl⟩
   ·refine ae 8 [] λ _=>RN.em (a.tmod b<0) 25 (λ h4=>?_) λ h4=>?_
    ·refine ae 6 [] λ _=>RN.em (b>0) 22 (λ h5=>?_) λ h5=>?_
     ·refine ae 22 [] λ _=>RN.ret [] [] [] (v:=vI (i64.wrap ((i64.wrap (a.tdiv b))-1))) (H':=[]) ?_
      exact⟨by unfold ll;simp[*],rfl⟩
     ·refine ae 15 [] λ _=>RN.ret [] [] [] (v:=vI (i64.wrap (a.tdiv b))) (H':=[]) ?_
      exact⟨by unfold ll;simp[*],rfl⟩
    ·refine ae 21 [] λ _=>RN.ret [] [] [] (v:=vI (i64.wrap (a.tdiv b))) (H':=[]) ?_
     exact⟨by unfold ll;simp[*],rfl⟩
  ·refine ae 14 [] λ _=>RN.em (a.tmod b<0) 25 (λ h6=>?_) λ h6=>?_
   ·refine ae 6 [] λ _=>RN.em (b>0) 22 (λ h7=>?_) λ h7=>?_
    ·refine ae 22 [] λ _=>RN.ret [] [] [] (v:=vI (i64.wrap ((i64.wrap (a.tdiv b))-1))) (H':=[]) ?_
     exact⟨by unfold ll;simp[*],rfl⟩
    ·refine ae 15 [] λ _=>RN.ret [] [] [] (v:=vI (i64.wrap (a.tdiv b))) (H':=[]) ?_
     exact⟨by unfold ll;simp[*],rfl⟩
   ·refine ae 21 [] λ _=>RN.ret [] [] [] (v:=vI (i64.wrap (a.tdiv b))) (H':=[]) ?_
    exact⟨by unfold ll;simp[*],rfl⟩
theorem nK(a:Int)(b:Int)  (F:HL):Sp Tryz.prog 212 #[vI a,vI b] [] F (λ u H'=>u=vI (ga a b) /\ H'=[]):=by
 refine Sp.run Tryz.func212 rfl mn (A:=[]) (Ts:=[]) rfl λ w0=>?_
 refine ae 10 [] λ _=>RN.cp (nJ (i64.wrap (a * b)) 1024  _)<|ae 3 [] λ _=>?_
 exact RN.ret [] [] [] ⟨rfl,rfl⟩
theorem gj(a:Int)(b:Int)(c:Int)  (F:HL):Sp Tryz.prog 238 #[vI a,vI b,vI c] [] F (λ u H'=>u=vI (az a b c) /\ H'=[]):=by
 refine Sp.run Tryz.func238 rfl mn (A:=[]) (Ts:=[]) rfl λ w0=>?_
 refine ae 11 [] λ _=>RN.cp (nJ (i64.wrap (a * b)) c  _)<|ae 3 [] λ _=>?_
 exact RN.ret [] [] [] ⟨rfl,rfl⟩
end Go.Proofs.YtgdcbiiopbpgaaaGreatDoor
namespace Go.Proofs
open IntKind
open Go.Shelf
def oD:Go.Shelf.Ren:=⟨λ|125=>106|128=>126|129=>127|n=>n,λ|46=>153|3=>3|51=>230|53=>45|4=>4|5=>5|9=>9|n=>n,λ|n=>n⟩
theorem uB:Go.Proofs.Lays.n125 Tryz.prog oD:={
 mixed:=by kernel_rfl
 f125:=Tryz.func106.trans (congrArg some (by kernel_rfl))
 f128:=Tryz.func126.trans (congrArg some (by kernel_rfl))
 f129:=Tryz.func127.trans (congrArg some (by kernel_rfl))
 t3:=Tryz.underlying3
 a3:=Tryz.isAgg3
 z3:=Tryz.sizeOf3
 v3:=Tryz.zeroValue3
 t4:=Tryz.underlying4
 a4:=Tryz.isAgg4
 z4:=Tryz.sizeOf4
 v4:=Tryz.zeroValue4
 t5:=Tryz.underlying5
 a5:=Tryz.isAgg5
 z5:=Tryz.sizeOf5
 v5:=Tryz.zeroValue5
 t9:=Tryz.underlying9
 a9:=Tryz.isAgg9
 z9:=Tryz.sizeOf9
 v9:=Tryz.zeroValue9
 t46:=Tryz.underlying153
 a46:=Tryz.isAgg153
 z46:=Tryz.sizeOf153
 v46:=Tryz.zeroValue153
 t51:=Tryz.underlying230
 a51:=Tryz.isAgg230
 z51:=Tryz.sizeOf230
 v51:=Tryz.zeroValue230
 t53:=Tryz.underlying45
 a53:=Tryz.isAgg45
 z53:=Tryz.sizeOf45
 v53:=Tryz.zeroValue45 }
theorem Tryz.bits_Len(x:Int)(w:World)(h0:0 <= x)(h1:x <= 18446744073709551615) :
 Calls Tryz.prog 106 #[.int .u64 x] w λ e w'=>e=.returned (.int .i64 (Lib.bitLen x.toNat)) /\ w'=w:=Any.bits_Len uB x w h0 h1
end Go.Proofs
namespace Go.Proofs.YtgdcbiiopbpgaaaGreatDoor
open IntKind
open Go.RowKit
abbrev vX(n:Int):Int:=u64.wrap n
theorem uC(n:Int):0 <= vX n /\ vX n <= 18446744073709551615:=by
 show 0 <= u64.wrap n /\ u64.wrap n <= _
 unfold IntKind.wrap
 simp[IntKind.signed,IntKind.bits]
 omega
abbrev uD(n:Int):Int:=(Lib.bitLen (vX n).toNat:Int)
theorem vY(n:Int)(F:HL):Sp Tryz.prog 106 #[.int .u64 (vX n)] [] F (λ u H'=>u=vI (uD n) /\ H'=[]) :=
 vR (λ w=>Tryz.bits_Len _ w (uC n).1 (uC n).2) F
theorem Jf(n:Int):0 <= uD n /\ uD n <= 64:=by
 have h:=uC n
 have:=Lib.bitLen_le (vX n).toNat 64 (by omega) (by omega)
 unfold uD
 omega
def Jg(r:Int)(k:Nat):Int:=aZ ((BitVec.ofInt 64 r ||| BitVec.ofInt 64 (aZ (1 * 2 ^ min k 64))).toNat:Int)
def uE(n:Int):Nat -> Int -> Int
 | 0,r=>r
 | k+1,r=>uE n k (if Jg r k>aZ (n.tdiv (Jg r k)) then r else Jg r k)
def CA(n:Int):Int:=aZ (aZ ((aZ (uD n+1)).tdiv 2)-1)
def uF(n:Int):Int:=if n <= 0 then 0 else uE n (CA n+1).toNat 0
theorem P0(v:BitVec 64)(h:aZ (v.toNat:Int)=0):v=0#64:=by
 apply BitVec.eq_of_toNat_eq
 have h2:v.toNat<18446744073709551616:=v.isLt
 generalize v.toNat=m at *
 rw[aZ,IntKind.wrap_i64] at h
 simp
 omega
theorem LZ(r:Int){k:Nat}(hk:k<40):Jg r k≠0:=by
 intro h
 have hb:BitVec.ofInt 64 (aZ (1 * 2 ^ min k 64))≠0#64:=by
  have:∀k<40,BitVec.ofInt 64 (aZ (1 * 2 ^ min k 64))≠0#64:=by decide
  exact this k hk
 have h1:=P0 _ h
 clear h
 generalize BitVec.ofInt 64 (aZ (1 * 2 ^ min k 64))=b at *
 generalize BitVec.ofInt 64 r=a at *
 apply hb
 have:(a ||| b) &&& b=b:=by
  apply BitVec.eq_of_getLsbD_eq
  intro i hi
  simp
  intro h
  exact .inr h
 rw[h1] at this
 simpa using this.symm
theorem AW(n:Int):-1 <= CA n /\ CA n <= 31:=by
 have:=Jf n
 unfold CA aZ
 generalize uD n=l at *
 have e1:i64.wrap (l+1)=l+1:=by rw[IntKind.wrap_i64];omega
 rw[e1,Int.tdiv_eq_ediv_of_nonneg (by omega)]
 have e2:i64.wrap ((l+1) / 2)=(l+1) / 2:=by rw[IntKind.wrap_i64];omega
 rw[e2,IntKind.wrap_i64]
 omega
theorem cZ{x:Int}(h:-9223372036854775808 <= x /\ x <= 9223372036854775807):aZ x=x:=by
 rw[aZ,IntKind.wrap_i64];omega
theorem vZ{n r s:Int}{k:Int}(h0:¬ s<0)(h:uE n (s+1).toNat r=k):uE n s.toNat (if Jg r s.toNat>aZ (n.tdiv (Jg r s.toNat)) then r else Jg r s.toNat)=k:=by
 have e:(s+1).toNat=s.toNat+1:=by omega
 rw[e,uE] at h
 exact h
theorem CB(n:Int)  (F:HL):Sp Tryz.prog 298 #[vI n] [] F (λ u H'=>u=vI (uF n) /\ H'=[]):=by
 refine Sp.run Tryz.func298 rfl mn (A:=[]) (Ts:=[]) rfl λ w0=>?_
 refine ae 13 [] λ _=>RN.em (n <= 0) 7 (λ h1=>?_) λ h1=>?_
 ·refine ae 6 [] λ _=>RN.ret [] [] [] (v:=vI 0) (H':=[]) ?_
  refine⟨?_,rfl⟩
  unfold uF
  first|(simp[*];done)|(have e:(s+1).toNat=0:=by omega);(rw[e,uE] at YS);(simp[*])
 ·refine ae 16 [] λ _=>RN.cp (vY n _)<|ae 7 [] λ _=>RN.loop (σ:=Int × Int) (λ ⟨r,s⟩=>⟨[(0,vI n),(3,vI r),(4,vI s)],[],[],-1 <= s /\ s <= 31 /\ uE n (s+1).toNat r=uE n (CA n+1).toNat 0,(s+1).toNat⟩) (0,CA n) [] [] (⟨(AW n).1,(AW n).2,rfl⟩) ?_
  rintro⟨r,s⟩ ⟨hI0,hI1,YS⟩ QP
  have hw:s >= 0 -> i64.wrap (s-1)=s-1:=λ _=>cZ (by omega)
  have QL:(s-1+1).toNat=s.toNat:=by rw[Int.sub_add_cancel]
  refine ae 7 [] λ _=>RN.em (s >= 0) 15 (λ h4=>?_) λ h4=>?_
  ·refine qD 24 [.dv,.gen,.dv] (λ _=>[i64.wrap ((BitVec.ofInt 64 r ||| BitVec.ofInt 64 (i64.wrap (1 * 2 ^ min (s).toNat 64))).toNat:Int)≠0,0 <= s]) (λ _=>(ac (LZ r (by omega)) (ac (by omega) an))) λ _=>RN.em (i64.wrap ((BitVec.ofInt 64 r ||| BitVec.ofInt 64 (i64.wrap (1 * 2 ^ min (s).toNat 64))).toNat:Int)>i64.wrap (n.tdiv (i64.wrap ((BitVec.ofInt 64 r ||| BitVec.ofInt 64 (i64.wrap (1 * 2 ^ min (s).toNat 64))).toNat:Int)))) 26 (λ h5=>?_) λ h5=>?_
   ·refine ae 10 [] λ _=>?_
    refine QP (r,i64.wrap (s-1)) [] [] ?_
    try dsimp only
    have hN:=vZ (by omega) YS
    rw[hw (by assumption),QL]
    refine⟨⟨by omega,by omega,?_⟩,by omega⟩
    simpa only[Jg, *,if_true,if_false] using hN
   ·refine ae 14 [] λ _=>?_
    refine QP (i64.wrap ((BitVec.ofInt 64 r ||| BitVec.ofInt 64 (i64.wrap (1 * 2 ^ min (s).toNat 64))).toNat:Int),i64.wrap (s-1)) [] [] ?_
    try dsimp only
    have hN:=vZ (by omega) YS
    rw[hw (by assumption),QL]
    refine⟨⟨by omega,by omega,?_⟩,by omega⟩
    simpa only[Jg, *,if_true,if_false] using hN
  ·refine ae 12 [] λ _=>RN.ret [] [] [] (v:=vI r) (H':=[]) ?_
   refine⟨?_,rfl⟩
   unfold uF
   first|(simp[*];done)|(have e:(s+1).toNat=0:=by omega);(rw[e,uE] at YS);(simp[*])
def aD(a b:V2):V2:=⟨aZ (a.x+b.x),aZ (a.y+b.y)⟩
def dz(a b:V2):V2:=⟨aZ (a.x-b.x),aZ (a.y-b.y)⟩
def CC(a:V2):V2:=dz ⟨0,0⟩ a
def al(a:V2)(f:Int):V2:=⟨ga a.x f,ga a.y f⟩
def eL(a:V2)(n d:Int):V2:=⟨az a.x n d,az a.y n d⟩
def EY(n:Int):Int:=n.fdiv 1024
def da(a b:V2):Int:=EY (aZ (aZ (a.x * b.x)+aZ (a.y * b.y)))
def EZ(a:V2):Int:=uF (aZ (aZ (a.x * a.x)+aZ (a.y * a.y)))
def s9(a:V2):Prop:=a.x=0 /\ a.y=0
instance (a:V2):Decidable (s9 a):=inferInstanceAs (Decidable (_ /\ _))
def kM(a:V2):V2:=if s9 a then a else eL a 1024 (EZ a)
theorem v6(m n:Int)(F:HL):Sp Tryz.prog 210 #[vI m,vI n] [] F (λ u H'=>u=vI (aZ (m+n)) /\ H'=[]):=by
 refine Sp.run Tryz.func210 rfl mn (A:=[]) (Ts:=[]) rfl λ w0=>?_
 refine ae 13 [] λ _=>?_
 exact RN.ret [] [] [] ⟨rfl,rfl⟩
theorem v7(m n:Int)(F:HL):Sp Tryz.prog 263 #[vI m,vI n] [] F (λ u H'=>u=vI (aZ (m-n)) /\ H'=[]):=by
 refine Sp.run Tryz.func263 rfl mn (A:=[]) (Ts:=[]) rfl λ w0=>?_
 refine ae 13 [] λ _=>?_
 exact RN.ret [] [] [] ⟨rfl,rfl⟩
theorem pw(m n d:Int)(b:Nat)(F:HL)(hb:(b,.lit [vI d] 3 (0,0))∈F):Sp Tryz.prog 246 #[vI m,vI n,vP b 0] [] F (λ u H'=>u=vI (az m n d) /\ H'=[]):=by
 refine Sp.run Tryz.func246 rfl (mc hb mn) (A:=[]) (Ts:=[]) rfl λ w0=>?_
 refine ae 10 [.ro 0] λ _=>RN.cp (gj m n d  _)<|ae 3 [] λ _=>?_
 exact RN.ret [] [] [] ⟨rfl,rfl⟩
theorem E0(a b:V2)  (F:HL):Sp Tryz.prog 209 #[.agg #[vI a.x,vI a.y],.agg #[vI b.x,vI b.y],.func (.func 210) #[] #[]] [] F (λ u H'=>u=.agg #[vI ((aD a b).x),vI ((aD a b).y)] /\ H'=[]):=by
 refine Sp.run Tryz.func209 rfl mn (A:=[]) (Ts:=[]) rfl λ w0=>?_
 refine ae 8 [] λ n1=>RN.draw [13] []<|ag [] [0,1,3,6,7,9,2,4,8,10] [.own 2,.own 1,.own 2,.own 1]<|RD.cp [] 5 (λ X_=>(v6 a.x b.x _))<|RD.cp [] 11 (λ X_=>(v6 a.y b.y _))<|ag [] [12] []<|RD.one 13 (RDO.ev [] [.own 0,.own 0] λ _=>?_)
 refine RD.fin<|ae 1 [] λ _=>?_
 exact RN.ret [.own 0,.own 0] [] [] ⟨rfl,rfl⟩
theorem E1(a b:V2)  (F:HL):Sp Tryz.prog 209 #[.agg #[vI a.x,vI a.y],.agg #[vI b.x,vI b.y],.func (.func 263) #[] #[]] [] F (λ u H'=>u=.agg #[vI ((dz a b).x),vI ((dz a b).y)] /\ H'=[]):=by
 refine Sp.run Tryz.func209 rfl mn (A:=[]) (Ts:=[]) rfl λ w0=>?_
 refine ae 8 [] λ n1=>RN.draw [13] []<|ag [] [0,1,3,6,7,9,2,4,8,10] [.own 2,.own 1,.own 2,.own 1]<|RD.cp [] 5 (λ X_=>(v7 a.x b.x _))<|RD.cp [] 11 (λ X_=>(v7 a.y b.y _))<|ag [] [12] []<|RD.one 13 (RDO.ev [] [.own 0,.own 0] λ _=>?_)
 refine RD.fin<|ae 1 [] λ _=>?_
 exact RN.ret [.own 0,.own 0] [] [] ⟨rfl,rfl⟩
theorem E2(a b:V2)  (F:HL):Sp Tryz.prog 209 #[.agg #[vI a.x,vI a.y],.agg #[vI b.x,vI b.y],.func (.func 212) #[] #[]] [] F (λ u H'=>u=.agg #[vI ((⟨ga a.x b.x,ga a.y b.y⟩:V2).x),vI ((⟨ga a.x b.x,ga a.y b.y⟩:V2).y)] /\ H'=[]):=by
 refine Sp.run Tryz.func209 rfl mn (A:=[]) (Ts:=[]) rfl λ w0=>?_
 refine ae 8 [] λ n1=>RN.draw [13] []<|ag [] [0,1,3,6,7,9,2,4,8,10] [.own 2,.own 1,.own 2,.own 1]<|RD.cp [] 5 (λ X_=>(nK a.x b.x  _))<|RD.cp [] 11 (λ X_=>(nK a.y b.y  _))<|ag [] [12] []<|RD.one 13 (RDO.ev [] [.own 0,.own 0] λ _=>?_)
 refine RD.fin<|ae 1 [] λ _=>?_
 exact RN.ret [.own 0,.own 0] [] [] ⟨rfl,rfl⟩
theorem v8(a b:V2)(d:Int)(q:Nat)(F:HL)(hq:(q,.lit [vI d] 3 (0,0))∈F):Sp Tryz.prog 209 #[.agg #[vI a.x,vI a.y],.agg #[vI b.x,vI b.y],.func (.func 246) #[] #[vP q 0]] [] F (λ u H'=>u=.agg #[vI ((⟨az a.x b.x d,az a.y b.y d⟩:V2).x),vI ((⟨az a.x b.x d,az a.y b.y d⟩:V2).y)] /\ H'=[]):=by
 refine Sp.run Tryz.func209 rfl (mc hq mn) (A:=[]) (Ts:=[]) rfl λ w0=>?_
 refine ae 8 [] λ n1=>RN.draw [13] []<|ag [] [0,1,3,6,7,9,2,4,8,10] [.own 2,.own 1,.own 2,.own 1]<|RD.cp [] 5 (λ X_=>(pw a.x b.x d q _ (oB hq)))<|RD.cp [] 11 (λ X_=>(pw a.y b.y d q _ (oB hq)))<|ag [] [12] []<|RD.one 13 (RDO.ev [] [.own 0,.own 0] λ _=>?_)
 refine RD.fin<|ae 1 [] λ _=>?_
 exact RN.ret [.own 0,.own 0] [] [] ⟨rfl,rfl⟩
theorem pz(n:Int)(F:HL):Sp Tryz.prog 211 #[vI n] [] F (λ u H'=>u=.agg #[vI n,vI n] /\ H'=[]):=by
 refine Sp.run Tryz.func211 rfl mn (A:=[]) (Ts:=[]) rfl λ w0=>?_
 refine ae 13 [.own 0,.own 0] λ n1=>?_
 exact RN.ret [.own 0,.own 0] [] [] ⟨rfl,rfl⟩
theorem ee(a:V2)(b:V2)  (F:HL):Sp Tryz.prog 189 #[.agg #[vI a.x,vI a.y],.agg #[vI b.x,vI b.y]] [] F (λ u H'=>u=.agg #[vI ((aD a b).x),vI ((aD a b).y)] /\ H'=[]):=by
 refine Sp.run Tryz.func189 rfl mn (A:=[]) (Ts:=[]) rfl λ w0=>?_
 refine ae 11 [.own 2,.own 2,.own 1,.own 1] λ n1=>RN.cp (E0 a b _)<|ae 3 [.own 0,.own 0] λ _=>?_
 exact RN.ret [.own 0,.own 0] [] [] ⟨rfl,rfl⟩
theorem iO(a:V2)(b:V2)  (F:HL):Sp Tryz.prog 235 #[.agg #[vI a.x,vI a.y],.agg #[vI b.x,vI b.y]] [] F (λ u H'=>u=.agg #[vI ((dz a b).x),vI ((dz a b).y)] /\ H'=[]):=by
 refine Sp.run Tryz.func235 rfl mn (A:=[]) (Ts:=[]) rfl λ w0=>?_
 refine ae 11 [.own 2,.own 2,.own 1,.own 1] λ n1=>RN.cp (E1 a b _)<|ae 3 [.own 0,.own 0] λ _=>?_
 exact RN.ret [.own 0,.own 0] [] [] ⟨rfl,rfl⟩
theorem E3(a:V2)  (F:HL):Sp Tryz.prog 236 #[.agg #[vI a.x,vI a.y]] [] F (λ u H'=>u=.agg #[vI ((CC a).x),vI ((CC a).y)] /\ H'=[]):=by
 refine Sp.run Tryz.func236 rfl mn (A:=[]) (Ts:=[]) rfl λ w0=>?_
 refine ae 10 [.own 1,.own 1] λ n1=>RN.cp (iO (⟨0,0⟩:V2) a  _)<|ae 3 [.own 0,.own 0] λ _=>?_
 exact RN.ret [.own 0,.own 0] [] [] ⟨rfl,rfl⟩
theorem eX(a:V2)(f:Int)  (F:HL):Sp Tryz.prog 190 #[.agg #[vI a.x,vI a.y],vI f] [] F (λ u H'=>u=.agg #[vI ((al a f).x),vI ((al a f).y)] /\ H'=[]):=by
 refine Sp.run Tryz.func190 rfl mn (A:=[]) (Ts:=[]) rfl λ w0=>?_
 refine ae 7 [] λ n1=>RN.draw [4] []<|ag [] [0,1] [.own 1,.own 1]<|RD.cp [] 2 (λ X_=>(pz f _))<|RD.cp [] 3 (λ X_=>(E2 a (⟨f,f⟩:V2) _))<|RD.one 4 (RDO.ev [] [.own 0,.own 0] λ _=>?_)
 refine RD.fin<|ae 1 [] λ _=>?_
 exact RN.ret [.own 0,.own 0] [] [] ⟨rfl,rfl⟩
theorem lm(a:V2)(n:Int)(d:Int)  (F:HL):Sp Tryz.prog 217 #[.agg #[vI a.x,vI a.y],vI n,vI d] [] F (λ u H'=>u=.agg #[vI ((eL a n d).x),vI ((eL a n d).y)] /\ H'=[]):=by
 refine Sp.run Tryz.func217 rfl mn (A:=[]) (Ts:=[]) rfl λ w0=>?_
 refine ae 8 [] λ n1=>RN.draw [5] []<|ag [] [0,1,3] [.own 2,.own 2]<|RD.cp [] 2 (λ X_=>(pz n _))<|RD.cp [] 4 (λ X_=>(v8 a (⟨n,n⟩:V2) d (n1+1) _ (jD 1)))<|RD.one 5 (RDO.ev [] [.own 0,.own 0] λ _=>?_)
 refine RD.fin<|ae 1 [] λ _=>?_
 exact RN.ret [.own 0,.own 0] [] [] ⟨rfl,rfl⟩
theorem CD(n:Int)  (F:HL):Sp Tryz.prog 262 #[vI n] [] F (λ u H'=>u=vI (EY n) /\ H'=[]):=by
 refine Sp.run Tryz.func262 rfl mn (A:=[]) (Ts:=[]) rfl λ w0=>?_
 refine ae 12 [] λ _=>?_
 exact RN.ret [] [] [] ⟨rfl,rfl⟩
theorem nL(a:V2)(b:V2)  (F:HL):Sp Tryz.prog 234 #[.agg #[vI a.x,vI a.y],.agg #[vI b.x,vI b.y]] [] F (λ u H'=>u=vI (da a b) /\ H'=[]):=by
 refine Sp.run Tryz.func234 rfl mn (A:=[]) (Ts:=[]) rfl λ w0=>?_
 refine ae 20 [.own 1,.own 0,.own 1,.own 0] λ n1=>RN.cp (CD (i64.wrap ((i64.wrap (a.x * b.x))+(i64.wrap (a.y * b.y))))  _)<|ae 3 [] λ _=>?_
 exact RN.ret [] [] [] ⟨rfl,rfl⟩
theorem E4(a:V2)  (F:HL):Sp Tryz.prog 296 #[.agg #[vI a.x,vI a.y]] [] F (λ u H'=>u=vI (EZ a) /\ H'=[]):=by
 refine Sp.run Tryz.func296 rfl mn (A:=[]) (Ts:=[]) rfl λ w0=>?_
 refine ae 19 [.own 0,.own 0,.own 0,.own 0] λ n1=>RN.cp (CB (i64.wrap ((i64.wrap (a.x * a.x))+(i64.wrap (a.y * a.y))))  _)<|ae 3 [] λ _=>?_
 exact RN.ret [] [] [] ⟨rfl,rfl⟩
theorem CE(a:V2)  (F:HL):Sp Tryz.prog 292 #[.agg #[vI a.x,vI a.y]] [] F (λ u H'=>u=.agg #[vI ((kM a).x),vI ((kM a).y)] /\ H'=[]):=by
 refine Sp.run Tryz.func292 rfl mn (A:=[]) (Ts:=[]) rfl λ w0=>?_
 refine ae 14 [.own 1,.own 1,.sq] λ n1=>jl ((decide (a.x=0) && (decide (a.y=0) && true))) 5 (λ h2=>?_) λ h2=>?_
 ·refine ae 7 [.own 1,.own 1,.own 0,.own 0] λ _=>RN.ret [.own 0,.own 0] [] [] (v:=.agg #[vI a.x,vI a.y]) (H':=[]) ?_
  refine⟨?_,rfl⟩
  unfold kM
  first|rw[if_pos (by simpa [s9] using h2)]|rw[if_neg (by simpa [s9] using h2)]
 ·refine ae 4 [] λ _=>RN.draw [4] []<|ag [] [0,1] [.own 1,.own 1,.own 1,.own 1]<|RD.cp [] 2 (λ X_=>(E4 a  _))<|RD.cp [] 3 (λ X_=>(lm a 1024 (EZ a)  _))<|RD.one 4 (RDO.ev [] [.own 0,.own 0] λ _=>?_)
  refine RD.fin<|ae 1 [] λ _=>RN.ret [.own 0,.own 0] [] [] (v:=.agg #[vI ((eL a 1024 (EZ a)).x),vI ((eL a 1024 (EZ a)).y)]) (H':=[]) ?_
  refine⟨?_,rfl⟩
  unfold kM
  first|rw[if_pos (by simpa [s9] using h2)]|rw[if_neg (by simpa [s9] using h2)]
structure Shp where (r:Int) (poly:List V2) (A:Option Addr) (cap:Nat)
abbrev NH(s:Shp):Value:=.agg #[vI s.r,.slice s.A s.poly.length s.cap]
def jR(l:List V2):Nat -> Nat -> Value:=λ i k=>match k with|0=>vI (l.getD i ⟨0,0⟩).x|_=>vI (l.getD i ⟨0,0⟩).y
inductive ShIn(F:HL):Shp -> Prop
 | circle (r:Int) (A:Option Addr) (cap:Nat):ShIn F ⟨r,[],A,cap⟩
 | poly (r:Int) (l:List V2) (b cap:Nat) (h:(b,.rows 2 cap (jR l) 29 (0,0))∈F) (h3:3 <= l.length) (h4:l.length <= cap) (h5:l.length <= 1000000):ShIn F ⟨r,l,some ⟨b,0,none⟩,cap⟩
theorem ShIn.mono{F F':HL}{s:Shp}(h:ShIn F s)(hs:∀x∈F,x∈F'):ShIn F' s:=by
 cases h with
 | circle r A cap=>exact .circle r A cap
 | poly r l b cap h h3 h4 h5=>exact .poly r l b cap (hs _ h) h3 h4 h5
def jE(s:Shp):Prop:=s.poly=[]
instance (s:Shp):Decidable (jE s):=decidable_of_iff (s.poly.isEmpty=true) (by simp[jE])
def NZ(b:Bx)(c:V2):Bx:=⟨if c.x<b.x0 then c.x else b.x0,if c.y<b.y0 then c.y else b.y0,if c.x>b.x1 then c.x else b.x1,if c.y>b.y1 then c.y else b.y1⟩
def mu(pos:V2)(l:List V2):Nat -> Bx
 | 0=>⟨(aD pos (l.getD 0 ⟨0,0⟩)).x,(aD pos (l.getD 0 ⟨0,0⟩)).y,(aD pos (l.getD 0 ⟨0,0⟩)).x,(aD pos (l.getD 0 ⟨0,0⟩)).y⟩
 | k+1=>NZ (mu pos l k) (aD pos (l.getD (1+k) ⟨0,0⟩))
def eC(s:Shp)(pos:V2):Bx:=if jE s then ⟨aZ (pos.x-s.r),aZ (pos.y-s.r),aZ (pos.x+s.r),aZ (pos.y+s.r)⟩ else mu pos s.poly (s.poly.length-1)
def pA(a b c d:Int):Prop:=a <= d /\ c <= b
instance (a b c d:Int):Decidable (pA a b c d):=inferInstanceAs (Decidable (_ /\ _))
def NI(a b:Bx):Prop:=pA a.x0 a.x1 b.x0 b.x1 /\ pA a.y0 a.y1 b.y0 b.y1
instance (a b:Bx):Decidable (NI a b):=inferInstanceAs (Decidable (_ /\ _))
theorem oE(r:Int)(A:Option Addr)(n cap:Nat)(F:HL):Sp Tryz.prog 117 #[.agg #[vI r,.slice A n cap]] [] F (λ u H'=>u=.bool (decide ((n:Int)=0)) /\ H'=[]):=by
 refine Sp.run Tryz.func117 rfl mn (A:=[]) (Ts:=[]) rfl λ w0=>?_
 refine ae 15 [.own 0] λ n1=>?_
 exact RN.ret [] [] [] ⟨rfl,rfl⟩
theorem iP(r:Int)(A:Option Addr)(n cap:Nat)(F:HL):Sp Tryz.prog 259 #[.agg #[vI r,.slice A n cap]] [] F (λ u H'=>u=.bool (decide ((n:Int)=0)) /\ H'=[]):=by
 refine Sp.run Tryz.func259 rfl mn (A:=[]) (Ts:=[]) rfl λ w0=>?_
 refine ae 15 [.own 0] λ n1=>?_
 exact RN.ret [] [] [] ⟨rfl,rfl⟩
theorem wa(a:Int)(b:Int)(c:Int)(d:Int)  (F:HL):Sp Tryz.prog 256 #[vI a,vI b,vI c,vI d] [] F (λ u H'=>u=.bool (decide (pA a b c d)) /\ H'=[]):=by
 refine Sp.run Tryz.func256 rfl mn (A:=[]) (Ts:=[]) rfl λ w0=>?_
 refine ae 11 [] λ _=>RN.em (a <= d) 12 (λ h1=>?_) λ h1=>?_
 ·refine ae 7 [] λ _=>RN.ret [] [] [] (v:=.bool (decide (c <= b))) (H':=[]) ?_
  exact⟨by simp[pA, *],rfl⟩
 ·refine ae 7 [] λ _=>RN.ret [] [] [] (v:=.bool false) (H':=[]) ?_
  exact⟨by simp[pA, *],rfl⟩
theorem Jh(a:Bx)(b:Bx)  (F:HL):Sp Tryz.prog 230 #[.agg #[vI a.x0,vI a.y0,vI a.x1,vI a.y1],.agg #[vI b.x0,vI b.y0,vI b.x1,vI b.y1]] [] F (λ u H'=>u=.bool (decide (NI a b)) /\ H'=[]):=by
 refine Sp.run Tryz.func230 rfl mn (A:=[]) (Ts:=[]) rfl λ w0=>?_
 refine ae 17 [.own 1,.own 1,.own 0,.own 0] λ n1=>RN.cp (wa a.x0 a.x1 b.x0 b.x1  _)<|ae 1 [] λ _=>RN.em (pA a.x0 a.x1 b.x0 b.x1) 14 (λ h2=>?_) λ h2=>?_
 ·refine ae 8 [.own 1,.own 1,.own 0,.own 0] λ _=>RN.cp (wa a.y0 a.y1 b.y0 b.y1  _)<|ae 4 [] λ _=>RN.ret [] [] [] (v:=.bool (decide (pA a.y0 a.y1 b.y0 b.y1))) (H':=[]) ?_
  exact⟨by simp[NI, *],rfl⟩
 ·refine ae 13 [] λ _=>RN.ret [] [] [] (v:=.bool false) (H':=[]) ?_
  exact⟨by simp[NI, *],rfl⟩
theorem sE(r:Int)(A:Option Addr)(cap:Nat)(pos:V2)(F:HL):Sp Tryz.prog 231 #[.agg #[vI r,.slice A 0 cap],.agg #[vI pos.x,vI pos.y]] [] F (λ u H'=>u=.agg #[vI ((eC ⟨r,[],A,cap⟩ pos).x0),vI ((eC ⟨r,[],A,cap⟩ pos).y0),vI ((eC ⟨r,[],A,cap⟩ pos).x1),vI ((eC ⟨r,[],A,cap⟩ pos).y1)] /\ H'=[]):=by
 refine Sp.run Tryz.func231 rfl mn (A:=[]) (Ts:=[]) rfl λ w0=>?_
 refine ae 11 [.own 2,.own 2] λ n1=>RN.cp (oE r A 0 cap _)<|ae 29 [.own 1,.own 2,.own 1,.own 2,.own 1,.own 2,.own 1,.own 2,.own 0,.own 0,.own 0,.own 0] λ _=>?_
 exact RN.ret [.own 0,.own 0,.own 0,.own 0] [] [] ⟨rfl,rfl⟩
theorem wb(r:Int)(l:List V2)(b cap:Nat)(pos:V2)(F:HL)(hb:(b,.rows 2 cap (jR l) 29 (0,0))∈F)(h3:3 <= l.length)(h4:l.length <= cap)(h5:l.length <= 1000000):Sp Tryz.prog 231 #[.agg #[vI r,vS b 0 l.length cap],.agg #[vI pos.x,vI pos.y]] [] F (λ u H'=>u=.agg #[vI ((eC ⟨r,l,some ⟨b,0,none⟩,cap⟩ pos).x0),vI ((eC ⟨r,l,some ⟨b,0,none⟩,cap⟩ pos).y0),vI ((eC ⟨r,l,some ⟨b,0,none⟩,cap⟩ pos).x1),vI ((eC ⟨r,l,some ⟨b,0,none⟩,cap⟩ pos).y1)] /\ H'=[]):=by
 refine Sp.run Tryz.func231 rfl (mc hb mn) (A:=[]) (Ts:=[]) rfl λ w0=>?_
 refine ae 11 [.own 2,.own 2] λ n1=>RN.cp (oE r (some ⟨b,0,none⟩) l.length cap _)<|ae 2 [] λ _=>cF 11 (decide_eq_false (show ¬ ((l.length:Int)=0) by omega))<|ae 4 [] λ _=>RN.draw [7] []<|aC [] [0,1,2,3,4] [.own 1,.own 1,.own 2,.ix 0,.rorow 0 0 0,.rorow 0 0 1] [((0+0 * 2)+1)=0 * 2+1 /\ 0<cap,(0+0 * 2)=0 * 2+0 /\ 0<cap,0=((0:Nat):Int) /\ 0<l.length]<|RD.cp [] 5 (λ X_=>(ee pos (l.getD 0 ⟨0,0⟩)  _))<|RD.one 6 (RDO.ev [] [] λ n2=>?_)
 refine RD.one 7 (RDO.ev [] [.own 0,.own 0] λ _=>?_)
 refine RD.fin<|ai 27 (ow 0 8++[.own 4,.sl 1 l.length false]) [1=((1:Nat):Int) /\ l.length=l.length /\ 1 <= l.length /\ l.length <= cap /\ cap≠1] λ n3=>RN.loop (σ:=Nat) (λ k=>⟨[(3,vP (n1+1) 0),(4,vP (n1+2) 0),(6,vP (n3+0) 0),(50,vS b 2 (l.length-1) (cap-1)),(51,vI (((l.length-1):Nat):Int)),(52,vI (k:Int))],[((n3+0),.lit [vI ((mu pos l k).x0),vI ((mu pos l k).y0),vI ((mu pos l k).x1),vI ((mu pos l k).y1)] 25 (0,0)),((n2+0),.lit [vI ((aD pos (l.getD 0 ⟨0,0⟩)).x),vI ((aD pos (l.getD 0 ⟨0,0⟩)).y)] 29 (0,0)),((n1+2),.lit [vI 0,vI 0,vI 0,vI 0] 25 (0,0)),((n1+1),.lit [vI pos.x,vI pos.y] 29 (0,0)),((n1+0),.lit [vI r,vS b 0 l.length cap] 73 (0,0))],[],k <= l.length-1,l.length-k⟩) 0 [0,1,2,3,4] [] (Nat.zero_le _) ?_
 rintro k hI4 SC
 refine ae 6 [] λ _=>RN.em ((k:Int)<(((l.length-1):Nat):Int)) 53 (λ h6=>?_) λ h6=>?_
 ·refine ai 17 [.ix k,.rorow 0 (1+k) 0,.rorow 0 (1+k) 1,.own 0,.own 0,.own 4,.own 4,.own 0,.own 0] [((2+k * 2)+1)=(1+k) * 2+1 /\ (1+k)<cap,(2+k * 2)=(1+k) * 2+0 /\ (1+k)<cap,(k:Int)=((k:Nat):Int) /\ k<(l.length-1)] λ n7=>RN.cp (ee pos (l.getD (1+k) ⟨0,0⟩)  _)<|ae 5 [.own 0,.own 0] λ n8=>RN.draw [11,13] [0,1,3,4,5,6]<|ag [0,1,3,4,5,6] [0,2,5,7,1,3,6,8,4,9,10] [.own 2,.own 0,.own 2,.ro 0]<|RD.one 11 (RDO.ev [0,1,3,4,5,6] [.own 2] λ _=>?_)
  refine ag [0,1,3,4,5,6] [12] []<|RD.one 13 (RDO.ev [0,1,3,4,5,6] [.own 2] λ _=>?_)
  refine RD.fin<|ae 1 [] λ _=>RN.draw [11,13] [0,1,3,4,5,6]<|ag [0,1,3,4,5,6] [0,2,5,7,1,3,6,8,4,9,10] [.own 2,.own 0,.own 2,.ro 0]<|RD.one 11 (RDO.ev [0,1,3,4,5,6] [.own 2] λ _=>?_)
  refine ag [0,1,3,4,5,6] [12] []<|RD.one 13 (RDO.ev [0,1,3,4,5,6] [.own 2] λ _=>?_)
  refine RD.fin<|ai 6 [.nw] [aS ((k:Int)+1)] λ _=>?_
  refine SC (k+1) [2,3,4,5,6] [] ?_
  try dsimp only
  refine⟨by omega,by omega⟩
 ·refine ae 12 [.own 0,.own 0,.own 0,.own 0,.own 2,.own 2,.own 2,.own 2] λ _=>RN.ret [.own 2,.own 2,.own 2,.own 2] [] [] (v:=.agg #[vI ((mu pos l k).x0),vI ((mu pos l k).y0),vI ((mu pos l k).x1),vI ((mu pos l k).y1)]) (H':=[]) ?_
  have ek:k=l.length-1:=by omega
  subst ek
  refine⟨?_,rfl⟩
  unfold eC
  rw[if_neg (by intro e;simp[jE] at e;rw[e] at h3;simp at h3)]
theorem qH(s:Shp)(pos:V2)(F:HL)(h:ShIn F s):Sp Tryz.prog 231 #[NH s,.agg #[vI pos.x,vI pos.y]] [] F (λ u H'=>u=.agg #[vI (eC s pos).x0,vI (eC s pos).y0,vI (eC s pos).x1,vI (eC s pos).y1] /\ H'=[]):=by
 cases h with
 | circle r A cap=>exact sE r A cap pos F
 | poly r l b cap h h3 h4 h5=>exact wb r l b cap pos F h h3 h4 h5
section
variable {r:Option Nat} {P:Program} {N:Nat} {D:List Deferred} {F:HL} {w0:World} {R:HL} {s:Cfg} {Q:Exit -> Act -> World -> Prop} {hards:List Nat} {Rd:HL}
def N0(i:Nat)(b:Blk)(s:Cfg):Cfg:=match s with
 | ⟨c,k,L,A,Ts⟩=>⟨c,k,L,match A[i]? with|some x=>br A i (x.1,b)|none=>A,Ts⟩
theorem oG{A:HL}{i:Nat}{x:Nat × Blk}{b:Blk}(h:A[i]?=some x)(e:x.2.den=b.den):dR A=dR (br A i (x.1,b)):=by
 rw[iG]
 unfold dR
 rw[List.map_set]
 have h1:(A.map λ x=>(x.1,x.2.den))[i]?=some (x.1,b.den):=by rw[List.getElem?_map,h];simp[e]
 have iF:i<(A.map λ x=>(x.1,x.2.den)).length:=(List.getElem?_eq_some_iff.1 h1).1
 have h2:(x.1,b.den)=(A.map λ x=>(x.1,x.2.den))[i]:=((List.getElem?_eq_some_iff.1 h1).2).symm
 show _=(A.map λ x=>(x.1,x.2.den)).set i (x.1,b.den)
 rw[h2,List.set_getElem_self]
def N1(i:Nat)(s:Cfg):Option Obj:=(s.A[i]?).map (·.2.den)
theorem RN.dn(i:Nat)(b:Blk)(hk:RN r P N D F w0 R (N0 i b s) Q)(h:N1 i s=some b.den:=by kernel_rfl):RN r P N D F w0 R s Q:=by
 refine⟨λ hR a w h1 h2 h3=>hk.h hR a w h1 ?_ h3⟩
 obtain⟨c,k,L,A,Ts⟩:=s
 unfold N1 at h
 simp only[Option.map_eq_some_iff] at h
 obtain⟨x,hx,e⟩:=h
 unfold N0
 simp only[hx]
 exact h2.denA (oG hx e)
theorem RD.dn(i:Nat)(b:Blk)(hk:RD r P N D F w0 R hards Rd (N0 i b s) Q)(h:N1 i s=some b.den:=by kernel_rfl):RD r P N D F w0 R hards Rd s Q:=by
 refine⟨λ hR hs=>?_⟩
 obtain⟨c,k,L,A,Ts⟩:=s
 unfold N1 at h
 simp only[Option.map_eq_some_iff] at h
 obtain⟨x,hx,e⟩:=h
 have h1:=hk.h hR hs
 unfold N0 at h1
 simp only[hx] at h1
 exact TD.den _ (oG hx e) h1
def ptC(jp:List Nat)(s:Cfg):Cfg:=match s with
 | ⟨c,k,L,A,Ts⟩=>⟨c,k,L,A,jp.filterMap (Ts[·]?)⟩
theorem kO(jp:List Nat)(hk:RN r P N D F w0 R (ptC jp s) Q)(h:jp.isPerm (List.range s.Ts.length)=true:=by kernel_rfl):RN r P N D F w0 R s Q :=
 ⟨λ hR a w h1 h2 h3=>hk.h hR a w h1 (h2.perm ((EP jp h rfl).append_right F)) h3⟩
def otC(j:Nat)(x:Nat × Blk)(s:Cfg):Cfg:=match s with
 | ⟨c,k,L,A,Ts⟩=>⟨c,k,L,x::A,(oth [j] Ts.length).filterMap (Ts[·]?)⟩
theorem pB(j:Nat){x:Nat × Blk}(hk:RN r P N D F w0 R (otC j x s) Q)(h:(s.Ts[j]?,([j]++oth [j] s.Ts.length).isPerm (List.range s.Ts.length))=(some [x],true):=by kernel_rfl):RN r P N D F w0 R s Q:=by
 simp only[Prod.mk.injEq] at h
 exact⟨λ hR a w h1 h2 h3=>hk.h hR a w h1 (h2.perm ((yT _ j h.2 h.1 rfl).append_right F)) h3⟩
def jtC(s:Cfg):Cfg:=match s with
 | ⟨c,k,L,A,T1::T2::Ts⟩=>⟨c,k,L,A,(T1++T2)::Ts⟩
 | s=>s
theorem mv(hk:RN r P N D F w0 R (jtC s) Q):RN r P N D F w0 R s Q:=by
 refine⟨λ hR a w h1 h2 h3=>?_⟩
 have h4:=hk.h hR a w
 unfold jtC at h4
 split at h4
 ·exact h4 h1 (by simpa [ap] using h2) h3
 ·exact h4 h1 h2 h3
def ntC(s:Cfg):Cfg:=match s with
 | ⟨c,k,L,A,Ts⟩=>⟨c,k,L,A,[]::Ts⟩
theorem RN.nt(hk:RN r P N D F w0 R (ntC s) Q):RN r P N D F w0 R s Q:=⟨λ hR a w h1 h2 h3=>hk.h hR a w h1 h2 h3⟩
def svC(t:Nat)(v:Value)(s:Cfg):Cfg:=match s with
 | ⟨c,k,L,A,Ts⟩=>⟨c,k,(t,v)::L,A,Ts⟩
theorem aB(t:Nat){u v:Value}(e:u=v)(hk:RN r P N D F w0 R (svC t v s) Q)(h:s.L.lookup t=some u:=by kernel_rfl):RN r P N D F w0 R s Q:=by
 subst e
 exact⟨λ hR a w h1 h2 h3=>hk.h hR a w (h1.fix h) h2 h3⟩
def N3(i:Nat)(b:Blk)(s:Cfg):Cfg:=match s with
 | ⟨c,k,L,A,Ts⟩=>⟨c,k,L,match A[i]? with|some x=>br A i (x.1,b)|none=>A,Ts⟩
theorem cr(i:Nat){b b':Blk}(e:b=b')(hk:RN r P N D F w0 R (N3 i b' s) Q)(h:(s.A[i]?).map (·.2)=some b:=by kernel_rfl):RN r P N D F w0 R s Q:=by
 subst e
 refine⟨λ hR a w h1 h2 h3=>hk.h hR a w h1 ?_ h3⟩
 obtain⟨c,k,L,A,Ts⟩:=s
 simp only[Option.map_eq_some_iff] at h
 obtain⟨x,hx,e⟩:=h
 unfold N3
 simp only[hx]
 refine h2.denA (oG hx (by rw[e]))
variable {α:Type} {e:Enc α} {T:TypeId} {inf:TypeInfo} {z:Value}
def Ji(P:Program)(o:Oper)(L:FL):Option (Option Addr × Nat × Nat × TypeId × Option Addr × Nat × Nat × TypeId):=match o.guard,o.op with
 | none,.call c=>match c.callee,c.args.toList,c.argTypes.toList with
  | .builtin .append,[a1,a2],[t,tx]=>match kJ L a1 && kJ L a2,ie L a1,ie L a2 with
   | true,.slice A n cap,.slice B m c'=>match P.underlying t,P.underlying tx with
    | some (.slice T),some (.slice _)=>some (A,n,cap,T,B,m,c',tx)
    | _,_=>none
   | _,_,_=>none
  | _,_,_=>none
 | _,_=>none
theorem ta{o:Oper}{L:FL}{A:Option Addr}{n cap:Nat}{B:Option Addr}{m c':Nat}{tx:TypeId}(h:Ji P o L=some (A,n,cap,T,B,m,c',tx)) :
  ∃a1 a2 t e',o.guard=none /\ o.op=.call { callee:=.builtin .append,args:=#[a1,a2],argTypes:=#[t,tx] } /\ (kJ L a1 && kJ L a2)=true /\ ie L a1=.slice A n cap /\ ie L a2=.slice B m c' /\ P.underlying t=some (.slice T) /\ P.underlying tx=some (.slice e'):=by
 unfold Ji at h
 split at h
 case h_2=>cases h
 rename_i c hg IS
 split at h
 case h_2=>cases h
 rename_i a1 a2 t Zd h1 h2 h3
 split at h
 case h_2=>cases h
 rename_i A' n' bY B' m' c2 h4 h5 h6
 split at h
 case h_2=>cases h
 rename_i T' e' h7 h8
 simp only[Option.some.injEq,Prod.mk.injEq] at h
 obtain⟨e1,e2,e3,e4,e5,e6,e7,e8⟩:=h
 subst e1;subst e2;subst e3;subst e4;subst e5;subst e6;subst e7;subst e8
 refine⟨a1,a2,t,e',hg,?_,h4,h5,h6,h7,h8⟩
 obtain⟨cal,args,Zu⟩:=c
 simp only at h1 h2 h3
 subst h1
 have:args=#[a1,a2]:=by cases args;simp_all
 subst this
 have:Zu=#[t,Zd]:=by cases Zu;simp_all
 subst this
 exact IS
def pS(s:Cfg):Option Oper:=match s.c with
 | .ops ops i=>ops.toList[i]?
 | _=>none
def AX(i:Nat)(s:Cfg):Option Oper:=match s.c with
 | .drw ops _=>ops.toList[i]?
 | _=>none
def L0(p:Nat)(s:Cfg):Option (Nat × List Value):=match s.A[p]? with
 | some (b,.lit cs _ _)=>some (b,cs)
 | _=>none
def Jj(P:Program)(N j p:Nat)(oo:Option Oper)(s:Cfg):Option (Option Addr × Nat × Nat × TypeId × Nat × List Value × HL × Nat):=match oo with
 | some o=>match Ji P o s.L,L0 p s,s.Ts[j]?,([j]++oth [j] s.Ts.length).isPerm (List.range s.Ts.length) && (fh N o.dst undef s.L).isSome with
  | some (A,n,cap,T,some ⟨b,0,none⟩,m,_,_),some (_,cs),some Hl,true=>some (A,n,cap,T,m,cs,Hl,b)
  | _,_,_,_=>none
 | none=>none
def Jk(p:Nat)(s:Cfg):Nat:=match L0 p s with
 | some (b,_)=>b
 | none=>0
theorem tc{j p:Nat}{oo:Option Oper}{A:Option Addr}{n cap m:Nat}{cs:List Value}{Hl:HL}(h:Jj P N j p oo s=some (A,n,cap,T,m,cs,Hl,Jk p s)) :
  ∃o a1 a2 t tx e' c' b ty fz,oo=some o /\ o.guard=none /\ o.op=.call { callee:=.builtin .append,args:=#[a1,a2],argTypes:=#[t,tx] } /\ (kJ s.L a1 && kJ s.L a2)=true /\ ie s.L a1=.slice A n cap /\ ie s.L a2=.slice (some ⟨b,0,none⟩) m c' /\ P.underlying t=some (.slice T) /\ P.underlying tx=some (.slice e') /\
   s.A[p]?=some (b,.lit cs ty fz) /\ s.Ts[j]?=some Hl /\ ([j]++oth [j] s.Ts.length).isPerm (List.range s.Ts.length)=true /\ (fh N o.dst undef s.L).isSome=true:=by
 unfold Jj at h
 split at h
 case h_2=>cases h
 rename_i o
 split at h
 case h_2=>cases h
 rename_i A' n' bY T' b m' c' tx b' cs' D_ h1 h2 h3 h4
 simp only[Option.some.injEq,Prod.mk.injEq] at h
 obtain⟨e1,e2,e3,e4,e5,e6,e7,e8⟩:=h
 subst e1;subst e2;subst e3;subst e4;subst e5;subst e6;subst e7
 obtain⟨a1,a2,t,e',q1,q2,q3,q4,q5,q6,q7⟩:=ta h1
 rw[Bool.and_eq_true] at h4
 unfold Jk at e8
 rw[h2] at e8
 simp only at e8
 subst e8
 unfold L0 at h2
 split at h2
 case h_2=>cases h2
 rename_i b2 cs2 ty fz h5
 simp only[Option.some.injEq,Prod.mk.injEq] at h2
 obtain⟨e1,e2⟩:=h2
 subst e1;subst e2
 exact⟨o,a1,a2,t,tx,e',c',_,ty,fz,rfl,q1,q2,q3,q4,q5,q6,q7,h5,h3,h4.1,h4.2⟩
def NJ(j:Nat)(Hl:HL)(s:Cfg):Cfg:=match s with
 | ⟨c,k,L,A,Ts⟩=>⟨c,k,L,A,Hl::(oth [j] Ts.length).filterMap (Ts[·]?)⟩
theorem iz{A:HL}{Ts:List HL}{Hl:HL}{j:Nat}(hj:Ts[j]?=some Hl)(hp:([j]++oth [j] Ts.length).isPerm (List.range Ts.length)=true):(Hl++(A++((oth [j] Ts.length).filterMap (Ts[·]?)).flatten)).Perm (ap A Ts):=by
 have h3:=fH Ts [j] _ hp
 simp only[List.filterMap_cons,hj,List.filterMap_nil] at h3
 have h4:=h3.flatten
 simp only[List.cons_append,List.nil_append,List.flatten_cons] at h4
 refine List.Perm.trans ?_ (List.Perm.append_left A h4)
 rw[<- List.append_assoc,<- List.append_assoc]
 exact List.Perm.append_right _ List.perm_append_comm
theorem fR(ok:EncOk e P T inf z)(l src:List α)(j p:Nat){A:Option Addr}{n cap:Nat}{Hl:HL}(hn:n=l.length)(Ug:SlIs e T l A cap Hl)(hb:l.length+src.length <= 100000000)
  (hk:∀ (A':Option Addr) (bY:Nat) (D_:HL),(SlIs e T (l++src) A' bY D_ /\ (cq A -> cq A')) -> RN r P N D F w0 R (NJ j D_ (fD N (.slice A' (n+src.length) bY) s)) Q)
  (h:Jj P N j p (pS s) s=some (A,n,cap,T,src.length,ay e src,Hl,Jk p s):=by kernel_rfl):RN r P N D F w0 R s Q:=by
 obtain⟨o,a1,a2,t,tx,e',c',b,ty,fz,q0,q1,q2,q3,q4,q5,q6,q7,q8,q9,RZ,Ua⟩:=tc h
 refine⟨λ hR a w hF aT hB=>?_⟩
 obtain⟨c,k,L,B,Ts⟩:=s
 unfold pS at q0
 cases c with
 | code c=>cases q0
 | ex c=>cases q0
 | drw _ _=>cases q0
 | ops ops i =>
  simp only at q0 q3 q4 q5 q8 q9 RZ Ua hF aT
  have IT:ops.toList.drop i=o::ops.toList.drop (i+1):=by
   have iF:i<ops.toList.length:=(List.getElem?_eq_some_iff.1 q0).1
   rw[List.drop_eq_getElem_cons iF,(List.getElem?_eq_some_iff.1 q0).2]
  show wpListIn _ _ _ _ _ _ _ _
  rw[IT,wpListIn,if_pos (by simp[Region.wanted,q1])]
  refine⟨λ _ _=>trivial,?_⟩
  have rW:=iz (A:=B) q9 RZ
  refine gh (by rw[q2];intro c hc;cases hc) (lP (x:=vS b 0 src.length c') (src:=src) (G:=B++((oth [j] Ts.length).filterMap (Ts[·]?)).flatten) ok q2 q6 q3 q4 hn q5 rW Ug (λ w hw=>AQ ok q7 p (by rw[List.getElem?_append_left (List.getElem?_eq_some_iff.1 q8).1];exact q8) hw) hb a hF w aT) ?_
  rintro u w' ⟨⟨A',bY,D_⟩,⟨rfl,U5⟩,QK,S_⟩
  obtain⟨L',p1⟩:=eI Ua (.slice A' (n+src.length) bY)
  have hh:=(hk A' bY D_ U5).h hR
  have RJ:fD N (.slice A' (n+src.length) bY) ⟨.ops ops i,k,L,B,Ts⟩=⟨.ops ops (i+1),k,L',B,Ts⟩:=by
   unfold fD
   simp only[q0,p1]
  rw[RJ] at hh
  refine hh _ w' (hF.put p1) (QK.perm (List.Perm.append_right F ?_)) (hB.trans S_)
  show (B++(D_::(oth [j] Ts.length).filterMap (Ts[·]?)).flatten).Perm _
  rw[List.flatten_cons,<- List.append_assoc,<- List.append_assoc]
  exact List.Perm.append_right _ List.perm_append_comm
theorem lQ{i:Nat}(ix:List Nat)(ok:EncOk e P T inf z)(l src:List α)(j p:Nat){A:Option Addr}{n cap:Nat}{Hl:HL}(hn:n=l.length)(Ug:SlIs e T l A cap Hl)(hb:l.length+src.length <= 100000000)
  (hk:∀ (A':Option Addr) (bY:Nat) (D_:HL),(SlIs e T (l++src) A' bY D_ /\ (cq A -> cq A')) -> RD r P N D F w0 R hards Rd (NJ j D_ (ED N i (.slice A' (n+src.length) bY) s)) Q)
  (h:Jj P N j p (AX i s) s=some (A,n,cap,T,src.length,ay e src,Hl,Jk p s):=by kernel_rfl) (hx:(hards.contains i,yX ix s)=(true,Rd):=by kernel_rfl):RDO r P N D F w0 R hards Rd i s Q:=by
 obtain⟨o,a1,a2,t,tx,e',c',b,ty,fz,q0,q1,q2,q3,q4,q5,q6,q7,q8,q9,RZ,Ua⟩:=tc h
 obtain⟨c,k,L,B,Ts⟩:=s
 unfold AX at q0
 simp only[Prod.mk.injEq] at hx
 cases c with
 | code c=>cases q0
 | ex c=>cases q0
 | ops _ _=>cases q0
 | drw ops li =>
  refine⟨λ hR=>?_⟩
  simp only at q0 q3 q4 q5 q8 q9 RZ Ua
  have rW:=iz (A:=B) q9 RZ
  have RJ:∀v L',fh N o.dst v L=some L' -> ED N i v ⟨.drw ops li,k,L,B,Ts⟩=⟨.drw ops (br li i true),k,L',B,Ts⟩:=by
   intro v L' hl
   unfold ED
   simp only[q0,hl]
  refine(qG (Q:=Q) (by simpa using q0) (σ:=Option Addr × Nat × HL) (λ u y=>u=.slice y.1 (n+src.length) y.2.1 /\ (SlIs e T (l++src) y.1 y.2.1 y.2.2 /\ (cq A -> cq y.1))) (λ y=>ap B (y.2.2::(oth [j] Ts.length).filterMap (Ts[·]?))) Ua (λ a hF=>⟨by simp[Region.wanted,q1],λ w aT hB=>?_⟩) (λ y=>⟨λ hi=>?_,λ hi x hm=>List.mem_append_left _ (sY ix hx.2 x hm)⟩) ?_:RDO r P N D F w0 R hards Rd i ⟨.drw ops li,k,L,B,Ts⟩ Q).h hR
  ·refine eV (lP (x:=vS b 0 src.length c') (src:=src) (G:=B++((oth [j] Ts.length).filterMap (Ts[·]?)).flatten) ok q2 q6 q3 q4 hn q5 rW Ug (λ w hw=>AQ ok q7 p (by rw[List.getElem?_append_left (List.getElem?_eq_some_iff.1 q8).1];exact q8) hw) hb a hF w aT) ?_
   rintro u w' ⟨y,h3,QK,S_⟩
   refine⟨y,h3,QK.perm (List.Perm.append_right F ?_),S_⟩
   show (B++(y.2.2::(oth [j] Ts.length).filterMap (Ts[·]?)).flatten).Perm _
   rw[List.flatten_cons,<- List.append_assoc,<- List.append_assoc]
   exact List.Perm.append_right _ List.perm_append_comm
  ·exact absurd (List.contains_iff_mem.1 hx.1) hi
  ·rintro u ⟨A',bY,D_⟩ ⟨rfl,h3⟩ L' hl hs
   have h1:=(hk A' bY D_ h3).h hR
   rw[RJ _ L' hl] at h1
   exact h1 hs
end
structure MemS where
 cs:List Int
 lg:List (Int × Int)
 base:Int
def MemS.get(M:MemS)(i:Int):Int:=if 0 <= i /\ i<M.cs.length then M.cs.getD i.toNat 0 else 0
def MemS.set(M:MemS)(i v:Int):MemS:=if 0 <= i /\ i<M.cs.length then ⟨M.cs.set i.toNat v,M.lg++[(i,M.cs.getD i.toNat 0)],M.base⟩ else M
def aJ(cs:List Int):Nat -> Nat -> Value:=λ i k=>match k with|0=>vI (cs.getD i 0)|_=>default
theorem gC{cs:List Int}{i:Nat}(h:i<cs.length)(v:Int):dh (aJ cs) i 0 (vI v)=aJ (cs.set i v):=by
 funext i' k'
 unfold dh aJ
 by_cases h1:i'=i
 ·subst h1
  rcases k' with _|k'
  ·simp[h]
  ·simp
 ·rcases k' with _|k'
  ·have:¬ i=i':=λ e=>h1 e.symm
   simp[h1,List.getElem?_set,this]
  ·simp
def kq:Enc (Int × Int):=⟨2,λ p k=>match k with|0=>vI p.1|_=>vI p.2,(0,0)⟩
noncomputable def Lh:TypeInfo:=match Tryz.prog.info? 192 with|some i=>i|none=>⟨.bool,"",0,0,false,0,0,none,false,#[]⟩
noncomputable def Li:Value:=match Lh.zero with|some z=>z|none=>.bool false
theorem yY:EncOk kq Tryz.prog 192 Lh Li where
 info:=by kernel_rfl
 zero:=by kernel_rfl
 size:=by kernel_rfl
 zsize:=by kernel_rfl
 zcell:=λ k hk=>by
  have h:∀k<2,Li.cells[k]?=some (kq.cell kq.dflt k):=by intro k hk;(iterate 2 (rcases k with _|k;· kernel_rfl));omega
  exact h k hk
 one:=λ x k=>by unfold kq;dsimp only;split <;> rfl
 bytes:=Nat.le_of_ble_eq_true (by kernel_rfl)
inductive MemH(mb:Nat)(M:MemS)(k:Nat):HL -> Prop
 | mk (cb:Nat) (A:Option Addr) (cap:Nat) (Hl:HL) (hs:SlIs kq 192 M.lg A cap Hl) (hc:M.cs.length <= 1000000) (hl:M.lg.length+k <= 100000000):MemH mb M k (ap [(mb,.lit [vS cb 0 M.cs.length M.cs.length,.slice A M.lg.length cap,vI M.base] 186 (0,0)),(cb,.rows 1 M.cs.length (aJ M.cs) 3 (0,0))] [Hl])
theorem MemH.weak{mb:Nat}{M:MemS}{k k':Nat}{T:HL}(h:MemH mb M k T)(hk:k' <= k):MemH mb M k' T:=by
 cases h with
 | mk cb A cap Hl hs hc hl=>exact .mk cb A cap Hl hs hc (by omega)
theorem MemH.cast{mb:Nat}{M M':MemS}{k k':Nat}{T:HL}(h:MemH mb M k T)(e:M'=M)(hk:k' <= k):MemH mb M' k' T:=e ▸ h.weak hk
theorem MemH.put{mb:Nat}{M:MemS}{k:Nat}{i v:Int}{cb:Nat}{A:Option Addr}{cap:Nat}{Hl:HL}(h:0 <= i /\ i<M.cs.length)(hc:M.cs.length <= 1000000)(hl:M.lg.length+(k+1) <= 100000000)(hs:SlIs kq 192 (M.lg++[(i,M.cs.getD i.toNat 0)]) A cap Hl) :
  MemH mb (M.set i v) k (ap [(mb,.lit [vS cb 0 M.cs.length M.cs.length,.slice A (M.lg.length+[(i,M.cs.getD i.toNat 0)].length) cap,vI M.base] 186 (0,0)),(cb,.rows 1 M.cs.length (dh (aJ M.cs) i.toNat 0 (vI v)) 3 (0,0))] [Hl]):=by
 have e:M.set i v=⟨M.cs.set i.toNat v,M.lg++[(i,M.cs.getD i.toNat 0)],M.base⟩:=by unfold MemS.set;rw[if_pos h]
 rw[e,gC (by omega)]
 have:=MemH.mk (M:=⟨M.cs.set i.toNat v,M.lg++[(i,M.cs.getD i.toNat 0)],M.base⟩) (k:=k) cb A cap Hl hs (by simpa using hc) (by simp;omega) (mb:=mb)
 simpa using this
theorem AY(mb cb n:Nat)(A:Option Addr)(m cap:Nat)(base i:Int)(F:HL)(hm:(mb,.lit [vS cb 0 n n,.slice A m cap,vI base] 186 (0,0))∈F):Sp Tryz.prog 100 #[vP mb 0,vI i] [] F (λ u H'=>u=.bool (decide (0 <= i /\ i<n)) /\ H'=[]):=by
 refine Sp.run Tryz.func100 rfl (mc hm mn) (A:=[]) (Ts:=[]) rfl λ w0=>?_
 refine ae 10 [] λ _=>RN.em (0 <= i) 7 (λ h1=>?_) λ h1=>?_
 ·refine ae 11 [.ro 0] λ _=>RN.ret [] [] [] (v:=.bool (decide (i<(n:Int)))) (H':=[]) ?_
  exact⟨by simp[*],rfl⟩
 ·refine ae 11 [] λ _=>RN.ret [] [] [] (v:=.bool false) (H':=[]) ?_
  exact⟨by simp[*],rfl⟩
theorem Jl(mb cb:Nat)(cs:List Int)(A:Option Addr)(m cap:Nat)(base i:Int)(lg:List (Int × Int))(F:HL)(hm:(mb,.lit [vS cb 0 cs.length cs.length,.slice A m cap,vI base] 186 (0,0))∈F)(hc:(cb,.rows 1 cs.length (aJ cs) 3 (0,0))∈F)(hn:cs.length <= 1000000):Sp Tryz.prog 67 #[vP mb 0,vI i] [] F (λ u H'=>u=vI (MemS.get ⟨cs,lg,base⟩ i) /\ H'=[]):=by
 refine Sp.run Tryz.func67 rfl (mc hm (mc hc mn)) (A:=[]) (Ts:=[]) rfl λ w0=>?_
 refine ae 10 [] λ _=>RN.cp (AY mb cb cs.length A m cap base i _ (ar hm))<|ae 3 [] λ _=>RN.en (0 <= i /\ i<cs.length) 8 (λ h1=>?_) λ h1=>?_
 ·refine ai 15 [.ro 0,.ix ((i).toNat),.rorow 1 ((i).toNat) 0] [(0+((i).toNat) * 1)=((i).toNat) * 1+0 /\ ((i).toNat)<cs.length,i=(((i).toNat:Nat):Int) /\ (i).toNat<cs.length] λ _=>RN.ret [] [] [] (v:=vI (cs.getD ((i).toNat) 0)) (H':=[]) ?_
  exact⟨by simp[MemS.get, *],rfl⟩
 ·refine ae 6 [] λ _=>RN.ret [] [] [] (v:=vI 0) (H':=[]) ?_
  exact⟨by simp[MemS.get, *],rfl⟩
theorem aw{mb:Nat}{M:MemS}{k:Nat}{T:HL}(i:Int){F:HL}(h:MemH mb M k T)(hs:∀x∈T,x∈F):Sp Tryz.prog 67 #[vP mb 0,vI i] [] F (λ u H'=>u=vI (M.get i) /\ H'=[]):=by
 cases h with
 | mk cb A cap Hl Ug hc hl=>exact Jl mb cb M.cs A M.lg.length cap M.base i M.lg F (hs _ (by simp)) (hs _ (by simp)) hc
theorem jm{mb:Nat}{M:MemS}{k:Nat}{T:HL}(i:Int){c:Int}(e:M.get i=c){F:HL}(h:MemH mb M k T)(hs:∀x∈T,x∈F):Sp Tryz.prog 67 #[vP mb 0,vI i] [] F (λ u H'=>u=vI c /\ H'=[]):=e ▸ aw i h hs
theorem Jm(mb cb:Nat)(M:MemS)(k:Nat)(A:Option Addr)(cap:Nat)(i v:Int)(Hl:HL)(F:HL)(hs:SlIs kq 192 M.lg A cap Hl)(hc:M.cs.length <= 1000000)(hl:M.lg.length+(k+1) <= 100000000):Sp Tryz.prog 68 #[vP mb 0,vI i,vI v] (ap [(mb,.lit [vS cb 0 M.cs.length M.cs.length,.slice A M.lg.length cap,vI M.base] 186 (0,0)),(cb,.rows 1 M.cs.length (aJ M.cs) 3 (0,0))] [Hl]) F (λ u H'=>MemH mb (M.set i v) k H'):=by
 refine Sp.run Tryz.func68 rfl mn (A:=[(mb,.lit [vS cb 0 M.cs.length M.cs.length,.slice A M.lg.length cap,vI M.base] 186 (0,0)),(cb,.rows 1 M.cs.length (aJ M.cs) 3 (0,0))]) (Ts:=[Hl]) rfl λ w0=>?_
 refine ae 5 [] λ _=>RN.cp (AY mb cb M.cs.length A M.lg.length cap M.base i _ (av 0))<|ae 3 [] λ _=>RN.en (0 <= i /\ i<M.cs.length) 9 (λ h1=>?_) λ h1=>?_
 ·refine ae 4 [] λ _=>RN.draw [15,18] []<|aC [] [0,1,5,6,10,2,7,3,8,4,9,11,12,13] [.own 0,.own 0,.ix ((i).toNat),.row 1 ((i).toNat) 0] [(0+((i).toNat) * 1)=((i).toNat) * 1+0 /\ ((i).toNat)<M.cs.length,i=(((i).toNat:Nat):Int) /\ (i).toNat<M.cs.length]<|RD.one 14 (RDO.ev [] [] λ n3=>?_)
  refine RD.one 15 (lQ [] yY M.lg [(i,M.cs.getD i.toNat 0)] 0 0 rfl hs (by simp;omega) ?_)
  rintro A4 c5 T6 ⟨Z0,hz8⟩
  refine ag [] [16,17] []<|RD.one 18 (RDO.ev [] [.own 1] λ _=>?_)
  refine RD.fin<|ai 11 [.own 1,.ix ((i).toNat),.row 2 ((i).toNat) 0] [(0+((i).toNat) * 1)=((i).toNat) * 1+0 /\ ((i).toNat)<M.cs.length,i=(((i).toNat:Nat):Int) /\ (i).toNat<M.cs.length] λ _=>RN.ret [] [1,2] [0] (v:=.tuple #[]) (H':=(ap [(mb,.lit [vS cb 0 M.cs.length M.cs.length,.slice A4 (M.lg.length+([(i,M.cs.getD i.toNat 0)]).length) c5,vI M.base] 186 (0,0)),(cb,.rows 1 M.cs.length (dh (aJ M.cs) ((i).toNat) 0 (vI v)) 3 (0,0))] [T6])) ?_
  exact MemH.put (by omega) hc (by omega) Z0
 ·refine ae 1 [] λ _=>RN.ret [] [0,1] [0] (v:=.tuple #[]) (H':=(ap [(mb,.lit [vS cb 0 M.cs.length M.cs.length,.slice A M.lg.length cap,vI M.base] 186 (0,0)),(cb,.rows 1 M.cs.length (aJ M.cs) 3 (0,0))] [Hl])) ?_
  have e:M.set i v=M:=by unfold MemS.set;rw[if_neg (by assumption)]
  rw[e]
  exact .mk cb A cap Hl hs hc (by omega)
theorem aj{mb:Nat}{M:MemS}{k:Nat}{T:HL}(i v:Int){F:HL}(h:MemH mb M (k+1) T):Sp Tryz.prog 68 #[vP mb 0,vI i,vI v] (ap [] [T]) F (λ u H'=>∃x,H'=ap ((λ _=>[]) x) ((λ x=>[x]) x) /\ MemH mb (M.set i v) k x):=by
 cases h with
 | mk cb A cap Hl Ug hc hl =>
  have e:∀T:HL,ap [] [T]=T:=λ T=>by simp
  have:=Jm mb cb M k A cap i v Hl F Ug hc hl
  rw[e]
  exact this.mono λ u H' h=>⟨H',(e H').symm,h⟩
structure Bod where (sh:Shp) (mot:Mot) (a b:Int)
abbrev dB:Bod:=⟨⟨0,[],none,0⟩,⟨0,0,0,0,0⟩,0,0⟩
def kX:Enc Bod:=⟨9,λ p k=>match k with|0=>vI p.sh.r|1=>.slice p.sh.A p.sh.poly.length p.sh.cap|2=>vI p.mot.px|3=>vI p.mot.py|4=>vI p.mot.vx|5=>vI p.mot.vy|6=>vI p.mot.inv|7=>vI p.a|_=>vI p.b,dB⟩
noncomputable def Lj:TypeInfo:=match Tryz.prog.info? 78 with|some i=>i|none=>⟨.bool,"",0,0,false,0,0,none,false,#[]⟩
noncomputable def Lk:Value:=match Lj.zero with|some z=>z|none=>.bool false
theorem uG:EncOk kX Tryz.prog 78 Lj Lk where
 info:=by kernel_rfl
 zero:=by kernel_rfl
 size:=by kernel_rfl
 zsize:=by kernel_rfl
 zcell:=λ k hk=>by
  have h:∀k<9,Lk.cells[k]?=some (kX.cell kX.dflt k):=by intro k hk;(iterate 9 (rcases k with _|k;· kernel_rfl));omega
  exact h k hk
 one:=λ x k=>by unfold kX;dsimp only;split <;> rfl
 bytes:=Nat.le_of_ble_eq_true (by kernel_rfl)
abbrev jF(l:List Bod):Nat -> Nat -> Value:=aO kX l
structure Setup where
 players:Int
 bb:Nat
 bo:Nat
 nb:Nat
 bc:Nat
 bR:Nat
 bods:List Bod
 box:Bx
 rA:Option Addr
 rn:Nat
 rc:Nat
 dA:Option Addr
 dn:Nat
 dc:Nat
 fog:Int
 g:V2
 push:Int
 drag:Int
 rest:Int
 rounds:Int
 fuel:Int
def Setup.body(S:Setup)(k:Nat):Bod:=S.bods.getD (S.bo+k) dB
structure SetN(S:Setup):Prop where
 pl:0 <= S.players /\ S.players <= 1000000
 nb:S.nb <= 1000000
structure SetIn(F:HL)(S:Setup):Prop extends SetN S where
 blk:(S.bb,.rows 9 S.bR (jF S.bods) 78 (0,0))∈F
 room:S.bo+S.nb <= S.bR
 shp:∀k,k<S.nb -> ShIn F (S.body k).sh
theorem SetIn.up{F X:HL}{S:Setup}(h:SetIn F S):SetIn (X++F) S :=
 ⟨h.toSetN,List.mem_append_right _ h.blk,h.room,λ k hk=>(h.shp k hk).mono λ x hx=>List.mem_append_right _ hx⟩
def ah(S:Setup)(k:Int):Int:=if k<0 then -1 else if k >= S.players then -1 else 48+4 * k
def af(S:Setup)(k:Int):Int:=if k<0 then -1 else if k >= S.nb then -1 else 48+4 * S.players+8 * k
def sizeOf(S:Setup):Int:=48+4 * S.players+8 * S.nb
theorem gD{S:Setup}(h:SetN S)(k:Int):(-1 <= ah S k /\ ah S k <= 1000000000) /\ (ah S k<0 \/ (0 <= k /\ k<S.players)):=by
 have:=h.pl
 unfold ah;split
 ·omega
 ·split <;> omega
theorem cK{S:Setup}(h:SetN S)(k:Int):(-1 <= af S k /\ af S k <= 1000000000) /\ (af S k<0 \/ (0 <= k /\ k<S.nb)):=by
 have:=h.pl
 have:=h.nb
 unfold af;split
 ·omega
 ·split <;> omega
abbrev Setup.v(S:Setup):Value:=.agg #[vI S.players,vS S.bb (S.bo * 9) S.nb S.bc,vI S.box.x0,vI S.box.y0,vI S.box.x1,vI S.box.y1,.slice S.rA S.rn S.rc,.slice S.dA S.dn S.dc,vI S.fog,vI S.g.x,vI S.g.y,vI S.push,vI S.drag,vI S.rest,vI S.rounds,vI S.fuel]
abbrev Setup.l(S:Setup):List Value:=[vI S.players,vS S.bb (S.bo * 9) S.nb S.bc,vI S.box.x0,vI S.box.y0,vI S.box.x1,vI S.box.y1,.slice S.rA S.rn S.rc,.slice S.dA S.dn S.dc,vI S.fog,vI S.g.x,vI S.g.y,vI S.push,vI S.drag,vI S.rest,vI S.rounds,vI S.fuel]
theorem gE(S:Setup)(k:Int)(F:HL)(hn:SetN S):Sp Tryz.prog 183 #[(Setup.v S),vI k] [] F (λ u H'=>u=vI (ah S k) /\ H'=[]):=by
 have h1:=hn.pl
 have h2:=hn.nb
 refine Sp.run Tryz.func183 rfl mn (A:=[]) (Ts:=[]) rfl λ w0=>?_
 refine ae 12 [] λ n1=>RN.em (k<0) 7 (λ h2=>?_) λ h2=>?_
 ·refine ae 13 [] λ _=>RN.ret [] [] [] (v:=vI (-1)) (H':=[]) ?_
  refine⟨?_,rfl⟩
  simp only[ah,if_pos h2]
 ·refine ae 7 [.own 0] λ _=>RN.em (k >= S.players) 12 (λ h3=>?_) λ h3=>?_
  ·refine ae 6 [] λ _=>RN.ret [] [] [] (v:=vI (-1)) (H':=[]) ?_
   refine⟨?_,rfl⟩
   simp only[ah,if_neg h2,if_pos h3]
  ·refine ai 11 [.nw,.nw] [aS (48+(4 * k)),aS (4 * k)] λ _=>RN.ret [] [] [] (v:=vI (48+(4 * k))) (H':=[]) ?_
   refine⟨?_,rfl⟩
   simp only[ah,if_neg h2,if_neg h3]
theorem cL(S:Setup)(k:Int)(F:HL)(hn:SetN S):Sp Tryz.prog 99 #[(Setup.v S),vI k] [] F (λ u H'=>u=vI (af S k) /\ H'=[]):=by
 have h1:=hn.pl
 have h2:=hn.nb
 refine Sp.run Tryz.func99 rfl mn (A:=[]) (Ts:=[]) rfl λ w0=>?_
 refine ae 12 [] λ n1=>RN.em (k<0) 7 (λ h2=>?_) λ h2=>?_
 ·refine ae 14 [] λ _=>RN.ret [] [] [] (v:=vI (-1)) (H':=[]) ?_
  refine⟨?_,rfl⟩
  simp only[af,if_pos h2]
 ·refine ae 8 [.own 0] λ _=>RN.em (k >= (S.nb:Int)) 13 (λ h3=>?_) λ h3=>?_
  ·refine ae 6 [] λ _=>RN.ret [] [] [] (v:=vI (-1)) (H':=[]) ?_
   refine⟨?_,rfl⟩
   simp only[af,if_neg h2,if_pos h3]
  ·refine ai 15 [.own 0,.nw,.nw,.nw,.nw] [aS ((48+(4 * S.players))+(8 * k)),aS (8 * k),aS (48+(4 * S.players)),aS (4 * S.players)] λ _=>RN.ret [] [] [] (v:=vI ((48+(4 * S.players))+(8 * k))) (H':=[]) ?_
   refine⟨?_,rfl⟩
   simp only[af,if_neg h2,if_neg h3]
theorem CF(S:Setup)(F:HL)(hn:SetN S):Sp Tryz.prog 98 #[(Setup.v S)] [] F (λ u H'=>u=vI (sizeOf S) /\ H'=[]):=by
 have h1:=hn.pl
 have h2:=hn.nb
 refine Sp.run Tryz.func98 rfl mn (A:=[]) (Ts:=[]) rfl λ w0=>?_
 refine ai 20 [.own 0,.nw,.nw,.own 0,.nw,.nw] [aS ((48+(4 * S.players))+(8 * (S.nb:Int))),aS (8 * (S.nb:Int)),aS (48+(4 * S.players)),aS (4 * S.players)] λ n1=>?_
 exact RN.ret [] [] [] ⟨rfl,rfl⟩
structure Inp where (dx dy act:Int)
abbrev dI:Inp:=⟨0,0,0⟩
structure Ins where (op n:Int)
abbrev dIns:Ins:=⟨0,0⟩
structure Eff where (t i k v:Int)
abbrev bx:Eff:=⟨0,0,0,0⟩
def ep:Enc Inp:=⟨3,λ p k=>match k with|0=>vI p.dx|1=>vI p.dy|_=>vI p.act,dI⟩
noncomputable def Ll:TypeInfo:=match Tryz.prog.info? 119 with|some i=>i|none=>⟨.bool,"",0,0,false,0,0,none,false,#[]⟩
noncomputable def Lm:Value:=match Ll.zero with|some z=>z|none=>.bool false
theorem qI:EncOk ep Tryz.prog 119 Ll Lm where
 info:=by kernel_rfl
 zero:=by kernel_rfl
 size:=by kernel_rfl
 zsize:=by kernel_rfl
 zcell:=λ k hk=>by
  have h:∀k<3,Lm.cells[k]?=some (ep.cell ep.dflt k):=by intro k hk;(iterate 3 (rcases k with _|k;· kernel_rfl));omega
  exact h k hk
 one:=λ x k=>by unfold ep;dsimp only;split <;> rfl
 bytes:=Nat.le_of_ble_eq_true (by kernel_rfl)
abbrev fS(l:List Inp):Nat -> Nat -> Value:=aO ep l
structure Stp where
 S:Setup
 cA:Option Addr
 cn:Nat
 cc:Nat
 e0:Int
 e1:Int
 e2:Int
 version:Int
 ib:Nat
 io:Nat
 ni:Nat
 ic:Nat
 iR:Nat
 ins:List Inp
 i:Int
 j:Int
 ended:Bool
 f0:Int
 f1:Int
 f2:Int
 f3:Int
 emitted:Bool
 code:List Ins
def Stp.inp(t:Stp)(k:Nat):Inp:=t.ins.getD (t.io+k) dI
def movP(S:Setup)(k:Int):Prop:=(0 <= k /\ k<S.nb) /\ (S.body k.toNat).mot.inv>0
instance (S:Setup) (k:Int):Decidable (movP S k):=inferInstanceAs (Decidable (_ /\ _))
theorem movP.has{S:Setup}{k:Int}(h:movP S k):0 <= k /\ k<S.nb:=h.1
def ao(S:Setup)(M:MemS)(k:Int):Mot:=⟨M.get (af S k+0),M.get (af S k+1),M.get (af S k+2),M.get (af S k+3),(S.body k.toNat).mot.inv⟩
def aL(t:Stp)(ph j:Int)(M:MemS):MemS:=((M.set 1 ph).set 2 0).set 3 j
def dN(t:Stp)(k:Int)(m:Mot)(M:MemS):MemS:=(((M.set (af t.S k+0) m.px).set (af t.S k+1) m.py).set (af t.S k+2) m.vx).set (af t.S k+3) m.vy
def eh(t:Stp)(c sp pos lo hi:Int)(M:MemS):MemS:=if aF pos lo hi=pos then M.set c (aF pos lo hi) else (M.set c (aF pos lo hi)).set sp (aZ (0-ga ((M.set c (aF pos lo hi)).get sp) t.S.rest))
def bm(t:Stp)(M:MemS):MemS:=if t.i=0 then (M.set 13 t.version).set 11 0 else M
def bA(t:Stp)(M:MemS):MemS:=if ah t.S t.i >= 0 then if t.i<t.ni then ((M.set (ah t.S t.i+0) (t.inp t.i.toNat).dx).set (ah t.S t.i+1) (t.inp t.i.toNat).dy).set (ah t.S t.i+2) (t.inp t.i.toNat).act else M else M
def bX(t:Stp)(M:MemS):MemS:=if aZ (t.i+1)<t.S.players then M.set 2 (aZ (t.i+1)) else aL t 1 0 M
def aP(t:Stp)(M:MemS):MemS:=bX t (bA t (bm t M))
abbrev Stp.l(t:Stp)(mb:Nat):List Value:=[.iface 96 (vP mb 0),vI t.S.players,vS t.S.bb (t.S.bo * 9) t.S.nb t.S.bc,vI t.S.box.x0,vI t.S.box.y0,vI t.S.box.x1,vI t.S.box.y1,.slice t.S.rA t.S.rn t.S.rc,.slice t.S.dA t.S.dn t.S.dc,vI t.S.fog,vI t.S.g.x,vI t.S.g.y,vI t.S.push,vI t.S.drag,vI t.S.rest,vI t.S.rounds,vI t.S.fuel,.slice t.cA t.cn t.cc,vI t.e0,vI t.e1,vI t.e2,vI t.version,vS t.ib (t.io * 3) t.ni t.ic,vI t.i,vI t.j,.bool t.ended,vI t.f0,vI t.f1,vI t.f2,vI t.f3,.bool t.emitted]
abbrev Stp.lp(t:Stp)(mb:Nat):List Value:=[.iface 96 (vP mb 0),vI t.S.players,vS t.S.bb (t.S.bo * 9) t.S.nb t.S.bc,vI t.S.box.x0,vI t.S.box.y0,vI t.S.box.x1,vI t.S.box.y1,.slice t.S.rA t.S.rn t.S.rc,.slice t.S.dA t.S.dn t.S.dc,vI t.S.fog,vI t.S.g.x,vI t.S.g.y,vI t.S.push,vI t.S.drag,vI t.S.rest,vI t.S.rounds,vI t.S.fuel,.slice t.cA t.cn t.cc,vI t.e0,vI t.e1,vI t.e2,vI t.version,vS t.ib (t.io * 3) t.ni t.ic,vI t.i,vI t.j,.bool t.ended]
theorem qg(t:Stp)(k:Int)(tb mb:Nat)(F:HL)(hb:(tb,.lit (Stp.l t mb) 275 (0,0))∈F):Sp Tryz.prog 194 #[vP tb 0,vI k] [] F (λ u H'=>u=.bool (decide (0 <= k /\ k<t.S.nb)) /\ H'=[]):=by
 refine Sp.run Tryz.func194 rfl (mc hb mn) (A:=[]) (Ts:=[]) rfl λ w0=>?_
 refine ae 10 [] λ _=>RN.em (k >= 0) 7 (λ h1=>?_) λ h1=>?_
 ·refine ae 12 [.ro 0] λ _=>RN.ret [] [] [] (v:=.bool (decide (k<(t.S.nb:Int)))) (H':=[]) ?_
  exact⟨by simp[*],rfl⟩
 ·refine ae 12 [] λ _=>RN.ret [] [] [] (v:=.bool false) (H':=[]) ?_
  exact⟨by simp[*],rfl⟩
theorem jn(t:Stp)(k:Int)(tb mb:Nat)(F:HL)(hb:(tb,.lit (Stp.l t mb) 275 (0,0))∈F)(hS:SetIn F t.S):Sp Tryz.prog 187 #[vP tb 0,vI k] [] F (λ u H'=>u=.bool (decide (movP t.S k)) /\ H'=[]):=by
 have hn:=hS.nb
 have hr:=hS.room
 refine Sp.run Tryz.func187 rfl (mc hb (mc hS.blk mn)) (A:=[]) (Ts:=[]) rfl λ w0=>?_
 refine ae 9 [] λ _=>RN.cp (qg t k tb mb _ (List.mem_append_right _ hb))<|ae 1 [] λ _=>RN.em (0 <= k /\ k<t.S.nb) 8 (λ h1=>?_) λ h1=>?_
 ·refine ai 15 [.ro 0,.ix ((k).toNat),.rorow 1 (t.S.bo+((k).toNat)) 6] [((t.S.bo * 9+((k).toNat) * 9)+6)=(t.S.bo+((k).toNat)) * 9+6 /\ (t.S.bo+((k).toNat))<t.S.bR,k=(((k).toNat:Nat):Int) /\ (k).toNat<t.S.nb] λ _=>RN.ret [] [] [] (v:=.bool (decide ((t.S.bods.getD (t.S.bo+((k).toNat)) dB).mot.inv>0))) (H':=[]) ?_
  refine⟨?_,rfl⟩
  simp[movP,Setup.body, *]
 ·refine ae 15 [] λ _=>RN.ret [] [] [] (v:=.bool false) (H':=[]) ?_
  refine⟨?_,rfl⟩
  simp[movP,Setup.body, *]
theorem fE(t:Stp)(i:Int)(tb mb:Nat)(M:MemS)(k:Nat)(T F:HL)(hb:(tb,.lit (Stp.l t mb) 275 (0,0))∈F)(hS:SetIn F t.S)(hM:MemH mb M k T)(hT:∀x∈T,x∈F)(hi:0 <= i /\ i<t.S.nb):Sp Tryz.prog 188 #[vP tb 0,vI i] [] F (λ u H'=>u=.agg #[vI ((ao t.S M i).px),vI ((ao t.S M i).py),vI ((ao t.S M i).vx),vI ((ao t.S M i).vy),vI ((ao t.S M i).inv)] /\ H'=[]):=by
 have hp:=hS.pl
 have hn:=hS.nb
 have hr:=hS.room
 refine Sp.run Tryz.func188 rfl (mc hb (mc hS.blk mn)) (A:=[]) (Ts:=[]) rfl λ w0=>?_
 refine ae 12 [.ro 0,.ro 0,.ro 0,.ro 0,.ro 0,.ro 0,.ro 0,.ro 0,.ro 0,.ro 0,.ro 0,.ro 0,.ro 0,.ro 0,.ro 0,.ro 0] λ n1=>RN.cp (cL t.S i _ hS.toSetN) ?_
 have Uz:=cK hS.toSetN i
 refine ae 4 [] λ _=>RN.draw [41] []<|aC [] [0,4,7,11,15,19,22,26,30,35,1,5,8,12,16,20,23,27,31,2,9,17,24,32,3,10,18,25,33,34,36,37,38,39] [.nw,.nw,.nw,.nw,.ro 0,.ro 0,.ro 0,.ro 0,.ro 0,.ix ((i).toNat),.rorow 1 (t.S.bo+((i).toNat)) 6] [((t.S.bo * 9+((i).toNat) * 9)+6)=(t.S.bo+((i).toNat)) * 9+6 /\ (t.S.bo+((i).toNat))<t.S.bR,i=(((i).toNat:Nat):Int) /\ (i).toNat<t.S.nb,aS ((af t.S i)+3),aS ((af t.S i)+2),aS ((af t.S i)+1),aS ((af t.S i)+0)]<|RD.cp [] 6 (λ X_=>(aw ((af t.S i)+0) hM (λ x hx=>List.mem_append_right _ (List.mem_append_right _ (hT x hx)))))<|RD.cp [] 13 (λ X_=>(aw ((af t.S i)+1) hM (λ x hx=>List.mem_append_right _ (List.mem_append_right _ (hT x hx)))))<|ag [] [14] []<|RD.cp [] 21 (λ X_=>(aw ((af t.S i)+2) hM (λ x hx=>List.mem_append_right _ (List.mem_append_right _ (hT x hx)))))<|RD.cp [] 28 (λ X_=>(aw ((af t.S i)+3) hM (λ x hx=>List.mem_append_right _ (List.mem_append_right _ (hT x hx)))))<|ag [] [29,40] []<|RD.one 41 (RDO.ev [] (ow 0 5) λ _=>?_)
 refine RD.fin<|ae 1 [] λ _=>?_
 exact RN.ret (ow 0 5) [] [] ⟨rfl,rfl⟩
theorem bJ(t:Stp)(ph:Int)(j:Int)(tb mb:Nat)(M:MemS)(k:Nat)(T F:HL)(hM:MemH mb M (k+3) T)(hS:SetIn F t.S) :Sp Tryz.prog 184 #[vP tb 0,vI ph,vI j] (ap [(tb,.lit (Stp.l t mb) 275 (0,0))] [T]) F (λ u H'=>∃x,H'=ap [(tb,.lit (Stp.l t mb) 275 (0,0))] [x] /\ (MemH mb (aL t ph j M) k x)):=by
 have hp:=hS.pl
 have hn:=hS.nb
 have hr:=hS.room
 refine Sp.run Tryz.func184 rfl (mc hS.blk mn) (A:=[(tb,.lit (Stp.l t mb) 275 (0,0))]) (Ts:=[T]) rfl λ w0=>?_
 refine ae 7 [.own 0] λ _=>RN.ct [] [0] (aj 1 ph hM) ?_
 rintro _ T1 Wh
 refine ae 8 [.own 0] λ _=>RN.ct [] [0] (aj 2 0 Wh) ?_
 rintro _ T3 K_
 refine ae 8 [.own 0] λ _=>RN.ct [] [0] (aj 3 j K_) ?_
 rintro _ T5 Ry
 refine ae 1 [] λ _=>RN.ret [] [0] [0] (v:=.tuple #[]) (H':=(ap [(tb,.lit (Stp.l t mb) 275 (0,0))] [T5])) ?_
 refine⟨T5,rfl,?_⟩
 have e:(aL t ph j M)=(((M.set 1 ph).set 2 0).set 3 j):=by
  first|(simp only[aL];try rfl;done)|rfl
 rw[e]
 exact Ry.weak (by omega)
theorem mw(t:Stp)(i:Int)(m:Mot)(tb mb:Nat)(M:MemS)(k:Nat)(T F:HL)(hM:MemH mb M (k+4) T)(hS:SetIn F t.S) :Sp Tryz.prog 215 #[vP tb 0,vI i,.agg #[vI m.px,vI m.py,vI m.vx,vI m.vy,vI m.inv]] (ap [(tb,.lit (Stp.l t mb) 275 (0,0))] [T]) F (λ u H'=>∃x,H'=ap [(tb,.lit (Stp.l t mb) 275 (0,0))] [x] /\ (MemH mb (dN t i m M) k x)):=by
 have hp:=hS.pl
 have hn:=hS.nb
 have hr:=hS.room
 refine Sp.run Tryz.func215 rfl (mc hS.blk mn) (A:=[(tb,.lit (Stp.l t mb) 275 (0,0))]) (Ts:=[T]) rfl λ w0=>?_
 refine ae 12 (ow 1 16) λ n1=>RN.cp (cL t.S i _ hS.toSetN) ?_
 have Uz:=cK hS.toSetN i
 refine ae 4 [] λ _=>RN.draw [9] []<|aC [] [0,4,6,1,5,7,2,8,3] [.nw,.own 0,.own 1] [aS ((af t.S i)+0)]<|RD.one 9 (RDO.ct [] [] [0] (aj ((af t.S i)+0) m.px hM) ?_)
 rintro _ T3 K_
 refine RD.fin<|ae 2 [] λ _=>RN.draw [9] []<|aC [] [0,4,6,1,5,7,2,8,3] [.nw,.own 0,.own 1] [aS ((af t.S i)+1)]<|RD.one 9 (RDO.ct [] [] [0] (aj ((af t.S i)+1) m.py K_) ?_)
 rintro _ T5 Ry
 refine RD.fin<|ae 2 [] λ _=>RN.draw [9] []<|aC [] [0,4,6,1,5,7,2,8,3] [.nw,.own 0,.own 1] [aS ((af t.S i)+2)]<|RD.one 9 (RDO.ct [] [] [0] (aj ((af t.S i)+2) m.vx Ry) ?_)
 rintro _ T7 Sh
 refine RD.fin<|ae 1 [] λ _=>RN.draw [9] []<|aC [] [0,4,6,1,5,7,2,8,3] [.nw,.own 0,.own 1] [aS ((af t.S i)+3)]<|RD.one 9 (RDO.ct [] [] [0] (aj ((af t.S i)+3) m.vy Sh) ?_)
 rintro _ T9 RU
 refine RD.fin<|RN.ret [] [1] [0] (v:=.tuple #[]) (H':=(ap [(tb,.lit (Stp.l t mb) 275 (0,0))] [T9])) ?_
 refine⟨T9,rfl,?_⟩
 have e:(dN t i m M)=((((M.set ((af t.S i)+0) m.px).set ((af t.S i)+1) m.py).set ((af t.S i)+2) m.vx).set ((af t.S i)+3) m.vy):=by
  first|(simp only[dN];try rfl;done)|rfl
 rw[e]
 exact RU.weak (by omega)
theorem td(t:Stp)(c:Int)(s:Int)(pos:Int)(lo:Int)(hi:Int)(tb mb:Nat)(M:MemS)(k:Nat)(T F:HL)(hM:MemH mb M (k+2) T)(hS:SetIn F t.S) :Sp Tryz.prog 218 #[vP tb 0,vI c,vI s,vI pos,vI lo,vI hi] (ap [(tb,.lit (Stp.l t mb) 275 (0,0))] [T]) F (λ u H'=>∃x,H'=ap [(tb,.lit (Stp.l t mb) 275 (0,0))] [x] /\ (MemH mb (eh t c s pos lo hi M) k x)):=by
 have hp:=hS.pl
 have hn:=hS.nb
 have hr:=hS.room
 refine Sp.run Tryz.func218 rfl (mc hS.blk mn) (A:=[(tb,.lit (Stp.l t mb) 275 (0,0))]) (Ts:=[T]) rfl λ w0=>?_
 refine ae 5 [] λ _=>RN.cp (cC pos lo hi  _)<|ae 11 [.own 0] λ _=>RN.ct [] [0] (aj c (aF pos lo hi) hM) ?_
 rintro _ T1 Wh
 refine ae 9 [] λ _=>RN.en (aF pos lo hi=pos) 26 (λ h3=>?_) λ h3=>?_
 ·refine ae 2 [] λ _=>RN.ret [] [0] [0] (v:=.tuple #[]) (H':=(ap [(tb,.lit (Stp.l t mb) 275 (0,0))] [T1])) ?_
  refine⟨T1,rfl,?_⟩
  have e:(eh t c s pos lo hi M)=(M.set c (aF pos lo hi)):=by
   first|(simp only[eh,if_pos h3];try rfl;done)|rfl
  rw[e]
  exact Wh.weak (by omega)
 ·refine ae 1 [] λ _=>RN.draw [20] []<|ag [] [0,4,5,9,11,1,6,12,2,7,13,3,8,14,15,18,19] [.own 0,.own 0,.own 0]<|RD.cp [] 10 (λ X_=>(aw s Wh (aR 0)))<|RD.cp [] 16 (λ X_=>(nK ((M.set c (aF pos lo hi)).get s) t.S.rest  _))<|ag [] [17] []<|RD.one 20 (RDO.ct [] [] [0] (aj s (i64.wrap (0-(ga ((M.set c (aF pos lo hi)).get s) t.S.rest))) Wh) ?_)
  rintro _ T4 SG
  refine RD.fin<|RN.ret [] [0] [0] (v:=.tuple #[]) (H':=(ap [(tb,.lit (Stp.l t mb) 275 (0,0))] [T4])) ?_
  refine⟨T4,rfl,?_⟩
  have e:(eh t c s pos lo hi M)=((M.set c (aF pos lo hi)).set s (i64.wrap (0-(ga ((M.set c (aF pos lo hi)).get s) t.S.rest)))):=by
   first|(simp only[eh,if_neg h3];try rfl;done)|rfl
  rw[e]
  exact SG.weak (by omega)
theorem CG(t:Stp)  (tb mb:Nat) (M:MemS) (k:Nat) (T F:HL) (hM:MemH mb M (k+8) T) (hS:SetIn F t.S) (hI:(t.ib,.rows 3 t.iR (fS t.ins) 119 (0,0))∈F) (hir:t.io+t.ni <= t.iR /\ t.ni <= 1000000):Sp Tryz.prog 148 #[vP tb 0] (ap [(tb,.lit (Stp.l t mb) 275 (0,0))] [T]) F (λ u H'=>∃x,H'=ap [(tb,.lit (Stp.l t mb) 275 (0,0))] [x] /\ (MemH mb (aP t M) k x)):=by
 have hp:=hS.pl
 have hn:=hS.nb
 have hr:=hS.room
 refine Sp.run Tryz.func148 rfl (mc hS.blk (mc hI mn)) (A:=[(tb,.lit (Stp.l t mb) 275 (0,0))]) (Ts:=[T]) rfl λ w0=>?_
 refine ae 10 [.own 0] λ _=>RN.em (t.i=0) 8 (λ h1=>?_) λ h1=>?_
 ·refine ae 2 [] λ _=>RN.draw [10] []<|ag [] [0,4,1,5,2,6,3,7,8,9] [.own 0,.own 0]<|RD.one 10 (RDO.ct [] [] [0] (aj 13 t.version hM) ?_)
  rintro _ T2 R8
  refine RD.fin<|ae 6 [.own 0] λ _=>RN.ct [] [0] (aj 11 0 R8) ?_
  rintro _ T4 SG
  refine ae 4 [] λ _=>RN.draw [] []<|ag [] [0,4,1,5,2,6,3,7] (ow 0 17)<|RD.cp [] 8 (λ X_=>(gE t.S t.i _ hS.toSetN)) ?_
  have hb6:=gD hS.toSetN t.i
  refine ag [] [9] []<|RD.fin<|ae 2 [] λ _=>RN.draw [] []<|ag [] [0,1,2] []<|RD.em (ah t.S t.i >= 0) 36 (λ h7=>?_) λ h7=>?_
  ·refine ag [] [3,7,4,8,5,9,6,10,11,12,13] [.own 0,.own 0]<|RD.fin<|ae 1 [] λ _=>RN.em (t.i<(t.ni:Int)) 47 (λ h8=>?_) λ h8=>?_
   ·refine ae 2 [] λ _=>RN.draw [11] []<|aC [] [0,4,1,5,2,6,3,7,8,9] [.own 0,.own 0,.ix ((t.i).toNat),.rorow 1 (t.io+((t.i).toNat)) 0,.rorow 1 (t.io+((t.i).toNat)) 1,.rorow 1 (t.io+((t.i).toNat)) 2] [((t.io * 3+((t.i).toNat) * 3)+2)=(t.io+((t.i).toNat)) * 3+2 /\ (t.io+((t.i).toNat))<t.iR,((t.io * 3+((t.i).toNat) * 3)+1)=(t.io+((t.i).toNat)) * 3+1 /\ (t.io+((t.i).toNat))<t.iR,(t.io * 3+((t.i).toNat) * 3)=(t.io+((t.i).toNat)) * 3+0 /\ (t.io+((t.i).toNat))<t.iR,t.i=(((t.i).toNat:Nat):Int) /\ (t.i).toNat<t.ni]<|RD.one 10 (RDO.ev [] [] λ n9=>?_)
    refine RD.one 11 (RDO.ev [] [.own 0,.own 0,.own 0] λ _=>?_)
    refine RD.fin<|ae 2 [] λ _=>RN.draw [8] []<|aC [] [0,4,6,1,5,7,2,3] [.nw,.own 0,.own 1] [aS ((ah t.S t.i)+0)]<|RD.one 8 (RDO.ct [] [] [0] (aj ((ah t.S t.i)+0) ((t.ins.getD (t.io+((t.i).toNat)) dI).dx) SG) ?_)
    rintro _ Tu Rj
    refine RD.fin<|ae 2 [] λ _=>RN.draw [8] []<|aC [] [0,4,6,1,5,7,2,3] [.nw,.own 0,.own 1] [aS ((ah t.S t.i)+1)]<|RD.one 8 (RDO.ct [] [] [0] (aj ((ah t.S t.i)+1) ((t.ins.getD (t.io+((t.i).toNat)) dI).dy) Rj) ?_)
    rintro _ Xc YO
    refine RD.fin<|ae 1 [] λ _=>RN.draw [8] []<|aC [] [0,4,6,1,5,7,2,3] [.nw,.own 0,.own 1] [aS ((ah t.S t.i)+2)]<|RD.one 8 (RDO.ct [] [] [0] (aj ((ah t.S t.i)+2) ((t.ins.getD (t.io+((t.i).toNat)) dI).act) YO) ?_)
    rintro _ Y_ TT
    refine RD.fin<|ae 2 [] λ _=>RN.draw [] []<|ag [] [0,5,1,6,2,7,3,8,4,9,10] [.own 1,.own 1]<|RD.fin<|ae 1 [] λ _=>RN.em (i64.wrap (t.i+1)<t.S.players) 95 (λ Ra=>?_) λ Ra=>?_
    ·refine ae 1 [] λ _=>RN.draw [11] []<|ag [] [0,4,1,5,2,6,3,7,8,9,10] [.own 1,.own 1]<|RD.one 11 (RDO.ct [] [] [0] (aj 2 (i64.wrap (t.i+1)) TT) ?_)
     rintro _ Sj SB
     refine RD.fin<|RN.ret [] [1] [0] (v:=.tuple #[]) (H':=(ap [(tb,.lit (Stp.l t mb) 275 (0,0))] [Sj])) ?_
     refine⟨Sj,rfl,?_⟩
     have e:(aP t M)=((((((M.set 13 t.version).set 11 0).set ((ah t.S t.i)+0) ((t.ins.getD (t.io+((t.i).toNat)) dI).dx)).set ((ah t.S t.i)+1) ((t.ins.getD (t.io+((t.i).toNat)) dI).dy)).set ((ah t.S t.i)+2) ((t.ins.getD (t.io+((t.i).toNat)) dI).act)).set 2 (i64.wrap (t.i+1))):=by
      first|(simp only[aP,bm,bA,bX,Stp.inp,if_pos h1,if_pos h7,if_pos h8,if_pos Ra];try rfl;done)|rfl
     rw[e]
     exact SB.weak (by omega)
    ·refine ae 3 [] λ _=>RN.ct [1] [0] (bJ t 1 0 tb mb (((((M.set 13 t.version).set 11 0).set ((ah t.S t.i)+0) ((t.ins.getD (t.io+((t.i).toNat)) dI).dx)).set ((ah t.S t.i)+1) ((t.ins.getD (t.io+((t.i).toNat)) dI).dy)).set ((ah t.S t.i)+2) ((t.ins.getD (t.io+((t.i).toNat)) dI).act)) k Y_ _ TT hS.up ) ?_
     rintro _ TZ VN
     refine ae 1 [] λ _=>RN.ret [] [0] [0] (v:=.tuple #[]) (H':=(ap [(tb,.lit (Stp.l t mb) 275 (0,0))] [TZ])) ?_
     refine⟨TZ,rfl,?_⟩
     have e:(aP t M)=(aL t 1 0 (((((M.set 13 t.version).set 11 0).set ((ah t.S t.i)+0) ((t.ins.getD (t.io+((t.i).toNat)) dI).dx)).set ((ah t.S t.i)+1) ((t.ins.getD (t.io+((t.i).toNat)) dI).dy)).set ((ah t.S t.i)+2) ((t.ins.getD (t.io+((t.i).toNat)) dI).act))):=by
      first|(simp only[aP,bm,bA,bX,Stp.inp,if_pos h1,if_pos h7,if_pos h8,if_neg Ra];try rfl;done)|rfl
     rw[e]
     exact VN.weak (by omega)
   ·refine ae 4 [] λ _=>RN.draw [] []<|ag [] [0,5,1,6,2,7,3,8,4,9,10] [.own 0,.own 0]<|RD.fin<|ae 1 [] λ _=>RN.em (i64.wrap (t.i+1)<t.S.players) 95 (λ h21=>?_) λ h21=>?_
    ·refine ae 1 [] λ _=>RN.draw [11] []<|ag [] [0,4,1,5,2,6,3,7,8,9,10] [.own 0,.own 0]<|RD.one 11 (RDO.ct [] [] [0] (aj 2 (i64.wrap (t.i+1)) SG) ?_)
     rintro _ XQ VL
     refine RD.fin<|RN.ret [] [0] [0] (v:=.tuple #[]) (H':=(ap [(tb,.lit (Stp.l t mb) 275 (0,0))] [XQ])) ?_
     refine⟨XQ,rfl,?_⟩
     have e:(aP t M)=(((M.set 13 t.version).set 11 0).set 2 (i64.wrap (t.i+1))):=by
      first|(simp only[aP,bm,bA,bX,Stp.inp,if_pos h1,if_pos h7,if_neg h8,if_pos h21];try rfl;done)|rfl
     rw[e]
     exact VL.weak (by omega)
    ·refine ae 3 [] λ _=>RN.ct [0] [0] (bJ t 1 0 tb mb ((M.set 13 t.version).set 11 0) (k+3) T4 _ SG hS.up ) ?_
     rintro _ XP VK
     refine ae 1 [] λ _=>RN.ret [] [0] [0] (v:=.tuple #[]) (H':=(ap [(tb,.lit (Stp.l t mb) 275 (0,0))] [XP])) ?_
     refine⟨XP,rfl,?_⟩
     have e:(aP t M)=(aL t 1 0 ((M.set 13 t.version).set 11 0)):=by
      first|(simp only[aP,bm,bA,bX,Stp.inp,if_pos h1,if_pos h7,if_neg h8,if_neg h21];try rfl;done)|rfl
     rw[e]
     exact VK.weak (by omega)
  ·refine ag [] [3,7,4,8,5,9,6,10,11,12,13] []<|RD.fin<|ae 5 [] λ _=>RN.draw [] []<|ag [] [0,5,1,6,2,7,3,8,4,9,10] [.own 0,.own 0]<|RD.fin<|ae 1 [] λ _=>RN.em (i64.wrap (t.i+1)<t.S.players) 95 (λ RA=>?_) λ RA=>?_
   ·refine ae 1 [] λ _=>RN.draw [11] []<|ag [] [0,4,1,5,2,6,3,7,8,9,10] [.own 0,.own 0]<|RD.one 11 (RDO.ct [] [] [0] (aj 2 (i64.wrap (t.i+1)) SG) ?_)
    rintro _ Uo R9
    refine RD.fin<|RN.ret [] [0] [0] (v:=.tuple #[]) (H':=(ap [(tb,.lit (Stp.l t mb) 275 (0,0))] [Uo])) ?_
    refine⟨Uo,rfl,?_⟩
    have e:(aP t M)=(((M.set 13 t.version).set 11 0).set 2 (i64.wrap (t.i+1))):=by
     first|(simp only[aP,bm,bA,bX,Stp.inp,if_pos h1,if_neg h7,if_pos RA];try rfl;done)|rfl
    rw[e]
    exact R9.weak (by omega)
   ·refine ae 3 [] λ _=>RN.ct [0] [0] (bJ t 1 0 tb mb ((M.set 13 t.version).set 11 0) (k+3) T4 _ SG hS.up ) ?_
    rintro _ XN R7
    refine ae 1 [] λ _=>RN.ret [] [0] [0] (v:=.tuple #[]) (H':=(ap [(tb,.lit (Stp.l t mb) 275 (0,0))] [XN])) ?_
    refine⟨XN,rfl,?_⟩
    have e:(aP t M)=(aL t 1 0 ((M.set 13 t.version).set 11 0)):=by
     first|(simp only[aP,bm,bA,bX,Stp.inp,if_pos h1,if_neg h7,if_neg RA];try rfl;done)|rfl
    rw[e]
    exact R7.weak (by omega)
 ·refine ae 5 [] λ _=>RN.draw [] []<|ag [] [0,4,1,5,2,6,3,7] (ow 0 17)<|RD.cp [] 8 (λ X_=>(gE t.S t.i _ hS.toSetN)) ?_
  have hb31:=gD hS.toSetN t.i
  refine ag [] [9] []<|RD.fin<|ae 2 [] λ _=>RN.draw [] []<|ag [] [0,1,2] []<|RD.em (ah t.S t.i >= 0) 36 (λ VW=>?_) λ VW=>?_
  ·refine ag [] [3,7,4,8,5,9,6,10,11,12,13] [.own 0,.own 0]<|RD.fin<|ae 1 [] λ _=>RN.em (t.i<(t.ni:Int)) 47 (λ h33=>?_) λ h33=>?_
   ·refine ae 2 [] λ _=>RN.draw [11] []<|aC [] [0,4,1,5,2,6,3,7,8,9] [.own 0,.own 0,.ix ((t.i).toNat),.rorow 1 (t.io+((t.i).toNat)) 0,.rorow 1 (t.io+((t.i).toNat)) 1,.rorow 1 (t.io+((t.i).toNat)) 2] [((t.io * 3+((t.i).toNat) * 3)+2)=(t.io+((t.i).toNat)) * 3+2 /\ (t.io+((t.i).toNat))<t.iR,((t.io * 3+((t.i).toNat) * 3)+1)=(t.io+((t.i).toNat)) * 3+1 /\ (t.io+((t.i).toNat))<t.iR,(t.io * 3+((t.i).toNat) * 3)=(t.io+((t.i).toNat)) * 3+0 /\ (t.io+((t.i).toNat))<t.iR,t.i=(((t.i).toNat:Nat):Int) /\ (t.i).toNat<t.ni]<|RD.one 10 (RDO.ev [] [] λ n34=>?_)
    refine RD.one 11 (RDO.ev [] [.own 0,.own 0,.own 0] λ _=>?_)
    refine RD.fin<|ae 2 [] λ _=>RN.draw [8] []<|aC [] [0,4,6,1,5,7,2,3] [.nw,.own 0,.own 1] [aS ((ah t.S t.i)+0)]<|RD.one 8 (RDO.ct [] [] [0] (aj ((ah t.S t.i)+0) ((t.ins.getD (t.io+((t.i).toNat)) dI).dx) hM) ?_)
    rintro _ Zw VJ
    refine RD.fin<|ae 2 [] λ _=>RN.draw [8] []<|aC [] [0,4,6,1,5,7,2,3] [.nw,.own 0,.own 1] [aS ((ah t.S t.i)+1)]<|RD.one 8 (RDO.ct [] [] [0] (aj ((ah t.S t.i)+1) ((t.ins.getD (t.io+((t.i).toNat)) dI).dy) VJ) ?_)
    rintro _ T37 VI
    refine RD.fin<|ae 1 [] λ _=>RN.draw [8] []<|aC [] [0,4,6,1,5,7,2,3] [.nw,.own 0,.own 1] [aS ((ah t.S t.i)+2)]<|RD.one 8 (RDO.ct [] [] [0] (aj ((ah t.S t.i)+2) ((t.ins.getD (t.io+((t.i).toNat)) dI).act) VI) ?_)
    rintro _ V0 SA
    refine RD.fin<|ae 2 [] λ _=>RN.draw [] []<|ag [] [0,5,1,6,2,7,3,8,4,9,10] [.own 1,.own 1]<|RD.fin<|ae 1 [] λ _=>RN.em (i64.wrap (t.i+1)<t.S.players) 95 (λ Rz=>?_) λ Rz=>?_
    ·refine ae 1 [] λ _=>RN.draw [11] []<|ag [] [0,4,1,5,2,6,3,7,8,9,10] [.own 1,.own 1]<|RD.one 11 (RDO.ct [] [] [0] (aj 2 (i64.wrap (t.i+1)) SA) ?_)
     rintro _ Xa VH
     refine RD.fin<|RN.ret [] [1] [0] (v:=.tuple #[]) (H':=(ap [(tb,.lit (Stp.l t mb) 275 (0,0))] [Xa])) ?_
     refine⟨Xa,rfl,?_⟩
     have e:(aP t M)=((((M.set ((ah t.S t.i)+0) ((t.ins.getD (t.io+((t.i).toNat)) dI).dx)).set ((ah t.S t.i)+1) ((t.ins.getD (t.io+((t.i).toNat)) dI).dy)).set ((ah t.S t.i)+2) ((t.ins.getD (t.io+((t.i).toNat)) dI).act)).set 2 (i64.wrap (t.i+1))):=by
      first|(simp only[aP,bm,bA,bX,Stp.inp,if_neg h1,if_pos VW,if_pos h33,if_pos Rz];try rfl;done)|rfl
     rw[e]
     exact VH.weak (by omega)
    ·refine ae 3 [] λ _=>RN.ct [1] [0] (bJ t 1 0 tb mb (((M.set ((ah t.S t.i)+0) ((t.ins.getD (t.io+((t.i).toNat)) dI).dx)).set ((ah t.S t.i)+1) ((t.ins.getD (t.io+((t.i).toNat)) dI).dy)).set ((ah t.S t.i)+2) ((t.ins.getD (t.io+((t.i).toNat)) dI).act)) (k+2) V0 _ SA hS.up ) ?_
     rintro _ T44 VG
     refine ae 1 [] λ _=>RN.ret [] [0] [0] (v:=.tuple #[]) (H':=(ap [(tb,.lit (Stp.l t mb) 275 (0,0))] [T44])) ?_
     refine⟨T44,rfl,?_⟩
     have e:(aP t M)=(aL t 1 0 (((M.set ((ah t.S t.i)+0) ((t.ins.getD (t.io+((t.i).toNat)) dI).dx)).set ((ah t.S t.i)+1) ((t.ins.getD (t.io+((t.i).toNat)) dI).dy)).set ((ah t.S t.i)+2) ((t.ins.getD (t.io+((t.i).toNat)) dI).act))):=by
      first|(simp only[aP,bm,bA,bX,Stp.inp,if_neg h1,if_pos VW,if_pos h33,if_neg Rz];try rfl;done)|rfl
     rw[e]
     exact VG.weak (by omega)
   ·refine ae 4 [] λ _=>RN.draw [] []<|ag [] [0,5,1,6,2,7,3,8,4,9,10] [.own 0,.own 0]<|RD.fin<|ae 1 [] λ _=>RN.em (i64.wrap (t.i+1)<t.S.players) 95 (λ h46=>?_) λ h46=>?_
    ·refine ae 1 [] λ _=>RN.draw [11] []<|ag [] [0,4,1,5,2,6,3,7,8,9,10] [.own 0,.own 0]<|RD.one 11 (RDO.ct [] [] [0] (aj 2 (i64.wrap (t.i+1)) hM) ?_)
     rintro _ T47 YK
     refine RD.fin<|RN.ret [] [0] [0] (v:=.tuple #[]) (H':=(ap [(tb,.lit (Stp.l t mb) 275 (0,0))] [T47])) ?_
     refine⟨T47,rfl,?_⟩
     have e:(aP t M)=(M.set 2 (i64.wrap (t.i+1))):=by
      first|(simp only[aP,bm,bA,bX,Stp.inp,if_neg h1,if_pos VW,if_neg h33,if_pos h46];try rfl;done)|rfl
     rw[e]
     exact YK.weak (by omega)
    ·refine ae 3 [] λ _=>RN.ct [0] [0] (bJ t 1 0 tb mb M (k+5) T _ hM hS.up ) ?_
     rintro _ W_ Sz
     refine ae 1 [] λ _=>RN.ret [] [0] [0] (v:=.tuple #[]) (H':=(ap [(tb,.lit (Stp.l t mb) 275 (0,0))] [W_])) ?_
     refine⟨W_,rfl,?_⟩
     have e:(aP t M)=(aL t 1 0 M):=by
      first|(simp only[aP,bm,bA,bX,Stp.inp,if_neg h1,if_pos VW,if_neg h33,if_neg h46];try rfl;done)|rfl
     rw[e]
     exact Sz.weak (by omega)
  ·refine ag [] [3,7,4,8,5,9,6,10,11,12,13] []<|RD.fin<|ae 5 [] λ _=>RN.draw [] []<|ag [] [0,5,1,6,2,7,3,8,4,9,10] [.own 0,.own 0]<|RD.fin<|ae 1 [] λ _=>RN.em (i64.wrap (t.i+1)<t.S.players) 95 (λ UD=>?_) λ UD=>?_
   ·refine ae 1 [] λ _=>RN.draw [11] []<|ag [] [0,4,1,5,2,6,3,7,8,9,10] [.own 0,.own 0]<|RD.one 11 (RDO.ct [] [] [0] (aj 2 (i64.wrap (t.i+1)) hM) ?_)
    rintro _ Wk VF
    refine RD.fin<|RN.ret [] [0] [0] (v:=.tuple #[]) (H':=(ap [(tb,.lit (Stp.l t mb) 275 (0,0))] [Wk])) ?_
    refine⟨Wk,rfl,?_⟩
    have e:(aP t M)=(M.set 2 (i64.wrap (t.i+1))):=by
     first|(simp only[aP,bm,bA,bX,Stp.inp,if_neg h1,if_neg VW,if_pos UD];try rfl;done)|rfl
    rw[e]
    exact VF.weak (by omega)
   ·refine ae 3 [] λ _=>RN.ct [0] [0] (bJ t 1 0 tb mb M (k+5) T _ hM hS.up ) ?_
    rintro _ T54 VE
    refine ae 1 [] λ _=>RN.ret [] [0] [0] (v:=.tuple #[]) (H':=(ap [(tb,.lit (Stp.l t mb) 275 (0,0))] [T54])) ?_
    refine⟨T54,rfl,?_⟩
    have e:(aP t M)=(aL t 1 0 M):=by
     first|(simp only[aP,bm,bA,bX,Stp.inp,if_neg h1,if_neg VW,if_neg UD];try rfl;done)|rfl
    rw[e]
    exact VE.weak (by omega)
end Go.Proofs.YtgdcbiiopbpgaaaGreatDoor
