import Derived.Laws.IdiomCopy
import Derived.Test.YtdppjkjbghbnjaaGreatDoorY01
set_option maxHeartbeats 4000000
set_option maxRecDepth 100000
set_option linter.all false
namespace Go.Proofs.YtdppjkjbghbnjaaGreatDoor
open Go.RowKit
def pR(s:Cfg):Array Oper:=match s.c with
 | .drw ops _=>ops
 | _=>#[]
def jm(s:Cfg):List Bool:=match s.c with
 | .drw _ l=>l
 | _=>[]
def gj:List Bool -> Nat
 | []=>0
 | true::l=>gj l
 | false::l=>gj l+1
theorem Fv(n:Nat):gj (List.replicate n false)=n:=by
 induction n with
 | zero=>rfl
 | succ n ih=>rw[List.replicate_succ,gj,ih]
def Qg(s:Cfg):Cfg:=match s with
 | ⟨.code (.region _ ops true),k,L,A,Ts⟩=>⟨.drw ops (List.replicate ops.toList.length false),k,L,A,Ts⟩
 | s=>s
def NK(s:Cfg):Bool:=match s.c with
 | .code (.region _ ops true)=>Region.noSelect ops && sN ops
 | _=>false
structure RD(r:Option Nat)(P:Program)(N:Nat)(D:List Deferred)(F:HL)(w0:World)(R:HL)(hards:List Nat)(Rd:HL)(s:Cfg)(Q:Exit -> Act -> World -> Prop):Prop where
 h:(∀y∈R,y∈F) -> Region.noSelect (pR s)=true -> TD P N D F w0 (pR s) hards Rd (gj (jm s)) (jm s) s.L (ap s.A s.Ts) (NoPanic (mL r P s.k Q))
section
variable {r:Option Nat} {P:Program} {N:Nat} {D:List Deferred} {F:HL} {w0:World} {R:HL} {s:Cfg} {Q:Exit -> Act -> World -> Prop} {hards:List Nat} {Rd:HL}
def Ch(ix:List Nat)(s:Cfg):HL:=ix.filterMap (s.A[·]?)
theorem RN.draw(hards ix:List Nat)(hk:RD r P N D F w0 R hards (Ch ix s) (Qg s) Q)(hm:P.follows .mixedOrders=true:=by kernel_rfl)(hc:NK s=true:=by kernel_rfl):RN r P N D F w0 R s Q:=by
 refine⟨λ hR=>?_⟩;obtain⟨c,k,L,A,Ts⟩:=s;unfold NK at hc;split at hc
 case h_2=>cases hc
 rename_i id ops e;simp only at e;subst e;rw[Bool.and_eq_true] at hc;have h1:=hk.h hR hc.1;exact TR.draw hards _ hm hc.1 hc.2 (by
  simp only[Qg,jm,pR,Fv] at h1;have e:ops.toList.length=ops.size:=by simp
  rw[e] at h1 ⊢;exact h1)
def R9(s:Cfg):Cfg:=match s with
 | ⟨.drw _ _,k,L,A,Ts⟩=>⟨.ex .normal,k,L,A,Ts⟩
 | s=>s
def Fw(s:Cfg):Bool:=match s.c with
 | .drw ops l=>(kT ops.toList l).isEmpty
 | _=>false
theorem RD.fin(hk:RN r P N D F w0 R (R9 s) Q)(hc:Fw s=true:=by kernel_rfl):RD r P N D F w0 R hards Rd s Q:=by
 refine⟨λ hR _=>?_⟩;obtain⟨c,k,L,A,Ts⟩:=s;unfold Fw at hc;split at hc
 case h_2=>cases hc
 rename_i ops l e;simp only at e;subst e;exact TD.fin (List.isEmpty_iff.1 hc) (Qc (λ a w h1 h2 h3=>hk.h hR a w h1 h2 h3))
def H3(P:Program)(N:Nat)(R:HL)(hards:List Nat)(Rd:HL)(is:List Nat)(hints:List Hint)(s:Cfg):Option (List Bool × FL × SS):=match s.c with
 | .drw ops l=>vj P 0 N ops.toList hards Rd is l s.L ⟨ap s.A s.Ts,R,hints,0,[],[],false⟩
 | _=>none
def RK(P:Program)(N:Nat)(R:HL)(hards:List Nat)(Rd:HL)(is:List Nat)(hints:List Hint)(s:Cfg):Cfg:=match H3 P N R hards Rd is hints s with
 | some (b,L',_)=>match s with
  | ⟨.drw ops _,k,_,A,Ts⟩=>⟨.drw ops b,k,L',A,Ts⟩
  | s=>s
 | none=>s
def RL(x:Option (List Bool × FL × SS)):List Nat:=match x with
 | some (_,_,ss)=>ss.eq.map (·.2)
 | none=>[]
def Ot(n:Nat)(x:Option (List Bool × FL × SS)):Option (Nat × List Nat × List Prop):=match x with
 | some (b,_,ss)=>match ss.hints with
  | []=>some (gj b+n,ss.eq.map (·.1),ss.ob)
  | _=>none
 | none=>none
theorem H4(ix is:List Nat)(hints:List Hint)(Ob:List Prop)(oF:AllP Ob)(hk:RD r P N D F w0 R hards Rd (RK P N R hards Rd is hints s) Q)
  (h:Ot is.length (H3 P N R hards Rd is hints s)=some (gj (jm s),RL (H3 P N R hards Rd is hints s),Ob):=by kernel_rfl) (hix:Ch ix s=Rd:=by kernel_rfl):RD r P N D F w0 R hards Rd s Q:=by
 refine⟨λ hR hs=>?_⟩;obtain⟨c,k,L,A,Ts⟩:=s;cases c with
 | drw ops l =>
  simp only[pR,jm] at hs ⊢;unfold RK at hk;generalize hx:H3 P N R hards Rd is hints ⟨.drw ops l,k,L,A,Ts⟩=x at h hk;unfold Ot at h;split at h
  case h_2=>cases h
  rename_i b L' ss;split at h
  case h_2=>cases h
  simp only[RL,jm,Option.some.injEq,Prod.mk.injEq] at h;obtain⟨e1,e2,e3⟩:=h;rw[<- e1];refine kG (Rr:=R) hs (λ x hx=>List.mem_append_left _ (vZ ix hix x hx)) hR is l b L L' _ ss hx rfl rfl rfl (gR e2 rfl) (by rw[e3];exact AllP.mem oF) ?_;exact hk.h hR hs
 | code c=>simp[H3,Ot] at h
 | ops ops i=>simp[H3,Ot] at h
 | ex e=>simp[H3,Ot] at h
theorem ag(ix is:List Nat)(hints:List Hint)(hk:RD r P N D F w0 R hards Rd (RK P N R hards Rd is hints s) Q)
 (h:Ot is.length (H3 P N R hards Rd is hints s)=some (gj (jm s),RL (H3 P N R hards Rd is hints s),[]):=by kernel_rfl) (hix:Ch ix s=Rd:=by kernel_rfl):RD r P N D F w0 R hards Rd s Q:=H4 ix is hints [] trivial hk h hix
theorem av(ix is:List Nat)(hints:List Hint)(Ob:List Prop)(hk:RD r P N D F w0 R hards Rd (RK P N R hards Rd is hints s) Q)(oF:AllP Ob:=by simp only[AllP,aI,and_true,true_and] <;> (repeat' with_reducible refine And.intro ?_ ?_) <;> omega)
 (h:Ot is.length (H3 P N R hards Rd is hints s)=some (gj (jm s),RL (H3 P N R hards Rd is hints s),Ob):=by kernel_rfl) (hix:Ch ix s=Rd:=by kernel_rfl):RD r P N D F w0 R hards Rd s Q:=H4 ix is hints Ob oF hk h hix
theorem NL{b v:Bool}(t:Nat)(hb:b=v)(hk:RD r P N D F w0 R hards Rd (sr t v s) Q)(h:s.L.lookup t=some (.bool b):=by kernel_rfl):RD r P N D F w0 R hards Rd s Q:=by
 subst hb;exact⟨λ hR hs TA a hF=>hk.h hR hs TA a (hF.fix h)⟩
theorem RD.em(p:Prop)[Decidable p](t:Nat)(h1:p -> RD r P N D F w0 R hards Rd (sr t true s) Q)(h2:¬ p -> RD r P N D F w0 R hards Rd (sr t false s) Q)(h:s.L.lookup t=some (.bool (decide p)):=by kernel_rfl):RD r P N D F w0 R hards Rd s Q:=by
 by_cases hp:p
 ·exact NL t (decide_eq_true hp) (h1 hp) h
 ·exact NL t (decide_eq_false hp) (h2 hp) h
theorem RD.ro{R':HL}(h:(∀y∈R,y∈F) -> ∀y∈R',y∈F)(hk:RD r P N D F w0 R' hards Rd s Q):RD r P N D F w0 R hards Rd s Q:=⟨λ hR=>hk.h (h hR)⟩
def Ou(P:Program)(N:Nat)(R:HL)(i:Nat)(s:Cfg):Option (Option Tmp × FuncId × Array Value × List Nat × List Prop):=match s.c with
 | .drw ops _=>match ops.toList[i]? with
  | none=>none
  | some o=>match kD ops.toList o s.L ⟨ap s.A s.Ts,R,[],0,[],[],false⟩ with
   | some (true,ss)=>match jQ o.op s.L with
    | true=>match ev P 0 o (gm s.L) ss with
     | some (.enter f args,s')=>match s'.hints with
      | []=>some (o.dst,f,args,s'.eq.map (·.1),s'.ob)
      | _=>none
     | _=>none
    | false=>none
   | _=>none
 | _=>none
def Qh(N:Nat)(hards:List Nat)(i:Nat)(s:Cfg)(x:Option (Option Tmp × FuncId × Array Value × List Nat × List Prop)):Option (FuncId × Array Value × List Nat × List Prop × Nat):=match x with
 | some (dst,f,args,E,Ob)=>match (fd N dst undef s.L).isSome,P3 (pR s).toList hards (jm s) i with
  | true,true=>some (f,args,E,Ob,gj (bD (jm s) i true)+1)
  | _,_=>none
 | none=>none
def yU(N i:Nat)(v:Value)(s:Cfg):Cfg:=match s with
 | ⟨.drw ops l,k,L,A,Ts⟩=>match ops.toList[i]? with
  | some o=>match fd N o.dst v L with
   | some L'=>⟨.drw ops (bD l i true),k,L',A,Ts⟩
   | none=>⟨.drw ops l,k,L,A,Ts⟩
  | none=>⟨.drw ops l,k,L,A,Ts⟩
 | s=>s
theorem RD.cp(ix:List Nat)(i:Nat){f:FuncId}{args:Array Value}{v:Value}(hc:∀X,Sp P f args [] (X++(ap s.A s.Ts++F)) (λ u H'=>u=v /\ H'=[]))(hk:RD r P N D F w0 R hards Rd (yU N i v s) Q)
  (h:Qh N hards i s (Ou P N R i s)=some (f,args,[],[],gj (jm s)):=by kernel_rfl) (hix:Ch ix s=Rd:=by kernel_rfl):RD r P N D F w0 R hards Rd s Q:=by
 refine⟨λ hR hs=>?_⟩;obtain⟨c,k,L,A,Ts⟩:=s;cases c with
 | drw ops l =>
  simp only[pR,jm] at hs ⊢ h;generalize hx:Ou P N R i ⟨.drw ops l,k,L,A,Ts⟩=x at h;unfold Qh at h;split at h
  case h_2=>cases h
  rename_i dst f' z_ E Ob;split at h
  case h_2=>cases h
  rename_i X2 iD;simp only[pR,jm,Option.some.injEq,Prod.mk.injEq] at h iD;obtain⟨e1,e2,e3,e4,e5⟩:=h;subst e1;subst e2;subst e3;subst e4;obtain⟨L',hl⟩:=dF X2 v;have Yv:=hx;unfold Ou at Yv;simp only at Yv;have ho:∃o,ops.toList[i]?=some o /\ o.dst=dst:=by
   split at Yv
   ·cases Yv
   rename_i o ho;split at Yv
   case h_2=>cases Yv
   split at Yv
   case h_2=>cases Yv
   split at Yv
   case h_2=>cases Yv
   split at Yv
   case h_2=>cases Yv
   simp only[Option.some.injEq,Prod.mk.injEq] at Yv;exact⟨o,ho,Yv.1⟩
  obtain⟨o,ho,hd⟩:=ho;have TZ:yU N i v ⟨.drw ops l,k,L,A,Ts⟩=⟨.drw ops (bD l i true),k,L',A,Ts⟩:=by
   unfold yU;simp only[ho,hd,hl]
  rw[TZ] at hk;subst hd;show TD P N D F w0 ops hards Rd (gj l) l L (ap A Ts) (NoPanic (mL r P k Q));rw[<- e5];refine DT (v:=v) (L1:=L') hs (by unfold P3 at iD;unfold Qb;simp only[Bool.and_eq_true] at iD ⊢;exact iD.1) (by simpa using ho) (λ a hF=>hF.put hl) (λ a hF=>?_) (λ x hx=>List.mem_append_left _ (vZ ix hix x hx)) (.inl iD) (hk.h hR hs);unfold Ou at hx;simp only[ho] at hx;split at hx
  case h_2=>cases hx
  rename_i ss XA;split at hx
  case h_2=>cases hx
  rename_i alr;split at hx
  case h_2=>cases hx
  rename_i f2 ap6 s2 he;split at hx
  case h_2=>cases hx
  simp only[Option.some.injEq,Prod.mk.injEq] at hx;obtain⟨-,e2,e3,e4,e5⟩:=hx;subst e2;subst e3;obtain⟨a1,a2,a3,a4⟩:=bX XA;obtain⟨d1,d2,d3,d4⟩:=dX he;have UN:∀p∈s2.ob,p:=by rw[e5];intro p hp;cases hp
  have aeP:∀p∈s2.eq,p.1=p.2:=by
   have:s2.eq=[]:=by simpa using e4
   rw[this];intro p hp;cases hp
  obtain⟨c1,c2,c3⟩:=cM XA hF (λ p hp=>UN p (d2 p hp));refine .inl ⟨c1,λ X w f_ hB=>?_⟩;have UD:Rel (ap A Ts++(X++F)) w:=f_.perm (by
   rw[<- List.append_assoc,<- List.append_assoc];exact List.Perm.append_right F List.perm_append_comm)
  obtain⟨w1,r1,r2,r3,r4,r5⟩:=iY (w:=w) (F:=X++F) he aeP UN (by rw[c2];exact UD) (by rw[a3];exact λ y hy=>List.mem_append_right _ (hR y hy)) (λ e=>by rw[a4] at e;cases e);obtain rfl:=r5 a4;unfold dR;rw[hF.exec alr,r1];refine(hc X w1 (by simpa using f_)).mono ?_;rintro e w2 ⟨u,H',rfl,⟨rfl,rfl⟩,h3,h4⟩;exact⟨rfl,by simpa using h3,hB.trans h4⟩
 | code c=>simp[Ou,Qh] at h
 | ops ops i=>simp[Ou,Qh] at h
 | ex e=>simp[Ou,Qh] at h
structure RDO(r:Option Nat)(P:Program)(N:Nat)(D:List Deferred)(F:HL)(w0:World)(R:HL)(hards:List Nat)(Rd:HL)(i:Nat)(s:Cfg)(Q:Exit -> Act -> World -> Prop):Prop where
 h:(∀y∈R,y∈F) -> Region.noSelect (pR s)=true -> ∀a,Fm N D s.L a -> Closed (pR s) ⟨bD (jm s) i true⟩ -> OPJ P (pR s) F w0 hards Rd i a (ap s.A s.Ts) (JJ P (pR s) (NoPanic (mL r P s.k Q)) F w0 hards Rd (gj (bD (jm s) i true)) ⟨bD (jm s) i true⟩)
def Qi(s:Cfg):List Nat:=kT (pR s).toList (jm s)
def RM(i:Nat)(s:Cfg):Nat:=gj (bD (jm s) i true)+1
theorem RD.one(i:Nat)(hk:RDO r P N D F w0 R hards Rd i s Q)(h:(Qi s,gj (jm s))=([i],RM i s):=by kernel_rfl):RD r P N D F w0 R hards Rd s Q:=by
 refine⟨λ hR hs=>?_⟩;simp only[Prod.mk.injEq] at h;exact TD.one i h.1 _ h.2 λ a hF TA=>hk.h hR hs a hF TA
theorem iu(i j:Nat)(h1:RDO r P N D F w0 R hards Rd i s Q)(h2:RDO r P N D F w0 R hards Rd j s Q)(h:(Qi s,gj (jm s),gj (jm s))=([i,j],RM i s,RM j s):=by kernel_rfl):RD r P N D F w0 R hards Rd s Q:=by
 refine⟨λ hR hs=>?_⟩;simp only[Prod.mk.injEq] at h;have e:gj (bD (jm s) i true)=gj (bD (jm s) j true):=by
  have:=h.2.1.symm.trans h.2.2;unfold RM at this;omega
 exact Oq i j h.1 _ h.2.1 (λ a hF TA=>h1.h hR hs a hF TA) (λ a hF TA=>by have:=h2.h hR hs a hF TA;rw[<- e] at this;exact this)
def Fx(P:Program)(n0 N:Nat)(R:HL)(i:Nat)(hints:List Hint)(s:Cfg):Option (Fo × FL × SS):=match s.c with
 | .drw ops l=>match ops.toList[i]? with
  | none=>none
  | some o=>match kD ops.toList o s.L ⟨s.A,R,hints,0,[],[],true⟩ with
   | some (true,ss)=>match jQ o.op s.L with
    | true=>match ev P n0 o (gm s.L) ss with
     | some (.value v,s')=>match fd N o.dst v s.L with
      | some L'=>some (.drw ops (bD l i true),L',s')
      | none=>none
     | some (.skip,s')=>match fd N o.dst undef s.L with
      | some L'=>some (.drw ops (bD l i true),L',s')
      | none=>none
     | _=>none
    | false=>none
   | _=>none
 | _=>none
theorem H5{n0 i:Nat}{hints:List Hint}{ops:Array Oper}{l:List Bool}{k:List KI}{L:FL}{A:HL}{Ts:List HL}{c:Fo}{L':FL}{s':SS}(h:Fx P n0 N R i hints ⟨.drw ops l,k,L,A,Ts⟩=some (c,L',s')) :
  ∃o ss u x,ops[i]?=some o /\ kD ops.toList o L ⟨A,R,hints,0,[],[],true⟩=some (true,ss) /\ jQ o.op L=true /\ ev P n0 o (gm L) ss=some (x,s') /\ (x=.value u \/ (x=.skip /\ u=undef)) /\ fd N o.dst u L=some L' /\ c=.drw ops (bD l i true):=by
 unfold Fx at h;simp only at h;split at h
 ·cases h
 rename_i o ho;split at h
 case h_2=>cases h
 rename_i ss hw;split at h
 case h_2=>cases h
 rename_i iD;split at h
 ·rename_i v s2 he;split at h
  case h_2=>cases h
  rename_i hp;simp only[Option.some.injEq,Prod.mk.injEq] at h;obtain⟨e1,e2,e3⟩:=h;subst e2;subst e3;exact⟨o,ss,v,_,by simpa using ho,hw,iD,he,.inl rfl,hp,e1.symm⟩
 ·rename_i s2 he;split at h
  case h_2=>cases h
  rename_i hp;simp only[Option.some.injEq,Prod.mk.injEq] at h;obtain⟨e1,e2,e3⟩:=h;subst e2;subst e3;exact⟨o,ss,undef,_,by simpa using ho,hw,iD,he,.inr ⟨rfl,rfl⟩,hp,e1.symm⟩
 ·cases h
def Qj(P:Program)(n0 N:Nat)(R:HL)(i:Nat)(hints:List Hint)(s:Cfg):Cfg:=match Fx P n0 N R i hints s with
 | some (c,L',ss)=>match s with
  | ⟨_,k,_,_,Ts⟩=>⟨c,k,L',ss.h,Ts⟩
 | none=>s
def RO(x:Option (Fo × FL × SS)):List Nat:=match x with
 | some (_,_,ss)=>ss.eq.map (·.2)
 | none=>[]
def RP(aaG:Bool)(ix:List Nat)(A A':HL):HL:=match aaG with
 | true=>ix.filterMap (A'[·]?)
 | false=>A'.drop (A'.length-A.length)
def Ov(aaG:Bool)(ix:List Nat)(A:HL)(x:Option (Fo × FL × SS)):Option (List Nat × List Prop × HL):=match x with
 | some (_,_,ss)=>match ss.hints with
  | []=>some (ss.eq.map (·.1),ss.ob,RP aaG ix A ss.h)
  | _=>none
 | none=>none
theorem DW(ix:List Nat){i:Nat}(hints:List Hint)(Ob:Nat -> List Prop)(oF:∀n0,AllP (Ob n0))(hk:∀n0,RD r P N D F w0 R hards Rd (Qj P n0 N R i hints s) Q)
  (h:∀n0,Ov (hards.contains i) ix s.A (Fx P n0 N R i hints s)=some (RO (Fx P n0 N R i hints s),Ob n0,cond (hards.contains i) Rd s.A):=by intro n0;kernel_rfl):RDO r P N D F w0 R hards Rd i s Q:=by
 refine⟨λ hR hs a hF TA=>?_⟩;obtain⟨c,k,L,A,Ts⟩:=s;cases c with
 | code c=>simp[Fx,Ov] at h
 | ops ops i=>simp[Fx,Ov] at h
 | ex e=>simp[Fx,Ov] at h
 | drw ops l =>
  simp only[pR,jm] at hs TA h hF ⊢;have key:∀n0,∃o ss s' u x L',ops[i]?=some o /\ kD ops.toList o L ⟨A,R,hints,0,[],[],true⟩=some (true,ss) /\ jQ o.op L=true /\ ev P n0 o (gm L) ss=some (x,s') /\ (x=.value u \/ (x=.skip /\ u=undef)) /\ fd N o.dst u L=some L' /\
    Qj P n0 N R i hints ⟨.drw ops l,k,L,A,Ts⟩=⟨.drw ops (bD l i true),k,L',s'.h,Ts⟩ /\ (∀p∈s'.eq,p.1=p.2) /\ s'.ob=Ob n0 /\ RP (hards.contains i) ix A s'.h=cond (hards.contains i) Rd A:=by
   intro n0;have h1:=h n0;generalize hx:Fx P n0 N R i hints ⟨.drw ops l,k,L,A,Ts⟩=x at h1;unfold Ov at h1;split at h1
   case h_2=>cases h1
   rename_i c L' s';split at h1
   case h_2=>cases h1
   simp only[RO,Option.some.injEq,Prod.mk.injEq] at h1;obtain⟨e1,e2,e3⟩:=h1;obtain⟨o,ss,u,x,q1,q2,q3,q4,q5,q6,q7⟩:=H5 hx;refine⟨o,ss,s',u,x,L',q1,q2,q3,q4,q5,q6,?_,gR e1 rfl,e2,e3⟩;unfold Qj;rw[hx];subst q7;rfl
  unfold OPJ;obtain⟨o,ss,s',u,x,L',q1,q2,q3,q4,q5,q6,q7,q8,q9,Tj⟩:=key 0;rw[q1];simp only;obtain⟨d1,d2,d3,d4⟩:=dX q4;rw[if_pos (cM q2 hF (λ p hp=>AllP.mem (oF 0) p (by rw[<- q9];exact d2 p hp))).1];intro w f_ hB;obtain⟨o',ss,s',u,x,L',q1',q2,q3,q4,q5,q6,q7,q8,q9,Tj⟩:=key w.heap.size;obtain rfl:o=o':=Option.some.inj (q1.symm.trans q1');obtain⟨a1,a2,a3,a4⟩:=bX q2;obtain⟨d1,d2,d3,d4⟩:=dX q4;have UN:∀p∈s'.ob,p:=by rw[q9];exact AllP.mem (oF _)
  obtain⟨c1,c2,c3⟩:=cM q2 hF (λ p hp=>UN p (d2 p hp));rw[fy] at f_;obtain⟨w1,r1,r2,r3,r4,r5⟩:=iY (w:=w) (F:=Ts.flatten++F) q4 q8 UN (by rw[c2];exact f_) (by rw[a3];exact λ y hy=>List.mem_append_right _ (hR y hy)) (λ _=>by rw[c3];rfl);have hkk:=(hk w.heap.size).h hR;rw[q7] at hkk;have fin:∃H',((i ∉ hards -> ∃X,H'=X++ap A Ts) /\ (i∈hards -> ∀x∈Rd,x∈H')) /\ JJ P ops (NoPanic (mL r P k Q)) F w0 hards Rd (gj (bD l i true)) ⟨bD l i true⟩ (a.put o.dst u) H' /\ Rel (H'++F) w1 /\ Below 0 w0 w1:=by
   refine⟨ap s'.h Ts,⟨λ hi=>?_,λ hi=>?_⟩,hkk hs TA _ (hF.put q6),by rw[fy];exact r2,hB.trans r3⟩
   ·have hc:hards.contains i=false:=by
     cases hq:hards.contains i with
     | false=>rfl
     | true=>exact absurd (List.contains_iff_mem.1 hq) hi
    rw[hc] at Tj;simp only[RP,cond_false] at Tj;refine⟨s'.h.take (s'.h.length-A.length),?_⟩;show s'.h++Ts.flatten=_++(A++Ts.flatten);rw[<- List.append_assoc];congr 1
    conv=>lhs;rw[<- List.take_append_drop (s'.h.length-A.length) s'.h,Tj]
   ·have hc:hards.contains i=true:=List.contains_iff_mem.2 hi;rw[hc] at Tj;simp only[RP,cond_true] at Tj;exact λ x hx=>List.mem_append_left _ (vZ ix Tj x hx)
  unfold dR;rw[hF.exec q3,r1];rcases q5 with rfl|⟨rfl,rfl⟩
  ·exact fin
  ·exact fin
theorem RDO.ev(ix:List Nat){i:Nat}(hints:List Hint)(hk:∀n0,RD r P N D F w0 R hards Rd (Qj P n0 N R i hints s) Q)
 (h:∀n0,Ov (hards.contains i) ix s.A (Fx P n0 N R i hints s)=some (RO (Fx P n0 N R i hints s),[],cond (hards.contains i) Rd s.A):=by intro n0;kernel_rfl):RDO r P N D F w0 R hards Rd i s Q:=DW ix hints (λ _=>[]) (λ _=>trivial) hk h
theorem gS(ix:List Nat){i:Nat}(hints:List Hint)(Ob:List Prop)(hk:∀n0,RD r P N D F w0 R hards Rd (Qj P n0 N R i hints s) Q)(oF:AllP Ob:=by simp only[AllP,aI,and_true,true_and] <;> (repeat' with_reducible refine And.intro ?_ ?_) <;> omega)
 (h:∀n0,Ov (hards.contains i) ix s.A (Fx P n0 N R i hints s)=some (RO (Fx P n0 N R i hints s),Ob,cond (hards.contains i) Rd s.A):=by intro n0;kernel_rfl):RDO r P N D F w0 R hards Rd i s Q:=DW ix hints (λ _=>Ob) (λ _=>oF) hk h
def Qk(P:Program)(n0 N:Nat)(R:HL)(i:Nat)(s:Cfg):Option (Option Tmp × FuncId × Array Value × HL × List Nat × List Nat × List Prop):=match s.c with
 | .drw ops _=>pM P n0 N ops.toList i s.L (ap s.A s.Ts) R []
 | _=>none
theorem mM{i:Nat}{ops:Array Oper}{l:List Bool}{k:List KI}{L:FL}{A:HL}{Ts:List HL}{o:Oper}(ho:ops[i]?=some o){σ:Type}(G:Value -> σ -> Prop)(Ho:σ -> HL)(hl:(fd N o.dst undef L).isSome=true)
  (hg:∀a,Fm N D L a -> Region.wanted o (yielded ops a.tmps)=true /\ ∀w,Rel (ap A Ts++F) w -> Below 0 w0 w -> dR P o a w λ u w'=>∃x,G u x /\ Rel (Ho x++F) w' /\ Below 0 w w')
  (ag3:∀x,(i ∉ hards -> ∃X,Ho x=X++ap A Ts) /\ (i∈hards -> ∀y∈Rd,y∈Ho x))
  (hk:∀v x,G v x -> ∀L',fd N o.dst v L=some L' -> Region.noSelect ops=true -> TD P N D F w0 ops hards Rd (gj (bD l i true)) (bD l i true) L' (Ho x) (NoPanic (mL r P k Q))):RDO r P N D F w0 R hards Rd i ⟨.drw ops l,k,L,A,Ts⟩ Q:=by
 refine⟨λ hR hs a hF TA=>?_⟩;simp only[pR,jm] at hs TA hF ⊢;unfold OPJ;rw[ho];simp only;obtain⟨h1,h2⟩:=hg a hF;rw[if_pos h1];intro w f_ hB;refine fP (h2 w f_ hB) ?_;rintro u w' ⟨x,hx,S6,We⟩;obtain⟨L',X7⟩:=dF hl u;exact⟨Ho x,ag3 x,hk u x hx L' X7 hs TA _ (hF.put X7),S6,hB.trans We⟩
def H6(aaG:Bool)(ix ip jp:List Nat)(s:Cfg)(Rd:HL):HL:=match aaG with
 | true=>ix.filterMap ((fR ip s)[·]?)
 | false=>match ip,jp with
  | [],[]=>Rd
  | _,_=>(0,.obj (.deferred none))::Rd
theorem DX{α:Type}(l:List α):(oth [] l.length).filterMap (l[·]?)=l:=by
 have:oth [] l.length=List.range l.length:=by simp[oth]
 rw[this];exact HY l
theorem H7{L:FL}{H H':HL}{ops:Array Oper}{fuel:Nat}{l:List Bool}(hp:H'.Perm H)(h:TD P N D F w0 ops hards Rd fuel l L H' Q):TD P N D F w0 ops hards Rd fuel l L H Q:=λ TA a hF=>JJ.perm _ _ _ _ _ hp (h TA a hF)
theorem RDO.ct{τ:Type}{i:Nat}(ix ip jp:List Nat){f:FuncId}{args:Array Value}{Hp:HL}{Tp:List HL}{Hq:τ -> HL}{Tq:τ -> List HL}{Rv:Value -> τ -> Prop}
  (hc:Sp P f args (ap Hp Tp) (ap (fR ip s) (gM jp s)++F) (λ v H'=>∃x,H'=ap (Hq x) (Tq x) /\ Rv v x)) (hk:∀v x,Rv v x -> RD r P N D F w0 R hards Rd (zh (λ A=>Hq x++(oth ip A.length).filterMap (A[·]?)) (λ Ts=>Tq x++(oth jp Ts.length).filterMap (Ts[·]?)) (yU N i v s)) Q)
  (h:∀n0,mw N s (Qk P n0 N R i s)=some (f,args,[],[],ap s.A s.Ts):=by intro n0;kernel_rfl)
  (hp:cB ip jp s=true:=by kernel_rfl) (hH:picks ip jp s=(Hp,Tp):=by kernel_rfl) (hx:H6 (hards.contains i) ix ip jp s Rd=Rd:=by kernel_rfl):RDO r P N D F w0 R hards Rd i s Q:=by
 obtain⟨c,k,L,A,Ts⟩:=s;cases c with
 | code c=>simp[Qk,mw] at h
 | ops ops i=>simp[Qk,mw] at h
 | ex e=>simp[Qk,mw] at h
 | drw ops l =>
  refine⟨λ hR=>?_⟩;unfold cB at hp;unfold picks at hH;simp only[Qk,Bool.and_eq_true,Prod.mk.injEq] at h hp hH;obtain⟨e1,e2⟩:=hH;have key:∀n0,∃dst,pM P n0 N ops.toList i L (ap A Ts) R []=some (dst,f,args,ap A Ts,[],[],[]) /\ (fd N dst undef L).isSome=true:=by
   intro n0;have h1:=h n0;generalize hx:pM P n0 N ops.toList i L (ap A Ts) R []=x at h1;unfold mw at h1;split at h1
   case h_2=>cases h1
   rename_i dst f' z_ H1 E E' Ob';split at h1
   case h_2=>cases h1
   rename_i X2;simp only[Option.some.injEq,Prod.mk.injEq] at h1;obtain⟨e1,e2,e3,e4,e5⟩:=h1;subst e1;subst e2;subst e3;subst e4;subst e5;obtain⟨o,s1,s',_,_,_,_,_,_,g1,g2,_⟩:=jS hx;have:s'.eq=[]:=by simpa using g1
   rw[this] at g2;simp only[List.map_nil] at g2;subst g2;exact⟨dst,rfl,X2⟩
  obtain⟨dst,hce,X2⟩:=key 0;obtain⟨o,s1,s',ho,_,_,_,hd,_⟩:=jS hce;subst hd;have Tc:∀n0,pM P n0 N ops.toList i L (ap A Ts) R []=some (o.dst,f,args,ap A Ts,[],[],[]):=by
   intro n0;obtain⟨atC,h1,_⟩:=key n0;obtain⟨o',_,_,S5,_,_,_,WQ,_⟩:=jS h1;obtain rfl:o=o':=Option.some.inj (ho.symm.trans S5);rw[WQ];exact h1
  have AI:(ap Hp Tp++ap (fR ip ⟨.drw ops l,k,L,A,Ts⟩) (gM jp ⟨.drw ops l,k,L,A,Ts⟩)).Perm (ap A Ts):=by
   have h1:=nK A Ts ip (oth ip A.length) jp (oth jp Ts.length) hp.1 hp.2;rw[e1,e2] at h1;exact h1
  have TZ:∀v L',fd N o.dst v L=some L' -> yU N i v ⟨.drw ops l,k,L,A,Ts⟩=⟨.drw ops (bD l i true),k,L',A,Ts⟩:=by
   intro v L' hl;unfold yU;simp only[ho,hl]
  have hTD:∀v x,Rv v x -> ∀L',fd N o.dst v L=some L' -> Region.noSelect ops=true -> TD P N D F w0 ops hards Rd (gj (bD l i true)) (bD l i true) L' (ap (Hq x++(oth ip A.length).filterMap (A[·]?)) (Tq x++(oth jp Ts.length).filterMap (Ts[·]?))) (NoPanic (mL r P k Q)):=by
   intro v x hv L' hl hs;have h1:=(hk v x hv).h hR;rw[TZ v L' hl] at h1;exact h1 hs
  have al1:∀a,Fm N D L a -> Region.wanted o (yielded ops a.tmps)=true /\ ∀w,Rel (ap A Ts++F) w -> Below 0 w0 w -> dR P o a w λ u w'=>∃x,Rv u x /\ Rel ((ap (Hq x) (Tq x)++ap (fR ip ⟨.drw ops l,k,L,A,Ts⟩) (gM jp ⟨.drw ops l,k,L,A,Ts⟩))++F) w' /\ Below 0 w w':=by
   intro a hF;obtain⟨h1,h2⟩:=Cb (w0:=w0) ho Tc hR trivial AI hc a hF;refine⟨h1,λ w hR hB=>fP (h2 w hR hB) ?_⟩;rintro u w' ⟨H',⟨x,rfl,hv⟩,VS,Yn⟩;exact⟨x,hv,VS,Yn⟩
  have ag0:∀x,(ap (Hq x) (Tq x)++ap (fR ip ⟨.drw ops l,k,L,A,Ts⟩) (gM jp ⟨.drw ops l,k,L,A,Ts⟩)).Perm (ap (Hq x++(oth ip A.length).filterMap (A[·]?)) (Tq x++(oth jp Ts.length).filterMap (Ts[·]?))):=by
   intro x;have h1:=xu (Hq x) (fR ip ⟨.drw ops l,k,L,A,Ts⟩) (Tq x) (gM jp ⟨.drw ops l,k,L,A,Ts⟩) [];rw[List.append_nil,List.append_nil] at h1;exact h1
  refine(mM (by simpa using ho) (λ v x=>Rv v x) (λ x=>ap (Hq x) (Tq x)++ap (fR ip ⟨.drw ops l,k,L,A,Ts⟩) (gM jp ⟨.drw ops l,k,L,A,Ts⟩)) X2 al1 (λ x=>⟨λ hi=>?_,λ hi y hy=>?_⟩) (λ v x hv L' hl hs=>H7 (ag0 x).symm (hTD v x hv L' hl hs)):RDO r P N D F w0 R hards Rd i ⟨.drw ops l,k,L,A,Ts⟩ Q).h hR
  ·have hc:hards.contains i=false:=by
    cases hq:hards.contains i with
    | false=>rfl
    | true=>exact absurd (List.contains_iff_mem.1 hq) hi
   rw[hc] at hx;unfold H6 at hx;simp only at hx;split at hx
   ·refine⟨ap (Hq x) (Tq x),?_⟩;unfold fR gM;show _++ap ((oth [] A.length).filterMap (A[·]?)) ((oth [] Ts.length).filterMap (Ts[·]?))=_;rw[DX,DX]
   ·exact absurd hx (by simp)
  ·rw[List.contains_iff_mem.2 hi] at hx;simp only[H6] at hx;exact List.mem_append_right _ (List.mem_append_left _ (vZ ix hx y hy))
def NM(V:Inv)(ip jp:List Nat)(s:Cfg):(List (Option Value) × HL × List HL) × Bool × Bool:=(xy V ip jp s,cB ip jp s,Fw s)
def Sa(V:Inv)(s:Cfg):Cfg:=match s with
 | ⟨_,k,_,_,_⟩=>⟨.ex .normal,k,V.L,V.A,V.Ts⟩
theorem mN{σ:Type}(V:σ -> Inv)(k:∀x,RN r P N D F w0 R (Sa (V x) s) Q)(h:(∀ {s':Cfg} (x:σ) (ip jp:List Nat),(h:NM (V x) ip jp s'=(pQ (V x),true,true):=by kernel_rfl) -> (e:s'.k=s.k:=by kernel_rfl) -> RD r P N D F w0 R hards Rd s' Q) -> RD r P N D F w0 R hards Rd s Q):RD r P N D F w0 R hards Rd s Q:=by
 refine h λ {s'} x ip jp hm e=>?_;unfold NM at hm;simp only[Prod.mk.injEq] at hm;obtain⟨m1,m2,m3⟩:=hm;refine RD.fin ⟨λ hR a w h1 h2 h3=>?_⟩ m3;obtain⟨c,k',L,A,Ts⟩:=s';simp only at e;subst e;cases c with
 | drw ops l =>
  obtain⟨k1,k2⟩:=tu (s:=⟨.drw ops l,s.k,L,A,Ts⟩) m1 m2 h1 h2;exact(k x).h hR a w k1 k2 h3
 | code c=>simp[Fw] at m3
 | ops ops i=>simp[Fw] at m3
 | ex e=>simp[Fw] at m3
end
section
variable {r:Option Nat} {P:Program} {N:Nat} {D:List Deferred} {F:HL} {w0:World} {R:HL} {s:Cfg} {Q:Exit -> Act -> World -> Prop} {hards:List Nat} {Rd:HL}
def Ql(i:Nat)(b:Blk)(s:Cfg):Cfg:=match s with
 | ⟨c,k,L,A,Ts⟩=>⟨c,k,L,match A[i]? with|some x=>bD A i (x.1,b)|none=>A,Ts⟩
theorem qK{A:HL}{i:Nat}{x:Nat × Blk}{b:Blk}(h:A[i]?=some x)(e:x.2.den=b.den):fo A=fo (bD A i (x.1,b)):=by
 rw[pJ];unfold fo;rw[List.map_set];have h1:(A.map λ x=>(x.1,x.2.den))[i]?=some (x.1,b.den):=by rw[List.getElem?_map,h];simp[e]
 have iS:i<(A.map λ x=>(x.1,x.2.den)).length:=(List.getElem?_eq_some_iff.1 h1).1;have h2:(x.1,b.den)=(A.map λ x=>(x.1,x.2.den))[i]:=((List.getElem?_eq_some_iff.1 h1).2).symm;show _=(A.map λ x=>(x.1,x.2.den)).set i (x.1,b.den);rw[h2,List.set_getElem_self]
def Qm(i:Nat)(s:Cfg):Option Obj:=(s.A[i]?).map (·.2.den)
theorem RN.dn(i:Nat)(b:Blk)(hk:RN r P N D F w0 R (Ql i b s) Q)(h:Qm i s=some b.den:=by kernel_rfl):RN r P N D F w0 R s Q:=by
 refine⟨λ hR a w h1 h2 h3=>hk.h hR a w h1 ?_ h3⟩;obtain⟨c,k,L,A,Ts⟩:=s;unfold Qm at h;simp only[Option.map_eq_some_iff] at h;obtain⟨x,hx,e⟩:=h;unfold Ql;simp only[hx];exact h2.denA (qK hx e)
theorem RD.dn(i:Nat)(b:Blk)(hk:RD r P N D F w0 R hards Rd (Ql i b s) Q)(h:Qm i s=some b.den:=by kernel_rfl):RD r P N D F w0 R hards Rd s Q:=by
 refine⟨λ hR hs=>?_⟩;obtain⟨c,k,L,A,Ts⟩:=s;unfold Qm at h;simp only[Option.map_eq_some_iff] at h;obtain⟨x,hx,e⟩:=h;have h1:=hk.h hR hs;unfold Ql at h1;simp only[hx] at h1;exact TD.den _ (qK hx e) h1
def ptC(jp:List Nat)(s:Cfg):Cfg:=match s with
 | ⟨c,k,L,A,Ts⟩=>⟨c,k,L,A,jp.filterMap (Ts[·]?)⟩
theorem tw(jp:List Nat)(hk:RN r P N D F w0 R (ptC jp s) Q)(h:jp.isPerm (List.range s.Ts.length)=true:=by kernel_rfl):RN r P N D F w0 R s Q :=
 ⟨λ hR a w h1 h2 h3=>hk.h hR a w h1 (h2.perm ((HW jp h rfl).append_right F)) h3⟩
def otC(j:Nat)(x:Nat × Blk)(s:Cfg):Cfg:=match s with
 | ⟨c,k,L,A,Ts⟩=>⟨c,k,L,x::A,(oth [j] Ts.length).filterMap (Ts[·]?)⟩
theorem pS(j:Nat){x:Nat × Blk}(hk:RN r P N D F w0 R (otC j x s) Q)(h:(s.Ts[j]?,([j]++oth [j] s.Ts.length).isPerm (List.range s.Ts.length))=(some [x],true):=by kernel_rfl):RN r P N D F w0 R s Q:=by
 simp only[Prod.mk.injEq] at h;exact⟨λ hR a w h1 h2 h3=>hk.h hR a w h1 (h2.perm ((Cc _ j h.2 h.1 rfl).append_right F)) h3⟩
def jtC(s:Cfg):Cfg:=match s with
 | ⟨c,k,L,A,T1::T2::Ts⟩=>⟨c,k,L,A,(T1++T2)::Ts⟩
 | s=>s
theorem wb(hk:RN r P N D F w0 R (jtC s) Q):RN r P N D F w0 R s Q:=by
 refine⟨λ hR a w h1 h2 h3=>?_⟩;have h4:=hk.h hR a w;unfold jtC at h4;split at h4
 ·exact h4 h1 (by simpa [ap] using h2) h3
 ·exact h4 h1 h2 h3
def ntC(s:Cfg):Cfg:=match s with
 | ⟨c,k,L,A,Ts⟩=>⟨c,k,L,A,[]::Ts⟩
theorem RN.nt(hk:RN r P N D F w0 R (ntC s) Q):RN r P N D F w0 R s Q:=⟨λ hR a w h1 h2 h3=>hk.h hR a w h1 h2 h3⟩
theorem RD.nt(hk:RD r P N D F w0 R hards Rd (ntC s) Q):RD r P N D F w0 R hards Rd s Q:=by
 obtain⟨c,k,L,A,Ts⟩:=s;exact⟨λ hR hs=>hk.h hR hs⟩
def svC(t:Nat)(v:Value)(s:Cfg):Cfg:=match s with
 | ⟨c,k,L,A,Ts⟩=>⟨c,k,(t,v)::L,A,Ts⟩
theorem aC(t:Nat){u v:Value}(e:u=v)(hk:RN r P N D F w0 R (svC t v s) Q)(h:s.L.lookup t=some u:=by kernel_rfl):RN r P N D F w0 R s Q:=by
 subst e;exact⟨λ hR a w h1 h2 h3=>hk.h hR a w (h1.fix h) h2 h3⟩
def bvC(i:Nat)(b:Blk)(s:Cfg):Cfg:=match s with
 | ⟨c,k,L,A,Ts⟩=>⟨c,k,L,match A[i]? with|some x=>bD A i (x.1,b)|none=>A,Ts⟩
theorem RN.bv(i:Nat){b b':Blk}(e:b=b')(hk:RN r P N D F w0 R (bvC i b' s) Q)(h:(s.A[i]?).map (·.2)=some b:=by kernel_rfl):RN r P N D F w0 R s Q:=by
 subst e;refine⟨λ hR a w h1 h2 h3=>hk.h hR a w h1 ?_ h3⟩;obtain⟨c,k,L,A,Ts⟩:=s;simp only[Option.map_eq_some_iff] at h;obtain⟨x,hx,e⟩:=h;unfold bvC;simp only[hx];refine h2.denA (qK hx (by rw[e]))
variable {α:Type} {e:Enc α} {T:TypeId} {inf:TypeInfo} {z:Value}
def LX(P:Program)(o:Oper)(L:FL):Option (Option Addr × Nat × Nat × TypeId × Option Addr × Nat × Nat × TypeId):=match o.guard,o.op with
 | none,.call c=>match c.callee,c.args.toList,c.argTypes.toList with
  | .builtin .append,[a1,a2],[t,tx]=>match iT L a1 && iT L a2,gm L a1,gm L a2 with
   | true,.slice A n cap,.slice B m c'=>match P.underlying t,P.underlying tx with
    | some (.slice T),some (.slice _)=>some (A,n,cap,T,B,m,c',tx)
    | _,_=>none
   | _,_,_=>none
  | _,_,_=>none
 | _,_=>none
theorem wc{o:Oper}{L:FL}{A:Option Addr}{n cap:Nat}{B:Option Addr}{m c':Nat}{tx:TypeId}(h:LX P o L=some (A,n,cap,T,B,m,c',tx)) :
  ∃a1 a2 t e',o.guard=none /\ o.op=.call { callee:=.builtin .append,args:=#[a1,a2],argTypes:=#[t,tx] } /\ (iT L a1 && iT L a2)=true /\ gm L a1=.slice A n cap /\ gm L a2=.slice B m c' /\ P.underlying t=some (.slice T) /\ P.underlying tx=some (.slice e'):=by
 unfold LX at h;split at h
 case h_2=>cases h
 rename_i c hg S8;split at h
 case h_2=>cases h
 rename_i a1 a2 t tx' h1 h2 h3;split at h
 case h_2=>cases h
 rename_i A' n' g_ B' m' c2 h4 h5 h6;split at h
 case h_2=>cases h
 rename_i T' e' h7 h8;simp only[Option.some.injEq,Prod.mk.injEq] at h;obtain⟨e1,e2,e3,e4,e5,e6,e7,e8⟩:=h;subst e1;subst e2;subst e3;subst e4;subst e5;subst e6;subst e7;subst e8;refine⟨a1,a2,t,e',hg,?_,h4,h5,h6,h7,h8⟩;obtain⟨cal,args,ats⟩:=c;simp only at h1 h2 h3;subst h1;have:args=#[a1,a2]:=by cases args;simp_all
 subst this;have:ats=#[t,tx']:=by cases ats;simp_all
 subst this;exact S8
def i7(s:Cfg):Option Oper:=match s.c with
 | .ops ops i=>ops.toList[i]?
 | _=>none
def mO(i:Nat)(s:Cfg):Option Oper:=match s.c with
 | .drw ops _=>ops.toList[i]?
 | _=>none
def Ow(p:Nat)(s:Cfg):Option (Nat × List Value):=match s.A[p]? with
 | some (b,.lit cs _ _)=>some (b,cs)
 | _=>none
def Fy(P:Program)(N j p:Nat)(oo:Option Oper)(s:Cfg):Option (Option Addr × Nat × Nat × TypeId × Nat × List Value × HL × Nat):=match oo with
 | some o=>match LX P o s.L,Ow p s,s.Ts[j]?,([j]++oth [j] s.Ts.length).isPerm (List.range s.Ts.length) && (fd N o.dst undef s.L).isSome with
  | some (A,n,cap,T,some ⟨b,0,none⟩,m,_,_),some (_,cs),some Hl,true=>some (A,n,cap,T,m,cs,Hl,b)
  | _,_,_,_=>none
 | none=>none
def Fz(p:Nat)(s:Cfg):Nat:=match Ow p s with
 | some (b,_)=>b
 | none=>0
theorem nM{j p:Nat}{oo:Option Oper}{A:Option Addr}{n cap m:Nat}{cs:List Value}{Hl:HL}(h:Fy P N j p oo s=some (A,n,cap,T,m,cs,Hl,Fz p s)) :
  ∃o a1 a2 t tx e' c' b ty fz,oo=some o /\ o.guard=none /\ o.op=.call { callee:=.builtin .append,args:=#[a1,a2],argTypes:=#[t,tx] } /\ (iT s.L a1 && iT s.L a2)=true /\ gm s.L a1=.slice A n cap /\ gm s.L a2=.slice (some ⟨b,0,none⟩) m c' /\ P.underlying t=some (.slice T) /\ P.underlying tx=some (.slice e') /\
   s.A[p]?=some (b,.lit cs ty fz) /\ s.Ts[j]?=some Hl /\ ([j]++oth [j] s.Ts.length).isPerm (List.range s.Ts.length)=true /\ (fd N o.dst undef s.L).isSome=true:=by
 unfold Fy at h;split at h
 case h_2=>cases h
 rename_i o;split at h
 case h_2=>cases h
 rename_i A' n' g_ T' b m' c' tx b' cs' AT h1 h2 h3 h4;simp only[Option.some.injEq,Prod.mk.injEq] at h;obtain⟨e1,e2,e3,e4,e5,e6,e7,e8⟩:=h;subst e1;subst e2;subst e3;subst e4;subst e5;subst e6;subst e7;obtain⟨a1,a2,t,e',q1,q2,q3,q4,q5,q6,q7⟩:=wc h1;rw[Bool.and_eq_true] at h4;unfold Fz at e8;rw[h2] at e8;simp only at e8;subst e8;unfold Ow at h2;split at h2
 case h_2=>cases h2
 rename_i b2 cs2 ty fz h5;simp only[Option.some.injEq,Prod.mk.injEq] at h2;obtain⟨e1,e2⟩:=h2;subst e1;subst e2;exact⟨o,a1,a2,t,tx,e',c',_,ty,fz,rfl,q1,q2,q3,q4,q5,q6,q7,h5,h3,h4.1,h4.2⟩
def Ox(j:Nat)(Hl:HL)(s:Cfg):Cfg:=match s with
 | ⟨c,k,L,A,Ts⟩=>⟨c,k,L,A,Hl::(oth [j] Ts.length).filterMap (Ts[·]?)⟩
theorem iw{A:HL}{Ts:List HL}{Hl:HL}{j:Nat}(hj:Ts[j]?=some Hl)(hp:([j]++oth [j] Ts.length).isPerm (List.range Ts.length)=true):(Hl++(A++((oth [j] Ts.length).filterMap (Ts[·]?)).flatten)).Perm (ap A Ts):=by
 have h3:=fE Ts [j] _ hp;simp only[List.filterMap_cons,hj,List.filterMap_nil] at h3;have h4:=h3.flatten;simp only[List.cons_append,List.nil_append,List.flatten_cons] at h4;refine List.Perm.trans ?_ (List.Perm.append_left A h4);rw[<- List.append_assoc,<- List.append_assoc];exact List.Perm.append_right _ List.perm_append_comm
theorem fG(ok:EncOk e P T inf z)(l src:List α)(j p:Nat){A:Option Addr}{n cap:Nat}{Hl:HL}(hn:n=l.length)(VX:SlIs e T l A cap Hl)(hb:l.length+src.length <= 100000000)
  (hk:∀ (A':Option Addr) (g_:Nat) (AT:HL),(SlIs e T (l++src) A' g_ AT /\ (bA A -> bA A')) -> RN r P N D F w0 R (Ox j AT (eR N (.slice A' (n+src.length) g_) s)) Q)
  (h:Fy P N j p (i7 s) s=some (A,n,cap,T,src.length,aw e src,Hl,Fz p s):=by kernel_rfl):RN r P N D F w0 R s Q:=by
 obtain⟨o,a1,a2,t,tx,e',c',b,ty,fz,q0,q1,q2,q3,q4,q5,q6,q7,q8,q9,Tj,Ux⟩:=nM h;refine⟨λ hR a w hF f_ hB=>?_⟩;obtain⟨c,k,L,B,Ts⟩:=s;unfold i7 at q0;cases c with
 | code c=>cases q0
 | ex c=>cases q0
 | drw _ _=>cases q0
 | ops ops i =>
  simp only at q0 q3 q4 q5 q8 q9 Tj Ux hF f_;have AS:ops.toList.drop i=o::ops.toList.drop (i+1):=by
   have iS:i<ops.toList.length:=(List.getElem?_eq_some_iff.1 q0).1;rw[List.drop_eq_getElem_cons iS,(List.getElem?_eq_some_iff.1 q0).2]
  show wpListIn _ _ _ _ _ _ _ _;rw[AS,wpListIn,if_pos (by simp[Region.wanted,q1])];refine⟨λ _ _=>trivial,?_⟩;have AI:=iw (A:=B) q9 Tj;refine fQ (by rw[q2];intro c hc;cases hc) (qI (x:=vS b 0 src.length c') (src:=src) (G:=B++((oth [j] Ts.length).filterMap (Ts[·]?)).flatten) ok q2 q6 q3 q4 hn q5 AI VX (λ w hw=>sO ok q7 p (by rw[List.getElem?_append_left (List.getElem?_eq_some_iff.1 q8).1];exact q8) hw) hb a hF w f_) ?_;rintro u w' ⟨⟨A',g_,AT⟩,⟨rfl,XW⟩,S6,We⟩;obtain⟨L',p1⟩:=dF Ux (.slice A' (n+src.length) g_);have hh:=(hk A' g_ AT XW).h hR;have TZ:eR N (.slice A' (n+src.length) g_) ⟨.ops ops i,k,L,B,Ts⟩=⟨.ops ops (i+1),k,L',B,Ts⟩:=by
   unfold eR;simp only[q0,p1]
  rw[TZ] at hh;refine hh _ w' (hF.put p1) (S6.perm (List.Perm.append_right F ?_)) (hB.trans We);show (B++(AT::(oth [j] Ts.length).filterMap (Ts[·]?)).flatten).Perm _;rw[List.flatten_cons,<- List.append_assoc,<- List.append_assoc];exact List.Perm.append_right _ List.perm_append_comm
theorem xz{i:Nat}(ix:List Nat)(ok:EncOk e P T inf z)(l src:List α)(j p:Nat){A:Option Addr}{n cap:Nat}{Hl:HL}(hn:n=l.length)(VX:SlIs e T l A cap Hl)(hb:l.length+src.length <= 100000000)
  (hk:∀ (A':Option Addr) (g_:Nat) (AT:HL),(SlIs e T (l++src) A' g_ AT /\ (bA A -> bA A')) -> RD r P N D F w0 R hards Rd (Ox j AT (yU N i (.slice A' (n+src.length) g_) s)) Q)
  (h:Fy P N j p (mO i s) s=some (A,n,cap,T,src.length,aw e src,Hl,Fz p s):=by kernel_rfl) (hx:(hards.contains i,Ch ix s)=(true,Rd):=by kernel_rfl):RDO r P N D F w0 R hards Rd i s Q:=by
 obtain⟨o,a1,a2,t,tx,e',c',b,ty,fz,q0,q1,q2,q3,q4,q5,q6,q7,q8,q9,Tj,Ux⟩:=nM h;obtain⟨c,k,L,B,Ts⟩:=s;unfold mO at q0;simp only[Prod.mk.injEq] at hx;cases c with
 | code c=>cases q0
 | ex c=>cases q0
 | ops _ _=>cases q0
 | drw ops li =>
  refine⟨λ hR=>?_⟩;simp only at q0 q3 q4 q5 q8 q9 Tj Ux;have AI:=iw (A:=B) q9 Tj;have TZ:∀v L',fd N o.dst v L=some L' -> yU N i v ⟨.drw ops li,k,L,B,Ts⟩=⟨.drw ops (bD li i true),k,L',B,Ts⟩:=by
   intro v L' hl;unfold yU;simp only[q0,hl]
  refine(mM (Q:=Q) (by simpa using q0) (σ:=Option Addr × Nat × HL) (λ u y=>u=.slice y.1 (n+src.length) y.2.1 /\ (SlIs e T (l++src) y.1 y.2.1 y.2.2 /\ (bA A -> bA y.1))) (λ y=>ap B (y.2.2::(oth [j] Ts.length).filterMap (Ts[·]?))) Ux (λ a hF=>⟨by simp[Region.wanted,q1],λ w f_ hB=>?_⟩) (λ y=>⟨λ hi=>?_,λ hi x hm=>List.mem_append_left _ (vZ ix hx.2 x hm)⟩) ?_:RDO r P N D F w0 R hards Rd i ⟨.drw ops li,k,L,B,Ts⟩ Q).h hR
  ·refine fP (qI (x:=vS b 0 src.length c') (src:=src) (G:=B++((oth [j] Ts.length).filterMap (Ts[·]?)).flatten) ok q2 q6 q3 q4 hn q5 AI VX (λ w hw=>sO ok q7 p (by rw[List.getElem?_append_left (List.getElem?_eq_some_iff.1 q8).1];exact q8) hw) hb a hF w f_) ?_;rintro u w' ⟨y,h3,S6,We⟩;refine⟨y,h3,S6.perm (List.Perm.append_right F ?_),We⟩;show (B++(y.2.2::(oth [j] Ts.length).filterMap (Ts[·]?)).flatten).Perm _;rw[List.flatten_cons,<- List.append_assoc,<- List.append_assoc];exact List.Perm.append_right _ List.perm_append_comm
  ·exact absurd (List.contains_iff_mem.1 hx.1) hi
  ·rintro u ⟨A',g_,AT⟩ ⟨rfl,h3⟩ L' hl hs;have h1:=(hk A' g_ AT h3).h hR;rw[TZ _ L' hl] at h1;exact h1 hs
end
open Go.Shelf
section
variable {r:Option Nat} {P:Program} {N:Nat} {D:List Deferred} {F:HL} {w0:World} {R:HL} {s:Cfg} {Q:Exit -> Act -> World -> Prop}
def H8(P:Program)(n0 N:Nat)(R:HL)(s:Cfg):Option (Option Tmp × Nat × Array Value × List Prop):=match s.c with
 | .ops ops i=>Cd P n0 N ops.toList i s.L (ap s.A s.Ts) R []
 | _=>none
def H9(N j:Nat)(s:Cfg)(x:Option (Option Tmp × Nat × Array Value × List Prop)):Option (Nat × Array Value × List Prop × HL):=match x with
 | some (dst,l,args,Ob)=>match s.Ts[j]?,([j]++oth [j] s.Ts.length).isPerm (List.range s.Ts.length) && (fd N dst undef s.L).isSome with
  | some T,true=>some (l,args,Ob,T)
  | _,_=>none
 | none=>none
theorem RN.yield(j:Nat){l:Nat}{args:Array Value}{T:HL}{Rv:Bool -> HL -> Prop}(hc:YL P l args T (ap s.A (gM [j] s)++F) Rv)(hk:∀b H',Rv b H' -> RN r P N D F w0 R (Ox j H' (eR N (.bool b) s)) Q)
  (h:∀n0,H9 N j s (H8 P n0 N R s)=some (l,args,[],T):=by intro n0;kernel_rfl):RN r P N D F w0 R s Q:=by
 refine⟨λ hR a w hF f_ hB=>?_⟩;have h':=h w.heap.size;obtain⟨cc,k,L,A,Ts⟩:=s;cases cc with
 | code c=>simp[H8,H9] at h'
 | ex c=>simp[H8,H9] at h'
 | drw _ _=>simp[H8,H9] at h'
 | ops ops i =>
 simp only[H8] at h' hF f_;generalize hx:Cd P w.heap.size N ops.toList i L (ap A Ts) R []=x at h';unfold H9 at h';split at h'
 case h_2=>cases h'
 rename_i dst l' z_ Ob';split at h'
 case h_2=>cases h'
 rename_i T' hj hpp;simp only[Option.some.injEq,Prod.mk.injEq] at h';obtain⟨e1,e2,e3,e4⟩:=h';subst e1;subst e2;subst e3;subst e4;simp only at hj hpp;rw[Bool.and_eq_true] at hpp;have h':=hx;unfold Cd at h';split at h'
 ·cases h'
 rename_i o ho;split at h'
 case h_2=>cases h'
 rename_i ss hw;split at h'
 case h_2=>cases h'
 rename_i iD hh he;split at h'
 case h_2=>cases h'
 rename_i c S8;split at h'
 case h_2=>cases h'
 rename_i f UR;split at h'
 case h_2=>cases h'
 rename_i l2 cap bound hf;split at h'
 case h_2=>cases h'
 rename_i e1 e2;simp only[Option.some.injEq,Prod.mk.injEq] at h';obtain⟨d1,d2,d3,d4⟩:=h';subst d2;have hcap:cap=#[]:=by cases cap;simp_all
 have amq:bound=#[]:=by cases bound;simp_all
 subst hcap;subst amq;have AS:ops.toList.drop i=o::ops.toList.drop (i+1):=by
  have iS:i<ops.toList.length:=(List.getElem?_eq_some_iff.1 ho).1;rw[List.drop_eq_getElem_cons iS,(List.getElem?_eq_some_iff.1 ho).2]
 show wpListIn _ _ _ _ _ _ _ _;rw[AS,wpListIn];have UN:∀p∈ss.ob,p:=by rw[d4];intro p hp;cases hp
 obtain⟨c1,c2,c3⟩:=cM hw hF UN;rw[if_pos c1];refine⟨λ _ _=>trivial,?_⟩;rw[hF.sem iD];have AI:=iw (A:=A) hj hpp.1;have S6:Rel (T'++(ap A ((oth [j] Ts.length).filterMap (Ts[·]?))++F)) w:=by rw[<- List.append_assoc];exact f_.perm (AI.symm.append_right F).symm
 obtain⟨fn,tmps,assign,body,hy,aeo⟩:=hc w S6;rw[Ce S8 UR hf,d3,hy,Oper.uponIn_round];refine⟨λ h=>(by cases h),RoundIn.mono (show RoundIn (Wr r) (0-1) P l2 fn tmps assign body w _ from aeo) ?_⟩;rintro e W' ⟨b,H',rfl,hv,VS,Yn⟩;obtain⟨L',p1⟩:=dF hpp.2 (.bool b);have hh:=(hk b H' hv).h hR;have TZ:eR N (.bool b) ⟨.ops ops i,k,L,A,Ts⟩=⟨.ops ops (i+1),k,L',A,Ts⟩:=by
  unfold eR;rw[<- d1] at p1;simp only[ho,p1]
 rw[TZ] at hh;rw[<- d1] at p1;refine hh _ W' (hF.put p1) (VS.perm ?_) (hB.trans Yn);rw[<- List.append_assoc];refine List.Perm.append_right F ?_;show (A++(H'::(oth [j] Ts.length).filterMap (Ts[·]?)).flatten).Perm (H'++(A++((oth [j] Ts.length).filterMap (Ts[·]?)).flatten));rw[List.flatten_cons,<- List.append_assoc,<- List.append_assoc];exact List.Perm.append_right _ List.perm_append_comm
theorem RN.rn{σ:Type}{Ax:σ -> HL}{Tx:σ -> List HL}{I:σ -> Prop}{Ix:Code -> σ -> Prop}(x:σ)(ip jp:List Nat)(hi:I x)(hc:(match s.c,s.k with | .ex .normal,[]=>true|_,_=>false)=true:=by kernel_rfl)
  (hp:cB ip jp s=true:=by kernel_rfl) (hH:picks ip jp s=(Ax x,Tx x):=by kernel_rfl):RN r P N D F w0 R s (RQ F w0 (λ x=>ap (Ax x) (Tx x)) I Ix):=by
 unfold cB at hp;unfold picks at hH;rw[Bool.and_eq_true] at hp;simp only[Prod.mk.injEq] at hH;refine⟨λ hR a w h1 h2 h3=>?_⟩;obtain⟨c,k,L,A,Ts⟩:=s;split at hc
 case h_2=>cases hc
 rename_i e1 e2;simp only at e1 e2;subst e1;subst e2;exact⟨x,hi,h2.takeT ip _ jp _ hp.1 hp.2 (by rw[hH.1,hH.2]),h3⟩
theorem RN.rr{σ:Type}{Ax:σ -> HL}{Tx:σ -> List HL}{I:σ -> Prop}{Ix:Code -> σ -> Prop}(x:σ)(ip jp:List Nat)(hi:Ix .ret x)(hc:(match s.c with | .code .ret=>true|_=>false)=true:=by kernel_rfl)
  (hp:cB ip jp s=true:=by kernel_rfl) (hH:picks ip jp s=(Ax x,Tx x):=by kernel_rfl):RN r P N D F w0 R s (RQ F w0 (λ x=>ap (Ax x) (Tx x)) I Ix):=by
 unfold cB at hp;unfold picks at hH;rw[Bool.and_eq_true] at hp;simp only[Prod.mk.injEq] at hH;refine⟨λ hR a w h1 h2 h3=>?_⟩;obtain⟨c,k,L,A,Ts⟩:=s;split at hc
 case h_2=>cases hc
 rename_i e1;simp only at e1;subst e1;exact wpIn_ret (jX k ⟨x,hi,h2.takeT ip _ jp _ hp.1 hp.2 (by rw[hH.1,hH.2]),h3⟩)
end
section
variable {P:Program} {N:Nat} {D:List Deferred} {F:HL} {w0:World} {R:HL} {s:Cfg} {Q:Exit -> Act -> World -> Prop}
def oz(s:Cfg):Option (Value × Nat):=match s.c with
 | .code (.rangeFunc g ps _ _)=>match iT s.L g with
  | true=>some (gm s.L g,ps.size)
  | false=>none
 | _=>none
def LY(N:Nat)(s:Cfg):Bool:=match s.c with
 | .code (.rangeFunc _ ps _ _)=>ps.toList.all λ p=>decide (p<N)
 | _=>false
def Qn(K:Act -> World -> Prop)(vs:List Value)(A:HL)(Ts:List HL)(s:Cfg):Cfg:=match s with
 | ⟨.code (.rangeFunc _ ps assign _),_,L,_,_⟩=>⟨.code assign,[.met K],so ps.toList vs L,A,Ts⟩
 | s=>s
def Qo(V:Inv)(s:Cfg):Cfg:=match s with
 | ⟨.code (.rangeFunc _ _ _ body),_,_,_,_⟩=>⟨.code body,[],V.L,V.A,V.Ts⟩
 | s=>s
def Qp(c:Fo)(d:Nat)(ip jp:List Nat)(A:HL)(Ts:List HL)(s:Cfg):Cfg:=match s with
 | ⟨_,k,L,A',XK⟩=>⟨c,k,L,cR d::(A++(oth ip A'.length).filterMap (A'[·]?)),Ts++(oth jp XK.length).filterMap (XK[·]?)⟩
theorem RN.range{α σ τ:Type}{encs:α -> Array Value}{xs:List α}{gf:FuncId}{lb:Array Value}(eg:∀args w,(callFunc gf args).run P w=.ok (.enter gf args) w)
  (S:σ -> HL × List HL) (I:Nat -> σ -> Prop) (Ix:Code -> σ -> Prop) (W:τ -> Inv) (Ia:Nat -> α -> τ -> Prop) (x0:σ) (h0:I 0 x0) (ip jp:List Nat)
  (hit:It P gf lb (ap (fR ip s) (gM jp s)++F) encs xs)
  (IS:∀ (l i:Nat) (x:α) (s1:σ) (Y:HL) (w1:World),xs[i]?=some x -> I i s1 ->
   (∀ {s':Cfg} {R':HL} (t:τ) (ip' jp':List Nat),Ia i x t -> (hm:Ft s'=some (MV N [] (Y++(ap (fR ip s) (gM jp s)++F)) w1 W (Ia i x)):=by kernel_rfl) -> (h:xy (W t) ip' jp' s'=pQ (W t):=by kernel_rfl) -> (hp:cB ip' jp' s'=true:=by kernel_rfl) -> RN (some l) P N [] (Y++(ap (fR ip s) (gM jp s)++F)) w1 R' s' (λ _ _ _=>False)) ->
   RN (some l) P N [] (Y++(ap (fR ip s) (gM jp s)++F)) w1 (fR ip s++R) (Qn (MV N [] (Y++(ap (fR ip s) (gM jp s)++F)) w1 W (Ia i x)) (encs x).toList (S s1).1 (S s1).2 s) (λ _ _ _=>False))
  (Ud:∀ (l i:Nat) (x:α) (t:τ) (Y:HL) (w1:World),xs[i]?=some x -> Ia i x t -> RN (some l) P N [] (Y++(ap (fR ip s) (gM jp s)++F)) w1 (fR ip s++R) (Qo (W t) s) (RQ (Y++(ap (fR ip s) (gM jp s)++F)) w1 (λ s=>ap (S s).1 (S s).2) (I (i+1)) Ix))
  (Uc:∀ (d:Nat) (s1:σ),I xs.length s1 -> RN none P N (coll d::D) F w0 R (Qp (.ex .normal) d ip jp (S s1).1 (S s1).2 s) Q)
  (TQ:∀ (d:Nat) (c:Code) (s1:σ),Ix c s1 -> RN none P N (coll d::D) F w0 R (Qp (.code c) d ip jp (S s1).1 (S s1).2 s) Q)
  (XB:LY N s=true:=by kernel_rfl) (hp:cB ip jp s=true:=by kernel_rfl) (hH:picks ip jp s=((S x0).1,(S x0).2):=by kernel_rfl) (hG:(oz s).map (·.1)=some (.func (.func gf) #[] lb):=by kernel_rfl) (IF:∀x:α,(oz s).map (·.2)=some (encs x).size:=by intro x;kernel_rfl):RN none P N D F w0 R s Q:=by
 refine⟨λ hR=>?_⟩;obtain⟨c,k,L,A,Ts⟩:=s;unfold cB at hp;unfold picks at hH;rw[Bool.and_eq_true] at hp;simp only[Prod.mk.injEq] at hH;cases c with
 | ops _ _=>simp[oz] at hG
 | ex _=>simp[oz] at hG
 | drw _ _=>simp[oz] at hG
 | code c =>
 cases c with
 | rangeFunc g ps assign body =>
  have hi:iT L g=true:=by
   cases h:iT L g with
   | true=>rfl
   | false=>simp[oz,h] at hG
  simp only[oz,hi,Option.map_some,Option.some.injEq] at hG IF;simp only[LY] at XB;have hRo:∀ (Y:HL),∀y∈fR ip ⟨.code (.rangeFunc g ps assign body),k,L,A,Ts⟩++R,y∈Y++(ap (fR ip ⟨.code (.rangeFunc g ps assign body),k,L,A,Ts⟩) (gM jp ⟨.code (.rangeFunc g ps assign body),k,L,A,Ts⟩)++F):=by
   intro Y y hy;rcases List.mem_append.1 hy with hy|hy
   ·exact List.mem_append_right _ (List.mem_append_left _ (List.mem_append_left _ hy))
   ·exact List.mem_append_right _ (List.mem_append_right _ (hR y hy))
  exact Fq (assign:=assign) (body:=body) hi hG eg (λ s=>(S s).1) (λ s=>(S s).2) I Ix (λ t=>(W t).L) (λ t=>ap (W t).A (W t).Ts) Ia (λ x=>(IF x).symm) XB x0 h0 ip (oth ip A.length) jp (oth jp Ts.length) hp.1 hp.2 _ _ rfl rfl hH.1 hH.2 hit
   (λ l i x s1 Y w1 hx hi=>(IS l i x s1 Y w1 hx hi (λ t ip' jp' ht hm h hp=>sR t ip' jp' ht hm h hp)).h (hRo Y))
   (λ l i x t Y w1 hx ht=>(Ud l i x t Y w1 hx ht).h (hRo Y))
   (λ d s1 hs=>(Uc d s1 hs).h hR) (λ d c s1 hs=>(TQ d c s1 hs).h hR)
 | _=>simp[oz] at hG
theorem Sp.runM{f:FuncId}{fn:Func}{c:Code}{args:Array Value}{H:HL}{R':Value -> HL -> Prop}(hf:P.funcs[f]?=some fn)(hb:fn.body=some c)(hR:∀y∈R,y∈F){A:HL}{Ts:List HL}(hH:H=ap A Ts)
  (h:∀w0,RN none P fn.ntmps [] F w0 R ⟨.code c,[],tg 0 args.toList,A,Ts⟩ (bodyPostM (Wr none) 0 P fn (DS F w0 R'))) (ha:decide (args.size <= fn.ntmps)=true:=by kernel_rfl):Sp P f args H F R':=by
 subst hH;exact zf hf hb rfl ha _ rfl λ w0=>(h w0).h hR
def my(dx:List Nat)(s:Cfg):Cfg:=match s with
 | ⟨c,k,L,A,Ts⟩=>⟨c,k,L,(oth dx A.length).filterMap (A[·]?),Ts⟩
theorem Ib{fn:Func}{R':Value -> HL -> Prop}(ds dx:List Nat)(hints:List Hint)(Ob:List Prop)(oF:AllP Ob)(ip jp:List Nat){v:Value}{H':HL}(hv:R' v H')
  (hD:D=ds.map coll:=by rfl) (hc:o0 s=true:=by kernel_rfl) (hd:((dx++oth dx s.A.length).isPerm (List.range s.A.length),dx.filterMap (s.A[·]?))=(true,ds.map cR):=by kernel_rfl)
  (h:∀n0,lh P n0 fn.results.toList R hints (my dx s)=some (v,pP (lh P 0 fn.results.toList R hints (my dx s)),pP (lh P 0 fn.results.toList R hints (my dx s)),Ob):=by intro n0;kernel_rfl)
  (hp:cB ip jp (my dx s)=true:=by kernel_rfl) (hH:ap (picks ip jp (my dx s)).1 (picks ip jp (my dx s)).2=H':=by kernel_rfl):RN none P N D F w0 R s (bodyPostM (Wr none) 0 P fn (DS F w0 R')):=by
 unfold cB at hp;unfold picks at hH;simp only[Prod.mk.injEq] at hd;rw[Bool.and_eq_true] at hp;obtain⟨c,k,L,A,Ts⟩:=s;refine⟨λ hR a w hF f_ hB=>?_⟩;have key:LeavesInM (Wr none) 0 P fn a.tmps (DS F w0 R') a.defers .returning w:=by
  exact Go.Proofs.YtdppjkjbghbnjaaGreatDoor.retM (by simp) ds hD dx (oth dx A.length) R hints v _ Ob hd.1 hd.2 rfl h hR oF ip _ jp _ H' hp.1 hp.2 hH hv a w hF f_ hB
 exact qJ hc key key
theorem RN.retM{fn:Func}{R':Value -> HL -> Prop}(ds dx:List Nat)(hints:List Hint)(ip jp:List Nat){v:Value}{H':HL}(hv:R' v H')
 (hD:D=ds.map coll:=by rfl) (hc:o0 s=true:=by kernel_rfl) (hd:((dx++oth dx s.A.length).isPerm (List.range s.A.length),dx.filterMap (s.A[·]?))=(true,ds.map cR):=by kernel_rfl)
 (h:∀n0,lh P n0 fn.results.toList R hints (my dx s)=some (v,pP (lh P 0 fn.results.toList R hints (my dx s)),pP (lh P 0 fn.results.toList R hints (my dx s)),[]):=by intro n0;kernel_rfl)
 (hp:cB ip jp (my dx s)=true:=by kernel_rfl) (hH:ap (picks ip jp (my dx s)).1 (picks ip jp (my dx s)).2=H':=by kernel_rfl):RN none P N D F w0 R s (bodyPostM (Wr none) 0 P fn (DS F w0 R')):=Ib ds dx hints [] trivial ip jp hv hD hc hd h hp hH
end
def SpD(P:Program)(f:FuncId)(args:Array Value)(H F:HL)(R:Value -> HL -> Prop):Prop :=
 ∀w,Rel (H++F) w -> CallsDIn (Wr none) 0 P f args .returning w λ e u' w'=>u'=.returning /\ ∃v H',e=.returned v /\ R v H' /\ Rel (H'++F) w' /\ Below 0 w w'
theorem SpD.mono{P:Program}{f:FuncId}{args:Array Value}{H F:HL}{R R':Value -> HL -> Prop}(h:SpD P f args H F R)(hr:∀v H',R v H' -> R' v H'):SpD P f args H F R' :=
 λ w hR=>(h w hR).mono λ e u' w' ⟨h0,v,H',h1,h2,h3,h4⟩=>⟨h0,v,H',h1,hr _ _ h2,h3,h4⟩
section
variable {r:Option Nat} {P:Program} {N:Nat} {D:List Deferred} {F:HL} {w0:World} {R:HL} {s:Cfg} {Q:Exit -> Act -> World -> Prop}
def dfR(N:Nat)(s:Cfg):Option (FuncId × Array Value × Array Value):=match i7 s with
 | some o=>match o.guard,o.op,(fd N o.dst undef s.L).isSome with
  | none,.defer c,true=>match c.callee with
   | .value f=>match iT s.L f && c.args.toList.all (iT s.L) with
    | true=>match gm s.L f with
     | .func (.func g) first cap=>some (g,first++c.args.map (gm s.L),cap)
     | _=>none
    | false=>none
   | _=>none
  | _,_,_=>none
 | none=>none
abbrev Qq(g:FuncId)(args cap:Array Value):Deferred:={ target:=.fn (.func g) cap,args:=args }
theorem DY{L:FL}{a:Act}(hF:Fm N D L a):∀ (l:List Operand),l.all (iT L)=true -> l.map a.eval=l.map (gm L)
 | [],_=>rfl
 | x::l,h=>by
  rw[List.all_cons,Bool.and_eq_true] at h;rw[List.map_cons,List.map_cons,hF.eval h.1,DY hF l h.2]
theorem Qr{g:FuncId}{args cap:Array Value}(hk:RN none P N (Qq g args cap::D) F w0 R (eR N undef s) Q)(h:dfR N s=some (g,args,cap):=by kernel_rfl):RN none P N D F w0 R s Q:=by
 refine⟨λ hR a w hF f_ hB=>?_⟩;obtain⟨cc,kk,L,A,Ts⟩:=s;unfold dfR at h;split at h
 case h_2=>cases h
 rename_i o q0;split at h
 case h_2=>cases h
 rename_i c q1 q2 q3;split at h
 case h_2=>cases h
 rename_i f q4;split at h
 case h_2=>cases h
 rename_i q5;split at h
 case h_2=>cases h
 rename_i g' first g_ q6
 simp only[Option.some.injEq,Prod.mk.injEq] at h;obtain⟨e1,e2,e3⟩:=h;subst e1;subst e2;subst e3;unfold i7 at q0;cases cc with
 | code c=>cases q0
 | ex c=>cases q0
 | drw _ _=>cases q0
 | ops ops j =>
  simp only at q0 q3 q5 q6 hF f_;have AS:ops.toList.drop j=o::ops.toList.drop (j+1):=by
   have iS:j<ops.toList.length:=(List.getElem?_eq_some_iff.1 q0).1;rw[List.drop_eq_getElem_cons iS,(List.getElem?_eq_some_iff.1 q0).2]
  show wpListIn _ _ _ _ _ _ _ _;rw[AS,wpListIn,if_pos (by simp[Region.wanted,q1])];refine⟨λ _ _=>trivial,?_⟩;rw[Bool.and_eq_true] at q5;obtain⟨L',hl⟩:=dF q3 undef;have TZ:eR N undef ⟨.ops ops j,kk,L,A,Ts⟩=⟨.ops ops (j+1),kk,L',A,Ts⟩:=by
   unfold eR;simp only[q0,hl]
  have hh:=hk.h hR;rw[TZ] at hh;have U2:c.args.map a.eval=c.args.map (gm L):=by
   apply Array.ext';rw[Array.toList_map,Array.toList_map];exact DY hF _ q5.2
  have e1:a.eval f=.func (.func g') first g_:=(hF.eval q5.1).trans q6
  have hex:(o.semAt (Wr none).round a.eval).run P w=.ok (.defer (Qq g' (first++c.args.map (gm L)) g_)) w:=by
   show (Oper.semAt none a.eval o).run P w=_;rw[Oper.semAt_none];simp only[execOp,q2,resolve,q4,e1,Deferred.ofValue,Sem.run_bind,U2];rfl
  rw[hex,Oper.uponIn_defer];have hF':Fm N (Qq g' (first++c.args.map (gm L)) g_::D) L { a with defers:=Qq g' (first++c.args.map (gm L)) g_::a.defers }:=⟨hF.size,by rw[<- hF.defs],hF.has⟩;exact hh _ w (hF'.put hl) f_ hB
structure LV(P:Program)(N:Nat)(D:List Deferred)(F:HL)(w0:World)(R:HL)(fn:Func)(R':Value -> HL -> Prop)(s:Cfg):Prop where
 h:(∀y∈R,y∈F) -> ∀a w,Fm N D s.L a -> Rel (ap s.A s.Ts++F) w -> Below 0 w0 w -> LeavesInM (Wr none) 0 P fn a.tmps (DS F w0 R') a.defers .returning w
theorem Ic{fn:Func}{R':Value -> HL -> Prop}(hk:LV P N D F w0 R fn R' s)(hc:o0 s=true:=by kernel_rfl):RN none P N D F w0 R s (bodyPostM (Wr none) 0 P fn (DS F w0 R')):=by
 refine⟨λ hR a w hF f_ hB=>?_⟩;have key:=hk.h hR a w hF f_ hB;exact qJ hc key key
def Qs(ip jp:List Nat)(Hq:HL)(Tq:List HL)(s:Cfg):Cfg:=zh (λ A=>Hq++(oth ip A.length).filterMap (A[·]?)) (λ Ts=>Tq++(oth jp Ts.length).filterMap (Ts[·]?)) s
theorem Qt{τ:Type}{fn:Func}{R':Value -> HL -> Prop}{g:FuncId}{args cap:Array Value}(eg:∀args w,(callFunc g args).run P w=.ok (.enter g args) w)(ip jp:List Nat){Hp:HL}{Tp:List HL}{Hq:τ -> HL}{Tq:τ -> List HL}{Rv:Value -> τ -> Prop}
  (hc:SpD P g (args++cap) (ap Hp Tp) (ap (fR ip s) (gM jp s)++F) (λ v H'=>∃x,H'=ap (Hq x) (Tq x) /\ Rv v x)) (hk:∀v x,Rv v x -> LV P N D F w0 R fn R' (Qs ip jp (Hq x) (Tq x) s))
  (hp:cB ip jp s=true:=by kernel_rfl) (hH:picks ip jp s=(Hp,Tp):=by kernel_rfl):LV P N (Qq g args cap::D) F w0 R fn R' s:=by
 unfold cB at hp;unfold picks at hH;rw[Bool.and_eq_true] at hp;simp only[Prod.mk.injEq] at hH;obtain⟨e1,e2⟩:=hH;refine⟨λ hR a w hF f_ hB=>?_⟩;have AI:(ap Hp Tp++ap (fR ip s) (gM jp s)).Perm (ap s.A s.Ts):=by
  have h1:=nK s.A s.Ts ip (oth ip s.A.length) jp (oth jp s.Ts.length) hp.1 hp.2;rw[e1,e2] at h1;exact h1
 have hR1:Rel (ap Hp Tp++(ap (fR ip s) (gM jp s)++F)) w:=by rw[<- List.append_assoc];exact f_.perm (AI.append_right F)
 rw[hF.defs];refine⟨by simp,.inr ⟨(λ h=>by cases h),.func g,cap,g,args++cap,rfl,?_,λ _ _=>trivial,?_⟩⟩
 ·show (callFunc g (args++cap)).run P w=_;exact eg _ _
 ·refine(hc w hR1).mono ?_;rintro e u' w' ⟨rfl,v,H',rfl,⟨x,rfl,hv⟩,VS,Yn⟩;have:=(hk v x hv).h hR { a with defers:=D } w' ⟨hF.size,rfl,hF.has⟩ ?_ (hB.trans Yn)
  ·exact this
  ·unfold Qs;rw[sQ.1,sQ.2.1];refine VS.perm ?_;exact(xu _ _ _ _ _).symm
theorem LZ{fn:Func}{R':Value -> HL -> Prop}(hints:List Hint)(Ob:List Prop)(oF:AllP Ob)(ip jp:List Nat){v:Value}{H':HL}(hv:R' v H')
  (h:∀n0,lh P n0 fn.results.toList R hints s=some (v,pP (lh P n0 fn.results.toList R hints s),pP (lh P n0 fn.results.toList R hints s),Ob):=by intro n0;kernel_rfl)
  (hp:cB ip jp s=true:=by kernel_rfl) (hH:ap (picks ip jp s).1 (picks ip jp s).2=H':=by kernel_rfl):LV P N [] F w0 R fn R' s:=by
 unfold cB at hp;unfold picks at hH;refine⟨λ hR a w hF f_ hB=>?_⟩;rw[Bool.and_eq_true] at hp;have h':=h w.heap.size;unfold lh B9 at h';split at h'
 case h_2=>cases h'
 rename_i vs ss hs;split at h'
 case h_2=>cases h'
 simp only[pP,Option.some.injEq,Prod.mk.injEq] at h';obtain⟨e1,-,e3,e4⟩:=h';have iN:=ld (P:=P) hF f_ fn.results.toList _ _ _ hs rfl rfl hR (λ e=>by cases e) (gR rfl e3) (by rw[e4];exact AllP.mem oF);subst e1;rw[hF.defs];exact⟨_,kF (by simp) iN,_,H',rfl,hv,f_.takeT ip _ jp _ hp.1 hp.2 hH,hB⟩
theorem LV.ret{fn:Func}{R':Value -> HL -> Prop}(hints:List Hint)(ip jp:List Nat){v:Value}{H':HL}(hv:R' v H')
 (h:∀n0,lh P n0 fn.results.toList R hints s=some (v,pP (lh P n0 fn.results.toList R hints s),pP (lh P n0 fn.results.toList R hints s),[]):=by intro n0;kernel_rfl)
 (hp:cB ip jp s=true:=by kernel_rfl) (hH:ap (picks ip jp s).1 (picks ip jp s).2=H':=by kernel_rfl):LV P N [] F w0 R fn R' s:=LZ hints [] trivial ip jp hv h hp hH
end
def RS(P:Program)(g:FuncId)(lb:Array Value)(own:HL)(F:HL){α:Type}(encs:α -> Array Value)(xs:List α)(Te Tx:HL -> Prop):Prop :=
 ∀ (X:HL) (l:Nat) (J:Nat -> HL -> Prop) (Jx:HL -> Prop) (H0:HL),(∀i x H Y,xs[i]?=some x -> J i H -> YL P l (encs x) H (Y++(X++F)) (λ b H'=>(b=true /\ J (i+1) H') \/ (b=false /\ Jx H'))) -> J 0 H0 ->
  Sp P g (#[.func (.yield l) #[] #[]]++lb) (H0++own) (X++F) (λ _ H'=>∃H1 T1,H'=H1++T1 /\ ((J xs.length H1 /\ Te T1) \/ (Jx H1 /\ Tx T1)))
section
variable {P:Program} {N:Nat} {D:List Deferred} {F:HL} {w0:World} {L:FL} {Q:Exit -> Act -> World -> Prop}
theorem FB{α σ τ:Type}{g:Operand}{ps:Array Tmp}{assign body:Code}{encs:α -> Array Value}{xs:List α}{gf:FuncId}{lb:Array Value}(hi:iT L g=true)(hg:gm L g=.func (.func gf) #[] lb)(eg:∀args w,(callFunc gf args).run P w=.ok (.enter gf args) w)
  (Hx:σ -> HL) (I:Nat -> σ -> Prop) (Ix:Code -> σ -> Prop) (La:τ -> FL) (Ha:τ -> HL) (Ia:Nat -> α -> τ -> Prop) (hps:∀x,(encs x).size=ps.size) (XB:(ps.toList.all λ p=>decide (p<N))=true)
  (x0:σ) (h0:I 0 x0) {A:HL} {Ts:List HL} (ip ir jp jr:List Nat) (hp:(ip++ir).isPerm (List.range A.length)=true) (hj:(jp++jr).isPerm (List.range Ts.length)=true) (Hr:HL) (Tr:List HL) (hHr:ir.filterMap (A[·]?)=Hr) (own:HL) {Te Tx:HL -> Prop} (hTr:jr.filterMap (Ts[·]?)=own::Tr) (hH:ap (ip.filterMap (A[·]?)) (jp.filterMap (Ts[·]?))=Hx x0)
  (hit:RS P gf lb own (ap Hr Tr++F) encs xs Te Tx)
  (IS:∀ (l i:Nat) (x:α) (s:σ) (Y:HL) (w1:World),xs[i]?=some x -> I i s -> TR (some l) P N [] (Y++(ap Hr Tr++F)) w1 (so ps.toList (encs x).toList L) (Hx s) assign (Exit.then (Oo N [] (Y++(ap Hr Tr++F)) w1 La Ha (Ia i x)) (λ _ _ _=>False)))
  (Ud:∀ (l i:Nat) (x:α) (t:τ) (Y:HL) (w1:World),xs[i]?=some x -> Ia i x t -> TR (some l) P N [] (Y++(ap Hr Tr++F)) w1 (La t) (Ha t) body (RQ (Y++(ap Hr Tr++F)) w1 Hx (I (i+1)) Ix))
  (Uc:∀ (d:Nat) (s:σ) (T1:HL),I xs.length s -> Te T1 -> EX N (coll d::D) F w0 L (cR d::(Hx s++ap Hr (T1::Tr))) Q .normal)
  (TQ:∀ (d:Nat) (c:Code) (s:σ) (T1:HL),Ix c s -> Tx T1 -> TR none P N (coll d::D) F w0 L (cR d::(Hx s++ap Hr (T1::Tr))) c Q) :
  TR none P N D F w0 L (ap A Ts) (.rangeFunc g ps assign body) Q:=by
 intro a w hF hR hB;have hpo:∀ (X:HL) (T1:HL),((X++T1)++(ap Hr Tr++F)).Perm (X++(ap Hr (T1::Tr)++F)):=λ X T1=>by
  rw[List.append_assoc];refine List.Perm.append_left X ?_;rw[<- List.append_assoc];refine List.Perm.append_right F ?_;show (T1++(Hr++Tr.flatten)).Perm (Hr++(T1::Tr).flatten);rw[List.flatten_cons,<- List.append_assoc,<- List.append_assoc];exact List.Perm.append_right _ List.perm_append_comm
 have hR1:Rel ((Hx x0++own)++(ap Hr Tr++F)) w:=by
  have h1:=nK A Ts ip ir jp jr hp hj;rw[hHr,hTr,hH] at h1;have h2:=hR.perm (h1.append_right F);rw[List.append_assoc] at h2;exact h2.perm (hpo _ _)
 refine wpIn_rangeFunc ?_;intro fn Yc;obtain⟨rec,TX⟩:∃rec:LoopState -> Option Code -> Loop,rec=λ st pe=>{ state:=st,pending:=pe,fn,tmps:=a.tmps,params:=ps,assign,body,defers:=w.heap.size }:=⟨_,rfl⟩;obtain⟨W1,hW1⟩:∃W1,(w.alloc (.deferred (some []))).alloc (.loop (rec .ready none))=W1:=⟨_,rfl⟩;have hB1:Below 0 w W1:=by rw[<- hW1];exact(jG _).trans (jG _)
 have hRW:Rel ((w.heap.size+1,Blk.obj (.loop (rec .ready none)))::cR w.heap.size::((Hx x0++own)++(ap Hr Tr++F))) W1:=by
  rw[<- hW1];have h1:=(hR1.alloc (.obj (.deferred (some [])))).alloc (.obj (.loop (rec .ready none)));rw[World.size_alloc] at h1;exact h1
 refine⟨w.heap.size+1,[coll w.heap.size],W1,{ target:=.fn (.func gf) lb,args:=#[.func (.yield (w.heap.size+1)) #[] #[]] },W1,gf,#[.func (.yield (w.heap.size+1)) #[] #[]]++lb,W1,?_,?_,?_,?_,λ h=>(by cases h),?_⟩
 ·rw[<- hW1,TX];exact run_enterLoop_outer _ _ _ _ _
 ·have WO:a.eval g=.func (.func gf) #[] lb:=(hF.eval hi).trans hg;simp only[resolve,WO];simp[Deferred.ofValue];rfl
 ·intro f' _;trivial
 ·simp[invoke,eg]
 ·refine lc ?_;obtain⟨l,hl⟩:∃l,w.heap.size+1=l:=⟨_,rfl⟩;rw[hl] at hRW ⊢;obtain⟨d,hd⟩:∃d,w.heap.size=d:=⟨_,rfl⟩;rw[hd] at hRW TX ⊢;have key:=hit [] l (λ i H'=>∃s,I i s /\ H'=(l,Blk.obj (.loop (rec .ready none)))::cR d::Hx s) (λ H'=>∃c s,Ix c s /\ H'=(l,Blk.obj (.loop (rec .done (some c))))::cR d::Hx s)
   ((l,Blk.obj (.loop (rec .ready none)))::cR d::Hx x0) ?round ⟨x0,h0,rfl⟩ W1 hRW
  case round =>
   rintro i x H' Y hx ⟨s,hs,rfl⟩ W f_;have UD:Rel ((l,Blk.obj (.loop (rec .ready none)))::(cR d::(Hx s++(Y++(ap Hr Tr++F))))) W:=f_;have hlW:W.heap[l]?=some (.loop (rec .ready none)):=UD.holds _ List.mem_cons_self;have hy:=run_yield (P:=P) (args:=encs x) hlW (by rw[TX];exact hps x);rw[TX] at hy;refine⟨fn,_,assign,body,hy,roundIn_of_wpIn (F:=Wr none) (n:=0) Yc ?_⟩;have hFm:Fm N [] (so ps.toList (encs x).toList L) { tmps:=(ps.zip (encs x)).foldl (λ t (p,v)=>t.setIfInBounds p v) a.tmps,defers:=[] }:=by
    have h1:=Fm.zip (D:=[]) ps.toList (encs x).toList L a.tmps (λ p hp=>of_decide_eq_true (List.all_eq_true.1 XB p hp)) ⟨hF.size,rfl,hF.has⟩;have e:(ps.zip (encs x)).foldl (λ t (p,v)=>t.setIfInBounds p v) a.tmps=(ps.toList.zip (encs x).toList).foldl (λ t (p,v)=>t.setIfInBounds p v) a.tmps:=by
     rw[<- Array.foldl_toList,Array.toList_zip]
    rw[e];exact h1
   have hRA:Rel (Hx s++(((l,Blk.obj (.loop (rec .ready none)))::cR d::Y)++(ap Hr Tr++F))) W:=by
    have:=UD;refine this.perm ?_;simp only[List.cons_append];refine List.perm_middle.trans ?_;refine List.Perm.cons _ ?_;exact List.perm_middle
   refine wpIn_mono (IS l i x s ((l,Blk.obj (.loop (rec .ready none)))::cR d::Y) W hx hs _ W hFm hRA (Below.refl _ _)) ?_;intro e a1 Wa hq;cases e with
   | normal =>
    obtain⟨t,ht,m1,m2,m3⟩:=hq;have hRb:Rel ((l,Blk.obj (.loop (rec .ready none)))::(cR d::(Ha t++(Y++(ap Hr Tr++F))))) Wa:=by
     refine m2.perm ?_;simp only[List.cons_append];refine(List.Perm.trans ?_ List.perm_middle.symm);refine List.Perm.cons _ ?_;exact List.perm_middle.symm
    have hla:Wa.heap[l]?=some (.loop (rec .ready none)):=hRb.holds _ List.mem_cons_self;refine⟨_,run_beginRound hla (by rw[TX]),?_⟩;have hRc:=hRb.putObj (F:=[]) (.obj (.loop { rec .ready none with state:=.busy }));have V7:Rel (Ha t++(((l,Blk.obj (.loop { rec .ready none with state:=.busy }))::cR d::Y)++(ap Hr Tr++F))) (Wa.putObj l (.loop { rec .ready none with state:=.busy })):=by
     refine hRc.perm ?_;simp only[List.cons_append];refine List.perm_middle.trans ?_;refine List.Perm.cons _ ?_;exact List.perm_middle
    refine wpIn_mono (Ud l i x t ((l,Blk.obj (.loop { rec .ready none with state:=.busy }))::cR d::Y) W hx ht a1 _ m1 V7 (m3.trans (eJ _ _))) ?_;have fin:∀ (jump:Option Code) (s':σ) (W3:World),Rel (Hx s'++(((l,Blk.obj (.loop { rec .ready none with state:=.busy }))::cR d::Y)++(ap Hr Tr++F))) W3 -> Below 0 W W3 ->
      ∃v w',(Instr.endRound l jump).run P W3=.ok v w' /\ v=.bool jump.isNone /\ Rel (((l,Blk.obj (.loop (rec (if jump.isNone then .ready else .done) jump)))::cR d::Hx s')++(Y++([]++(ap Hr Tr++F)))) w' /\ Below 0 W w':=by
     intro jump s' W3 h3 hb3;have h4:Rel ((l,Blk.obj (.loop { rec .ready none with state:=.busy }))::(cR d::(Hx s'++(Y++(ap Hr Tr++F))))) W3:=by
      refine h3.perm ?_;simp only[List.cons_append];refine(List.Perm.trans ?_ List.perm_middle.symm);refine List.Perm.cons _ ?_;exact List.perm_middle.symm
     have YT:W3.heap[l]?=some (.loop { rec .ready none with state:=.busy }):=h4.holds _ List.mem_cons_self;have iN:=run_endRound (P:=P) jump YT;refine⟨_,_,iN,rfl,?_,hb3.trans (eJ _ _)⟩;have h5:=h4.putObj (F:=[]) (.obj (.loop (rec (if jump.isNone then .ready else .done) jump)));rw[TX] at h5 ⊢;exact h5
    intro e2 a2 W3 Ut;cases e2 with
    | normal =>
     obtain⟨s',TU,n2,n3⟩:=Ut;obtain⟨v,w',k1,k2,k3,k4⟩:=fin none s' W3 n2 n3;exact⟨v,w',k1,true,_,by rw[k2];rfl,.inl ⟨rfl,s',TU,rfl⟩,k3,k4⟩
    | ret =>
     obtain⟨s',TU,n2,n3⟩:=Ut;obtain⟨v,w',k1,k2,k3,k4⟩:=fin (some .ret) s' W3 n2 n3;exact⟨v,w',k1,false,_,by rw[k2];rfl,.inr ⟨rfl,.ret,s',TU,rfl⟩,k3,k4⟩
    | exit id =>
     obtain⟨s',TU,n2,n3⟩:=Ut;obtain⟨v,w',k1,k2,k3,k4⟩:=fin (some (.exit id)) s' W3 n2 n3;exact⟨v,w',k1,false,_,by rw[k2];rfl,.inr ⟨rfl,.exit id,s',TU,rfl⟩,k3,k4⟩
    | goto t=>exact Ut.elim
    | panic ch=>exact Ut.elim
    | outgrown=>exact Ut.elim
   | exit id=>exact hq.elim
   | goto t=>exact hq.elim
   | ret=>exact hq.elim
   | panic ch=>exact hq.elim
   | outgrown=>exact hq.elim
  refine key.mono ?_;rintro e W2 ⟨v,H',rfl,hor,VS,Yn⟩;have fin:∀ (st:LoopState) (pe:Option Code) (s:σ) (T1:HL) (At:st ≠ .busy),Rel ((((l,Blk.obj (.loop (rec st pe)))::cR d::Hx s)++T1)++([]++(ap Hr Tr++F))) W2 ->
    ∃w4,(Instr.endLoop l).run P W2=.ok pe w4 /\ Rel ((cR d::(Hx s++ap Hr (T1::Tr)))++F) w4 /\ Below 0 W1 w4:=by
   intro st pe s T1 At h4;have h5:Rel ((l,Blk.obj (.loop (rec st pe)))::(cR d::(Hx s++(ap Hr (T1::Tr)++F)))) W2:=h4.perm (((hpo (Hx s) T1).symm.cons _).cons _);have TM:W2.heap[l]?=some (.loop (rec st pe)):=h5.holds _ List.mem_cons_self;have iN:=run_endLoop (P:=P) TM (by rw[TX];exact At);refine⟨W2.putObj l (.loop { rec st pe with state:=.exhausted }),?_,?_,Yn.trans (eJ _ _)⟩
   ·rw[iN,TX]
   ·have h6:=h5.putObj (F:=[]) (.obj (.loop { rec st pe with state:=.exhausted }));have h7:=Rel.drop (X:=[(l,Blk.obj (.loop { rec st pe with state:=.exhausted }))]) (H:=cR d::(Hx s++(ap Hr (T1::Tr)++F))) h6;rw[<- List.append_assoc] at h7;exact h7
  have hFd:Fm N (coll d::D) L { a with defers:=[coll d]++a.defers }:=⟨hF.size,by rw[hF.defs];rfl,hF.has⟩;rcases hor with ⟨H1,T1,rfl,⟨⟨s,hs,rfl⟩,hT⟩|⟨⟨c,s,hs,rfl⟩,hT⟩⟩
  ·obtain⟨w4,k1,k2,k3⟩:=fin .ready none s T1 (by simp) VS;exact⟨none,w4,k1,Uc d s T1 hs hT _ w4 hFd k2 (hB.trans (hB1.trans k3))⟩
  ·obtain⟨w4,k1,k2,k3⟩:=fin .done (some c) s T1 (by simp) VS;exact⟨some c,w4,k1,TQ d c s T1 hs hT _ w4 hFd k2 (hB.trans (hB1.trans k3))⟩
theorem Ci{α σ τ:Type}{g:Operand}{ps:Array Tmp}{assign body:Code}{encs:α -> Array Value}{xs:List α}{gf:FuncId}{lb:Array Value}(hi:iT L g=true)(hg:gm L g=.func (.func gf) #[] lb)(eg:∀args w,(callFunc gf args).run P w=.ok (.enter gf args) w)
  (Ax:σ -> HL) (Tx:σ -> List HL) (I:Nat -> σ -> Prop) (Ix:Code -> σ -> Prop) (La:τ -> FL) (Ha:τ -> HL) (Ia:Nat -> α -> τ -> Prop) (hps:∀x,(encs x).size=ps.size) (XB:(ps.toList.all λ p=>decide (p<N))=true)
  (x0:σ) (h0:I 0 x0) {A:HL} {Ts:List HL} (ip ir jp jr:List Nat) (hp:(ip++ir).isPerm (List.range A.length)=true) (hj:(jp++jr).isPerm (List.range Ts.length)=true) (Hr:HL) (Tr:List HL) (hHr:ir.filterMap (A[·]?)=Hr) (own:HL) {Te Tx':HL -> Prop} (hTr:jr.filterMap (Ts[·]?)=own::Tr) (hA:ip.filterMap (A[·]?)=Ax x0) (hT:jp.filterMap (Ts[·]?)=Tx x0)
  (hit:RS P gf lb own (ap Hr Tr++F) encs xs Te Tx')
  (IS:∀ (l i:Nat) (x:α) (s:σ) (Y:HL) (w1:World),xs[i]?=some x -> I i s -> TR (some l) P N [] (Y++(ap Hr Tr++F)) w1 (so ps.toList (encs x).toList L) (ap (Ax s) (Tx s)) assign (Exit.then (Oo N [] (Y++(ap Hr Tr++F)) w1 La Ha (Ia i x)) (λ _ _ _=>False)))
  (Ud:∀ (l i:Nat) (x:α) (t:τ) (Y:HL) (w1:World),xs[i]?=some x -> Ia i x t -> TR (some l) P N [] (Y++(ap Hr Tr++F)) w1 (La t) (Ha t) body (RQ (Y++(ap Hr Tr++F)) w1 (λ s=>ap (Ax s) (Tx s)) (I (i+1)) Ix))
  (Uc:∀ (d:Nat) (s:σ) (T1:HL),I xs.length s -> Te T1 -> EX N (coll d::D) F w0 L (ap (cR d::(Ax s++Hr)) (Tx s++T1::Tr)) Q .normal)
  (TQ:∀ (d:Nat) (c:Code) (s:σ) (T1:HL),Ix c s -> Tx' T1 -> TR none P N (coll d::D) F w0 L (ap (cR d::(Ax s++Hr)) (Tx s++T1::Tr)) c Q) :
  TR none P N D F w0 L (ap A Ts) (.rangeFunc g ps assign body) Q:=by
 have hpm:∀ (d:Nat) (s:σ) (Tr:List HL),(ap (cR d::(Ax s++Hr)) (Tx s++Tr)).Perm (cR d::(ap (Ax s) (Tx s)++ap Hr Tr)):=λ d s Tr=>by
  show (cR d::((Ax s++Hr)++(Tx s++Tr).flatten)).Perm _;refine List.Perm.cons _ ?_;rw[List.flatten_append];show ((Ax s++Hr)++((Tx s).flatten++Tr.flatten)).Perm ((Ax s++(Tx s).flatten)++(Hr++Tr.flatten));rw[List.append_assoc,List.append_assoc];refine List.Perm.append_left _ ?_;rw[<- List.append_assoc,<- List.append_assoc];exact List.Perm.append_right _ List.perm_append_comm
 exact FB hi hg eg (λ s=>ap (Ax s) (Tx s)) I Ix La Ha Ia hps XB x0 h0 ip ir jp jr hp hj Hr Tr hHr own hTr (by rw[hA,hT]) hit IS Ud
  (λ d s T1 hs hT a w h1 h2 h3=>Uc d s T1 hs hT a w h1 (h2.perm ((hpm d s _).append_right F)) h3) (λ d c s T1 hs hT a w h1 h2 h3=>TQ d c s T1 hs hT a w h1 (h2.perm ((hpm d s _).append_right F)) h3)
end
section
variable {P:Program} {N:Nat} {D:List Deferred} {F:HL} {w0:World} {R:HL} {s:Cfg} {Q:Exit -> Act -> World -> Prop}
def Qu(c:Fo)(d:Nat)(ip jp:List Nat)(A:HL)(Ts:List HL)(T1:HL)(s:Cfg):Cfg:=match s with
 | ⟨_,k,L,A',XK⟩=>⟨c,k,L,cR d::(A++(oth ip A'.length).filterMap (A'[·]?)),Ts++T1::((oth jp XK.length).filterMap (XK[·]?)).tail⟩
theorem FC{α σ τ:Type}{encs:α -> Array Value}{xs:List α}{gf:FuncId}{lb:Array Value}(eg:∀args w,(callFunc gf args).run P w=.ok (.enter gf args) w)
  (S:σ -> HL × List HL) (I:Nat -> σ -> Prop) (Ix:Code -> σ -> Prop) (W:τ -> Inv) (Ia:Nat -> α -> τ -> Prop) (x0:σ) (h0:I 0 x0) (ip jp:List Nat)
  (own:HL) {Te Tx:HL -> Prop} (hit:RS P gf lb own (ap (fR ip s) (gM jp s).tail++F) encs xs Te Tx)
  (IS:∀ (l i:Nat) (x:α) (s1:σ) (Y:HL) (w1:World),xs[i]?=some x -> I i s1 ->
   (∀ {s':Cfg} {R':HL} (t:τ) (ip' jp':List Nat),Ia i x t -> (hm:Ft s'=some (MV N [] (Y++(ap (fR ip s) (gM jp s).tail++F)) w1 W (Ia i x)):=by kernel_rfl) -> (h:xy (W t) ip' jp' s'=pQ (W t):=by kernel_rfl) -> (hp:cB ip' jp' s'=true:=by kernel_rfl) -> RN (some l) P N [] (Y++(ap (fR ip s) (gM jp s).tail++F)) w1 R' s' (λ _ _ _=>False)) ->
   RN (some l) P N [] (Y++(ap (fR ip s) (gM jp s).tail++F)) w1 (fR ip s++R) (Qn (MV N [] (Y++(ap (fR ip s) (gM jp s).tail++F)) w1 W (Ia i x)) (encs x).toList (S s1).1 (S s1).2 s) (λ _ _ _=>False))
  (Ud:∀ (l i:Nat) (x:α) (t:τ) (Y:HL) (w1:World),xs[i]?=some x -> Ia i x t -> RN (some l) P N [] (Y++(ap (fR ip s) (gM jp s).tail++F)) w1 (fR ip s++R) (Qo (W t) s) (RQ (Y++(ap (fR ip s) (gM jp s).tail++F)) w1 (λ s=>ap (S s).1 (S s).2) (I (i+1)) Ix))
  (Uc:∀ (d:Nat) (s1:σ) (T1:HL),I xs.length s1 -> Te T1 -> RN none P N (coll d::D) F w0 R (Qu (.ex .normal) d ip jp (S s1).1 (S s1).2 T1 s) Q)
  (TQ:∀ (d:Nat) (c:Code) (s1:σ) (T1:HL),Ix c s1 -> Tx T1 -> RN none P N (coll d::D) F w0 R (Qu (.code c) d ip jp (S s1).1 (S s1).2 T1 s) Q)
  (XB:LY N s=true:=by kernel_rfl) (hp:cB ip jp s=true:=by kernel_rfl) (hH:picks ip jp s=((S x0).1,(S x0).2):=by kernel_rfl) (ho:(gM jp s).head?=some own:=by kernel_rfl) (hG:(oz s).map (·.1)=some (.func (.func gf) #[] lb):=by kernel_rfl) (IF:∀x:α,(oz s).map (·.2)=some (encs x).size:=by intro x;kernel_rfl):RN none P N D F w0 R s Q:=by
 refine⟨λ hR=>?_⟩;obtain⟨c,k,L,A,Ts⟩:=s;unfold cB at hp;unfold picks at hH;rw[Bool.and_eq_true] at hp;simp only[Prod.mk.injEq] at hH;cases c with
 | ops _ _=>simp[oz] at hG
 | ex _=>simp[oz] at hG
 | drw _ _=>simp[oz] at hG
 | code c =>
 cases c with
 | rangeFunc g ps assign body =>
  have hi:iT L g=true:=by
   cases h:iT L g with
   | true=>rfl
   | false=>simp[oz,h] at hG
  simp only[oz,hi,Option.map_some,Option.some.injEq] at hG IF;simp only[LY] at XB;have hRo:∀ (Y:HL),∀y∈fR ip ⟨.code (.rangeFunc g ps assign body),k,L,A,Ts⟩++R,y∈Y++(ap (fR ip ⟨.code (.rangeFunc g ps assign body),k,L,A,Ts⟩) (gM jp ⟨.code (.rangeFunc g ps assign body),k,L,A,Ts⟩).tail++F):=by
   intro Y y hy;rcases List.mem_append.1 hy with hy|hy
   ·exact List.mem_append_right _ (List.mem_append_left _ (List.mem_append_left _ hy))
   ·exact List.mem_append_right _ (List.mem_append_right _ (hR y hy))
  have S5:(oth jp Ts.length).filterMap (Ts[·]?)=own::((oth jp Ts.length).filterMap (Ts[·]?)).tail:=by
   have h1:((oth jp Ts.length).filterMap (Ts[·]?)).head?=some own:=ho;generalize (oth jp Ts.length).filterMap (Ts[·]?)=l at h1 ⊢;cases l with
   | nil=>cases h1
   | cons x l=>simp only[List.head?_cons,Option.some.injEq] at h1;rw[h1];rfl
  exact Ci (assign:=assign) (body:=body) hi hG eg (λ s=>(S s).1) (λ s=>(S s).2) I Ix (λ t=>(W t).L) (λ t=>ap (W t).A (W t).Ts) Ia (λ x=>(IF x).symm) XB x0 h0 ip (oth ip A.length) jp (oth jp Ts.length) hp.1 hp.2 _ _ rfl own S5 hH.1 hH.2 hit
   (λ l i x s1 Y w1 hx hi=>(IS l i x s1 Y w1 hx hi (λ t ip' jp' ht hm h hp=>sR t ip' jp' ht hm h hp)).h (hRo Y))
   (λ l i x t Y w1 hx ht=>(Ud l i x t Y w1 hx ht).h (hRo Y))
   (λ d s1 T1 hs hT=>(Uc d s1 T1 hs hT).h hR) (λ d c s1 T1 hs hT=>(TQ d c s1 T1 hs hT).h hR)
 | _=>simp[oz] at hG
def mkC(i:Nat)(s:Cfg):Cfg:=match s with
 | ⟨c,k,L,A,Ts⟩=>⟨c,k,L,(oth [i] A.length).filterMap (A[·]?),Ts⟩
theorem LV.mark{fn:Func}{R':Value -> HL -> Prop}{d:Nat}(i:Nat)(hk:LV P N D F w0 R fn R' (mkC i s))(h:((s.A[i]?),([i]++oth [i] s.A.length).isPerm (List.range s.A.length))=(some (cR d),true):=by kernel_rfl):LV P N (coll d::D) F w0 R fn R' s:=by
 simp only[Prod.mk.injEq] at h;refine⟨λ hR a w hF f_ hB=>?_⟩;obtain⟨c,k,L,A,Ts⟩:=s;simp only at h hF f_;have hp:=fE A [i] (oth [i] A.length) h.2;simp only[List.filterMap_cons,h.1,List.filterMap_nil,List.cons_append,List.nil_append] at hp;have h1:Rel ((d,Blk.obj (.deferred (some [])))::(ap ((oth [i] A.length).filterMap (A[·]?)) Ts++F)) w:=by
  refine f_.perm ?_;have h2:(cR d::ap ((oth [i] A.length).filterMap (A[·]?)) Ts).Perm (ap A Ts):=List.Perm.append_right Ts.flatten hp;exact h2.append_right F
 have hd:w.heap[d]?=some (.deferred (some [])):=h1.holds (cR d) (by simp);have h2:=(h1.putObj (F:=[]) (.obj (.deferred none)));rw[hF.defs];refine⟨by simp,.inl ⟨d,_,rfl,run_takeDeferred hd,?_⟩⟩;exact hk.h hR { a with defers:=D } _ ⟨hF.size,rfl,hF.has⟩ (Rel.drop (X:=[(d,Blk.obj (.deferred none))]) h2) (hB.trans (eJ _ _))
end
section
variable {r:Option Nat} {P:Program} {N:Nat} {D:List Deferred} {F:HL} {w0:World} {R:HL} {s:Cfg} {Q:Exit -> Act -> World -> Prop}
variable {α:Type} {e:Enc α} {T:TypeId} {inf:TypeInfo} {z:Value}
def DZ(P:Program)(N j:Nat)(oo:Option Oper)(s:Cfg):Option (Option Addr × Nat × Nat × TypeId × Option Addr × Nat × Nat × TypeId × HL):=match oo with
 | some o=>match LX P o s.L,s.Ts[j]?,([j]++oth [j] s.Ts.length).isPerm (List.range s.Ts.length) && (fd N o.dst undef s.L).isSome with
  | some (A,n,cap,T,B,m,c',tx),some Hl,true=>some (A,n,cap,T,B,m,c',tx,Hl)
  | _,_,_=>none
 | none=>none
theorem tz{j:Nat}{oo:Option Oper}{A:Option Addr}{n cap m c':Nat}{B:Option Addr}{tx:TypeId}{Hl:HL}(h:DZ P N j oo s=some (A,n,cap,T,B,m,c',tx,Hl)) :
  ∃o a1 a2 t e',oo=some o /\ o.guard=none /\ o.op=.call { callee:=.builtin .append,args:=#[a1,a2],argTypes:=#[t,tx] } /\ (iT s.L a1 && iT s.L a2)=true /\ gm s.L a1=.slice A n cap /\ gm s.L a2=.slice B m c' /\ P.underlying t=some (.slice T) /\ P.underlying tx=some (.slice e') /\
   s.Ts[j]?=some Hl /\ ([j]++oth [j] s.Ts.length).isPerm (List.range s.Ts.length)=true /\ (fd N o.dst undef s.L).isSome=true:=by
 unfold DZ at h;split at h
 case h_2=>cases h
 rename_i o;split at h
 case h_2=>cases h
 rename_i A' n' g_ T' B' m' c2 tx' AT h1 h3 h4;simp only[Option.some.injEq,Prod.mk.injEq] at h;obtain⟨e1,e2,e3,e4,e5,e6,e7,e8,e9⟩:=h;subst e1;subst e2;subst e3;subst e4;subst e5;subst e6;subst e7;subst e8;subst e9;obtain⟨a1,a2,t,e',q1,q2,q3,q4,q5,q6,q7⟩:=wc h1;rw[Bool.and_eq_true] at h4;exact⟨o,a1,a2,t,e',rfl,q1,q2,q3,q4,q5,q6,q7,h3,h4.1,h4.2⟩
end
inductive RowL{α:Type}(e:Enc α)(T:TypeId)(F:HL):Option Addr -> Nat -> List α -> Prop
 | zero (A:Option Addr):RowL e T F A 0 []
 | rows (q o N:Nat) (full:List α) (fz:Nat × Nat) (n:Nat) (xs:List α) (hq:(q,.rows e.w N (aL e full) T fz)∈F) (ho:o+n <= N) (hn:xs.length=n) (hx:∀k,k<n -> full.getD (o+k) e.dflt=xs.getD k e.dflt):RowL e T F (some ⟨q,o*e.w,none⟩) n xs
section
variable {α:Type} {e:Enc α} {T:TypeId} {F:HL} {A:Option Addr} {n:Nat} {xs:List α}
theorem RowL.mono{F':HL}(h:RowL e T F A n xs)(hs:∀x∈F,x∈F'):RowL e T F' A n xs:=by
 cases h with
 | zero=>exact .zero _
 | rows q o N full fz n xs hq ho hn hx=>exact .rows q o N full fz n xs (hs _ hq) ho hn hx
theorem RowL.up{X:HL}(h:RowL e T F A n xs):RowL e T (X++F) A n xs:=h.mono λ x hx=>List.mem_append_right _ hx
theorem RowL.len(h:RowL e T F A n xs):xs.length=n:=by
 cases h with
 | zero=>rfl
 | rows q o N full fz n xs hq ho hn hx=>exact hn
theorem RowL.at(h:RowL e T F A n xs){k:Nat}(hk:k<n):∃q o N full fz,A=some ⟨q,o*e.w,none⟩ /\ (q,.rows e.w N (aL e full) T fz)∈F /\ o+k<N /\ full.getD (o+k) e.dflt=xs.getD k e.dflt:=by
 cases h with
 | zero=>omega
 | rows q o N full fz n xs hq ho hn hx=>exact⟨q,o,N,full,fz,rfl,hq,by omega,hx k hk⟩
theorem RowL.whole{q N:Nat}{fz:Nat × Nat}(hq:(q,.rows e.w N (aL e xs) T fz)∈F)(h:xs.length <= N):RowL e T F (some ⟨q,0,none⟩) xs.length xs:=by
 have:=RowL.rows (e:=e) (T:=T) (F:=F) q 0 N xs fz xs.length xs hq (by omega) rfl (λ k hk=>by rw[Nat.zero_add]);rwa [Nat.zero_mul] at this
end
section
variable {α:Type} {e:Enc α} {P:Program} {t tx ty T:TypeId} {inf:TypeInfo} {z:Value} {F:HL}
theorem Cj(l:List α)(hw:0<e.w):∀ {j:Nat},j<l.length*e.w -> (aw e l)[j]?=some (e.cell (l.getD (j / e.w) e.dflt) (j % e.w)):=by
 induction l with
 | nil=>intro j hj;simp at hj
 | cons x l ih =>
  intro j hj;have hc:aw e (x::l)=(List.range e.w).map (e.cell x)++aw e l:=by simp[aw]
  rw[hc]
  by_cases h:j<e.w
  ·rw[List.getElem?_append_left (by simpa using h),Nat.div_eq_of_lt h,Nat.mod_eq_of_lt h];simp[h]
  ·rw[List.getElem?_append_right (by simp;omega)];simp only[List.length_map,List.length_range];have h2:j=(j-e.w)+e.w:=by omega
   rw[ih (by simp only[List.length_cons,Nat.add_mul,Nat.one_mul] at hj;omega)]
   conv=>rhs;rw[h2,Nat.add_div_right _ hw,Nat.add_mod_right]
   rfl
theorem Ie(ok:EncOk e P T inf z)(hw:0<e.w){F:HL}{A:Option Addr}{n:Nat}{xs:List α}(hl:RowL e T F A n xs){c:Nat}{e':TypeId}(hk:P.underlying tx=some (.slice e'))(X:HL)(w:World)(hR:Rel (X++F) w):Src P inf.size tx (.slice A n c) xs.length (aw e xs) w:=by
 cases hl with
 | zero =>
  cases A with
  | none=>exact Src.ofNil w hk c
  | some a=>exact Src.ofSlice w hk a 0 c [] (by simp) (λ j u h=>by simp at h) (λ u h=>by simp at h)
 | rows q o N full fz n xs hq ho hn hx =>
  subst hn;refine Src.ofSlice w hk _ _ _ _ (by rw[aR,ok.size]) ?_ ?_
  ·intro j u hj;have XF:j<xs.length*e.w:=by rw[<- aR];exact(List.getElem?_eq_some_iff.1 hj).1
   rw[Cj xs hw XF] at hj;have hd:j / e.w<xs.length:=Nat.div_lt_of_lt_mul (by rw[Nat.mul_comm];exact XF);have hb:=hR.holds _ (List.mem_append_right X hq);rw[Addr.add_lit];have Za:o*e.w+j=(o+j / e.w)*e.w+j % e.w:=by
    rw[Nat.add_mul,Nat.add_assoc,Nat.mul_comm (j / e.w) e.w,Nat.div_add_mod]
   rw[nI (i:=o+j / e.w) (k:=j % e.w) hb rfl rfl Za (by omega) (Nat.mod_lt _ hw)];rw[<- hj];show some (aL e full (o+j / e.w) (j % e.w))=_;unfold aL;rw[hx _ hd]
  ·intro u hu;simp only[aw,List.mem_flatMap,List.mem_map] at hu;obtain⟨x,_,k,_,rfl⟩:=hu;exact ok.one x k
def SrcIn(P:Program)(e:Enc α)(F:HL)(A:Option Addr)(n:Nat)(xs:List α):Prop :=
 (xs.length=n /\ (A=none -> n=0)) /\ ∀ {tx e':TypeId} (c:Nat),P.underlying tx=some (.slice e') -> ∀X w,Rel (X++F) w -> Src P e.w tx (.slice A n c) xs.length (aw e xs) w
theorem SrcIn.mono{F F':HL}{A:Option Addr}{n:Nat}{xs:List α}(h:SrcIn P e F A n xs)(hs:∃X,F'.Perm (X++F)):SrcIn P e F' A n xs:=by
 obtain⟨X,hX⟩:=hs;refine⟨h.1,λ c hk Y w hR=>h.2 c hk (Y++X) w ?_⟩;rw[List.append_assoc];exact hR.perm (List.Perm.append_left Y hX.symm)
theorem SrcIn.up{F X:HL}{A:Option Addr}{n:Nat}{xs:List α}(h:SrcIn P e F A n xs):SrcIn P e (X++F) A n xs:=h.mono ⟨X,List.Perm.refl _⟩
theorem SrcIn.none:SrcIn P e F Option.none 0 []:=⟨⟨rfl,λ _=>rfl⟩,λ c hk X w hR=>Src.ofNil w hk c⟩
theorem RowL.src(ok:EncOk e P T inf z)(hw:0<e.w){F:HL}{A:Option Addr}{n:Nat}{xs:List α}(hl:RowL e T F A n xs):SrcIn P e F A n xs:=by
 refine⟨⟨hl.len,λ h=>?_⟩,λ c hk X w hR=>?_⟩
 ·subst h;cases hl;rfl
 ·have:=Ie (c:=c) ok hw hl hk X w hR;rwa [ok.size] at this
theorem SrcIn.lit(ok:EncOk e P T inf z){F:HL}{q:Nat}{xs:List α}{rest:List Value}{ty:TypeId}{fz:Nat × Nat}(hq:(q,.lit (aw e xs++rest) ty fz)∈F):SrcIn P e F (some ⟨q,0,Option.none⟩) xs.length xs:=by
 refine⟨⟨rfl,λ h=>by cases h⟩,λ c hk X w hR=>Src.ofSlice w hk _ _ _ _ (by rw[aR]) ?_ ?_⟩
 ·intro j u hj;have hb:=hR.holds _ (List.mem_append_right X hq);have hl:j<(aw e xs).length:=(List.getElem?_eq_some_iff.1 hj).1;simp only[Blk.den] at hb;rw[Addr.add_lit];simp[World.cell?,hb,List.getElem?_append_left hl,hj]
 ·intro u hu;simp only[aw,List.mem_flatMap,List.mem_map] at hu;obtain⟨x,_,k,_,rfl⟩:=hu;exact ok.one x k
def NewS(e:Enc α)(T:TypeId)(src:List α)(A A':Option Addr)(g_:Nat)(AT:HL):Prop :=
 (src=[] /\ A'=A /\ g_=0 /\ AT=[]) \/ ∃b,A'=some ⟨b,0,none⟩ /\ AT=[(b,.rows e.w g_ (aL e src) T (0,0))] /\ src.length <= g_
theorem NewS.rowL{src:List α}{A A':Option Addr}{g_:Nat}{AT:HL}(h:NewS e T src A A' g_ AT){F:HL}(hF:∀x∈AT,x∈F):RowL e T F A' src.length src:=by
 rcases h with ⟨rfl,rfl,rfl,rfl⟩|⟨b,rfl,rfl,hc⟩
 ·exact .zero _
 ·exact RowL.whole (hF _ (List.mem_singleton.2 rfl)) hc
theorem mP(l:List α)(k:Nat):aL e (l++List.replicate k e.dflt)=aL e l:=by
 funext i j;unfold aL;congr 1;rw[List.getD_eq_getElem?_getD,List.getD_eq_getElem?_getD]
 by_cases h:i<l.length
 ·rw[List.getElem?_append_left h]
 ·rw[List.getElem?_append_right (by omega),List.getElem?_replicate,List.getElem?_eq_none (by omega)];split <;> rfl
theorem Ck(ok:EncOk e P T inf z)(ht:P.underlying t=some (.slice T)){A:Option Addr}{G:HL}{w:World}(hA:∀a,A=some a -> a.spot=none)(hR:Rel G w)(src:List α)(x:Value)
  (hs:Src P inf.size tx x src.length (aw e src) w) (hb:src.length <= 100000000) :
  ∃A' g_ AT w',(Builtin.append_ #[t,tx] ty #[.slice A 0 0,x]).run P w=.ok (.slice A' src.length g_) w' /\ NewS e T src A A' g_ AT /\ Rel (AT++G) w' /\ Below 0 w w':=by
 rcases Nat.eq_zero_or_pos src.length with h0|h0
 ·obtain rfl:src=[]:=List.eq_nil_of_length_eq_zero h0;cases A with
  | none =>
   refine⟨none,0,[],w,?_,.inl ⟨rfl,rfl,rfl,rfl⟩,hR,Below.refl _ _⟩;have hc:(Builtin.firstCells inf.size 0 x).run P w=.ok #[] w:=hs.cells;rcases hs.kind with ⟨e',hk⟩|hk <;> simp[Builtin.append_,run_underlying ht,run_underlying hk,Go.sizeOf,typeInfo,ok.info,hs.len,hc]
  | some a =>
   obtain⟨b,off,spot⟩:=a;obtain rfl:spot=none:=hA _ rfl;refine⟨some ⟨b,off,none⟩,0,[],w,?_,.inl ⟨rfl,rfl,rfl,rfl⟩,hR,Below.refl _ _⟩;have:=run_append_room_src (P:=P) w t tx ty T inf ht ok.info b off 0 0 x 0 (aw e ([]:List α)) hs (Nat.le_refl _) (λ j hj=>by simp[aw] at hj) (λ j hj=>by simp[aw] at hj);exact this
 ·have hby:=ok.bytes;have V0:Builtin.nextslicecap (0+src.length) 0*inf.bytes <= 281474976710656:=by
   have h1:=jl (0+src.length) 0 (by omega);have h2:Builtin.nextslicecap (0+src.length) 0*inf.bytes <= (2*100000000+192)*1000:=Nat.mul_le_mul (by omega) hby;omega
  have hold:(Builtin.firstCells inf.size 0 (.slice A 0 0)).run P w.drew=.ok ([]:List Value).toArray w.drew:=by
   cases A with
   | none=>exact run_firstCells_none w.drew inf.size 0 0 0
   | some a =>
    obtain⟨b,off,spot⟩:=a;obtain rfl:spot=none:=hA _ rfl;exact run_firstCells_some w.drew inf.size 0 ⟨b,off,none⟩ 0 0 [] (by simp) (λ j u hj=>by simp at hj)
  have iN:=run_append_grow_src (P:=P) w t tx ty T inf z ht ok.info ok.zero A 0 0 [] hold x src.length (aw e src) hs (by omega) (by omega) V0;have WO:=grownCap_ge w (0+src.length) 0 T;generalize grownCap w (0+src.length) 0 T=nc at *;rw[Nat.zero_add] at iN WO;refine⟨_,nc,[(w.heap.size,.rows e.w nc (aL e src) T (0,0))],_,iN,.inr ⟨_,rfl,rfl,WO⟩,?_,?_⟩
  ·have:=(Rel.cons (.rows e.w nc (aL e src) T (0,0)) (o:=.cells (([]++aw e src).toArray++Builtin.zeroCells z.cells (nc-src.length)) T (0,0)) ?_ (hR.world (w':=w.drew) rfl))
   ·exact this
   ·show Obj.cells _ _ _=_;congr 1;apply Array.ext';show bJ _ _ _=_;have hl:nc=(src++List.replicate (nc-src.length) e.dflt).length:=by simp;omega
    have h3:=iZ e (src++List.replicate (nc-src.length) e.dflt);rw[<- hl,mP] at h3;rw[h3,aX,List.nil_append,Array.toList_append,mK ok]
  ·exact⟨rfl,rfl,rfl,by simp,λ k hk=>by omega⟩
end
section
variable {r:Option Nat} {P:Program} {N:Nat} {D:List Deferred} {F:HL} {w0:World} {R:HL} {s:Cfg} {Q:Exit -> Act -> World -> Prop}
variable {α:Type} {e:Enc α} {T:TypeId} {inf:TypeInfo} {z:Value}
theorem fJ(ok:EncOk e P T inf z)(src:List α)(j:Nat){A:Option Addr}{B:Option Addr}{m c':Nat}{tx:TypeId}(hA:∀a,A=some a -> a.spot=none)(hm:m=src.length)(hb:src.length <= 100000000)
  (hs:∀e',P.underlying tx=some (.slice e') -> ∀X w,Rel (X++F) w -> Src P inf.size tx (.slice B m c') src.length (aw e src) w)
  (hk:∀ (A':Option Addr) (g_:Nat) (AT:HL),NewS e T src A A' g_ AT -> RN r P N D F w0 R (Ox j AT (eR N (.slice A' src.length g_) s)) Q)
  (h:DZ P N j (i7 s) s=some (A,0,0,T,B,m,c',tx,([]:HL)):=by kernel_rfl):RN r P N D F w0 R s Q:=by
 obtain⟨o,a1,a2,t,e',q0,q1,q2,q3,q4,q5,q6,q7,q9,Tj,Ux⟩:=tz h;refine⟨λ hR a w hF f_ hB=>?_⟩;obtain⟨c,k,L,Bs,Ts⟩:=s;unfold i7 at q0;cases c with
 | code c=>cases q0
 | ex c=>cases q0
 | drw _ _=>cases q0
 | ops ops i =>
  simp only at q0 q3 q4 q5 q9 Tj Ux hF f_;have AS:ops.toList.drop i=o::ops.toList.drop (i+1):=by
   have iS:i<ops.toList.length:=(List.getElem?_eq_some_iff.1 q0).1;rw[List.drop_eq_getElem_cons iS,(List.getElem?_eq_some_iff.1 q0).2]
  show wpListIn _ _ _ _ _ _ _ _;rw[AS,wpListIn,if_pos (by simp[Region.wanted,q1])];refine⟨λ _ _=>trivial,?_⟩;have AI:=iw (A:=Bs) q9 Tj;have key:dR P o a w λ u w'=>∃y:Option Addr × Nat × HL,(u=.slice y.1 src.length y.2.1 /\ NewS e T src A y.1 y.2.1 y.2.2) /\ Rel ((y.2.2++(Bs++((oth [j] Ts.length).filterMap (Ts[·]?)).flatten))++F) w' /\ Below 0 w w':=by
   simp only[Bool.and_eq_true] at q3;have e1:=(hF.eval q3.1).trans q4;have e2:=(hF.eval q3.2).trans q5;have S6:Rel ((Bs++((oth [j] Ts.length).filterMap (Ts[·]?)).flatten)++F) w:=by
    have:=f_.perm (AI.append_right F);exact this
   obtain⟨A',g_,AT,w',r1,r2,r3,r4⟩:=Ck (ty:=o.type) ok q6 hA S6 src (.slice B m c') (hs e' q7 _ w f_) hb;unfold dR;have iN:(execOp a.eval o).run P w=.ok (.value (.slice A' src.length g_)) w':=by
    simp[execOp,q2,resolve,invoke,builtin,Sem.run_bind,e1,e2,r1]
   rw[iN];exact⟨(A',g_,AT),⟨rfl,r2⟩,by rw[List.append_assoc];exact r3,r4⟩
  refine fQ (by rw[q2];intro c hc;cases hc) key ?_;rintro u w' ⟨⟨A',g_,AT⟩,⟨rfl,XW⟩,S6,We⟩;obtain⟨L',p1⟩:=dF Ux (.slice A' src.length g_);have hh:=(hk A' g_ AT XW).h hR;have TZ:eR N (.slice A' src.length g_) ⟨.ops ops i,k,L,Bs,Ts⟩=⟨.ops ops (i+1),k,L',Bs,Ts⟩:=by
   unfold eR;simp only[q0,p1]
  rw[TZ] at hh;refine hh _ w' (hF.put p1) (S6.perm (List.Perm.append_right F ?_)) (hB.trans We);show (Bs++(AT::(oth [j] Ts.length).filterMap (Ts[·]?)).flatten).Perm _;rw[List.flatten_cons,<- List.append_assoc,<- List.append_assoc];exact List.Perm.append_right _ List.perm_append_comm
end
section
variable {α:Type} {e:Enc α} {P:Program} {T:TypeId} {inf:TypeInfo} {z:Value} {l:List α} {A:Option Addr} {cap:Nat} {Hl F:HL}
theorem SlIs.toRowL(h:SlIs e T l A cap Hl)(hF:∀x∈Hl,x∈F):RowL e T F A l.length l:=by
 rcases h with ⟨rfl,rfl,rfl,rfl⟩|⟨b,o,full,rfl,rfl,h1,h2,h3⟩
 ·exact .zero _
 ·refine .rows b o (o+cap) full (0,0) _ l (hF _ (List.mem_singleton.2 rfl)) (by omega) rfl (λ k hk=>?_);have h4:((full.drop o).take l.length)[k]?=l[k]?:=by rw[h3]
  rw[List.getElem?_take,if_pos hk,List.getElem?_drop] at h4;rw[List.getD_eq_getElem?_getD,List.getD_eq_getElem?_getD,h4]
theorem SlIs.one{x:α}{b:Nat}:SlIs e T [x] (some ⟨b,0,none⟩) 1 [(b,.rows e.w 1 (aL e [x]) T (0,0))]:=.inr ⟨b,0,[x],by simp,by simp,rfl,Nat.le_refl _,rfl⟩
end
section
variable {r:Option Nat} {P:Program} {N:Nat} {D:List Deferred} {F:HL} {w0:World} {R:HL} {s:Cfg} {Q:Exit -> Act -> World -> Prop} {hards:List Nat} {Rd:HL}
def Qv(i:Nat)(s:Cfg):Cfg:=match s with
 | ⟨c,k,L,A,Ts⟩=>⟨c,k,L,(oth [i] A.length).filterMap (A[·]?),[i].filterMap (A[·]?)::Ts⟩
theorem pT{A:HL}{Ts:List HL}{i:Nat}(h:([i]++oth [i] A.length).isPerm (List.range A.length)=true):(ap ((oth [i] A.length).filterMap (A[·]?)) ([i].filterMap (A[·]?)::Ts)).Perm (ap A Ts):=by
 have hp:=fE A [i] (oth [i] A.length) h;show ((oth [i] A.length).filterMap (A[·]?)++([i].filterMap (A[·]?)::Ts).flatten).Perm (A++Ts.flatten);rw[List.flatten_cons,<- List.append_assoc];exact(List.perm_append_comm.trans hp).append_right _
theorem Qw(i:Nat)(hk:RD r P N D F w0 R hards Rd (Qv i s) Q)(h:([i]++oth [i] s.A.length).isPerm (List.range s.A.length)=true:=by kernel_rfl):RD r P N D F w0 R hards Rd s Q:=by
 obtain⟨c,k,L,A,Ts⟩:=s;refine⟨λ hR hs=>?_⟩;have h1:=hk.h hR hs;intro TA a hF;exact JJ.perm _ _ _ _ _ (pT h) (h1 TA a hF)
theorem eK(t:Nat){u v:Value}(e:u=v)(hk:RD r P N D F w0 R hards Rd (svC t v s) Q)(h:s.L.lookup t=some u:=by kernel_rfl):RD r P N D F w0 R hards Rd s Q:=by
 subst e;exact⟨λ hR hs TA a hF=>hk.h hR hs TA a (hF.fix h)⟩
variable {α:Type} {e:Enc α} {T:TypeId} {inf:TypeInfo} {z:Value}
theorem RN.appU(ok:EncOk e P T inf z)(l src:List α)(j:Nat){A:Option Addr}{n cap:Nat}{Hl:HL}{B:Option Addr}{m c':Nat}{tx:TypeId}(hn:n=l.length)(VX:SlIs e T l A cap Hl)(hb:l.length+src.length <= 100000000)
  (hs:SrcIn P e (ap s.A s.Ts++F) B m src)
  (hk:∀ (A':Option Addr) (g_:Nat) (AT:HL),(SlIs e T (l++src) A' g_ AT /\ (bA A -> bA A')) -> RN r P N D F w0 R (Ox j AT (eR N (.slice A' (n+src.length) g_) s)) Q)
  (h:DZ P N j (i7 s) s=some (A,n,cap,T,B,m,c',tx,Hl):=by kernel_rfl):RN r P N D F w0 R s Q:=by
 obtain⟨o,a1,a2,t,e',q0,q1,q2,q3,q4,q5,q6,q7,q9,Tj,Ux⟩:=tz h;refine⟨λ hR a w hF f_ hB=>?_⟩;obtain⟨c,k,L,Bs,Ts⟩:=s;unfold i7 at q0;cases c with
 | code c=>cases q0
 | ex c=>cases q0
 | drw _ _=>cases q0
 | ops ops i =>
  simp only at q0 q3 q4 q5 q9 Tj Ux hF f_;have AS:ops.toList.drop i=o::ops.toList.drop (i+1):=by
   have iS:i<ops.toList.length:=(List.getElem?_eq_some_iff.1 q0).1;rw[List.drop_eq_getElem_cons iS,(List.getElem?_eq_some_iff.1 q0).2]
  show wpListIn _ _ _ _ _ _ _ _;rw[AS,wpListIn,if_pos (by simp[Region.wanted,q1])];refine⟨λ _ _=>trivial,?_⟩;have AI:=iw (A:=Bs) q9 Tj;refine fQ (by rw[q2];intro c hc;cases hc) (qI (x:=.slice B m c') (src:=src) (G:=Bs++((oth [j] Ts.length).filterMap (Ts[·]?)).flatten) ok q2 q6 q3 q4 hn q5 AI VX (λ w hw=>by have h5:=hs.2 c' q7 [] w hw;rwa [<- ok.size] at h5) hb a hF w f_) ?_;rintro u w' ⟨⟨A',g_,AT⟩,⟨rfl,XW⟩,S6,We⟩;obtain⟨L',p1⟩:=dF Ux (.slice A' (n+src.length) g_);have hh:=(hk A' g_ AT XW).h hR;have TZ:eR N (.slice A' (n+src.length) g_) ⟨.ops ops i,k,L,Bs,Ts⟩=⟨.ops ops (i+1),k,L',Bs,Ts⟩:=by
   unfold eR;simp only[q0,p1]
  rw[TZ] at hh;refine hh _ w' (hF.put p1) (S6.perm (List.Perm.append_right F ?_)) (hB.trans We);show (Bs++(AT::(oth [j] Ts.length).filterMap (Ts[·]?)).flatten).Perm _;rw[List.flatten_cons,<- List.append_assoc,<- List.append_assoc];exact List.Perm.append_right _ List.perm_append_comm
end
def slA(A:Option Addr)(l sz cap:Nat):Option Addr:=if cap=l then A else A.map (·.add (l*sz))
def Sb(P:Program)(o:Oper)(L:FL):Option (Option Addr × Nat × Nat × Int × Nat):=match o.guard,o.op with
 | none,.slice t x (some lo) none none=>match iT L x && iT L lo,P.underlying t,gm L x,gm L lo with
  | true,some (.slice elem),.slice a len cap,.int .i64 l=>match P.info? elem with
   | some inf=>some (a,len,cap,l,inf.size)
   | none=>none
  | _,_,_,_=>none
 | _,_=>none
def RT(P:Program)(N:Nat)(oo:Option Oper)(s:Cfg):Option (Option Addr × Nat × Nat × Int × Nat):=match oo with
 | some o=>match Sb P o s.L,(fd N o.dst undef s.L).isSome with
  | some x,true=>some x
  | _,_=>none
 | none=>none
section
variable {r:Option Nat} {P:Program} {N:Nat} {D:List Deferred} {F:HL} {w0:World} {R:HL} {s:Cfg} {Q:Exit -> Act -> World -> Prop}
theorem zi{o:Oper}{L:FL}{A:Option Addr}{n cap sz:Nat}{l:Int}(h:Sb P o L=some (A,n,cap,l,sz)) :
  ∃t x lo elem inf,o.guard=none /\ o.op=.slice t x (some lo) none none /\ (iT L x && iT L lo)=true /\ P.underlying t=some (.slice elem) /\ gm L x=.slice A n cap /\ gm L lo=.int .i64 l /\ P.info? elem=some inf /\ inf.size=sz:=by
 unfold Sb at h;split at h
 case h_2=>cases h
 rename_i t x lo hg S8;split at h
 case h_2=>cases h
 rename_i elem a len cp l' h1 h2 h3 h4;split at h
 case h_2=>cases h
 rename_i inf h5;simp only[Option.some.injEq,Prod.mk.injEq] at h;obtain⟨e1,e2,e3,e4,e5⟩:=h;subst e1;subst e2;subst e3;subst e4;exact⟨t,x,lo,elem,inf,hg,S8,h1,h2,h3,h4,h5,e5⟩
theorem RN.slA{A:Option Addr}{n cap l sz:Nat}{li:Int}(hl:li=(l:Int))(h1:l <= n)(h2:n <= cap)(hk:RN r P N D F w0 R (eR N (.slice (slA A l sz cap) (n-l) (cap-l)) s) Q)
  (h:RT P N (i7 s) s=some (A,n,cap,li,sz):=by kernel_rfl):RN r P N D F w0 R s Q:=by
 unfold RT at h;split at h
 case h_2=>cases h
 rename_i o q0;split at h
 case h_2=>cases h
 rename_i y hv hp;simp only[Option.some.injEq] at h;rw[h] at hv;clear h;obtain⟨t,x,lo,elem,inf,q1,q2,q3,q4,q5,q6,q7,q8⟩:=zi hv;refine⟨λ hR aa w hF f_ hB=>?_⟩;obtain⟨c,k,L,Bs,Ts⟩:=s;unfold i7 at q0;cases c with
 | code c=>cases q0
 | ex c=>cases q0
 | drw _ _=>cases q0
 | ops ops pc =>
  simp only at q0 q3 q5 q6 hp hF f_;have AS:ops.toList.drop pc=o::ops.toList.drop (pc+1):=by
   have iS:pc<ops.toList.length:=(List.getElem?_eq_some_iff.1 q0).1;rw[List.drop_eq_getElem_cons iS,(List.getElem?_eq_some_iff.1 q0).2]
  show wpListIn _ _ _ _ _ _ _ _;rw[AS,wpListIn,if_pos (by simp[Region.wanted,q1])];refine⟨λ _ _=>trivial,?_⟩;have key:dR P o aa w λ u w'=>u=.slice (slA A l sz cap) (n-l) (cap-l) /\ Rel (ap Bs Ts++F) w' /\ Below 0 w w':=by
   simp only[Bool.and_eq_true] at q3;have e1:=(hF.eval q3.1).trans q5;have e2:=(hF.eval q3.2).trans q6;have k1:=jR (P:=P) (ρ:=aa.eval) (lo:=some lo) (hi:=none) (l:=l) (h:=n) (len:=n) (cap:=cap) (by show Fk _ _ _ _;unfold Fk;simp only[e2];exact hl) rfl h1 h2 w;have k2:=λ W=>dC q7 W;have k3:=λ W=>aN q4 W;unfold dR;have he:(execOp aa.eval o).run P w=.ok (.value (.slice (slA A l sz cap) (n-l) (cap-l))) w:=by
    rw[show Option.map aa.eval none=none from rfl,show Option.map aa.eval (some lo)=some (aa.eval lo) from rfl] at k1;simp[execOp,q2,Instr.sliceAt,Instr.slice,e1,k3,Go.sizeOf,k2,Sem.run_bind,k1,slA,q8]
   rw[he];exact⟨rfl,f_,Below.refl _ _⟩
  refine fQ (by rw[q2];intro c hc;cases hc) key ?_;rintro u w' ⟨rfl,S6,We⟩;obtain⟨L',p1⟩:=dF hp (.slice (slA A l sz cap) (n-l) (cap-l));have hh:=hk.h hR;have TZ:eR N (.slice (slA A l sz cap) (n-l) (cap-l)) ⟨.ops ops pc,k,L,Bs,Ts⟩=⟨.ops ops (pc+1),k,L',Bs,Ts⟩:=by
   unfold eR;simp only[q0,p1]
  rw[TZ] at hh;exact hh _ w' (hF.put p1) S6 (hB.trans We)
end
section
variable {α:Type} {e:Enc α} {T:TypeId} {F:HL} {A:Option Addr} {n cap:Nat} {xs:List α} {Hl:HL}
theorem SlIs.drop(h:SlIs e T xs A cap Hl)(hF:∀x∈Hl,x∈F)(hn:xs.length=n){k:Nat}(hk:k <= n):RowL e T F (slA A k e.w cap) (n-k) (xs.drop k):=by
 subst hn;have hr:=h.toRowL hF;rcases h with ⟨rfl,rfl,rfl,rfl⟩|⟨b,o,full,rfl,rfl,h1,h2,h3⟩
 ·have:k=0:=by simpa using hk
  subst this;exact .zero _
 ·by_cases hc:cap=k
  ·have e1:xs.length-k=0:=by omega
   have e2:xs.drop k=[]:=List.eq_nil_of_length_eq_zero (by rw[List.length_drop];omega);rw[e1,e2];exact .zero _
  ·have e1:slA (some ⟨b,o*e.w,none⟩) k e.w cap=some ⟨b,(o+k)*e.w,none⟩:=by
    unfold slA;rw[if_neg hc,Option.map_some,iX rfl];simp[vh,Nat.add_mul]
   rw[e1];refine .rows b (o+k) (o+cap) full (0,0) _ _ (hF _ (List.mem_singleton.2 rfl)) (by omega) (by simp) (λ i hi=>?_);have h4:((full.drop o).take xs.length)[k+i]?=xs[k+i]?:=by rw[h3]
   rw[List.getElem?_take,if_pos (by omega),List.getElem?_drop] at h4;rw[List.getD_eq_getElem?_getD,List.getD_eq_getElem?_getD,List.getElem?_drop,<- h4,Nat.add_assoc]
end
def bs(x:Option Int)(n d:Nat):Prop:=match x with
 | some z=>z=(n:Int)
 | none=>n=d
def bO(L:FL)(x:Option Operand):Option (Option Int):=match x with
 | none=>some none
 | some v=>match iT L v,gm L v with
  | true,.int .i64 z=>some (some z)
  | _,_=>none
theorem xA{L:FL}{x:Option Operand}{i:Option Int}{a:Act}(he:∀v,iT L v=true -> a.eval v=gm L v)(h:bO L x=some i):x.map a.eval=i.map vI:=by
 unfold bO at h;split at h
 ·cases h;rfl
 ·rename_i v;split at h
  ·rename_i z h1 h2;cases h;show some _=some _;rw[he v h1,h2]
  ·cases h
theorem zj{P:Program}{lo hi mx:Option Int}{l h m len cap:Nat}(o1:bs lo l 0)(o2:bs hi h len)(o3:bs mx m cap)(hx:mx.isSome=true -> hi.isSome=true)(h1:l <= h)(h2:h <= m)(h3:m <= cap)(W:World) :
  (Instr.sliceBounds true len cap (lo.map vI) (hi.map vI) (mx.map vI)).run P W=.ok (l,h,m) W:=by
 have b1:∀ (y n:Nat) (c:BoundsCode),n <= y -> (Instr.sliceBound (vI (n:Int)) y c).run P W=.ok n W:=by
  intro y n c hny;simp[Instr.sliceBound,asIntOf,hny,go_sem]
 unfold Instr.sliceBounds;cases lo <;> cases hi <;> cases mx <;> simp only[bs] at o1 o2 o3
 all_goals subst o1 o2 o3
 ·simp[Sem.run_bind]
 ·simp at hx
 ·simp[Sem.run_bind,b1,h2]
 ·simp[Sem.run_bind,b1,h2,h3]
 ·simp[Sem.run_bind,b1,h1]
 ·simp at hx
 ·simp[Sem.run_bind,b1,h1,h2]
 ·simp[Sem.run_bind,b1,h1,h2,h3]
def Oy(P:Program)(o:Oper)(L:FL):Option (Option Addr × Nat × Nat × Option Int × Option Int × Option Int × Nat):=match o.guard,o.op with
 | none,.slice t x lo hi mx=>match iT L x,P.underlying t,gm L x,bO L lo,bO L hi,bO L mx with
  | true,some (.slice elem),.slice a len cap,some l,some h,some m=>match P.info? elem with
   | some inf=>if m.isSome && h.isNone then none else some (a,len,cap,l,h,m,inf.size)
   | none=>none
  | _,_,_,_,_,_=>none
 | _,_=>none
def Qx(P:Program)(N:Nat)(oo:Option Oper)(s:Cfg):Option (Option Addr × Nat × Nat × Option Int × Option Int × Option Int × Nat):=match oo with
 | some o=>match Oy P o s.L,(fd N o.dst undef s.L).isSome with
  | some x,true=>some x
  | _,_=>none
 | none=>none
abbrev Cm(A:Option Addr)(l sz m:Nat):Option Addr:=slA A l sz m
section
variable {r:Option Nat} {P:Program} {N:Nat} {D:List Deferred} {F:HL} {w0:World} {R:HL} {s:Cfg} {Q:Exit -> Act -> World -> Prop}
theorem FD{o:Oper}{L:FL}{A:Option Addr}{n cap sz:Nat}{li hi mi:Option Int}(h:Oy P o L=some (A,n,cap,li,hi,mi,sz)) :
  ∃t x lo h' mx elem inf,o.guard=none /\ o.op=.slice t x lo h' mx /\ iT L x=true /\ P.underlying t=some (.slice elem) /\ gm L x=.slice A n cap /\ bO L lo=some li /\ bO L h'=some hi /\ bO L mx=some mi /\ P.info? elem=some inf /\ inf.size=sz /\ (mi.isSome=true -> hi.isSome=true):=by
 unfold Oy at h;split at h
 case h_2=>cases h
 rename_i t x lo h' mx hg S8;split at h
 case h_2=>cases h
 rename_i elem a len cp l1 l2 l3 h1 h2 h3 h4 h5 h6;split at h
 case h_2=>cases h
 rename_i inf h7;split at h
 case isTrue=>cases h
 rename_i h8;simp only[Option.some.injEq,Prod.mk.injEq] at h;obtain⟨e1,e2,e3,e4,e5,e6,e7⟩:=h;subst e1;subst e2;subst e3;subst e4;subst e5;subst e6;refine⟨t,x,lo,h',mx,elem,inf,hg,S8,h1,h2,h3,h4,h5,h6,h7,e7,λ g=>?_⟩;cases l2 with
 | some _=>rfl
 | none=>simp[g] at h8
theorem Cn{A:Option Addr}{n cap l h m sz:Nat}{li hi mi:Option Int}(hl:bs li l 0)(hh:bs hi h n)(hm:bs mi m cap)(h1:l <= h)(h2:h <= m)(h3:m <= cap)(hk:RN r P N D F w0 R (eR N (.slice (Cm A l sz m) (h-l) (m-l)) s) Q)
  (hc:Qx P N (i7 s) s=some (A,n,cap,li,hi,mi,sz):=by kernel_rfl):RN r P N D F w0 R s Q:=by
 unfold Qx at hc;split at hc
 case h_2=>cases hc
 rename_i o q0;split at hc
 case h_2=>cases hc
 rename_i y hv hp;simp only[Option.some.injEq] at hc;rw[hc] at hv;clear hc;obtain⟨t,x,lo,h',mx,elem,inf,q1,q2,q3,q4,q5,q6,q6',agA,q7,q8,q9⟩:=FD hv;refine⟨λ hR aa w hF f_ hB=>?_⟩;obtain⟨c,k,L,Bs,Ts⟩:=s;unfold i7 at q0;cases c with
 | code c=>cases q0
 | ex c=>cases q0
 | drw _ _=>cases q0
 | ops ops pc =>
  simp only at q0 q3 q5 q6 q6' agA hp hF f_;have AS:ops.toList.drop pc=o::ops.toList.drop (pc+1):=by
   have iS:pc<ops.toList.length:=(List.getElem?_eq_some_iff.1 q0).1;rw[List.drop_eq_getElem_cons iS,(List.getElem?_eq_some_iff.1 q0).2]
  show wpListIn _ _ _ _ _ _ _ _;rw[AS,wpListIn,if_pos (by simp[Region.wanted,q1])];refine⟨λ _ _=>trivial,?_⟩;have key:dR P o aa w λ u w'=>u=.slice (Cm A l sz m) (h-l) (m-l) /\ Rel (ap Bs Ts++F) w' /\ Below 0 w w':=by
   have e1:=(hF.eval q3).trans q5;have he:∀v,iT L v=true -> aa.eval v=gm L v:=λ v hv=>hF.eval hv;have k1:=zj (P:=P) hl hh hm q9 h1 h2 h3 w;rw[<- xA he q6,<- xA he q6',<- xA he agA] at k1;have k2:=λ W=>dC q7 W;have k3:=λ W=>aN q4 W;unfold dR;have he:(execOp aa.eval o).run P w=.ok (.value (.slice (Cm A l sz m) (h-l) (m-l))) w:=by
    simp[execOp,q2,Instr.sliceAt,Instr.slice,e1,k3,Go.sizeOf,k2,Sem.run_bind,k1,Cm,Go.Proofs.YtdppjkjbghbnjaaGreatDoor.slA,q8]
   rw[he];exact⟨rfl,f_,Below.refl _ _⟩
  refine fQ (by rw[q2];intro c hc;cases hc) key ?_;rintro u w' ⟨rfl,S6,We⟩;obtain⟨L',p1⟩:=dF hp (.slice (Cm A l sz m) (h-l) (m-l));have hh:=hk.h hR;have TZ:eR N (.slice (Cm A l sz m) (h-l) (m-l)) ⟨.ops ops pc,k,L,Bs,Ts⟩=⟨.ops ops (pc+1),k,L',Bs,Ts⟩:=by
   unfold eR;simp only[q0,p1]
  rw[TZ] at hh;exact hh _ w' (hF.put p1) S6 (hB.trans We)
end
def aac:=@RD.cp
def aad:=@RD.fin
def aae:=@RD.one
def aaf:=@RDO.ct
def aag:=@RDO.ev
def aah:=@RN.bv
def aak:=@RN.dn
def aal:=@RN.draw
def aap:=@RN.nt
def aat:=@RN.yield
end Go.Proofs.YtdppjkjbghbnjaaGreatDoor
