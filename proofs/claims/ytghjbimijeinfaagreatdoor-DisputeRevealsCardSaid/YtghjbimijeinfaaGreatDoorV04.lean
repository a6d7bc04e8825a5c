import Derived.Test.YtghjbimijeinfaaGreatDoorProg
import Derived.Shelf.Small.Bits
import Derived.Shelf.Strconv.Itoa0
import Derived.Test.YtghjbimijeinfaaGreatDoorV03
set_option maxHeartbeats 4000000
set_option maxRecDepth 100000
set_option linter.all false
namespace Go.Proofs.YtghjbimijeinfaaGreatDoor
open IntKind
open Go.RowKit
def oK(s:Cfg):Array Oper:=match s.c with
 | .drw ops _=>ops
 | _=>#[]
def ie(s:Cfg):List Bool:=match s.c with
 | .drw _ l=>l
 | _=>[]
def fL:List Bool -> Nat
 | []=>0
 | true::l=>fL l
 | false::l=>fL l+1
theorem Eg(n:Nat):fL (List.replicate n false)=n:=by
 induction n with
 | zero=>rfl
 | succ n ih=>rw[List.replicate_succ,fL,ih]
def P8(s:Cfg):Cfg:=match s with
 | ⟨.code (.region _ ops true),k,L,A,Ts⟩=>⟨.drw ops (List.replicate ops.toList.length false),k,L,A,Ts⟩
 | s=>s
def M9(s:Cfg):Bool:=match s.c with
 | .code (.region _ ops true)=>Region.noSelect ops && rH ops
 | _=>false
structure RD(r:Option Nat)(P:Program)(N:Nat)(D:List Deferred)(F:HL)(w0:World)(R:HL)(hards:List Nat)(Rd:HL)(s:Cfg)(Q:Exit -> Act -> World -> Prop):Prop where
 h:(∀y∈R,y∈F) -> Region.noSelect (oK s)=true -> TD P N D F w0 (oK s) hards Rd (fL (ie s)) (ie s) s.L (ap s.A s.Ts) (NoPanic (lP r P s.k Q))
section
variable {r:Option Nat} {P:Program} {N:Nat} {D:List Deferred} {F:HL} {w0:World} {R:HL} {s:Cfg} {Q:Exit -> Act -> World -> Prop} {hards:List Nat} {Rd:HL}
def Eh(ix:List Nat)(s:Cfg):HL:=ix.filterMap (s.A[·]?)
theorem RN.draw(hards ix:List Nat)(hk:RD r P N D F w0 R hards (Eh ix s) (P8 s) Q)(hm:P.follows .mixedOrders=true:=by kernel_rfl)(hc:M9 s=true:=by kernel_rfl):RN r P N D F w0 R s Q:=by
 refine⟨λ hR=>?_⟩;obtain⟨c,k,L,A,Ts⟩:=s;unfold M9 at hc;split at hc
 case h_2=>cases hc
 rename_i id ops e;simp only at e;subst e;rw[abe] at hc;have h1:=hk.h hR hc.1;exact TR.draw hards _ hm hc.1 hc.2 (by
  simp only[P8,ie,oK,Eg] at h1;have e:ops.toList.length=ops.size:=by simp
  rw[e] at h1 ⊢;exact h1)
def R2(s:Cfg):Cfg:=match s with
 | ⟨.drw _ _,k,L,A,Ts⟩=>⟨.ex .normal,k,L,A,Ts⟩
 | s=>s
def Ei(s:Cfg):Bool:=match s.c with
 | .drw ops l=>(jP ops.toList l).isEmpty
 | _=>false
theorem RD.fin(hk:RN r P N D F w0 R (R2 s) Q)(hc:Ei s=true:=by kernel_rfl):RD r P N D F w0 R hards Rd s Q:=by
 refine⟨λ hR _=>?_⟩;obtain⟨c,k,L,A,Ts⟩:=s;unfold Ei at hc;split at hc
 case h_2=>cases hc
 rename_i ops l e;simp only at e;subst e;exact TD.fin (List.isEmpty_iff.1 hc) (P4 (λ a w h1 h2 h3=>hk.h hR a w h1 h2 h3))
def GH(P:Program)(N:Nat)(R:HL)(hards:List Nat)(Rd:HL)(is:List Nat)(hints:List Hint)(s:Cfg):Option (List Bool × FL × SS):=match s.c with
 | .drw ops l=>ue P 0 N ops.toList hards Rd is l s.L ⟨ap s.A s.Ts,R,hints,0,[],[],false⟩
 | _=>none
def RB(P:Program)(N:Nat)(R:HL)(hards:List Nat)(Rd:HL)(is:List Nat)(hints:List Hint)(s:Cfg):Cfg:=match GH P N R hards Rd is hints s with
 | some (b,L',_)=>match s with
  | ⟨.drw ops _,k,_,A,Ts⟩=>⟨.drw ops b,k,L',A,Ts⟩
  | s=>s
 | none=>s
def RC(x:Option (List Bool × FL × SS)):List Nat:=match x with
 | some (_,_,ss)=>ss.eq.map (·.2)
 | none=>[]
def N1(n:Nat)(x:Option (List Bool × FL × SS)):Option (Nat × List Nat × List Prop):=match x with
 | some (b,_,ss)=>match ss.hints with
  | []=>some (fL b+n,ss.eq.map (·.1),ss.ob)
  | _=>none
 | none=>none
theorem GI(ix is:List Nat)(hints:List Hint)(Ob:List Prop)(iD:AllP Ob)(hk:RD r P N D F w0 R hards Rd (RB P N R hards Rd is hints s) Q)
  (h:N1 is.length (GH P N R hards Rd is hints s)=some (fL (ie s),RC (GH P N R hards Rd is hints s),Ob):=by kernel_rfl) (hix:Eh ix s=Rd:=by kernel_rfl):RD r P N D F w0 R hards Rd s Q:=by
 refine⟨λ hR hs=>?_⟩;obtain⟨c,k,L,A,Ts⟩:=s;cases c with
 | drw ops l =>
  simp only[oK,ie] at hs ⊢;unfold RB at hk;generalize hx:GH P N R hards Rd is hints ⟨.drw ops l,k,L,A,Ts⟩=x at h hk;unfold N1 at h;split at h
  case h_2=>cases h
  rename_i b L' ss;split at h
  case h_2=>cases h
  simp only[RC,ie,Option.some.injEq,Prod.mk.injEq] at h;obtain⟨e1,e2,e3⟩:=h;rw[<- e1];refine jE (Rr:=R) hs (λ x hx=>aav _ (xL ix hix x hx)) hR is l b L L' _ ss hx rfl rfl rfl (gq e2 rfl) (by rw[e3];exact fl iD) ?_;exact hk.h hR hs
 | code c=>simp[GH,N1] at h
 | ops ops i=>simp[GH,N1] at h
 | ex e=>simp[GH,N1] at h
theorem ag(ix is:List Nat)(hints:List Hint)(hk:RD r P N D F w0 R hards Rd (RB P N R hards Rd is hints s) Q)
 (h:N1 is.length (GH P N R hards Rd is hints s)=some (fL (ie s),RC (GH P N R hards Rd is hints s),[]):=by kernel_rfl) (hix:Eh ix s=Rd:=by kernel_rfl):RD r P N D F w0 R hards Rd s Q:=GI ix is hints [] trivial hk h hix
theorem aF(ix is:List Nat)(hints:List Hint)(Ob:List Prop)(hk:RD r P N D F w0 R hards Rd (RB P N R hards Rd is hints s) Q)(iD:AllP Ob:=by simp only[AllP,bm,and_true,true_and] <;> (repeat' with_reducible refine And.intro ?_ ?_) <;> omega)
 (h:N1 is.length (GH P N R hards Rd is hints s)=some (fL (ie s),RC (GH P N R hards Rd is hints s),Ob):=by kernel_rfl) (hix:Eh ix s=Rd:=by kernel_rfl):RD r P N D F w0 R hards Rd s Q:=GI ix is hints Ob iD hk h hix
theorem Na{b v:Bool}(t:Nat)(hb:b=v)(hk:RD r P N D F w0 R hards Rd (rk t v s) Q)(h:s.L.lookup t=some (.bool b):=by kernel_rfl):RD r P N D F w0 R hards Rd s Q:=by
 subst hb;exact⟨λ hR hs BY a hF=>hk.h hR hs BY a (hF.fix h)⟩
theorem RD.em(p:Prop)[Decidable p](t:Nat)(h1:p -> RD r P N D F w0 R hards Rd (rk t true s) Q)(h2:¬ p -> RD r P N D F w0 R hards Rd (rk t false s) Q)(h:s.L.lookup t=some (.bool (decide p)):=by kernel_rfl):RD r P N D F w0 R hards Rd s Q:=by
 by_cases hp:p
 ·exact Na t (abA hp) (h1 hp) h
 ·exact Na t (abz hp) (h2 hp) h
theorem RD.ro{R':HL}(h:(∀y∈R,y∈F) -> ∀y∈R',y∈F)(hk:RD r P N D F w0 R' hards Rd s Q):RD r P N D F w0 R hards Rd s Q:=⟨λ hR=>hk.h (h hR)⟩
def N3(P:Program)(N:Nat)(R:HL)(i:Nat)(s:Cfg):Option (Option Tmp × FuncId × Array Value × List Nat × List Prop):=match s.c with
 | .drw ops _=>match ops.toList[i]? with
  | none=>none
  | some o=>match jC ops.toList o s.L ⟨ap s.A s.Ts,R,[],0,[],[],false⟩ with
   | some (true,ss)=>match iW o.op s.L with
    | true=>match ev P 0 o (fG s.L) ss with
     | some (.enter f args,s')=>match s'.hints with
      | []=>some (o.dst,f,args,s'.eq.map (·.1),s'.ob)
      | _=>none
     | _=>none
    | false=>none
   | _=>none
 | _=>none
def P9(N:Nat)(hards:List Nat)(i:Nat)(s:Cfg)(x:Option (Option Tmp × FuncId × Array Value × List Nat × List Prop)):Option (FuncId × Array Value × List Nat × List Prop × Nat):=match x with
 | some (dst,f,args,E,Ob)=>match (dV N dst undef s.L).isSome,PV (oK s).toList hards (ie s) i with
  | true,true=>some (f,args,E,Ob,fL (aR (ie s) i true)+1)
  | _,_=>none
 | none=>none
def rL(N i:Nat)(v:Value)(s:Cfg):Cfg:=match s with
 | ⟨.drw ops l,k,L,A,Ts⟩=>match ops.toList[i]? with
  | some o=>match dV N o.dst v L with
   | some L'=>⟨.drw ops (aR l i true),k,L',A,Ts⟩
   | none=>⟨.drw ops l,k,L,A,Ts⟩
  | none=>⟨.drw ops l,k,L,A,Ts⟩
 | s=>s
theorem RD.cp(ix:List Nat)(i:Nat){f:FuncId}{args:Array Value}{v:Value}(hc:∀X,Sp P f args [] (X++(ap s.A s.Ts++F)) (λ u H'=>u=v /\ H'=[]))(hk:RD r P N D F w0 R hards Rd (rL N i v s) Q)
  (h:P9 N hards i s (N3 P N R i s)=some (f,args,[],[],fL (ie s)):=by kernel_rfl) (hix:Eh ix s=Rd:=by kernel_rfl):RD r P N D F w0 R hards Rd s Q:=by
 refine⟨λ hR hs=>?_⟩;obtain⟨c,k,L,A,Ts⟩:=s;cases c with
 | drw ops l =>
  simp only[oK,ie] at hs ⊢ h;generalize hx:N3 P N R i ⟨.drw ops l,k,L,A,Ts⟩=x at h;unfold P9 at h;split at h
  case h_2=>cases h
  rename_i dst f' iF E Ob;split at h
  case h_2=>cases h
  rename_i Vx dO;simp only[oK,ie,Option.some.injEq,Prod.mk.injEq] at h dO;obtain⟨e1,e2,e3,e4,e5⟩:=h;subst e1;subst e2;subst e3;subst e4;obtain⟨L',hl⟩:=dU Vx v;have VT:=hx;unfold N3 at VT;simp only at VT;have ho:∃o,ops.toList[i]?=some o /\ o.dst=dst:=by
   split at VT
   ·cases VT
   rename_i o ho;split at VT
   case h_2=>cases VT
   split at VT
   case h_2=>cases VT
   split at VT
   case h_2=>cases VT
   split at VT
   case h_2=>cases VT
   simp only[Option.some.injEq,Prod.mk.injEq] at VT;exact⟨o,ho,VT.1⟩
  obtain⟨o,ho,hd⟩:=ho;have Tf:rL N i v ⟨.drw ops l,k,L,A,Ts⟩=⟨.drw ops (aR l i true),k,L',A,Ts⟩:=by
   unfold rL;simp only[ho,hd,hl]
  rw[Tf] at hk;subst hd;show TD P N D F w0 ops hards Rd (fL l) l L (ap A Ts) (NoPanic (lP r P k Q));rw[<- e5];refine CD (v:=v) (L1:=L') hs (by unfold PV at dO;unfold P3;simp only[abe] at dO ⊢;exact dO.1) (by simpa using ho) (λ a hF=>hF.put hl) (λ a hF=>?_) (λ x hx=>aav _ (xL ix hix x hx)) (.inl dO) (hk.h hR hs);unfold N3 at hx;simp only[ho] at hx;split at hx
  case h_2=>cases hx
  rename_i ss Ve;split at hx
  case h_2=>cases hx
  rename_i aaM;split at hx
  case h_2=>cases hx
  rename_i f2 alr s2 he;split at hx
  case h_2=>cases hx
  simp only[Option.some.injEq,Prod.mk.injEq] at hx;obtain⟨-,e2,e3,e4,e5⟩:=hx;subst e2;subst e3;obtain⟨a1,a2,a3,a4⟩:=bO Ve;obtain⟨d1,d2,d3,d4⟩:=dH he;have Ty:∀p∈s2.ob,p:=by rw[e5];intro p hp;cases hp
  have aa5:∀p∈s2.eq,p.1=p.2:=by
   have:s2.eq=[]:=by simpa using e4
   rw[this];intro p hp;cases hp
  obtain⟨c1,c2,c3⟩:=cw Ve hF (λ p hp=>Ty p (d2 p hp));refine .inl ⟨c1,λ X w aT hB=>?_⟩;have Tt:Rel (ap A Ts++(X++F)) w:=aT.perm (by
   rw[<- aaF,<- aaF];exact aa8 F aa7)
  obtain⟨w1,r1,r2,r3,r4,r5⟩:=gO (w:=w) (F:=X++F) he aa5 Ty (by rw[c2];exact Tt) (by rw[a3];exact λ y hy=>aau _ (hR y hy)) (λ e=>by rw[a4] at e;cases e);obtain rfl:=r5 a4;unfold dW;rw[hF.exec aaM,r1];refine(hc X w1 (by simpa using aT)).mono ?_;rintro e w2 ⟨u,H',rfl,⟨rfl,rfl⟩,h3,h4⟩;exact⟨rfl,by simpa using h3,hB.trans h4⟩
 | code c=>simp[N3,P9] at h
 | ops ops i=>simp[N3,P9] at h
 | ex e=>simp[N3,P9] at h
structure RDO(r:Option Nat)(P:Program)(N:Nat)(D:List Deferred)(F:HL)(w0:World)(R:HL)(hards:List Nat)(Rd:HL)(i:Nat)(s:Cfg)(Q:Exit -> Act -> World -> Prop):Prop where
 h:(∀y∈R,y∈F) -> Region.noSelect (oK s)=true -> ∀a,Fm N D s.L a -> Closed (oK s) ⟨aR (ie s) i true⟩ -> OPJ P (oK s) F w0 hards Rd i a (ap s.A s.Ts) (JJ P (oK s) (NoPanic (lP r P s.k Q)) F w0 hards Rd (fL (aR (ie s) i true)) ⟨aR (ie s) i true⟩)
def Qa(s:Cfg):List Nat:=jP (oK s).toList (ie s)
def RE(i:Nat)(s:Cfg):Nat:=fL (aR (ie s) i true)+1
theorem RD.one(i:Nat)(hk:RDO r P N D F w0 R hards Rd i s Q)(h:(Qa s,fL (ie s))=([i],RE i s):=by kernel_rfl):RD r P N D F w0 R hards Rd s Q:=by
 refine⟨λ hR hs=>?_⟩;simp only[Prod.mk.injEq] at h;exact TD.one i h.1 _ h.2 λ a hF BY=>hk.h hR hs a hF BY
theorem fe(i j:Nat)(h1:RDO r P N D F w0 R hards Rd i s Q)(h2:RDO r P N D F w0 R hards Rd j s Q)(h:(Qa s,fL (ie s),fL (ie s))=([i,j],RE i s,RE j s):=by kernel_rfl):RD r P N D F w0 R hards Rd s Q:=by
 refine⟨λ hR hs=>?_⟩;simp only[Prod.mk.injEq] at h;have e:fL (aR (ie s) i true)=fL (aR (ie s) j true):=by
  have:=h.2.1.symm.trans h.2.2;unfold RE at this;omega
 exact NZ i j h.1 _ h.2.1 (λ a hF BY=>h1.h hR hs a hF BY) (λ a hF BY=>by have:=h2.h hR hs a hF BY;rw[<- e] at this;exact this)
def Ej(P:Program)(n0 N:Nat)(R:HL)(i:Nat)(hints:List Hint)(s:Cfg):Option (Fo × FL × SS):=match s.c with
 | .drw ops l=>match ops.toList[i]? with
  | none=>none
  | some o=>match jC ops.toList o s.L ⟨s.A,R,hints,0,[],[],true⟩ with
   | some (true,ss)=>match iW o.op s.L with
    | true=>match ev P n0 o (fG s.L) ss with
     | some (.value v,s')=>match dV N o.dst v s.L with
      | some L'=>some (.drw ops (aR l i true),L',s')
      | none=>none
     | some (.skip,s')=>match dV N o.dst undef s.L with
      | some L'=>some (.drw ops (aR l i true),L',s')
      | none=>none
     | _=>none
    | false=>none
   | _=>none
 | _=>none
theorem GJ{n0 i:Nat}{hints:List Hint}{ops:Array Oper}{l:List Bool}{k:List KI}{L:FL}{A:HL}{Ts:List HL}{c:Fo}{L':FL}{s':SS}(h:Ej P n0 N R i hints ⟨.drw ops l,k,L,A,Ts⟩=some (c,L',s')) :
  ∃o ss u x,ops[i]?=some o /\ jC ops.toList o L ⟨A,R,hints,0,[],[],true⟩=some (true,ss) /\ iW o.op L=true /\ ev P n0 o (fG L) ss=some (x,s') /\ (x=.value u \/ (x=.skip /\ u=undef)) /\ dV N o.dst u L=some L' /\ c=.drw ops (aR l i true):=by
 unfold Ej at h;simp only at h;split at h
 ·cases h
 rename_i o ho;split at h
 case h_2=>cases h
 rename_i ss hw;split at h
 case h_2=>cases h
 rename_i dO;split at h
 ·rename_i v s2 he;split at h
  case h_2=>cases h
  rename_i hp;simp only[Option.some.injEq,Prod.mk.injEq] at h;obtain⟨e1,e2,e3⟩:=h;subst e2;subst e3;exact⟨o,ss,v,_,by simpa using ho,hw,dO,he,.inl rfl,hp,e1.symm⟩
 ·rename_i s2 he;split at h
  case h_2=>cases h
  rename_i hp;simp only[Option.some.injEq,Prod.mk.injEq] at h;obtain⟨e1,e2,e3⟩:=h;subst e2;subst e3;exact⟨o,ss,undef,_,by simpa using ho,hw,dO,he,.inr ⟨rfl,rfl⟩,hp,e1.symm⟩
 ·cases h
def Qb(P:Program)(n0 N:Nat)(R:HL)(i:Nat)(hints:List Hint)(s:Cfg):Cfg:=match Ej P n0 N R i hints s with
 | some (c,L',ss)=>match s with
  | ⟨_,k,_,_,Ts⟩=>⟨c,k,L',ss.h,Ts⟩
 | none=>s
def RF(x:Option (Fo × FL × SS)):List Nat:=match x with
 | some (_,_,ss)=>ss.eq.map (·.2)
 | none=>[]
def RG(Xo:Bool)(ix:List Nat)(A A':HL):HL:=match Xo with
 | true=>ix.filterMap (A'[·]?)
 | false=>A'.drop (A'.length-A.length)
def N4(Xo:Bool)(ix:List Nat)(A:HL)(x:Option (Fo × FL × SS)):Option (List Nat × List Prop × HL):=match x with
 | some (_,_,ss)=>match ss.hints with
  | []=>some (ss.eq.map (·.1),ss.ob,RG Xo ix A ss.h)
  | _=>none
 | none=>none
theorem CH(ix:List Nat){i:Nat}(hints:List Hint)(Ob:Nat -> List Prop)(iD:∀n0,AllP (Ob n0))(hk:∀n0,RD r P N D F w0 R hards Rd (Qb P n0 N R i hints s) Q)
  (h:∀n0,N4 (hards.contains i) ix s.A (Ej P n0 N R i hints s)=some (RF (Ej P n0 N R i hints s),Ob n0,cond (hards.contains i) Rd s.A):=by intro n0;kernel_rfl):RDO r P N D F w0 R hards Rd i s Q:=by
 refine⟨λ hR hs a hF BY=>?_⟩;obtain⟨c,k,L,A,Ts⟩:=s;cases c with
 | code c=>simp[Ej,N4] at h
 | ops ops i=>simp[Ej,N4] at h
 | ex e=>simp[Ej,N4] at h
 | drw ops l =>
  simp only[oK,ie] at hs BY h hF ⊢;have key:∀n0,∃o ss s' u x L',ops[i]?=some o /\ jC ops.toList o L ⟨A,R,hints,0,[],[],true⟩=some (true,ss) /\ iW o.op L=true /\ ev P n0 o (fG L) ss=some (x,s') /\ (x=.value u \/ (x=.skip /\ u=undef)) /\ dV N o.dst u L=some L' /\
    Qb P n0 N R i hints ⟨.drw ops l,k,L,A,Ts⟩=⟨.drw ops (aR l i true),k,L',s'.h,Ts⟩ /\ (∀p∈s'.eq,p.1=p.2) /\ s'.ob=Ob n0 /\ RG (hards.contains i) ix A s'.h=cond (hards.contains i) Rd A:=by
   intro n0;have h1:=h n0;generalize hx:Ej P n0 N R i hints ⟨.drw ops l,k,L,A,Ts⟩=x at h1;unfold N4 at h1;split at h1
   case h_2=>cases h1
   rename_i c L' s';split at h1
   case h_2=>cases h1
   simp only[RF,Option.some.injEq,Prod.mk.injEq] at h1;obtain⟨e1,e2,e3⟩:=h1;obtain⟨o,ss,u,x,q1,q2,q3,q4,q5,q6,q7⟩:=GJ hx;refine⟨o,ss,s',u,x,L',q1,q2,q3,q4,q5,q6,?_,gq e1 rfl,e2,e3⟩;unfold Qb;rw[hx];subst q7;rfl
  unfold OPJ;obtain⟨o,ss,s',u,x,L',q1,q2,q3,q4,q5,q6,q7,q8,q9,D_⟩:=key 0;rw[q1];simp only;obtain⟨d1,d2,d3,d4⟩:=dH q4;rw[if_pos (cw q2 hF (λ p hp=>fl (iD 0) p (by rw[<- q9];exact d2 p hp))).1];intro w aT hB;obtain⟨o',ss,s',u,x,L',q1',q2,q3,q4,q5,q6,q7,q8,q9,D_⟩:=key w.heap.size;obtain rfl:o=o':=Option.some.inj (q1.symm.trans q1');obtain⟨a1,a2,a3,a4⟩:=bO q2;obtain⟨d1,d2,d3,d4⟩:=dH q4;have Ty:∀p∈s'.ob,p:=by rw[q9];exact fl (iD _)
  obtain⟨c1,c2,c3⟩:=cw q2 hF (λ p hp=>Ty p (d2 p hp));rw[dY] at aT;obtain⟨w1,r1,r2,r3,r4,r5⟩:=gO (w:=w) (F:=Ts.flatten++F) q4 q8 Ty (by rw[c2];exact aT) (by rw[a3];exact λ y hy=>aau _ (hR y hy)) (λ _=>by rw[c3];rfl);have hkk:=(hk w.heap.size).h hR;rw[q7] at hkk;have fin:∃H',((i ∉ hards -> ∃X,H'=X++ap A Ts) /\ (i∈hards -> ∀x∈Rd,x∈H')) /\ JJ P ops (NoPanic (lP r P k Q)) F w0 hards Rd (fL (aR l i true)) ⟨aR l i true⟩ (a.put o.dst u) H' /\ Rel (H'++F) w1 /\ Below 0 w0 w1:=by
   refine⟨ap s'.h Ts,⟨λ hi=>?_,λ hi=>?_⟩,hkk hs BY _ (hF.put q6),by rw[dY];exact r2,hB.trans r3⟩
   ·have hc:hards.contains i=false:=by
     cases hq:hards.contains i with
     | false=>rfl
     | true=>exact absurd (List.contains_iff_mem.1 hq) hi
    rw[hc] at D_;simp only[RG,cond_false] at D_;refine⟨s'.h.take (s'.h.length-A.length),?_⟩;show s'.h++Ts.flatten=_++(A++Ts.flatten);rw[<- aaF];congr 1
    conv=>lhs;rw[<- List.take_append_drop (s'.h.length-A.length) s'.h,D_]
   ·have hc:hards.contains i=true:=List.contains_iff_mem.2 hi;rw[hc] at D_;simp only[RG,cond_true] at D_;exact λ x hx=>aav _ (xL ix D_ x hx)
  unfold dW;rw[hF.exec q3,r1];rcases q5 with rfl|⟨rfl,rfl⟩
  ·exact fin
  ·exact fin
theorem RDO.ev(ix:List Nat){i:Nat}(hints:List Hint)(hk:∀n0,RD r P N D F w0 R hards Rd (Qb P n0 N R i hints s) Q)
 (h:∀n0,N4 (hards.contains i) ix s.A (Ej P n0 N R i hints s)=some (RF (Ej P n0 N R i hints s),[],cond (hards.contains i) Rd s.A):=by intro n0;kernel_rfl):RDO r P N D F w0 R hards Rd i s Q:=CH ix hints (λ _=>[]) (λ _=>trivial) hk h
theorem eh(ix:List Nat){i:Nat}(hints:List Hint)(Ob:List Prop)(hk:∀n0,RD r P N D F w0 R hards Rd (Qb P n0 N R i hints s) Q)(iD:AllP Ob:=by simp only[AllP,bm,and_true,true_and] <;> (repeat' with_reducible refine And.intro ?_ ?_) <;> omega)
 (h:∀n0,N4 (hards.contains i) ix s.A (Ej P n0 N R i hints s)=some (RF (Ej P n0 N R i hints s),Ob,cond (hards.contains i) Rd s.A):=by intro n0;kernel_rfl):RDO r P N D F w0 R hards Rd i s Q:=CH ix hints (λ _=>Ob) (λ _=>iD) hk h
def Qc(P:Program)(n0 N:Nat)(R:HL)(i:Nat)(s:Cfg):Option (Option Tmp × FuncId × Array Value × HL × List Nat × List Nat × List Prop):=match s.c with
 | .drw ops _=>oE P n0 N ops.toList i s.L (ap s.A s.Ts) R []
 | _=>none
theorem lR{i:Nat}{ops:Array Oper}{l:List Bool}{k:List KI}{L:FL}{A:HL}{Ts:List HL}{o:Oper}(ho:ops[i]?=some o){σ:Type}(G:Value -> σ -> Prop)(Ho:σ -> HL)(hl:(dV N o.dst undef L).isSome=true)
  (hg:∀a,Fm N D L a -> Region.wanted o (yielded ops a.tmps)=true /\ ∀w,Rel (ap A Ts++F) w -> Below 0 w0 w -> dW P o a w λ u w'=>∃x,G u x /\ Rel (Ho x++F) w' /\ Below 0 w w')
  (acW:∀x,(i ∉ hards -> ∃X,Ho x=X++ap A Ts) /\ (i∈hards -> ∀y∈Rd,y∈Ho x))
  (hk:∀v x,G v x -> ∀L',dV N o.dst v L=some L' -> Region.noSelect ops=true -> TD P N D F w0 ops hards Rd (fL (aR l i true)) (aR l i true) L' (Ho x) (NoPanic (lP r P k Q))):RDO r P N D F w0 R hards Rd i ⟨.drw ops l,k,L,A,Ts⟩ Q:=by
 refine⟨λ hR hs a hF BY=>?_⟩;simp only[oK,ie] at hs BY hF ⊢;unfold OPJ;rw[ho];simp only;obtain⟨h1,h2⟩:=hg a hF;rw[if_pos h1];intro w aT hB;refine f6 (h2 w aT hB) ?_;rintro u w' ⟨x,hx,G_,Wl⟩;obtain⟨L',VA⟩:=dU hl u;exact⟨Ho x,acW x,hk u x hx L' VA hs BY _ (hF.put VA),G_,hB.trans Wl⟩
def GK(Xo:Bool)(ix ip jp:List Nat)(s:Cfg)(Rd:HL):HL:=match Xo with
 | true=>ix.filterMap ((fm ip s)[·]?)
 | false=>match ip,jp with
  | [],[]=>Rd
  | _,_=>(0,.obj (.deferred none))::Rd
theorem CI{α:Type}(l:List α):(oth [] l.length).filterMap (l[·]?)=l:=by
 have:oth [] l.length=List.range l.length:=by simp[oth]
 rw[this];exact GE l
theorem GL{L:FL}{H H':HL}{ops:Array Oper}{fuel:Nat}{l:List Bool}(hp:H'.Perm H)(h:TD P N D F w0 ops hards Rd fuel l L H' Q):TD P N D F w0 ops hards Rd fuel l L H Q:=λ BY a hF=>JJ.perm _ _ _ _ _ hp (h BY a hF)
theorem RDO.ct{τ:Type}{i:Nat}(ix ip jp:List Nat){f:FuncId}{args:Array Value}{Hp:HL}{Tp:List HL}{Hq:τ -> HL}{Tq:τ -> List HL}{Rv:Value -> τ -> Prop}
  (hc:Sp P f args (ap Hp Tp) (ap (fm ip s) (gn jp s)++F) (λ v H'=>∃x,H'=ap (Hq x) (Tq x) /\ Rv v x)) (hk:∀v x,Rv v x -> RD r P N D F w0 R hards Rd (xP (λ A=>Hq x++(oth ip A.length).filterMap (A[·]?)) (λ Ts=>Tq x++(oth jp Ts.length).filterMap (Ts[·]?)) (rL N i v s)) Q)
  (h:∀n0,lw N s (Qc P n0 N R i s)=some (f,args,[],[],ap s.A s.Ts):=by intro n0;kernel_rfl)
  (hp:cg ip jp s=true:=by kernel_rfl) (hH:picks ip jp s=(Hp,Tp):=by kernel_rfl) (hx:GK (hards.contains i) ix ip jp s Rd=Rd:=by kernel_rfl):RDO r P N D F w0 R hards Rd i s Q:=by
 obtain⟨c,k,L,A,Ts⟩:=s;cases c with
 | code c=>simp[Qc,lw] at h
 | ops ops i=>simp[Qc,lw] at h
 | ex e=>simp[Qc,lw] at h
 | drw ops l =>
  refine⟨λ hR=>?_⟩;unfold cg at hp;unfold picks at hH;simp only[Qc,abe,Prod.mk.injEq] at h hp hH;obtain⟨e1,e2⟩:=hH;have key:∀n0,∃dst,oE P n0 N ops.toList i L (ap A Ts) R []=some (dst,f,args,ap A Ts,[],[],[]) /\ (dV N dst undef L).isSome=true:=by
   intro n0;have h1:=h n0;generalize hx:oE P n0 N ops.toList i L (ap A Ts) R []=x at h1;unfold lw at h1;split at h1
   case h_2=>cases h1
   rename_i dst f' iF H1 E E' Ob';split at h1
   case h_2=>cases h1
   rename_i Vx;simp only[Option.some.injEq,Prod.mk.injEq] at h1;obtain⟨e1,e2,e3,e4,e5⟩:=h1;subst e1;subst e2;subst e3;subst e4;subst e5;obtain⟨o,s1,s',_,_,_,_,_,_,g1,g2,_⟩:=iX hx;have:s'.eq=[]:=by simpa using g1
   rw[this] at g2;simp only[List.map_nil] at g2;subst g2;exact⟨dst,rfl,Vx⟩
  obtain⟨dst,hce,Vx⟩:=key 0;obtain⟨o,s1,s',ho,_,_,_,hd,_⟩:=iX hce;subst hd;have IT:∀n0,oE P n0 N ops.toList i L (ap A Ts) R []=some (o.dst,f,args,ap A Ts,[],[],[]):=by
   intro n0;obtain⟨aoE,h1,_⟩:=key n0;obtain⟨o',_,_,By,_,_,_,UT,_⟩:=iX h1;obtain rfl:o=o':=Option.some.inj (ho.symm.trans By);rw[UT];exact h1
  have AT:(ap Hp Tp++ap (fm ip ⟨.drw ops l,k,L,A,Ts⟩) (gn jp ⟨.drw ops l,k,L,A,Ts⟩)).Perm (ap A Ts):=by
   have h1:=mu A Ts ip (oth ip A.length) jp (oth jp Ts.length) hp.1 hp.2;rw[e1,e2] at h1;exact h1
  have Tf:∀v L',dV N o.dst v L=some L' -> rL N i v ⟨.drw ops l,k,L,A,Ts⟩=⟨.drw ops (aR l i true),k,L',A,Ts⟩:=by
   intro v L' hl;unfold rL;simp only[ho,hl]
  have hTD:∀v x,Rv v x -> ∀L',dV N o.dst v L=some L' -> Region.noSelect ops=true -> TD P N D F w0 ops hards Rd (fL (aR l i true)) (aR l i true) L' (ap (Hq x++(oth ip A.length).filterMap (A[·]?)) (Tq x++(oth jp Ts.length).filterMap (Ts[·]?))) (NoPanic (lP r P k Q)):=by
   intro v x hv L' hl hs;have h1:=(hk v x hv).h hR;rw[Tf v L' hl] at h1;exact h1 hs
  have ahA:∀a,Fm N D L a -> Region.wanted o (yielded ops a.tmps)=true /\ ∀w,Rel (ap A Ts++F) w -> Below 0 w0 w -> dW P o a w λ u w'=>∃x,Rv u x /\ Rel ((ap (Hq x) (Tq x)++ap (fm ip ⟨.drw ops l,k,L,A,Ts⟩) (gn jp ⟨.drw ops l,k,L,A,Ts⟩))++F) w' /\ Below 0 w w':=by
   intro a hF;obtain⟨h1,h2⟩:=AF (w0:=w0) ho IT hR trivial AT hc a hF;refine⟨h1,λ w hR hB=>f6 (h2 w hR hB) ?_⟩;rintro u w' ⟨H',⟨x,rfl,hv⟩,UE,VK⟩;exact⟨x,hv,UE,VK⟩
  have acS:∀x,(ap (Hq x) (Tq x)++ap (fm ip ⟨.drw ops l,k,L,A,Ts⟩) (gn jp ⟨.drw ops l,k,L,A,Ts⟩)).Perm (ap (Hq x++(oth ip A.length).filterMap (A[·]?)) (Tq x++(oth jp Ts.length).filterMap (Ts[·]?))):=by
   intro x;have h1:=wp (Hq x) (fm ip ⟨.drw ops l,k,L,A,Ts⟩) (Tq x) (gn jp ⟨.drw ops l,k,L,A,Ts⟩) [];rw[List.append_nil,List.append_nil] at h1;exact h1
  refine(lR (by simpa using ho) (λ v x=>Rv v x) (λ x=>ap (Hq x) (Tq x)++ap (fm ip ⟨.drw ops l,k,L,A,Ts⟩) (gn jp ⟨.drw ops l,k,L,A,Ts⟩)) Vx ahA (λ x=>⟨λ hi=>?_,λ hi y hy=>?_⟩) (λ v x hv L' hl hs=>GL (acS x).symm (hTD v x hv L' hl hs)):RDO r P N D F w0 R hards Rd i ⟨.drw ops l,k,L,A,Ts⟩ Q).h hR
  ·have hc:hards.contains i=false:=by
    cases hq:hards.contains i with
    | false=>rfl
    | true=>exact absurd (List.contains_iff_mem.1 hq) hi
   rw[hc] at hx;unfold GK at hx;simp only at hx;split at hx
   ·refine⟨ap (Hq x) (Tq x),?_⟩;unfold fm gn;show _++ap ((oth [] A.length).filterMap (A[·]?)) ((oth [] Ts.length).filterMap (Ts[·]?))=_;rw[CI,CI]
   ·exact absurd hx (by simp)
  ·rw[List.contains_iff_mem.2 hi] at hx;simp only[GK] at hx;exact aau _ (aav _ (xL ix hx y hy))
def Nb(V:Inv)(ip jp:List Nat)(s:Cfg):(List (Option Value) × HL × List HL) × Bool × Bool:=(wu V ip jp s,cg ip jp s,Ei s)
def R3(V:Inv)(s:Cfg):Cfg:=match s with
 | ⟨_,k,_,_,_⟩=>⟨.ex .normal,k,V.L,V.A,V.Ts⟩
theorem i6{σ:Type}(V:σ -> Inv)(k:∀x,RN r P N D F w0 R (R3 (V x) s) Q)(h:(∀ {s':Cfg} (x:σ) (ip jp:List Nat),(h:Nb (V x) ip jp s'=(oJ (V x),true,true):=by kernel_rfl) -> (e:s'.k=s.k:=by kernel_rfl) -> RD r P N D F w0 R hards Rd s' Q) -> RD r P N D F w0 R hards Rd s Q):RD r P N D F w0 R hards Rd s Q:=by
 refine h λ {s'} x ip jp hm e=>?_;unfold Nb at hm;simp only[Prod.mk.injEq] at hm;obtain⟨m1,m2,m3⟩:=hm;refine RD.fin ⟨λ hR a w h1 h2 h3=>?_⟩ m3;obtain⟨c,k',L,A,Ts⟩:=s';simp only at e;subst e;cases c with
 | drw ops l =>
  obtain⟨k1,k2⟩:=si (s:=⟨.drw ops l,s.k,L,A,Ts⟩) m1 m2 h1 h2;exact(k x).h hR a w k1 k2 h3
 | code c=>simp[Ei] at m3
 | ops ops i=>simp[Ei] at m3
 | ex e=>simp[Ei] at m3
end
abbrev aV(n:Int):Int:=i64.wrap n
structure V2 where (x y:Int)
structure Bx where (x0 y0 x1 y1:Int)
structure Mot where (px py vx vy inv:Int)
structure Con where (nx ny d:Int)
def aG(n lo hi:Int):Int:=if n<lo then lo else if n>hi then hi else n
def lS(a b:Int):Int:=if b=0 then 0 else if (a.tmod b>0 /\ b<0) \/ (a.tmod b<0 /\ b>0) then aV (aV (a.tdiv b)-1) else aV (a.tdiv b)
def gy(a b:Int):Int:=lS (aV (a*b)) 1024
def av(a b c:Int):Int:=lS (aV (a*b)) c
theorem cJ(n:Int)(lo:Int)(hi:Int)  (F:HL):Sp Tryz.prog 92 #[vI n,vI lo,vI hi] [] F (λ u H'=>u=vI (aG n lo hi) /\ H'=[]):=by
 refine aas Tryz.func92 rfl mn (A:=[]) (Ts:=[]) rfl λ w0=>?_;refine ae 15 [] λ _=>aal (n<lo) 7 (λ h1=>?_) λ h1=>?_
 ·refine ae 7 [] λ _=>aap [] [] [] (v:=vI lo) (H':=[]) ?_;exact⟨by unfold aG;simp[*],rfl⟩
 ·refine ae 9 [] λ _=>aal (n>hi) 12 (λ h2=>?_) λ h2=>?_
  ·refine ae 7 [] λ _=>aap [] [] [] (v:=vI hi) (H':=[]) ?_;exact⟨by unfold aG;simp[*],rfl⟩
  ·refine ae 10 [] λ _=>aap [] [] [] (v:=vI n) (H':=[]) ?_;exact⟨by unfold aG;simp[*],rfl⟩
theorem oL(a:Int)(b:Int)  (F:HL):Sp Tryz.prog 202 #[vI a,vI b] [] F (λ u H'=>u=vI (lS a b) /\ H'=[]):=by
 refine aas Tryz.func202 rfl mn (A:=[]) (Ts:=[]) rfl λ w0=>?_;refine ae 12 [] λ _=>aal (b=0) 8 (λ h1=>?_) λ h1=>?_
 ·refine ae 6 [] λ _=>aap [] [] [] (v:=vI 0) (H':=[]) ?_;exact⟨by unfold lS;simp[*],rfl⟩
 ·refine ae 4 [] λ _=>RN.draw [] []<|aF [] [0,1,3,4,2,5,6,7] [.dv,.dv] [b≠0,b≠0]<|RD.fin<|ae 13 [] λ _=>aal (a.tmod b>0) 18 (λ h2=>?_) λ h2=>?_
  ·refine ae 6 [] λ _=>aal (b<0) 15 (λ h3=>?_) λ h3=>?_
   ·refine ae 23 [] λ _=>aap [] [] [] (v:=vI (i64.wrap ((i64.wrap (a.tdiv b))-1))) (H':=[]) ?_;exact⟨by unfold lS;simp[*],rfl⟩
   ·refine ae 8 [] λ _=>aal (a.tmod b<0) 25 (λ h4=>?_) λ h4=>?_
    ·refine ae 6 [] λ _=>aal (b>0) 22 (λ h5=>?_) λ h5=>?_
     ·refine ae 22 [] λ _=>aap [] [] [] (v:=vI (i64.wrap ((i64.wrap (a.tdiv b))-1))) (H':=[]) ?_;exact⟨by unfold lS;simp[*],rfl⟩
     ·refine ae 15 [] λ _=>aap [] [] [] (v:=vI (i64.wrap (a.tdiv b))) (H':=[]) ?_;exact⟨by unfold lS;simp[*],rfl⟩
    ·refine ae 21 [] λ _=>aap [] [] [] (v:=vI (i64.wrap (a.tdiv b))) (H':=[]) ?_;exact⟨by unfold lS;simp[*],rfl⟩
  ·refine ae 14 [] λ _=>aal (a.tmod b<0) 25 (λ h6=>?_) λ h6=>?_
   ·refine ae 6 [] λ _=>aal (b>0) 22 (λ h7=>?_) λ h7=>?_
    ·refine ae 22 [] λ _=>aap [] [] [] (v:=vI (i64.wrap ((i64.wrap (a.tdiv b))-1))) (H':=[]) ?_;exact⟨by unfold lS;simp[*],rfl⟩
    ·refine ae 15 [] λ _=>aap [] [] [] (v:=vI (i64.wrap (a.tdiv b))) (H':=[]) ?_;exact⟨by unfold lS;simp[*],rfl⟩
   ·refine ae 21 [] λ _=>aap [] [] [] (v:=vI (i64.wrap (a.tdiv b))) (H':=[]) ?_;exact⟨by unfold lS;simp[*],rfl⟩
theorem oM(a:Int)(b:Int)  (F:HL):Sp Tryz.prog 154 #[vI a,vI b] [] F (λ u H'=>u=vI (gy a b) /\ H'=[]):=by
 refine aas Tryz.func154 rfl mn (A:=[]) (Ts:=[]) rfl λ w0=>?_;refine ae 10 [] λ _=>aah (oL (i64.wrap (a*b)) 1024  _)<|ae 3 [] λ _=>?_;exact aap [] [] [] ⟨rfl,rfl⟩
theorem gC(a:Int)(b:Int)(c:Int)  (F:HL):Sp Tryz.prog 211 #[vI a,vI b,vI c] [] F (λ u H'=>u=vI (av a b c) /\ H'=[]):=by
 refine aas Tryz.func211 rfl mn (A:=[]) (Ts:=[]) rfl λ w0=>?_;refine ae 11 [] λ _=>aah (oL (i64.wrap (a*b)) c  _)<|ae 3 [] λ _=>?_;exact aap [] [] [] ⟨rfl,rfl⟩
end Go.Proofs.YtghjbimijeinfaaGreatDoor
namespace Go.Proofs
open IntKind
open Go.Shelf
def pM:Go.Shelf.Ren:=⟨λ|125=>84|128=>147|129=>148|n=>n,λ|46=>191|3=>3|51=>271|53=>77|4=>4|5=>5|9=>9|n=>n,λ|n=>n⟩
theorem wv:Go.Proofs.Lays.n125 Tryz.prog pM:={
 mixed:=by kernel_rfl
 f125:=Tryz.func84.trans (congrArg some (by kernel_rfl))
 f128:=Tryz.func147.trans (congrArg some (by kernel_rfl))
 f129:=Tryz.func148.trans (congrArg some (by kernel_rfl))
 t3:=Tryz.underlying3
 a3:=Tryz.isAgg3
 z3:=Tryz.sizeOf3
 v3:=Tryz.zeroValue3
 t4:=Tryz.underlying4
 a4:=Tryz.isAgg4
 z4:=Tryz.sizeOf4
 v4:=Tryz.zeroValue4
 t5:=Tryz.underlying5
 a5:=Tryz.isAgg5
 z5:=Tryz.sizeOf5
 v5:=Tryz.zeroValue5
 t9:=Tryz.underlying9
 a9:=Tryz.isAgg9
 z9:=Tryz.sizeOf9
 v9:=Tryz.zeroValue9
 t46:=Tryz.underlying191
 a46:=Tryz.isAgg191
 z46:=Tryz.sizeOf191
 v46:=Tryz.zeroValue191
 t51:=Tryz.underlying271
 a51:=Tryz.isAgg271
 z51:=Tryz.sizeOf271
 v51:=Tryz.zeroValue271
 t53:=Tryz.underlying77
 a53:=Tryz.isAgg77
 z53:=Tryz.sizeOf77
 v53:=Tryz.zeroValue77 }
theorem Tryz.bits_Len(x:Int)(w:World)(h0:0 <= x)(h1:x <= 18446744073709551615) :
 Calls Tryz.prog 84 #[.int .u64 x] w λ e w'=>e=.returned (.int .i64 (Lib.bitLen x.toNat)) /\ w'=w:=Any.bits_Len wv x w h0 h1
end Go.Proofs
namespace Go.Proofs.YtghjbimijeinfaaGreatDoor
open IntKind
open Go.RowKit
abbrev xQ(n:Int):Int:=u64.wrap n
theorem wx(n:Int):0 <= xQ n /\ xQ n <= 18446744073709551615:=by
 show 0 <= u64.wrap n /\ u64.wrap n <= _;unfold IntKind.wrap;simp[IntKind.signed,IntKind.bits];omega
abbrev wy(n:Int):Int:=(Lib.bitLen (xQ n).toNat:Int)
theorem xR(n:Int)(F:HL):Sp Tryz.prog 84 #[.int .u64 (xQ n)] [] F (λ u H'=>u=vI (wy n) /\ H'=[]) :=
 xJ (λ w=>Tryz.bits_Len _ w (wx n).1 (wx n).2) F
theorem KO(n:Int):0 <= wy n /\ wy n <= 64:=by
 have h:=wx n;have:=Lib.bitLen_le (xQ n).toNat 64 (by omega) (by omega);unfold wy;omega
def KP(r:Int)(k:Nat):Int:=aV ((BitVec.ofInt 64 r ||| BitVec.ofInt 64 (aV (1*2 ^ min k 64))).toNat:Int)
def wz(n:Int):Nat -> Int -> Int
 | 0,r=>r
 | k+1,r=>wz n k (if KP r k>aV (n.tdiv (KP r k)) then r else KP r k)
def Ek(n:Int):Int:=aV (aV ((aV (wy n+1)).tdiv 2)-1)
def wA(n:Int):Int:=if n <= 0 then 0 else wz n (Ek n+1).toNat 0
theorem R4(v:BitVec 64)(h:aV (v.toNat:Int)=0):v=0#64:=by
 apply BitVec.eq_of_toNat_eq;have h2:v.toNat<18446744073709551616:=v.isLt;generalize v.toNat=m at *;rw[aV,IntKind.wrap_i64] at h;simp;omega
theorem N5(r:Int){k:Nat}(hk:k<40):KP r k≠0:=by
 intro h;have hb:BitVec.ofInt 64 (aV (1*2 ^ min k 64))≠0#64:=by
  have:∀k<40,BitVec.ofInt 64 (aV (1*2 ^ min k 64))≠0#64:=by decide
  exact this k hk
 have h1:=R4 _ h;clear h;generalize BitVec.ofInt 64 (aV (1*2 ^ min k 64))=b at *;generalize BitVec.ofInt 64 r=a at *;apply hb;have:(a ||| b) &&& b=b:=by
  apply BitVec.eq_of_getLsbD_eq;intro i hi;simp;intro h;exact .inr h
 rw[h1] at this;simpa using this.symm
theorem CJ(n:Int):-1 <= Ek n /\ Ek n <= 31:=by
 have:=KO n;unfold Ek aV;generalize wy n=l at *;have e1:i64.wrap (l+1)=l+1:=by rw[IntKind.wrap_i64];omega
 rw[e1,Int.tdiv_eq_ediv_of_nonneg (by omega)];have e2:i64.wrap ((l+1) / 2)=(l+1) / 2:=by rw[IntKind.wrap_i64];omega
 rw[e2,IntKind.wrap_i64];omega
theorem bU{x:Int}(h:-9223372036854775808 <= x /\ x <= 9223372036854775807):aV x=x:=by
 rw[aV,IntKind.wrap_i64];omega
theorem xS{n r s:Int}{k:Int}(h0:¬ s<0)(h:wz n (s+1).toNat r=k):wz n s.toNat (if KP r s.toNat>aV (n.tdiv (KP r s.toNat)) then r else KP r s.toNat)=k:=by
 have e:(s+1).toNat=s.toNat+1:=by omega
 rw[e,wz] at h;exact h
theorem Em(n:Int)  (F:HL):Sp Tryz.prog 315 #[vI n] [] F (λ u H'=>u=vI (wA n) /\ H'=[]):=by
 refine aas Tryz.func315 rfl mn (A:=[]) (Ts:=[]) rfl λ w0=>?_;refine ae 13 [] λ _=>aal (n <= 0) 7 (λ h1=>?_) λ h1=>?_
 ·refine ae 6 [] λ _=>aap [] [] [] (v:=vI 0) (H':=[]) ?_;refine⟨?_,rfl⟩;unfold wA
  first|(simp[*];done)|(have e:(s+1).toNat=0:=by omega);(rw[e,wz] at hI2);(simp[*])
 ·refine ae 16 [] λ _=>aah (xR n _)<|ae 7 [] λ _=>aan (σ:=Int × Int) (λ ⟨r,s⟩=>⟨[(0,vI n),(3,vI r),(4,vI s)],[],[],-1 <= s /\ s <= 31 /\ wz n (s+1).toNat r=wz n (Ek n+1).toNat 0,(s+1).toNat⟩) (0,Ek n) [] [] (⟨(CJ n).1,(CJ n).2,rfl⟩) ?_;rintro⟨r,s⟩ ⟨hI0,hI1,hI2⟩ Uj;have hw:s >= 0 -> i64.wrap (s-1)=s-1:=λ _=>bU (by omega);have I_:(s-1+1).toNat=s.toNat:=by rw[Int.sub_add_cancel]
  refine ae 7 [] λ _=>aal (s >= 0) 15 (λ h4=>?_) λ h4=>?_
  ·refine sg 24 [.dv,.gen,.dv] (λ _=>[i64.wrap ((BitVec.ofInt 64 r ||| BitVec.ofInt 64 (i64.wrap (1*2 ^ min (s).toNat 64))).toNat:Int)≠0,0 <= s]) (λ _=>(ac (N5 r (by omega)) (ac (by omega) an))) λ _=>aal (i64.wrap ((BitVec.ofInt 64 r ||| BitVec.ofInt 64 (i64.wrap (1*2 ^ min (s).toNat 64))).toNat:Int)>i64.wrap (n.tdiv (i64.wrap ((BitVec.ofInt 64 r ||| BitVec.ofInt 64 (i64.wrap (1*2 ^ min (s).toNat 64))).toNat:Int)))) 26 (λ h5=>?_) λ h5=>?_
   ·refine ae 10 [] λ _=>?_;refine Uj (r,i64.wrap (s-1)) [] [] ?_
    try dsimp only
    have hN:=xS (by omega) hI2;rw[hw (by assumption),I_];refine⟨⟨by omega,by omega,?_⟩,by omega⟩;simpa only[KP, *,if_true,if_false] using hN
   ·refine ae 14 [] λ _=>?_;refine Uj (i64.wrap ((BitVec.ofInt 64 r ||| BitVec.ofInt 64 (i64.wrap (1*2 ^ min (s).toNat 64))).toNat:Int),i64.wrap (s-1)) [] [] ?_
    try dsimp only
    have hN:=xS (by omega) hI2;rw[hw (by assumption),I_];refine⟨⟨by omega,by omega,?_⟩,by omega⟩;simpa only[KP, *,if_true,if_false] using hN
  ·refine ae 12 [] λ _=>aap [] [] [] (v:=vI r) (H':=[]) ?_;refine⟨?_,rfl⟩;unfold wA
   first|(simp[*];done)|(have e:(s+1).toNat=0:=by omega);(rw[e,wz] at hI2);(simp[*])
def aC(a b:V2):V2:=⟨aV (a.x+b.x),aV (a.y+b.y)⟩
def dJ(a b:V2):V2:=⟨aV (a.x-b.x),aV (a.y-b.y)⟩
def Eo(a:V2):V2:=dJ ⟨0,0⟩ a
def ao(a:V2)(f:Int):V2:=⟨gy a.x f,gy a.y f⟩
def eJ(a:V2)(n d:Int):V2:=⟨av a.x n d,av a.y n d⟩
def GM(n:Int):Int:=n.fdiv 1024
def dk(a b:V2):Int:=GM (aV (aV (a.x*b.x)+aV (a.y*b.y)))
def GN(a:V2):Int:=wA (aV (aV (a.x*a.x)+aV (a.y*a.y)))
def uF(a:V2):Prop:=a.x=0 /\ a.y=0
instance (a:V2):Decidable (uF a):=inferInstanceAs (Decidable (_ /\ _))
def lx(a:V2):V2:=if uF a then a else eJ a 1024 (GN a)
theorem xT(m n:Int)(F:HL):Sp Tryz.prog 152 #[vI m,vI n] [] F (λ u H'=>u=vI (aV (m+n)) /\ H'=[]):=by
 refine aas Tryz.func152 rfl mn (A:=[]) (Ts:=[]) rfl λ w0=>?_;refine ae 13 [] λ _=>?_;exact aap [] [] [] ⟨rfl,rfl⟩
theorem xU(m n:Int)(F:HL):Sp Tryz.prog 260 #[vI m,vI n] [] F (λ u H'=>u=vI (aV (m-n)) /\ H'=[]):=by
 refine aas Tryz.func260 rfl mn (A:=[]) (Ts:=[]) rfl λ w0=>?_;refine ae 13 [] λ _=>?_;exact aap [] [] [] ⟨rfl,rfl⟩
theorem qL(m n d:Int)(b:Nat)(F:HL)(hb:(b,.lit [vI d] 3 (0,0))∈F):Sp Tryz.prog 219 #[vI m,vI n,vP b 0] [] F (λ u H'=>u=vI (av m n d) /\ H'=[]):=by
 refine aas Tryz.func219 rfl (mc hb mn) (A:=[]) (Ts:=[]) rfl λ w0=>?_;refine ae 10 [.ro 0] λ _=>aah (gC m n d  _)<|ae 3 [] λ _=>?_;exact aap [] [] [] ⟨rfl,rfl⟩
theorem GO(a b:V2)  (F:HL):Sp Tryz.prog 151 #[.agg #[vI a.x,vI a.y],.agg #[vI b.x,vI b.y],.func (.func 152) #[] #[]] [] F (λ u H'=>u=.agg #[vI ((aC a b).x),vI ((aC a b).y)] /\ H'=[]):=by
 refine aas Tryz.func151 rfl mn (A:=[]) (Ts:=[]) rfl λ w0=>?_;refine ae 8 [] λ n1=>RN.draw [13] []<|ag [] [0,1,3,6,7,9,2,4,8,10] [.own 2,.own 1,.own 2,.own 1]<|RD.cp [] 5 (λ X_=>(xT a.x b.x _))<|RD.cp [] 11 (λ X_=>(xT a.y b.y _))<|ag [] [12] []<|RD.one 13 (RDO.ev [] (aab 2) λ _=>?_);refine RD.fin<|ae 1 [] λ _=>?_;exact aap (aab 2) [] [] ⟨rfl,rfl⟩
theorem GP(a b:V2)  (F:HL):Sp Tryz.prog 151 #[.agg #[vI a.x,vI a.y],.agg #[vI b.x,vI b.y],.func (.func 260) #[] #[]] [] F (λ u H'=>u=.agg #[vI ((dJ a b).x),vI ((dJ a b).y)] /\ H'=[]):=by
 refine aas Tryz.func151 rfl mn (A:=[]) (Ts:=[]) rfl λ w0=>?_;refine ae 8 [] λ n1=>RN.draw [13] []<|ag [] [0,1,3,6,7,9,2,4,8,10] [.own 2,.own 1,.own 2,.own 1]<|RD.cp [] 5 (λ X_=>(xU a.x b.x _))<|RD.cp [] 11 (λ X_=>(xU a.y b.y _))<|ag [] [12] []<|RD.one 13 (RDO.ev [] (aab 2) λ _=>?_);refine RD.fin<|ae 1 [] λ _=>?_;exact aap (aab 2) [] [] ⟨rfl,rfl⟩
theorem GQ(a b:V2)  (F:HL):Sp Tryz.prog 151 #[.agg #[vI a.x,vI a.y],.agg #[vI b.x,vI b.y],.func (.func 154) #[] #[]] [] F (λ u H'=>u=.agg #[vI ((⟨gy a.x b.x,gy a.y b.y⟩:V2).x),vI ((⟨gy a.x b.x,gy a.y b.y⟩:V2).y)] /\ H'=[]):=by
 refine aas Tryz.func151 rfl mn (A:=[]) (Ts:=[]) rfl λ w0=>?_;refine ae 8 [] λ n1=>RN.draw [13] []<|ag [] [0,1,3,6,7,9,2,4,8,10] [.own 2,.own 1,.own 2,.own 1]<|RD.cp [] 5 (λ X_=>(oM a.x b.x  _))<|RD.cp [] 11 (λ X_=>(oM a.y b.y  _))<|ag [] [12] []<|RD.one 13 (RDO.ev [] (aab 2) λ _=>?_);refine RD.fin<|ae 1 [] λ _=>?_;exact aap (aab 2) [] [] ⟨rfl,rfl⟩
theorem xV(a b:V2)(d:Int)(q:Nat)(F:HL)(hq:(q,.lit [vI d] 3 (0,0))∈F):Sp Tryz.prog 151 #[.agg #[vI a.x,vI a.y],.agg #[vI b.x,vI b.y],.func (.func 219) #[] #[vP q 0]] [] F (λ u H'=>u=.agg #[vI ((⟨av a.x b.x d,av a.y b.y d⟩:V2).x),vI ((⟨av a.x b.x d,av a.y b.y d⟩:V2).y)] /\ H'=[]):=by
 refine aas Tryz.func151 rfl (mc hq mn) (A:=[]) (Ts:=[]) rfl λ w0=>?_;refine ae 8 [] λ n1=>RN.draw [13] []<|ag [] [0,1,3,6,7,9,2,4,8,10] [.own 2,.own 1,.own 2,.own 1]<|RD.cp [] 5 (λ X_=>(qL a.x b.x d q _ (sf hq)))<|RD.cp [] 11 (λ X_=>(qL a.y b.y d q _ (sf hq)))<|ag [] [12] []<|RD.one 13 (RDO.ev [] (aab 2) λ _=>?_);refine RD.fin<|ae 1 [] λ _=>?_;exact aap (aab 2) [] [] ⟨rfl,rfl⟩
theorem qM(n:Int)(F:HL):Sp Tryz.prog 153 #[vI n] [] F (λ u H'=>u=.agg #[vI n,vI n] /\ H'=[]):=by
 refine aas Tryz.func153 rfl mn (A:=[]) (Ts:=[]) rfl λ w0=>?_;refine ae 13 (aab 2) λ n1=>?_;exact aap (aab 2) [] [] ⟨rfl,rfl⟩
theorem ep(a:V2)(b:V2)  (F:HL):Sp Tryz.prog 90 #[.agg #[vI a.x,vI a.y],.agg #[vI b.x,vI b.y]] [] F (λ u H'=>u=.agg #[vI ((aC a b).x),vI ((aC a b).y)] /\ H'=[]):=by
 refine aas Tryz.func90 rfl mn (A:=[]) (Ts:=[]) rfl λ w0=>?_;refine ae 11 [.own 2,.own 2,.own 1,.own 1] λ n1=>aah (GO a b _)<|ae 3 (aab 2) λ _=>?_;exact aap (aab 2) [] [] ⟨rfl,rfl⟩
theorem i7(a:V2)(b:V2)  (F:HL):Sp Tryz.prog 208 #[.agg #[vI a.x,vI a.y],.agg #[vI b.x,vI b.y]] [] F (λ u H'=>u=.agg #[vI ((dJ a b).x),vI ((dJ a b).y)] /\ H'=[]):=by
 refine aas Tryz.func208 rfl mn (A:=[]) (Ts:=[]) rfl λ w0=>?_;refine ae 11 [.own 2,.own 2,.own 1,.own 1] λ n1=>aah (GP a b _)<|ae 3 (aab 2) λ _=>?_;exact aap (aab 2) [] [] ⟨rfl,rfl⟩
theorem GR(a:V2)  (F:HL):Sp Tryz.prog 209 #[.agg #[vI a.x,vI a.y]] [] F (λ u H'=>u=.agg #[vI ((Eo a).x),vI ((Eo a).y)] /\ H'=[]):=by
 refine aas Tryz.func209 rfl mn (A:=[]) (Ts:=[]) rfl λ w0=>?_;refine ae 10 [.own 1,.own 1] λ n1=>aah (i7 (⟨0,0⟩:V2) a  _)<|ae 3 (aab 2) λ _=>?_;exact aap (aab 2) [] [] ⟨rfl,rfl⟩
theorem fo(a:V2)(f:Int)  (F:HL):Sp Tryz.prog 91 #[.agg #[vI a.x,vI a.y],vI f] [] F (λ u H'=>u=.agg #[vI ((ao a f).x),vI ((ao a f).y)] /\ H'=[]):=by
 refine aas Tryz.func91 rfl mn (A:=[]) (Ts:=[]) rfl λ w0=>?_;refine ae 7 [] λ n1=>RN.draw [4] []<|ag [] [0,1] [.own 1,.own 1]<|RD.cp [] 2 (λ X_=>(qM f _))<|RD.cp [] 3 (λ X_=>(GQ a (⟨f,f⟩:V2) _))<|RD.one 4 (RDO.ev [] (aab 2) λ _=>?_);refine RD.fin<|ae 1 [] λ _=>?_;exact aap (aab 2) [] [] ⟨rfl,rfl⟩
theorem lT(a:V2)(n:Int)(d:Int)  (F:HL):Sp Tryz.prog 159 #[.agg #[vI a.x,vI a.y],vI n,vI d] [] F (λ u H'=>u=.agg #[vI ((eJ a n d).x),vI ((eJ a n d).y)] /\ H'=[]):=by
 refine aas Tryz.func159 rfl mn (A:=[]) (Ts:=[]) rfl λ w0=>?_;refine ae 8 [] λ n1=>RN.draw [5] []<|ag [] [0,1,3] [.own 2,.own 2]<|RD.cp [] 2 (λ X_=>(qM n _))<|RD.cp [] 4 (λ X_=>(xV a (⟨n,n⟩:V2) d (n1+1) _ (lQ 1)))<|RD.one 5 (RDO.ev [] (aab 2) λ _=>?_);refine RD.fin<|ae 1 [] λ _=>?_;exact aap (aab 2) [] [] ⟨rfl,rfl⟩
theorem Ep(n:Int)  (F:HL):Sp Tryz.prog 259 #[vI n] [] F (λ u H'=>u=vI (GM n) /\ H'=[]):=by
 refine aas Tryz.func259 rfl mn (A:=[]) (Ts:=[]) rfl λ w0=>?_;refine ae 12 [] λ _=>?_;exact aap [] [] [] ⟨rfl,rfl⟩
theorem oN(a:V2)(b:V2)  (F:HL):Sp Tryz.prog 207 #[.agg #[vI a.x,vI a.y],.agg #[vI b.x,vI b.y]] [] F (λ u H'=>u=vI (dk a b) /\ H'=[]):=by
 refine aas Tryz.func207 rfl mn (A:=[]) (Ts:=[]) rfl λ w0=>?_;refine ae 20 [.own 1,.own 0,.own 1,.own 0] λ n1=>aah (Ep (i64.wrap ((i64.wrap (a.x*b.x))+(i64.wrap (a.y*b.y))))  _)<|ae 3 [] λ _=>?_;exact aap [] [] [] ⟨rfl,rfl⟩
theorem GS(a:V2)  (F:HL):Sp Tryz.prog 312 #[.agg #[vI a.x,vI a.y]] [] F (λ u H'=>u=vI (GN a) /\ H'=[]):=by
 refine aas Tryz.func312 rfl mn (A:=[]) (Ts:=[]) rfl λ w0=>?_;refine ae 19 (aab 4) λ n1=>aah (Em (i64.wrap ((i64.wrap (a.x*a.x))+(i64.wrap (a.y*a.y))))  _)<|ae 3 [] λ _=>?_;exact aap [] [] [] ⟨rfl,rfl⟩
theorem Et(a:V2)  (F:HL):Sp Tryz.prog 303 #[.agg #[vI a.x,vI a.y]] [] F (λ u H'=>u=.agg #[vI ((lx a).x),vI ((lx a).y)] /\ H'=[]):=by
 refine aas Tryz.func303 rfl mn (A:=[]) (Ts:=[]) rfl λ w0=>?_;refine ae 14 [.own 1,.own 1,.sq] λ n1=>iw ((decide (a.x=0) && (decide (a.y=0) && true))) 5 (λ h2=>?_) λ h2=>?_
 ·refine ae 7 [.own 1,.own 1,.own 0,.own 0] λ _=>aap (aab 2) [] [] (v:=.agg #[vI a.x,vI a.y]) (H':=[]) ?_;refine⟨?_,rfl⟩;unfold lx
  first|rw[if_pos (by simpa [uF] using h2)]|rw[if_neg (by simpa [uF] using h2)]
 ·refine ae 4 [] λ _=>RN.draw [4] []<|ag [] [0,1] [.own 1,.own 1,.own 1,.own 1]<|RD.cp [] 2 (λ X_=>(GS a  _))<|RD.cp [] 3 (λ X_=>(lT a 1024 (GN a)  _))<|RD.one 4 (RDO.ev [] (aab 2) λ _=>?_);refine RD.fin<|ae 1 [] λ _=>aap (aab 2) [] [] (v:=.agg #[vI ((eJ a 1024 (GN a)).x),vI ((eJ a 1024 (GN a)).y)]) (H':=[]) ?_;refine⟨?_,rfl⟩;unfold lx
  first|rw[if_pos (by simpa [uF] using h2)]|rw[if_neg (by simpa [uF] using h2)]
structure Shp where (r:Int) (poly:List V2) (A:Option Addr) (cap:Nat)
abbrev PW(s:Shp):Value:=.agg #[vI s.r,.slice s.A s.poly.length s.cap]
def j7(l:List V2):Nat -> Nat -> Value:=λ i k=>match k with|0=>vI (l.getD i ⟨0,0⟩).x|_=>vI (l.getD i ⟨0,0⟩).y
inductive ShIn(F:HL):Shp -> Prop
 | circle (r:Int) (A:Option Addr) (cap:Nat):ShIn F ⟨r,[],A,cap⟩
 | poly (r:Int) (l:List V2) (b cap:Nat) (h:(b,.rows 2 cap (j7 l) 29 (0,0))∈F) (h3:3 <= l.length) (h4:l.length <= cap) (h5:l.length <= 1000000):ShIn F ⟨r,l,some ⟨b,0,none⟩,cap⟩
theorem ShIn.mono{F F':HL}{s:Shp}(h:ShIn F s)(hs:∀x∈F,x∈F'):ShIn F' s:=by
 cases h with
 | circle r A cap=>exact .circle r A cap
 | poly r l b cap h h3 h4 h5=>exact .poly r l b cap (hs _ h) h3 h4 h5
def jS(s:Shp):Prop:=s.poly=[]
instance (s:Shp):Decidable (jS s):=decidable_of_iff (s.poly.isEmpty=true) (by simp[jS])
def Qd(b:Bx)(c:V2):Bx:=⟨if c.x<b.x0 then c.x else b.x0,if c.y<b.y0 then c.y else b.y0,if c.x>b.x1 then c.x else b.x1,if c.y>b.y1 then c.y else b.y1⟩
def m9(pos:V2)(l:List V2):Nat -> Bx
 | 0=>⟨(aC pos (l.getD 0 ⟨0,0⟩)).x,(aC pos (l.getD 0 ⟨0,0⟩)).y,(aC pos (l.getD 0 ⟨0,0⟩)).x,(aC pos (l.getD 0 ⟨0,0⟩)).y⟩
 | k+1=>Qd (m9 pos l k) (aC pos (l.getD (1+k) ⟨0,0⟩))
def eL(s:Shp)(pos:V2):Bx:=if jS s then ⟨aV (pos.x-s.r),aV (pos.y-s.r),aV (pos.x+s.r),aV (pos.y+s.r)⟩ else m9 pos s.poly (s.poly.length-1)
def qN(a b c d:Int):Prop:=a <= d /\ c <= b
instance (a b c d:Int):Decidable (qN a b c d):=inferInstanceAs (Decidable (_ /\ _))
def PX(a b:Bx):Prop:=qN a.x0 a.x1 b.x0 b.x1 /\ qN a.y0 a.y1 b.y0 b.y1
instance (a b:Bx):Decidable (PX a b):=inferInstanceAs (Decidable (_ /\ _))
theorem pO(r:Int)(A:Option Addr)(n cap:Nat)(F:HL):Sp Tryz.prog 190 #[.agg #[vI r,.slice A n cap]] [] F (λ u H'=>u=.bool (decide ((n:Int)=0)) /\ H'=[]):=by
 refine aas Tryz.func190 rfl mn (A:=[]) (Ts:=[]) rfl λ w0=>?_;refine ae 15 [.own 0] λ n1=>?_;exact aap [] [] [] ⟨rfl,rfl⟩
theorem i8(r:Int)(A:Option Addr)(n cap:Nat)(F:HL):Sp Tryz.prog 256 #[.agg #[vI r,.slice A n cap]] [] F (λ u H'=>u=.bool (decide ((n:Int)=0)) /\ H'=[]):=by
 refine aas Tryz.func256 rfl mn (A:=[]) (Ts:=[]) rfl λ w0=>?_;refine ae 15 [.own 0] λ n1=>?_;exact aap [] [] [] ⟨rfl,rfl⟩
theorem xW(a:Int)(b:Int)(c:Int)(d:Int)  (F:HL):Sp Tryz.prog 253 #[vI a,vI b,vI c,vI d] [] F (λ u H'=>u=.bool (decide (qN a b c d)) /\ H'=[]):=by
 refine aas Tryz.func253 rfl mn (A:=[]) (Ts:=[]) rfl λ w0=>?_;refine ae 11 [] λ _=>aal (a <= d) 12 (λ h1=>?_) λ h1=>?_
 ·refine ae 7 [] λ _=>aap [] [] [] (v:=.bool (decide (c <= b))) (H':=[]) ?_;exact⟨by simp[qN, *],rfl⟩
 ·refine ae 7 [] λ _=>aap [] [] [] (v:=.bool false) (H':=[]) ?_;exact⟨by simp[qN, *],rfl⟩
theorem KQ(a:Bx)(b:Bx)  (F:HL):Sp Tryz.prog 203 #[.agg #[vI a.x0,vI a.y0,vI a.x1,vI a.y1],.agg #[vI b.x0,vI b.y0,vI b.x1,vI b.y1]] [] F (λ u H'=>u=.bool (decide (PX a b)) /\ H'=[]):=by
 refine aas Tryz.func203 rfl mn (A:=[]) (Ts:=[]) rfl λ w0=>?_;refine ae 17 [.own 1,.own 1,.own 0,.own 0] λ n1=>aah (xW a.x0 a.x1 b.x0 b.x1  _)<|ae 1 [] λ _=>aal (qN a.x0 a.x1 b.x0 b.x1) 14 (λ h2=>?_) λ h2=>?_
 ·refine ae 8 [.own 1,.own 1,.own 0,.own 0] λ _=>aah (xW a.y0 a.y1 b.y0 b.y1  _)<|ae 4 [] λ _=>aap [] [] [] (v:=.bool (decide (qN a.y0 a.y1 b.y0 b.y1))) (H':=[]) ?_;exact⟨by simp[PX, *],rfl⟩
 ·refine ae 13 [] λ _=>aap [] [] [] (v:=.bool false) (H':=[]) ?_;exact⟨by simp[PX, *],rfl⟩
theorem uf(r:Int)(A:Option Addr)(cap:Nat)(pos:V2)(F:HL):Sp Tryz.prog 204 #[.agg #[vI r,.slice A 0 cap],.agg #[vI pos.x,vI pos.y]] [] F (λ u H'=>u=.agg #[vI ((eL ⟨r,[],A,cap⟩ pos).x0),vI ((eL ⟨r,[],A,cap⟩ pos).y0),vI ((eL ⟨r,[],A,cap⟩ pos).x1),vI ((eL ⟨r,[],A,cap⟩ pos).y1)] /\ H'=[]):=by
 refine aas Tryz.func204 rfl mn (A:=[]) (Ts:=[]) rfl λ w0=>?_;refine ae 11 [.own 2,.own 2] λ n1=>aah (pO r A 0 cap _)<|ae 29 [.own 1,.own 2,.own 1,.own 2,.own 1,.own 2,.own 1,.own 2,.own 0,.own 0,.own 0,.own 0] λ _=>?_;exact aap (aab 4) [] [] ⟨rfl,rfl⟩
theorem xX(r:Int)(l:List V2)(b cap:Nat)(pos:V2)(F:HL)(hb:(b,.rows 2 cap (j7 l) 29 (0,0))∈F)(h3:3 <= l.length)(h4:l.length <= cap)(h5:l.length <= 1000000):Sp Tryz.prog 204 #[.agg #[vI r,vS b 0 l.length cap],.agg #[vI pos.x,vI pos.y]] [] F (λ u H'=>u=.agg #[vI ((eL ⟨r,l,some ⟨b,0,none⟩,cap⟩ pos).x0),vI ((eL ⟨r,l,some ⟨b,0,none⟩,cap⟩ pos).y0),vI ((eL ⟨r,l,some ⟨b,0,none⟩,cap⟩ pos).x1),vI ((eL ⟨r,l,some ⟨b,0,none⟩,cap⟩ pos).y1)] /\ H'=[]):=by
 refine aas Tryz.func204 rfl (mc hb mn) (A:=[]) (Ts:=[]) rfl λ w0=>?_;refine ae 11 [.own 2,.own 2] λ n1=>aah (pO r (some ⟨b,0,none⟩) l.length cap _)<|ae 2 [] λ _=>cD 11 (abz (show ¬ ((l.length:Int)=0) by omega))<|ae 4 [] λ _=>RN.draw [7] []<|aF [] [0,1,2,3,4] [.own 1,.own 1,.own 2,.ix 0,.rorow 0 0 0,.rorow 0 0 1] [((0+0*2)+1)=0*2+1 /\ 0<cap,(0+0*2)=0*2+0 /\ 0<cap,0=((0:Nat):Int) /\ 0<l.length]<|RD.cp [] 5 (λ X_=>(ep pos (l.getD 0 ⟨0,0⟩)  _))<|RD.one 6 (RDO.ev [] [] λ n2=>?_);refine RD.one 7 (RDO.ev [] (aab 2) λ _=>?_);refine RD.fin<|ai 27 (ow 0 8++[.own 4,.sl 1 l.length false]) [1=((1:Nat):Int) /\ l.length=l.length /\ 1 <= l.length /\ l.length <= cap /\ cap≠1] λ n3=>aan (σ:=Nat) (λ k=>⟨[(3,vP (n1+1) 0),(4,vP (n1+2) 0),(6,vP (n3+0) 0),(50,vS b 2 (l.length-1) (cap-1)),(51,vI (((l.length-1):Nat):Int)),(52,vI (k:Int))],[((n3+0),.lit [vI ((m9 pos l k).x0),vI ((m9 pos l k).y0),vI ((m9 pos l k).x1),vI ((m9 pos l k).y1)] 25 (0,0)),((n2+0),.lit [vI ((aC pos (l.getD 0 ⟨0,0⟩)).x),vI ((aC pos (l.getD 0 ⟨0,0⟩)).y)] 29 (0,0)),((n1+2),.lit [vI 0,vI 0,vI 0,vI 0] 25 (0,0)),((n1+1),.lit [vI pos.x,vI pos.y] 29 (0,0)),((n1+0),.lit [vI r,vS b 0 l.length cap] 101 (0,0))],[],k <= l.length-1,l.length-k⟩) 0 [0,1,2,3,4] [] (aaU _) ?_;rintro k hI4 XI;refine ae 6 [] λ _=>aal ((k:Int)<(((l.length-1):Nat):Int)) 53 (λ h6=>?_) λ h6=>?_
 ·refine ai 17 [.ix k,.rorow 0 (1+k) 0,.rorow 0 (1+k) 1,.own 0,.own 0,.own 4,.own 4,.own 0,.own 0] [((2+k*2)+1)=(1+k)*2+1 /\ (1+k)<cap,(2+k*2)=(1+k)*2+0 /\ (1+k)<cap,(k:Int)=((k:Nat):Int) /\ k<(l.length-1)] λ n7=>aah (ep pos (l.getD (1+k) ⟨0,0⟩)  _)<|ae 5 (aab 2) λ n8=>RN.draw [11,13] [0,1,3,4,5,6]<|ag [0,1,3,4,5,6] [0,2,5,7,1,3,6,8,4,9,10] [.own 2,.own 0,.own 2,.ro 0]<|RD.one 11 (RDO.ev [0,1,3,4,5,6] [.own 2] λ _=>?_);refine ag [0,1,3,4,5,6] [12] []<|RD.one 13 (RDO.ev [0,1,3,4,5,6] [.own 2] λ _=>?_);refine RD.fin<|ae 1 [] λ _=>RN.draw [11,13] [0,1,3,4,5,6]<|ag [0,1,3,4,5,6] [0,2,5,7,1,3,6,8,4,9,10] [.own 2,.own 0,.own 2,.ro 0]<|RD.one 11 (RDO.ev [0,1,3,4,5,6] [.own 2] λ _=>?_);refine ag [0,1,3,4,5,6] [12] []<|RD.one 13 (RDO.ev [0,1,3,4,5,6] [.own 2] λ _=>?_);refine RD.fin<|ai 6 [.nw] [bm ((k:Int)+1)] λ _=>?_;refine XI (k+1) [2,3,4,5,6] [] ?_
  try dsimp only
  refine⟨by omega,by omega⟩
 ·refine ae 12 [.own 0,.own 0,.own 0,.own 0,.own 2,.own 2,.own 2,.own 2] λ _=>aap [.own 2,.own 2,.own 2,.own 2] [] [] (v:=.agg #[vI ((m9 pos l k).x0),vI ((m9 pos l k).y0),vI ((m9 pos l k).x1),vI ((m9 pos l k).y1)]) (H':=[]) ?_;have ek:k=l.length-1:=by omega
  subst ek;refine⟨?_,rfl⟩;unfold eL;rw[if_neg (by intro e;simp[jS] at e;rw[e] at h3;simp at h3)]
theorem sj(s:Shp)(pos:V2)(F:HL)(h:ShIn F s):Sp Tryz.prog 204 #[PW s,.agg #[vI pos.x,vI pos.y]] [] F (λ u H'=>u=.agg #[vI (eL s pos).x0,vI (eL s pos).y0,vI (eL s pos).x1,vI (eL s pos).y1] /\ H'=[]):=by
 cases h with
 | circle r A cap=>exact uf r A cap pos F
 | poly r l b cap h h3 h4 h5=>exact xX r l b cap pos F h h3 h4 h5
def aac:=@RD.cp
def aad:=@RD.fin
def aae:=@RD.one
def aaf:=@RDO.ct
def aag:=@RDO.ev
def aak:=@RN.draw
end Go.Proofs.YtghjbimijeinfaaGreatDoor
