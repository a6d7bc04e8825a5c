import Derived.Test.YtdppjkjbghbnjaaGreatDoorC01
set_option maxHeartbeats 4000000
set_option maxRecDepth 100000
set_option linter.all false
namespace Go.Proofs.YtdppjkjbghbnjaaGreatDoor
open Go.RowKit
def nK(s:Cfg):Array Oper:=match s.c with
 | .drw ops _=>ops
 | _=>#[]
def gY(s:Cfg):List Bool:=match s.c with
 | .drw _ l=>l
 | _=>[]
def fq:List Bool -> Nat
 | []=>0
 | true::l=>fq l
 | false::l=>fq l+1
theorem Dj(n:Nat):fq (List.replicate n false)=n:=by
 induction n with
 | zero=>rfl
 | succ n ih=>rw[List.replicate_succ,fq,ih]
def Pk(s:Cfg):Cfg:=match s with
 | ⟨.code (.region _ ops true),k,L,A,Ts⟩=>⟨.drw ops (List.replicate ops.toList.length false),k,L,A,Ts⟩
 | s=>s
def Mr(s:Cfg):Bool:=match s.c with
 | .code (.region _ ops true)=>Region.noSelect ops && qg ops
 | _=>false
structure RD(r:Option Nat)(P:Program)(N:Nat)(D:List Deferred)(F:HL)(w0:World)(R:HL)(hards:List Nat)(Rd:HL)(s:Cfg)(Q:Exit -> Act -> World -> Prop):Prop where
 h:(∀y∈R,y∈F) -> Region.noSelect (nK s)=true -> TD P N D F w0 (nK s) hards Rd (fq (gY s)) (gY s) s.L (ap s.A s.Ts) (NoPanic (lj r P s.k Q))
section
variable {r:Option Nat} {P:Program} {N:Nat} {D:List Deferred} {F:HL} {w0:World} {R:HL} {s:Cfg} {Q:Exit -> Act -> World -> Prop} {hards:List Nat} {Rd:HL}
def zI(ix:List Nat)(s:Cfg):HL:=ix.filterMap (s.A[·]?)
theorem RN.draw(hards ix:List Nat)(hk:RD r P N D F w0 R hards (zI ix s) (Pk s) Q)(hm:P.follows .mixedOrders=true:=by kernel_rfl)(hc:Mr s=true:=by kernel_rfl):RN r P N D F w0 R s Q:=by
 refine⟨λ hR=>?_⟩;obtain⟨c,k,L,A,Ts⟩:=s;unfold Mr at hc;split at hc
 case h_2=>cases hc
 rename_i id ops e;simp only at e;subst e;rw[aa0] at hc;have h1:=hk.h hR hc.1;exact TR.draw hards _ hm hc.1 hc.2 (by
  simp only[Pk,gY,nK,Dj] at h1;have e:ops.toList.length=ops.size:=by simp
  rw[e] at h1 ⊢;exact h1)
def Ri(s:Cfg):Cfg:=match s with
 | ⟨.drw _ _,k,L,A,Ts⟩=>⟨.ex .normal,k,L,A,Ts⟩
 | s=>s
def Dk(s:Cfg):Bool:=match s.c with
 | .drw ops l=>(jF ops.toList l).isEmpty
 | _=>false
theorem RD.fin(hk:RN r P N D F w0 R (Ri s) Q)(hc:Dk s=true:=by kernel_rfl):RD r P N D F w0 R hards Rd s Q:=by
 refine⟨λ hR _=>?_⟩;obtain⟨c,k,L,A,Ts⟩:=s;unfold Dk at hc;split at hc
 case h_2=>cases hc
 rename_i ops l e;simp only at e;subst e;exact TD.fin (List.isEmpty_iff.1 hc) (Pg (λ a w h1 h2 h3=>hk.h hR a w h1 h2 h3))
def FY(P:Program)(N:Nat)(R:HL)(hards:List Nat)(Rd:HL)(is:List Nat)(hints:List Hint)(s:Cfg):Option (List Bool × FL × SS):=match s.c with
 | .drw ops l=>sD P 0 N ops.toList hards Rd is l s.L ⟨ap s.A s.Ts,R,hints,0,[],[],false⟩
 | _=>none
def QX(P:Program)(N:Nat)(R:HL)(hards:List Nat)(Rd:HL)(is:List Nat)(hints:List Hint)(s:Cfg):Cfg:=match FY P N R hards Rd is hints s with
 | some (b,L',_)=>match s with
  | ⟨.drw ops _,k,_,A,Ts⟩=>⟨.drw ops b,k,L',A,Ts⟩
  | s=>s
 | none=>s
def QY(x:Option (List Bool × FL × SS)):List Nat:=match x with
 | some (_,_,ss)=>ss.eq.map (·.2)
 | none=>[]
def Nf(n:Nat)(x:Option (List Bool × FL × SS)):Option (Nat × List Nat × List Prop):=match x with
 | some (b,_,ss)=>match ss.hints with
  | []=>some (fq b+n,ss.eq.map (·.1),ss.ob)
  | _=>none
 | none=>none
theorem uO(ix is:List Nat)(hints:List Hint)(Ob:List Prop)(iN:AllP Ob)(hk:RD r P N D F w0 R hards Rd (QX P N R hards Rd is hints s) Q)
  (h:Nf is.length (FY P N R hards Rd is hints s)=some (fq (gY s),QY (FY P N R hards Rd is hints s),Ob):=by kernel_rfl) (ZL:zI ix s=Rd:=by kernel_rfl):RD r P N D F w0 R hards Rd s Q:=by
 refine⟨λ hR hs=>?_⟩;obtain⟨c,k,L,A,Ts⟩:=s;cases c with
 | drw ops l =>
  simp only[nK,gY] at hs ⊢;unfold QX at hk;generalize hx:FY P N R hards Rd is hints ⟨.drw ops l,k,L,A,Ts⟩=x at h hk;unfold Nf at h;split at h
  case h_2=>cases h
  rename_i b L' ss;split at h
  case h_2=>cases h
  simp only[QY,gY,Option.some.injEq,Prod.mk.injEq] at h;obtain⟨e1,e2,e3⟩:=h;rw[<- e1];refine jn (Rr:=R) hs (λ x hx=>aaA _ (s7 ix ZL x hx)) hR is l b L L' _ ss hx rfl rfl rfl (fU e2 rfl) (by rw[e3];exact AllP.mem iN) ?_;exact hk.h hR hs
 | code c=>simp[FY,Nf] at h
 | ops ops i=>simp[FY,Nf] at h
 | ex e=>simp[FY,Nf] at h
theorem ag(ix is:List Nat)(hints:List Hint)(hk:RD r P N D F w0 R hards Rd (QX P N R hards Rd is hints s) Q)
 (h:Nf is.length (FY P N R hards Rd is hints s)=some (fq (gY s),QY (FY P N R hards Rd is hints s),[]):=by kernel_rfl) (ZL:zI ix s=Rd:=by kernel_rfl):RD r P N D F w0 R hards Rd s Q:=uO ix is hints [] trivial hk h ZL
theorem aA(ix is:List Nat)(hints:List Hint)(Ob:List Prop)(hk:RD r P N D F w0 R hards Rd (QX P N R hards Rd is hints s) Q)(iN:AllP Ob:=by simp only[AllP,bn,and_true,true_and] <;> (repeat' with_reducible refine And.intro ?_ ?_) <;> omega)
 (h:Nf is.length (FY P N R hards Rd is hints s)=some (fq (gY s),QY (FY P N R hards Rd is hints s),Ob):=by kernel_rfl) (ZL:zI ix s=Rd:=by kernel_rfl):RD r P N D F w0 R hards Rd s Q:=uO ix is hints Ob iN hk h ZL
theorem Ms{b v:Bool}(t:Nat)(hb:b=v)(hk:RD r P N D F w0 R hards Rd (pW t v s) Q)(h:s.L.lookup t=some (.bool b):=by kernel_rfl):RD r P N D F w0 R hards Rd s Q:=by
 subst hb;exact⟨λ hR hs hcl a hF=>hk.h hR hs hcl a (hF.fix h)⟩
theorem RD.em(p:Prop)[Decidable p](t:Nat)(h1:p -> RD r P N D F w0 R hards Rd (pW t true s) Q)(h2:¬ p -> RD r P N D F w0 R hards Rd (pW t false s) Q)(h:s.L.lookup t=some (.bool (decide p)):=by kernel_rfl):RD r P N D F w0 R hards Rd s Q:=by
 by_cases hp:p
 ·exact Ms t (aba hp) (h1 hp) h
 ·exact Ms t (aa9 hp) (h2 hp) h
theorem RD.ro{R':HL}(h:(∀y∈R,y∈F) -> ∀y∈R',y∈F)(hk:RD r P N D F w0 R' hards Rd s Q):RD r P N D F w0 R hards Rd s Q:=⟨λ hR=>hk.h (h hR)⟩
def Ng(P:Program)(N:Nat)(R:HL)(i:Nat)(s:Cfg):Option (Option Tmp × FuncId × Array Value × List Nat × List Prop):=match s.c with
 | .drw ops _=>match ops.toList[i]? with
  | none=>none
  | some o=>match jl ops.toList o s.L ⟨ap s.A s.Ts,R,[],0,[],[],false⟩ with
   | some (true,ss)=>match iM o.op s.L with
    | true=>match ev P 0 o (eZ s.L) ss with
     | some (.enter f args,s')=>match s'.hints with
      | []=>some (o.dst,f,args,s'.eq.map (·.1),s'.ob)
      | _=>none
     | _=>none
    | false=>none
   | _=>none
 | _=>none
def Pl(N:Nat)(hards:List Nat)(i:Nat)(s:Cfg)(x:Option (Option Tmp × FuncId × Array Value × List Nat × List Prop)):Option (FuncId × Array Value × List Nat × List Prop × Nat):=match x with
 | some (dst,f,args,E,Ob)=>match (eh N dst undef s.L).isSome,O7 (nK s).toList hards (gY s) i with
  | true,true=>some (f,args,E,Ob,fq (bm (gY s) i true)+1)
  | _,_=>none
 | none=>none
def zJ(N i:Nat)(v:Value)(s:Cfg):Cfg:=match s with
 | ⟨.drw ops l,k,L,A,Ts⟩=>match ops.toList[i]? with
  | some o=>match eh N o.dst v L with
   | some L'=>⟨.drw ops (bm l i true),k,L',A,Ts⟩
   | none=>⟨.drw ops l,k,L,A,Ts⟩
  | none=>⟨.drw ops l,k,L,A,Ts⟩
 | s=>s
theorem RD.cp(ix:List Nat)(i:Nat){f:FuncId}{args:Array Value}{v:Value}(hc:∀X,Sp P f args [] (X++(ap s.A s.Ts++F)) (λ u H'=>u=v /\ H'=[]))(hk:RD r P N D F w0 R hards Rd (zJ N i v s) Q)
  (h:Pl N hards i s (Ng P N R i s)=some (f,args,[],[],fq (gY s)):=by kernel_rfl) (ZL:zI ix s=Rd:=by kernel_rfl):RD r P N D F w0 R hards Rd s Q:=by
 refine⟨λ hR hs=>?_⟩;obtain⟨c,k,L,A,Ts⟩:=s;cases c with
 | drw ops l =>
  simp only[nK,gY] at hs ⊢ h;generalize hx:Ng P N R i ⟨.drw ops l,k,L,A,Ts⟩=x at h;unfold Pl at h;split at h
  case h_2=>cases h
  rename_i dst f' iS E Ob;split at h
  case h_2=>cases h
  rename_i Vh g_;simp only[nK,gY,Option.some.injEq,Prod.mk.injEq] at h g_;obtain⟨e1,e2,e3,e4,e5⟩:=h;subst e1;subst e2;subst e3;subst e4;obtain⟨L',hl⟩:=cO Vh v;have VD:=hx;unfold Ng at VD;simp only at VD;have ho:∃o,ops.toList[i]?=some o /\ o.dst=dst:=by
   split at VD
   ·cases VD
   rename_i o ho;split at VD
   case h_2=>cases VD
   split at VD
   case h_2=>cases VD
   split at VD
   case h_2=>cases VD
   split at VD
   case h_2=>cases VD
   simp only[Option.some.injEq,Prod.mk.injEq] at VD;exact⟨o,ho,VD.1⟩
  obtain⟨o,ho,hd⟩:=ho;have Sh:zJ N i v ⟨.drw ops l,k,L,A,Ts⟩=⟨.drw ops (bm l i true),k,L',A,Ts⟩:=by
   unfold zJ;simp only[ho,hd,hl]
  rw[Sh] at hk;subst hd;show TD P N D F w0 ops hards Rd (fq l) l L (ap A Ts) (NoPanic (lj r P k Q));rw[<- e5];refine BK (v:=v) (L1:=L') hs (by unfold O7 at g_;unfold Pf;simp only[aa0] at g_ ⊢;exact g_.1) (by simpa using ho) (λ a hF=>hF.put hl) (λ a hF=>?_) (λ x hx=>aaA _ (s7 ix ZL x hx)) (.inl g_) (hk.h hR hs);unfold Ng at hx;simp only[ho] at hx;split at hx
  case h_2=>cases hx
  rename_i ss U1;split at hx
  case h_2=>cases hx
  rename_i afk;split at hx
  case h_2=>cases hx
  rename_i f2 ai3 s2 he;split at hx
  case h_2=>cases hx
  simp only[Option.some.injEq,Prod.mk.injEq] at hx;obtain⟨-,e2,e3,e4,e5⟩:=hx;subst e2;subst e3;obtain⟨a1,a2,a3,a4⟩:=bI U1;obtain⟨d1,d2,d3,d4⟩:=dG he;have SJ:∀p∈s2.ob,p:=by rw[e5];intro p hp;cases hp
  have ZN:∀p∈s2.eq,p.1=p.2:=by
   have:s2.eq=[]:=by simpa using e4
   rw[this];intro p hp;cases hp
  obtain⟨c1,c2,c3⟩:=cj U1 hF (λ p hp=>SJ p (d2 p hp));refine .inl ⟨c1,λ X w aT hB=>?_⟩;have SF:Rel (ap A Ts++(X++F)) w:=aT.perm (by
   rw[<- aaH,<- aaH];exact aaX F aaW)
  obtain⟨w1,r1,r2,r3,r4,r5⟩:=gJ (w:=w) (F:=X++F) he ZN SJ (by rw[c2];exact SF) (by rw[a3];exact λ y hy=>aay _ (hR y hy)) (λ e=>by rw[a4] at e;cases e);obtain rfl:=r5 a4;unfold di;rw[hF.exec afk,r1];refine(hc X w1 (by simpa using aT)).mono ?_;rintro e w2 ⟨u,H',rfl,⟨rfl,rfl⟩,h3,h4⟩;exact⟨rfl,by simpa using h3,hB.trans h4⟩
 | code c=>simp[Ng,Pl] at h
 | ops ops i=>simp[Ng,Pl] at h
 | ex e=>simp[Ng,Pl] at h
structure RDO(r:Option Nat)(P:Program)(N:Nat)(D:List Deferred)(F:HL)(w0:World)(R:HL)(hards:List Nat)(Rd:HL)(i:Nat)(s:Cfg)(Q:Exit -> Act -> World -> Prop):Prop where
 h:(∀y∈R,y∈F) -> Region.noSelect (nK s)=true -> ∀a,Fm N D s.L a -> Closed (nK s) ⟨bm (gY s) i true⟩ -> OPJ P (nK s) F w0 hards Rd i a (ap s.A s.Ts) (JJ P (nK s) (NoPanic (lj r P s.k Q)) F w0 hards Rd (fq (bm (gY s) i true)) ⟨bm (gY s) i true⟩)
def Pm(s:Cfg):List Nat:=jF (nK s).toList (gY s)
def QZ(i:Nat)(s:Cfg):Nat:=fq (bm (gY s) i true)+1
theorem RD.one(i:Nat)(hk:RDO r P N D F w0 R hards Rd i s Q)(h:(Pm s,fq (gY s))=([i],QZ i s):=by kernel_rfl):RD r P N D F w0 R hards Rd s Q:=by
 refine⟨λ hR hs=>?_⟩;simp only[Prod.mk.injEq] at h;exact TD.one i h.1 _ h.2 λ a hF hcl=>hk.h hR hs a hF hcl
theorem fG(i j:Nat)(h1:RDO r P N D F w0 R hards Rd i s Q)(h2:RDO r P N D F w0 R hards Rd j s Q)(h:(Pm s,fq (gY s),fq (gY s))=([i,j],QZ i s,QZ j s):=by kernel_rfl):RD r P N D F w0 R hards Rd s Q:=by
 refine⟨λ hR hs=>?_⟩;simp only[Prod.mk.injEq] at h;have e:fq (bm (gY s) i true)=fq (bm (gY s) j true):=by
  have:=h.2.1.symm.trans h.2.2;unfold QZ at this;omega
 exact Nd i j h.1 _ h.2.1 (λ a hF hcl=>h1.h hR hs a hF hcl) (λ a hF hcl=>by have:=h2.h hR hs a hF hcl;rw[<- e] at this;exact this)
def Dl(P:Program)(n0 N:Nat)(R:HL)(i:Nat)(hints:List Hint)(s:Cfg):Option (Fo × FL × SS):=match s.c with
 | .drw ops l=>match ops.toList[i]? with
  | none=>none
  | some o=>match jl ops.toList o s.L ⟨s.A,R,hints,0,[],[],true⟩ with
   | some (true,ss)=>match iM o.op s.L with
    | true=>match ev P n0 o (eZ s.L) ss with
     | some (.value v,s')=>match eh N o.dst v s.L with
      | some L'=>some (.drw ops (bm l i true),L',s')
      | none=>none
     | some (.skip,s')=>match eh N o.dst undef s.L with
      | some L'=>some (.drw ops (bm l i true),L',s')
      | none=>none
     | _=>none
    | false=>none
   | _=>none
 | _=>none
theorem FZ{n0 i:Nat}{hints:List Hint}{ops:Array Oper}{l:List Bool}{k:List KI}{L:FL}{A:HL}{Ts:List HL}{c:Fo}{L':FL}{s':SS}(h:Dl P n0 N R i hints ⟨.drw ops l,k,L,A,Ts⟩=some (c,L',s')) :
  ∃o ss u x,ops[i]?=some o /\ jl ops.toList o L ⟨A,R,hints,0,[],[],true⟩=some (true,ss) /\ iM o.op L=true /\ ev P n0 o (eZ L) ss=some (x,s') /\ (x=.value u \/ (x=.skip /\ u=undef)) /\ eh N o.dst u L=some L' /\ c=.drw ops (bm l i true):=by
 unfold Dl at h;simp only at h;split at h
 ·cases h
 rename_i o ho;split at h
 case h_2=>cases h
 rename_i ss hw;split at h
 case h_2=>cases h
 rename_i g_;split at h
 ·rename_i v s2 he;split at h
  case h_2=>cases h
  rename_i hp;simp only[Option.some.injEq,Prod.mk.injEq] at h;obtain⟨e1,e2,e3⟩:=h;subst e2;subst e3;exact⟨o,ss,v,_,by simpa using ho,hw,g_,he,.inl rfl,hp,e1.symm⟩
 ·rename_i s2 he;split at h
  case h_2=>cases h
  rename_i hp;simp only[Option.some.injEq,Prod.mk.injEq] at h;obtain⟨e1,e2,e3⟩:=h;subst e2;subst e3;exact⟨o,ss,undef,_,by simpa using ho,hw,g_,he,.inr ⟨rfl,rfl⟩,hp,e1.symm⟩
 ·cases h
def Pn(P:Program)(n0 N:Nat)(R:HL)(i:Nat)(hints:List Hint)(s:Cfg):Cfg:=match Dl P n0 N R i hints s with
 | some (c,L',ss)=>match s with
  | ⟨_,k,_,_,Ts⟩=>⟨c,k,L',ss.h,Ts⟩
 | none=>s
def Q0(x:Option (Fo × FL × SS)):List Nat:=match x with
 | some (_,_,ss)=>ss.eq.map (·.2)
 | none=>[]
def Q1(W5:Bool)(ix:List Nat)(A A':HL):HL:=match W5 with
 | true=>ix.filterMap (A'[·]?)
 | false=>A'.drop (A'.length-A.length)
def Nh(W5:Bool)(ix:List Nat)(A:HL)(x:Option (Fo × FL × SS)):Option (List Nat × List Prop × HL):=match x with
 | some (_,_,ss)=>match ss.hints with
  | []=>some (ss.eq.map (·.1),ss.ob,Q1 W5 ix A ss.h)
  | _=>none
 | none=>none
theorem BN(ix:List Nat){i:Nat}(hints:List Hint)(Ob:Nat -> List Prop)(iN:∀n0,AllP (Ob n0))(hk:∀n0,RD r P N D F w0 R hards Rd (Pn P n0 N R i hints s) Q)
  (h:∀n0,Nh (hards.contains i) ix s.A (Dl P n0 N R i hints s)=some (Q0 (Dl P n0 N R i hints s),Ob n0,cond (hards.contains i) Rd s.A):=by intro n0;kernel_rfl):RDO r P N D F w0 R hards Rd i s Q:=by
 refine⟨λ hR hs a hF hcl=>?_⟩;obtain⟨c,k,L,A,Ts⟩:=s;cases c with
 | code c=>simp[Dl,Nh] at h
 | ops ops i=>simp[Dl,Nh] at h
 | ex e=>simp[Dl,Nh] at h
 | drw ops l =>
  simp only[nK,gY] at hs hcl h hF ⊢;have key:∀n0,∃o ss s' u x L',ops[i]?=some o /\ jl ops.toList o L ⟨A,R,hints,0,[],[],true⟩=some (true,ss) /\ iM o.op L=true /\ ev P n0 o (eZ L) ss=some (x,s') /\ (x=.value u \/ (x=.skip /\ u=undef)) /\ eh N o.dst u L=some L' /\
    Pn P n0 N R i hints ⟨.drw ops l,k,L,A,Ts⟩=⟨.drw ops (bm l i true),k,L',s'.h,Ts⟩ /\ (∀p∈s'.eq,p.1=p.2) /\ s'.ob=Ob n0 /\ Q1 (hards.contains i) ix A s'.h=cond (hards.contains i) Rd A:=by
   intro n0;have h1:=h n0;generalize hx:Dl P n0 N R i hints ⟨.drw ops l,k,L,A,Ts⟩=x at h1;unfold Nh at h1;split at h1
   case h_2=>cases h1
   rename_i c L' s';split at h1
   case h_2=>cases h1
   simp only[Q0,Option.some.injEq,Prod.mk.injEq] at h1;obtain⟨e1,e2,e3⟩:=h1;obtain⟨o,ss,u,x,q1,q2,q3,q4,q5,q6,q7⟩:=FZ hx;refine⟨o,ss,s',u,x,L',q1,q2,q3,q4,q5,q6,?_,fU e1 rfl,e2,e3⟩;unfold Pn;rw[hx];subst q7;rfl
  unfold OPJ;obtain⟨o,ss,s',u,x,L',q1,q2,q3,q4,q5,q6,q7,q8,q9,IT⟩:=key 0;rw[q1];simp only;obtain⟨d1,d2,d3,d4⟩:=dG q4;rw[if_pos (cj q2 hF (λ p hp=>AllP.mem (iN 0) p (by rw[<- q9];exact d2 p hp))).1];intro w aT hB;obtain⟨o',ss,s',u,x,L',q1',q2,q3,q4,q5,q6,q7,q8,q9,IT⟩:=key w.heap.size;obtain rfl:o=o':=Option.some.inj (q1.symm.trans q1');obtain⟨a1,a2,a3,a4⟩:=bI q2;obtain⟨d1,d2,d3,d4⟩:=dG q4;have SJ:∀p∈s'.ob,p:=by rw[q9];exact AllP.mem (iN _)
  obtain⟨c1,c2,c3⟩:=cj q2 hF (λ p hp=>SJ p (d2 p hp));rw[fA] at aT;obtain⟨w1,r1,r2,r3,r4,r5⟩:=gJ (w:=w) (F:=Ts.flatten++F) q4 q8 SJ (by rw[c2];exact aT) (by rw[a3];exact λ y hy=>aay _ (hR y hy)) (λ _=>by rw[c3];rfl);have hkk:=(hk w.heap.size).h hR;rw[q7] at hkk;have fin:∃H',((i ∉ hards -> ∃X,H'=X++ap A Ts) /\ (i∈hards -> ∀x∈Rd,x∈H')) /\ JJ P ops (NoPanic (lj r P k Q)) F w0 hards Rd (fq (bm l i true)) ⟨bm l i true⟩ (a.put o.dst u) H' /\ Rel (H'++F) w1 /\ Below 0 w0 w1:=by
   refine⟨ap s'.h Ts,⟨λ hi=>?_,λ hi=>?_⟩,hkk hs hcl _ (hF.put q6),by rw[fA];exact r2,hB.trans r3⟩
   ·have hc:hards.contains i=false:=by
     cases hq:hards.contains i with
     | false=>rfl
     | true=>exact absurd (List.contains_iff_mem.1 hq) hi
    rw[hc] at IT;simp only[Q1,cond_false] at IT;refine⟨s'.h.take (s'.h.length-A.length),?_⟩;show s'.h++Ts.flatten=_++(A++Ts.flatten);rw[<- aaH];congr 1
    conv=>lhs;rw[<- aa8 (s'.h.length-A.length) s'.h,IT]
   ·have hc:hards.contains i=true:=List.contains_iff_mem.2 hi;rw[hc] at IT;simp only[Q1,cond_true] at IT;exact λ x hx=>aaA _ (s7 ix IT x hx)
  unfold di;rw[hF.exec q3,r1];rcases q5 with rfl|⟨rfl,rfl⟩
  ·exact fin
  ·exact fin
theorem RDO.ev(ix:List Nat){i:Nat}(hints:List Hint)(hk:∀n0,RD r P N D F w0 R hards Rd (Pn P n0 N R i hints s) Q)
 (h:∀n0,Nh (hards.contains i) ix s.A (Dl P n0 N R i hints s)=some (Q0 (Dl P n0 N R i hints s),[],cond (hards.contains i) Rd s.A):=by intro n0;kernel_rfl):RDO r P N D F w0 R hards Rd i s Q:=BN ix hints (λ _=>[]) (λ _=>trivial) hk h
theorem dM(ix:List Nat){i:Nat}(hints:List Hint)(Ob:List Prop)(hk:∀n0,RD r P N D F w0 R hards Rd (Pn P n0 N R i hints s) Q)(iN:AllP Ob:=by simp only[AllP,bn,and_true,true_and] <;> (repeat' with_reducible refine And.intro ?_ ?_) <;> omega)
 (h:∀n0,Nh (hards.contains i) ix s.A (Dl P n0 N R i hints s)=some (Q0 (Dl P n0 N R i hints s),Ob,cond (hards.contains i) Rd s.A):=by intro n0;kernel_rfl):RDO r P N D F w0 R hards Rd i s Q:=BN ix hints (λ _=>Ob) (λ _=>iN) hk h
def Po(P:Program)(n0 N:Nat)(R:HL)(i:Nat)(s:Cfg):Option (Option Tmp × FuncId × Array Value × HL × List Nat × List Nat × List Prop):=match s.c with
 | .drw ops _=>nE P n0 N ops.toList i s.L (ap s.A s.Ts) R []
 | _=>none
theorem nL{i:Nat}{ops:Array Oper}{l:List Bool}{k:List KI}{L:FL}{A:HL}{Ts:List HL}{o:Oper}(ho:ops[i]?=some o){σ:Type}(G:Value -> σ -> Prop)(Ho:σ -> HL)(hl:(eh N o.dst undef L).isSome=true)
  (hg:∀a,Fm N D L a -> Region.wanted o (yielded ops a.tmps)=true /\ ∀w,Rel (ap A Ts++F) w -> Below 0 w0 w -> di P o a w λ u w'=>∃x,G u x /\ Rel (Ho x++F) w' /\ Below 0 w w')
  (abS:∀x,(i ∉ hards -> ∃X,Ho x=X++ap A Ts) /\ (i∈hards -> ∀y∈Rd,y∈Ho x))
  (hk:∀v x,G v x -> ∀L',eh N o.dst v L=some L' -> Region.noSelect ops=true -> TD P N D F w0 ops hards Rd (fq (bm l i true)) (bm l i true) L' (Ho x) (NoPanic (lj r P k Q))):RDO r P N D F w0 R hards Rd i ⟨.drw ops l,k,L,A,Ts⟩ Q:=by
 refine⟨λ hR hs a hF hcl=>?_⟩;simp only[nK,gY] at hs hcl hF ⊢;unfold OPJ;rw[ho];simp only;obtain⟨h1,h2⟩:=hg a hF;rw[if_pos h1];intro w aT hB;refine fc (h2 w aT hB) ?_;rintro u w' ⟨x,hx,C_,Tv⟩;obtain⟨L',Vo⟩:=cO hl u;exact⟨Ho x,abS x,hk u x hx L' Vo hs hcl _ (hF.put Vo),C_,hB.trans Tv⟩
def F1(W5:Bool)(ix ip jp:List Nat)(s:Cfg)(Rd:HL):HL:=match W5 with
 | true=>ix.filterMap ((fe ip s)[·]?)
 | false=>match ip,jp with
  | [],[]=>Rd
  | _,_=>(0,.obj (.deferred none))::Rd
theorem BO{α:Type}(l:List α):(oth [] l.length).filterMap (l[·]?)=l:=by
 have:oth [] l.length=List.range l.length:=by simp[oth]
 rw[this];exact FW l
theorem F3{L:FL}{H H':HL}{ops:Array Oper}{fuel:Nat}{l:List Bool}(hp:H'.Perm H)(h:TD P N D F w0 ops hards Rd fuel l L H' Q):TD P N D F w0 ops hards Rd fuel l L H Q:=λ hcl a hF=>JJ.perm _ _ _ _ _ hp (h hcl a hF)
theorem RDO.ct{τ:Type}{i:Nat}(ix ip jp:List Nat){f:FuncId}{args:Array Value}{Hp:HL}{Tp:List HL}{Hq:τ -> HL}{Tq:τ -> List HL}{Rv:Value -> τ -> Prop}
  (hc:Sp P f args (ap Hp Tp) (ap (fe ip s) (fR jp s)++F) (λ v H'=>∃x,H'=ap (Hq x) (Tq x) /\ Rv v x)) (hk:∀v x,Rv v x -> RD r P N D F w0 R hards Rd (wC (λ A=>Hq x++(oth ip A.length).filterMap (A[·]?)) (λ Ts=>Tq x++(oth jp Ts.length).filterMap (Ts[·]?)) (zJ N i v s)) Q)
  (h:∀n0,kM N s (Po P n0 N R i s)=some (f,args,[],[],ap s.A s.Ts):=by intro n0;kernel_rfl)
  (hp:bZ ip jp s=true:=by kernel_rfl) (hH:picks ip jp s=(Hp,Tp):=by kernel_rfl) (hx:F1 (hards.contains i) ix ip jp s Rd=Rd:=by kernel_rfl):RDO r P N D F w0 R hards Rd i s Q:=by
 obtain⟨c,k,L,A,Ts⟩:=s;cases c with
 | code c=>simp[Po,kM] at h
 | ops ops i=>simp[Po,kM] at h
 | ex e=>simp[Po,kM] at h
 | drw ops l =>
  refine⟨λ hR=>?_⟩;unfold bZ at hp;unfold picks at hH;simp only[Po,aa0,Prod.mk.injEq] at h hp hH;obtain⟨e1,e2⟩:=hH;have key:∀n0,∃dst,nE P n0 N ops.toList i L (ap A Ts) R []=some (dst,f,args,ap A Ts,[],[],[]) /\ (eh N dst undef L).isSome=true:=by
   intro n0;have h1:=h n0;generalize hx:nE P n0 N ops.toList i L (ap A Ts) R []=x at h1;unfold kM at h1;split at h1
   case h_2=>cases h1
   rename_i dst f' iS H1 E E' Ob';split at h1
   case h_2=>cases h1
   rename_i Vh;simp only[Option.some.injEq,Prod.mk.injEq] at h1;obtain⟨e1,e2,e3,e4,e5⟩:=h1;subst e1;subst e2;subst e3;subst e4;subst e5;obtain⟨o,s1,s',_,_,_,_,_,_,g1,g2,_⟩:=iP hx;have:s'.eq=[]:=by simpa using g1
   rw[this] at g2;simp only[List.map_nil] at g2;subst g2;exact⟨dst,rfl,Vh⟩
  obtain⟨dst,hce,Vh⟩:=key 0;obtain⟨o,s1,s',ho,_,_,_,hd,_⟩:=iP hce;subst hd;have H_:∀n0,nE P n0 N ops.toList i L (ap A Ts) R []=some (o.dst,f,args,ap A Ts,[],[],[]):=by
   intro n0;obtain⟨aml,h1,_⟩:=key n0;obtain⟨o',_,_,BY,_,_,_,UF,_⟩:=iP h1;obtain rfl:o=o':=Option.some.inj (ho.symm.trans BY);rw[UF];exact h1
  have oF:(ap Hp Tp++ap (fe ip ⟨.drw ops l,k,L,A,Ts⟩) (fR jp ⟨.drw ops l,k,L,A,Ts⟩)).Perm (ap A Ts):=by
   have h1:=lM A Ts ip (oth ip A.length) jp (oth jp Ts.length) hp.1 hp.2;rw[e1,e2] at h1;exact h1
  have Sh:∀v L',eh N o.dst v L=some L' -> zJ N i v ⟨.drw ops l,k,L,A,Ts⟩=⟨.drw ops (bm l i true),k,L',A,Ts⟩:=by
   intro v L' hl;unfold zJ;simp only[ho,hl]
  have hTD:∀v x,Rv v x -> ∀L',eh N o.dst v L=some L' -> Region.noSelect ops=true -> TD P N D F w0 ops hards Rd (fq (bm l i true)) (bm l i true) L' (ap (Hq x++(oth ip A.length).filterMap (A[·]?)) (Tq x++(oth jp Ts.length).filterMap (Ts[·]?))) (NoPanic (lj r P k Q)):=by
   intro v x hv L' hl hs;have h1:=(hk v x hv).h hR;rw[Sh v L' hl] at h1;exact h1 hs
  have afU:∀a,Fm N D L a -> Region.wanted o (yielded ops a.tmps)=true /\ ∀w,Rel (ap A Ts++F) w -> Below 0 w0 w -> di P o a w λ u w'=>∃x,Rv u x /\ Rel ((ap (Hq x) (Tq x)++ap (fe ip ⟨.drw ops l,k,L,A,Ts⟩) (fR jp ⟨.drw ops l,k,L,A,Ts⟩))++F) w' /\ Below 0 w w':=by
   intro a hF;obtain⟨h1,h2⟩:=zC (w0:=w0) ho H_ hR trivial oF hc a hF;refine⟨h1,λ w hR hB=>fc (h2 w hR hB) ?_⟩;rintro u w' ⟨H',⟨x,rfl,hv⟩,TE,Vy⟩;exact⟨x,hv,TE,Vy⟩
  have abP:∀x,(ap (Hq x) (Tq x)++ap (fe ip ⟨.drw ops l,k,L,A,Ts⟩) (fR jp ⟨.drw ops l,k,L,A,Ts⟩)).Perm (ap (Hq x++(oth ip A.length).filterMap (A[·]?)) (Tq x++(oth jp Ts.length).filterMap (Ts[·]?))):=by
   intro x;have h1:=uJ (Hq x) (fe ip ⟨.drw ops l,k,L,A,Ts⟩) (Tq x) (fR jp ⟨.drw ops l,k,L,A,Ts⟩) [];rw[List.append_nil,List.append_nil] at h1;exact h1
  refine(nL (by simpa using ho) (λ v x=>Rv v x) (λ x=>ap (Hq x) (Tq x)++ap (fe ip ⟨.drw ops l,k,L,A,Ts⟩) (fR jp ⟨.drw ops l,k,L,A,Ts⟩)) Vh afU (λ x=>⟨λ hi=>?_,λ hi y hy=>?_⟩) (λ v x hv L' hl hs=>F3 (abP x).symm (hTD v x hv L' hl hs)):RDO r P N D F w0 R hards Rd i ⟨.drw ops l,k,L,A,Ts⟩ Q).h hR
  ·have hc:hards.contains i=false:=by
    cases hq:hards.contains i with
    | false=>rfl
    | true=>exact absurd (List.contains_iff_mem.1 hq) hi
   rw[hc] at hx;unfold F1 at hx;simp only at hx;split at hx
   ·refine⟨ap (Hq x) (Tq x),?_⟩;unfold fe fR;show _++ap ((oth [] A.length).filterMap (A[·]?)) ((oth [] Ts.length).filterMap (Ts[·]?))=_;rw[BO,BO]
   ·exact absurd hx (by simp)
  ·rw[List.contains_iff_mem.2 hi] at hx;simp only[F1] at hx;exact aay _ (aaA _ (s7 ix hx y hy))
def Mt(V:Inv)(ip jp:List Nat)(s:Cfg):(List (Option Value) × HL × List HL) × Bool × Bool:=(uN V ip jp s,bZ ip jp s,Dk s)
def Rj(V:Inv)(s:Cfg):Cfg:=match s with
 | ⟨_,k,_,_,_⟩=>⟨.ex .normal,k,V.L,V.A,V.Ts⟩
theorem jT{σ:Type}(V:σ -> Inv)(k:∀x,RN r P N D F w0 R (Rj (V x) s) Q)(h:(∀ {s':Cfg} (x:σ) (ip jp:List Nat),(h:Mt (V x) ip jp s'=(nJ (V x),true,true):=by kernel_rfl) -> (e:s'.k=s.k:=by kernel_rfl) -> RD r P N D F w0 R hards Rd s' Q) -> RD r P N D F w0 R hards Rd s Q):RD r P N D F w0 R hards Rd s Q:=by
 refine h λ {s'} x ip jp hm e=>?_;unfold Mt at hm;simp only[Prod.mk.injEq] at hm;obtain⟨m1,m2,m3⟩:=hm;refine RD.fin ⟨λ hR a w h1 h2 h3=>?_⟩ m3;obtain⟨c,k',L,A,Ts⟩:=s';simp only at e;subst e;cases c with
 | drw ops l =>
  obtain⟨k1,k2⟩:=qJ (s:=⟨.drw ops l,s.k,L,A,Ts⟩) m1 m2 h1 h2;exact(k x).h hR a w k1 k2 h3
 | code c=>simp[Dk] at m3
 | ops ops i=>simp[Dk] at m3
 | ex e=>simp[Dk] at m3
end
section
variable {r:Option Nat} {P:Program} {N:Nat} {D:List Deferred} {F:HL} {w0:World} {R:HL} {s:Cfg} {Q:Exit -> Act -> World -> Prop} {hards:List Nat} {Rd:HL}
def Pp(i:Nat)(b:Blk)(s:Cfg):Cfg:=match s with
 | ⟨c,k,L,A,Ts⟩=>⟨c,k,L,match A[i]? with|some x=>bm A i (x.1,b)|none=>A,Ts⟩
theorem oI{A:HL}{i:Nat}{x:Nat × Blk}{b:Blk}(h:A[i]?=some x)(e:x.2.den=b.den):eE A=eE (bm A i (x.1,b)):=by
 rw[iL];unfold eE;rw[List.map_set];have h1:(A.map λ x=>(x.1,x.2.den))[i]?=some (x.1,b.den):=by rw[List.getElem?_map,h];simp[e]
 have iF:i<(A.map λ x=>(x.1,x.2.den)).length:=(List.getElem?_eq_some_iff.1 h1).1;have h2:(x.1,b.den)=(A.map λ x=>(x.1,x.2.den))[i]:=((List.getElem?_eq_some_iff.1 h1).2).symm;show _=(A.map λ x=>(x.1,x.2.den)).set i (x.1,b.den);rw[h2,List.set_getElem_self]
def Pq(i:Nat)(s:Cfg):Option Obj:=(s.A[i]?).map (·.2.den)
theorem RN.dn(i:Nat)(b:Blk)(hk:RN r P N D F w0 R (Pp i b s) Q)(h:Pq i s=some b.den:=by kernel_rfl):RN r P N D F w0 R s Q:=by
 refine⟨λ hR a w h1 h2 h3=>hk.h hR a w h1 ?_ h3⟩;obtain⟨c,k,L,A,Ts⟩:=s;unfold Pq at h;simp only[Option.map_eq_some_iff] at h;obtain⟨x,hx,e⟩:=h;unfold Pp;simp only[hx];exact h2.denA (oI hx e)
theorem RD.dn(i:Nat)(b:Blk)(hk:RD r P N D F w0 R hards Rd (Pp i b s) Q)(h:Pq i s=some b.den:=by kernel_rfl):RD r P N D F w0 R hards Rd s Q:=by
 refine⟨λ hR hs=>?_⟩;obtain⟨c,k,L,A,Ts⟩:=s;unfold Pq at h;simp only[Option.map_eq_some_iff] at h;obtain⟨x,hx,e⟩:=h;have h1:=hk.h hR hs;unfold Pp at h1;simp only[hx] at h1;exact TD.den _ (oI hx e) h1
def ptC(jp:List Nat)(s:Cfg):Cfg:=match s with
 | ⟨c,k,L,A,Ts⟩=>⟨c,k,L,A,jp.filterMap (Ts[·]?)⟩
theorem ll(jp:List Nat)(hk:RN r P N D F w0 R (ptC jp s) Q)(h:jp.isPerm (List.range s.Ts.length)=true:=by kernel_rfl):RN r P N D F w0 R s Q :=
 ⟨λ hR a w h1 h2 h3=>hk.h hR a w h1 (h2.perm ((FU jp h rfl).append_right F)) h3⟩
def otC(j:Nat)(x:Nat × Blk)(s:Cfg):Cfg:=match s with
 | ⟨c,k,L,A,Ts⟩=>⟨c,k,L,x::A,(oth [j] Ts.length).filterMap (Ts[·]?)⟩
theorem tc(j:Nat){x:Nat × Blk}(hk:RN r P N D F w0 R (otC j x s) Q)(h:(s.Ts[j]?,([j]++oth [j] s.Ts.length).isPerm (List.range s.Ts.length))=(some [x],true):=by kernel_rfl):RN r P N D F w0 R s Q:=by
 simp only[Prod.mk.injEq] at h;exact⟨λ hR a w h1 h2 h3=>hk.h hR a w h1 (h2.perm ((zD _ j h.2 h.1 rfl).append_right F)) h3⟩
def jtC(s:Cfg):Cfg:=match s with
 | ⟨c,k,L,A,T1::T2::Ts⟩=>⟨c,k,L,A,(T1++T2)::Ts⟩
 | s=>s
theorem my(hk:RN r P N D F w0 R (jtC s) Q):RN r P N D F w0 R s Q:=by
 refine⟨λ hR a w h1 h2 h3=>?_⟩;have h4:=hk.h hR a w;unfold jtC at h4;split at h4
 ·exact h4 h1 (by simpa [ap] using h2) h3
 ·exact h4 h1 h2 h3
def ntC(s:Cfg):Cfg:=match s with
 | ⟨c,k,L,A,Ts⟩=>⟨c,k,L,A,[]::Ts⟩
theorem RN.nt(hk:RN r P N D F w0 R (ntC s) Q):RN r P N D F w0 R s Q:=⟨λ hR a w h1 h2 h3=>hk.h hR a w h1 h2 h3⟩
theorem RD.nt(hk:RD r P N D F w0 R hards Rd (ntC s) Q):RD r P N D F w0 R hards Rd s Q:=by
 obtain⟨c,k,L,A,Ts⟩:=s;exact⟨λ hR hs=>hk.h hR hs⟩
def svC(t:Nat)(v:Value)(s:Cfg):Cfg:=match s with
 | ⟨c,k,L,A,Ts⟩=>⟨c,k,(t,v)::L,A,Ts⟩
theorem aK(t:Nat){u v:Value}(e:u=v)(hk:RN r P N D F w0 R (svC t v s) Q)(h:s.L.lookup t=some u:=by kernel_rfl):RN r P N D F w0 R s Q:=by
 subst e;exact⟨λ hR a w h1 h2 h3=>hk.h hR a w (h1.fix h) h2 h3⟩
def Pr(i:Nat)(b:Blk)(s:Cfg):Cfg:=match s with
 | ⟨c,k,L,A,Ts⟩=>⟨c,k,L,match A[i]? with|some x=>bm A i (x.1,b)|none=>A,Ts⟩
theorem RN.bv(i:Nat){b b':Blk}(e:b=b')(hk:RN r P N D F w0 R (Pr i b' s) Q)(h:(s.A[i]?).map (·.2)=some b:=by kernel_rfl):RN r P N D F w0 R s Q:=by
 subst e;refine⟨λ hR a w h1 h2 h3=>hk.h hR a w h1 ?_ h3⟩;obtain⟨c,k,L,A,Ts⟩:=s;simp only[Option.map_eq_some_iff] at h;obtain⟨x,hx,e⟩:=h;unfold Pr;simp only[hx];refine h2.denA (oI hx (by rw[e]))
variable {α:Type} {e:Enc α} {T:TypeId} {inf:TypeInfo} {z:Value}
def Kv(P:Program)(o:Oper)(L:FL):Option (Option Addr × Nat × Nat × TypeId × Option Addr × Nat × Nat × TypeId):=match o.guard,o.op with
 | none,.call c=>match c.callee,c.args.toList,c.argTypes.toList with
  | .builtin .append,[a1,a2],[t,tx]=>match gh L a1 && gh L a2,eZ L a1,eZ L a2 with
   | true,.slice A n cap,.slice B m c'=>match P.underlying t,P.underlying tx with
    | some (.slice T),some (.slice _)=>some (A,n,cap,T,B,m,c',tx)
    | _,_=>none
   | _,_,_=>none
  | _,_,_=>none
 | _,_=>none
theorem td{o:Oper}{L:FL}{A:Option Addr}{n cap:Nat}{B:Option Addr}{m c':Nat}{tx:TypeId}(h:Kv P o L=some (A,n,cap,T,B,m,c',tx)) :
  ∃a1 a2 t e',o.guard=none /\ o.op=.call { callee:=.builtin .append,args:=#[a1,a2],argTypes:=#[t,tx] } /\ (gh L a1 && gh L a2)=true /\ eZ L a1=.slice A n cap /\ eZ L a2=.slice B m c' /\ P.underlying t=some (.slice T) /\ P.underlying tx=some (.slice e'):=by
 unfold Kv at h;split at h
 case h_2=>cases h
 rename_i c hg DO;split at h
 case h_2=>cases h
 rename_i a1 a2 t tx' h1 h2 h3;split at h
 case h_2=>cases h
 rename_i A' n' f_ B' m' c2 h4 h5 h6;split at h
 case h_2=>cases h
 rename_i T' e' h7 h8;simp only[Option.some.injEq,Prod.mk.injEq] at h;obtain⟨e1,e2,e3,e4,e5,e6,e7,e8⟩:=h;subst e1;subst e2;subst e3;subst e4;subst e5;subst e6;subst e7;subst e8;refine⟨a1,a2,t,e',hg,?_,h4,h5,h6,h7,h8⟩;obtain⟨cal,args,Ym⟩:=c;simp only at h1 h2 h3;subst h1;have:args=#[a1,a2]:=by cases args;simp_all
 subst this;have:Ym=#[t,tx']:=by cases Ym;simp_all
 subst this;exact DO
def gi(s:Cfg):Option Oper:=match s.c with
 | .ops ops i=>ops.toList[i]?
 | _=>none
def tf(i:Nat)(s:Cfg):Option Oper:=match s.c with
 | .drw ops _=>ops.toList[i]?
 | _=>none
def Ni(p:Nat)(s:Cfg):Option (Nat × List Value):=match s.A[p]? with
 | some (b,.lit cs _ _)=>some (b,cs)
 | _=>none
def Dm(P:Program)(N j p:Nat)(oo:Option Oper)(s:Cfg):Option (Option Addr × Nat × Nat × TypeId × Nat × List Value × HL × Nat):=match oo with
 | some o=>match Kv P o s.L,Ni p s,s.Ts[j]?,([j]++oth [j] s.Ts.length).isPerm (List.range s.Ts.length) && (eh N o.dst undef s.L).isSome with
  | some (A,n,cap,T,some ⟨b,0,none⟩,m,_,_),some (_,cs),some Hl,true=>some (A,n,cap,T,m,cs,Hl,b)
  | _,_,_,_=>none
 | none=>none
def Dn(p:Nat)(s:Cfg):Nat:=match Ni p s with
 | some (b,_)=>b
 | none=>0
theorem lO{j p:Nat}{oo:Option Oper}{A:Option Addr}{n cap m:Nat}{cs:List Value}{Hl:HL}(h:Dm P N j p oo s=some (A,n,cap,T,m,cs,Hl,Dn p s)) :
  ∃o a1 a2 t tx e' c' b ty fz,oo=some o /\ o.guard=none /\ o.op=.call { callee:=.builtin .append,args:=#[a1,a2],argTypes:=#[t,tx] } /\ (gh s.L a1 && gh s.L a2)=true /\ eZ s.L a1=.slice A n cap /\ eZ s.L a2=.slice (some ⟨b,0,none⟩) m c' /\ P.underlying t=some (.slice T) /\ P.underlying tx=some (.slice e') /\
   s.A[p]?=some (b,.lit cs ty fz) /\ s.Ts[j]?=some Hl /\ ([j]++oth [j] s.Ts.length).isPerm (List.range s.Ts.length)=true /\ (eh N o.dst undef s.L).isSome=true:=by
 unfold Dm at h;split at h
 case h_2=>cases h
 rename_i o;split at h
 case h_2=>cases h
 rename_i A' n' f_ T' b m' c' tx b' cs' o_ h1 h2 h3 h4;simp only[Option.some.injEq,Prod.mk.injEq] at h;obtain⟨e1,e2,e3,e4,e5,e6,e7,e8⟩:=h;subst e1;subst e2;subst e3;subst e4;subst e5;subst e6;subst e7;obtain⟨a1,a2,t,e',q1,q2,q3,q4,q5,q6,q7⟩:=td h1;rw[aa0] at h4;unfold Dn at e8;rw[h2] at e8;simp only at e8;subst e8;unfold Ni at h2;split at h2
 case h_2=>cases h2
 rename_i b2 cs2 ty fz h5;simp only[Option.some.injEq,Prod.mk.injEq] at h2;obtain⟨e1,e2⟩:=h2;subst e1;subst e2;exact⟨o,a1,a2,t,tx,e',c',_,ty,fz,rfl,q1,q2,q3,q4,q5,q6,q7,h5,h3,h4.1,h4.2⟩
def Nj(j:Nat)(Hl:HL)(s:Cfg):Cfg:=match s with
 | ⟨c,k,L,A,Ts⟩=>⟨c,k,L,A,Hl::(oth [j] Ts.length).filterMap (Ts[·]?)⟩
theorem gt{A:HL}{Ts:List HL}{Hl:HL}{j:Nat}(hj:Ts[j]?=some Hl)(hp:([j]++oth [j] Ts.length).isPerm (List.range Ts.length)=true):(Hl++(A++((oth [j] Ts.length).filterMap (Ts[·]?)).flatten)).Perm (ap A Ts):=by
 have h3:=fL Ts [j] _ hp;simp only[List.filterMap_cons,hj,List.filterMap_nil] at h3;have h4:=h3.flatten;simp only[List.cons_append,List.nil_append,aa2] at h4;refine List.Perm.trans ?_ (List.Perm.append_left A h4);rw[<- aaH,<- aaH];exact aaX _ aaW
theorem iX(ok:EncOk e P T inf z)(l src:List α)(j p:Nat){A:Option Addr}{n cap:Nat}{Hl:HL}(hn:n=l.length)(UA:SlIs e T l A cap Hl)(hb:l.length+src.length <= 100000000)
  (hk:∀ (A':Option Addr) (f_:Nat) (o_:HL),(SlIs e T (l++src) A' f_ o_ /\ (bA A -> bA A')) -> RN r P N D F w0 R (Nj j o_ (dP N (.slice A' (n+src.length) f_) s)) Q)
  (h:Dm P N j p (gi s) s=some (A,n,cap,T,src.length,aq e src,Hl,Dn p s):=by kernel_rfl):RN r P N D F w0 R s Q:=by
 obtain⟨o,a1,a2,t,tx,e',c',b,ty,fz,q0,q1,q2,q3,q4,q5,q6,q7,q8,q9,IT,SQ⟩:=lO h;refine⟨λ hR a w hF aT hB=>?_⟩;obtain⟨c,k,L,B,Ts⟩:=s;unfold gi at q0;cases c with
 | code c=>cases q0
 | ex c=>cases q0
 | drw _ _=>cases q0
 | ops ops i =>
  simp only at q0 q3 q4 q5 q8 q9 IT SQ hF aT;have j_:ops.toList.drop i=o::ops.toList.drop (i+1):=by
   have iF:i<ops.toList.length:=(List.getElem?_eq_some_iff.1 q0).1;rw[List.drop_eq_getElem_cons iF,(List.getElem?_eq_some_iff.1 q0).2]
  show wpListIn _ _ _ _ _ _ _ _;rw[j_,wpListIn,if_pos (by simp[Region.wanted,q1])];refine⟨λ _ _=>trivial,?_⟩;have oF:=gt (A:=B) q9 IT;refine eF (by rw[q2];intro c hc;cases hc) (oG (x:=vS b 0 src.length c') (src:=src) (G:=B++((oth [j] Ts.length).filterMap (Ts[·]?)).flatten) ok q2 q6 q3 q4 hn q5 oF UA (λ w hw=>qh ok q7 p (by rw[aaU (List.getElem?_eq_some_iff.1 q8).1];exact q8) hw) hb a hF w aT) ?_;rintro u w' ⟨⟨A',f_,o_⟩,⟨rfl,Vf⟩,C_,Tv⟩;obtain⟨L',p1⟩:=cO SQ (.slice A' (n+src.length) f_);have hh:=(hk A' f_ o_ Vf).h hR;have Sh:dP N (.slice A' (n+src.length) f_) ⟨.ops ops i,k,L,B,Ts⟩=⟨.ops ops (i+1),k,L',B,Ts⟩:=by
   unfold dP;simp only[q0,p1]
  rw[Sh] at hh;refine hh _ w' (hF.put p1) (C_.perm (aaX F ?_)) (hB.trans Tv);show (B++(o_::(oth [j] Ts.length).filterMap (Ts[·]?)).flatten).Perm _;rw[aa2,<- aaH,<- aaH];exact aaX _ aaW
theorem nM{i:Nat}(ix:List Nat)(ok:EncOk e P T inf z)(l src:List α)(j p:Nat){A:Option Addr}{n cap:Nat}{Hl:HL}(hn:n=l.length)(UA:SlIs e T l A cap Hl)(hb:l.length+src.length <= 100000000)
  (hk:∀ (A':Option Addr) (f_:Nat) (o_:HL),(SlIs e T (l++src) A' f_ o_ /\ (bA A -> bA A')) -> RD r P N D F w0 R hards Rd (Nj j o_ (zJ N i (.slice A' (n+src.length) f_) s)) Q)
  (h:Dm P N j p (tf i s) s=some (A,n,cap,T,src.length,aq e src,Hl,Dn p s):=by kernel_rfl) (hx:(hards.contains i,zI ix s)=(true,Rd):=by kernel_rfl):RDO r P N D F w0 R hards Rd i s Q:=by
 obtain⟨o,a1,a2,t,tx,e',c',b,ty,fz,q0,q1,q2,q3,q4,q5,q6,q7,q8,q9,IT,SQ⟩:=lO h;obtain⟨c,k,L,B,Ts⟩:=s;unfold tf at q0;simp only[Prod.mk.injEq] at hx;cases c with
 | code c=>cases q0
 | ex c=>cases q0
 | ops _ _=>cases q0
 | drw ops li =>
  refine⟨λ hR=>?_⟩;simp only at q0 q3 q4 q5 q8 q9 IT SQ;have oF:=gt (A:=B) q9 IT;have Sh:∀v L',eh N o.dst v L=some L' -> zJ N i v ⟨.drw ops li,k,L,B,Ts⟩=⟨.drw ops (bm li i true),k,L',B,Ts⟩:=by
   intro v L' hl;unfold zJ;simp only[q0,hl]
  refine(nL (Q:=Q) (by simpa using q0) (σ:=Option Addr × Nat × HL) (λ u y=>u=.slice y.1 (n+src.length) y.2.1 /\ (SlIs e T (l++src) y.1 y.2.1 y.2.2 /\ (bA A -> bA y.1))) (λ y=>ap B (y.2.2::(oth [j] Ts.length).filterMap (Ts[·]?))) SQ (λ a hF=>⟨by simp[Region.wanted,q1],λ w aT hB=>?_⟩) (λ y=>⟨λ hi=>?_,λ hi x hm=>aaA _ (s7 ix hx.2 x hm)⟩) ?_:RDO r P N D F w0 R hards Rd i ⟨.drw ops li,k,L,B,Ts⟩ Q).h hR
  ·refine fc (oG (x:=vS b 0 src.length c') (src:=src) (G:=B++((oth [j] Ts.length).filterMap (Ts[·]?)).flatten) ok q2 q6 q3 q4 hn q5 oF UA (λ w hw=>qh ok q7 p (by rw[aaU (List.getElem?_eq_some_iff.1 q8).1];exact q8) hw) hb a hF w aT) ?_;rintro u w' ⟨y,h3,C_,Tv⟩;refine⟨y,h3,C_.perm (aaX F ?_),Tv⟩;show (B++(y.2.2::(oth [j] Ts.length).filterMap (Ts[·]?)).flatten).Perm _;rw[aa2,<- aaH,<- aaH];exact aaX _ aaW
  ·exact absurd (List.contains_iff_mem.1 hx.1) hi
  ·rintro u ⟨A',f_,o_⟩ ⟨rfl,h3⟩ L' hl hs;have h1:=(hk A' f_ o_ h3).h hR;rw[Sh _ L' hl] at h1;exact h1 hs
end
open Go.Shelf
section
variable {r:Option Nat} {P:Program} {N:Nat} {D:List Deferred} {F:HL} {w0:World} {R:HL} {s:Cfg} {Q:Exit -> Act -> World -> Prop}
def F4(P:Program)(n0 N:Nat)(R:HL)(s:Cfg):Option (Option Tmp × Nat × Array Value × List Prop):=match s.c with
 | .ops ops i=>zE P n0 N ops.toList i s.L (ap s.A s.Ts) R []
 | _=>none
def F5(N j:Nat)(s:Cfg)(x:Option (Option Tmp × Nat × Array Value × List Prop)):Option (Nat × Array Value × List Prop × HL):=match x with
 | some (dst,l,args,Ob)=>match s.Ts[j]?,([j]++oth [j] s.Ts.length).isPerm (List.range s.Ts.length) && (eh N dst undef s.L).isSome with
  | some T,true=>some (l,args,Ob,T)
  | _,_=>none
 | none=>none
theorem RN.yield(j:Nat){l:Nat}{args:Array Value}{T:HL}{Rv:Bool -> HL -> Prop}(hc:YL P l args T (ap s.A (fR [j] s)++F) Rv)(hk:∀b H',Rv b H' -> RN r P N D F w0 R (Nj j H' (dP N (.bool b) s)) Q)
  (h:∀n0,F5 N j s (F4 P n0 N R s)=some (l,args,[],T):=by intro n0;kernel_rfl):RN r P N D F w0 R s Q:=by
 refine⟨λ hR a w hF aT hB=>?_⟩;have h':=h w.heap.size;obtain⟨cc,k,L,A,Ts⟩:=s;cases cc with
 | code c=>simp[F4,F5] at h'
 | ex c=>simp[F4,F5] at h'
 | drw _ _=>simp[F4,F5] at h'
 | ops ops i =>
 simp only[F4] at h' hF aT;generalize hx:zE P w.heap.size N ops.toList i L (ap A Ts) R []=x at h';unfold F5 at h';split at h'
 case h_2=>cases h'
 rename_i dst l' iS Ob';split at h'
 case h_2=>cases h'
 rename_i T' hj hpp;simp only[Option.some.injEq,Prod.mk.injEq] at h';obtain⟨e1,e2,e3,e4⟩:=h';subst e1;subst e2;subst e3;subst e4;simp only at hj hpp;rw[aa0] at hpp;have h':=hx;unfold zE at h';split at h'
 ·cases h'
 rename_i o ho;split at h'
 case h_2=>cases h'
 rename_i ss hw;split at h'
 case h_2=>cases h'
 rename_i g_ hh he;split at h'
 case h_2=>cases h'
 rename_i c DO;split at h'
 case h_2=>cases h'
 rename_i f SL;split at h'
 case h_2=>cases h'
 rename_i l2 cap bound hf;split at h'
 case h_2=>cases h'
 rename_i e1 e2;simp only[Option.some.injEq,Prod.mk.injEq] at h';obtain⟨d1,d2,d3,d4⟩:=h';subst d2;have hcap:cap=#[]:=by cases cap;simp_all
 have agi:bound=#[]:=by cases bound;simp_all
 subst hcap;subst agi;have j_:ops.toList.drop i=o::ops.toList.drop (i+1):=by
  have iF:i<ops.toList.length:=(List.getElem?_eq_some_iff.1 ho).1;rw[List.drop_eq_getElem_cons iF,(List.getElem?_eq_some_iff.1 ho).2]
 show wpListIn _ _ _ _ _ _ _ _;rw[j_,wpListIn];have SJ:∀p∈ss.ob,p:=by rw[d4];intro p hp;cases hp
 obtain⟨c1,c2,c3⟩:=cj hw hF SJ;rw[if_pos c1];refine⟨λ _ _=>trivial,?_⟩;rw[hF.sem g_];have oF:=gt (A:=A) hj hpp.1;have C_:Rel (T'++(ap A ((oth [j] Ts.length).filterMap (Ts[·]?))++F)) w:=by rw[<- aaH];exact aT.perm (oF.symm.append_right F).symm
 obtain⟨fn,tmps,assign,body,hy,Zt⟩:=hc w C_;rw[zF DO SL hf,d3,hy,Oper.uponIn_round];refine⟨λ h=>(by cases h),RoundIn.mono (show RoundIn (Wr r) (0-1) P l2 fn tmps assign body w _ from Zt) ?_⟩;rintro e W' ⟨b,H',rfl,hv,TE,Vy⟩;obtain⟨L',p1⟩:=cO hpp.2 (.bool b);have hh:=(hk b H' hv).h hR;have Sh:dP N (.bool b) ⟨.ops ops i,k,L,A,Ts⟩=⟨.ops ops (i+1),k,L',A,Ts⟩:=by
  unfold dP;rw[<- d1] at p1;simp only[ho,p1]
 rw[Sh] at hh;rw[<- d1] at p1;refine hh _ W' (hF.put p1) (TE.perm ?_) (hB.trans Vy);rw[<- aaH];refine aaX F ?_;show (A++(H'::(oth [j] Ts.length).filterMap (Ts[·]?)).flatten).Perm (H'++(A++((oth [j] Ts.length).filterMap (Ts[·]?)).flatten));rw[aa2,<- aaH,<- aaH];exact aaX _ aaW
theorem RN.rn{σ:Type}{Ax:σ -> HL}{Tx:σ -> List HL}{I:σ -> Prop}{Ix:Code -> σ -> Prop}(x:σ)(ip jp:List Nat)(hi:I x)(hc:(match s.c,s.k with | .ex .normal,[]=>true|_,_=>false)=true:=by kernel_rfl)
  (hp:bZ ip jp s=true:=by kernel_rfl) (hH:picks ip jp s=(Ax x,Tx x):=by kernel_rfl):RN r P N D F w0 R s (RQ F w0 (λ x=>ap (Ax x) (Tx x)) I Ix):=by
 unfold bZ at hp;unfold picks at hH;rw[aa0] at hp;simp only[Prod.mk.injEq] at hH;refine⟨λ hR a w h1 h2 h3=>?_⟩;obtain⟨c,k,L,A,Ts⟩:=s;split at hc
 case h_2=>cases hc
 rename_i e1 e2;simp only at e1 e2;subst e1;subst e2;exact⟨x,hi,h2.takeT ip _ jp _ hp.1 hp.2 (by rw[hH.1,hH.2]),h3⟩
theorem RN.rr{σ:Type}{Ax:σ -> HL}{Tx:σ -> List HL}{I:σ -> Prop}{Ix:Code -> σ -> Prop}(x:σ)(ip jp:List Nat)(hi:Ix .ret x)(hc:(match s.c with | .code .ret=>true|_=>false)=true:=by kernel_rfl)
  (hp:bZ ip jp s=true:=by kernel_rfl) (hH:picks ip jp s=(Ax x,Tx x):=by kernel_rfl):RN r P N D F w0 R s (RQ F w0 (λ x=>ap (Ax x) (Tx x)) I Ix):=by
 unfold bZ at hp;unfold picks at hH;rw[aa0] at hp;simp only[Prod.mk.injEq] at hH;refine⟨λ hR a w h1 h2 h3=>?_⟩;obtain⟨c,k,L,A,Ts⟩:=s;split at hc
 case h_2=>cases hc
 rename_i e1;simp only at e1;subst e1;exact wpIn_ret (iW k ⟨x,hi,h2.takeT ip _ jp _ hp.1 hp.2 (by rw[hH.1,hH.2]),h3⟩)
end
section
variable {P:Program} {N:Nat} {D:List Deferred} {F:HL} {w0:World} {R:HL} {s:Cfg} {Q:Exit -> Act -> World -> Prop}
def mr(s:Cfg):Option (Value × Nat):=match s.c with
 | .code (.rangeFunc g ps _ _)=>match gh s.L g with
  | true=>some (eZ s.L g,ps.size)
  | false=>none
 | _=>none
def Kw(N:Nat)(s:Cfg):Bool:=match s.c with
 | .code (.rangeFunc _ ps _ _)=>ps.toList.all λ p=>decide (p<N)
 | _=>false
def Ps(K:Act -> World -> Prop)(vs:List Value)(A:HL)(Ts:List HL)(s:Cfg):Cfg:=match s with
 | ⟨.code (.rangeFunc _ ps assign _),_,L,_,_⟩=>⟨.code assign,[.met K],pV ps.toList vs L,A,Ts⟩
 | s=>s
def Pt(V:Inv)(s:Cfg):Cfg:=match s with
 | ⟨.code (.rangeFunc _ _ _ body),_,_,_,_⟩=>⟨.code body,[],V.L,V.A,V.Ts⟩
 | s=>s
def Pu(c:Fo)(d:Nat)(ip jp:List Nat)(A:HL)(Ts:List HL)(s:Cfg):Cfg:=match s with
 | ⟨_,k,L,A',Va⟩=>⟨c,k,L,cw d::(A++(oth ip A'.length).filterMap (A'[·]?)),Ts++(oth jp Va.length).filterMap (Va[·]?)⟩
theorem RN.range{α σ τ:Type}{encs:α -> Array Value}{xs:List α}{gf:FuncId}{lb:Array Value}(eg:∀args w,(callFunc gf args).run P w=.ok (.enter gf args) w)
  (S:σ -> HL × List HL) (I:Nat -> σ -> Prop) (Ix:Code -> σ -> Prop) (W:τ -> Inv) (Ia:Nat -> α -> τ -> Prop) (x0:σ) (h0:I 0 x0) (ip jp:List Nat)
  (hit:It P gf lb (ap (fe ip s) (fR jp s)++F) encs xs)
  (w_:∀ (l i:Nat) (x:α) (s1:σ) (Y:HL) (w1:World),xs[i]?=some x -> I i s1 ->
   (∀ {s':Cfg} {R':HL} (t:τ) (XK XJ:List Nat),Ia i x t -> (hm:Dh s'=some (MV N [] (Y++(ap (fe ip s) (fR jp s)++F)) w1 W (Ia i x)):=by kernel_rfl) -> (h:uN (W t) XK XJ s'=nJ (W t):=by kernel_rfl) -> (hp:bZ XK XJ s'=true:=by kernel_rfl) -> RN (some l) P N [] (Y++(ap (fe ip s) (fR jp s)++F)) w1 R' s' (λ _ _ _=>False)) ->
   RN (some l) P N [] (Y++(ap (fe ip s) (fR jp s)++F)) w1 (fe ip s++R) (Ps (MV N [] (Y++(ap (fe ip s) (fR jp s)++F)) w1 W (Ia i x)) (encs x).toList (S s1).1 (S s1).2 s) (λ _ _ _=>False))
  (Sj:∀ (l i:Nat) (x:α) (t:τ) (Y:HL) (w1:World),xs[i]?=some x -> Ia i x t -> RN (some l) P N [] (Y++(ap (fe ip s) (fR jp s)++F)) w1 (fe ip s++R) (Pt (W t) s) (RQ (Y++(ap (fe ip s) (fR jp s)++F)) w1 (λ s=>ap (S s).1 (S s).2) (I (i+1)) Ix))
  (Si:∀ (d:Nat) (s1:σ),I xs.length s1 -> RN none P N (coll d::D) F w0 R (Pu (.ex .normal) d ip jp (S s1).1 (S s1).2 s) Q)
  (O_:∀ (d:Nat) (c:Code) (s1:σ),Ix c s1 -> RN none P N (coll d::D) F w0 R (Pu (.code c) d ip jp (S s1).1 (S s1).2 s) Q)
  (U2:Kw N s=true:=by kernel_rfl) (hp:bZ ip jp s=true:=by kernel_rfl) (hH:picks ip jp s=((S x0).1,(S x0).2):=by kernel_rfl) (hG:(mr s).map (·.1)=some (.func (.func gf) #[] lb):=by kernel_rfl) (AS:∀x:α,(mr s).map (·.2)=some (encs x).size:=by intro x;kernel_rfl):RN none P N D F w0 R s Q:=by
 refine⟨λ hR=>?_⟩;obtain⟨c,k,L,A,Ts⟩:=s;unfold bZ at hp;unfold picks at hH;rw[aa0] at hp;simp only[Prod.mk.injEq] at hH;cases c with
 | ops _ _=>simp[mr] at hG
 | ex _=>simp[mr] at hG
 | drw _ _=>simp[mr] at hG
 | code c =>
 cases c with
 | rangeFunc g ps assign body =>
  have hi:gh L g=true:=by
   cases h:gh L g with
   | true=>rfl
   | false=>simp[mr,h] at hG
  simp only[mr,hi,Option.map_some,Option.some.injEq] at hG AS;simp only[Kw] at U2;have X4:∀ (Y:HL),∀y∈fe ip ⟨.code (.rangeFunc g ps assign body),k,L,A,Ts⟩++R,y∈Y++(ap (fe ip ⟨.code (.rangeFunc g ps assign body),k,L,A,Ts⟩) (fR jp ⟨.code (.rangeFunc g ps assign body),k,L,A,Ts⟩)++F):=by
   intro Y y hy;rcases List.mem_append.1 hy with hy|hy
   ·exact aay _ (aaA _ (aaA _ hy))
   ·exact aay _ (aay _ (hR y hy))
  exact Df (assign:=assign) (body:=body) hi hG eg (λ s=>(S s).1) (λ s=>(S s).2) I Ix (λ t=>(W t).L) (λ t=>ap (W t).A (W t).Ts) Ia (λ x=>(AS x).symm) U2 x0 h0 ip (oth ip A.length) jp (oth jp Ts.length) hp.1 hp.2 _ _ rfl rfl hH.1 hH.2 hit
   (λ l i x s1 Y w1 hx hi=>(w_ l i x s1 Y w1 hx hi (λ t XK XJ ht hm h hp=>ql t XK XJ ht hm h hp)).h (X4 Y))
   (λ l i x t Y w1 hx ht=>(Sj l i x t Y w1 hx ht).h (X4 Y))
   (λ d s1 hs=>(Si d s1 hs).h hR) (λ d c s1 hs=>(O_ d c s1 hs).h hR)
 | _=>simp[mr] at hG
theorem Sp.runM{f:FuncId}{fn:Func}{c:Code}{args:Array Value}{H:HL}{R':Value -> HL -> Prop}(hf:P.funcs[f]?=some fn)(hb:fn.body=some c)(hR:∀y∈R,y∈F){A:HL}{Ts:List HL}(hH:H=ap A Ts)
  (h:∀w0,RN none P fn.ntmps [] F w0 R ⟨.code c,[],qE 0 args.toList,A,Ts⟩ (bodyPostM (Wr none) 0 P fn (BJ F w0 R'))) (ha:decide (args.size <= fn.ntmps)=true:=by kernel_rfl):Sp P f args H F R':=by
 subst hH;exact wA hf hb rfl ha _ rfl λ w0=>(h w0).h hR
def kO(dx:List Nat)(s:Cfg):Cfg:=match s with
 | ⟨c,k,L,A,Ts⟩=>⟨c,k,L,(oth dx A.length).filterMap (A[·]?),Ts⟩
theorem F6{fn:Func}{R':Value -> HL -> Prop}(ds dx:List Nat)(hints:List Hint)(Ob:List Prop)(iN:AllP Ob)(ip jp:List Nat){v:Value}{H':HL}(hv:R' v H')
  (hD:D=ds.map coll:=by rfl) (hc:mS s=true:=by kernel_rfl) (hd:((dx++oth dx s.A.length).isPerm (List.range s.A.length),dx.filterMap (s.A[·]?))=(true,ds.map cw):=by kernel_rfl)
  (h:∀n0,jS P n0 fn.results.toList R hints (kO dx s)=some (v,nH (jS P 0 fn.results.toList R hints (kO dx s)),nH (jS P 0 fn.results.toList R hints (kO dx s)),Ob):=by intro n0;kernel_rfl)
  (hp:bZ ip jp (kO dx s)=true:=by kernel_rfl) (hH:ap (picks ip jp (kO dx s)).1 (picks ip jp (kO dx s)).2=H':=by kernel_rfl):RN none P N D F w0 R s (bodyPostM (Wr none) 0 P fn (BJ F w0 R')):=by
 unfold bZ at hp;unfold picks at hH;simp only[Prod.mk.injEq] at hd;rw[aa0] at hp;obtain⟨c,k,L,A,Ts⟩:=s;refine⟨λ hR a w hF aT hB=>?_⟩;have key:LeavesInM (Wr none) 0 P fn a.tmps (BJ F w0 R') a.defers .returning w:=by
  exact Go.Proofs.YtdppjkjbghbnjaaGreatDoor.retM (by simp) ds hD dx (oth dx A.length) R hints v _ Ob hd.1 hd.2 rfl h hR iN ip _ jp _ H' hp.1 hp.2 hH hv a w hF aT hB
 exact oH hc key key
theorem RN.retM{fn:Func}{R':Value -> HL -> Prop}(ds dx:List Nat)(hints:List Hint)(ip jp:List Nat){v:Value}{H':HL}(hv:R' v H')
 (hD:D=ds.map coll:=by rfl) (hc:mS s=true:=by kernel_rfl) (hd:((dx++oth dx s.A.length).isPerm (List.range s.A.length),dx.filterMap (s.A[·]?))=(true,ds.map cw):=by kernel_rfl)
 (h:∀n0,jS P n0 fn.results.toList R hints (kO dx s)=some (v,nH (jS P 0 fn.results.toList R hints (kO dx s)),nH (jS P 0 fn.results.toList R hints (kO dx s)),[]):=by intro n0;kernel_rfl)
 (hp:bZ ip jp (kO dx s)=true:=by kernel_rfl) (hH:ap (picks ip jp (kO dx s)).1 (picks ip jp (kO dx s)).2=H':=by kernel_rfl):RN none P N D F w0 R s (bodyPostM (Wr none) 0 P fn (BJ F w0 R')):=F6 ds dx hints [] trivial ip jp hv hD hc hd h hp hH
end
def SpD(P:Program)(f:FuncId)(args:Array Value)(H F:HL)(R:Value -> HL -> Prop):Prop :=
 ∀w,Rel (H++F) w -> CallsDIn (Wr none) 0 P f args .returning w λ e u' w'=>u'=.returning /\ ∃v H',e=.returned v /\ R v H' /\ Rel (H'++F) w' /\ Below 0 w w'
theorem SpD.mono{P:Program}{f:FuncId}{args:Array Value}{H F:HL}{R R':Value -> HL -> Prop}(h:SpD P f args H F R)(hr:∀v H',R v H' -> R' v H'):SpD P f args H F R' :=
 λ w hR=>(h w hR).mono λ e u' w' ⟨h0,v,H',h1,h2,h3,h4⟩=>⟨h0,v,H',h1,hr _ _ h2,h3,h4⟩
section
variable {r:Option Nat} {P:Program} {N:Nat} {D:List Deferred} {F:HL} {w0:World} {R:HL} {s:Cfg} {Q:Exit -> Act -> World -> Prop}
def dfR(N:Nat)(s:Cfg):Option (FuncId × Array Value × Array Value):=match gi s with
 | some o=>match o.guard,o.op,(eh N o.dst undef s.L).isSome with
  | none,.defer c,true=>match c.callee with
   | .value f=>match gh s.L f && c.args.toList.all (gh s.L) with
    | true=>match eZ s.L f with
     | .func (.func g) first cap=>some (g,first++c.args.map (eZ s.L),cap)
     | _=>none
    | false=>none
   | _=>none
  | _,_,_=>none
 | none=>none
abbrev Pv(g:FuncId)(args cap:Array Value):Deferred:={ target:=.fn (.func g) cap,args:=args }
theorem BP{L:FL}{a:Act}(hF:Fm N D L a):∀ (l:List Operand),l.all (gh L)=true -> l.map a.eval=l.map (eZ L)
 | [],_=>rfl
 | x::l,h=>by
  rw[List.all_cons,aa0] at h;rw[List.map_cons,List.map_cons,hF.eval h.1,BP hF l h.2]
theorem Pw{g:FuncId}{args cap:Array Value}(hk:RN none P N (Pv g args cap::D) F w0 R (dP N undef s) Q)(h:dfR N s=some (g,args,cap):=by kernel_rfl):RN none P N D F w0 R s Q:=by
 refine⟨λ hR a w hF aT hB=>?_⟩;obtain⟨cc,kk,L,A,Ts⟩:=s;unfold dfR at h;split at h
 case h_2=>cases h
 rename_i o q0;split at h
 case h_2=>cases h
 rename_i c q1 q2 q3;split at h
 case h_2=>cases h
 rename_i f q4;split at h
 case h_2=>cases h
 rename_i q5;split at h
 case h_2=>cases h
 rename_i g' first f_ q6
 simp only[Option.some.injEq,Prod.mk.injEq] at h;obtain⟨e1,e2,e3⟩:=h;subst e1;subst e2;subst e3;unfold gi at q0;cases cc with
 | code c=>cases q0
 | ex c=>cases q0
 | drw _ _=>cases q0
 | ops ops j =>
  simp only at q0 q3 q5 q6 hF aT;have j_:ops.toList.drop j=o::ops.toList.drop (j+1):=by
   have iF:j<ops.toList.length:=(List.getElem?_eq_some_iff.1 q0).1;rw[List.drop_eq_getElem_cons iF,(List.getElem?_eq_some_iff.1 q0).2]
  show wpListIn _ _ _ _ _ _ _ _;rw[j_,wpListIn,if_pos (by simp[Region.wanted,q1])];refine⟨λ _ _=>trivial,?_⟩;rw[aa0] at q5;obtain⟨L',hl⟩:=cO q3 undef;have Sh:dP N undef ⟨.ops ops j,kk,L,A,Ts⟩=⟨.ops ops (j+1),kk,L',A,Ts⟩:=by
   unfold dP;simp only[q0,hl]
  have hh:=hk.h hR;rw[Sh] at hh;have VK:c.args.map a.eval=c.args.map (eZ L):=by
   apply Array.ext';rw[Array.toList_map,Array.toList_map];exact BP hF _ q5.2
  have e1:a.eval f=.func (.func g') first f_:=(hF.eval q5.1).trans q6
  have hex:(o.semAt (Wr none).round a.eval).run P w=.ok (.defer (Pv g' (first++c.args.map (eZ L)) f_)) w:=by
   show (Oper.semAt none a.eval o).run P w=_;rw[Oper.semAt_none];simp only[execOp,q2,resolve,q4,e1,Deferred.ofValue,aa4,VK];rfl
  rw[hex,Oper.uponIn_defer];have Yi:Fm N (Pv g' (first++c.args.map (eZ L)) f_::D) L { a with defers:=Pv g' (first++c.args.map (eZ L)) f_::a.defers }:=⟨hF.size,by rw[<- hF.defs],hF.has⟩;exact hh _ w (Yi.put hl) aT hB
structure LV(P:Program)(N:Nat)(D:List Deferred)(F:HL)(w0:World)(R:HL)(fn:Func)(R':Value -> HL -> Prop)(s:Cfg):Prop where
 h:(∀y∈R,y∈F) -> ∀a w,Fm N D s.L a -> Rel (ap s.A s.Ts++F) w -> Below 0 w0 w -> LeavesInM (Wr none) 0 P fn a.tmps (BJ F w0 R') a.defers .returning w
theorem Px{fn:Func}{R':Value -> HL -> Prop}(hk:LV P N D F w0 R fn R' s)(hc:mS s=true:=by kernel_rfl):RN none P N D F w0 R s (bodyPostM (Wr none) 0 P fn (BJ F w0 R')):=by
 refine⟨λ hR a w hF aT hB=>?_⟩;have key:=hk.h hR a w hF aT hB;exact oH hc key key
def Py(ip jp:List Nat)(Hq:HL)(Tq:List HL)(s:Cfg):Cfg:=wC (λ A=>Hq++(oth ip A.length).filterMap (A[·]?)) (λ Ts=>Tq++(oth jp Ts.length).filterMap (Ts[·]?)) s
theorem Pz{τ:Type}{fn:Func}{R':Value -> HL -> Prop}{g:FuncId}{args cap:Array Value}(eg:∀args w,(callFunc g args).run P w=.ok (.enter g args) w)(ip jp:List Nat){Hp:HL}{Tp:List HL}{Hq:τ -> HL}{Tq:τ -> List HL}{Rv:Value -> τ -> Prop}
  (hc:SpD P g (args++cap) (ap Hp Tp) (ap (fe ip s) (fR jp s)++F) (λ v H'=>∃x,H'=ap (Hq x) (Tq x) /\ Rv v x)) (hk:∀v x,Rv v x -> LV P N D F w0 R fn R' (Py ip jp (Hq x) (Tq x) s))
  (hp:bZ ip jp s=true:=by kernel_rfl) (hH:picks ip jp s=(Hp,Tp):=by kernel_rfl):LV P N (Pv g args cap::D) F w0 R fn R' s:=by
 unfold bZ at hp;unfold picks at hH;rw[aa0] at hp;simp only[Prod.mk.injEq] at hH;obtain⟨e1,e2⟩:=hH;refine⟨λ hR a w hF aT hB=>?_⟩;have oF:(ap Hp Tp++ap (fe ip s) (fR jp s)).Perm (ap s.A s.Ts):=by
  have h1:=lM s.A s.Ts ip (oth ip s.A.length) jp (oth jp s.Ts.length) hp.1 hp.2;rw[e1,e2] at h1;exact h1
 have X5:Rel (ap Hp Tp++(ap (fe ip s) (fR jp s)++F)) w:=by rw[<- aaH];exact aT.perm (oF.append_right F)
 rw[hF.defs];refine⟨by simp,.inr ⟨(λ h=>by cases h),.func g,cap,g,args++cap,rfl,?_,λ _ _=>trivial,?_⟩⟩
 ·show (callFunc g (args++cap)).run P w=_;exact eg _ _
 ·refine(hc w X5).mono ?_;rintro e u' w' ⟨rfl,v,H',rfl,⟨x,rfl,hv⟩,TE,Vy⟩;have:=(hk v x hv).h hR { a with defers:=D } w' ⟨hF.size,rfl,hF.has⟩ ?_ (hB.trans Vy)
  ·exact this
  ·unfold Py;rw[qj.1,qj.2.1];refine TE.perm ?_;exact(uJ _ _ _ _ _).symm
theorem Kx{fn:Func}{R':Value -> HL -> Prop}(hints:List Hint)(Ob:List Prop)(iN:AllP Ob)(ip jp:List Nat){v:Value}{H':HL}(hv:R' v H')
  (h:∀n0,jS P n0 fn.results.toList R hints s=some (v,nH (jS P n0 fn.results.toList R hints s),nH (jS P n0 fn.results.toList R hints s),Ob):=by intro n0;kernel_rfl)
  (hp:bZ ip jp s=true:=by kernel_rfl) (hH:ap (picks ip jp s).1 (picks ip jp s).2=H':=by kernel_rfl):LV P N [] F w0 R fn R' s:=by
 unfold bZ at hp;unfold picks at hH;refine⟨λ hR a w hF aT hB=>?_⟩;rw[aa0] at hp;have h':=h w.heap.size;unfold jS zA at h';split at h'
 case h_2=>cases h'
 rename_i vs ss hs;split at h'
 case h_2=>cases h'
 simp only[nH,Option.some.injEq,Prod.mk.injEq] at h';obtain⟨e1,-,e3,e4⟩:=h';have iD:=jR (P:=P) hF aT fn.results.toList _ _ _ hs rfl rfl hR (λ e=>by cases e) (fU rfl e3) (by rw[e4];exact AllP.mem iN);subst e1;rw[hF.defs];exact⟨_,jm (by simp) iD,_,H',rfl,hv,aT.takeT ip _ jp _ hp.1 hp.2 hH,hB⟩
theorem LV.ret{fn:Func}{R':Value -> HL -> Prop}(hints:List Hint)(ip jp:List Nat){v:Value}{H':HL}(hv:R' v H')
 (h:∀n0,jS P n0 fn.results.toList R hints s=some (v,nH (jS P n0 fn.results.toList R hints s),nH (jS P n0 fn.results.toList R hints s),[]):=by intro n0;kernel_rfl)
 (hp:bZ ip jp s=true:=by kernel_rfl) (hH:ap (picks ip jp s).1 (picks ip jp s).2=H':=by kernel_rfl):LV P N [] F w0 R fn R' s:=Kx hints [] trivial ip jp hv h hp hH
end
def Q2(P:Program)(g:FuncId)(lb:Array Value)(own:HL)(F:HL){α:Type}(encs:α -> Array Value)(xs:List α)(Te Tx:HL -> Prop):Prop :=
 ∀ (X:HL) (l:Nat) (J:Nat -> HL -> Prop) (Jx:HL -> Prop) (H0:HL),(∀i x H Y,xs[i]?=some x -> J i H -> YL P l (encs x) H (Y++(X++F)) (λ b H'=>(b=true /\ J (i+1) H') \/ (b=false /\ Jx H'))) -> J 0 H0 ->
  Sp P g (#[.func (.yield l) #[] #[]]++lb) (H0++own) (X++F) (λ _ H'=>∃H1 T1,H'=H1++T1 /\ ((J xs.length H1 /\ Te T1) \/ (Jx H1 /\ Tx T1)))
section
variable {P:Program} {N:Nat} {D:List Deferred} {F:HL} {w0:World} {L:FL} {Q:Exit -> Act -> World -> Prop}
theorem Dp{α σ τ:Type}{g:Operand}{ps:Array Tmp}{assign body:Code}{encs:α -> Array Value}{xs:List α}{gf:FuncId}{lb:Array Value}(hi:gh L g=true)(hg:eZ L g=.func (.func gf) #[] lb)(eg:∀args w,(callFunc gf args).run P w=.ok (.enter gf args) w)
  (Hx:σ -> HL) (I:Nat -> σ -> Prop) (Ix:Code -> σ -> Prop) (La:τ -> FL) (Ha:τ -> HL) (Ia:Nat -> α -> τ -> Prop) (Zy:∀x,(encs x).size=ps.size) (U2:(ps.toList.all λ p=>decide (p<N))=true)
  (x0:σ) (h0:I 0 x0) {A:HL} {Ts:List HL} (ip ir jp jr:List Nat) (hp:(ip++ir).isPerm (List.range A.length)=true) (hj:(jp++jr).isPerm (List.range Ts.length)=true) (Hr:HL) (Tr:List HL) (hHr:ir.filterMap (A[·]?)=Hr) (own:HL) {Te Tx:HL -> Prop} (Z2:jr.filterMap (Ts[·]?)=own::Tr) (hH:ap (ip.filterMap (A[·]?)) (jp.filterMap (Ts[·]?))=Hx x0)
  (hit:Q2 P gf lb own (ap Hr Tr++F) encs xs Te Tx)
  (w_:∀ (l i:Nat) (x:α) (s:σ) (Y:HL) (w1:World),xs[i]?=some x -> I i s -> TR (some l) P N [] (Y++(ap Hr Tr++F)) w1 (pV ps.toList (encs x).toList L) (Hx s) assign (Exit.then (Nc N [] (Y++(ap Hr Tr++F)) w1 La Ha (Ia i x)) (λ _ _ _=>False)))
  (Sj:∀ (l i:Nat) (x:α) (t:τ) (Y:HL) (w1:World),xs[i]?=some x -> Ia i x t -> TR (some l) P N [] (Y++(ap Hr Tr++F)) w1 (La t) (Ha t) body (RQ (Y++(ap Hr Tr++F)) w1 Hx (I (i+1)) Ix))
  (Si:∀ (d:Nat) (s:σ) (T1:HL),I xs.length s -> Te T1 -> EX N (coll d::D) F w0 L (cw d::(Hx s++ap Hr (T1::Tr))) Q .normal)
  (O_:∀ (d:Nat) (c:Code) (s:σ) (T1:HL),Ix c s -> Tx T1 -> TR none P N (coll d::D) F w0 L (cw d::(Hx s++ap Hr (T1::Tr))) c Q) :
  TR none P N D F w0 L (ap A Ts) (.rangeFunc g ps assign body) Q:=by
 intro a w hF hR hB;have hpo:∀ (X:HL) (T1:HL),((X++T1)++(ap Hr Tr++F)).Perm (X++(ap Hr (T1::Tr)++F)):=λ X T1=>by
  rw[aaH];refine List.Perm.append_left X ?_;rw[<- aaH];refine aaX F ?_;show (T1++(Hr++Tr.flatten)).Perm (Hr++(T1::Tr).flatten);rw[aa2,<- aaH,<- aaH];exact aaX _ aaW
 have X5:Rel ((Hx x0++own)++(ap Hr Tr++F)) w:=by
  have h1:=lM A Ts ip ir jp jr hp hj;rw[hHr,Z2,hH] at h1;have h2:=hR.perm (h1.append_right F);rw[aaH] at h2;exact h2.perm (hpo _ _)
 refine wpIn_rangeFunc ?_;intro fn ZM;obtain⟨rec,RW⟩:∃rec:LoopState -> Option Code -> Loop,rec=λ st pe=>{ state:=st,pending:=pe,fn,tmps:=a.tmps,params:=ps,assign,body,defers:=w.heap.size }:=⟨_,rfl⟩;obtain⟨W1,Z1⟩:∃W1,(w.alloc (.deferred (some []))).alloc (.loop (rec .ready none))=W1:=⟨_,rfl⟩;have hB1:Below 0 w W1:=by rw[<- Z1];exact(iz _).trans (iz _)
 have Z4:Rel ((w.heap.size+1,Blk.obj (.loop (rec .ready none)))::cw w.heap.size::((Hx x0++own)++(ap Hr Tr++F))) W1:=by
  rw[<- Z1];have h1:=(X5.alloc (.obj (.deferred (some [])))).alloc (.obj (.loop (rec .ready none)));rw[World.size_alloc] at h1;exact h1
 refine⟨w.heap.size+1,[coll w.heap.size],W1,{ target:=.fn (.func gf) lb,args:=#[.func (.yield (w.heap.size+1)) #[] #[]] },W1,gf,#[.func (.yield (w.heap.size+1)) #[] #[]]++lb,W1,?_,?_,?_,?_,λ h=>(by cases h),?_⟩
 ·rw[<- Z1,RW];exact run_enterLoop_outer _ _ _ _ _
 ·have UE:a.eval g=.func (.func gf) #[] lb:=(hF.eval hi).trans hg;simp only[resolve,UE];simp[Deferred.ofValue];rfl
 ·intro f' _;trivial
 ·simp[invoke,eg]
 ·refine jQ ?_;obtain⟨l,hl⟩:∃l,w.heap.size+1=l:=⟨_,rfl⟩;rw[hl] at Z4 ⊢;obtain⟨d,hd⟩:∃d,w.heap.size=d:=⟨_,rfl⟩;rw[hd] at Z4 RW ⊢;have key:=hit [] l (λ i H'=>∃s,I i s /\ H'=(l,Blk.obj (.loop (rec .ready none)))::cw d::Hx s) (λ H'=>∃c s,Ix c s /\ H'=(l,Blk.obj (.loop (rec .done (some c))))::cw d::Hx s)
   ((l,Blk.obj (.loop (rec .ready none)))::cw d::Hx x0) ?round ⟨x0,h0,rfl⟩ W1 Z4
  case round =>
   rintro i x H' Y hx ⟨s,hs,rfl⟩ W aT;have SF:Rel ((l,Blk.obj (.loop (rec .ready none)))::(cw d::(Hx s++(Y++(ap Hr Tr++F))))) W:=aT;have hlW:W.heap[l]?=some (.loop (rec .ready none)):=SF.holds _ aaB;have hy:=run_yield (P:=P) (args:=encs x) hlW (by rw[RW];exact Zy x);rw[RW] at hy;refine⟨fn,_,assign,body,hy,roundIn_of_wpIn (F:=Wr none) (n:=0) ZM ?_⟩;have hFm:Fm N [] (pV ps.toList (encs x).toList L) { tmps:=(ps.zip (encs x)).foldl (λ t (p,v)=>t.setIfInBounds p v) a.tmps,defers:=[] }:=by
    have h1:=Fm.zip (D:=[]) ps.toList (encs x).toList L a.tmps (λ p hp=>aa5 (List.all_eq_true.1 U2 p hp)) ⟨hF.size,rfl,hF.has⟩;have e:(ps.zip (encs x)).foldl (λ t (p,v)=>t.setIfInBounds p v) a.tmps=(ps.toList.zip (encs x).toList).foldl (λ t (p,v)=>t.setIfInBounds p v) a.tmps:=by
     rw[<- Array.foldl_toList,Array.toList_zip]
    rw[e];exact h1
   have hRA:Rel (Hx s++(((l,Blk.obj (.loop (rec .ready none)))::cw d::Y)++(ap Hr Tr++F))) W:=by
    have:=SF;refine this.perm ?_;simp only[List.cons_append];refine List.perm_middle.trans ?_;refine List.Perm.cons _ ?_;exact List.perm_middle
   refine wpIn_mono (w_ l i x s ((l,Blk.obj (.loop (rec .ready none)))::cw d::Y) W hx hs _ W hFm hRA (Below.refl _ _)) ?_;intro e a1 Wa hq;cases e with
   | normal =>
    obtain⟨t,ht,m1,m2,m3⟩:=hq;have hRb:Rel ((l,Blk.obj (.loop (rec .ready none)))::(cw d::(Ha t++(Y++(ap Hr Tr++F))))) Wa:=by
     refine m2.perm ?_;simp only[List.cons_append];refine(List.Perm.trans ?_ List.perm_middle.symm);refine List.Perm.cons _ ?_;exact List.perm_middle.symm
    have hla:Wa.heap[l]?=some (.loop (rec .ready none)):=hRb.holds _ aaB;refine⟨_,run_beginRound hla (by rw[RW]),?_⟩;have hRc:=hRb.putObj (F:=[]) (.obj (.loop { rec .ready none with state:=.busy }));have TP:Rel (Ha t++(((l,Blk.obj (.loop { rec .ready none with state:=.busy }))::cw d::Y)++(ap Hr Tr++F))) (Wa.putObj l (.loop { rec .ready none with state:=.busy })):=by
     refine hRc.perm ?_;simp only[List.cons_append];refine List.perm_middle.trans ?_;refine List.Perm.cons _ ?_;exact List.perm_middle
    refine wpIn_mono (Sj l i x t ((l,Blk.obj (.loop { rec .ready none with state:=.busy }))::cw d::Y) W hx ht a1 _ m1 TP (m3.trans (dU _ _))) ?_;have fin:∀ (jump:Option Code) (s':σ) (W3:World),Rel (Hx s'++(((l,Blk.obj (.loop { rec .ready none with state:=.busy }))::cw d::Y)++(ap Hr Tr++F))) W3 -> Below 0 W W3 ->
      ∃v w',(Instr.endRound l jump).run P W3=.ok v w' /\ v=.bool jump.isNone /\ Rel (((l,Blk.obj (.loop (rec (if jump.isNone then .ready else .done) jump)))::cw d::Hx s')++(Y++([]++(ap Hr Tr++F)))) w' /\ Below 0 W w':=by
     intro jump s' W3 h3 hb3;have h4:Rel ((l,Blk.obj (.loop { rec .ready none with state:=.busy }))::(cw d::(Hx s'++(Y++(ap Hr Tr++F))))) W3:=by
      refine h3.perm ?_;simp only[List.cons_append];refine(List.Perm.trans ?_ List.perm_middle.symm);refine List.Perm.cons _ ?_;exact List.perm_middle.symm
     have VX:W3.heap[l]?=some (.loop { rec .ready none with state:=.busy }):=h4.holds _ aaB;have iD:=run_endRound (P:=P) jump VX;refine⟨_,_,iD,rfl,?_,hb3.trans (dU _ _)⟩;have h5:=h4.putObj (F:=[]) (.obj (.loop (rec (if jump.isNone then .ready else .done) jump)));rw[RW] at h5 ⊢;exact h5
    intro e2 a2 W3 R_;cases e2 with
    | normal =>
     obtain⟨s',Q_,n2,n3⟩:=R_;obtain⟨v,w',k1,k2,k3,k4⟩:=fin none s' W3 n2 n3;exact⟨v,w',k1,true,_,by rw[k2];rfl,.inl ⟨rfl,s',Q_,rfl⟩,k3,k4⟩
    | ret =>
     obtain⟨s',Q_,n2,n3⟩:=R_;obtain⟨v,w',k1,k2,k3,k4⟩:=fin (some .ret) s' W3 n2 n3;exact⟨v,w',k1,false,_,by rw[k2];rfl,.inr ⟨rfl,.ret,s',Q_,rfl⟩,k3,k4⟩
    | exit id =>
     obtain⟨s',Q_,n2,n3⟩:=R_;obtain⟨v,w',k1,k2,k3,k4⟩:=fin (some (.exit id)) s' W3 n2 n3;exact⟨v,w',k1,false,_,by rw[k2];rfl,.inr ⟨rfl,.exit id,s',Q_,rfl⟩,k3,k4⟩
    | goto t=>exact R_.elim
    | panic ch=>exact R_.elim
    | outgrown=>exact R_.elim
   | exit id=>exact hq.elim
   | goto t=>exact hq.elim
   | ret=>exact hq.elim
   | panic ch=>exact hq.elim
   | outgrown=>exact hq.elim
  refine key.mono ?_;rintro e W2 ⟨v,H',rfl,hor,TE,Vy⟩;have fin:∀ (st:LoopState) (pe:Option Code) (s:σ) (T1:HL) (n_:st ≠ .busy),Rel ((((l,Blk.obj (.loop (rec st pe)))::cw d::Hx s)++T1)++([]++(ap Hr Tr++F))) W2 ->
    ∃w4,(Instr.endLoop l).run P W2=.ok pe w4 /\ Rel ((cw d::(Hx s++ap Hr (T1::Tr)))++F) w4 /\ Below 0 W1 w4:=by
   intro st pe s T1 n_ h4;have h5:Rel ((l,Blk.obj (.loop (rec st pe)))::(cw d::(Hx s++(ap Hr (T1::Tr)++F)))) W2:=h4.perm (((hpo (Hx s) T1).symm.cons _).cons _);have SC:W2.heap[l]?=some (.loop (rec st pe)):=h5.holds _ aaB;have iD:=run_endLoop (P:=P) SC (by rw[RW];exact n_);refine⟨W2.putObj l (.loop { rec st pe with state:=.exhausted }),?_,?_,Vy.trans (dU _ _)⟩
   ·rw[iD,RW]
   ·have h6:=h5.putObj (F:=[]) (.obj (.loop { rec st pe with state:=.exhausted }));have h7:=Rel.drop (X:=[(l,Blk.obj (.loop { rec st pe with state:=.exhausted }))]) (H:=cw d::(Hx s++(ap Hr (T1::Tr)++F))) h6;rw[<- aaH] at h7;exact h7
  have hFd:Fm N (coll d::D) L { a with defers:=[coll d]++a.defers }:=⟨hF.size,by rw[hF.defs];rfl,hF.has⟩;rcases hor with ⟨H1,T1,rfl,⟨⟨s,hs,rfl⟩,hT⟩|⟨⟨c,s,hs,rfl⟩,hT⟩⟩
  ·obtain⟨w4,k1,k2,k3⟩:=fin .ready none s T1 (by simp) TE;exact⟨none,w4,k1,Si d s T1 hs hT _ w4 hFd k2 (hB.trans (hB1.trans k3))⟩
  ·obtain⟨w4,k1,k2,k3⟩:=fin .done (some c) s T1 (by simp) TE;exact⟨some c,w4,k1,O_ d c s T1 hs hT _ w4 hFd k2 (hB.trans (hB1.trans k3))⟩
theorem zK{α σ τ:Type}{g:Operand}{ps:Array Tmp}{assign body:Code}{encs:α -> Array Value}{xs:List α}{gf:FuncId}{lb:Array Value}(hi:gh L g=true)(hg:eZ L g=.func (.func gf) #[] lb)(eg:∀args w,(callFunc gf args).run P w=.ok (.enter gf args) w)
  (Ax:σ -> HL) (Tx:σ -> List HL) (I:Nat -> σ -> Prop) (Ix:Code -> σ -> Prop) (La:τ -> FL) (Ha:τ -> HL) (Ia:Nat -> α -> τ -> Prop) (Zy:∀x,(encs x).size=ps.size) (U2:(ps.toList.all λ p=>decide (p<N))=true)
  (x0:σ) (h0:I 0 x0) {A:HL} {Ts:List HL} (ip ir jp jr:List Nat) (hp:(ip++ir).isPerm (List.range A.length)=true) (hj:(jp++jr).isPerm (List.range Ts.length)=true) (Hr:HL) (Tr:List HL) (hHr:ir.filterMap (A[·]?)=Hr) (own:HL) {Te Tx':HL -> Prop} (Z2:jr.filterMap (Ts[·]?)=own::Tr) (hA:ip.filterMap (A[·]?)=Ax x0) (hT:jp.filterMap (Ts[·]?)=Tx x0)
  (hit:Q2 P gf lb own (ap Hr Tr++F) encs xs Te Tx')
  (w_:∀ (l i:Nat) (x:α) (s:σ) (Y:HL) (w1:World),xs[i]?=some x -> I i s -> TR (some l) P N [] (Y++(ap Hr Tr++F)) w1 (pV ps.toList (encs x).toList L) (ap (Ax s) (Tx s)) assign (Exit.then (Nc N [] (Y++(ap Hr Tr++F)) w1 La Ha (Ia i x)) (λ _ _ _=>False)))
  (Sj:∀ (l i:Nat) (x:α) (t:τ) (Y:HL) (w1:World),xs[i]?=some x -> Ia i x t -> TR (some l) P N [] (Y++(ap Hr Tr++F)) w1 (La t) (Ha t) body (RQ (Y++(ap Hr Tr++F)) w1 (λ s=>ap (Ax s) (Tx s)) (I (i+1)) Ix))
  (Si:∀ (d:Nat) (s:σ) (T1:HL),I xs.length s -> Te T1 -> EX N (coll d::D) F w0 L (ap (cw d::(Ax s++Hr)) (Tx s++T1::Tr)) Q .normal)
  (O_:∀ (d:Nat) (c:Code) (s:σ) (T1:HL),Ix c s -> Tx' T1 -> TR none P N (coll d::D) F w0 L (ap (cw d::(Ax s++Hr)) (Tx s++T1::Tr)) c Q) :
  TR none P N D F w0 L (ap A Ts) (.rangeFunc g ps assign body) Q:=by
 have hpm:∀ (d:Nat) (s:σ) (Tr:List HL),(ap (cw d::(Ax s++Hr)) (Tx s++Tr)).Perm (cw d::(ap (Ax s) (Tx s)++ap Hr Tr)):=λ d s Tr=>by
  show (cw d::((Ax s++Hr)++(Tx s++Tr).flatten)).Perm _;refine List.Perm.cons _ ?_;rw[List.flatten_append];show ((Ax s++Hr)++((Tx s).flatten++Tr.flatten)).Perm ((Ax s++(Tx s).flatten)++(Hr++Tr.flatten));rw[aaH,aaH];refine List.Perm.append_left _ ?_;rw[<- aaH,<- aaH];exact aaX _ aaW
 exact Dp hi hg eg (λ s=>ap (Ax s) (Tx s)) I Ix La Ha Ia Zy U2 x0 h0 ip ir jp jr hp hj Hr Tr hHr own Z2 (by rw[hA,hT]) hit w_ Sj
  (λ d s T1 hs hT a w h1 h2 h3=>Si d s T1 hs hT a w h1 (h2.perm ((hpm d s _).append_right F)) h3) (λ d c s T1 hs hT a w h1 h2 h3=>O_ d c s T1 hs hT a w h1 (h2.perm ((hpm d s _).append_right F)) h3)
end
section
variable {P:Program} {N:Nat} {D:List Deferred} {F:HL} {w0:World} {R:HL} {s:Cfg} {Q:Exit -> Act -> World -> Prop}
def PA(c:Fo)(d:Nat)(ip jp:List Nat)(A:HL)(Ts:List HL)(T1:HL)(s:Cfg):Cfg:=match s with
 | ⟨_,k,L,A',Va⟩=>⟨c,k,L,cw d::(A++(oth ip A'.length).filterMap (A'[·]?)),Ts++T1::((oth jp Va.length).filterMap (Va[·]?)).tail⟩
theorem Dq{α σ τ:Type}{encs:α -> Array Value}{xs:List α}{gf:FuncId}{lb:Array Value}(eg:∀args w,(callFunc gf args).run P w=.ok (.enter gf args) w)
  (S:σ -> HL × List HL) (I:Nat -> σ -> Prop) (Ix:Code -> σ -> Prop) (W:τ -> Inv) (Ia:Nat -> α -> τ -> Prop) (x0:σ) (h0:I 0 x0) (ip jp:List Nat)
  (own:HL) {Te Tx:HL -> Prop} (hit:Q2 P gf lb own (ap (fe ip s) (fR jp s).tail++F) encs xs Te Tx)
  (w_:∀ (l i:Nat) (x:α) (s1:σ) (Y:HL) (w1:World),xs[i]?=some x -> I i s1 ->
   (∀ {s':Cfg} {R':HL} (t:τ) (XK XJ:List Nat),Ia i x t -> (hm:Dh s'=some (MV N [] (Y++(ap (fe ip s) (fR jp s).tail++F)) w1 W (Ia i x)):=by kernel_rfl) -> (h:uN (W t) XK XJ s'=nJ (W t):=by kernel_rfl) -> (hp:bZ XK XJ s'=true:=by kernel_rfl) -> RN (some l) P N [] (Y++(ap (fe ip s) (fR jp s).tail++F)) w1 R' s' (λ _ _ _=>False)) ->
   RN (some l) P N [] (Y++(ap (fe ip s) (fR jp s).tail++F)) w1 (fe ip s++R) (Ps (MV N [] (Y++(ap (fe ip s) (fR jp s).tail++F)) w1 W (Ia i x)) (encs x).toList (S s1).1 (S s1).2 s) (λ _ _ _=>False))
  (Sj:∀ (l i:Nat) (x:α) (t:τ) (Y:HL) (w1:World),xs[i]?=some x -> Ia i x t -> RN (some l) P N [] (Y++(ap (fe ip s) (fR jp s).tail++F)) w1 (fe ip s++R) (Pt (W t) s) (RQ (Y++(ap (fe ip s) (fR jp s).tail++F)) w1 (λ s=>ap (S s).1 (S s).2) (I (i+1)) Ix))
  (Si:∀ (d:Nat) (s1:σ) (T1:HL),I xs.length s1 -> Te T1 -> RN none P N (coll d::D) F w0 R (PA (.ex .normal) d ip jp (S s1).1 (S s1).2 T1 s) Q)
  (O_:∀ (d:Nat) (c:Code) (s1:σ) (T1:HL),Ix c s1 -> Tx T1 -> RN none P N (coll d::D) F w0 R (PA (.code c) d ip jp (S s1).1 (S s1).2 T1 s) Q)
  (U2:Kw N s=true:=by kernel_rfl) (hp:bZ ip jp s=true:=by kernel_rfl) (hH:picks ip jp s=((S x0).1,(S x0).2):=by kernel_rfl) (ho:(fR jp s).head?=some own:=by kernel_rfl) (hG:(mr s).map (·.1)=some (.func (.func gf) #[] lb):=by kernel_rfl) (AS:∀x:α,(mr s).map (·.2)=some (encs x).size:=by intro x;kernel_rfl):RN none P N D F w0 R s Q:=by
 refine⟨λ hR=>?_⟩;obtain⟨c,k,L,A,Ts⟩:=s;unfold bZ at hp;unfold picks at hH;rw[aa0] at hp;simp only[Prod.mk.injEq] at hH;cases c with
 | ops _ _=>simp[mr] at hG
 | ex _=>simp[mr] at hG
 | drw _ _=>simp[mr] at hG
 | code c =>
 cases c with
 | rangeFunc g ps assign body =>
  have hi:gh L g=true:=by
   cases h:gh L g with
   | true=>rfl
   | false=>simp[mr,h] at hG
  simp only[mr,hi,Option.map_some,Option.some.injEq] at hG AS;simp only[Kw] at U2;have X4:∀ (Y:HL),∀y∈fe ip ⟨.code (.rangeFunc g ps assign body),k,L,A,Ts⟩++R,y∈Y++(ap (fe ip ⟨.code (.rangeFunc g ps assign body),k,L,A,Ts⟩) (fR jp ⟨.code (.rangeFunc g ps assign body),k,L,A,Ts⟩).tail++F):=by
   intro Y y hy;rcases List.mem_append.1 hy with hy|hy
   ·exact aay _ (aaA _ (aaA _ hy))
   ·exact aay _ (aay _ (hR y hy))
  have BY:(oth jp Ts.length).filterMap (Ts[·]?)=own::((oth jp Ts.length).filterMap (Ts[·]?)).tail:=by
   have h1:((oth jp Ts.length).filterMap (Ts[·]?)).head?=some own:=ho;generalize (oth jp Ts.length).filterMap (Ts[·]?)=l at h1 ⊢;cases l with
   | nil=>cases h1
   | cons x l=>simp only[List.head?_cons,Option.some.injEq] at h1;rw[h1];rfl
  exact zK (assign:=assign) (body:=body) hi hG eg (λ s=>(S s).1) (λ s=>(S s).2) I Ix (λ t=>(W t).L) (λ t=>ap (W t).A (W t).Ts) Ia (λ x=>(AS x).symm) U2 x0 h0 ip (oth ip A.length) jp (oth jp Ts.length) hp.1 hp.2 _ _ rfl own BY hH.1 hH.2 hit
   (λ l i x s1 Y w1 hx hi=>(w_ l i x s1 Y w1 hx hi (λ t XK XJ ht hm h hp=>ql t XK XJ ht hm h hp)).h (X4 Y))
   (λ l i x t Y w1 hx ht=>(Sj l i x t Y w1 hx ht).h (X4 Y))
   (λ d s1 T1 hs hT=>(Si d s1 T1 hs hT).h hR) (λ d c s1 T1 hs hT=>(O_ d c s1 T1 hs hT).h hR)
 | _=>simp[mr] at hG
def mkC(i:Nat)(s:Cfg):Cfg:=match s with
 | ⟨c,k,L,A,Ts⟩=>⟨c,k,L,(oth [i] A.length).filterMap (A[·]?),Ts⟩
theorem LV.mark{fn:Func}{R':Value -> HL -> Prop}{d:Nat}(i:Nat)(hk:LV P N D F w0 R fn R' (mkC i s))(h:((s.A[i]?),([i]++oth [i] s.A.length).isPerm (List.range s.A.length))=(some (cw d),true):=by kernel_rfl):LV P N (coll d::D) F w0 R fn R' s:=by
 simp only[Prod.mk.injEq] at h;refine⟨λ hR a w hF aT hB=>?_⟩;obtain⟨c,k,L,A,Ts⟩:=s;simp only at h hF aT;have hp:=fL A [i] (oth [i] A.length) h.2;simp only[List.filterMap_cons,h.1,List.filterMap_nil,List.cons_append,List.nil_append] at hp;have h1:Rel ((d,Blk.obj (.deferred (some [])))::(ap ((oth [i] A.length).filterMap (A[·]?)) Ts++F)) w:=by
  refine aT.perm ?_;have h2:(cw d::ap ((oth [i] A.length).filterMap (A[·]?)) Ts).Perm (ap A Ts):=aaX Ts.flatten hp;exact h2.append_right F
 have hd:w.heap[d]?=some (.deferred (some [])):=h1.holds (cw d) (by simp);have h2:=(h1.putObj (F:=[]) (.obj (.deferred none)));rw[hF.defs];refine⟨by simp,.inl ⟨d,_,rfl,run_takeDeferred hd,?_⟩⟩;exact hk.h hR { a with defers:=D } _ ⟨hF.size,rfl,hF.has⟩ (Rel.drop (X:=[(d,Blk.obj (.deferred none))]) h2) (hB.trans (dU _ _))
end
section
variable {r:Option Nat} {P:Program} {N:Nat} {D:List Deferred} {F:HL} {w0:World} {R:HL} {s:Cfg} {Q:Exit -> Act -> World -> Prop}
variable {α:Type} {e:Enc α} {T:TypeId} {inf:TypeInfo} {z:Value}
def BQ(P:Program)(N j:Nat)(oo:Option Oper)(s:Cfg):Option (Option Addr × Nat × Nat × TypeId × Option Addr × Nat × Nat × TypeId × HL):=match oo with
 | some o=>match Kv P o s.L,s.Ts[j]?,([j]++oth [j] s.Ts.length).isPerm (List.range s.Ts.length) && (eh N o.dst undef s.L).isSome with
  | some (A,n,cap,T,B,m,c',tx),some Hl,true=>some (A,n,cap,T,B,m,c',tx,Hl)
  | _,_,_=>none
 | none=>none
theorem qK{j:Nat}{oo:Option Oper}{A:Option Addr}{n cap m c':Nat}{B:Option Addr}{tx:TypeId}{Hl:HL}(h:BQ P N j oo s=some (A,n,cap,T,B,m,c',tx,Hl)) :
  ∃o a1 a2 t e',oo=some o /\ o.guard=none /\ o.op=.call { callee:=.builtin .append,args:=#[a1,a2],argTypes:=#[t,tx] } /\ (gh s.L a1 && gh s.L a2)=true /\ eZ s.L a1=.slice A n cap /\ eZ s.L a2=.slice B m c' /\ P.underlying t=some (.slice T) /\ P.underlying tx=some (.slice e') /\
   s.Ts[j]?=some Hl /\ ([j]++oth [j] s.Ts.length).isPerm (List.range s.Ts.length)=true /\ (eh N o.dst undef s.L).isSome=true:=by
 unfold BQ at h;split at h
 case h_2=>cases h
 rename_i o;split at h
 case h_2=>cases h
 rename_i A' n' f_ T' B' m' c2 tx' o_ h1 h3 h4;simp only[Option.some.injEq,Prod.mk.injEq] at h;obtain⟨e1,e2,e3,e4,e5,e6,e7,e8,e9⟩:=h;subst e1;subst e2;subst e3;subst e4;subst e5;subst e6;subst e7;subst e8;subst e9;obtain⟨a1,a2,t,e',q1,q2,q3,q4,q5,q6,q7⟩:=td h1;rw[aa0] at h4;exact⟨o,a1,a2,t,e',rfl,q1,q2,q3,q4,q5,q6,q7,h3,h4.1,h4.2⟩
end
inductive RowL{α:Type}(e:Enc α)(T:TypeId)(F:HL):Option Addr -> Nat -> List α -> Prop
 | zero (A:Option Addr):RowL e T F A 0 []
 | rows (q o N:Nat) (full:List α) (fz:Nat × Nat) (n:Nat) (xs:List α) (hq:(q,.rows e.w N (aL e full) T fz)∈F) (ho:o+n <= N) (hn:xs.length=n) (hx:∀k,k<n -> full.getD (o+k) e.dflt=xs.getD k e.dflt):RowL e T F (some ⟨q,o*e.w,none⟩) n xs
section
variable {α:Type} {e:Enc α} {T:TypeId} {F:HL} {A:Option Addr} {n:Nat} {xs:List α}
theorem RowL.mono{F':HL}(h:RowL e T F A n xs)(hs:∀x∈F,x∈F'):RowL e T F' A n xs:=by
 cases h with
 | zero=>exact .zero _
 | rows q o N full fz n xs hq ho hn hx=>exact .rows q o N full fz n xs (hs _ hq) ho hn hx
theorem RowL.up{X:HL}(h:RowL e T F A n xs):RowL e T (X++F) A n xs:=h.mono λ x hx=>aay _ hx
theorem RowL.len(h:RowL e T F A n xs):xs.length=n:=by
 cases h with
 | zero=>rfl
 | rows q o N full fz n xs hq ho hn hx=>exact hn
theorem RowL.at(h:RowL e T F A n xs){k:Nat}(hk:k<n):∃q o N full fz,A=some ⟨q,o*e.w,none⟩ /\ (q,.rows e.w N (aL e full) T fz)∈F /\ o+k<N /\ full.getD (o+k) e.dflt=xs.getD k e.dflt:=by
 cases h with
 | zero=>omega
 | rows q o N full fz n xs hq ho hn hx=>exact⟨q,o,N,full,fz,rfl,hq,by omega,hx k hk⟩
theorem RowL.whole{q N:Nat}{fz:Nat × Nat}(hq:(q,.rows e.w N (aL e xs) T fz)∈F)(h:xs.length <= N):RowL e T F (some ⟨q,0,none⟩) xs.length xs:=by
 have:=RowL.rows (e:=e) (T:=T) (F:=F) q 0 N xs fz xs.length xs hq (by omega) rfl (λ k hk=>by rw[Nat.zero_add]);rwa [Nat.zero_mul] at this
end
section
variable {α:Type} {e:Enc α} {P:Program} {t tx ty T:TypeId} {inf:TypeInfo} {z:Value} {F:HL}
theorem zL(l:List α)(hw:0<e.w):∀ {j:Nat},j<l.length*e.w -> (aq e l)[j]?=some (e.cell (l.getD (j / e.w) e.dflt) (j % e.w)):=by
 induction l with
 | nil=>intro j hj;simp at hj
 | cons x l ih =>
  intro j hj;have hc:aq e (x::l)=(List.range e.w).map (e.cell x)++aq e l:=by simp[aq]
  rw[hc]
  by_cases h:j<e.w
  ·rw[aaU (by simpa using h),Nat.div_eq_of_lt h,Nat.mod_eq_of_lt h];simp[h]
  ·rw[aaV (by simp;omega)];simp only[List.length_map,List.length_range];have h2:j=(j-e.w)+e.w:=by omega
   rw[ih (by simp only[aaS,Nat.add_mul,Nat.one_mul] at hj;omega)]
   conv=>rhs;rw[h2,Nat.add_div_right _ hw,Nat.add_mod_right]
   rfl
theorem F7(ok:EncOk e P T inf z)(hw:0<e.w){F:HL}{A:Option Addr}{n:Nat}{xs:List α}(hl:RowL e T F A n xs){c:Nat}{e':TypeId}(hk:P.underlying tx=some (.slice e'))(X:HL)(w:World)(hR:Rel (X++F) w):Src P inf.size tx (.slice A n c) xs.length (aq e xs) w:=by
 cases hl with
 | zero =>
  cases A with
  | none=>exact Src.ofNil w hk c
  | some a=>exact Src.ofSlice w hk a 0 c [] (by simp) (λ j u h=>by simp at h) (λ u h=>by simp at h)
 | rows q o N full fz n xs hq ho hn hx =>
  subst hn;refine Src.ofSlice w hk _ _ _ _ (by rw[aJ,ok.size]) ?_ ?_
  ·intro j u hj;have U7:j<xs.length*e.w:=by rw[<- aJ];exact(List.getElem?_eq_some_iff.1 hj).1
   rw[zL xs hw U7] at hj;have hd:j / e.w<xs.length:=Nat.div_lt_of_lt_mul (by rw[Nat.mul_comm];exact U7);have hb:=hR.holds _ (aay X hq);rw[Addr.add_lit];have Ud:o*e.w+j=(o+j / e.w)*e.w+j % e.w:=by
    rw[Nat.add_mul,Nat.add_assoc,Nat.mul_comm (j / e.w) e.w,Nat.div_add_mod]
   rw[jP (i:=o+j / e.w) (k:=j % e.w) hb rfl rfl Ud (by omega) (Nat.mod_lt _ hw)];rw[<- hj];show some (aL e full (o+j / e.w) (j % e.w))=_;unfold aL;rw[hx _ hd]
  ·intro u hu;simp only[aq,List.mem_flatMap,List.mem_map] at hu;obtain⟨x,_,k,_,rfl⟩:=hu;exact ok.one x k
def SrcIn(P:Program)(e:Enc α)(F:HL)(A:Option Addr)(n:Nat)(xs:List α):Prop :=
 (xs.length=n /\ (A=none -> n=0)) /\ ∀ {tx e':TypeId} (c:Nat),P.underlying tx=some (.slice e') -> ∀X w,Rel (X++F) w -> Src P e.w tx (.slice A n c) xs.length (aq e xs) w
theorem SrcIn.mono{F F':HL}{A:Option Addr}{n:Nat}{xs:List α}(h:SrcIn P e F A n xs)(hs:∃X,F'.Perm (X++F)):SrcIn P e F' A n xs:=by
 obtain⟨X,hX⟩:=hs;refine⟨h.1,λ c hk Y w hR=>h.2 c hk (Y++X) w ?_⟩;rw[aaH];exact hR.perm (List.Perm.append_left Y hX.symm)
theorem SrcIn.up{F X:HL}{A:Option Addr}{n:Nat}{xs:List α}(h:SrcIn P e F A n xs):SrcIn P e (X++F) A n xs:=h.mono ⟨X,List.Perm.refl _⟩
theorem SrcIn.none:SrcIn P e F Option.none 0 []:=⟨⟨rfl,λ _=>rfl⟩,λ c hk X w hR=>Src.ofNil w hk c⟩
theorem RowL.src(ok:EncOk e P T inf z)(hw:0<e.w){F:HL}{A:Option Addr}{n:Nat}{xs:List α}(hl:RowL e T F A n xs):SrcIn P e F A n xs:=by
 refine⟨⟨hl.len,λ h=>?_⟩,λ c hk X w hR=>?_⟩
 ·subst h;cases hl;rfl
 ·have:=F7 (c:=c) ok hw hl hk X w hR;rwa [ok.size] at this
theorem SrcIn.lit(ok:EncOk e P T inf z){F:HL}{q:Nat}{xs:List α}{rest:List Value}{ty:TypeId}{fz:Nat × Nat}(hq:(q,.lit (aq e xs++rest) ty fz)∈F):SrcIn P e F (some ⟨q,0,Option.none⟩) xs.length xs:=by
 refine⟨⟨rfl,λ h=>by cases h⟩,λ c hk X w hR=>Src.ofSlice w hk _ _ _ _ (by rw[aJ]) ?_ ?_⟩
 ·intro j u hj;have hb:=hR.holds _ (aay X hq);have hl:j<(aq e xs).length:=(List.getElem?_eq_some_iff.1 hj).1;simp only[Blk.den] at hb;rw[Addr.add_lit];simp[World.cell?,hb,aaU hl,hj]
 ·intro u hu;simp only[aq,List.mem_flatMap,List.mem_map] at hu;obtain⟨x,_,k,_,rfl⟩:=hu;exact ok.one x k
def NewS(e:Enc α)(T:TypeId)(src:List α)(A A':Option Addr)(f_:Nat)(o_:HL):Prop :=
 (src=[] /\ A'=A /\ f_=0 /\ o_=[]) \/ ∃b,A'=some ⟨b,0,none⟩ /\ o_=[(b,.rows e.w f_ (aL e src) T (0,0))] /\ src.length <= f_
theorem NewS.rowL{src:List α}{A A':Option Addr}{f_:Nat}{o_:HL}(h:NewS e T src A A' f_ o_){F:HL}(hF:∀x∈o_,x∈F):RowL e T F A' src.length src:=by
 rcases h with ⟨rfl,rfl,rfl,rfl⟩|⟨b,rfl,rfl,hc⟩
 ·exact .zero _
 ·exact RowL.whole (hF _ (List.mem_singleton.2 rfl)) hc
theorem lm(l:List α)(k:Nat):aL e (l++List.replicate k e.dflt)=aL e l:=by
 funext i j;unfold aL;congr 1;rw[aaI,aaI]
 by_cases h:i<l.length
 ·rw[aaU h]
 ·rw[aaV (by omega),List.getElem?_replicate,List.getElem?_eq_none (by omega)];split <;> rfl
theorem zM(ok:EncOk e P T inf z)(ht:P.underlying t=some (.slice T)){A:Option Addr}{G:HL}{w:World}(hA:∀a,A=some a -> a.spot=none)(hR:Rel G w)(src:List α)(x:Value)
  (hs:Src P inf.size tx x src.length (aq e src) w) (hb:src.length <= 100000000) :
  ∃A' f_ o_ w',(Builtin.append_ #[t,tx] ty #[.slice A 0 0,x]).run P w=.ok (.slice A' src.length f_) w' /\ NewS e T src A A' f_ o_ /\ Rel (o_++G) w' /\ Below 0 w w':=by
 rcases Nat.eq_zero_or_pos src.length with h0|h0
 ·obtain rfl:src=[]:=aaY h0;cases A with
  | none =>
   refine⟨none,0,[],w,?_,.inl ⟨rfl,rfl,rfl,rfl⟩,hR,Below.refl _ _⟩;have hc:(Builtin.firstCells inf.size 0 x).run P w=.ok #[] w:=hs.cells;rcases hs.kind with ⟨e',hk⟩|hk <;> simp[Builtin.append_,run_underlying ht,run_underlying hk,Go.sizeOf,typeInfo,ok.info,hs.len,hc]
  | some a =>
   obtain⟨b,off,spot⟩:=a;obtain rfl:spot=none:=hA _ rfl;refine⟨some ⟨b,off,none⟩,0,[],w,?_,.inl ⟨rfl,rfl,rfl,rfl⟩,hR,Below.refl _ _⟩;have:=run_append_room_src (P:=P) w t tx ty T inf ht ok.info b off 0 0 x 0 (aq e ([]:List α)) hs (aaK _) (λ j hj=>by simp[aq] at hj) (λ j hj=>by simp[aq] at hj);exact this
 ·have YO:=ok.bytes;have TK:Builtin.nextslicecap (0+src.length) 0*inf.bytes <= 281474976710656:=by
   have h1:=gX (0+src.length) 0 (by omega);have h2:Builtin.nextslicecap (0+src.length) 0*inf.bytes <= (2*100000000+192)*1000:=Nat.mul_le_mul (by omega) YO;omega
  have hold:(Builtin.firstCells inf.size 0 (.slice A 0 0)).run P w.drew=.ok ([]:List Value).toArray w.drew:=by
   cases A with
   | none=>exact run_firstCells_none w.drew inf.size 0 0 0
   | some a =>
    obtain⟨b,off,spot⟩:=a;obtain rfl:spot=none:=hA _ rfl;exact run_firstCells_some w.drew inf.size 0 ⟨b,off,none⟩ 0 0 [] (by simp) (λ j u hj=>by simp at hj)
  have iD:=run_append_grow_src (P:=P) w t tx ty T inf z ht ok.info ok.zero A 0 0 [] hold x src.length (aq e src) hs (by omega) (by omega) TK;have UE:=grownCap_ge w (0+src.length) 0 T;generalize grownCap w (0+src.length) 0 T=nc at *;rw[Nat.zero_add] at iD UE;refine⟨_,nc,[(w.heap.size,.rows e.w nc (aL e src) T (0,0))],_,iD,.inr ⟨_,rfl,rfl,UE⟩,?_,?_⟩
  ·have:=(Rel.cons (.rows e.w nc (aL e src) T (0,0)) (o:=.cells (([]++aq e src).toArray++Builtin.zeroCells z.cells (nc-src.length)) T (0,0)) ?_ (hR.world (w':=w.drew) rfl))
   ·exact this
   ·show Obj.cells _ _ _=_;congr 1;apply Array.ext';show bg _ _ _=_;have hl:nc=(src++List.replicate (nc-src.length) e.dflt).length:=by simp;omega
    have h3:=gK e (src++List.replicate (nc-src.length) e.dflt);rw[<- hl,lm] at h3;rw[h3,aQ,List.nil_append,Array.toList_append,lh ok]
  ·exact⟨rfl,rfl,rfl,by simp,λ k hk=>by omega⟩
end
section
variable {r:Option Nat} {P:Program} {N:Nat} {D:List Deferred} {F:HL} {w0:World} {R:HL} {s:Cfg} {Q:Exit -> Act -> World -> Prop}
variable {α:Type} {e:Enc α} {T:TypeId} {inf:TypeInfo} {z:Value}
theorem jo(ok:EncOk e P T inf z)(src:List α)(j:Nat){A:Option Addr}{B:Option Addr}{m c':Nat}{tx:TypeId}(hA:∀a,A=some a -> a.spot=none)(hm:m=src.length)(hb:src.length <= 100000000)
  (hs:∀e',P.underlying tx=some (.slice e') -> ∀X w,Rel (X++F) w -> Src P inf.size tx (.slice B m c') src.length (aq e src) w)
  (hk:∀ (A':Option Addr) (f_:Nat) (o_:HL),NewS e T src A A' f_ o_ -> RN r P N D F w0 R (Nj j o_ (dP N (.slice A' src.length f_) s)) Q)
  (h:BQ P N j (gi s) s=some (A,0,0,T,B,m,c',tx,([]:HL)):=by kernel_rfl):RN r P N D F w0 R s Q:=by
 obtain⟨o,a1,a2,t,e',q0,q1,q2,q3,q4,q5,q6,q7,q9,IT,SQ⟩:=qK h;refine⟨λ hR a w hF aT hB=>?_⟩;obtain⟨c,k,L,Bs,Ts⟩:=s;unfold gi at q0;cases c with
 | code c=>cases q0
 | ex c=>cases q0
 | drw _ _=>cases q0
 | ops ops i =>
  simp only at q0 q3 q4 q5 q9 IT SQ hF aT;have j_:ops.toList.drop i=o::ops.toList.drop (i+1):=by
   have iF:i<ops.toList.length:=(List.getElem?_eq_some_iff.1 q0).1;rw[List.drop_eq_getElem_cons iF,(List.getElem?_eq_some_iff.1 q0).2]
  show wpListIn _ _ _ _ _ _ _ _;rw[j_,wpListIn,if_pos (by simp[Region.wanted,q1])];refine⟨λ _ _=>trivial,?_⟩;have oF:=gt (A:=Bs) q9 IT;have key:di P o a w λ u w'=>∃y:Option Addr × Nat × HL,(u=.slice y.1 src.length y.2.1 /\ NewS e T src A y.1 y.2.1 y.2.2) /\ Rel ((y.2.2++(Bs++((oth [j] Ts.length).filterMap (Ts[·]?)).flatten))++F) w' /\ Below 0 w w':=by
   simp only[aa0] at q3;have e1:=(hF.eval q3.1).trans q4;have e2:=(hF.eval q3.2).trans q5;have C_:Rel ((Bs++((oth [j] Ts.length).filterMap (Ts[·]?)).flatten)++F) w:=by
    have:=aT.perm (oF.append_right F);exact this
   obtain⟨A',f_,o_,w',r1,r2,r3,r4⟩:=zM (ty:=o.type) ok q6 hA C_ src (.slice B m c') (hs e' q7 _ w aT) hb;unfold di;have iD:(execOp a.eval o).run P w=.ok (.value (.slice A' src.length f_)) w':=by
    simp[execOp,q2,resolve,invoke,builtin,aa4,e1,e2,r1]
   rw[iD];exact⟨(A',f_,o_),⟨rfl,r2⟩,by rw[aaH];exact r3,r4⟩
  refine eF (by rw[q2];intro c hc;cases hc) key ?_;rintro u w' ⟨⟨A',f_,o_⟩,⟨rfl,Vf⟩,C_,Tv⟩;obtain⟨L',p1⟩:=cO SQ (.slice A' src.length f_);have hh:=(hk A' f_ o_ Vf).h hR;have Sh:dP N (.slice A' src.length f_) ⟨.ops ops i,k,L,Bs,Ts⟩=⟨.ops ops (i+1),k,L',Bs,Ts⟩:=by
   unfold dP;simp only[q0,p1]
  rw[Sh] at hh;refine hh _ w' (hF.put p1) (C_.perm (aaX F ?_)) (hB.trans Tv);show (Bs++(o_::(oth [j] Ts.length).filterMap (Ts[·]?)).flatten).Perm _;rw[aa2,<- aaH,<- aaH];exact aaX _ aaW
end
def aac:=@RD.cp
def aad:=@RD.fin
def aae:=@RD.one
def aaf:=@RDO.ct
def aag:=@RDO.ev
def aah:=@RN.bv
def aak:=@RN.dn
def aal:=@RN.draw
def aap:=@RN.nt
def aas:=@RN.yield
end Go.Proofs.YtdppjkjbghbnjaaGreatDoor
