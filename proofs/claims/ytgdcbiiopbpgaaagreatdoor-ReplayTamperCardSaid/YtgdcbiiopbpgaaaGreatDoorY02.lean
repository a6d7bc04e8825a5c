import Derived.Test.YtgdcbiiopbpgaaaGreatDoorY01
import Derived.Test.YtgdcbiiopbpgaaaGreatDoorProg
import Derived.Shelf.Small.Bits
import Derived.Shelf.Strconv.Itoa0
set_option maxHeartbeats 4000000
set_option maxRecDepth 100000
set_option linter.unusedSimpArgs false
set_option linter.unusedVariables false
namespace Go.Proofs.YtgdcbiiopbpgaaaGreatDoor
open IntKind
open Go.RowKit
def nS(s:Cfg):Array Oper:=match s.c with
 | .drw ops _=>ops
 | _=>#[]
def gT(s:Cfg):List Bool:=match s.c with
 | .drw _ l=>l
 | _=>[]
def fp:List Bool -> Nat
 | []=>0
 | true::l=>fp l
 | false::l=>fp l+1
theorem CI(n:Nat):fp (List.replicate n false)=n:=by
 induction n with
 | zero=>rfl
 | succ n ih=>rw[List.replicate_succ,fp,ih]
def N7(s:Cfg):Cfg:=match s with
 | ⟨.code (.region _ ops true),k,L,A,Ts⟩=>⟨.drw ops (List.replicate ops.toList.length false),k,L,A,Ts⟩
 | s=>s
def Lw(s:Cfg):Bool:=match s.c with
 | .code (.region _ ops true)=>Region.noSelect ops && qj ops
 | _=>false
structure RD(r:Option Nat)(P:Program)(N:Nat)(D:List Deferred)(F:HL)(w0:World)(R:HL)(hards:List Nat)(Rd:HL)(s:Cfg)(Q:Exit -> Act -> World -> Prop):Prop where
 h:(∀y∈R,y∈F) -> Region.noSelect (nS s)=true -> TD P N D F w0 (nS s) hards Rd (fp (gT s)) (gT s) s.L (ap s.A s.Ts) (NoPanic (lu r P s.k Q))
section
variable {r:Option Nat} {P:Program} {N:Nat} {D:List Deferred} {F:HL} {w0:World} {R:HL} {s:Cfg} {Q:Exit -> Act -> World -> Prop} {hards:List Nat} {Rd:HL}
def zf(ix:List Nat)(s:Cfg):HL:=ix.filterMap (s.A[·]?)
theorem RN.draw(hards ix:List Nat)(hk:RD r P N D F w0 R hards (zf ix s) (N7 s) Q)(hm:P.follows .mixedOrders=true:=by kernel_rfl)(hc:Lw s=true:=by kernel_rfl):RN r P N D F w0 R s Q:=by
 refine⟨λ hR=>?_⟩
 obtain⟨c,k,L,A,Ts⟩:=s
 unfold Lw at hc
 split at hc
 case h_2=>cases hc
 rename_i id ops e
 simp only at e
 subst e
 rw[Bool.and_eq_true] at hc
 have h1:=hk.h hR hc.1
 exact TR.draw hards _ hm hc.1 hc.2 (by
  simp only[N7,gT,nS,CI] at h1
  have e:ops.toList.length=ops.size:=by simp
  rw[e] at h1 ⊢
  exact h1)
def Qe(s:Cfg):Cfg:=match s with
 | ⟨.drw _ _,k,L,A,Ts⟩=>⟨.ex .normal,k,L,A,Ts⟩
 | s=>s
def CJ(s:Cfg):Bool:=match s.c with
 | .drw ops l=>(jE ops.toList l).isEmpty
 | _=>false
theorem RD.fin(hk:RN r P N D F w0 R (Qe s) Q)(hc:CJ s=true:=by kernel_rfl):RD r P N D F w0 R hards Rd s Q:=by
 refine⟨λ hR _=>?_⟩
 obtain⟨c,k,L,A,Ts⟩:=s
 unfold CJ at hc
 split at hc
 case h_2=>cases hc
 rename_i ops l e
 simp only at e
 subst e
 exact TD.fin (List.isEmpty_iff.1 hc) (N3 (λ a w h1 h2 h3=>hk.h hR a w h1 h2 h3))
def Fb(P:Program)(N:Nat)(R:HL)(hards:List Nat)(Rd:HL)(is:List Nat)(hints:List Hint)(s:Cfg):Option (List Bool × FL × SS):=match s.c with
 | .drw ops l=>sR P 0 N ops.toList hards Rd is l s.L ⟨ap s.A s.Ts,R,hints,0,[],[],false⟩
 | _=>none
def PS(P:Program)(N:Nat)(R:HL)(hards:List Nat)(Rd:HL)(is:List Nat)(hints:List Hint)(s:Cfg):Cfg:=match Fb P N R hards Rd is hints s with
 | some (b,L',_)=>match s with
  | ⟨.drw ops _,k,_,A,Ts⟩=>⟨.drw ops b,k,L',A,Ts⟩
  | s=>s
 | none=>s
def PT(x:Option (List Bool × FL × SS)):List Nat:=match x with
 | some (_,_,ss)=>ss.eq.map (·.2)
 | none=>[]
def Mf(n:Nat)(x:Option (List Bool × FL × SS)):Option (Nat × List Nat × List Prop):=match x with
 | some (b,_,ss)=>match ss.hints with
  | []=>some (fp b+n,ss.eq.map (·.1),ss.ob)
  | _=>none
 | none=>none
theorem qP(ix is:List Nat)(hints:List Hint)(Ob:List Prop)(g_:AllP Ob)(hk:RD r P N D F w0 R hards Rd (PS P N R hards Rd is hints s) Q)
  (h:Mf is.length (Fb P N R hards Rd is hints s)=some (fp (gT s),PT (Fb P N R hards Rd is hints s),Ob):=by kernel_rfl) (Yv:zf ix s=Rd:=by kernel_rfl):RD r P N D F w0 R hards Rd s Q:=by
 refine⟨λ hR hs=>?_⟩
 obtain⟨c,k,L,A,Ts⟩:=s
 cases c with
 | drw ops l =>
  simp only[nS,gT] at hs ⊢
  unfold PS at hk
  generalize hx:Fb P N R hards Rd is hints ⟨.drw ops l,k,L,A,Ts⟩=x at h hk
  unfold Mf at h
  split at h
  case h_2=>cases h
  rename_i b L' ss
  split at h
  case h_2=>cases h
  simp only[PT,gT,Option.some.injEq,Prod.mk.injEq] at h
  obtain⟨e1,e2,e3⟩:=h
  rw[<- e1]
  refine jn (Rr:=R) hs (λ x hx=>List.mem_append_left _ (ti ix Yv x hx)) hR is l b L L' _ ss hx rfl rfl rfl (fP e2 rfl) (by rw[e3];exact AllP.mem g_) ?_
  exact hk.h hR hs
 | code c=>simp[Fb,Mf] at h
 | ops ops i=>simp[Fb,Mf] at h
 | ex e=>simp[Fb,Mf] at h
theorem ag(ix is:List Nat)(hints:List Hint)(hk:RD r P N D F w0 R hards Rd (PS P N R hards Rd is hints s) Q)
 (h:Mf is.length (Fb P N R hards Rd is hints s)=some (fp (gT s),PT (Fb P N R hards Rd is hints s),[]):=by kernel_rfl) (Yv:zf ix s=Rd:=by kernel_rfl):RD r P N D F w0 R hards Rd s Q:=qP ix is hints [] trivial hk h Yv
theorem aG(ix is:List Nat)(hints:List Hint)(Ob:List Prop)(hk:RD r P N D F w0 R hards Rd (PS P N R hards Rd is hints s) Q)(g_:AllP Ob:=by simp only[AllP,aU,and_true,true_and] <;> (repeat' with_reducible refine And.intro ?_ ?_) <;> omega)
 (h:Mf is.length (Fb P N R hards Rd is hints s)=some (fp (gT s),PT (Fb P N R hards Rd is hints s),Ob):=by kernel_rfl) (Yv:zf ix s=Rd:=by kernel_rfl):RD r P N D F w0 R hards Rd s Q:=qP ix is hints Ob g_ hk h Yv
theorem Ly{b v:Bool}(t:Nat)(hb:b=v)(hk:RD r P N D F w0 R hards Rd (pZ t v s) Q)(h:s.L.lookup t=some (.bool b):=by kernel_rfl):RD r P N D F w0 R hards Rd s Q:=by
 subst hb
 exact⟨λ hR hs hcl a hF=>hk.h hR hs hcl a (hF.fix h)⟩
theorem RD.em(p:Prop)[Decidable p](t:Nat)(h1:p -> RD r P N D F w0 R hards Rd (pZ t true s) Q)(h2:¬ p -> RD r P N D F w0 R hards Rd (pZ t false s) Q)(h:s.L.lookup t=some (.bool (decide p)):=by kernel_rfl):RD r P N D F w0 R hards Rd s Q:=by
 by_cases hp:p
 ·exact Ly t (decide_eq_true hp) (h1 hp) h
 ·exact Ly t (decide_eq_false hp) (h2 hp) h
theorem RD.ro{R':HL}(h:(∀y∈R,y∈F) -> ∀y∈R',y∈F)(hk:RD r P N D F w0 R' hards Rd s Q):RD r P N D F w0 R hards Rd s Q:=⟨λ hR=>hk.h (h hR)⟩
def Mg(P:Program)(N:Nat)(R:HL)(i:Nat)(s:Cfg):Option (Option Tmp × FuncId × Array Value × List Nat × List Prop):=match s.c with
 | .drw ops _=>match ops.toList[i]? with
  | none=>none
  | some o=>match jl ops.toList o s.L ⟨ap s.A s.Ts,R,[],0,[],[],false⟩ with
   | some (true,ss)=>match iK o.op s.L with
    | true=>match ev P 0 o (ik s.L) ss with
     | some (.enter f args,s')=>match s'.hints with
      | []=>some (o.dst,f,args,s'.eq.map (·.1),s'.ob)
      | _=>none
     | _=>none
    | false=>none
   | _=>none
 | _=>none
def N8(N:Nat)(hards:List Nat)(i:Nat)(s:Cfg)(x:Option (Option Tmp × FuncId × Array Value × List Nat × List Prop)):Option (FuncId × Array Value × List Nat × List Prop × Nat):=match x with
 | some (dst,f,args,E,Ob)=>match (fg N dst undef s.L).isSome,NS (nS s).toList hards (gT s) i with
  | true,true=>some (f,args,E,Ob,fp (bz (gT s) i true)+1)
  | _,_=>none
 | none=>none
def EQ(N i:Nat)(v:Value)(s:Cfg):Cfg:=match s with
 | ⟨.drw ops l,k,L,A,Ts⟩=>match ops.toList[i]? with
  | some o=>match fg N o.dst v L with
   | some L'=>⟨.drw ops (bz l i true),k,L',A,Ts⟩
   | none=>⟨.drw ops l,k,L,A,Ts⟩
  | none=>⟨.drw ops l,k,L,A,Ts⟩
 | s=>s
theorem RD.cp(ix:List Nat)(i:Nat){f:FuncId}{args:Array Value}{v:Value}(hc:∀X,Sp P f args [] (X++(ap s.A s.Ts++F)) (λ u H'=>u=v /\ H'=[]))(hk:RD r P N D F w0 R hards Rd (EQ N i v s) Q)
  (h:N8 N hards i s (Mg P N R i s)=some (f,args,[],[],fp (gT s)):=by kernel_rfl) (Yv:zf ix s=Rd:=by kernel_rfl):RD r P N D F w0 R hards Rd s Q:=by
 refine⟨λ hR hs=>?_⟩
 obtain⟨c,k,L,A,Ts⟩:=s
 cases c with
 | drw ops l =>
  simp only[nS,gT] at hs ⊢ h
  generalize hx:Mg P N R i ⟨.drw ops l,k,L,A,Ts⟩=x at h
  unfold N8 at h
  split at h
  case h_2=>cases h
  rename_i dst f' iN E Ob
  split at h
  case h_2=>cases h
  rename_i TP dO
  simp only[nS,gT,Option.some.injEq,Prod.mk.injEq] at h dO
  obtain⟨e1,e2,e3,e4,e5⟩:=h
  subst e1;subst e2;subst e3;subst e4
  obtain⟨L',hl⟩:=eJ TP v
  have Um:=hx
  unfold Mg at Um
  simp only at Um
  have ho:∃o,ops.toList[i]?=some o /\ o.dst=dst:=by
   split at Um
   ·cases Um
   rename_i o ho
   split at Um
   case h_2=>cases Um
   split at Um
   case h_2=>cases Um
   split at Um
   case h_2=>cases Um
   split at Um
   case h_2=>cases Um
   simp only[Option.some.injEq,Prod.mk.injEq] at Um
   exact⟨o,ho,Um.1⟩
  obtain⟨o,ho,hd⟩:=ho
  have RZ:EQ N i v ⟨.drw ops l,k,L,A,Ts⟩=⟨.drw ops (bz l i true),k,L',A,Ts⟩:=by
   unfold EQ
   simp only[ho,hd,hl]
  rw[RZ] at hk
  subst hd
  show TD P N D F w0 ops hards Rd (fp l) l L (ap A Ts) (NoPanic (lu r P k Q))
  rw[<- e5]
  refine Ba (v:=v) (L1:=L') hs (by unfold NS at dO;unfold N1;simp only[Bool.and_eq_true] at dO ⊢;exact dO.1) (by simpa using ho) (λ a hF=>hF.put hl) (λ a hF=>?_) (λ x hx=>List.mem_append_left _ (ti ix Yv x hx)) (.inl dO) (hk.h hR hs)
  unfold Mg at hx
  simp only[ho] at hx
  split at hx
  case h_2=>cases hx
  rename_i ss Tt
  split at hx
  case h_2=>cases hx
  rename_i hokp
  split at hx
  case h_2=>cases hx
  rename_i f2 args2 s2 he
  split at hx
  case h_2=>cases hx
  simp only[Option.some.injEq,Prod.mk.injEq] at hx
  obtain⟨-,e2,e3,e4,e5⟩:=hx
  subst e2;subst e3
  obtain⟨a1,a2,a3,a4⟩:=bI Tt
  obtain⟨d1,d2,d3,d4⟩:=dz he
  have Rz:∀p∈s2.ob,p:=by rw[e5];intro p hp;cases hp
  have YB:∀p∈s2.eq,p.1=p.2:=by
   have:s2.eq=[]:=by simpa using e4
   rw[this];intro p hp;cases hp
  obtain⟨c1,c2,c3⟩:=ci Tt hF (λ p hp=>Rz p (d2 p hp))
  refine .inl ⟨c1,λ X w aT hB=>?_⟩
  have Q4:Rel (ap A Ts++(X++F)) w:=aT.perm (by
   rw[<- List.append_assoc,<- List.append_assoc]
   exact List.Perm.append_right F List.perm_append_comm)
  obtain⟨w1,r1,r2,r3,r4,r5⟩:=gD (w:=w) (F:=X++F) he YB Rz (by rw[c2];exact Q4) (by rw[a3];exact λ y hy=>List.mem_append_right _ (hR y hy)) (λ e=>by rw[a4] at e;cases e)
  obtain rfl:=r5 a4
  unfold ez
  rw[hF.exec hokp,r1]
  refine(hc X w1 (by simpa using aT)).mono ?_
  rintro e w2 ⟨u,H',rfl,⟨rfl,rfl⟩,h3,h4⟩
  exact⟨rfl,by simpa using h3,hB.trans h4⟩
 | code c=>simp[Mg,N8] at h
 | ops ops i=>simp[Mg,N8] at h
 | ex e=>simp[Mg,N8] at h
structure RDO(r:Option Nat)(P:Program)(N:Nat)(D:List Deferred)(F:HL)(w0:World)(R:HL)(hards:List Nat)(Rd:HL)(i:Nat)(s:Cfg)(Q:Exit -> Act -> World -> Prop):Prop where
 h:(∀y∈R,y∈F) -> Region.noSelect (nS s)=true -> ∀a,Fm N D s.L a -> Closed (nS s) ⟨bz (gT s) i true⟩ -> OPJ P (nS s) F w0 hards Rd i a (ap s.A s.Ts) (JJ P (nS s) (NoPanic (lu r P s.k Q)) F w0 hards Rd (fp (bz (gT s) i true)) ⟨bz (gT s) i true⟩)
def N9(s:Cfg):List Nat:=jE (nS s).toList (gT s)
def PU(i:Nat)(s:Cfg):Nat:=fp (bz (gT s) i true)+1
theorem RD.one(i:Nat)(hk:RDO r P N D F w0 R hards Rd i s Q)(h:(N9 s,fp (gT s))=([i],PU i s):=by kernel_rfl):RD r P N D F w0 R hards Rd s Q:=by
 refine⟨λ hR hs=>?_⟩
 simp only[Prod.mk.injEq] at h
 exact TD.one i h.1 _ h.2 λ a hF hcl=>hk.h hR hs a hF hcl
theorem fQ(i j:Nat)(h1:RDO r P N D F w0 R hards Rd i s Q)(h2:RDO r P N D F w0 R hards Rd j s Q)(h:(N9 s,fp (gT s),fp (gT s))=([i,j],PU i s,PU j s):=by kernel_rfl):RD r P N D F w0 R hards Rd s Q:=by
 refine⟨λ hR hs=>?_⟩
 simp only[Prod.mk.injEq] at h
 have e:fp (bz (gT s) i true)=fp (bz (gT s) j true):=by
  have:=h.2.1.symm.trans h.2.2
  unfold PU at this;omega
 exact Me i j h.1 _ h.2.1 (λ a hF hcl=>h1.h hR hs a hF hcl) (λ a hF hcl=>by have:=h2.h hR hs a hF hcl;rw[<- e] at this;exact this)
def CK(P:Program)(n0 N:Nat)(R:HL)(i:Nat)(hints:List Hint)(s:Cfg):Option (Fo × FL × SS):=match s.c with
 | .drw ops l=>match ops.toList[i]? with
  | none=>none
  | some o=>match jl ops.toList o s.L ⟨s.A,R,hints,0,[],[],true⟩ with
   | some (true,ss)=>match iK o.op s.L with
    | true=>match ev P n0 o (ik s.L) ss with
     | some (.value v,s')=>match fg N o.dst v s.L with
      | some L'=>some (.drw ops (bz l i true),L',s')
      | none=>none
     | some (.skip,s')=>match fg N o.dst undef s.L with
      | some L'=>some (.drw ops (bz l i true),L',s')
      | none=>none
     | _=>none
    | false=>none
   | _=>none
 | _=>none
theorem Fc{n0 i:Nat}{hints:List Hint}{ops:Array Oper}{l:List Bool}{k:List KI}{L:FL}{A:HL}{Ts:List HL}{c:Fo}{L':FL}{s':SS}(h:CK P n0 N R i hints ⟨.drw ops l,k,L,A,Ts⟩=some (c,L',s')) :
  ∃o ss u x,ops[i]?=some o /\ jl ops.toList o L ⟨A,R,hints,0,[],[],true⟩=some (true,ss) /\ iK o.op L=true /\ ev P n0 o (ik L) ss=some (x,s') /\ (x=.value u \/ (x=.skip /\ u=undef)) /\ fg N o.dst u L=some L' /\ c=.drw ops (bz l i true):=by
 unfold CK at h
 simp only at h
 split at h
 ·cases h
 rename_i o ho
 split at h
 case h_2=>cases h
 rename_i ss hw
 split at h
 case h_2=>cases h
 rename_i dO
 split at h
 ·rename_i v s2 he
  split at h
  case h_2=>cases h
  rename_i hp
  simp only[Option.some.injEq,Prod.mk.injEq] at h
  obtain⟨e1,e2,e3⟩:=h
  subst e2;subst e3
  exact⟨o,ss,v,_,by simpa using ho,hw,dO,he,.inl rfl,hp,e1.symm⟩
 ·rename_i s2 he
  split at h
  case h_2=>cases h
  rename_i hp
  simp only[Option.some.injEq,Prod.mk.injEq] at h
  obtain⟨e1,e2,e3⟩:=h
  subst e2;subst e3
  exact⟨o,ss,undef,_,by simpa using ho,hw,dO,he,.inr ⟨rfl,rfl⟩,hp,e1.symm⟩
 ·cases h
def Oa(P:Program)(n0 N:Nat)(R:HL)(i:Nat)(hints:List Hint)(s:Cfg):Cfg:=match CK P n0 N R i hints s with
 | some (c,L',ss)=>match s with
  | ⟨_,k,_,_,Ts⟩=>⟨c,k,L',ss.h,Ts⟩
 | none=>s
def PV(x:Option (Fo × FL × SS)):List Nat:=match x with
 | some (_,_,ss)=>ss.eq.map (·.2)
 | none=>[]
def PW(VG:Bool)(ix:List Nat)(A A':HL):HL:=match VG with
 | true=>ix.filterMap (A'[·]?)
 | false=>A'.drop (A'.length-A.length)
def Mh(VG:Bool)(ix:List Nat)(A:HL)(x:Option (Fo × FL × SS)):Option (List Nat × List Prop × HL):=match x with
 | some (_,_,ss)=>match ss.hints with
  | []=>some (ss.eq.map (·.1),ss.ob,PW VG ix A ss.h)
  | _=>none
 | none=>none
theorem Be(ix:List Nat){i:Nat}(hints:List Hint)(Ob:Nat -> List Prop)(g_:∀n0,AllP (Ob n0))(hk:∀n0,RD r P N D F w0 R hards Rd (Oa P n0 N R i hints s) Q)
  (h:∀n0,Mh (hards.contains i) ix s.A (CK P n0 N R i hints s)=some (PV (CK P n0 N R i hints s),Ob n0,cond (hards.contains i) Rd s.A):=by intro n0;kernel_rfl):RDO r P N D F w0 R hards Rd i s Q:=by
 refine⟨λ hR hs a hF hcl=>?_⟩
 obtain⟨c,k,L,A,Ts⟩:=s
 cases c with
 | code c=>simp[CK,Mh] at h
 | ops ops i=>simp[CK,Mh] at h
 | ex e=>simp[CK,Mh] at h
 | drw ops l =>
  simp only[nS,gT] at hs hcl h hF ⊢
  have key:∀n0,∃o ss s' u x L',ops[i]?=some o /\ jl ops.toList o L ⟨A,R,hints,0,[],[],true⟩=some (true,ss) /\ iK o.op L=true /\ ev P n0 o (ik L) ss=some (x,s') /\ (x=.value u \/ (x=.skip /\ u=undef)) /\ fg N o.dst u L=some L' /\
    Oa P n0 N R i hints ⟨.drw ops l,k,L,A,Ts⟩=⟨.drw ops (bz l i true),k,L',s'.h,Ts⟩ /\ (∀p∈s'.eq,p.1=p.2) /\ s'.ob=Ob n0 /\ PW (hards.contains i) ix A s'.h=cond (hards.contains i) Rd A:=by
   intro n0
   have h1:=h n0
   generalize hx:CK P n0 N R i hints ⟨.drw ops l,k,L,A,Ts⟩=x at h1
   unfold Mh at h1
   split at h1
   case h_2=>cases h1
   rename_i c L' s'
   split at h1
   case h_2=>cases h1
   simp only[PV,Option.some.injEq,Prod.mk.injEq] at h1
   obtain⟨e1,e2,e3⟩:=h1
   obtain⟨o,ss,u,x,q1,q2,q3,q4,q5,q6,q7⟩:=Fc hx
   refine⟨o,ss,s',u,x,L',q1,q2,q3,q4,q5,q6,?_,fP e1 rfl,e2,e3⟩
   unfold Oa
   rw[hx]
   subst q7
   rfl
  unfold OPJ
  obtain⟨o,ss,s',u,x,L',q1,q2,q3,q4,q5,q6,q7,q8,q9,Sc⟩:=key 0
  rw[q1]
  simp only
  obtain⟨d1,d2,d3,d4⟩:=dz q4
  rw[if_pos (ci q2 hF (λ p hp=>AllP.mem (g_ 0) p (by rw[<- q9];exact d2 p hp))).1]
  intro w aT hB
  obtain⟨o',ss,s',u,x,L',q1',q2,q3,q4,q5,q6,q7,q8,q9,Sc⟩:=key w.heap.size
  obtain rfl:o=o':=Option.some.inj (q1.symm.trans q1')
  obtain⟨a1,a2,a3,a4⟩:=bI q2
  obtain⟨d1,d2,d3,d4⟩:=dz q4
  have Rz:∀p∈s'.ob,p:=by rw[q9];exact AllP.mem (g_ _)
  obtain⟨c1,c2,c3⟩:=ci q2 hF (λ p hp=>Rz p (d2 p hp))
  rw[jS] at aT
  obtain⟨w1,r1,r2,r3,r4,r5⟩:=gD (w:=w) (F:=Ts.flatten++F) q4 q8 Rz (by rw[c2];exact aT) (by rw[a3];exact λ y hy=>List.mem_append_right _ (hR y hy)) (λ _=>by rw[c3];rfl)
  have hkk:=(hk w.heap.size).h hR
  rw[q7] at hkk
  have fin:∃H',((i ∉ hards -> ∃X,H'=X++ap A Ts) /\ (i∈hards -> ∀x∈Rd,x∈H')) /\ JJ P ops (NoPanic (lu r P k Q)) F w0 hards Rd (fp (bz l i true)) ⟨bz l i true⟩ (a.put o.dst u) H' /\ Rel (H'++F) w1 /\ Below 0 w0 w1:=by
   refine⟨ap s'.h Ts,⟨λ hi=>?_,λ hi=>?_⟩,hkk hs hcl _ (hF.put q6),by rw[jS];exact r2,hB.trans r3⟩
   ·have hc:hards.contains i=false:=by
     cases hq:hards.contains i with
     | false=>rfl
     | true=>exact absurd (List.contains_iff_mem.1 hq) hi
    rw[hc] at Sc
    simp only[PW,cond_false] at Sc
    refine⟨s'.h.take (s'.h.length-A.length),?_⟩
    show s'.h++Ts.flatten=_++(A++Ts.flatten)
    rw[<- List.append_assoc]
    congr 1
    conv=>lhs;rw[<- List.take_append_drop (s'.h.length-A.length) s'.h,Sc]
   ·have hc:hards.contains i=true:=List.contains_iff_mem.2 hi
    rw[hc] at Sc
    simp only[PW,cond_true] at Sc
    exact λ x hx=>List.mem_append_left _ (ti ix Sc x hx)
  unfold ez
  rw[hF.exec q3,r1]
  rcases q5 with rfl|⟨rfl,rfl⟩
  ·exact fin
  ·exact fin
theorem RDO.ev(ix:List Nat){i:Nat}(hints:List Hint)(hk:∀n0,RD r P N D F w0 R hards Rd (Oa P n0 N R i hints s) Q)
 (h:∀n0,Mh (hards.contains i) ix s.A (CK P n0 N R i hints s)=some (PV (CK P n0 N R i hints s),[],cond (hards.contains i) Rd s.A):=by intro n0;kernel_rfl):RDO r P N D F w0 R hards Rd i s Q:=Be ix hints (λ _=>[]) (λ _=>trivial) hk h
theorem eC(ix:List Nat){i:Nat}(hints:List Hint)(Ob:List Prop)(hk:∀n0,RD r P N D F w0 R hards Rd (Oa P n0 N R i hints s) Q)(g_:AllP Ob:=by simp only[AllP,aU,and_true,true_and] <;> (repeat' with_reducible refine And.intro ?_ ?_) <;> omega)
 (h:∀n0,Mh (hards.contains i) ix s.A (CK P n0 N R i hints s)=some (PV (CK P n0 N R i hints s),Ob,cond (hards.contains i) Rd s.A):=by intro n0;kernel_rfl):RDO r P N D F w0 R hards Rd i s Q:=Be ix hints (λ _=>Ob) (λ _=>g_) hk h
def Oc(P:Program)(n0 N:Nat)(R:HL)(i:Nat)(s:Cfg):Option (Option Tmp × FuncId × Array Value × HL × List Nat × List Nat × List Prop):=match s.c with
 | .drw ops _=>nN P n0 N ops.toList i s.L (ap s.A s.Ts) R []
 | _=>none
theorem qQ{i:Nat}{ops:Array Oper}{l:List Bool}{k:List KI}{L:FL}{A:HL}{Ts:List HL}{o:Oper}(ho:ops[i]?=some o){σ:Type}(G:Value -> σ -> Prop)(Ho:σ -> HL)(hl:(fg N o.dst undef L).isSome=true)
  (hg:∀a,Fm N D L a -> Region.wanted o (yielded ops a.tmps)=true /\ ∀w,Rel (ap A Ts++F) w -> Below 0 w0 w -> ez P o a w λ u w'=>∃x,G u x /\ Rel (Ho x++F) w' /\ Below 0 w w')
  (Z7:∀x,(i ∉ hards -> ∃X,Ho x=X++ap A Ts) /\ (i∈hards -> ∀y∈Rd,y∈Ho x))
  (hk:∀v x,G v x -> ∀L',fg N o.dst v L=some L' -> Region.noSelect ops=true -> TD P N D F w0 ops hards Rd (fp (bz l i true)) (bz l i true) L' (Ho x) (NoPanic (lu r P k Q))):RDO r P N D F w0 R hards Rd i ⟨.drw ops l,k,L,A,Ts⟩ Q:=by
 refine⟨λ hR hs a hF hcl=>?_⟩
 simp only[nS,gT] at hs hcl hF ⊢
 unfold OPJ
 rw[ho]
 simp only
 obtain⟨h1,h2⟩:=hg a hF
 rw[if_pos h1]
 intro w aT hB
 refine eU (h2 w aT hB) ?_
 rintro u w' ⟨x,hx,Q1,Tn⟩
 obtain⟨L',SU⟩:=eJ hl u
 exact⟨Ho x,Z7 x,hk u x hx L' SU hs hcl _ (hF.put SU),Q1,hB.trans Tn⟩
def Fd(VG:Bool)(ix ip jp:List Nat)(s:Cfg)(Rd:HL):HL:=match VG with
 | true=>ix.filterMap ((dF ip s)[·]?)
 | false=>match ip,jp with
  | [],[]=>Rd
  | _,_=>(0,.obj (.deferred none))::Rd
theorem Bf{α:Type}(l:List α):(oth [] l.length).filterMap (l[·]?)=l:=by
 have:oth [] l.length=List.range l.length:=by simp[oth]
 rw[this]
 exact E9 l
theorem TD.permH{L:FL}{H H':HL}{ops:Array Oper}{fuel:Nat}{l:List Bool}(hp:H'.Perm H)(h:TD P N D F w0 ops hards Rd fuel l L H' Q):TD P N D F w0 ops hards Rd fuel l L H Q:=λ hcl a hF=>JJ.perm _ _ _ _ _ hp (h hcl a hF)
theorem RDO.ct{τ:Type}{i:Nat}(ix ip jp:List Nat){f:FuncId}{args:Array Value}{Hp:HL}{Tp:List HL}{Hq:τ -> HL}{Tq:τ -> List HL}{Rv:Value -> τ -> Prop}
  (hc:Sp P f args (ap Hp Tp) (ap (dF ip s) (eA jp s)++F) (λ v H'=>∃x,H'=ap (Hq x) (Tq x) /\ Rv v x)) (hk:∀v x,Rv v x -> RD r P N D F w0 R hards Rd (wi (λ A=>Hq x++(oth ip A.length).filterMap (A[·]?)) (λ Ts=>Tq x++(oth jp Ts.length).filterMap (Ts[·]?)) (EQ N i v s)) Q)
  (h:∀n0,kT N s (Oc P n0 N R i s)=some (f,args,[],[],ap s.A s.Ts):=by intro n0;kernel_rfl)
  (hp:bK ip jp s=true:=by kernel_rfl) (hH:picks ip jp s=(Hp,Tp):=by kernel_rfl) (hx:Fd (hards.contains i) ix ip jp s Rd=Rd:=by kernel_rfl):RDO r P N D F w0 R hards Rd i s Q:=by
 obtain⟨c,k,L,A,Ts⟩:=s
 cases c with
 | code c=>simp[Oc,kT] at h
 | ops ops i=>simp[Oc,kT] at h
 | ex e=>simp[Oc,kT] at h
 | drw ops l =>
  refine⟨λ hR=>?_⟩
  unfold bK at hp
  unfold picks at hH
  simp only[Oc,Bool.and_eq_true,Prod.mk.injEq] at h hp hH
  obtain⟨e1,e2⟩:=hH
  have key:∀n0,∃dst,nN P n0 N ops.toList i L (ap A Ts) R []=some (dst,f,args,ap A Ts,[],[],[]) /\ (fg N dst undef L).isSome=true:=by
   intro n0
   have h1:=h n0
   generalize hx:nN P n0 N ops.toList i L (ap A Ts) R []=x at h1
   unfold kT at h1
   split at h1
   case h_2=>cases h1
   rename_i dst f' iN H1 E E' Ob'
   split at h1
   case h_2=>cases h1
   rename_i TP
   simp only[Option.some.injEq,Prod.mk.injEq] at h1
   obtain⟨e1,e2,e3,e4,e5⟩:=h1
   subst e1;subst e2;subst e3;subst e4;subst e5
   obtain⟨o,s1,s',_,_,_,_,_,_,g1,g2,_⟩:=iM hx
   have:s'.eq=[]:=by simpa using g1
   rw[this] at g2
   simp only[List.map_nil] at g2
   subst g2
   exact⟨dst,rfl,TP⟩
  obtain⟨dst,Zu,TP⟩:=key 0
  obtain⟨o,s1,s',ho,_,_,_,hd,_⟩:=iM Zu
  subst hd
  have Q0:∀n0,nN P n0 N ops.toList i L (ap A Ts) R []=some (o.dst,f,args,ap A Ts,[],[],[]):=by
   intro n0
   obtain⟨dst',h1,_⟩:=key n0
   obtain⟨o',_,_,By,_,_,_,SV,_⟩:=iM h1
   obtain rfl:o=o':=Option.some.inj (ho.symm.trans By)
   rw[SV];exact h1
  have rW:(ap Hp Tp++ap (dF ip ⟨.drw ops l,k,L,A,Ts⟩) (eA jp ⟨.drw ops l,k,L,A,Ts⟩)).Perm (ap A Ts):=by
   have h1:=kx A Ts ip (oth ip A.length) jp (oth jp Ts.length) hp.1 hp.2
   rw[e1,e2] at h1
   exact h1
  have RZ:∀v L',fg N o.dst v L=some L' -> EQ N i v ⟨.drw ops l,k,L,A,Ts⟩=⟨.drw ops (bz l i true),k,L',A,Ts⟩:=by
   intro v L' hl
   unfold EQ
   simp only[ho,hl]
  have hTD:∀v x,Rv v x -> ∀L',fg N o.dst v L=some L' -> Region.noSelect ops=true -> TD P N D F w0 ops hards Rd (fp (bz l i true)) (bz l i true) L' (ap (Hq x++(oth ip A.length).filterMap (A[·]?)) (Tq x++(oth jp Ts.length).filterMap (Ts[·]?))) (NoPanic (lu r P k Q)):=by
   intro v x hv L' hl hs
   have h1:=(hk v x hv).h hR
   rw[RZ v L' hl] at h1
   exact h1 hs
  have hgen:∀a,Fm N D L a -> Region.wanted o (yielded ops a.tmps)=true /\ ∀w,Rel (ap A Ts++F) w -> Below 0 w0 w -> ez P o a w λ u w'=>∃x,Rv u x /\ Rel ((ap (Hq x) (Tq x)++ap (dF ip ⟨.drw ops l,k,L,A,Ts⟩) (eA jp ⟨.drw ops l,k,L,A,Ts⟩))++F) w' /\ Below 0 w w':=by
   intro a hF
   obtain⟨h1,h2⟩:=za (w0:=w0) ho Q0 hR trivial rW hc a hF
   refine⟨h1,λ w hR hB=>eU (h2 w hR hB) ?_⟩
   rintro u w' ⟨H',⟨x,rfl,hv⟩,R8,Tm⟩
   exact⟨x,hv,R8,Tm⟩
  have Z3:∀x,(ap (Hq x) (Tq x)++ap (dF ip ⟨.drw ops l,k,L,A,Ts⟩) (eA jp ⟨.drw ops l,k,L,A,Ts⟩)).Perm (ap (Hq x++(oth ip A.length).filterMap (A[·]?)) (Tq x++(oth jp Ts.length).filterMap (Ts[·]?))):=by
   intro x
   have h1:=uK (Hq x) (dF ip ⟨.drw ops l,k,L,A,Ts⟩) (Tq x) (eA jp ⟨.drw ops l,k,L,A,Ts⟩) []
   rw[List.append_nil,List.append_nil] at h1
   exact h1
  refine(qQ (by simpa using ho) (λ v x=>Rv v x) (λ x=>ap (Hq x) (Tq x)++ap (dF ip ⟨.drw ops l,k,L,A,Ts⟩) (eA jp ⟨.drw ops l,k,L,A,Ts⟩)) TP hgen (λ x=>⟨λ hi=>?_,λ hi y hy=>?_⟩) (λ v x hv L' hl hs=>TD.permH (Z3 x).symm (hTD v x hv L' hl hs)):RDO r P N D F w0 R hards Rd i ⟨.drw ops l,k,L,A,Ts⟩ Q).h hR
  ·have hc:hards.contains i=false:=by
    cases hq:hards.contains i with
    | false=>rfl
    | true=>exact absurd (List.contains_iff_mem.1 hq) hi
   rw[hc] at hx
   unfold Fd at hx
   simp only at hx
   split at hx
   ·refine⟨ap (Hq x) (Tq x),?_⟩
    unfold dF eA
    show _++ap ((oth [] A.length).filterMap (A[·]?)) ((oth [] Ts.length).filterMap (Ts[·]?))=_
    rw[Bf,Bf]
   ·exact absurd hx (by simp)
  ·rw[List.contains_iff_mem.2 hi] at hx
   simp only[Fd] at hx
   exact List.mem_append_right _ (List.mem_append_left _ (ti ix hx y hy))
def Lz(V:Inv)(ip jp:List Nat)(s:Cfg):(List (Option Value) × HL × List HL) × Bool × Bool:=(uO V ip jp s,bK ip jp s,CJ s)
def Qf(V:Inv)(s:Cfg):Cfg:=match s with
 | ⟨_,k,_,_,_⟩=>⟨.ex .normal,k,V.L,V.A,V.Ts⟩
theorem jU{σ:Type}(V:σ -> Inv)(k:∀x,RN r P N D F w0 R (Qf (V x) s) Q)(h:(∀ {s':Cfg} (x:σ) (ip jp:List Nat),(h:Lz (V x) ip jp s'=(nR (V x),true,true):=by kernel_rfl) -> (e:s'.k=s.k:=by kernel_rfl) -> RD r P N D F w0 R hards Rd s' Q) -> RD r P N D F w0 R hards Rd s Q):RD r P N D F w0 R hards Rd s Q:=by
 refine h λ {s'} x ip jp hm e=>?_
 unfold Lz at hm
 simp only[Prod.mk.injEq] at hm
 obtain⟨m1,m2,m3⟩:=hm
 refine RD.fin ⟨λ hR a w h1 h2 h3=>?_⟩ m3
 obtain⟨c,k',L,A,Ts⟩:=s'
 simp only at e
 subst e
 cases c with
 | drw ops l =>
  obtain⟨k1,k2⟩:=qO (s:=⟨.drw ops l,s.k,L,A,Ts⟩) m1 m2 h1 h2
  exact(k x).h hR a w k1 k2 h3
 | code c=>simp[CJ] at m3
 | ops ops i=>simp[CJ] at m3
 | ex e=>simp[CJ] at m3
end
abbrev bg(n:Int):Int:=i64.wrap n
structure V2 where (x y:Int)
structure Bx where (x0 y0 x1 y1:Int)
structure Mot where (px py vx vy inv:Int)
structure Con where (nx ny d:Int)
def aF(n lo hi:Int):Int:=if n<lo then lo else if n>hi then hi else n
def lw(a b:Int):Int:=if b=0 then 0 else if (a.tmod b>0 /\ b<0) \/ (a.tmod b<0 /\ b>0) then bg (bg (a.tdiv b)-1) else bg (a.tdiv b)
def fZ(a b:Int):Int:=lw (bg (a*b)) 1024
def aA(a b c:Int):Int:=lw (bg (a*b)) c
theorem cE(n:Int)(lo:Int)(hi:Int)  (F:HL):Sp Tryz.prog 191 #[vI n,vI lo,vI hi] [] F (λ u H'=>u=vI (aF n lo hi) /\ H'=[]):=by
 refine Sp.run Tryz.func191 rfl mn (A:=[]) (Ts:=[]) rfl λ w0=>?_
 refine ae 15 [] λ _=>RN.em (n<lo) 7 (λ h1=>?_) λ h1=>?_
 ·refine ae 7 [] λ _=>RN.ret [] [] [] (v:=vI lo) (H':=[]) ?_
  exact⟨by unfold aF;simp[*],rfl⟩
 ·refine ae 9 [] λ _=>RN.em (n>hi) 12 (λ h2=>?_) λ h2=>?_
  ·refine ae 7 [] λ _=>RN.ret [] [] [] (v:=vI hi) (H':=[]) ?_
   exact⟨by unfold aF;simp[*],rfl⟩
  ·refine ae 10 [] λ _=>RN.ret [] [] [] (v:=vI n) (H':=[]) ?_
   exact⟨by unfold aF;simp[*],rfl⟩
theorem nT(a:Int)(b:Int)  (F:HL):Sp Tryz.prog 229 #[vI a,vI b] [] F (λ u H'=>u=vI (lw a b) /\ H'=[]):=by
 refine Sp.run Tryz.func229 rfl mn (A:=[]) (Ts:=[]) rfl λ w0=>?_
 refine ae 12 [] λ _=>RN.em (b=0) 8 (λ h1=>?_) λ h1=>?_
 ·refine ae 6 [] λ _=>RN.ret [] [] [] (v:=vI 0) (H':=[]) ?_
  exact⟨by unfold lw;simp[*],rfl⟩
 ·refine ae 4 [] λ _=>RN.draw [] []<|aG [] [0,1,3,4,2,5,6,7] [.dv,.dv] [b≠0,b≠0]<|RD.fin<|ae 13 [] λ _=>RN.em (a.tmod b>0) 18 (λ h2=>?_) λ h2=>?_
  ·refine ae 6 [] λ _=>RN.em (b<0) 15 (λ h3=>?_) λ h3=>?_
   ·refine ae 23 [] λ _=>RN.ret [] [] [] (v:=vI (i64.wrap ((i64.wrap (a.tdiv b))-1))) (H':=[]) ?_
    exact⟨by unfold lw;simp[*],rfl⟩
   ·refine ae 8 [] λ _=>RN.em (a.tmod b<0) 25 (λ h4=>?_) λ h4=>?_
    ·refine ae 6 [] λ _=>RN.em (b>0) 22 (λ h5=>?_) λ h5=>?_
     ·refine ae 22 [] λ _=>RN.ret [] [] [] (v:=vI (i64.wrap ((i64.wrap (a.tdiv b))-1))) (H':=[]) ?_
      exact⟨by unfold lw;simp[*],rfl⟩
     ·refine ae 15 [] λ _=>RN.ret [] [] [] (v:=vI (i64.wrap (a.tdiv b))) (H':=[]) ?_
      exact⟨by unfold lw;simp[*],rfl⟩
    ·refine ae 21 [] λ _=>RN.ret [] [] [] (v:=vI (i64.wrap (a.tdiv b))) (H':=[]) ?_
     exact⟨by unfold lw;simp[*],rfl⟩
  ·refine ae 14 [] λ _=>RN.em (a.tmod b<0) 25 (λ h6=>?_) λ h6=>?_
   ·refine ae 6 [] λ _=>RN.em (b>0) 22 (λ h7=>?_) λ h7=>?_
    ·refine ae 22 [] λ _=>RN.ret [] [] [] (v:=vI (i64.wrap ((i64.wrap (a.tdiv b))-1))) (H':=[]) ?_
     exact⟨by unfold lw;simp[*],rfl⟩
    ·refine ae 15 [] λ _=>RN.ret [] [] [] (v:=vI (i64.wrap (a.tdiv b))) (H':=[]) ?_
     exact⟨by unfold lw;simp[*],rfl⟩
   ·refine ae 21 [] λ _=>RN.ret [] [] [] (v:=vI (i64.wrap (a.tdiv b))) (H':=[]) ?_
    exact⟨by unfold lw;simp[*],rfl⟩
theorem nU(a:Int)(b:Int)  (F:HL):Sp Tryz.prog 212 #[vI a,vI b] [] F (λ u H'=>u=vI (fZ a b) /\ H'=[]):=by
 refine Sp.run Tryz.func212 rfl mn (A:=[]) (Ts:=[]) rfl λ w0=>?_
 refine ae 10 [] λ _=>RN.cp (nT (i64.wrap (a*b)) 1024  _)<|ae 3 [] λ _=>?_
 exact RN.ret [] [] [] ⟨rfl,rfl⟩
theorem gj(a:Int)(b:Int)(c:Int)  (F:HL):Sp Tryz.prog 238 #[vI a,vI b,vI c] [] F (λ u H'=>u=vI (aA a b c) /\ H'=[]):=by
 refine Sp.run Tryz.func238 rfl mn (A:=[]) (Ts:=[]) rfl λ w0=>?_
 refine ae 11 [] λ _=>RN.cp (nT (i64.wrap (a*b)) c  _)<|ae 3 [] λ _=>?_
 exact RN.ret [] [] [] ⟨rfl,rfl⟩
end Go.Proofs.YtgdcbiiopbpgaaaGreatDoor
namespace Go.Proofs
open IntKind
open Go.Shelf
def oO:Go.Shelf.Ren:=⟨λ|125=>106|128=>126|129=>127|n=>n,λ|46=>153|3=>3|51=>230|53=>45|4=>4|5=>5|9=>9|n=>n,λ|n=>n⟩
theorem uP:Go.Proofs.Lays.n125 Tryz.prog oO:={
 mixed:=by kernel_rfl
 f125:=Tryz.func106.trans (congrArg some (by kernel_rfl))
 f128:=Tryz.func126.trans (congrArg some (by kernel_rfl))
 f129:=Tryz.func127.trans (congrArg some (by kernel_rfl))
 t3:=Tryz.underlying3
 a3:=Tryz.isAgg3
 z3:=Tryz.sizeOf3
 v3:=Tryz.zeroValue3
 t4:=Tryz.underlying4
 a4:=Tryz.isAgg4
 z4:=Tryz.sizeOf4
 v4:=Tryz.zeroValue4
 t5:=Tryz.underlying5
 a5:=Tryz.isAgg5
 z5:=Tryz.sizeOf5
 v5:=Tryz.zeroValue5
 t9:=Tryz.underlying9
 a9:=Tryz.isAgg9
 z9:=Tryz.sizeOf9
 v9:=Tryz.zeroValue9
 t46:=Tryz.underlying153
 a46:=Tryz.isAgg153
 z46:=Tryz.sizeOf153
 v46:=Tryz.zeroValue153
 t51:=Tryz.underlying230
 a51:=Tryz.isAgg230
 z51:=Tryz.sizeOf230
 v51:=Tryz.zeroValue230
 t53:=Tryz.underlying45
 a53:=Tryz.isAgg45
 z53:=Tryz.sizeOf45
 v53:=Tryz.zeroValue45 }
theorem Tryz.bits_Len(x:Int)(w:World)(h0:0 <= x)(h1:x <= 18446744073709551615) :
 Calls Tryz.prog 106 #[.int .u64 x] w λ e w'=>e=.returned (.int .i64 (Lib.bitLen x.toNat)) /\ w'=w:=Any.bits_Len uP x w h0 h1
end Go.Proofs
namespace Go.Proofs.YtgdcbiiopbpgaaaGreatDoor
open IntKind
open Go.RowKit
abbrev wj(n:Int):Int:=u64.wrap n
theorem uQ(n:Int):0 <= wj n /\ wj n <= 18446744073709551615:=by
 show 0 <= u64.wrap n /\ u64.wrap n <= _
 unfold IntKind.wrap
 simp[IntKind.signed,IntKind.bits]
 omega
abbrev uR(n:Int):Int:=(Lib.bitLen (wj n).toNat:Int)
theorem wl(n:Int)(F:HL):Sp Tryz.prog 106 #[.int .u64 (wj n)] [] F (λ u H'=>u=vI (uR n) /\ H'=[]) :=
 wc (λ w=>Tryz.bits_Len _ w (uQ n).1 (uQ n).2) F
theorem Jt(n:Int):0 <= uR n /\ uR n <= 64:=by
 have h:=uQ n
 have:=Lib.bitLen_le (wj n).toNat 64 (by omega) (by omega)
 unfold uR
 omega
def Ju(r:Int)(k:Nat):Int:=bg ((BitVec.ofInt 64 r ||| BitVec.ofInt 64 (bg (1*2 ^ min k 64))).toNat:Int)
def uS(n:Int):Nat -> Int -> Int
 | 0,r=>r
 | k+1,r=>uS n k (if Ju r k>bg (n.tdiv (Ju r k)) then r else Ju r k)
def CL(n:Int):Int:=bg (bg ((bg (uR n+1)).tdiv 2)-1)
def uT(n:Int):Int:=if n <= 0 then 0 else uS n (CL n+1).toNat 0
theorem Qg(v:BitVec 64)(h:bg (v.toNat:Int)=0):v=0#64:=by
 apply BitVec.eq_of_toNat_eq
 have h2:v.toNat<18446744073709551616:=v.isLt
 generalize v.toNat=m at *
 rw[bg,IntKind.wrap_i64] at h
 simp
 omega
theorem Mi(r:Int){k:Nat}(hk:k<40):Ju r k≠0:=by
 intro h
 have hb:BitVec.ofInt 64 (bg (1*2 ^ min k 64))≠0#64:=by
  have:∀k<40,BitVec.ofInt 64 (bg (1*2 ^ min k 64))≠0#64:=by decide
  exact this k hk
 have h1:=Qg _ h
 clear h
 generalize BitVec.ofInt 64 (bg (1*2 ^ min k 64))=b at *
 generalize BitVec.ofInt 64 r=a at *
 apply hb
 have:(a ||| b) &&& b=b:=by
  apply BitVec.eq_of_getLsbD_eq
  intro i hi
  simp
  intro h
  exact .inr h
 rw[h1] at this
 simpa using this.symm
theorem Bg(n:Int):-1 <= CL n /\ CL n <= 31:=by
 have:=Jt n
 unfold CL bg
 generalize uR n=l at *
 have e1:i64.wrap (l+1)=l+1:=by rw[IntKind.wrap_i64];omega
 rw[e1,Int.tdiv_eq_ediv_of_nonneg (by omega)]
 have e2:i64.wrap ((l+1) / 2)=(l+1) / 2:=by rw[IntKind.wrap_i64];omega
 rw[e2,IntKind.wrap_i64]
 omega
theorem cZ{x:Int}(h:-9223372036854775808 <= x /\ x <= 9223372036854775807):bg x=x:=by
 rw[bg,IntKind.wrap_i64];omega
theorem wm{n r s:Int}{k:Int}(h0:¬ s<0)(h:uS n (s+1).toNat r=k):uS n s.toNat (if Ju r s.toNat>bg (n.tdiv (Ju r s.toNat)) then r else Ju r s.toNat)=k:=by
 have e:(s+1).toNat=s.toNat+1:=by omega
 rw[e,uS] at h
 exact h
theorem CM(n:Int)  (F:HL):Sp Tryz.prog 298 #[vI n] [] F (λ u H'=>u=vI (uT n) /\ H'=[]):=by
 refine Sp.run Tryz.func298 rfl mn (A:=[]) (Ts:=[]) rfl λ w0=>?_
 refine ae 13 [] λ _=>RN.em (n <= 0) 7 (λ h1=>?_) λ h1=>?_
 ·refine ae 6 [] λ _=>RN.ret [] [] [] (v:=vI 0) (H':=[]) ?_
  refine⟨?_,rfl⟩
  unfold uT
  first|(simp[*];done)|(have e:(s+1).toNat=0:=by omega);(rw[e,uS] at YY);(simp[*])
 ·refine ae 16 [] λ _=>RN.cp (wl n _)<|ae 7 [] λ _=>RN.loop (σ:=Int × Int) (λ ⟨r,s⟩=>⟨[(0,vI n),(3,vI r),(4,vI s)],[],[],-1 <= s /\ s <= 31 /\ uS n (s+1).toNat r=uS n (CL n+1).toNat 0,(s+1).toNat⟩) (0,CL n) [] [] (⟨(Bg n).1,(Bg n).2,rfl⟩) ?_
  rintro⟨r,s⟩ ⟨hI0,hI1,YY⟩ Ri
  have hw:s >= 0 -> i64.wrap (s-1)=s-1:=λ _=>cZ (by omega)
  have Q2:(s-1+1).toNat=s.toNat:=by rw[Int.sub_add_cancel]
  refine ae 7 [] λ _=>RN.em (s >= 0) 15 (λ h4=>?_) λ h4=>?_
  ·refine qN 24 [.dv,.gen,.dv] (λ _=>[i64.wrap ((BitVec.ofInt 64 r ||| BitVec.ofInt 64 (i64.wrap (1*2 ^ min (s).toNat 64))).toNat:Int)≠0,0 <= s]) (λ _=>(ac (Mi r (by omega)) (ac (by omega) an))) λ _=>RN.em (i64.wrap ((BitVec.ofInt 64 r ||| BitVec.ofInt 64 (i64.wrap (1*2 ^ min (s).toNat 64))).toNat:Int)>i64.wrap (n.tdiv (i64.wrap ((BitVec.ofInt 64 r ||| BitVec.ofInt 64 (i64.wrap (1*2 ^ min (s).toNat 64))).toNat:Int)))) 26 (λ h5=>?_) λ h5=>?_
   ·refine ae 10 [] λ _=>?_
    refine Ri (r,i64.wrap (s-1)) [] [] ?_
    try dsimp only
    have hN:=wm (by omega) YY
    rw[hw (by assumption),Q2]
    refine⟨⟨by omega,by omega,?_⟩,by omega⟩
    simpa only[Ju, *,if_true,if_false] using hN
   ·refine ae 14 [] λ _=>?_
    refine Ri (i64.wrap ((BitVec.ofInt 64 r ||| BitVec.ofInt 64 (i64.wrap (1*2 ^ min (s).toNat 64))).toNat:Int),i64.wrap (s-1)) [] [] ?_
    try dsimp only
    have hN:=wm (by omega) YY
    rw[hw (by assumption),Q2]
    refine⟨⟨by omega,by omega,?_⟩,by omega⟩
    simpa only[Ju, *,if_true,if_false] using hN
  ·refine ae 12 [] λ _=>RN.ret [] [] [] (v:=vI r) (H':=[]) ?_
   refine⟨?_,rfl⟩
   unfold uT
   first|(simp[*];done)|(have e:(s+1).toNat=0:=by omega);(rw[e,uS] at YY);(simp[*])
def aD(a b:V2):V2:=⟨bg (a.x+b.x),bg (a.y+b.y)⟩
def dC(a b:V2):V2:=⟨bg (a.x-b.x),bg (a.y-b.y)⟩
def CN(a:V2):V2:=dC ⟨0,0⟩ a
def al(a:V2)(f:Int):V2:=⟨fZ a.x f,fZ a.y f⟩
def eL(a:V2)(n d:Int):V2:=⟨aA a.x n d,aA a.y n d⟩
def Ff(n:Int):Int:=n.fdiv 1024
def dg(a b:V2):Int:=Ff (bg (bg (a.x*b.x)+bg (a.y*b.y)))
def Fg(a:V2):Int:=uT (bg (bg (a.x*a.x)+bg (a.y*a.y)))
def tu(a:V2):Prop:=a.x=0 /\ a.y=0
instance (a:V2):Decidable (tu a):=inferInstanceAs (Decidable (_ /\ _))
def kU(a:V2):V2:=if tu a then a else eL a 1024 (Fg a)
theorem wo(m n:Int)(F:HL):Sp Tryz.prog 210 #[vI m,vI n] [] F (λ u H'=>u=vI (bg (m+n)) /\ H'=[]):=by
 refine Sp.run Tryz.func210 rfl mn (A:=[]) (Ts:=[]) rfl λ w0=>?_
 refine ae 13 [] λ _=>?_
 exact RN.ret [] [] [] ⟨rfl,rfl⟩
theorem wp(m n:Int)(F:HL):Sp Tryz.prog 263 #[vI m,vI n] [] F (λ u H'=>u=vI (bg (m-n)) /\ H'=[]):=by
 refine Sp.run Tryz.func263 rfl mn (A:=[]) (Ts:=[]) rfl λ w0=>?_
 refine ae 13 [] λ _=>?_
 exact RN.ret [] [] [] ⟨rfl,rfl⟩
theorem pH(m n d:Int)(b:Nat)(F:HL)(hb:(b,.lit [vI d] 3 (0,0))∈F):Sp Tryz.prog 246 #[vI m,vI n,vP b 0] [] F (λ u H'=>u=vI (aA m n d) /\ H'=[]):=by
 refine Sp.run Tryz.func246 rfl (mc hb mn) (A:=[]) (Ts:=[]) rfl λ w0=>?_
 refine ae 10 [.ro 0] λ _=>RN.cp (gj m n d  _)<|ae 3 [] λ _=>?_
 exact RN.ret [] [] [] ⟨rfl,rfl⟩
theorem Fh(a b:V2)  (F:HL):Sp Tryz.prog 209 #[.agg #[vI a.x,vI a.y],.agg #[vI b.x,vI b.y],.func (.func 210) #[] #[]] [] F (λ u H'=>u=.agg #[vI ((aD a b).x),vI ((aD a b).y)] /\ H'=[]):=by
 refine Sp.run Tryz.func209 rfl mn (A:=[]) (Ts:=[]) rfl λ w0=>?_
 refine ae 8 [] λ n1=>RN.draw [13] []<|ag [] [0,1,3,6,7,9,2,4,8,10] [.own 2,.own 1,.own 2,.own 1]<|RD.cp [] 5 (λ X_=>(wo a.x b.x _))<|RD.cp [] 11 (λ X_=>(wo a.y b.y _))<|ag [] [12] []<|RD.one 13 (RDO.ev [] [.own 0,.own 0] λ _=>?_)
 refine RD.fin<|ae 1 [] λ _=>?_
 exact RN.ret [.own 0,.own 0] [] [] ⟨rfl,rfl⟩
theorem Fi(a b:V2)  (F:HL):Sp Tryz.prog 209 #[.agg #[vI a.x,vI a.y],.agg #[vI b.x,vI b.y],.func (.func 263) #[] #[]] [] F (λ u H'=>u=.agg #[vI ((dC a b).x),vI ((dC a b).y)] /\ H'=[]):=by
 refine Sp.run Tryz.func209 rfl mn (A:=[]) (Ts:=[]) rfl λ w0=>?_
 refine ae 8 [] λ n1=>RN.draw [13] []<|ag [] [0,1,3,6,7,9,2,4,8,10] [.own 2,.own 1,.own 2,.own 1]<|RD.cp [] 5 (λ X_=>(wp a.x b.x _))<|RD.cp [] 11 (λ X_=>(wp a.y b.y _))<|ag [] [12] []<|RD.one 13 (RDO.ev [] [.own 0,.own 0] λ _=>?_)
 refine RD.fin<|ae 1 [] λ _=>?_
 exact RN.ret [.own 0,.own 0] [] [] ⟨rfl,rfl⟩
theorem Fj(a b:V2)  (F:HL):Sp Tryz.prog 209 #[.agg #[vI a.x,vI a.y],.agg #[vI b.x,vI b.y],.func (.func 212) #[] #[]] [] F (λ u H'=>u=.agg #[vI ((⟨fZ a.x b.x,fZ a.y b.y⟩:V2).x),vI ((⟨fZ a.x b.x,fZ a.y b.y⟩:V2).y)] /\ H'=[]):=by
 refine Sp.run Tryz.func209 rfl mn (A:=[]) (Ts:=[]) rfl λ w0=>?_
 refine ae 8 [] λ n1=>RN.draw [13] []<|ag [] [0,1,3,6,7,9,2,4,8,10] [.own 2,.own 1,.own 2,.own 1]<|RD.cp [] 5 (λ X_=>(nU a.x b.x  _))<|RD.cp [] 11 (λ X_=>(nU a.y b.y  _))<|ag [] [12] []<|RD.one 13 (RDO.ev [] [.own 0,.own 0] λ _=>?_)
 refine RD.fin<|ae 1 [] λ _=>?_
 exact RN.ret [.own 0,.own 0] [] [] ⟨rfl,rfl⟩
theorem wq(a b:V2)(d:Int)(q:Nat)(F:HL)(hq:(q,.lit [vI d] 3 (0,0))∈F):Sp Tryz.prog 209 #[.agg #[vI a.x,vI a.y],.agg #[vI b.x,vI b.y],.func (.func 246) #[] #[vP q 0]] [] F (λ u H'=>u=.agg #[vI ((⟨aA a.x b.x d,aA a.y b.y d⟩:V2).x),vI ((⟨aA a.x b.x d,aA a.y b.y d⟩:V2).y)] /\ H'=[]):=by
 refine Sp.run Tryz.func209 rfl (mc hq mn) (A:=[]) (Ts:=[]) rfl λ w0=>?_
 refine ae 8 [] λ n1=>RN.draw [13] []<|ag [] [0,1,3,6,7,9,2,4,8,10] [.own 2,.own 1,.own 2,.own 1]<|RD.cp [] 5 (λ X_=>(pH a.x b.x d q _ (oM hq)))<|RD.cp [] 11 (λ X_=>(pH a.y b.y d q _ (oM hq)))<|ag [] [12] []<|RD.one 13 (RDO.ev [] [.own 0,.own 0] λ _=>?_)
 refine RD.fin<|ae 1 [] λ _=>?_
 exact RN.ret [.own 0,.own 0] [] [] ⟨rfl,rfl⟩
theorem pI(n:Int)(F:HL):Sp Tryz.prog 211 #[vI n] [] F (λ u H'=>u=.agg #[vI n,vI n] /\ H'=[]):=by
 refine Sp.run Tryz.func211 rfl mn (A:=[]) (Ts:=[]) rfl λ w0=>?_
 refine ae 13 [.own 0,.own 0] λ n1=>?_
 exact RN.ret [.own 0,.own 0] [] [] ⟨rfl,rfl⟩
theorem eo(a:V2)(b:V2)  (F:HL):Sp Tryz.prog 189 #[.agg #[vI a.x,vI a.y],.agg #[vI b.x,vI b.y]] [] F (λ u H'=>u=.agg #[vI ((aD a b).x),vI ((aD a b).y)] /\ H'=[]):=by
 refine Sp.run Tryz.func189 rfl mn (A:=[]) (Ts:=[]) rfl λ w0=>?_
 refine ae 11 [.own 2,.own 2,.own 1,.own 1] λ n1=>RN.cp (Fh a b _)<|ae 3 [.own 0,.own 0] λ _=>?_
 exact RN.ret [.own 0,.own 0] [] [] ⟨rfl,rfl⟩
theorem iT(a:V2)(b:V2)  (F:HL):Sp Tryz.prog 235 #[.agg #[vI a.x,vI a.y],.agg #[vI b.x,vI b.y]] [] F (λ u H'=>u=.agg #[vI ((dC a b).x),vI ((dC a b).y)] /\ H'=[]):=by
 refine Sp.run Tryz.func235 rfl mn (A:=[]) (Ts:=[]) rfl λ w0=>?_
 refine ae 11 [.own 2,.own 2,.own 1,.own 1] λ n1=>RN.cp (Fi a b _)<|ae 3 [.own 0,.own 0] λ _=>?_
 exact RN.ret [.own 0,.own 0] [] [] ⟨rfl,rfl⟩
theorem Fk(a:V2)  (F:HL):Sp Tryz.prog 236 #[.agg #[vI a.x,vI a.y]] [] F (λ u H'=>u=.agg #[vI ((CN a).x),vI ((CN a).y)] /\ H'=[]):=by
 refine Sp.run Tryz.func236 rfl mn (A:=[]) (Ts:=[]) rfl λ w0=>?_
 refine ae 10 [.own 1,.own 1] λ n1=>RN.cp (iT (⟨0,0⟩:V2) a  _)<|ae 3 [.own 0,.own 0] λ _=>?_
 exact RN.ret [.own 0,.own 0] [] [] ⟨rfl,rfl⟩
theorem eV(a:V2)(f:Int)  (F:HL):Sp Tryz.prog 190 #[.agg #[vI a.x,vI a.y],vI f] [] F (λ u H'=>u=.agg #[vI ((al a f).x),vI ((al a f).y)] /\ H'=[]):=by
 refine Sp.run Tryz.func190 rfl mn (A:=[]) (Ts:=[]) rfl λ w0=>?_
 refine ae 7 [] λ n1=>RN.draw [4] []<|ag [] [0,1] [.own 1,.own 1]<|RD.cp [] 2 (λ X_=>(pI f _))<|RD.cp [] 3 (λ X_=>(Fj a (⟨f,f⟩:V2) _))<|RD.one 4 (RDO.ev [] [.own 0,.own 0] λ _=>?_)
 refine RD.fin<|ae 1 [] λ _=>?_
 exact RN.ret [.own 0,.own 0] [] [] ⟨rfl,rfl⟩
theorem lx(a:V2)(n:Int)(d:Int)  (F:HL):Sp Tryz.prog 217 #[.agg #[vI a.x,vI a.y],vI n,vI d] [] F (λ u H'=>u=.agg #[vI ((eL a n d).x),vI ((eL a n d).y)] /\ H'=[]):=by
 refine Sp.run Tryz.func217 rfl mn (A:=[]) (Ts:=[]) rfl λ w0=>?_
 refine ae 8 [] λ n1=>RN.draw [5] []<|ag [] [0,1,3] [.own 2,.own 2]<|RD.cp [] 2 (λ X_=>(pI n _))<|RD.cp [] 4 (λ X_=>(wq a (⟨n,n⟩:V2) d (n1+1) _ (jH 1)))<|RD.one 5 (RDO.ev [] [.own 0,.own 0] λ _=>?_)
 refine RD.fin<|ae 1 [] λ _=>?_
 exact RN.ret [.own 0,.own 0] [] [] ⟨rfl,rfl⟩
theorem CO(n:Int)  (F:HL):Sp Tryz.prog 262 #[vI n] [] F (λ u H'=>u=vI (Ff n) /\ H'=[]):=by
 refine Sp.run Tryz.func262 rfl mn (A:=[]) (Ts:=[]) rfl λ w0=>?_
 refine ae 12 [] λ _=>?_
 exact RN.ret [] [] [] ⟨rfl,rfl⟩
theorem nV(a:V2)(b:V2)  (F:HL):Sp Tryz.prog 234 #[.agg #[vI a.x,vI a.y],.agg #[vI b.x,vI b.y]] [] F (λ u H'=>u=vI (dg a b) /\ H'=[]):=by
 refine Sp.run Tryz.func234 rfl mn (A:=[]) (Ts:=[]) rfl λ w0=>?_
 refine ae 20 [.own 1,.own 0,.own 1,.own 0] λ n1=>RN.cp (CO (i64.wrap ((i64.wrap (a.x*b.x))+(i64.wrap (a.y*b.y))))  _)<|ae 3 [] λ _=>?_
 exact RN.ret [] [] [] ⟨rfl,rfl⟩
theorem Fl(a:V2)  (F:HL):Sp Tryz.prog 296 #[.agg #[vI a.x,vI a.y]] [] F (λ u H'=>u=vI (Fg a) /\ H'=[]):=by
 refine Sp.run Tryz.func296 rfl mn (A:=[]) (Ts:=[]) rfl λ w0=>?_
 refine ae 19 [.own 0,.own 0,.own 0,.own 0] λ n1=>RN.cp (CM (i64.wrap ((i64.wrap (a.x*a.x))+(i64.wrap (a.y*a.y))))  _)<|ae 3 [] λ _=>?_
 exact RN.ret [] [] [] ⟨rfl,rfl⟩
theorem CP(a:V2)  (F:HL):Sp Tryz.prog 292 #[.agg #[vI a.x,vI a.y]] [] F (λ u H'=>u=.agg #[vI ((kU a).x),vI ((kU a).y)] /\ H'=[]):=by
 refine Sp.run Tryz.func292 rfl mn (A:=[]) (Ts:=[]) rfl λ w0=>?_
 refine ae 14 [.own 1,.own 1,.sq] λ n1=>jo ((decide (a.x=0) && (decide (a.y=0) && true))) 5 (λ h2=>?_) λ h2=>?_
 ·refine ae 7 [.own 1,.own 1,.own 0,.own 0] λ _=>RN.ret [.own 0,.own 0] [] [] (v:=.agg #[vI a.x,vI a.y]) (H':=[]) ?_
  refine⟨?_,rfl⟩
  unfold kU
  first|rw[if_pos (by simpa [tu] using h2)]|rw[if_neg (by simpa [tu] using h2)]
 ·refine ae 4 [] λ _=>RN.draw [4] []<|ag [] [0,1] [.own 1,.own 1,.own 1,.own 1]<|RD.cp [] 2 (λ X_=>(Fl a  _))<|RD.cp [] 3 (λ X_=>(lx a 1024 (Fg a)  _))<|RD.one 4 (RDO.ev [] [.own 0,.own 0] λ _=>?_)
  refine RD.fin<|ae 1 [] λ _=>RN.ret [.own 0,.own 0] [] [] (v:=.agg #[vI ((eL a 1024 (Fg a)).x),vI ((eL a 1024 (Fg a)).y)]) (H':=[]) ?_
  refine⟨?_,rfl⟩
  unfold kU
  first|rw[if_pos (by simpa [tu] using h2)]|rw[if_neg (by simpa [tu] using h2)]
structure Shp where (r:Int) (poly:List V2) (A:Option Addr) (cap:Nat)
abbrev NT(s:Shp):Value:=.agg #[vI s.r,.slice s.A s.poly.length s.cap]
def jV(l:List V2):Nat -> Nat -> Value:=λ i k=>match k with|0=>vI (l.getD i ⟨0,0⟩).x|_=>vI (l.getD i ⟨0,0⟩).y
inductive ShIn(F:HL):Shp -> Prop
 | circle (r:Int) (A:Option Addr) (cap:Nat):ShIn F ⟨r,[],A,cap⟩
 | poly (r:Int) (l:List V2) (b cap:Nat) (h:(b,.rows 2 cap (jV l) 29 (0,0))∈F) (h3:3 <= l.length) (h4:l.length <= cap) (h5:l.length <= 1000000):ShIn F ⟨r,l,some ⟨b,0,none⟩,cap⟩
theorem ShIn.mono{F F':HL}{s:Shp}(h:ShIn F s)(hs:∀x∈F,x∈F'):ShIn F' s:=by
 cases h with
 | circle r A cap=>exact .circle r A cap
 | poly r l b cap h h3 h4 h5=>exact .poly r l b cap (hs _ h) h3 h4 h5
def jI(s:Shp):Prop:=s.poly=[]
instance (s:Shp):Decidable (jI s):=decidable_of_iff (s.poly.isEmpty=true) (by simp[jI])
def Od(b:Bx)(c:V2):Bx:=⟨if c.x<b.x0 then c.x else b.x0,if c.y<b.y0 then c.y else b.y0,if c.x>b.x1 then c.x else b.x1,if c.y>b.y1 then c.y else b.y1⟩
def mD(pos:V2)(l:List V2):Nat -> Bx
 | 0=>⟨(aD pos (l.getD 0 ⟨0,0⟩)).x,(aD pos (l.getD 0 ⟨0,0⟩)).y,(aD pos (l.getD 0 ⟨0,0⟩)).x,(aD pos (l.getD 0 ⟨0,0⟩)).y⟩
 | k+1=>Od (mD pos l k) (aD pos (l.getD (1+k) ⟨0,0⟩))
def eD(s:Shp)(pos:V2):Bx:=if jI s then ⟨bg (pos.x-s.r),bg (pos.y-s.r),bg (pos.x+s.r),bg (pos.y+s.r)⟩ else mD pos s.poly (s.poly.length-1)
def pJ(a b c d:Int):Prop:=a <= d /\ c <= b
instance (a b c d:Int):Decidable (pJ a b c d):=inferInstanceAs (Decidable (_ /\ _))
def NU(a b:Bx):Prop:=pJ a.x0 a.x1 b.x0 b.x1 /\ pJ a.y0 a.y1 b.y0 b.y1
instance (a b:Bx):Decidable (NU a b):=inferInstanceAs (Decidable (_ /\ _))
theorem oP(r:Int)(A:Option Addr)(n cap:Nat)(F:HL):Sp Tryz.prog 117 #[.agg #[vI r,.slice A n cap]] [] F (λ u H'=>u=.bool (decide ((n:Int)=0)) /\ H'=[]):=by
 refine Sp.run Tryz.func117 rfl mn (A:=[]) (Ts:=[]) rfl λ w0=>?_
 refine ae 15 [.own 0] λ n1=>?_
 exact RN.ret [] [] [] ⟨rfl,rfl⟩
theorem iU(r:Int)(A:Option Addr)(n cap:Nat)(F:HL):Sp Tryz.prog 259 #[.agg #[vI r,.slice A n cap]] [] F (λ u H'=>u=.bool (decide ((n:Int)=0)) /\ H'=[]):=by
 refine Sp.run Tryz.func259 rfl mn (A:=[]) (Ts:=[]) rfl λ w0=>?_
 refine ae 15 [.own 0] λ n1=>?_
 exact RN.ret [] [] [] ⟨rfl,rfl⟩
theorem wt(a:Int)(b:Int)(c:Int)(d:Int)  (F:HL):Sp Tryz.prog 256 #[vI a,vI b,vI c,vI d] [] F (λ u H'=>u=.bool (decide (pJ a b c d)) /\ H'=[]):=by
 refine Sp.run Tryz.func256 rfl mn (A:=[]) (Ts:=[]) rfl λ w0=>?_
 refine ae 11 [] λ _=>RN.em (a <= d) 12 (λ h1=>?_) λ h1=>?_
 ·refine ae 7 [] λ _=>RN.ret [] [] [] (v:=.bool (decide (c <= b))) (H':=[]) ?_
  exact⟨by simp[pJ, *],rfl⟩
 ·refine ae 7 [] λ _=>RN.ret [] [] [] (v:=.bool false) (H':=[]) ?_
  exact⟨by simp[pJ, *],rfl⟩
theorem Jv(a:Bx)(b:Bx)  (F:HL):Sp Tryz.prog 230 #[.agg #[vI a.x0,vI a.y0,vI a.x1,vI a.y1],.agg #[vI b.x0,vI b.y0,vI b.x1,vI b.y1]] [] F (λ u H'=>u=.bool (decide (NU a b)) /\ H'=[]):=by
 refine Sp.run Tryz.func230 rfl mn (A:=[]) (Ts:=[]) rfl λ w0=>?_
 refine ae 17 [.own 1,.own 1,.own 0,.own 0] λ n1=>RN.cp (wt a.x0 a.x1 b.x0 b.x1  _)<|ae 1 [] λ _=>RN.em (pJ a.x0 a.x1 b.x0 b.x1) 14 (λ h2=>?_) λ h2=>?_
 ·refine ae 8 [.own 1,.own 1,.own 0,.own 0] λ _=>RN.cp (wt a.y0 a.y1 b.y0 b.y1  _)<|ae 4 [] λ _=>RN.ret [] [] [] (v:=.bool (decide (pJ a.y0 a.y1 b.y0 b.y1))) (H':=[]) ?_
  exact⟨by simp[NU, *],rfl⟩
 ·refine ae 13 [] λ _=>RN.ret [] [] [] (v:=.bool false) (H':=[]) ?_
  exact⟨by simp[NU, *],rfl⟩
theorem sS(r:Int)(A:Option Addr)(cap:Nat)(pos:V2)(F:HL):Sp Tryz.prog 231 #[.agg #[vI r,.slice A 0 cap],.agg #[vI pos.x,vI pos.y]] [] F (λ u H'=>u=.agg #[vI ((eD ⟨r,[],A,cap⟩ pos).x0),vI ((eD ⟨r,[],A,cap⟩ pos).y0),vI ((eD ⟨r,[],A,cap⟩ pos).x1),vI ((eD ⟨r,[],A,cap⟩ pos).y1)] /\ H'=[]):=by
 refine Sp.run Tryz.func231 rfl mn (A:=[]) (Ts:=[]) rfl λ w0=>?_
 refine ae 11 [.own 2,.own 2] λ n1=>RN.cp (oP r A 0 cap _)<|ae 29 [.own 1,.own 2,.own 1,.own 2,.own 1,.own 2,.own 1,.own 2,.own 0,.own 0,.own 0,.own 0] λ _=>?_
 exact RN.ret [.own 0,.own 0,.own 0,.own 0] [] [] ⟨rfl,rfl⟩
theorem wu(r:Int)(l:List V2)(b cap:Nat)(pos:V2)(F:HL)(hb:(b,.rows 2 cap (jV l) 29 (0,0))∈F)(h3:3 <= l.length)(h4:l.length <= cap)(h5:l.length <= 1000000):Sp Tryz.prog 231 #[.agg #[vI r,vS b 0 l.length cap],.agg #[vI pos.x,vI pos.y]] [] F (λ u H'=>u=.agg #[vI ((eD ⟨r,l,some ⟨b,0,none⟩,cap⟩ pos).x0),vI ((eD ⟨r,l,some ⟨b,0,none⟩,cap⟩ pos).y0),vI ((eD ⟨r,l,some ⟨b,0,none⟩,cap⟩ pos).x1),vI ((eD ⟨r,l,some ⟨b,0,none⟩,cap⟩ pos).y1)] /\ H'=[]):=by
 refine Sp.run Tryz.func231 rfl (mc hb mn) (A:=[]) (Ts:=[]) rfl λ w0=>?_
 refine ae 11 [.own 2,.own 2] λ n1=>RN.cp (oP r (some ⟨b,0,none⟩) l.length cap _)<|ae 2 [] λ _=>cH 11 (decide_eq_false (show ¬ ((l.length:Int)=0) by omega))<|ae 4 [] λ _=>RN.draw [7] []<|aG [] [0,1,2,3,4] [.own 1,.own 1,.own 2,.ix 0,.rorow 0 0 0,.rorow 0 0 1] [((0+0*2)+1)=0*2+1 /\ 0<cap,(0+0*2)=0*2+0 /\ 0<cap,0=((0:Nat):Int) /\ 0<l.length]<|RD.cp [] 5 (λ X_=>(eo pos (l.getD 0 ⟨0,0⟩)  _))<|RD.one 6 (RDO.ev [] [] λ n2=>?_)
 refine RD.one 7 (RDO.ev [] [.own 0,.own 0] λ _=>?_)
 refine RD.fin<|ai 27 (ow 0 8++[.own 4,.sl 1 l.length false]) [1=((1:Nat):Int) /\ l.length=l.length /\ 1 <= l.length /\ l.length <= cap /\ cap≠1] λ n3=>RN.loop (σ:=Nat) (λ k=>⟨[(3,vP (n1+1) 0),(4,vP (n1+2) 0),(6,vP (n3+0) 0),(50,vS b 2 (l.length-1) (cap-1)),(51,vI (((l.length-1):Nat):Int)),(52,vI (k:Int))],[((n3+0),.lit [vI ((mD pos l k).x0),vI ((mD pos l k).y0),vI ((mD pos l k).x1),vI ((mD pos l k).y1)] 25 (0,0)),((n2+0),.lit [vI ((aD pos (l.getD 0 ⟨0,0⟩)).x),vI ((aD pos (l.getD 0 ⟨0,0⟩)).y)] 29 (0,0)),((n1+2),.lit [vI 0,vI 0,vI 0,vI 0] 25 (0,0)),((n1+1),.lit [vI pos.x,vI pos.y] 29 (0,0)),((n1+0),.lit [vI r,vS b 0 l.length cap] 73 (0,0))],[],k <= l.length-1,l.length-k⟩) 0 [0,1,2,3,4] [] (Nat.zero_le _) ?_
 rintro k hI4 SQ
 refine ae 6 [] λ _=>RN.em ((k:Int)<(((l.length-1):Nat):Int)) 53 (λ h6=>?_) λ h6=>?_
 ·refine ai 17 [.ix k,.rorow 0 (1+k) 0,.rorow 0 (1+k) 1,.own 0,.own 0,.own 4,.own 4,.own 0,.own 0] [((2+k*2)+1)=(1+k)*2+1 /\ (1+k)<cap,(2+k*2)=(1+k)*2+0 /\ (1+k)<cap,(k:Int)=((k:Nat):Int) /\ k<(l.length-1)] λ n7=>RN.cp (eo pos (l.getD (1+k) ⟨0,0⟩)  _)<|ae 5 [.own 0,.own 0] λ n8=>RN.draw [11,13] [0,1,3,4,5,6]<|ag [0,1,3,4,5,6] [0,2,5,7,1,3,6,8,4,9,10] [.own 2,.own 0,.own 2,.ro 0]<|RD.one 11 (RDO.ev [0,1,3,4,5,6] [.own 2] λ _=>?_)
  refine ag [0,1,3,4,5,6] [12] []<|RD.one 13 (RDO.ev [0,1,3,4,5,6] [.own 2] λ _=>?_)
  refine RD.fin<|ae 1 [] λ _=>RN.draw [11,13] [0,1,3,4,5,6]<|ag [0,1,3,4,5,6] [0,2,5,7,1,3,6,8,4,9,10] [.own 2,.own 0,.own 2,.ro 0]<|RD.one 11 (RDO.ev [0,1,3,4,5,6] [.own 2] λ _=>?_)
  refine ag [0,1,3,4,5,6] [12] []<|RD.one 13 (RDO.ev [0,1,3,4,5,6] [.own 2] λ _=>?_)
  refine RD.fin<|ai 6 [.nw] [aU ((k:Int)+1)] λ _=>?_
  refine SQ (k+1) [2,3,4,5,6] [] ?_
  try dsimp only
  refine⟨by omega,by omega⟩
 ·refine ae 12 [.own 0,.own 0,.own 0,.own 0,.own 2,.own 2,.own 2,.own 2] λ _=>RN.ret [.own 2,.own 2,.own 2,.own 2] [] [] (v:=.agg #[vI ((mD pos l k).x0),vI ((mD pos l k).y0),vI ((mD pos l k).x1),vI ((mD pos l k).y1)]) (H':=[]) ?_
  have ek:k=l.length-1:=by omega
  subst ek
  refine⟨?_,rfl⟩
  unfold eD
  rw[if_neg (by intro e;simp[jI] at e;rw[e] at h3;simp at h3)]
theorem qR(s:Shp)(pos:V2)(F:HL)(h:ShIn F s):Sp Tryz.prog 231 #[NT s,.agg #[vI pos.x,vI pos.y]] [] F (λ u H'=>u=.agg #[vI (eD s pos).x0,vI (eD s pos).y0,vI (eD s pos).x1,vI (eD s pos).y1] /\ H'=[]):=by
 cases h with
 | circle r A cap=>exact sS r A cap pos F
 | poly r l b cap h h3 h4 h5=>exact wu r l b cap pos F h h3 h4 h5
section
variable {r:Option Nat} {P:Program} {N:Nat} {D:List Deferred} {F:HL} {w0:World} {R:HL} {s:Cfg} {Q:Exit -> Act -> World -> Prop} {hards:List Nat} {Rd:HL}
def Oe(i:Nat)(b:Blk)(s:Cfg):Cfg:=match s with
 | ⟨c,k,L,A,Ts⟩=>⟨c,k,L,match A[i]? with|some x=>bz A i (x.1,b)|none=>A,Ts⟩
theorem oQ{A:HL}{i:Nat}{x:Nat × Blk}{b:Blk}(h:A[i]?=some x)(e:x.2.den=b.den):dT A=dT (bz A i (x.1,b)):=by
 rw[iJ]
 unfold dT
 rw[List.map_set]
 have h1:(A.map λ x=>(x.1,x.2.den))[i]?=some (x.1,b.den):=by rw[List.getElem?_map,h];simp[e]
 have iF:i<(A.map λ x=>(x.1,x.2.den)).length:=(List.getElem?_eq_some_iff.1 h1).1
 have h2:(x.1,b.den)=(A.map λ x=>(x.1,x.2.den))[i]:=((List.getElem?_eq_some_iff.1 h1).2).symm
 show _=(A.map λ x=>(x.1,x.2.den)).set i (x.1,b.den)
 rw[h2,List.set_getElem_self]
def Og(i:Nat)(s:Cfg):Option Obj:=(s.A[i]?).map (·.2.den)
theorem RN.dn(i:Nat)(b:Blk)(hk:RN r P N D F w0 R (Oe i b s) Q)(h:Og i s=some b.den:=by kernel_rfl):RN r P N D F w0 R s Q:=by
 refine⟨λ hR a w h1 h2 h3=>hk.h hR a w h1 ?_ h3⟩
 obtain⟨c,k,L,A,Ts⟩:=s
 unfold Og at h
 simp only[Option.map_eq_some_iff] at h
 obtain⟨x,hx,e⟩:=h
 unfold Oe
 simp only[hx]
 exact h2.denA (oQ hx e)
theorem RD.dn(i:Nat)(b:Blk)(hk:RD r P N D F w0 R hards Rd (Oe i b s) Q)(h:Og i s=some b.den:=by kernel_rfl):RD r P N D F w0 R hards Rd s Q:=by
 refine⟨λ hR hs=>?_⟩
 obtain⟨c,k,L,A,Ts⟩:=s
 unfold Og at h
 simp only[Option.map_eq_some_iff] at h
 obtain⟨x,hx,e⟩:=h
 have h1:=hk.h hR hs
 unfold Oe at h1
 simp only[hx] at h1
 exact TD.den _ (oQ hx e) h1
def ptC(jp:List Nat)(s:Cfg):Cfg:=match s with
 | ⟨c,k,L,A,Ts⟩=>⟨c,k,L,A,jp.filterMap (Ts[·]?)⟩
theorem kV(jp:List Nat)(hk:RN r P N D F w0 R (ptC jp s) Q)(h:jp.isPerm (List.range s.Ts.length)=true:=by kernel_rfl):RN r P N D F w0 R s Q :=
 ⟨λ hR a w h1 h2 h3=>hk.h hR a w h1 (h2.perm ((E6 jp h rfl).append_right F)) h3⟩
def otC(j:Nat)(x:Nat × Blk)(s:Cfg):Cfg:=match s with
 | ⟨c,k,L,A,Ts⟩=>⟨c,k,L,x::A,(oth [j] Ts.length).filterMap (Ts[·]?)⟩
theorem pK(j:Nat){x:Nat × Blk}(hk:RN r P N D F w0 R (otC j x s) Q)(h:(s.Ts[j]?,([j]++oth [j] s.Ts.length).isPerm (List.range s.Ts.length))=(some [x],true):=by kernel_rfl):RN r P N D F w0 R s Q:=by
 simp only[Prod.mk.injEq] at h
 exact⟨λ hR a w h1 h2 h3=>hk.h hR a w h1 (h2.perm ((zb _ j h.2 h.1 rfl).append_right F)) h3⟩
def jtC(s:Cfg):Cfg:=match s with
 | ⟨c,k,L,A,T1::T2::Ts⟩=>⟨c,k,L,A,(T1++T2)::Ts⟩
 | s=>s
theorem mE(hk:RN r P N D F w0 R (jtC s) Q):RN r P N D F w0 R s Q:=by
 refine⟨λ hR a w h1 h2 h3=>?_⟩
 have h4:=hk.h hR a w
 unfold jtC at h4
 split at h4
 ·exact h4 h1 (by simpa [ap] using h2) h3
 ·exact h4 h1 h2 h3
def ntC(s:Cfg):Cfg:=match s with
 | ⟨c,k,L,A,Ts⟩=>⟨c,k,L,A,[]::Ts⟩
theorem RN.nt(hk:RN r P N D F w0 R (ntC s) Q):RN r P N D F w0 R s Q:=⟨λ hR a w h1 h2 h3=>hk.h hR a w h1 h2 h3⟩
def svC(t:Nat)(v:Value)(s:Cfg):Cfg:=match s with
 | ⟨c,k,L,A,Ts⟩=>⟨c,k,(t,v)::L,A,Ts⟩
theorem aB(t:Nat){u v:Value}(e:u=v)(hk:RN r P N D F w0 R (svC t v s) Q)(h:s.L.lookup t=some u:=by kernel_rfl):RN r P N D F w0 R s Q:=by
 subst e
 exact⟨λ hR a w h1 h2 h3=>hk.h hR a w (h1.fix h) h2 h3⟩
def Oh(i:Nat)(b:Blk)(s:Cfg):Cfg:=match s with
 | ⟨c,k,L,A,Ts⟩=>⟨c,k,L,match A[i]? with|some x=>bz A i (x.1,b)|none=>A,Ts⟩
theorem cj(i:Nat){b b':Blk}(e:b=b')(hk:RN r P N D F w0 R (Oh i b' s) Q)(h:(s.A[i]?).map (·.2)=some b:=by kernel_rfl):RN r P N D F w0 R s Q:=by
 subst e
 refine⟨λ hR a w h1 h2 h3=>hk.h hR a w h1 ?_ h3⟩
 obtain⟨c,k,L,A,Ts⟩:=s
 simp only[Option.map_eq_some_iff] at h
 obtain⟨x,hx,e⟩:=h
 unfold Oh
 simp only[hx]
 refine h2.denA (oQ hx (by rw[e]))
variable {α:Type} {e:Enc α} {T:TypeId} {inf:TypeInfo} {z:Value}
def Jw(P:Program)(o:Oper)(L:FL):Option (Option Addr × Nat × Nat × TypeId × Option Addr × Nat × Nat × TypeId):=match o.guard,o.op with
 | none,.call c=>match c.callee,c.args.toList,c.argTypes.toList with
  | .builtin .append,[a1,a2],[t,tx]=>match kR L a1 && kR L a2,ik L a1,ik L a2 with
   | true,.slice A n cap,.slice B m c'=>match P.underlying t,P.underlying tx with
    | some (.slice T),some (.slice _)=>some (A,n,cap,T,B,m,c',tx)
    | _,_=>none
   | _,_,_=>none
  | _,_,_=>none
 | _,_=>none
theorem tw{o:Oper}{L:FL}{A:Option Addr}{n cap:Nat}{B:Option Addr}{m c':Nat}{tx:TypeId}(h:Jw P o L=some (A,n,cap,T,B,m,c',tx)) :
  ∃a1 a2 t e',o.guard=none /\ o.op=.call { callee:=.builtin .append,args:=#[a1,a2],argTypes:=#[t,tx] } /\ (kR L a1 && kR L a2)=true /\ ik L a1=.slice A n cap /\ ik L a2=.slice B m c' /\ P.underlying t=some (.slice T) /\ P.underlying tx=some (.slice e'):=by
 unfold Jw at h
 split at h
 case h_2=>cases h
 rename_i c hg I_
 split at h
 case h_2=>cases h
 rename_i a1 a2 t Zk h1 h2 h3
 split at h
 case h_2=>cases h
 rename_i A' n' bY B' m' c2 h4 h5 h6
 split at h
 case h_2=>cases h
 rename_i T' e' h7 h8
 simp only[Option.some.injEq,Prod.mk.injEq] at h
 obtain⟨e1,e2,e3,e4,e5,e6,e7,e8⟩:=h
 subst e1;subst e2;subst e3;subst e4;subst e5;subst e6;subst e7;subst e8
 refine⟨a1,a2,t,e',hg,?_,h4,h5,h6,h7,h8⟩
 obtain⟨cal,args,ZE⟩:=c
 simp only at h1 h2 h3
 subst h1
 have:args=#[a1,a2]:=by cases args;simp_all
 subst this
 have:ZE=#[t,Zk]:=by cases ZE;simp_all
 subst this
 exact I_
def p7(s:Cfg):Option Oper:=match s.c with
 | .ops ops i=>ops.toList[i]?
 | _=>none
def Bh(i:Nat)(s:Cfg):Option Oper:=match s.c with
 | .drw ops _=>ops.toList[i]?
 | _=>none
def Mj(p:Nat)(s:Cfg):Option (Nat × List Value):=match s.A[p]? with
 | some (b,.lit cs _ _)=>some (b,cs)
 | _=>none
def Jy(P:Program)(N j p:Nat)(oo:Option Oper)(s:Cfg):Option (Option Addr × Nat × Nat × TypeId × Nat × List Value × HL × Nat):=match oo with
 | some o=>match Jw P o s.L,Mj p s,s.Ts[j]?,([j]++oth [j] s.Ts.length).isPerm (List.range s.Ts.length) && (fg N o.dst undef s.L).isSome with
  | some (A,n,cap,T,some ⟨b,0,none⟩,m,_,_),some (_,cs),some Hl,true=>some (A,n,cap,T,m,cs,Hl,b)
  | _,_,_,_=>none
 | none=>none
def Jz(p:Nat)(s:Cfg):Nat:=match Mj p s with
 | some (b,_)=>b
 | none=>0
theorem tz{j p:Nat}{oo:Option Oper}{A:Option Addr}{n cap m:Nat}{cs:List Value}{Hl:HL}(h:Jy P N j p oo s=some (A,n,cap,T,m,cs,Hl,Jz p s)) :
  ∃o a1 a2 t tx e' c' b ty fz,oo=some o /\ o.guard=none /\ o.op=.call { callee:=.builtin .append,args:=#[a1,a2],argTypes:=#[t,tx] } /\ (kR s.L a1 && kR s.L a2)=true /\ ik s.L a1=.slice A n cap /\ ik s.L a2=.slice (some ⟨b,0,none⟩) m c' /\ P.underlying t=some (.slice T) /\ P.underlying tx=some (.slice e') /\
   s.A[p]?=some (b,.lit cs ty fz) /\ s.Ts[j]?=some Hl /\ ([j]++oth [j] s.Ts.length).isPerm (List.range s.Ts.length)=true /\ (fg N o.dst undef s.L).isSome=true:=by
 unfold Jy at h
 split at h
 case h_2=>cases h
 rename_i o
 split at h
 case h_2=>cases h
 rename_i A' n' bY T' b m' c' tx b' cs' H_ h1 h2 h3 h4
 simp only[Option.some.injEq,Prod.mk.injEq] at h
 obtain⟨e1,e2,e3,e4,e5,e6,e7,e8⟩:=h
 subst e1;subst e2;subst e3;subst e4;subst e5;subst e6;subst e7
 obtain⟨a1,a2,t,e',q1,q2,q3,q4,q5,q6,q7⟩:=tw h1
 rw[Bool.and_eq_true] at h4
 unfold Jz at e8
 rw[h2] at e8
 simp only at e8
 subst e8
 unfold Mj at h2
 split at h2
 case h_2=>cases h2
 rename_i b2 cs2 ty fz h5
 simp only[Option.some.injEq,Prod.mk.injEq] at h2
 obtain⟨e1,e2⟩:=h2
 subst e1;subst e2
 exact⟨o,a1,a2,t,tx,e',c',_,ty,fz,rfl,q1,q2,q3,q4,q5,q6,q7,h5,h3,h4.1,h4.2⟩
def NV(j:Nat)(Hl:HL)(s:Cfg):Cfg:=match s with
 | ⟨c,k,L,A,Ts⟩=>⟨c,k,L,A,Hl::(oth [j] Ts.length).filterMap (Ts[·]?)⟩
theorem iE{A:HL}{Ts:List HL}{Hl:HL}{j:Nat}(hj:Ts[j]?=some Hl)(hp:([j]++oth [j] Ts.length).isPerm (List.range Ts.length)=true):(Hl++(A++((oth [j] Ts.length).filterMap (Ts[·]?)).flatten)).Perm (ap A Ts):=by
 have h3:=fH Ts [j] _ hp
 simp only[List.filterMap_cons,hj,List.filterMap_nil] at h3
 have h4:=h3.flatten
 simp only[List.cons_append,List.nil_append,List.flatten_cons] at h4
 refine List.Perm.trans ?_ (List.Perm.append_left A h4)
 rw[<- List.append_assoc,<- List.append_assoc]
 exact List.Perm.append_right _ List.perm_append_comm
theorem fR(ok:EncOk e P T inf z)(l src:List α)(j p:Nat){A:Option Addr}{n cap:Nat}{Hl:HL}(hn:n=l.length)(Uo:SlIs e T l A cap Hl)(hb:l.length+src.length <= 100000000)
  (hk:∀ (A':Option Addr) (bY:Nat) (H_:HL),(SlIs e T (l++src) A' bY H_ /\ (cu A -> cu A')) -> RN r P N D F w0 R (NV j H_ (fD N (.slice A' (n+src.length) bY) s)) Q)
  (h:Jy P N j p (p7 s) s=some (A,n,cap,T,src.length,ay e src,Hl,Jz p s):=by kernel_rfl):RN r P N D F w0 R s Q:=by
 obtain⟨o,a1,a2,t,tx,e',c',b,ty,fz,q0,q1,q2,q3,q4,q5,q6,q7,q8,q9,Sc,Ui⟩:=tz h
 refine⟨λ hR a w hF aT hB=>?_⟩
 obtain⟨c,k,L,B,Ts⟩:=s
 unfold p7 at q0
 cases c with
 | code c=>cases q0
 | ex c=>cases q0
 | drw _ _=>cases q0
 | ops ops i =>
  simp only at q0 q3 q4 q5 q8 q9 Sc Ui hF aT
  have K_:ops.toList.drop i=o::ops.toList.drop (i+1):=by
   have iF:i<ops.toList.length:=(List.getElem?_eq_some_iff.1 q0).1
   rw[List.drop_eq_getElem_cons iF,(List.getElem?_eq_some_iff.1 q0).2]
  show wpListIn _ _ _ _ _ _ _ _
  rw[K_,wpListIn,if_pos (by simp[Region.wanted,q1])]
  refine⟨λ _ _=>trivial,?_⟩
  have rW:=iE (A:=B) q9 Sc
  refine gh (by rw[q2];intro c hc;cases hc) (lX (x:=vS b 0 src.length c') (src:=src) (G:=B++((oth [j] Ts.length).filterMap (Ts[·]?)).flatten) ok q2 q6 q3 q4 hn q5 rW Uo (λ w hw=>Bc ok q7 p (by rw[List.getElem?_append_left (List.getElem?_eq_some_iff.1 q8).1];exact q8) hw) hb a hF w aT) ?_
  rintro u w' ⟨⟨A',bY,H_⟩,⟨rfl,Vd⟩,Q1,Tn⟩
  obtain⟨L',p1⟩:=eJ Ui (.slice A' (n+src.length) bY)
  have hh:=(hk A' bY H_ Vd).h hR
  have RZ:fD N (.slice A' (n+src.length) bY) ⟨.ops ops i,k,L,B,Ts⟩=⟨.ops ops (i+1),k,L',B,Ts⟩:=by
   unfold fD
   simp only[q0,p1]
  rw[RZ] at hh
  refine hh _ w' (hF.put p1) (Q1.perm (List.Perm.append_right F ?_)) (hB.trans Tn)
  show (B++(H_::(oth [j] Ts.length).filterMap (Ts[·]?)).flatten).Perm _
  rw[List.flatten_cons,<- List.append_assoc,<- List.append_assoc]
  exact List.Perm.append_right _ List.perm_append_comm
theorem lY{i:Nat}(ix:List Nat)(ok:EncOk e P T inf z)(l src:List α)(j p:Nat){A:Option Addr}{n cap:Nat}{Hl:HL}(hn:n=l.length)(Uo:SlIs e T l A cap Hl)(hb:l.length+src.length <= 100000000)
  (hk:∀ (A':Option Addr) (bY:Nat) (H_:HL),(SlIs e T (l++src) A' bY H_ /\ (cu A -> cu A')) -> RD r P N D F w0 R hards Rd (NV j H_ (EQ N i (.slice A' (n+src.length) bY) s)) Q)
  (h:Jy P N j p (Bh i s) s=some (A,n,cap,T,src.length,ay e src,Hl,Jz p s):=by kernel_rfl) (hx:(hards.contains i,zf ix s)=(true,Rd):=by kernel_rfl):RDO r P N D F w0 R hards Rd i s Q:=by
 obtain⟨o,a1,a2,t,tx,e',c',b,ty,fz,q0,q1,q2,q3,q4,q5,q6,q7,q8,q9,Sc,Ui⟩:=tz h
 obtain⟨c,k,L,B,Ts⟩:=s
 unfold Bh at q0
 simp only[Prod.mk.injEq] at hx
 cases c with
 | code c=>cases q0
 | ex c=>cases q0
 | ops _ _=>cases q0
 | drw ops li =>
  refine⟨λ hR=>?_⟩
  simp only at q0 q3 q4 q5 q8 q9 Sc Ui
  have rW:=iE (A:=B) q9 Sc
  have RZ:∀v L',fg N o.dst v L=some L' -> EQ N i v ⟨.drw ops li,k,L,B,Ts⟩=⟨.drw ops (bz li i true),k,L',B,Ts⟩:=by
   intro v L' hl
   unfold EQ
   simp only[q0,hl]
  refine(qQ (Q:=Q) (by simpa using q0) (σ:=Option Addr × Nat × HL) (λ u y=>u=.slice y.1 (n+src.length) y.2.1 /\ (SlIs e T (l++src) y.1 y.2.1 y.2.2 /\ (cu A -> cu y.1))) (λ y=>ap B (y.2.2::(oth [j] Ts.length).filterMap (Ts[·]?))) Ui (λ a hF=>⟨by simp[Region.wanted,q1],λ w aT hB=>?_⟩) (λ y=>⟨λ hi=>?_,λ hi x hm=>List.mem_append_left _ (ti ix hx.2 x hm)⟩) ?_:RDO r P N D F w0 R hards Rd i ⟨.drw ops li,k,L,B,Ts⟩ Q).h hR
  ·refine eU (lX (x:=vS b 0 src.length c') (src:=src) (G:=B++((oth [j] Ts.length).filterMap (Ts[·]?)).flatten) ok q2 q6 q3 q4 hn q5 rW Uo (λ w hw=>Bc ok q7 p (by rw[List.getElem?_append_left (List.getElem?_eq_some_iff.1 q8).1];exact q8) hw) hb a hF w aT) ?_
   rintro u w' ⟨y,h3,Q1,Tn⟩
   refine⟨y,h3,Q1.perm (List.Perm.append_right F ?_),Tn⟩
   show (B++(y.2.2::(oth [j] Ts.length).filterMap (Ts[·]?)).flatten).Perm _
   rw[List.flatten_cons,<- List.append_assoc,<- List.append_assoc]
   exact List.Perm.append_right _ List.perm_append_comm
  ·exact absurd (List.contains_iff_mem.1 hx.1) hi
  ·rintro u ⟨A',bY,H_⟩ ⟨rfl,h3⟩ L' hl hs
   have h1:=(hk A' bY H_ h3).h hR
   rw[RZ _ L' hl] at h1
   exact h1 hs
end
structure MemS where
 cs:List Int
 lg:List (Int × Int)
 base:Int
def MemS.get(M:MemS)(i:Int):Int:=if 0 <= i /\ i<M.cs.length then M.cs.getD i.toNat 0 else 0
def MemS.set(M:MemS)(i v:Int):MemS:=if 0 <= i /\ i<M.cs.length then ⟨M.cs.set i.toNat v,M.lg++[(i,M.cs.getD i.toNat 0)],M.base⟩ else M
def aN(cs:List Int):Nat -> Nat -> Value:=λ i k=>match k with|0=>vI (cs.getD i 0)|_=>default
theorem gE{cs:List Int}{i:Nat}(h:i<cs.length)(v:Int):db (aN cs) i 0 (vI v)=aN (cs.set i v):=by
 funext i' k'
 unfold db aN
 by_cases h1:i'=i
 ·subst h1
  rcases k' with _|k'
  ·simp[h]
  ·simp
 ·rcases k' with _|k'
  ·have:¬ i=i':=λ e=>h1 e.symm
   simp[h1,List.getElem?_set,this]
  ·simp
def kz:Enc (Int × Int):=⟨2,λ p k=>match k with|0=>vI p.1|_=>vI p.2,(0,0)⟩
noncomputable def LA:TypeInfo:=match Tryz.prog.info? 192 with | some i=>i | none=>⟨.bool,"",0,0,false,0,0,none,false,#[]⟩
noncomputable def LB:Value:=match LA.zero with|some z=>z|none=>.bool false
theorem zg:EncOk kz Tryz.prog 192 LA LB where
 info:=by kernel_rfl
 zero:=by kernel_rfl
 size:=by kernel_rfl
 zsize:=by kernel_rfl
 zcell:=λ k hk=>by
  have h:∀k<2,LB.cells[k]?=some (kz.cell kz.dflt k):=by intro k hk;(iterate 2 (rcases k with _|k;· kernel_rfl));omega
  exact h k hk
 one:=λ x k=>by unfold kz;dsimp only;split <;> rfl
 bytes:=Nat.le_of_ble_eq_true (by kernel_rfl)
inductive MemH(mb:Nat)(M:MemS)(k:Nat):HL -> Prop
 | mk (cb:Nat) (A:Option Addr) (cap:Nat) (Hl:HL) (hs:SlIs kz 192 M.lg A cap Hl) (hc:M.cs.length <= 1000000) (hl:M.lg.length+k <= 100000000):MemH mb M k (ap [(mb,.lit [vS cb 0 M.cs.length M.cs.length,.slice A M.lg.length cap,vI M.base] 186 (0,0)),(cb,.rows 1 M.cs.length (aN M.cs) 3 (0,0))] [Hl])
theorem MemH.weak{mb:Nat}{M:MemS}{k k':Nat}{T:HL}(h:MemH mb M k T)(hk:k' <= k):MemH mb M k' T:=by
 cases h with
 | mk cb A cap Hl hs hc hl=>exact .mk cb A cap Hl hs hc (by omega)
theorem MemH.cast{mb:Nat}{M M':MemS}{k k':Nat}{T:HL}(h:MemH mb M k T)(e:M'=M)(hk:k' <= k):MemH mb M' k' T:=e ▸ h.weak hk
theorem MemH.put{mb:Nat}{M:MemS}{k:Nat}{i v:Int}{cb:Nat}{A:Option Addr}{cap:Nat}{Hl:HL}(h:0 <= i /\ i<M.cs.length)(hc:M.cs.length <= 1000000)(hl:M.lg.length+(k+1) <= 100000000)(hs:SlIs kz 192 (M.lg++[(i,M.cs.getD i.toNat 0)]) A cap Hl) :
  MemH mb (M.set i v) k (ap [(mb,.lit [vS cb 0 M.cs.length M.cs.length,.slice A (M.lg.length+[(i,M.cs.getD i.toNat 0)].length) cap,vI M.base] 186 (0,0)),(cb,.rows 1 M.cs.length (db (aN M.cs) i.toNat 0 (vI v)) 3 (0,0))] [Hl]):=by
 have e:M.set i v=⟨M.cs.set i.toNat v,M.lg++[(i,M.cs.getD i.toNat 0)],M.base⟩:=by unfold MemS.set;rw[if_pos h]
 rw[e,gE (by omega)]
 have:=MemH.mk (M:=⟨M.cs.set i.toNat v,M.lg++[(i,M.cs.getD i.toNat 0)],M.base⟩) (k:=k) cb A cap Hl hs (by simpa using hc) (by simp;omega) (mb:=mb)
 simpa using this
theorem Bi(mb cb n:Nat)(A:Option Addr)(m cap:Nat)(base i:Int)(F:HL)(hm:(mb,.lit [vS cb 0 n n,.slice A m cap,vI base] 186 (0,0))∈F):Sp Tryz.prog 100 #[vP mb 0,vI i] [] F (λ u H'=>u=.bool (decide (0 <= i /\ i<n)) /\ H'=[]):=by
 refine Sp.run Tryz.func100 rfl (mc hm mn) (A:=[]) (Ts:=[]) rfl λ w0=>?_
 refine ae 10 [] λ _=>RN.em (0 <= i) 7 (λ h1=>?_) λ h1=>?_
 ·refine ae 11 [.ro 0] λ _=>RN.ret [] [] [] (v:=.bool (decide (i<(n:Int)))) (H':=[]) ?_
  exact⟨by simp[*],rfl⟩
 ·refine ae 11 [] λ _=>RN.ret [] [] [] (v:=.bool false) (H':=[]) ?_
  exact⟨by simp[*],rfl⟩
theorem JA(mb cb:Nat)(cs:List Int)(A:Option Addr)(m cap:Nat)(base i:Int)(lg:List (Int × Int))(F:HL)(hm:(mb,.lit [vS cb 0 cs.length cs.length,.slice A m cap,vI base] 186 (0,0))∈F)(hc:(cb,.rows 1 cs.length (aN cs) 3 (0,0))∈F)(hn:cs.length <= 1000000):Sp Tryz.prog 67 #[vP mb 0,vI i] [] F (λ u H'=>u=vI (MemS.get ⟨cs,lg,base⟩ i) /\ H'=[]):=by
 refine Sp.run Tryz.func67 rfl (mc hm (mc hc mn)) (A:=[]) (Ts:=[]) rfl λ w0=>?_
 refine ae 10 [] λ _=>RN.cp (Bi mb cb cs.length A m cap base i _ (aq hm))<|ae 3 [] λ _=>RN.en (0 <= i /\ i<cs.length) 8 (λ h1=>?_) λ h1=>?_
 ·refine ai 15 [.ro 0,.ix ((i).toNat),.rorow 1 ((i).toNat) 0] [(0+((i).toNat)*1)=((i).toNat)*1+0 /\ ((i).toNat)<cs.length,i=(((i).toNat:Nat):Int) /\ (i).toNat<cs.length] λ _=>RN.ret [] [] [] (v:=vI (cs.getD ((i).toNat) 0)) (H':=[]) ?_
  exact⟨by simp[MemS.get, *],rfl⟩
 ·refine ae 6 [] λ _=>RN.ret [] [] [] (v:=vI 0) (H':=[]) ?_
  exact⟨by simp[MemS.get, *],rfl⟩
theorem aw{mb:Nat}{M:MemS}{k:Nat}{T:HL}(i:Int){F:HL}(h:MemH mb M k T)(hs:∀x∈T,x∈F):Sp Tryz.prog 67 #[vP mb 0,vI i] [] F (λ u H'=>u=vI (M.get i) /\ H'=[]):=by
 cases h with
 | mk cb A cap Hl Uo hc hl=>exact JA mb cb M.cs A M.lg.length cap M.base i M.lg F (hs _ (by simp)) (hs _ (by simp)) hc
theorem jq{mb:Nat}{M:MemS}{k:Nat}{T:HL}(i:Int){c:Int}(e:M.get i=c){F:HL}(h:MemH mb M k T)(hs:∀x∈T,x∈F):Sp Tryz.prog 67 #[vP mb 0,vI i] [] F (λ u H'=>u=vI c /\ H'=[]):=e ▸ aw i h hs
theorem JB(mb cb:Nat)(M:MemS)(k:Nat)(A:Option Addr)(cap:Nat)(i v:Int)(Hl:HL)(F:HL)(hs:SlIs kz 192 M.lg A cap Hl)(hc:M.cs.length <= 1000000)(hl:M.lg.length+(k+1) <= 100000000):Sp Tryz.prog 68 #[vP mb 0,vI i,vI v] (ap [(mb,.lit [vS cb 0 M.cs.length M.cs.length,.slice A M.lg.length cap,vI M.base] 186 (0,0)),(cb,.rows 1 M.cs.length (aN M.cs) 3 (0,0))] [Hl]) F (λ u H'=>MemH mb (M.set i v) k H'):=by
 refine Sp.run Tryz.func68 rfl mn (A:=[(mb,.lit [vS cb 0 M.cs.length M.cs.length,.slice A M.lg.length cap,vI M.base] 186 (0,0)),(cb,.rows 1 M.cs.length (aN M.cs) 3 (0,0))]) (Ts:=[Hl]) rfl λ w0=>?_
 refine ae 5 [] λ _=>RN.cp (Bi mb cb M.cs.length A M.lg.length cap M.base i _ (az 0))<|ae 3 [] λ _=>RN.en (0 <= i /\ i<M.cs.length) 9 (λ h1=>?_) λ h1=>?_
 ·refine ae 4 [] λ _=>RN.draw [15,18] []<|aG [] [0,1,5,6,10,2,7,3,8,4,9,11,12,13] [.own 0,.own 0,.ix ((i).toNat),.row 1 ((i).toNat) 0] [(0+((i).toNat)*1)=((i).toNat)*1+0 /\ ((i).toNat)<M.cs.length,i=(((i).toNat:Nat):Int) /\ (i).toNat<M.cs.length]<|RD.one 14 (RDO.ev [] [] λ n3=>?_)
  refine RD.one 15 (lY [] zg M.lg [(i,M.cs.getD i.toNat 0)] 0 0 rfl hs (by simp;omega) ?_)
  rintro A4 c5 T6 ⟨Z9,hz8⟩
  refine ag [] [16,17] []<|RD.one 18 (RDO.ev [] [.own 1] λ _=>?_)
  refine RD.fin<|ai 11 [.own 1,.ix ((i).toNat),.row 2 ((i).toNat) 0] [(0+((i).toNat)*1)=((i).toNat)*1+0 /\ ((i).toNat)<M.cs.length,i=(((i).toNat:Nat):Int) /\ (i).toNat<M.cs.length] λ _=>RN.ret [] [1,2] [0] (v:=.tuple #[]) (H':=(ap [(mb,.lit [vS cb 0 M.cs.length M.cs.length,.slice A4 (M.lg.length+([(i,M.cs.getD i.toNat 0)]).length) c5,vI M.base] 186 (0,0)),(cb,.rows 1 M.cs.length (db (aN M.cs) ((i).toNat) 0 (vI v)) 3 (0,0))] [T6])) ?_
  exact MemH.put (by omega) hc (by omega) Z9
 ·refine ae 1 [] λ _=>RN.ret [] [0,1] [0] (v:=.tuple #[]) (H':=(ap [(mb,.lit [vS cb 0 M.cs.length M.cs.length,.slice A M.lg.length cap,vI M.base] 186 (0,0)),(cb,.rows 1 M.cs.length (aN M.cs) 3 (0,0))] [Hl])) ?_
  have e:M.set i v=M:=by unfold MemS.set;rw[if_neg (by assumption)]
  rw[e]
  exact .mk cb A cap Hl hs hc (by omega)
theorem aj{mb:Nat}{M:MemS}{k:Nat}{T:HL}(i v:Int){F:HL}(h:MemH mb M (k+1) T):Sp Tryz.prog 68 #[vP mb 0,vI i,vI v] (ap [] [T]) F (λ u H'=>∃x,H'=ap ((λ _=>[]) x) ((λ x=>[x]) x) /\ MemH mb (M.set i v) k x):=by
 cases h with
 | mk cb A cap Hl Uo hc hl =>
  have e:∀T:HL,ap [] [T]=T:=λ T=>by simp
  have:=JB mb cb M k A cap i v Hl F Uo hc hl
  rw[e]
  exact this.mono λ u H' h=>⟨H',(e H').symm,h⟩
structure Bod where (sh:Shp) (mot:Mot) (a b:Int)
abbrev dB:Bod:=⟨⟨0,[],none,0⟩,⟨0,0,0,0,0⟩,0,0⟩
def lh:Enc Bod:=⟨9,λ p k=>match k with|0=>vI p.sh.r|1=>.slice p.sh.A p.sh.poly.length p.sh.cap|2=>vI p.mot.px|3=>vI p.mot.py|4=>vI p.mot.vx|5=>vI p.mot.vy|6=>vI p.mot.inv|7=>vI p.a|_=>vI p.b,dB⟩
noncomputable def LC:TypeInfo:=match Tryz.prog.info? 78 with | some i=>i | none=>⟨.bool,"",0,0,false,0,0,none,false,#[]⟩
noncomputable def LD:Value:=match LC.zero with|some z=>z|none=>.bool false
theorem uU:EncOk lh Tryz.prog 78 LC LD where
 info:=by kernel_rfl
 zero:=by kernel_rfl
 size:=by kernel_rfl
 zsize:=by kernel_rfl
 zcell:=λ k hk=>by
  have h:∀k<9,LD.cells[k]?=some (lh.cell lh.dflt k):=by intro k hk;(iterate 9 (rcases k with _|k;· kernel_rfl));omega
  exact h k hk
 one:=λ x k=>by unfold lh;dsimp only;split <;> rfl
 bytes:=Nat.le_of_ble_eq_true (by kernel_rfl)
abbrev jJ(l:List Bod):Nat -> Nat -> Value:=aJ lh l
structure Setup where
 players:Int
 bb:Nat
 bo:Nat
 nb:Nat
 bc:Nat
 bR:Nat
 bods:List Bod
 box:Bx
 rA:Option Addr
 rn:Nat
 rc:Nat
 dA:Option Addr
 dn:Nat
 dc:Nat
 fog:Int
 g:V2
 push:Int
 drag:Int
 rest:Int
 rounds:Int
 fuel:Int
def Setup.body(S:Setup)(k:Nat):Bod:=S.bods.getD (S.bo+k) dB
structure SetN(S:Setup):Prop where
 pl:0 <= S.players /\ S.players <= 1000000
 nb:S.nb <= 1000000
structure SetIn(F:HL)(S:Setup):Prop extends SetN S where
 blk:(S.bb,.rows 9 S.bR (jJ S.bods) 78 (0,0))∈F
 room:S.bo+S.nb <= S.bR
 shp:∀k,k<S.nb -> ShIn F (S.body k).sh
theorem SetIn.up{F X:HL}{S:Setup}(h:SetIn F S):SetIn (X++F) S :=
 ⟨h.toSetN,List.mem_append_right _ h.blk,h.room,λ k hk=>(h.shp k hk).mono λ x hx=>List.mem_append_right _ hx⟩
def ah(S:Setup)(k:Int):Int:=if k<0 then -1 else if k >= S.players then -1 else 48+4*k
def af(S:Setup)(k:Int):Int:=if k<0 then -1 else if k >= S.nb then -1 else 48+4*S.players+8*k
def sizeOf(S:Setup):Int:=48+4*S.players+8*S.nb
theorem gF{S:Setup}(h:SetN S)(k:Int):(-1 <= ah S k /\ ah S k <= 1000000000) /\ (ah S k<0 \/ (0 <= k /\ k<S.players)):=by
 have:=h.pl
 unfold ah;split
 ·omega
 ·split <;> omega
theorem cN{S:Setup}(h:SetN S)(k:Int):(-1 <= af S k /\ af S k <= 1000000000) /\ (af S k<0 \/ (0 <= k /\ k<S.nb)):=by
 have:=h.pl
 have:=h.nb
 unfold af;split
 ·omega
 ·split <;> omega
abbrev Setup.v(S:Setup):Value:=.agg #[vI S.players,vS S.bb (S.bo*9) S.nb S.bc,vI S.box.x0,vI S.box.y0,vI S.box.x1,vI S.box.y1,.slice S.rA S.rn S.rc,.slice S.dA S.dn S.dc,vI S.fog,vI S.g.x,vI S.g.y,vI S.push,vI S.drag,vI S.rest,vI S.rounds,vI S.fuel]
abbrev Setup.l(S:Setup):List Value:=[vI S.players,vS S.bb (S.bo*9) S.nb S.bc,vI S.box.x0,vI S.box.y0,vI S.box.x1,vI S.box.y1,.slice S.rA S.rn S.rc,.slice S.dA S.dn S.dc,vI S.fog,vI S.g.x,vI S.g.y,vI S.push,vI S.drag,vI S.rest,vI S.rounds,vI S.fuel]
theorem gG(S:Setup)(k:Int)(F:HL)(hn:SetN S):Sp Tryz.prog 183 #[(Setup.v S),vI k] [] F (λ u H'=>u=vI (ah S k) /\ H'=[]):=by
 have h1:=hn.pl
 have h2:=hn.nb
 refine Sp.run Tryz.func183 rfl mn (A:=[]) (Ts:=[]) rfl λ w0=>?_
 refine ae 12 [] λ n1=>RN.em (k<0) 7 (λ h2=>?_) λ h2=>?_
 ·refine ae 13 [] λ _=>RN.ret [] [] [] (v:=vI (-1)) (H':=[]) ?_
  refine⟨?_,rfl⟩
  simp only[ah,if_pos h2]
 ·refine ae 7 [.own 0] λ _=>RN.em (k >= S.players) 12 (λ h3=>?_) λ h3=>?_
  ·refine ae 6 [] λ _=>RN.ret [] [] [] (v:=vI (-1)) (H':=[]) ?_
   refine⟨?_,rfl⟩
   simp only[ah,if_neg h2,if_pos h3]
  ·refine ai 11 [.nw,.nw] [aU (48+(4*k)),aU (4*k)] λ _=>RN.ret [] [] [] (v:=vI (48+(4*k))) (H':=[]) ?_
   refine⟨?_,rfl⟩
   simp only[ah,if_neg h2,if_neg h3]
theorem cO(S:Setup)(k:Int)(F:HL)(hn:SetN S):Sp Tryz.prog 99 #[(Setup.v S),vI k] [] F (λ u H'=>u=vI (af S k) /\ H'=[]):=by
 have h1:=hn.pl
 have h2:=hn.nb
 refine Sp.run Tryz.func99 rfl mn (A:=[]) (Ts:=[]) rfl λ w0=>?_
 refine ae 12 [] λ n1=>RN.em (k<0) 7 (λ h2=>?_) λ h2=>?_
 ·refine ae 14 [] λ _=>RN.ret [] [] [] (v:=vI (-1)) (H':=[]) ?_
  refine⟨?_,rfl⟩
  simp only[af,if_pos h2]
 ·refine ae 8 [.own 0] λ _=>RN.em (k >= (S.nb:Int)) 13 (λ h3=>?_) λ h3=>?_
  ·refine ae 6 [] λ _=>RN.ret [] [] [] (v:=vI (-1)) (H':=[]) ?_
   refine⟨?_,rfl⟩
   simp only[af,if_neg h2,if_pos h3]
  ·refine ai 15 [.own 0,.nw,.nw,.nw,.nw] [aU ((48+(4*S.players))+(8*k)),aU (8*k),aU (48+(4*S.players)),aU (4*S.players)] λ _=>RN.ret [] [] [] (v:=vI ((48+(4*S.players))+(8*k))) (H':=[]) ?_
   refine⟨?_,rfl⟩
   simp only[af,if_neg h2,if_neg h3]
theorem CQ(S:Setup)(F:HL)(hn:SetN S):Sp Tryz.prog 98 #[(Setup.v S)] [] F (λ u H'=>u=vI (sizeOf S) /\ H'=[]):=by
 have h1:=hn.pl
 have h2:=hn.nb
 refine Sp.run Tryz.func98 rfl mn (A:=[]) (Ts:=[]) rfl λ w0=>?_
 refine ai 20 [.own 0,.nw,.nw,.own 0,.nw,.nw] [aU ((48+(4*S.players))+(8*(S.nb:Int))),aU (8*(S.nb:Int)),aU (48+(4*S.players)),aU (4*S.players)] λ n1=>?_
 exact RN.ret [] [] [] ⟨rfl,rfl⟩
structure Inp where (dx dy act:Int)
abbrev dI:Inp:=⟨0,0,0⟩
structure Ins where (op n:Int)
abbrev dIns:Ins:=⟨0,0⟩
structure Eff where (t i k v:Int)
abbrev bA:Eff:=⟨0,0,0,0⟩
def eE:Enc Inp:=⟨3,λ p k=>match k with|0=>vI p.dx|1=>vI p.dy|_=>vI p.act,dI⟩
noncomputable def LE:TypeInfo:=match Tryz.prog.info? 119 with | some i=>i | none=>⟨.bool,"",0,0,false,0,0,none,false,#[]⟩
noncomputable def LF:Value:=match LE.zero with|some z=>z|none=>.bool false
theorem qS:EncOk eE Tryz.prog 119 LE LF where
 info:=by kernel_rfl
 zero:=by kernel_rfl
 size:=by kernel_rfl
 zsize:=by kernel_rfl
 zcell:=λ k hk=>by
  have h:∀k<3,LF.cells[k]?=some (eE.cell eE.dflt k):=by intro k hk;(iterate 3 (rcases k with _|k;· kernel_rfl));omega
  exact h k hk
 one:=λ x k=>by unfold eE;dsimp only;split <;> rfl
 bytes:=Nat.le_of_ble_eq_true (by kernel_rfl)
abbrev gc(l:List Inp):Nat -> Nat -> Value:=aJ eE l
structure Stp where
 S:Setup
 cA:Option Addr
 cn:Nat
 cc:Nat
 e0:Int
 e1:Int
 e2:Int
 version:Int
 ib:Nat
 io:Nat
 ni:Nat
 ic:Nat
 iR:Nat
 ins:List Inp
 i:Int
 j:Int
 ended:Bool
 f0:Int
 f1:Int
 f2:Int
 f3:Int
 emitted:Bool
 code:List Ins
def Stp.inp(t:Stp)(k:Nat):Inp:=t.ins.getD (t.io+k) dI
def movP(S:Setup)(k:Int):Prop:=(0 <= k /\ k<S.nb) /\ (S.body k.toNat).mot.inv>0
instance (S:Setup) (k:Int):Decidable (movP S k):=inferInstanceAs (Decidable (_ /\ _))
theorem movP.has{S:Setup}{k:Int}(h:movP S k):0 <= k /\ k<S.nb:=h.1
def ao(S:Setup)(M:MemS)(k:Int):Mot:=⟨M.get (af S k+0),M.get (af S k+1),M.get (af S k+2),M.get (af S k+3),(S.body k.toNat).mot.inv⟩
def aL(t:Stp)(ph j:Int)(M:MemS):MemS:=((M.set 1 ph).set 2 0).set 3 j
def dP(t:Stp)(k:Int)(m:Mot)(M:MemS):MemS:=(((M.set (af t.S k+0) m.px).set (af t.S k+1) m.py).set (af t.S k+2) m.vx).set (af t.S k+3) m.vy
def ep(t:Stp)(c sp pos lo hi:Int)(M:MemS):MemS:=if aF pos lo hi=pos then M.set c (aF pos lo hi) else (M.set c (aF pos lo hi)).set sp (bg (0-fZ ((M.set c (aF pos lo hi)).get sp) t.S.rest))
def br(t:Stp)(M:MemS):MemS:=if t.i=0 then (M.set 13 t.version).set 11 0 else M
def bC(t:Stp)(M:MemS):MemS:=if ah t.S t.i >= 0 then if t.i<t.ni then ((M.set (ah t.S t.i+0) (t.inp t.i.toNat).dx).set (ah t.S t.i+1) (t.inp t.i.toNat).dy).set (ah t.S t.i+2) (t.inp t.i.toNat).act else M else M
def bZ(t:Stp)(M:MemS):MemS:=if bg (t.i+1)<t.S.players then M.set 2 (bg (t.i+1)) else aL t 1 0 M
def aQ(t:Stp)(M:MemS):MemS:=bZ t (bC t (br t M))
abbrev Stp.l(t:Stp)(mb:Nat):List Value:=[.iface 96 (vP mb 0),vI t.S.players,vS t.S.bb (t.S.bo*9) t.S.nb t.S.bc,vI t.S.box.x0,vI t.S.box.y0,vI t.S.box.x1,vI t.S.box.y1,.slice t.S.rA t.S.rn t.S.rc,.slice t.S.dA t.S.dn t.S.dc,vI t.S.fog,vI t.S.g.x,vI t.S.g.y,vI t.S.push,vI t.S.drag,vI t.S.rest,vI t.S.rounds,vI t.S.fuel,.slice t.cA t.cn t.cc,vI t.e0,vI t.e1,vI t.e2,vI t.version,vS t.ib (t.io*3) t.ni t.ic,vI t.i,vI t.j,.bool t.ended,vI t.f0,vI t.f1,vI t.f2,vI t.f3,.bool t.emitted]
abbrev Stp.lp(t:Stp)(mb:Nat):List Value:=[.iface 96 (vP mb 0),vI t.S.players,vS t.S.bb (t.S.bo*9) t.S.nb t.S.bc,vI t.S.box.x0,vI t.S.box.y0,vI t.S.box.x1,vI t.S.box.y1,.slice t.S.rA t.S.rn t.S.rc,.slice t.S.dA t.S.dn t.S.dc,vI t.S.fog,vI t.S.g.x,vI t.S.g.y,vI t.S.push,vI t.S.drag,vI t.S.rest,vI t.S.rounds,vI t.S.fuel,.slice t.cA t.cn t.cc,vI t.e0,vI t.e1,vI t.e2,vI t.version,vS t.ib (t.io*3) t.ni t.ic,vI t.i,vI t.j,.bool t.ended]
theorem qo(t:Stp)(k:Int)(tb mb:Nat)(F:HL)(hb:(tb,.lit (Stp.l t mb) 275 (0,0))∈F):Sp Tryz.prog 194 #[vP tb 0,vI k] [] F (λ u H'=>u=.bool (decide (0 <= k /\ k<t.S.nb)) /\ H'=[]):=by
 refine Sp.run Tryz.func194 rfl (mc hb mn) (A:=[]) (Ts:=[]) rfl λ w0=>?_
 refine ae 10 [] λ _=>RN.em (k >= 0) 7 (λ h1=>?_) λ h1=>?_
 ·refine ae 12 [.ro 0] λ _=>RN.ret [] [] [] (v:=.bool (decide (k<(t.S.nb:Int)))) (H':=[]) ?_
  exact⟨by simp[*],rfl⟩
 ·refine ae 12 [] λ _=>RN.ret [] [] [] (v:=.bool false) (H':=[]) ?_
  exact⟨by simp[*],rfl⟩
theorem js(t:Stp)(k:Int)(tb mb:Nat)(F:HL)(hb:(tb,.lit (Stp.l t mb) 275 (0,0))∈F)(hS:SetIn F t.S):Sp Tryz.prog 187 #[vP tb 0,vI k] [] F (λ u H'=>u=.bool (decide (movP t.S k)) /\ H'=[]):=by
 have hn:=hS.nb
 have hr:=hS.room
 refine Sp.run Tryz.func187 rfl (mc hb (mc hS.blk mn)) (A:=[]) (Ts:=[]) rfl λ w0=>?_
 refine ae 9 [] λ _=>RN.cp (qo t k tb mb _ (List.mem_append_right _ hb))<|ae 1 [] λ _=>RN.em (0 <= k /\ k<t.S.nb) 8 (λ h1=>?_) λ h1=>?_
 ·refine ai 15 [.ro 0,.ix ((k).toNat),.rorow 1 (t.S.bo+((k).toNat)) 6] [((t.S.bo*9+((k).toNat)*9)+6)=(t.S.bo+((k).toNat))*9+6 /\ (t.S.bo+((k).toNat))<t.S.bR,k=(((k).toNat:Nat):Int) /\ (k).toNat<t.S.nb] λ _=>RN.ret [] [] [] (v:=.bool (decide ((t.S.bods.getD (t.S.bo+((k).toNat)) dB).mot.inv>0))) (H':=[]) ?_
  refine⟨?_,rfl⟩
  simp[movP,Setup.body, *]
 ·refine ae 15 [] λ _=>RN.ret [] [] [] (v:=.bool false) (H':=[]) ?_
  refine⟨?_,rfl⟩
  simp[movP,Setup.body, *]
theorem fE(t:Stp)(i:Int)(tb mb:Nat)(M:MemS)(k:Nat)(T F:HL)(hb:(tb,.lit (Stp.l t mb) 275 (0,0))∈F)(hS:SetIn F t.S)(hM:MemH mb M k T)(hT:∀x∈T,x∈F)(hi:0 <= i /\ i<t.S.nb):Sp Tryz.prog 188 #[vP tb 0,vI i] [] F (λ u H'=>u=.agg #[vI ((ao t.S M i).px),vI ((ao t.S M i).py),vI ((ao t.S M i).vx),vI ((ao t.S M i).vy),vI ((ao t.S M i).inv)] /\ H'=[]):=by
 have hp:=hS.pl
 have hn:=hS.nb
 have hr:=hS.room
 refine Sp.run Tryz.func188 rfl (mc hb (mc hS.blk mn)) (A:=[]) (Ts:=[]) rfl λ w0=>?_
 refine ae 12 [.ro 0,.ro 0,.ro 0,.ro 0,.ro 0,.ro 0,.ro 0,.ro 0,.ro 0,.ro 0,.ro 0,.ro 0,.ro 0,.ro 0,.ro 0,.ro 0] λ n1=>RN.cp (cO t.S i _ hS.toSetN) ?_
 have Uu:=cN hS.toSetN i
 refine ae 4 [] λ _=>RN.draw [41] []<|aG [] [0,4,7,11,15,19,22,26,30,35,1,5,8,12,16,20,23,27,31,2,9,17,24,32,3,10,18,25,33,34,36,37,38,39] [.nw,.nw,.nw,.nw,.ro 0,.ro 0,.ro 0,.ro 0,.ro 0,.ix ((i).toNat),.rorow 1 (t.S.bo+((i).toNat)) 6] [((t.S.bo*9+((i).toNat)*9)+6)=(t.S.bo+((i).toNat))*9+6 /\ (t.S.bo+((i).toNat))<t.S.bR,i=(((i).toNat:Nat):Int) /\ (i).toNat<t.S.nb,aU ((af t.S i)+3),aU ((af t.S i)+2),aU ((af t.S i)+1),aU ((af t.S i)+0)]<|RD.cp [] 6 (λ X_=>(aw ((af t.S i)+0) hM (λ x hx=>List.mem_append_right _ (List.mem_append_right _ (hT x hx)))))<|RD.cp [] 13 (λ X_=>(aw ((af t.S i)+1) hM (λ x hx=>List.mem_append_right _ (List.mem_append_right _ (hT x hx)))))<|ag [] [14] []<|RD.cp [] 21 (λ X_=>(aw ((af t.S i)+2) hM (λ x hx=>List.mem_append_right _ (List.mem_append_right _ (hT x hx)))))<|RD.cp [] 28 (λ X_=>(aw ((af t.S i)+3) hM (λ x hx=>List.mem_append_right _ (List.mem_append_right _ (hT x hx)))))<|ag [] [29,40] []<|RD.one 41 (RDO.ev [] (ow 0 5) λ _=>?_)
 refine RD.fin<|ae 1 [] λ _=>?_
 exact RN.ret (ow 0 5) [] [] ⟨rfl,rfl⟩
theorem bL(t:Stp)(ph:Int)(j:Int)(tb mb:Nat)(M:MemS)(k:Nat)(T F:HL)(hM:MemH mb M (k+3) T)(hS:SetIn F t.S) :Sp Tryz.prog 184 #[vP tb 0,vI ph,vI j] (ap [(tb,.lit (Stp.l t mb) 275 (0,0))] [T]) F (λ u H'=>∃x,H'=ap [(tb,.lit (Stp.l t mb) 275 (0,0))] [x] /\ (MemH mb (aL t ph j M) k x)):=by
 have hp:=hS.pl
 have hn:=hS.nb
 have hr:=hS.room
 refine Sp.run Tryz.func184 rfl (mc hS.blk mn) (A:=[(tb,.lit (Stp.l t mb) 275 (0,0))]) (Ts:=[T]) rfl λ w0=>?_
 refine ae 7 [.own 0] λ _=>RN.ct [] [0] (aj 1 ph hM) ?_
 rintro _ T1 Wm
 refine ae 8 [.own 0] λ _=>RN.ct [] [0] (aj 2 0 Wm) ?_
 rintro _ T3 L_
 refine ae 8 [.own 0] λ _=>RN.ct [] [0] (aj 3 j L_) ?_
 rintro _ T5 RL
 refine ae 1 [] λ _=>RN.ret [] [0] [0] (v:=.tuple #[]) (H':=(ap [(tb,.lit (Stp.l t mb) 275 (0,0))] [T5])) ?_
 refine⟨T5,rfl,?_⟩
 have e:(aL t ph j M)=(((M.set 1 ph).set 2 0).set 3 j):=by
  first|(simp only[aL];try rfl;done)|rfl
 rw[e]
 exact RL.weak (by omega)
theorem mF(t:Stp)(i:Int)(m:Mot)(tb mb:Nat)(M:MemS)(k:Nat)(T F:HL)(hM:MemH mb M (k+4) T)(hS:SetIn F t.S) :Sp Tryz.prog 215 #[vP tb 0,vI i,.agg #[vI m.px,vI m.py,vI m.vx,vI m.vy,vI m.inv]] (ap [(tb,.lit (Stp.l t mb) 275 (0,0))] [T]) F (λ u H'=>∃x,H'=ap [(tb,.lit (Stp.l t mb) 275 (0,0))] [x] /\ (MemH mb (dP t i m M) k x)):=by
 have hp:=hS.pl
 have hn:=hS.nb
 have hr:=hS.room
 refine Sp.run Tryz.func215 rfl (mc hS.blk mn) (A:=[(tb,.lit (Stp.l t mb) 275 (0,0))]) (Ts:=[T]) rfl λ w0=>?_
 refine ae 12 (ow 1 16) λ n1=>RN.cp (cO t.S i _ hS.toSetN) ?_
 have Uu:=cN hS.toSetN i
 refine ae 4 [] λ _=>RN.draw [9] []<|aG [] [0,4,6,1,5,7,2,8,3] [.nw,.own 0,.own 1] [aU ((af t.S i)+0)]<|RD.one 9 (RDO.ct [] [] [0] (aj ((af t.S i)+0) m.px hM) ?_)
 rintro _ T3 L_
 refine RD.fin<|ae 2 [] λ _=>RN.draw [9] []<|aG [] [0,4,6,1,5,7,2,8,3] [.nw,.own 0,.own 1] [aU ((af t.S i)+1)]<|RD.one 9 (RDO.ct [] [] [0] (aj ((af t.S i)+1) m.py L_) ?_)
 rintro _ T5 RL
 refine RD.fin<|ae 2 [] λ _=>RN.draw [9] []<|aG [] [0,4,6,1,5,7,2,8,3] [.nw,.own 0,.own 1] [aU ((af t.S i)+2)]<|RD.one 9 (RDO.ct [] [] [0] (aj ((af t.S i)+2) m.vx RL) ?_)
 rintro _ T7 Sw
 refine RD.fin<|ae 1 [] λ _=>RN.draw [9] []<|aG [] [0,4,6,1,5,7,2,8,3] [.nw,.own 0,.own 1] [aU ((af t.S i)+3)]<|RD.one 9 (RDO.ct [] [] [0] (aj ((af t.S i)+3) m.vy Sw) ?_)
 rintro _ T9 R9
 refine RD.fin<|RN.ret [] [1] [0] (v:=.tuple #[]) (H':=(ap [(tb,.lit (Stp.l t mb) 275 (0,0))] [T9])) ?_
 refine⟨T9,rfl,?_⟩
 have e:(dP t i m M)=((((M.set ((af t.S i)+0) m.px).set ((af t.S i)+1) m.py).set ((af t.S i)+2) m.vx).set ((af t.S i)+3) m.vy):=by
  first|(simp only[dP];try rfl;done)|rfl
 rw[e]
 exact R9.weak (by omega)
theorem tC(t:Stp)(c:Int)(s:Int)(pos:Int)(lo:Int)(hi:Int)(tb mb:Nat)(M:MemS)(k:Nat)(T F:HL)(hM:MemH mb M (k+2) T)(hS:SetIn F t.S) :Sp Tryz.prog 218 #[vP tb 0,vI c,vI s,vI pos,vI lo,vI hi] (ap [(tb,.lit (Stp.l t mb) 275 (0,0))] [T]) F (λ u H'=>∃x,H'=ap [(tb,.lit (Stp.l t mb) 275 (0,0))] [x] /\ (MemH mb (ep t c s pos lo hi M) k x)):=by
 have hp:=hS.pl
 have hn:=hS.nb
 have hr:=hS.room
 refine Sp.run Tryz.func218 rfl (mc hS.blk mn) (A:=[(tb,.lit (Stp.l t mb) 275 (0,0))]) (Ts:=[T]) rfl λ w0=>?_
 refine ae 5 [] λ _=>RN.cp (cE pos lo hi  _)<|ae 11 [.own 0] λ _=>RN.ct [] [0] (aj c (aF pos lo hi) hM) ?_
 rintro _ T1 Wm
 refine ae 9 [] λ _=>RN.en (aF pos lo hi=pos) 26 (λ h3=>?_) λ h3=>?_
 ·refine ae 2 [] λ _=>RN.ret [] [0] [0] (v:=.tuple #[]) (H':=(ap [(tb,.lit (Stp.l t mb) 275 (0,0))] [T1])) ?_
  refine⟨T1,rfl,?_⟩
  have e:(ep t c s pos lo hi M)=(M.set c (aF pos lo hi)):=by
   first|(simp only[ep,if_pos h3];try rfl;done)|rfl
  rw[e]
  exact Wm.weak (by omega)
 ·refine ae 1 [] λ _=>RN.draw [20] []<|ag [] [0,4,5,9,11,1,6,12,2,7,13,3,8,14,15,18,19] [.own 0,.own 0,.own 0]<|RD.cp [] 10 (λ X_=>(aw s Wm (aS 0)))<|RD.cp [] 16 (λ X_=>(nU ((M.set c (aF pos lo hi)).get s) t.S.rest  _))<|ag [] [17] []<|RD.one 20 (RDO.ct [] [] [0] (aj s (i64.wrap (0-(fZ ((M.set c (aF pos lo hi)).get s) t.S.rest))) Wm) ?_)
  rintro _ T4 SX
  refine RD.fin<|RN.ret [] [0] [0] (v:=.tuple #[]) (H':=(ap [(tb,.lit (Stp.l t mb) 275 (0,0))] [T4])) ?_
  refine⟨T4,rfl,?_⟩
  have e:(ep t c s pos lo hi M)=((M.set c (aF pos lo hi)).set s (i64.wrap (0-(fZ ((M.set c (aF pos lo hi)).get s) t.S.rest)))):=by
   first|(simp only[ep,if_neg h3];try rfl;done)|rfl
  rw[e]
  exact SX.weak (by omega)
theorem CS(t:Stp)  (tb mb:Nat) (M:MemS) (k:Nat) (T F:HL) (hM:MemH mb M (k+8) T) (hS:SetIn F t.S) (hI:(t.ib,.rows 3 t.iR (gc t.ins) 119 (0,0))∈F) (hir:t.io+t.ni <= t.iR /\ t.ni <= 1000000):Sp Tryz.prog 148 #[vP tb 0] (ap [(tb,.lit (Stp.l t mb) 275 (0,0))] [T]) F (λ u H'=>∃x,H'=ap [(tb,.lit (Stp.l t mb) 275 (0,0))] [x] /\ (MemH mb (aQ t M) k x)):=by
 have hp:=hS.pl
 have hn:=hS.nb
 have hr:=hS.room
 refine Sp.run Tryz.func148 rfl (mc hS.blk (mc hI mn)) (A:=[(tb,.lit (Stp.l t mb) 275 (0,0))]) (Ts:=[T]) rfl λ w0=>?_
 refine ae 10 [.own 0] λ _=>RN.em (t.i=0) 8 (λ h1=>?_) λ h1=>?_
 ·refine ae 2 [] λ _=>RN.draw [10] []<|ag [] [0,4,1,5,2,6,3,7,8,9] [.own 0,.own 0]<|RD.one 10 (RDO.ct [] [] [0] (aj 13 t.version hM) ?_)
  rintro _ T2 Sl
  refine RD.fin<|ae 6 [.own 0] λ _=>RN.ct [] [0] (aj 11 0 Sl) ?_
  rintro _ T4 SX
  refine ae 4 [] λ _=>RN.draw [] []<|ag [] [0,4,1,5,2,6,3,7] (ow 0 17)<|RD.cp [] 8 (λ X_=>(gG t.S t.i _ hS.toSetN)) ?_
  have hb6:=gF hS.toSetN t.i
  refine ag [] [9] []<|RD.fin<|ae 2 [] λ _=>RN.draw [] []<|ag [] [0,1,2] []<|RD.em (ah t.S t.i >= 0) 36 (λ h7=>?_) λ h7=>?_
  ·refine ag [] [3,7,4,8,5,9,6,10,11,12,13] [.own 0,.own 0]<|RD.fin<|ae 1 [] λ _=>RN.em (t.i<(t.ni:Int)) 47 (λ h8=>?_) λ h8=>?_
   ·refine ae 2 [] λ _=>RN.draw [11] []<|aG [] [0,4,1,5,2,6,3,7,8,9] [.own 0,.own 0,.ix ((t.i).toNat),.rorow 1 (t.io+((t.i).toNat)) 0,.rorow 1 (t.io+((t.i).toNat)) 1,.rorow 1 (t.io+((t.i).toNat)) 2] [((t.io*3+((t.i).toNat)*3)+2)=(t.io+((t.i).toNat))*3+2 /\ (t.io+((t.i).toNat))<t.iR,((t.io*3+((t.i).toNat)*3)+1)=(t.io+((t.i).toNat))*3+1 /\ (t.io+((t.i).toNat))<t.iR,(t.io*3+((t.i).toNat)*3)=(t.io+((t.i).toNat))*3+0 /\ (t.io+((t.i).toNat))<t.iR,t.i=(((t.i).toNat:Nat):Int) /\ (t.i).toNat<t.ni]<|RD.one 10 (RDO.ev [] [] λ n9=>?_)
    refine RD.one 11 (RDO.ev [] [.own 0,.own 0,.own 0] λ _=>?_)
    refine RD.fin<|ae 2 [] λ _=>RN.draw [8] []<|aG [] [0,4,6,1,5,7,2,3] [.nw,.own 0,.own 1] [aU ((ah t.S t.i)+0)]<|RD.one 8 (RDO.ct [] [] [0] (aj ((ah t.S t.i)+0) ((t.ins.getD (t.io+((t.i).toNat)) dI).dx) SX) ?_)
    rintro _ TG RC
    refine RD.fin<|ae 2 [] λ _=>RN.draw [8] []<|aG [] [0,4,6,1,5,7,2,3] [.nw,.own 0,.own 1] [aU ((ah t.S t.i)+1)]<|RD.one 8 (RDO.ct [] [] [0] (aj ((ah t.S t.i)+1) ((t.ins.getD (t.io+((t.i).toNat)) dI).dy) RC) ?_)
    rintro _ Xi YU
    refine RD.fin<|ae 1 [] λ _=>RN.draw [8] []<|aG [] [0,4,6,1,5,7,2,3] [.nw,.own 0,.own 1] [aU ((ah t.S t.i)+2)]<|RD.one 8 (RDO.ct [] [] [0] (aj ((ah t.S t.i)+2) ((t.ins.getD (t.io+((t.i).toNat)) dI).act) YU) ?_)
    rintro _ Zg Uc
    refine RD.fin<|ae 2 [] λ _=>RN.draw [] []<|ag [] [0,5,1,6,2,7,3,8,4,9,10] [.own 1,.own 1]<|RD.fin<|ae 1 [] λ _=>RN.em (i64.wrap (t.i+1)<t.S.players) 95 (λ Ru=>?_) λ Ru=>?_
    ·refine ae 1 [] λ _=>RN.draw [11] []<|ag [] [0,4,1,5,2,6,3,7,8,9,10] [.own 1,.own 1]<|RD.one 11 (RDO.ct [] [] [0] (aj 2 (i64.wrap (t.i+1)) Uc) ?_)
     rintro _ Sy SP
     refine RD.fin<|RN.ret [] [1] [0] (v:=.tuple #[]) (H':=(ap [(tb,.lit (Stp.l t mb) 275 (0,0))] [Sy])) ?_
     refine⟨Sy,rfl,?_⟩
     have e:(aQ t M)=((((((M.set 13 t.version).set 11 0).set ((ah t.S t.i)+0) ((t.ins.getD (t.io+((t.i).toNat)) dI).dx)).set ((ah t.S t.i)+1) ((t.ins.getD (t.io+((t.i).toNat)) dI).dy)).set ((ah t.S t.i)+2) ((t.ins.getD (t.io+((t.i).toNat)) dI).act)).set 2 (i64.wrap (t.i+1))):=by
      first|(simp only[aQ,br,bC,bZ,Stp.inp,if_pos h1,if_pos h7,if_pos h8,if_pos Ru];try rfl;done)|rfl
     rw[e]
     exact SP.weak (by omega)
    ·refine ae 3 [] λ _=>RN.ct [1] [0] (bL t 1 0 tb mb (((((M.set 13 t.version).set 11 0).set ((ah t.S t.i)+0) ((t.ins.getD (t.io+((t.i).toNat)) dI).dx)).set ((ah t.S t.i)+1) ((t.ins.getD (t.io+((t.i).toNat)) dI).dy)).set ((ah t.S t.i)+2) ((t.ins.getD (t.io+((t.i).toNat)) dI).act)) k Zg _ Uc hS.up ) ?_
     rintro _ Uh VW
     refine ae 1 [] λ _=>RN.ret [] [0] [0] (v:=.tuple #[]) (H':=(ap [(tb,.lit (Stp.l t mb) 275 (0,0))] [Uh])) ?_
     refine⟨Uh,rfl,?_⟩
     have e:(aQ t M)=(aL t 1 0 (((((M.set 13 t.version).set 11 0).set ((ah t.S t.i)+0) ((t.ins.getD (t.io+((t.i).toNat)) dI).dx)).set ((ah t.S t.i)+1) ((t.ins.getD (t.io+((t.i).toNat)) dI).dy)).set ((ah t.S t.i)+2) ((t.ins.getD (t.io+((t.i).toNat)) dI).act))):=by
      first|(simp only[aQ,br,bC,bZ,Stp.inp,if_pos h1,if_pos h7,if_pos h8,if_neg Ru];try rfl;done)|rfl
     rw[e]
     exact VW.weak (by omega)
   ·refine ae 4 [] λ _=>RN.draw [] []<|ag [] [0,5,1,6,2,7,3,8,4,9,10] [.own 0,.own 0]<|RD.fin<|ae 1 [] λ _=>RN.em (i64.wrap (t.i+1)<t.S.players) 95 (λ h21=>?_) λ h21=>?_
    ·refine ae 1 [] λ _=>RN.draw [11] []<|ag [] [0,4,1,5,2,6,3,7,8,9,10] [.own 0,.own 0]<|RD.one 11 (RDO.ct [] [] [0] (aj 2 (i64.wrap (t.i+1)) SX) ?_)
     rintro _ Xh VU
     refine RD.fin<|RN.ret [] [0] [0] (v:=.tuple #[]) (H':=(ap [(tb,.lit (Stp.l t mb) 275 (0,0))] [Xh])) ?_
     refine⟨Xh,rfl,?_⟩
     have e:(aQ t M)=(((M.set 13 t.version).set 11 0).set 2 (i64.wrap (t.i+1))):=by
      first|(simp only[aQ,br,bC,bZ,Stp.inp,if_pos h1,if_pos h7,if_neg h8,if_pos h21];try rfl;done)|rfl
     rw[e]
     exact VU.weak (by omega)
    ·refine ae 3 [] λ _=>RN.ct [0] [0] (bL t 1 0 tb mb ((M.set 13 t.version).set 11 0) (k+3) T4 _ SX hS.up ) ?_
     rintro _ XW VT
     refine ae 1 [] λ _=>RN.ret [] [0] [0] (v:=.tuple #[]) (H':=(ap [(tb,.lit (Stp.l t mb) 275 (0,0))] [XW])) ?_
     refine⟨XW,rfl,?_⟩
     have e:(aQ t M)=(aL t 1 0 ((M.set 13 t.version).set 11 0)):=by
      first|(simp only[aQ,br,bC,bZ,Stp.inp,if_pos h1,if_pos h7,if_neg h8,if_neg h21];try rfl;done)|rfl
     rw[e]
     exact VT.weak (by omega)
  ·refine ag [] [3,7,4,8,5,9,6,10,11,12,13] []<|RD.fin<|ae 5 [] λ _=>RN.draw [] []<|ag [] [0,5,1,6,2,7,3,8,4,9,10] [.own 0,.own 0]<|RD.fin<|ae 1 [] λ _=>RN.em (i64.wrap (t.i+1)<t.S.players) 95 (λ RO=>?_) λ RO=>?_
   ·refine ae 1 [] λ _=>RN.draw [11] []<|ag [] [0,4,1,5,2,6,3,7,8,9,10] [.own 0,.own 0]<|RD.one 11 (RDO.ct [] [] [0] (aj 2 (i64.wrap (t.i+1)) SX) ?_)
    rintro _ Ux Sm
    refine RD.fin<|RN.ret [] [0] [0] (v:=.tuple #[]) (H':=(ap [(tb,.lit (Stp.l t mb) 275 (0,0))] [Ux])) ?_
    refine⟨Ux,rfl,?_⟩
    have e:(aQ t M)=(((M.set 13 t.version).set 11 0).set 2 (i64.wrap (t.i+1))):=by
     first|(simp only[aQ,br,bC,bZ,Stp.inp,if_pos h1,if_neg h7,if_pos RO];try rfl;done)|rfl
    rw[e]
    exact Sm.weak (by omega)
   ·refine ae 3 [] λ _=>RN.ct [0] [0] (bL t 1 0 tb mb ((M.set 13 t.version).set 11 0) (k+3) T4 _ SX hS.up ) ?_
    rintro _ XU Sk
    refine ae 1 [] λ _=>RN.ret [] [0] [0] (v:=.tuple #[]) (H':=(ap [(tb,.lit (Stp.l t mb) 275 (0,0))] [XU])) ?_
    refine⟨XU,rfl,?_⟩
    have e:(aQ t M)=(aL t 1 0 ((M.set 13 t.version).set 11 0)):=by
     first|(simp only[aQ,br,bC,bZ,Stp.inp,if_pos h1,if_neg h7,if_neg RO];try rfl;done)|rfl
    rw[e]
    exact Sk.weak (by omega)
 ·refine ae 5 [] λ _=>RN.draw [] []<|ag [] [0,4,1,5,2,6,3,7] (ow 0 17)<|RD.cp [] 8 (λ X_=>(gG t.S t.i _ hS.toSetN)) ?_
  have YN:=gF hS.toSetN t.i
  refine ag [] [9] []<|RD.fin<|ae 2 [] λ _=>RN.draw [] []<|ag [] [0,1,2] []<|RD.em (ah t.S t.i >= 0) 36 (λ V4=>?_) λ V4=>?_
  ·refine ag [] [3,7,4,8,5,9,6,10,11,12,13] [.own 0,.own 0]<|RD.fin<|ae 1 [] λ _=>RN.em (t.i<(t.ni:Int)) 47 (λ h33=>?_) λ h33=>?_
   ·refine ae 2 [] λ _=>RN.draw [11] []<|aG [] [0,4,1,5,2,6,3,7,8,9] [.own 0,.own 0,.ix ((t.i).toNat),.rorow 1 (t.io+((t.i).toNat)) 0,.rorow 1 (t.io+((t.i).toNat)) 1,.rorow 1 (t.io+((t.i).toNat)) 2] [((t.io*3+((t.i).toNat)*3)+2)=(t.io+((t.i).toNat))*3+2 /\ (t.io+((t.i).toNat))<t.iR,((t.io*3+((t.i).toNat)*3)+1)=(t.io+((t.i).toNat))*3+1 /\ (t.io+((t.i).toNat))<t.iR,(t.io*3+((t.i).toNat)*3)=(t.io+((t.i).toNat))*3+0 /\ (t.io+((t.i).toNat))<t.iR,t.i=(((t.i).toNat:Nat):Int) /\ (t.i).toNat<t.ni]<|RD.one 10 (RDO.ev [] [] λ n34=>?_)
    refine RD.one 11 (RDO.ev [] [.own 0,.own 0,.own 0] λ _=>?_)
    refine RD.fin<|ae 2 [] λ _=>RN.draw [8] []<|aG [] [0,4,6,1,5,7,2,3] [.nw,.own 0,.own 1] [aU ((ah t.S t.i)+0)]<|RD.one 8 (RDO.ct [] [] [0] (aj ((ah t.S t.i)+0) ((t.ins.getD (t.io+((t.i).toNat)) dI).dx) hM) ?_)
    rintro _ ZG VS
    refine RD.fin<|ae 2 [] λ _=>RN.draw [8] []<|aG [] [0,4,6,1,5,7,2,3] [.nw,.own 0,.own 1] [aU ((ah t.S t.i)+1)]<|RD.one 8 (RDO.ct [] [] [0] (aj ((ah t.S t.i)+1) ((t.ins.getD (t.io+((t.i).toNat)) dI).dy) VS) ?_)
    rintro _ T37 VQ
    refine RD.fin<|ae 1 [] λ _=>RN.draw [8] []<|aG [] [0,4,6,1,5,7,2,3] [.nw,.own 0,.own 1] [aU ((ah t.S t.i)+2)]<|RD.one 8 (RDO.ct [] [] [0] (aj ((ah t.S t.i)+2) ((t.ins.getD (t.io+((t.i).toNat)) dI).act) VQ) ?_)
    rintro _ V7 SO
    refine RD.fin<|ae 2 [] λ _=>RN.draw [] []<|ag [] [0,5,1,6,2,7,3,8,4,9,10] [.own 1,.own 1]<|RD.fin<|ae 1 [] λ _=>RN.em (i64.wrap (t.i+1)<t.S.players) 95 (λ RM=>?_) λ RM=>?_
    ·refine ae 1 [] λ _=>RN.draw [11] []<|ag [] [0,4,1,5,2,6,3,7,8,9,10] [.own 1,.own 1]<|RD.one 11 (RDO.ct [] [] [0] (aj 2 (i64.wrap (t.i+1)) SO) ?_)
     rintro _ XR VP
     refine RD.fin<|RN.ret [] [1] [0] (v:=.tuple #[]) (H':=(ap [(tb,.lit (Stp.l t mb) 275 (0,0))] [XR])) ?_
     refine⟨XR,rfl,?_⟩
     have e:(aQ t M)=((((M.set ((ah t.S t.i)+0) ((t.ins.getD (t.io+((t.i).toNat)) dI).dx)).set ((ah t.S t.i)+1) ((t.ins.getD (t.io+((t.i).toNat)) dI).dy)).set ((ah t.S t.i)+2) ((t.ins.getD (t.io+((t.i).toNat)) dI).act)).set 2 (i64.wrap (t.i+1))):=by
      first|(simp only[aQ,br,bC,bZ,Stp.inp,if_neg h1,if_pos V4,if_pos h33,if_pos RM];try rfl;done)|rfl
     rw[e]
     exact VP.weak (by omega)
    ·refine ae 3 [] λ _=>RN.ct [1] [0] (bL t 1 0 tb mb (((M.set ((ah t.S t.i)+0) ((t.ins.getD (t.io+((t.i).toNat)) dI).dx)).set ((ah t.S t.i)+1) ((t.ins.getD (t.io+((t.i).toNat)) dI).dy)).set ((ah t.S t.i)+2) ((t.ins.getD (t.io+((t.i).toNat)) dI).act)) (k+2) V7 _ SO hS.up ) ?_
     rintro _ T44 VN
     refine ae 1 [] λ _=>RN.ret [] [0] [0] (v:=.tuple #[]) (H':=(ap [(tb,.lit (Stp.l t mb) 275 (0,0))] [T44])) ?_
     refine⟨T44,rfl,?_⟩
     have e:(aQ t M)=(aL t 1 0 (((M.set ((ah t.S t.i)+0) ((t.ins.getD (t.io+((t.i).toNat)) dI).dx)).set ((ah t.S t.i)+1) ((t.ins.getD (t.io+((t.i).toNat)) dI).dy)).set ((ah t.S t.i)+2) ((t.ins.getD (t.io+((t.i).toNat)) dI).act))):=by
      first|(simp only[aQ,br,bC,bZ,Stp.inp,if_neg h1,if_pos V4,if_pos h33,if_neg RM];try rfl;done)|rfl
     rw[e]
     exact VN.weak (by omega)
   ·refine ae 4 [] λ _=>RN.draw [] []<|ag [] [0,5,1,6,2,7,3,8,4,9,10] [.own 0,.own 0]<|RD.fin<|ae 1 [] λ _=>RN.em (i64.wrap (t.i+1)<t.S.players) 95 (λ h46=>?_) λ h46=>?_
    ·refine ae 1 [] λ _=>RN.draw [11] []<|ag [] [0,4,1,5,2,6,3,7,8,9,10] [.own 0,.own 0]<|RD.one 11 (RDO.ct [] [] [0] (aj 2 (i64.wrap (t.i+1)) hM) ?_)
     rintro _ T47 YR
     refine RD.fin<|RN.ret [] [0] [0] (v:=.tuple #[]) (H':=(ap [(tb,.lit (Stp.l t mb) 275 (0,0))] [T47])) ?_
     refine⟨T47,rfl,?_⟩
     have e:(aQ t M)=(M.set 2 (i64.wrap (t.i+1))):=by
      first|(simp only[aQ,br,bC,bZ,Stp.inp,if_neg h1,if_pos V4,if_neg h33,if_pos h46];try rfl;done)|rfl
     rw[e]
     exact YR.weak (by omega)
    ·refine ae 3 [] λ _=>RN.ct [0] [0] (bL t 1 0 tb mb M (k+5) T _ hM hS.up ) ?_
     rintro _ Xg SN
     refine ae 1 [] λ _=>RN.ret [] [0] [0] (v:=.tuple #[]) (H':=(ap [(tb,.lit (Stp.l t mb) 275 (0,0))] [Xg])) ?_
     refine⟨Xg,rfl,?_⟩
     have e:(aQ t M)=(aL t 1 0 M):=by
      first|(simp only[aQ,br,bC,bZ,Stp.inp,if_neg h1,if_pos V4,if_neg h33,if_neg h46];try rfl;done)|rfl
     rw[e]
     exact SN.weak (by omega)
  ·refine ag [] [3,7,4,8,5,9,6,10,11,12,13] []<|RD.fin<|ae 5 [] λ _=>RN.draw [] []<|ag [] [0,5,1,6,2,7,3,8,4,9,10] [.own 0,.own 0]<|RD.fin<|ae 1 [] λ _=>RN.em (i64.wrap (t.i+1)<t.S.players) 95 (λ UL=>?_) λ UL=>?_
   ·refine ae 1 [] λ _=>RN.draw [11] []<|ag [] [0,4,1,5,2,6,3,7,8,9,10] [.own 0,.own 0]<|RD.one 11 (RDO.ct [] [] [0] (aj 2 (i64.wrap (t.i+1)) hM) ?_)
    rintro _ Wp VM
    refine RD.fin<|RN.ret [] [0] [0] (v:=.tuple #[]) (H':=(ap [(tb,.lit (Stp.l t mb) 275 (0,0))] [Wp])) ?_
    refine⟨Wp,rfl,?_⟩
    have e:(aQ t M)=(M.set 2 (i64.wrap (t.i+1))):=by
     first|(simp only[aQ,br,bC,bZ,Stp.inp,if_neg h1,if_neg V4,if_pos UL];try rfl;done)|rfl
    rw[e]
    exact VM.weak (by omega)
   ·refine ae 3 [] λ _=>RN.ct [0] [0] (bL t 1 0 tb mb M (k+5) T _ hM hS.up ) ?_
    rintro _ T54 VL
    refine ae 1 [] λ _=>RN.ret [] [0] [0] (v:=.tuple #[]) (H':=(ap [(tb,.lit (Stp.l t mb) 275 (0,0))] [T54])) ?_
    refine⟨T54,rfl,?_⟩
    have e:(aQ t M)=(aL t 1 0 M):=by
     first|(simp only[aQ,br,bC,bZ,Stp.inp,if_neg h1,if_neg V4,if_neg UL];try rfl;done)|rfl
    rw[e]
    exact VL.weak (by omega)
end Go.Proofs.YtgdcbiiopbpgaaaGreatDoor
