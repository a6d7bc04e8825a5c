import Derived.Test.YthoijjeddhfcnaaGreatDoorZ04
import Derived.Test.YthoijjeddhfcnaaGreatDoorProg
import Derived.Shelf.Small.Bits
import Derived.Shelf.Strconv.Itoa0
set_option maxHeartbeats 4000000
set_option maxRecDepth 100000
set_option linter.unusedSimpArgs false
set_option linter.unusedVariables false
namespace Go.Proofs.YthoijjeddhfcnaaGreatDoor
open IntKind
open Go.RowKit
def mJ(s:Cfg):Array Oper:=match s.c with
 | .drw ops _=>ops
 | _=>#[]
def fC(s:Cfg):List Bool:=match s.c with
 | .drw _ l=>l
 | _=>[]
def dX:List Bool -> Nat
 | []=>0
 | true::l=>dX l
 | false::l=>dX l+1
theorem Bd(n:Nat):dX (List.replicate n false)=n:=by
 induction n with
 | zero=>rfl
 | succ n ih=>rw[List.replicate_succ,dX,ih]
def MI(s:Cfg):Cfg:=match s with
 | ⟨.code (.region _ ops true),k,L,A,Ts⟩=>⟨.drw ops (List.replicate ops.toList.length false),k,L,A,Ts⟩
 | s=>s
def JS(s:Cfg):Bool:=match s.c with
 | .code (.region _ ops true)=>Region.noSelect ops && oL ops
 | _=>false
structure RD(r:Option Nat)(P:Program)(N:Nat)(D:List Deferred)(F:HL)(w0:World)(R:HL)(hards:List Nat)(Rd:HL)(s:Cfg)(Q:Exit -> Act -> World -> Prop):Prop where
 h:(∀y∈R,y∈F) -> Region.noSelect (mJ s)=true -> TD P N D F w0 (mJ s) hards Rd (dX (fC s)) (fC s) s.L (ap s.A s.Ts) (NoPanic (kz r P s.k Q))
section
variable {r:Option Nat} {P:Program} {N:Nat} {D:List Deferred} {F:HL} {w0:World} {R:HL} {s:Cfg} {Q:Exit -> Act -> World -> Prop} {hards:List Nat} {Rd:HL}
def Be(ix:List Nat)(s:Cfg):HL:=ix.filterMap (s.A[·]?)
theorem RN.draw(hards ix:List Nat)(hk:RD r P N D F w0 R hards (Be ix s) (MI s) Q)(hm:P.follows .mixedOrders=true:=by kernel_rfl)(hc:JS s=true:=by kernel_rfl):RN r P N D F w0 R s Q:=by
 refine⟨λ hR=>?_⟩
 obtain⟨c,k,L,A,Ts⟩:=s
 unfold JS at hc
 split at hc
 case h_2=>cases hc
 rename_i id ops e
 simp only at e
 subst e
 rw[Bool.and_eq_true] at hc
 have h1:=hk.h hR hc.1
 exact TR.draw hards _ hm hc.1 hc.2 (by
  simp only[MI,fC,mJ,Bd] at h1
  have e:ops.toList.length=ops.size:=by simp
  rw[e] at h1 ⊢
  exact h1)
def OA(s:Cfg):Cfg:=match s with
 | ⟨.drw _ _,k,L,A,Ts⟩=>⟨.ex .normal,k,L,A,Ts⟩
 | s=>s
def Bf(s:Cfg):Bool:=match s.c with
 | .drw ops l=>(gU ops.toList l).isEmpty
 | _=>false
theorem RD.fin(hk:RN r P N D F w0 R (OA s) Q)(hc:Bf s=true:=by kernel_rfl):RD r P N D F w0 R hards Rd s Q:=by
 refine⟨λ hR _=>?_⟩
 obtain⟨c,k,L,A,Ts⟩:=s
 unfold Bf at hc
 split at hc
 case h_2=>cases hc
 rename_i ops l e
 simp only at e
 subst e
 exact TD.fin (List.isEmpty_iff.1 hc) (ME (λ a w h1 h2 h3=>hk.h hR a w h1 h2 h3))
def Dp(P:Program)(N:Nat)(R:HL)(hards:List Nat)(Rd:HL)(is:List Nat)(hints:List Hint)(s:Cfg):Option (List Bool × FL × SS):=match s.c with
 | .drw ops l=>qO P 0 N ops.toList hards Rd is l s.L ⟨ap s.A s.Ts,R,hints,0,[],[],false⟩
 | _=>none
def N7(P:Program)(N:Nat)(R:HL)(hards:List Nat)(Rd:HL)(is:List Nat)(hints:List Hint)(s:Cfg):Cfg:=match Dp P N R hards Rd is hints s with
 | some (b,L',_)=>match s with
  | ⟨.drw ops _,k,_,A,Ts⟩=>⟨.drw ops b,k,L',A,Ts⟩
  | s=>s
 | none=>s
def N8(x:Option (List Bool × FL × SS)):List Nat:=match x with
 | some (_,_,ss)=>ss.eq.map (·.2)
 | none=>[]
def Kx(n:Nat)(x:Option (List Bool × FL × SS)):Option (Nat × List Nat × List Prop):=match x with
 | some (b,_,ss)=>match ss.hints with
  | []=>some (dX b+n,ss.eq.map (·.1),ss.ob)
  | _=>none
 | none=>none
theorem Dq(ix is:List Nat)(hints:List Hint)(Ob:List Prop)(iD:AllP Ob)(hk:RD r P N D F w0 R hards Rd (N7 P N R hards Rd is hints s) Q)
  (h:Kx is.length (Dp P N R hards Rd is hints s)=some (dX (fC s),N8 (Dp P N R hards Rd is hints s),Ob):=by kernel_rfl) (VK:Be ix s=Rd:=by kernel_rfl):RD r P N D F w0 R hards Rd s Q:=by
 refine⟨λ hR hs=>?_⟩
 obtain⟨c,k,L,A,Ts⟩:=s
 cases c with
 | drw ops l =>
  simp only[mJ,fC] at hs ⊢
  unfold N7 at hk
  generalize hx:Dp P N R hards Rd is hints ⟨.drw ops l,k,L,A,Ts⟩=x at h hk
  unfold Kx at h
  split at h
  case h_2=>cases h
  rename_i b L' ss
  split at h
  case h_2=>cases h
  simp only[N8,fC,Option.some.injEq,Prod.mk.injEq] at h
  obtain⟨e1,e2,e3⟩:=h
  rw[<- e1]
  refine iK (Rr:=R) hs (λ x hx=>List.mem_append_left _ (ux ix VK x hx)) hR is l b L L' _ ss hx rfl rfl rfl (fM e2 rfl) (by rw[e3];exact AllP.mem iD) ?_
  exact hk.h hR hs
 | code c=>simp[Dp,Kx] at h
 | ops ops i=>simp[Dp,Kx] at h
 | ex e=>simp[Dp,Kx] at h
theorem af(ix is:List Nat)(hints:List Hint)(hk:RD r P N D F w0 R hards Rd (N7 P N R hards Rd is hints s) Q)
 (h:Kx is.length (Dp P N R hards Rd is hints s)=some (dX (fC s),N8 (Dp P N R hards Rd is hints s),[]):=by kernel_rfl) (VK:Be ix s=Rd:=by kernel_rfl):RD r P N D F w0 R hards Rd s Q:=Dq ix is hints [] trivial hk h VK
theorem aL(ix is:List Nat)(hints:List Hint)(Ob:List Prop)(hk:RD r P N D F w0 R hards Rd (N7 P N R hards Rd is hints s) Q)(iD:AllP Ob:=by simp only[AllP,bF,and_true,true_and] <;> (repeat' with_reducible refine And.intro ?_ ?_) <;> omega)
 (h:Kx is.length (Dp P N R hards Rd is hints s)=some (dX (fC s),N8 (Dp P N R hards Rd is hints s),Ob):=by kernel_rfl) (VK:Be ix s=Rd:=by kernel_rfl):RD r P N D F w0 R hards Rd s Q:=Dq ix is hints Ob iD hk h VK
theorem JT{b v:Bool}(t:Nat)(hb:b=v)(hk:RD r P N D F w0 R hards Rd (oB t v s) Q)(h:s.L.lookup t=some (.bool b):=by kernel_rfl):RD r P N D F w0 R hards Rd s Q:=by
 subst hb
 exact⟨λ hR hs By a hF=>hk.h hR hs By a (hF.fix h)⟩
theorem RD.em(p:Prop)[Decidable p](t:Nat)(h1:p -> RD r P N D F w0 R hards Rd (oB t true s) Q)(h2:¬ p -> RD r P N D F w0 R hards Rd (oB t false s) Q)(h:s.L.lookup t=some (.bool (decide p)):=by kernel_rfl):RD r P N D F w0 R hards Rd s Q:=by
 by_cases hp:p
 ·exact JT t (decide_eq_true hp) (h1 hp) h
 ·exact JT t (decide_eq_false hp) (h2 hp) h
theorem RD.ro{R':HL}(h:(∀y∈R,y∈F) -> ∀y∈R',y∈F)(hk:RD r P N D F w0 R' hards Rd s Q):RD r P N D F w0 R hards Rd s Q:=⟨λ hR=>hk.h (h hR)⟩
def Ky(P:Program)(N:Nat)(R:HL)(i:Nat)(s:Cfg):Option (Option Tmp × FuncId × Array Value × List Nat × List Prop):=match s.c with
 | .drw ops _=>match ops.toList[i]? with
  | none=>none
  | some o=>match iI ops.toList o s.L ⟨ap s.A s.Ts,R,[],0,[],[],false⟩ with
   | some (true,ss)=>match gS o.op s.L with
    | true=>match ev P 0 o (jJ s.L) ss with
     | some (.enter f args,s')=>match s'.hints with
      | []=>some (o.dst,f,args,s'.eq.map (·.1),s'.ob)
      | _=>none
     | _=>none
    | false=>none
   | _=>none
 | _=>none
def MJ(N:Nat)(hards:List Nat)(i:Nat)(s:Cfg)(x:Option (Option Tmp × FuncId × Array Value × List Nat × List Prop)):Option (FuncId × Array Value × List Nat × List Prop × Nat):=match x with
 | some (dst,f,args,E,Ob)=>match (fG N dst undef s.L).isSome,Mv (mJ s).toList hards (fC s) i with
  | true,true=>some (f,args,E,Ob,dX (bD (fC s) i true)+1)
  | _,_=>none
 | none=>none
def HE(N i:Nat)(v:Value)(s:Cfg):Cfg:=match s with
 | ⟨.drw ops l,k,L,A,Ts⟩=>match ops.toList[i]? with
  | some o=>match fG N o.dst v L with
   | some L'=>⟨.drw ops (bD l i true),k,L',A,Ts⟩
   | none=>⟨.drw ops l,k,L,A,Ts⟩
  | none=>⟨.drw ops l,k,L,A,Ts⟩
 | s=>s
theorem au(ix:List Nat)(i:Nat){f:FuncId}{args:Array Value}{v:Value}(hc:∀X,Sp P f args [] (X++(ap s.A s.Ts++F)) (λ u H'=>u=v /\ H'=[]))(hk:RD r P N D F w0 R hards Rd (HE N i v s) Q)
  (h:MJ N hards i s (Ky P N R i s)=some (f,args,[],[],dX (fC s)):=by kernel_rfl) (VK:Be ix s=Rd:=by kernel_rfl):RD r P N D F w0 R hards Rd s Q:=by
 refine⟨λ hR hs=>?_⟩
 obtain⟨c,k,L,A,Ts⟩:=s
 cases c with
 | drw ops l =>
  simp only[mJ,fC] at hs ⊢ h
  generalize hx:Ky P N R i ⟨.drw ops l,k,L,A,Ts⟩=x at h
  unfold MJ at h
  split at h
  case h_2=>cases h
  rename_i dst f' iS E Ob
  split at h
  case h_2=>cases h
  rename_i Rq aT
  simp only[mJ,fC,Option.some.injEq,Prod.mk.injEq] at h aT
  obtain⟨e1,e2,e3,e4,e5⟩:=h
  subst e1;subst e2;subst e3;subst e4
  obtain⟨L',hl⟩:=fW Rq v
  have RG:=hx
  unfold Ky at RG
  simp only at RG
  have ho:∃o,ops.toList[i]?=some o /\ o.dst=dst:=by
   split at RG
   ·cases RG
   rename_i o ho
   split at RG
   case h_2=>cases RG
   split at RG
   case h_2=>cases RG
   split at RG
   case h_2=>cases RG
   split at RG
   case h_2=>cases RG
   simp only[Option.some.injEq,Prod.mk.injEq] at RG
   exact⟨o,ho,RG.1⟩
  obtain⟨o,ho,hd⟩:=ho
  have Rt:HE N i v ⟨.drw ops l,k,L,A,Ts⟩=⟨.drw ops (bD l i true),k,L',A,Ts⟩:=by
   unfold HE
   simp only[ho,hd,hl]
  rw[Rt] at hk
  subst hd
  show TD P N D F w0 ops hards Rd (dX l) l L (ap A Ts) (NoPanic (kz r P k Q))
  rw[<- e5]
  refine zm (v:=v) (L1:=L') hs (by unfold Mv at aT;unfold MD;simp only[Bool.and_eq_true] at aT ⊢;exact aT.1) (by simpa using ho) (λ a hF=>hF.put hl) (λ a hF=>?_) (λ x hx=>List.mem_append_left _ (ux ix VK x hx)) (.inl aT) (hk.h hR hs)
  unfold Ky at hx
  simp only[ho] at hx
  split at hx
  case h_2=>cases hx
  rename_i ss Ra
  split at hx
  case h_2=>cases hx
  rename_i Z4
  split at hx
  case h_2=>cases hx
  rename_i f2 args2 s2 he
  split at hx
  case h_2=>cases hx
  simp only[Option.some.injEq,Prod.mk.injEq] at hx
  obtain⟨-,e2,e3,e4,e5⟩:=hx
  subst e2;subst e3
  obtain⟨a1,a2,a3,a4⟩:=bV Ra
  obtain⟨d1,d2,d3,d4⟩:=dK he
  have PQ:∀p∈s2.ob,p:=by rw[e5];intro p hp;cases hp
  have VU:∀p∈s2.eq,p.1=p.2:=by
   have:s2.eq=[]:=by simpa using e4
   rw[this];intro p hp;cases hp
  obtain⟨c1,c2,c3⟩:=cH Ra hF (λ p hp=>PQ p (d2 p hp))
  refine .inl ⟨c1,λ X w bY hB=>?_⟩
  have PJ:Rel (ap A Ts++(X++F)) w:=bY.perm (by
   rw[<- List.append_assoc,<- List.append_assoc]
   exact List.Perm.append_right F List.perm_append_comm)
  obtain⟨w1,r1,r2,r3,r4,r5⟩:=gc (w:=w) (F:=X++F) he VU PQ (by rw[c2];exact PJ) (by rw[a3];exact λ y hy=>List.mem_append_right _ (hR y hy)) (λ e=>by rw[a4] at e;cases e)
  obtain rfl:=r5 a4
  unfold fq
  rw[hF.exec Z4,r1]
  refine(hc X w1 (by simpa using bY)).mono ?_
  rintro e w2 ⟨u,H',rfl,⟨rfl,rfl⟩,h3,h4⟩
  exact⟨rfl,by simpa using h3,hB.trans h4⟩
 | code c=>simp[Ky,MJ] at h
 | ops ops i=>simp[Ky,MJ] at h
 | ex e=>simp[Ky,MJ] at h
structure RDO(r:Option Nat)(P:Program)(N:Nat)(D:List Deferred)(F:HL)(w0:World)(R:HL)(hards:List Nat)(Rd:HL)(i:Nat)(s:Cfg)(Q:Exit -> Act -> World -> Prop):Prop where
 h:(∀y∈R,y∈F) -> Region.noSelect (mJ s)=true -> ∀a,Fm N D s.L a -> Closed (mJ s) ⟨bD (fC s) i true⟩ -> OPJ P (mJ s) F w0 hards Rd i a (ap s.A s.Ts) (JJ P (mJ s) (NoPanic (kz r P s.k Q)) F w0 hards Rd (dX (bD (fC s) i true)) ⟨bD (fC s) i true⟩)
def Kz(s:Cfg):List Nat:=gU (mJ s).toList (fC s)
def HF(i:Nat)(s:Cfg):Nat:=dX (bD (fC s) i true)+1
theorem RD.one(i:Nat)(hk:RDO r P N D F w0 R hards Rd i s Q)(h:(Kz s,dX (fC s))=([i],HF i s):=by kernel_rfl):RD r P N D F w0 R hards Rd s Q:=by
 refine⟨λ hR hs=>?_⟩
 simp only[Prod.mk.injEq] at h
 exact TD.one i h.1 _ h.2 λ a hF By=>hk.h hR hs a hF By
theorem d5(i j:Nat)(h1:RDO r P N D F w0 R hards Rd i s Q)(h2:RDO r P N D F w0 R hards Rd j s Q)(h:(Kz s,dX (fC s),dX (fC s))=([i,j],HF i s,HF j s):=by kernel_rfl):RD r P N D F w0 R hards Rd s Q:=by
 refine⟨λ hR hs=>?_⟩
 simp only[Prod.mk.injEq] at h
 have e:dX (bD (fC s) i true)=dX (bD (fC s) j true):=by
  have:=h.2.1.symm.trans h.2.2
  unfold HF at this;omega
 exact Kw i j h.1 _ h.2.1 (λ a hF By=>h1.h hR hs a hF By) (λ a hF By=>by have:=h2.h hR hs a hF By;rw[<- e] at this;exact this)
theorem Ds(i j k:Nat)(h1:RDO r P N D F w0 R hards Rd i s Q)(h2:RDO r P N D F w0 R hards Rd j s Q)(h3:RDO r P N D F w0 R hards Rd k s Q)(h:(Kz s,dX (fC s),dX (fC s),dX (fC s))=([i,j,k],HF i s,HF j s,HF k s):=by kernel_rfl):RD r P N D F w0 R hards Rd s Q:=by
 refine⟨λ hR hs=>?_⟩
 simp only[Prod.mk.injEq] at h
 have e:dX (bD (fC s) i true)=dX (bD (fC s) j true):=by
  have:=h.2.1.symm.trans h.2.2.1
  unfold HF at this;omega
 have e':dX (bD (fC s) i true)=dX (bD (fC s) k true):=by
  have:=h.2.1.symm.trans h.2.2.2
  unfold HF at this;omega
 exact Di i j k h.1 _ h.2.1 (λ a hF By=>h1.h hR hs a hF By) (λ a hF By=>by have:=h2.h hR hs a hF By;rw[<- e] at this;exact this) (λ a hF By=>by have:=h3.h hR hs a hF By;rw[<- e'] at this;exact this)
def Bg(P:Program)(n0 N:Nat)(R:HL)(i:Nat)(hints:List Hint)(s:Cfg):Option (Fo × FL × SS):=match s.c with
 | .drw ops l=>match ops.toList[i]? with
  | none=>none
  | some o=>match iI ops.toList o s.L ⟨s.A,R,hints,0,[],[],true⟩ with
   | some (true,ss)=>match gS o.op s.L with
    | true=>match ev P n0 o (jJ s.L) ss with
     | some (.value v,s')=>match fG N o.dst v s.L with
      | some L'=>some (.drw ops (bD l i true),L',s')
      | none=>none
     | some (.skip,s')=>match fG N o.dst undef s.L with
      | some L'=>some (.drw ops (bD l i true),L',s')
      | none=>none
     | _=>none
    | false=>none
   | _=>none
 | _=>none
theorem Dt{n0 i:Nat}{hints:List Hint}{ops:Array Oper}{l:List Bool}{k:List KI}{L:FL}{A:HL}{Ts:List HL}{c:Fo}{L':FL}{s':SS}(h:Bg P n0 N R i hints ⟨.drw ops l,k,L,A,Ts⟩=some (c,L',s')) :
  ∃o ss u x,ops[i]?=some o /\ iI ops.toList o L ⟨A,R,hints,0,[],[],true⟩=some (true,ss) /\ gS o.op L=true /\ ev P n0 o (jJ L) ss=some (x,s') /\ (x=.value u \/ (x=.skip /\ u=undef)) /\ fG N o.dst u L=some L' /\ c=.drw ops (bD l i true):=by
 unfold Bg at h
 simp only at h
 split at h
 ·cases h
 rename_i o ho
 split at h
 case h_2=>cases h
 rename_i ss hw
 split at h
 case h_2=>cases h
 rename_i aT
 split at h
 ·rename_i v s2 he
  split at h
  case h_2=>cases h
  rename_i hp
  simp only[Option.some.injEq,Prod.mk.injEq] at h
  obtain⟨e1,e2,e3⟩:=h
  subst e2;subst e3
  exact⟨o,ss,v,_,by simpa using ho,hw,aT,he,.inl rfl,hp,e1.symm⟩
 ·rename_i s2 he
  split at h
  case h_2=>cases h
  rename_i hp
  simp only[Option.some.injEq,Prod.mk.injEq] at h
  obtain⟨e1,e2,e3⟩:=h
  subst e2;subst e3
  exact⟨o,ss,undef,_,by simpa using ho,hw,aT,he,.inr ⟨rfl,rfl⟩,hp,e1.symm⟩
 ·cases h
def MK(P:Program)(n0 N:Nat)(R:HL)(i:Nat)(hints:List Hint)(s:Cfg):Cfg:=match Bg P n0 N R i hints s with
 | some (c,L',ss)=>match s with
  | ⟨_,k,_,_,Ts⟩=>⟨c,k,L',ss.h,Ts⟩
 | none=>s
def N9(x:Option (Fo × FL × SS)):List Nat:=match x with
 | some (_,_,ss)=>ss.eq.map (·.2)
 | none=>[]
def Oa(SZ:Bool)(ix:List Nat)(A A':HL):HL:=match SZ with
 | true=>ix.filterMap (A'[·]?)
 | false=>A'.drop (A'.length-A.length)
def KA(SZ:Bool)(ix:List Nat)(A:HL)(x:Option (Fo × FL × SS)):Option (List Nat × List Prop × HL):=match x with
 | some (_,_,ss)=>match ss.hints with
  | []=>some (ss.eq.map (·.1),ss.ob,Oa SZ ix A ss.h)
  | _=>none
 | none=>none
theorem zq(ix:List Nat){i:Nat}(hints:List Hint)(Ob:Nat -> List Prop)(iD:∀n0,AllP (Ob n0))(hk:∀n0,RD r P N D F w0 R hards Rd (MK P n0 N R i hints s) Q)
  (h:∀n0,KA (hards.contains i) ix s.A (Bg P n0 N R i hints s)=some (N9 (Bg P n0 N R i hints s),Ob n0,cond (hards.contains i) Rd s.A):=by intro n0;kernel_rfl):RDO r P N D F w0 R hards Rd i s Q:=by
 refine⟨λ hR hs a hF By=>?_⟩
 obtain⟨c,k,L,A,Ts⟩:=s
 cases c with
 | code c=>simp[Bg,KA] at h
 | ops ops i=>simp[Bg,KA] at h
 | ex e=>simp[Bg,KA] at h
 | drw ops l =>
  simp only[mJ,fC] at hs By h hF ⊢
  have key:∀n0,∃o ss s' u x L',ops[i]?=some o /\ iI ops.toList o L ⟨A,R,hints,0,[],[],true⟩=some (true,ss) /\ gS o.op L=true /\ ev P n0 o (jJ L) ss=some (x,s') /\ (x=.value u \/ (x=.skip /\ u=undef)) /\ fG N o.dst u L=some L' /\
    MK P n0 N R i hints ⟨.drw ops l,k,L,A,Ts⟩=⟨.drw ops (bD l i true),k,L',s'.h,Ts⟩ /\ (∀p∈s'.eq,p.1=p.2) /\ s'.ob=Ob n0 /\ Oa (hards.contains i) ix A s'.h=cond (hards.contains i) Rd A:=by
   intro n0
   have h1:=h n0
   generalize hx:Bg P n0 N R i hints ⟨.drw ops l,k,L,A,Ts⟩=x at h1
   unfold KA at h1
   split at h1
   case h_2=>cases h1
   rename_i c L' s'
   split at h1
   case h_2=>cases h1
   simp only[N9,Option.some.injEq,Prod.mk.injEq] at h1
   obtain⟨e1,e2,e3⟩:=h1
   obtain⟨o,ss,u,x,q1,q2,q3,q4,q5,q6,q7⟩:=Dt hx
   refine⟨o,ss,s',u,x,L',q1,q2,q3,q4,q5,q6,?_,fM e1 rfl,e2,e3⟩
   unfold MK
   rw[hx]
   subst q7
   rfl
  unfold OPJ
  obtain⟨o,ss,s',u,x,L',q1,q2,q3,q4,q5,q6,q7,q8,q9,Q8⟩:=key 0
  rw[q1]
  simp only
  obtain⟨d1,d2,d3,d4⟩:=dK q4
  rw[if_pos (cH q2 hF (λ p hp=>AllP.mem (iD 0) p (by rw[<- q9];exact d2 p hp))).1]
  intro w bY hB
  obtain⟨o',ss,s',u,x,L',q1',q2,q3,q4,q5,q6,q7,q8,q9,Q8⟩:=key w.heap.size
  obtain rfl:o=o':=Option.some.inj (q1.symm.trans q1')
  obtain⟨a1,a2,a3,a4⟩:=bV q2
  obtain⟨d1,d2,d3,d4⟩:=dK q4
  have PQ:∀p∈s'.ob,p:=by rw[q9];exact AllP.mem (iD _)
  obtain⟨c1,c2,c3⟩:=cH q2 hF (λ p hp=>PQ p (d2 p hp))
  rw[jf] at bY
  obtain⟨w1,r1,r2,r3,r4,r5⟩:=gc (w:=w) (F:=Ts.flatten++F) q4 q8 PQ (by rw[c2];exact bY) (by rw[a3];exact λ y hy=>List.mem_append_right _ (hR y hy)) (λ _=>by rw[c3];rfl)
  have Xx:=(hk w.heap.size).h hR
  rw[q7] at Xx
  have fin:∃H',((i ∉ hards -> ∃X,H'=X++ap A Ts) /\ (i∈hards -> ∀x∈Rd,x∈H')) /\ JJ P ops (NoPanic (kz r P k Q)) F w0 hards Rd (dX (bD l i true)) ⟨bD l i true⟩ (a.put o.dst u) H' /\ Rel (H'++F) w1 /\ Below 0 w0 w1:=by
   refine⟨ap s'.h Ts,⟨λ hi=>?_,λ hi=>?_⟩,Xx hs By _ (hF.put q6),by rw[jf];exact r2,hB.trans r3⟩
   ·have hc:hards.contains i=false:=by
     cases hq:hards.contains i with
     | false=>rfl
     | true=>exact absurd (List.contains_iff_mem.1 hq) hi
    rw[hc] at Q8
    simp only[Oa,cond_false] at Q8
    refine⟨s'.h.take (s'.h.length-A.length),?_⟩
    show s'.h++Ts.flatten=_++(A++Ts.flatten)
    rw[<- List.append_assoc]
    congr 1
    conv=>lhs;rw[<- List.take_append_drop (s'.h.length-A.length) s'.h,Q8]
   ·have hc:hards.contains i=true:=List.contains_iff_mem.2 hi
    rw[hc] at Q8
    simp only[Oa,cond_true] at Q8
    exact λ x hx=>List.mem_append_left _ (ux ix Q8 x hx)
  unfold fq
  rw[hF.exec q3,r1]
  rcases q5 with rfl|⟨rfl,rfl⟩
  ·exact fin
  ·exact fin
theorem RDO.ev(ix:List Nat){i:Nat}(hints:List Hint)(hk:∀n0,RD r P N D F w0 R hards Rd (MK P n0 N R i hints s) Q)
 (h:∀n0,KA (hards.contains i) ix s.A (Bg P n0 N R i hints s)=some (N9 (Bg P n0 N R i hints s),[],cond (hards.contains i) Rd s.A):=by intro n0;kernel_rfl):RDO r P N D F w0 R hards Rd i s Q:=zq ix hints (λ _=>[]) (λ _=>trivial) hk h
theorem bT(ix:List Nat){i:Nat}(hints:List Hint)(Ob:List Prop)(hk:∀n0,RD r P N D F w0 R hards Rd (MK P n0 N R i hints s) Q)(iD:AllP Ob:=by simp only[AllP,bF,and_true,true_and] <;> (repeat' with_reducible refine And.intro ?_ ?_) <;> omega)
 (h:∀n0,KA (hards.contains i) ix s.A (Bg P n0 N R i hints s)=some (N9 (Bg P n0 N R i hints s),Ob,cond (hards.contains i) Rd s.A):=by intro n0;kernel_rfl):RDO r P N D F w0 R hards Rd i s Q:=zq ix hints (λ _=>Ob) (λ _=>iD) hk h
def ML(P:Program)(n0 N:Nat)(R:HL)(i:Nat)(s:Cfg):Option (Option Tmp × FuncId × Array Value × HL × List Nat × List Nat × List Prop):=match s.c with
 | .drw ops _=>mF P n0 N ops.toList i s.L (ap s.A s.Ts) R []
 | _=>none
theorem uC{i:Nat}{ops:Array Oper}{l:List Bool}{k:List KI}{L:FL}{A:HL}{Ts:List HL}{o:Oper}(ho:ops[i]?=some o){σ:Type}(G:Value -> σ -> Prop)(Ho:σ -> HL)(hl:(fG N o.dst undef L).isSome=true)
  (hg:∀a,Fm N D L a -> Region.wanted o (yielded ops a.tmps)=true /\ ∀w,Rel (ap A Ts++F) w -> Below 0 w0 w -> fq P o a w λ u w'=>∃x,G u x /\ Rel (Ho x++F) w' /\ Below 0 w w')
  (Xe:∀x,(i ∉ hards -> ∃X,Ho x=X++ap A Ts) /\ (i∈hards -> ∀y∈Rd,y∈Ho x))
  (hk:∀v x,G v x -> ∀L',fG N o.dst v L=some L' -> Region.noSelect ops=true -> TD P N D F w0 ops hards Rd (dX (bD l i true)) (bD l i true) L' (Ho x) (NoPanic (kz r P k Q))):RDO r P N D F w0 R hards Rd i ⟨.drw ops l,k,L,A,Ts⟩ Q:=by
 refine⟨λ hR hs a hF By=>?_⟩
 simp only[mJ,fC] at hs By hF ⊢
 unfold OPJ
 rw[ho]
 simp only
 obtain⟨h1,h2⟩:=hg a hF
 rw[if_pos h1]
 intro w bY hB
 refine fV (h2 w bY hB) ?_
 rintro u w' ⟨x,hx,Py,Us⟩
 obtain⟨L',QS⟩:=fW hl u
 exact⟨Ho x,Xe x,hk u x hx L' QS hs By _ (hF.put QS),Py,hB.trans Us⟩
def Du(SZ:Bool)(ix ip jp:List Nat)(s:Cfg)(Rd:HL):HL:=match SZ with
 | true=>ix.filterMap ((eR ip s)[·]?)
 | false=>match ip,jp with
  | [],[]=>Rd
  | _,_=>(0,.obj (.deferred none))::Rd
theorem zr{α:Type}(l:List α):(oth [] l.length).filterMap (l[·]?)=l:=by
 have:oth [] l.length=List.range l.length:=by simp[oth]
 rw[this]
 exact Dl l
theorem Dv{L:FL}{H H':HL}{ops:Array Oper}{fuel:Nat}{l:List Bool}(hp:H'.Perm H)(h:TD P N D F w0 ops hards Rd fuel l L H' Q):TD P N D F w0 ops hards Rd fuel l L H Q:=λ By a hF=>JJ.perm _ _ _ _ _ hp (h By a hF)
theorem RDO.ct{τ:Type}{i:Nat}(ix ip jp:List Nat){f:FuncId}{args:Array Value}{Hp:HL}{Tp:List HL}{Hq:τ -> HL}{Tq:τ -> List HL}{Rv:Value -> τ -> Prop}
  (hc:Sp P f args (ap Hp Tp) (ap (eR ip s) (fL jp s)++F) (λ v H'=>∃x,H'=ap (Hq x) (Tq x) /\ Rv v x)) (hk:∀v x,Rv v x -> RD r P N D F w0 R hards Rd (uA (λ A=>Hq x++(oth ip A.length).filterMap (A[·]?)) (λ Ts=>Tq x++(oth jp Ts.length).filterMap (Ts[·]?)) (HE N i v s)) Q)
  (h:∀n0,j9 N s (ML P n0 N R i s)=some (f,args,[],[],ap s.A s.Ts):=by intro n0;kernel_rfl)
  (hp:cE ip jp s=true:=by kernel_rfl) (hH:picks ip jp s=(Hp,Tp):=by kernel_rfl) (hx:Du (hards.contains i) ix ip jp s Rd=Rd:=by kernel_rfl):RDO r P N D F w0 R hards Rd i s Q:=by
 obtain⟨c,k,L,A,Ts⟩:=s
 cases c with
 | code c=>simp[ML,j9] at h
 | ops ops i=>simp[ML,j9] at h
 | ex e=>simp[ML,j9] at h
 | drw ops l =>
  refine⟨λ hR=>?_⟩
  unfold cE at hp
  unfold picks at hH
  simp only[ML,Bool.and_eq_true,Prod.mk.injEq] at h hp hH
  obtain⟨e1,e2⟩:=hH
  have key:∀n0,∃dst,mF P n0 N ops.toList i L (ap A Ts) R []=some (dst,f,args,ap A Ts,[],[],[]) /\ (fG N dst undef L).isSome=true:=by
   intro n0
   have h1:=h n0
   generalize hx:mF P n0 N ops.toList i L (ap A Ts) R []=x at h1
   unfold j9 at h1
   split at h1
   case h_2=>cases h1
   rename_i dst f' iS H1 E E' Ob'
   split at h1
   case h_2=>cases h1
   rename_i Rq
   simp only[Option.some.injEq,Prod.mk.injEq] at h1
   obtain⟨e1,e2,e3,e4,e5⟩:=h1
   subst e1;subst e2;subst e3;subst e4;subst e5
   obtain⟨o,s1,s',_,_,_,_,_,_,g1,g2,_⟩:=gT hx
   have:s'.eq=[]:=by simpa using g1
   rw[this] at g2
   simp only[List.map_nil] at g2
   subst g2
   exact⟨dst,rfl,Rq⟩
  obtain⟨dst,WE,Rq⟩:=key 0
  obtain⟨o,s1,s',ho,_,_,_,hd,_⟩:=gT WE
  subst hd
  have ID:∀n0,mF P n0 N ops.toList i L (ap A Ts) R []=some (o.dst,f,args,ap A Ts,[],[],[]):=by
   intro n0
   obtain⟨dst',h1,_⟩:=key n0
   obtain⟨o',_,_,AS,_,_,_,QU,_⟩:=gT h1
   obtain rfl:o=o':=Option.some.inj (ho.symm.trans AS)
   rw[QU];exact h1
  have BY:(ap Hp Tp++ap (eR ip ⟨.drw ops l,k,L,A,Ts⟩) (fL jp ⟨.drw ops l,k,L,A,Ts⟩)).Perm (ap A Ts):=by
   have h1:=kY A Ts ip (oth ip A.length) jp (oth jp Ts.length) hp.1 hp.2
   rw[e1,e2] at h1
   exact h1
  have Rt:∀v L',fG N o.dst v L=some L' -> HE N i v ⟨.drw ops l,k,L,A,Ts⟩=⟨.drw ops (bD l i true),k,L',A,Ts⟩:=by
   intro v L' hl
   unfold HE
   simp only[ho,hl]
  have hTD:∀v x,Rv v x -> ∀L',fG N o.dst v L=some L' -> Region.noSelect ops=true -> TD P N D F w0 ops hards Rd (dX (bD l i true)) (bD l i true) L' (ap (Hq x++(oth ip A.length).filterMap (A[·]?)) (Tq x++(oth jp Ts.length).filterMap (Ts[·]?))) (NoPanic (kz r P k Q)):=by
   intro v x hv L' hl hs
   have h1:=(hk v x hv).h hR
   rw[Rt v L' hl] at h1
   exact h1 hs
  have hgen:∀a,Fm N D L a -> Region.wanted o (yielded ops a.tmps)=true /\ ∀w,Rel (ap A Ts++F) w -> Below 0 w0 w -> fq P o a w λ u w'=>∃x,Rv u x /\ Rel ((ap (Hq x) (Tq x)++ap (eR ip ⟨.drw ops l,k,L,A,Ts⟩) (fL jp ⟨.drw ops l,k,L,A,Ts⟩))++F) w' /\ Below 0 w w':=by
   intro a hF
   obtain⟨h1,h2⟩:=xt (w0:=w0) ho ID hR trivial BY hc a hF
   refine⟨h1,λ w hR hB=>fV (h2 w hR hB) ?_⟩
   rintro u w' ⟨H',⟨x,rfl,hv⟩,QC,RC⟩
   exact⟨x,hv,QC,RC⟩
  have Xc:∀x,(ap (Hq x) (Tq x)++ap (eR ip ⟨.drw ops l,k,L,A,Ts⟩) (fL jp ⟨.drw ops l,k,L,A,Ts⟩)).Perm (ap (Hq x++(oth ip A.length).filterMap (A[·]?)) (Tq x++(oth jp Ts.length).filterMap (Ts[·]?))):=by
   intro x
   have h1:=sV (Hq x) (eR ip ⟨.drw ops l,k,L,A,Ts⟩) (Tq x) (fL jp ⟨.drw ops l,k,L,A,Ts⟩) []
   rw[List.append_nil,List.append_nil] at h1
   exact h1
  refine(uC (by simpa using ho) (λ v x=>Rv v x) (λ x=>ap (Hq x) (Tq x)++ap (eR ip ⟨.drw ops l,k,L,A,Ts⟩) (fL jp ⟨.drw ops l,k,L,A,Ts⟩)) Rq hgen (λ x=>⟨λ hi=>?_,λ hi y hy=>?_⟩) (λ v x hv L' hl hs=>Dv (Xc x).symm (hTD v x hv L' hl hs)):RDO r P N D F w0 R hards Rd i ⟨.drw ops l,k,L,A,Ts⟩ Q).h hR
  ·have hc:hards.contains i=false:=by
    cases hq:hards.contains i with
    | false=>rfl
    | true=>exact absurd (List.contains_iff_mem.1 hq) hi
   rw[hc] at hx
   unfold Du at hx
   simp only at hx
   split at hx
   ·refine⟨ap (Hq x) (Tq x),?_⟩
    unfold eR fL
    show _++ap ((oth [] A.length).filterMap (A[·]?)) ((oth [] Ts.length).filterMap (Ts[·]?))=_
    rw[zr,zr]
   ·exact absurd hx (by simp)
  ·rw[List.contains_iff_mem.2 hi] at hx
   simp only[Du] at hx
   exact List.mem_append_right _ (List.mem_append_left _ (ux ix hx y hy))
def JU(V:Inv)(ip jp:List Nat)(s:Cfg):(List (Option Value) × HL × List HL) × Bool × Bool:=(uB V ip jp s,cE ip jp s,Bf s)
def OB(V:Inv)(s:Cfg):Cfg:=match s with
 | ⟨_,k,_,_,_⟩=>⟨.ex .normal,k,V.L,V.A,V.Ts⟩
theorem fD{σ:Type}(V:σ -> Inv)(k:∀x,RN r P N D F w0 R (OB (V x) s) Q)(h:(∀ {s':Cfg} (x:σ) (ip jp:List Nat),(h:JU (V x) ip jp s'=(oa (V x),true,true):=by kernel_rfl) -> (e:s'.k=s.k:=by kernel_rfl) -> RD r P N D F w0 R hards Rd s' Q) -> RD r P N D F w0 R hards Rd s Q):RD r P N D F w0 R hards Rd s Q:=by
 refine h λ {s'} x ip jp hm e=>?_
 unfold JU at hm
 simp only[Prod.mk.injEq] at hm
 obtain⟨m1,m2,m3⟩:=hm
 refine RD.fin ⟨λ hR a w h1 h2 h3=>?_⟩ m3
 obtain⟨c,k',L,A,Ts⟩:=s'
 simp only at e
 subst e
 cases c with
 | drw ops l =>
  obtain⟨k1,k2⟩:=po (s:=⟨.drw ops l,s.k,L,A,Ts⟩) m1 m2 h1 h2
  exact(k x).h hR a w k1 k2 h3
 | code c=>simp[Bf] at m3
 | ops ops i=>simp[Bf] at m3
 | ex e=>simp[Bf] at m3
end
abbrev aV(n:Int):Int:=i64.wrap n
structure V2 where (x y:Int)
structure Bx where (x0 y0 x1 y1:Int)
structure Mot where (px py vx vy inv:Int)
structure Con where (nx ny d:Int)
def az(n lo hi:Int):Int:=if n<lo then lo else if n>hi then hi else n
def iL(a b:Int):Int:=if b=0 then 0 else if (a.tmod b>0 /\ b<0) \/ (a.tmod b<0 /\ b>0) then aV (aV (a.tdiv b)-1) else aV (a.tdiv b)
def eS(a b:Int):Int:=iL (aV (a*b)) 1024
def aw(a b c:Int):Int:=iL (aV (a*b)) c
theorem cJ(n:Int)(lo:Int)(hi:Int)  (F:HL):Sp Tryz.prog 125 #[vI n,vI lo,vI hi] [] F (λ u H'=>u=vI (az n lo hi) /\ H'=[]):=by
 refine Sp.run Tryz.func125 rfl mn (A:=[]) (Ts:=[]) rfl λ w0=>?_
 refine aa 15 [] λ _=>RN.em (n<lo) 7 (λ h1=>?_) λ h1=>?_
 ·refine aa 7 [] λ _=>RN.ret [] [] [] (v:=vI lo) (H':=[]) ?_
  exact⟨by unfold az;simp[*],rfl⟩
 ·refine aa 9 [] λ _=>RN.em (n>hi) 12 (λ h2=>?_) λ h2=>?_
  ·refine aa 7 [] λ _=>RN.ret [] [] [] (v:=vI hi) (H':=[]) ?_
   exact⟨by unfold az;simp[*],rfl⟩
  ·refine aa 10 [] λ _=>RN.ret [] [] [] (v:=vI n) (H':=[]) ?_
   exact⟨by unfold az;simp[*],rfl⟩
theorem mK(a:Int)(b:Int)  (F:HL):Sp Tryz.prog 202 #[vI a,vI b] [] F (λ u H'=>u=vI (iL a b) /\ H'=[]):=by
 refine Sp.run Tryz.func202 rfl mn (A:=[]) (Ts:=[]) rfl λ w0=>?_
 refine aa 12 [] λ _=>RN.em (b=0) 8 (λ h1=>?_) λ h1=>?_
 ·refine aa 6 [] λ _=>RN.ret [] [] [] (v:=vI 0) (H':=[]) ?_
  exact⟨by unfold iL;simp[*],rfl⟩
 ·refine aa 4 [] λ _=>RN.draw [] []<|aL [] [0,1,3,4,2,5,6,7] [.dv,.dv] [b≠0,b≠0]<|RD.fin<|aa 13 [] λ _=>RN.em (a.tmod b>0) 18 (λ h2=>?_) λ h2=>?_
  ·refine aa 6 [] λ _=>RN.em (b<0) 15 (λ h3=>?_) λ h3=>?_
   ·refine aa 23 [] λ _=>RN.ret [] [] [] (v:=vI (i64.wrap ((i64.wrap (a.tdiv b))-1))) (H':=[]) ?_
    exact⟨by unfold iL;simp[*],rfl⟩
   ·refine aa 8 [] λ _=>RN.em (a.tmod b<0) 25 (λ h4=>?_) λ h4=>?_
    ·refine aa 6 [] λ _=>RN.em (b>0) 22 (λ h5=>?_) λ h5=>?_
     ·refine aa 22 [] λ _=>RN.ret [] [] [] (v:=vI (i64.wrap ((i64.wrap (a.tdiv b))-1))) (H':=[]) ?_
      exact⟨by unfold iL;simp[*],rfl⟩
     ·refine aa 15 [] λ _=>RN.ret [] [] [] (v:=vI (i64.wrap (a.tdiv b))) (H':=[]) ?_
      exact⟨by unfold iL;simp[*],rfl⟩
    ·refine aa 21 [] λ _=>RN.ret [] [] [] (v:=vI (i64.wrap (a.tdiv b))) (H':=[]) ?_
     exact⟨by unfold iL;simp[*],rfl⟩
  ·refine aa 14 [] λ _=>RN.em (a.tmod b<0) 25 (λ h6=>?_) λ h6=>?_
   ·refine aa 6 [] λ _=>RN.em (b>0) 22 (λ h7=>?_) λ h7=>?_
    ·refine aa 22 [] λ _=>RN.ret [] [] [] (v:=vI (i64.wrap ((i64.wrap (a.tdiv b))-1))) (H':=[]) ?_
     exact⟨by unfold iL;simp[*],rfl⟩
    ·refine aa 15 [] λ _=>RN.ret [] [] [] (v:=vI (i64.wrap (a.tdiv b))) (H':=[]) ?_
     exact⟨by unfold iL;simp[*],rfl⟩
   ·refine aa 21 [] λ _=>RN.ret [] [] [] (v:=vI (i64.wrap (a.tdiv b))) (H':=[]) ?_
    exact⟨by unfold iL;simp[*],rfl⟩
theorem k8(a:Int)(b:Int)  (F:HL):Sp Tryz.prog 172 #[vI a,vI b] [] F (λ u H'=>u=vI (eS a b) /\ H'=[]):=by
 refine Sp.run Tryz.func172 rfl mn (A:=[]) (Ts:=[]) rfl λ w0=>?_
 refine aa 10 [] λ _=>al (mK (i64.wrap (a*b)) 1024  _)<|aa 3 [] λ _=>?_
 exact RN.ret [] [] [] ⟨rfl,rfl⟩
theorem fX(a:Int)(b:Int)(c:Int)  (F:HL):Sp Tryz.prog 181 #[vI a,vI b,vI c] [] F (λ u H'=>u=vI (aw a b c) /\ H'=[]):=by
 refine Sp.run Tryz.func181 rfl mn (A:=[]) (Ts:=[]) rfl λ w0=>?_
 refine aa 11 [] λ _=>al (mK (i64.wrap (a*b)) c  _)<|aa 3 [] λ _=>?_
 exact RN.ret [] [] [] ⟨rfl,rfl⟩
end Go.Proofs.YthoijjeddhfcnaaGreatDoor
namespace Go.Proofs
open IntKind
open Go.Shelf
def nr:Go.Shelf.Ren:=⟨λ|125=>264|128=>267|129=>268|n=>n,λ|46=>143|3=>3|51=>321|53=>312|4=>4|5=>5|9=>9|n=>n,λ|n=>n⟩
theorem s8:Go.Proofs.Lays.n125 Tryz.prog nr:={
 mixed:=by kernel_rfl
 f125:=Tryz.func264.trans (congrArg some (by kernel_rfl))
 f128:=Tryz.func267.trans (congrArg some (by kernel_rfl))
 f129:=Tryz.func268.trans (congrArg some (by kernel_rfl))
 t3:=Tryz.underlying3
 a3:=Tryz.isAgg3
 z3:=Tryz.sizeOf3
 v3:=Tryz.zeroValue3
 t4:=Tryz.underlying4
 a4:=Tryz.isAgg4
 z4:=Tryz.sizeOf4
 v4:=Tryz.zeroValue4
 t5:=Tryz.underlying5
 a5:=Tryz.isAgg5
 z5:=Tryz.sizeOf5
 v5:=Tryz.zeroValue5
 t9:=Tryz.underlying9
 a9:=Tryz.isAgg9
 z9:=Tryz.sizeOf9
 v9:=Tryz.zeroValue9
 t46:=Tryz.underlying143
 a46:=Tryz.isAgg143
 z46:=Tryz.sizeOf143
 v46:=Tryz.zeroValue143
 t51:=Tryz.underlying321
 a51:=Tryz.isAgg321
 z51:=Tryz.sizeOf321
 v51:=Tryz.zeroValue321
 t53:=Tryz.underlying312
 a53:=Tryz.isAgg312
 z53:=Tryz.sizeOf312
 v53:=Tryz.zeroValue312 }
theorem Tryz.bits_Len(x:Int)(w:World)(h0:0 <= x)(h1:x <= 18446744073709551615) :
 Calls Tryz.prog 264 #[.int .u64 x] w λ e w'=>e=.returned (.int .i64 (Lib.bitLen x.toNat)) /\ w'=w:=Any.bits_Len s8 x w h0 h1
end Go.Proofs
namespace Go.Proofs.YthoijjeddhfcnaaGreatDoor
open IntKind
open Go.RowKit
abbrev Dw(n:Int):Int:=u64.wrap n
theorem s9(n:Int):0 <= Dw n /\ Dw n <= 18446744073709551615:=by
 show 0 <= u64.wrap n /\ u64.wrap n <= _
 unfold IntKind.wrap
 simp[IntKind.signed,IntKind.bits]
 omega
abbrev Bh(n:Int):Int:=(Lib.bitLen (Dw n).toNat:Int)
theorem Dx(n:Int)(F:HL):Sp Tryz.prog 264 #[.int .u64 (Dw n)] [] F (λ u H'=>u=vI (Bh n) /\ H'=[]) :=
 uv (λ w=>Tryz.bits_Len _ w (s9 n).1 (s9 n).2) F
theorem HG(n:Int):0 <= Bh n /\ Bh n <= 64:=by
 have h:=s9 n
 have:=Lib.bitLen_le (Dw n).toNat 64 (by omega) (by omega)
 unfold Bh
 omega
def HH(r:Int)(k:Nat):Int:=aV ((BitVec.ofInt 64 r ||| BitVec.ofInt 64 (aV (1*2 ^ min k 64))).toNat:Int)
def ta(n:Int):Nat -> Int -> Int
 | 0,r=>r
 | k+1,r=>ta n k (if HH r k>aV (n.tdiv (HH r k)) then r else HH r k)
def Bi(n:Int):Int:=aV (aV ((aV (Bh n+1)).tdiv 2)-1)
def tc(n:Int):Int:=if n <= 0 then 0 else ta n (Bi n+1).toNat 0
theorem OC(v:BitVec 64)(h:aV (v.toNat:Int)=0):v=0#64:=by
 apply BitVec.eq_of_toNat_eq
 have h2:v.toNat<18446744073709551616:=v.isLt
 generalize v.toNat=m at *
 rw[aV,IntKind.wrap_i64] at h
 simp
 omega
theorem KB(r:Int){k:Nat}(hk:k<40):HH r k≠0:=by
 intro h
 have hb:BitVec.ofInt 64 (aV (1*2 ^ min k 64))≠0#64:=by
  have:∀k<40,BitVec.ofInt 64 (aV (1*2 ^ min k 64))≠0#64:=by decide
  exact this k hk
 have h1:=OC _ h
 clear h
 generalize BitVec.ofInt 64 (aV (1*2 ^ min k 64))=b at *
 generalize BitVec.ofInt 64 r=a at *
 apply hb
 have:(a ||| b) &&& b=b:=by
  apply BitVec.eq_of_getLsbD_eq
  intro i hi
  simp
  intro h
  exact .inr h
 rw[h1] at this
 simpa using this.symm
theorem zt(n:Int):-1 <= Bi n /\ Bi n <= 31:=by
 have:=HG n
 unfold Bi aV
 generalize Bh n=l at *
 have e1:i64.wrap (l+1)=l+1:=by rw[IntKind.wrap_i64];omega
 rw[e1,Int.tdiv_eq_ediv_of_nonneg (by omega)]
 have e2:i64.wrap ((l+1) / 2)=(l+1) / 2:=by rw[IntKind.wrap_i64];omega
 rw[e2,IntKind.wrap_i64]
 omega
theorem aK{x:Int}(h:-9223372036854775808 <= x /\ x <= 9223372036854775807):aV x=x:=by
 rw[aV,IntKind.wrap_i64];omega
theorem uD{n r s:Int}{k:Int}(h0:¬ s<0)(h:ta n (s+1).toNat r=k):ta n s.toNat (if HH r s.toNat>aV (n.tdiv (HH r s.toNat)) then r else HH r s.toNat)=k:=by
 have e:(s+1).toNat=s.toNat+1:=by omega
 rw[e,ta] at h
 exact h
theorem Bj(n:Int)  (F:HL):Sp Tryz.prog 260 #[vI n] [] F (λ u H'=>u=vI (tc n) /\ H'=[]):=by
 refine Sp.run Tryz.func260 rfl mn (A:=[]) (Ts:=[]) rfl λ w0=>?_
 refine aa 13 [] λ _=>RN.em (n <= 0) 7 (λ h1=>?_) λ h1=>?_
 ·refine aa 6 [] λ _=>RN.ret [] [] [] (v:=vI 0) (H':=[]) ?_
  refine⟨?_,rfl⟩
  unfold tc
  first|(simp[*];done)|(have e:(s+1).toNat=0:=by omega);(rw[e,ta] at Wi);(simp[*])
 ·refine aa 16 [] λ _=>al (Dx n _)<|aa 7 [] λ _=>RN.loop (σ:=Int × Int) (λ ⟨r,s⟩=>⟨[(0,vI n),(3,vI r),(4,vI s)],[],[],-1 <= s /\ s <= 31 /\ ta n (s+1).toNat r=ta n (Bi n+1).toNat 0,(s+1).toNat⟩) (0,Bi n) [] [] (⟨(zt n).1,(zt n).2,rfl⟩) ?_
  rintro⟨r,s⟩ ⟨hI0,hI1,Wi⟩ PK
  have hw:s >= 0 -> i64.wrap (s-1)=s-1:=λ _=>aK (by omega)
  have IS:(s-1+1).toNat=s.toNat:=by rw[Int.sub_add_cancel]
  refine aa 7 [] λ _=>RN.em (s >= 0) 15 (λ h4=>?_) λ h4=>?_
  ·refine pn 24 [.dv,.gen,.dv] (λ _=>[i64.wrap ((BitVec.ofInt 64 r ||| BitVec.ofInt 64 (i64.wrap (1*2 ^ min (s).toNat 64))).toNat:Int)≠0,0 <= s]) (λ _=>(ac (KB r (by omega)) (ac (by omega) an))) λ _=>RN.em (i64.wrap ((BitVec.ofInt 64 r ||| BitVec.ofInt 64 (i64.wrap (1*2 ^ min (s).toNat 64))).toNat:Int)>i64.wrap (n.tdiv (i64.wrap ((BitVec.ofInt 64 r ||| BitVec.ofInt 64 (i64.wrap (1*2 ^ min (s).toNat 64))).toNat:Int)))) 26 (λ h5=>?_) λ h5=>?_
   ·refine aa 10 [] λ _=>?_
    refine PK (r,i64.wrap (s-1)) [] [] ?_
    try dsimp only
    have hN:=uD (by omega) Wi
    rw[hw (by assumption),IS]
    refine⟨⟨by omega,by omega,?_⟩,by omega⟩
    simpa only[HH, *,if_true,if_false] using hN
   ·refine aa 14 [] λ _=>?_
    refine PK (i64.wrap ((BitVec.ofInt 64 r ||| BitVec.ofInt 64 (i64.wrap (1*2 ^ min (s).toNat 64))).toNat:Int),i64.wrap (s-1)) [] [] ?_
    try dsimp only
    have hN:=uD (by omega) Wi
    rw[hw (by assumption),IS]
    refine⟨⟨by omega,by omega,?_⟩,by omega⟩
    simpa only[HH, *,if_true,if_false] using hN
  ·refine aa 12 [] λ _=>RN.ret [] [] [] (v:=vI r) (H':=[]) ?_
   refine⟨?_,rfl⟩
   unfold tc
   first|(simp[*];done)|(have e:(s+1).toNat=0:=by omega);(rw[e,ta] at Wi);(simp[*])
def ay(a b:V2):V2:=⟨aV (a.x+b.x),aV (a.y+b.y)⟩
def dL(a b:V2):V2:=⟨aV (a.x-b.x),aV (a.y-b.y)⟩
def Bk(a:V2):V2:=dL ⟨0,0⟩ a
def ar(a:V2)(f:Int):V2:=⟨eS a.x f,eS a.y f⟩
def aY(a:V2)(n d:Int):V2:=⟨aw a.x n d,aw a.y n d⟩
def Dy(n:Int):Int:=n.fdiv 1024
def du(a b:V2):Int:=Dy (aV (aV (a.x*b.x)+aV (a.y*b.y)))
def Dz(a:V2):Int:=tc (aV (aV (a.x*a.x)+aV (a.y*a.y)))
def rD(a:V2):Prop:=a.x=0 /\ a.y=0
instance (a:V2):Decidable (rD a):=inferInstanceAs (Decidable (_ /\ _))
def kc(a:V2):V2:=if rD a then a else aY a 1024 (Dz a)
theorem uE(m n:Int)(F:HL):Sp Tryz.prog 170 #[vI m,vI n] [] F (λ u H'=>u=vI (aV (m+n)) /\ H'=[]):=by
 refine Sp.run Tryz.func170 rfl mn (A:=[]) (Ts:=[]) rfl λ w0=>?_
 refine aa 13 [] λ _=>?_
 exact RN.ret [] [] [] ⟨rfl,rfl⟩
theorem uF(m n:Int)(F:HL):Sp Tryz.prog 209 #[vI m,vI n] [] F (λ u H'=>u=vI (aV (m-n)) /\ H'=[]):=by
 refine Sp.run Tryz.func209 rfl mn (A:=[]) (Ts:=[]) rfl λ w0=>?_
 refine aa 13 [] λ _=>?_
 exact RN.ret [] [] [] ⟨rfl,rfl⟩
theorem oc(m n d:Int)(b:Nat)(F:HL)(hb:(b,.lit [vI d] 3 (0,0))∈F):Sp Tryz.prog 187 #[vI m,vI n,vP b 0] [] F (λ u H'=>u=vI (aw m n d) /\ H'=[]):=by
 refine Sp.run Tryz.func187 rfl (mc hb mn) (A:=[]) (Ts:=[]) rfl λ w0=>?_
 refine aa 10 [.ro 0] λ _=>al (fX m n d  _)<|aa 3 [] λ _=>?_
 exact RN.ret [] [] [] ⟨rfl,rfl⟩
theorem DA(a b:V2)  (F:HL):Sp Tryz.prog 169 #[.agg #[vI a.x,vI a.y],.agg #[vI b.x,vI b.y],.func (.func 170) #[] #[]] [] F (λ u H'=>u=.agg #[vI ((ay a b).x),vI ((ay a b).y)] /\ H'=[]):=by
 refine Sp.run Tryz.func169 rfl mn (A:=[]) (Ts:=[]) rfl λ w0=>?_
 refine aa 8 [] λ n1=>RN.draw [13] []<|af [] [0,1,3,6,7,9,2,4,8,10] [.own 2,.own 1,.own 2,.own 1]<|au [] 5 (λ X_=>(uE a.x b.x _))<|au [] 11 (λ X_=>(uE a.y b.y _))<|af [] [12] []<|RD.one 13 (RDO.ev [] [.own 0,.own 0] λ _=>?_)
 refine RD.fin<|aa 1 [] λ _=>?_
 exact RN.ret [.own 0,.own 0] [] [] ⟨rfl,rfl⟩
theorem DB(a b:V2)  (F:HL):Sp Tryz.prog 169 #[.agg #[vI a.x,vI a.y],.agg #[vI b.x,vI b.y],.func (.func 209) #[] #[]] [] F (λ u H'=>u=.agg #[vI ((dL a b).x),vI ((dL a b).y)] /\ H'=[]):=by
 refine Sp.run Tryz.func169 rfl mn (A:=[]) (Ts:=[]) rfl λ w0=>?_
 refine aa 8 [] λ n1=>RN.draw [13] []<|af [] [0,1,3,6,7,9,2,4,8,10] [.own 2,.own 1,.own 2,.own 1]<|au [] 5 (λ X_=>(uF a.x b.x _))<|au [] 11 (λ X_=>(uF a.y b.y _))<|af [] [12] []<|RD.one 13 (RDO.ev [] [.own 0,.own 0] λ _=>?_)
 refine RD.fin<|aa 1 [] λ _=>?_
 exact RN.ret [.own 0,.own 0] [] [] ⟨rfl,rfl⟩
theorem DC(a b:V2)  (F:HL):Sp Tryz.prog 169 #[.agg #[vI a.x,vI a.y],.agg #[vI b.x,vI b.y],.func (.func 172) #[] #[]] [] F (λ u H'=>u=.agg #[vI ((⟨eS a.x b.x,eS a.y b.y⟩:V2).x),vI ((⟨eS a.x b.x,eS a.y b.y⟩:V2).y)] /\ H'=[]):=by
 refine Sp.run Tryz.func169 rfl mn (A:=[]) (Ts:=[]) rfl λ w0=>?_
 refine aa 8 [] λ n1=>RN.draw [13] []<|af [] [0,1,3,6,7,9,2,4,8,10] [.own 2,.own 1,.own 2,.own 1]<|au [] 5 (λ X_=>(k8 a.x b.x  _))<|au [] 11 (λ X_=>(k8 a.y b.y  _))<|af [] [12] []<|RD.one 13 (RDO.ev [] [.own 0,.own 0] λ _=>?_)
 refine RD.fin<|aa 1 [] λ _=>?_
 exact RN.ret [.own 0,.own 0] [] [] ⟨rfl,rfl⟩
theorem uG(a b:V2)(d:Int)(q:Nat)(F:HL)(hq:(q,.lit [vI d] 3 (0,0))∈F):Sp Tryz.prog 169 #[.agg #[vI a.x,vI a.y],.agg #[vI b.x,vI b.y],.func (.func 187) #[] #[vP q 0]] [] F (λ u H'=>u=.agg #[vI ((⟨aw a.x b.x d,aw a.y b.y d⟩:V2).x),vI ((⟨aw a.x b.x d,aw a.y b.y d⟩:V2).y)] /\ H'=[]):=by
 refine Sp.run Tryz.func169 rfl (mc hq mn) (A:=[]) (Ts:=[]) rfl λ w0=>?_
 refine aa 8 [] λ n1=>RN.draw [13] []<|af [] [0,1,3,6,7,9,2,4,8,10] [.own 2,.own 1,.own 2,.own 1]<|au [] 5 (λ X_=>(oc a.x b.x d q _ (sY hq)))<|au [] 11 (λ X_=>(oc a.y b.y d q _ (sY hq)))<|af [] [12] []<|RD.one 13 (RDO.ev [] [.own 0,.own 0] λ _=>?_)
 refine RD.fin<|aa 1 [] λ _=>?_
 exact RN.ret [.own 0,.own 0] [] [] ⟨rfl,rfl⟩
theorem od(n:Int)(F:HL):Sp Tryz.prog 171 #[vI n] [] F (λ u H'=>u=.agg #[vI n,vI n] /\ H'=[]):=by
 refine Sp.run Tryz.func171 rfl mn (A:=[]) (Ts:=[]) rfl λ w0=>?_
 refine aa 13 [.own 0,.own 0] λ n1=>?_
 exact RN.ret [.own 0,.own 0] [] [] ⟨rfl,rfl⟩
theorem dM(a:V2)(b:V2)  (F:HL):Sp Tryz.prog 123 #[.agg #[vI a.x,vI a.y],.agg #[vI b.x,vI b.y]] [] F (λ u H'=>u=.agg #[vI ((ay a b).x),vI ((ay a b).y)] /\ H'=[]):=by
 refine Sp.run Tryz.func123 rfl mn (A:=[]) (Ts:=[]) rfl λ w0=>?_
 refine aa 11 [.own 2,.own 2,.own 1,.own 1] λ n1=>al (DA a b _)<|aa 3 [.own 0,.own 0] λ _=>?_
 exact RN.ret [.own 0,.own 0] [] [] ⟨rfl,rfl⟩
theorem gY(a:V2)(b:V2)  (F:HL):Sp Tryz.prog 178 #[.agg #[vI a.x,vI a.y],.agg #[vI b.x,vI b.y]] [] F (λ u H'=>u=.agg #[vI ((dL a b).x),vI ((dL a b).y)] /\ H'=[]):=by
 refine Sp.run Tryz.func178 rfl mn (A:=[]) (Ts:=[]) rfl λ w0=>?_
 refine aa 11 [.own 2,.own 2,.own 1,.own 1] λ n1=>al (DB a b _)<|aa 3 [.own 0,.own 0] λ _=>?_
 exact RN.ret [.own 0,.own 0] [] [] ⟨rfl,rfl⟩
theorem DD(a:V2)  (F:HL):Sp Tryz.prog 179 #[.agg #[vI a.x,vI a.y]] [] F (λ u H'=>u=.agg #[vI ((Bk a).x),vI ((Bk a).y)] /\ H'=[]):=by
 refine Sp.run Tryz.func179 rfl mn (A:=[]) (Ts:=[]) rfl λ w0=>?_
 refine aa 10 [.own 1,.own 1] λ n1=>al (gY (⟨0,0⟩:V2) a  _)<|aa 3 [.own 0,.own 0] λ _=>?_
 exact RN.ret [.own 0,.own 0] [] [] ⟨rfl,rfl⟩
theorem eU(a:V2)(f:Int)  (F:HL):Sp Tryz.prog 124 #[.agg #[vI a.x,vI a.y],vI f] [] F (λ u H'=>u=.agg #[vI ((ar a f).x),vI ((ar a f).y)] /\ H'=[]):=by
 refine Sp.run Tryz.func124 rfl mn (A:=[]) (Ts:=[]) rfl λ w0=>?_
 refine aa 7 [] λ n1=>RN.draw [4] []<|af [] [0,1] [.own 1,.own 1]<|au [] 2 (λ X_=>(od f _))<|au [] 3 (λ X_=>(DC a (⟨f,f⟩:V2) _))<|RD.one 4 (RDO.ev [] [.own 0,.own 0] λ _=>?_)
 refine RD.fin<|aa 1 [] λ _=>?_
 exact RN.ret [.own 0,.own 0] [] [] ⟨rfl,rfl⟩
theorem iM(a:V2)(n:Int)(d:Int)  (F:HL):Sp Tryz.prog 135 #[.agg #[vI a.x,vI a.y],vI n,vI d] [] F (λ u H'=>u=.agg #[vI ((aY a n d).x),vI ((aY a n d).y)] /\ H'=[]):=by
 refine Sp.run Tryz.func135 rfl mn (A:=[]) (Ts:=[]) rfl λ w0=>?_
 refine aa 8 [] λ n1=>RN.draw [5] []<|af [] [0,1,3] [.own 2,.own 2]<|au [] 2 (λ X_=>(od n _))<|au [] 4 (λ X_=>(uG a (⟨n,n⟩:V2) d (n1+1) _ (kB 1)))<|RD.one 5 (RDO.ev [] [.own 0,.own 0] λ _=>?_)
 refine RD.fin<|aa 1 [] λ _=>?_
 exact RN.ret [.own 0,.own 0] [] [] ⟨rfl,rfl⟩
theorem Bl(n:Int)  (F:HL):Sp Tryz.prog 208 #[vI n] [] F (λ u H'=>u=vI (Dy n) /\ H'=[]):=by
 refine Sp.run Tryz.func208 rfl mn (A:=[]) (Ts:=[]) rfl λ w0=>?_
 refine aa 12 [] λ _=>?_
 exact RN.ret [] [] [] ⟨rfl,rfl⟩
theorem mL(a:V2)(b:V2)  (F:HL):Sp Tryz.prog 177 #[.agg #[vI a.x,vI a.y],.agg #[vI b.x,vI b.y]] [] F (λ u H'=>u=vI (du a b) /\ H'=[]):=by
 refine Sp.run Tryz.func177 rfl mn (A:=[]) (Ts:=[]) rfl λ w0=>?_
 refine aa 20 [.own 1,.own 0,.own 1,.own 0] λ n1=>al (Bl (i64.wrap ((i64.wrap (a.x*b.x))+(i64.wrap (a.y*b.y))))  _)<|aa 3 [] λ _=>?_
 exact RN.ret [] [] [] ⟨rfl,rfl⟩
theorem DE(a:V2)  (F:HL):Sp Tryz.prog 256 #[.agg #[vI a.x,vI a.y]] [] F (λ u H'=>u=vI (Dz a) /\ H'=[]):=by
 refine Sp.run Tryz.func256 rfl mn (A:=[]) (Ts:=[]) rfl λ w0=>?_
 refine aa 19 [.own 0,.own 0,.own 0,.own 0] λ n1=>al (Bj (i64.wrap ((i64.wrap (a.x*a.x))+(i64.wrap (a.y*a.y))))  _)<|aa 3 [] λ _=>?_
 exact RN.ret [] [] [] ⟨rfl,rfl⟩
theorem Bm(a:V2)  (F:HL):Sp Tryz.prog 223 #[.agg #[vI a.x,vI a.y]] [] F (λ u H'=>u=.agg #[vI ((kc a).x),vI ((kc a).y)] /\ H'=[]):=by
 refine Sp.run Tryz.func223 rfl mn (A:=[]) (Ts:=[]) rfl λ w0=>?_
 refine aa 14 [.own 1,.own 1,.sq] λ n1=>RN.eb ((decide (a.x=0) && (decide (a.y=0) && true))) 5 (λ h2=>?_) λ h2=>?_
 ·refine aa 7 [.own 1,.own 1,.own 0,.own 0] λ _=>RN.ret [.own 0,.own 0] [] [] (v:=.agg #[vI a.x,vI a.y]) (H':=[]) ?_
  refine⟨?_,rfl⟩
  unfold kc
  first|rw[if_pos (by simpa [rD] using h2)]|rw[if_neg (by simpa [rD] using h2)]
 ·refine aa 4 [] λ _=>RN.draw [4] []<|af [] [0,1] [.own 1,.own 1,.own 1,.own 1]<|au [] 2 (λ X_=>(DE a  _))<|au [] 3 (λ X_=>(iM a 1024 (Dz a)  _))<|RD.one 4 (RDO.ev [] [.own 0,.own 0] λ _=>?_)
  refine RD.fin<|aa 1 [] λ _=>RN.ret [.own 0,.own 0] [] [] (v:=.agg #[vI ((aY a 1024 (Dz a)).x),vI ((aY a 1024 (Dz a)).y)]) (H':=[]) ?_
  refine⟨?_,rfl⟩
  unfold kc
  first|rw[if_pos (by simpa [rD] using h2)]|rw[if_neg (by simpa [rD] using h2)]
structure Shp where (r:Int) (poly:List V2) (A:Option Addr) (cap:Nat)
abbrev Mw(s:Shp):Value:=.agg #[vI s.r,.slice s.A s.poly.length s.cap]
def jh(l:List V2):Nat -> Nat -> Value:=λ i k=>match k with|0=>vI (l.getD i ⟨0,0⟩).x|_=>vI (l.getD i ⟨0,0⟩).y
inductive ShIn(F:HL):Shp -> Prop
 | circle (r:Int) (A:Option Addr) (cap:Nat):ShIn F ⟨r,[],A,cap⟩
 | poly (r:Int) (l:List V2) (b cap:Nat) (h:(b,.rows 2 cap (jh l) 29 (0,0))∈F) (h3:3 <= l.length) (h4:l.length <= cap) (h5:l.length <= 1000000):ShIn F ⟨r,l,some ⟨b,0,none⟩,cap⟩
theorem ShIn.mono{F F':HL}{s:Shp}(h:ShIn F s)(hs:∀x∈F,x∈F'):ShIn F' s:=by
 cases h with
 | circle r A cap=>exact .circle r A cap
 | poly r l b cap h h3 h4 h5=>exact .poly r l b cap (hs _ h) h3 h4 h5
def gZ(s:Shp):Prop:=s.poly=[]
instance (s:Shp):Decidable (gZ s):=decidable_of_iff (s.poly.isEmpty=true) (by simp[gZ])
def DF(b:Bx)(c:V2):Bx:=⟨if c.x<b.x0 then c.x else b.x0,if c.y<b.y0 then c.y else b.y0,if c.x>b.x1 then c.x else b.x1,if c.y>b.y1 then c.y else b.y1⟩
def ji(pos:V2)(l:List V2):Nat -> Bx
 | 0=>⟨(ay pos (l.getD 0 ⟨0,0⟩)).x,(ay pos (l.getD 0 ⟨0,0⟩)).y,(ay pos (l.getD 0 ⟨0,0⟩)).x,(ay pos (l.getD 0 ⟨0,0⟩)).y⟩
 | k+1=>DF (ji pos l k) (ay pos (l.getD (1+k) ⟨0,0⟩))
def aI(s:Shp)(pos:V2):Bx:=if gZ s then ⟨aV (pos.x-s.r),aV (pos.y-s.r),aV (pos.x+s.r),aV (pos.y+s.r)⟩ else ji pos s.poly (s.poly.length-1)
def mM(a b c d:Int):Prop:=a <= d /\ c <= b
instance (a b c d:Int):Decidable (mM a b c d):=inferInstanceAs (Decidable (_ /\ _))
def xh(a b:Bx):Prop:=mM a.x0 a.x1 b.x0 b.x1 /\ mM a.y0 a.y1 b.y0 b.y1
instance (a b:Bx):Decidable (xh a b):=inferInstanceAs (Decidable (_ /\ _))
theorem nu(r:Int)(A:Option Addr)(n cap:Nat)(F:HL):Sp Tryz.prog 79 #[.agg #[vI r,.slice A n cap]] [] F (λ u H'=>u=.bool (decide ((n:Int)=0)) /\ H'=[]):=by
 refine Sp.run Tryz.func79 rfl mn (A:=[]) (Ts:=[]) rfl λ w0=>?_
 refine aa 15 [.own 0] λ n1=>?_
 exact RN.ret [] [] [] ⟨rfl,rfl⟩
theorem g9(r:Int)(A:Option Addr)(n cap:Nat)(F:HL):Sp Tryz.prog 205 #[.agg #[vI r,.slice A n cap]] [] F (λ u H'=>u=.bool (decide ((n:Int)=0)) /\ H'=[]):=by
 refine Sp.run Tryz.func205 rfl mn (A:=[]) (Ts:=[]) rfl λ w0=>?_
 refine aa 15 [.own 0] λ n1=>?_
 exact RN.ret [] [] [] ⟨rfl,rfl⟩
theorem uH(a:Int)(b:Int)(c:Int)(d:Int)  (F:HL):Sp Tryz.prog 132 #[vI a,vI b,vI c,vI d] [] F (λ u H'=>u=.bool (decide (mM a b c d)) /\ H'=[]):=by
 refine Sp.run Tryz.func132 rfl mn (A:=[]) (Ts:=[]) rfl λ w0=>?_
 refine aa 11 [] λ _=>RN.em (a <= d) 12 (λ h1=>?_) λ h1=>?_
 ·refine aa 7 [] λ _=>RN.ret [] [] [] (v:=.bool (decide (c <= b))) (H':=[]) ?_
  exact⟨by simp[mM, *],rfl⟩
 ·refine aa 7 [] λ _=>RN.ret [] [] [] (v:=.bool false) (H':=[]) ?_
  exact⟨by simp[mM, *],rfl⟩
theorem td(a:Bx)(b:Bx)  (F:HL):Sp Tryz.prog 95 #[.agg #[vI a.x0,vI a.y0,vI a.x1,vI a.y1],.agg #[vI b.x0,vI b.y0,vI b.x1,vI b.y1]] [] F (λ u H'=>u=.bool (decide (xh a b)) /\ H'=[]):=by
 refine Sp.run Tryz.func95 rfl mn (A:=[]) (Ts:=[]) rfl λ w0=>?_
 refine aa 17 [.own 1,.own 1,.own 0,.own 0] λ n1=>al (uH a.x0 a.x1 b.x0 b.x1  _)<|aa 1 [] λ _=>RN.em (mM a.x0 a.x1 b.x0 b.x1) 14 (λ h2=>?_) λ h2=>?_
 ·refine aa 8 [.own 1,.own 1,.own 0,.own 0] λ _=>al (uH a.y0 a.y1 b.y0 b.y1  _)<|aa 4 [] λ _=>RN.ret [] [] [] (v:=.bool (decide (mM a.y0 a.y1 b.y0 b.y1))) (H':=[]) ?_
  exact⟨by simp[xh, *],rfl⟩
 ·refine aa 13 [] λ _=>RN.ret [] [] [] (v:=.bool false) (H':=[]) ?_
  exact⟨by simp[xh, *],rfl⟩
theorem qP(r:Int)(A:Option Addr)(cap:Nat)(pos:V2)(F:HL):Sp Tryz.prog 131 #[.agg #[vI r,.slice A 0 cap],.agg #[vI pos.x,vI pos.y]] [] F (λ u H'=>u=.agg #[vI ((aI ⟨r,[],A,cap⟩ pos).x0),vI ((aI ⟨r,[],A,cap⟩ pos).y0),vI ((aI ⟨r,[],A,cap⟩ pos).x1),vI ((aI ⟨r,[],A,cap⟩ pos).y1)] /\ H'=[]):=by
 refine Sp.run Tryz.func131 rfl mn (A:=[]) (Ts:=[]) rfl λ w0=>?_
 refine aa 11 [.own 2,.own 2] λ n1=>al (nu r A 0 cap _)<|aa 29 [.own 1,.own 2,.own 1,.own 2,.own 1,.own 2,.own 1,.own 2,.own 0,.own 0,.own 0,.own 0] λ _=>?_
 exact RN.ret [.own 0,.own 0,.own 0,.own 0] [] [] ⟨rfl,rfl⟩
theorem uI(r:Int)(l:List V2)(b cap:Nat)(pos:V2)(F:HL)(hb:(b,.rows 2 cap (jh l) 29 (0,0))∈F)(h3:3 <= l.length)(h4:l.length <= cap)(h5:l.length <= 1000000):Sp Tryz.prog 131 #[.agg #[vI r,vS b 0 l.length cap],.agg #[vI pos.x,vI pos.y]] [] F (λ u H'=>u=.agg #[vI ((aI ⟨r,l,some ⟨b,0,none⟩,cap⟩ pos).x0),vI ((aI ⟨r,l,some ⟨b,0,none⟩,cap⟩ pos).y0),vI ((aI ⟨r,l,some ⟨b,0,none⟩,cap⟩ pos).x1),vI ((aI ⟨r,l,some ⟨b,0,none⟩,cap⟩ pos).y1)] /\ H'=[]):=by
 refine Sp.run Tryz.func131 rfl (mc hb mn) (A:=[]) (Ts:=[]) rfl λ w0=>?_
 refine aa 11 [.own 2,.own 2] λ n1=>al (nu r (some ⟨b,0,none⟩) l.length cap _)<|aa 2 [] λ _=>dR 11 (decide_eq_false (show ¬ ((l.length:Int)=0) by omega))<|aa 4 [] λ _=>RN.draw [7] []<|aL [] [0,1,2,3,4] [.own 1,.own 1,.own 2,.ix 0,.rorow 0 0 0,.rorow 0 0 1] [((0+0*2)+1)=0*2+1 /\ 0<cap,(0+0*2)=0*2+0 /\ 0<cap,0=((0:Nat):Int) /\ 0<l.length]<|au [] 5 (λ X_=>(dM pos (l.getD 0 ⟨0,0⟩)  _))<|RD.one 6 (RDO.ev [] [] λ n2=>?_)
 refine RD.one 7 (RDO.ev [] [.own 0,.own 0] λ _=>?_)
 refine RD.fin<|aq 27 (ow 0 8++[.own 4,.sl 1 l.length false]) [1=((1:Nat):Int) /\ l.length=l.length /\ 1 <= l.length /\ l.length <= cap /\ cap≠1] λ n3=>RN.loop (σ:=Nat) (λ k=>⟨[(3,vP (n1+1) 0),(4,vP (n1+2) 0),(6,vP (n3+0) 0),(50,vS b 2 (l.length-1) (cap-1)),(51,vI (((l.length-1):Nat):Int)),(52,vI (k:Int))],[((n3+0),.lit [vI ((ji pos l k).x0),vI ((ji pos l k).y0),vI ((ji pos l k).x1),vI ((ji pos l k).y1)] 25 (0,0)),((n2+0),.lit [vI ((ay pos (l.getD 0 ⟨0,0⟩)).x),vI ((ay pos (l.getD 0 ⟨0,0⟩)).y)] 29 (0,0)),((n1+2),.lit [vI 0,vI 0,vI 0,vI 0] 25 (0,0)),((n1+1),.lit [vI pos.x,vI pos.y] 29 (0,0)),((n1+0),.lit [vI r,vS b 0 l.length cap] 71 (0,0))],[],k <= l.length-1,l.length-k⟩) 0 [0,1,2,3,4] [] (Nat.zero_le _) ?_
 rintro k hI4 UC
 refine aa 6 [] λ _=>RN.em ((k:Int)<(((l.length-1):Nat):Int)) 53 (λ h6=>?_) λ h6=>?_
 ·refine aq 17 [.ix k,.rorow 0 (1+k) 0,.rorow 0 (1+k) 1,.own 0,.own 0,.own 4,.own 4,.own 0,.own 0] [((2+k*2)+1)=(1+k)*2+1 /\ (1+k)<cap,(2+k*2)=(1+k)*2+0 /\ (1+k)<cap,(k:Int)=((k:Nat):Int) /\ k<(l.length-1)] λ n7=>al (dM pos (l.getD (1+k) ⟨0,0⟩)  _)<|aa 5 [.own 0,.own 0] λ n8=>RN.draw [11,13] [0,1,3,4,5,6]<|af [0,1,3,4,5,6] [0,2,5,7,1,3,6,8,4,9,10] [.own 2,.own 0,.own 2,.ro 0]<|RD.one 11 (RDO.ev [0,1,3,4,5,6] [.own 2] λ _=>?_)
  refine af [0,1,3,4,5,6] [12] []<|RD.one 13 (RDO.ev [0,1,3,4,5,6] [.own 2] λ _=>?_)
  refine RD.fin<|aa 1 [] λ _=>RN.draw [11,13] [0,1,3,4,5,6]<|af [0,1,3,4,5,6] [0,2,5,7,1,3,6,8,4,9,10] [.own 2,.own 0,.own 2,.ro 0]<|RD.one 11 (RDO.ev [0,1,3,4,5,6] [.own 2] λ _=>?_)
  refine af [0,1,3,4,5,6] [12] []<|RD.one 13 (RDO.ev [0,1,3,4,5,6] [.own 2] λ _=>?_)
  refine RD.fin<|aq 6 [.nw] [bF ((k:Int)+1)] λ _=>?_
  refine UC (k+1) [2,3,4,5,6] [] ?_
  try dsimp only
  refine⟨by omega,by omega⟩
 ·refine aa 12 [.own 0,.own 0,.own 0,.own 0,.own 2,.own 2,.own 2,.own 2] λ _=>RN.ret [.own 2,.own 2,.own 2,.own 2] [] [] (v:=.agg #[vI ((ji pos l k).x0),vI ((ji pos l k).y0),vI ((ji pos l k).x1),vI ((ji pos l k).y1)]) (H':=[]) ?_
  have ek:k=l.length-1:=by omega
  subst ek
  refine⟨?_,rfl⟩
  unfold aI
  rw[if_neg (by intro e;simp[gZ] at e;rw[e] at h3;simp at h3)]
theorem jL(s:Shp)(pos:V2)(F:HL)(h:ShIn F s):Sp Tryz.prog 131 #[Mw s,.agg #[vI pos.x,vI pos.y]] [] F (λ u H'=>u=.agg #[vI (aI s pos).x0,vI (aI s pos).y0,vI (aI s pos).x1,vI (aI s pos).y1] /\ H'=[]):=by
 cases h with
 | circle r A cap=>exact qP r A cap pos F
 | poly r l b cap h h3 h4 h5=>exact uI r l b cap pos F h h3 h4 h5
end Go.Proofs.YthoijjeddhfcnaaGreatDoor
