import Derived.Test.YtogafelgppjklaaGreatDoorQ01
import Derived.Test.YtogafelgppjklaaGreatDoorProg
import Derived.Shelf.Small.Bits
import Derived.Shelf.Strconv.Itoa0
import Derived.Laws.IdiomCopy
import Derived.Laws.IdiomStrings
import Derived.Deep.MidRow
set_option maxHeartbeats 4000000
set_option maxRecDepth 100000
set_option linter.all false
namespace Go.Proofs.YtogafelgppjklaaGreatDoor
open Go.RowKit
open IntKind
open Go.RowKit Go.Shelf
section
variable {A:HL} {L:FL} {Ts:List HL} {i:Nat} {k:List KI} {ops:Array Oper} {σ:Type} (n:Nat) (ix:List Nat) (t:Nat) (is:List Nat) (hints:List Hint) (Ob:List Prop)
def mZ(s:Cfg):Array Oper:=match s.c with
 | .drw ops _=>ops
 |_=>#[]
def eS(s:Cfg):List Bool:=match s.c with
 | .drw _ l=>l
 |_=>[]
def dk:List Bool->Nat
 | []=>0
 |true::l=>dk l
 |false::l=>dk l+1
theorem Ej:dk (List.replicate n false)=n:=by
 induction n with
 |zero=>rfl
 |succ n ih=>rw[List.replicate_succ,dk,ih]
def QY(s:Cfg):Cfg:=match s with
 | ⟨.code (.region _ ops true),k,L,A,Ts⟩=>⟨.drw ops (List.replicate ops.toList.length false),k,L,A,Ts⟩
 |s=>s
def N3(s:Cfg):Bool:=match s.c with
 | .code (.region _ ops true)=>Region.noSelect ops && qV ops
 |_=>false
structure RD(r:Option Nat)(P:Program)(N:Nat)(D:List Deferred)(F:HL)(w0:World)(R:HL)(hards:List Nat)(Rd:HL)(s:Cfg)(Q:Exit->Act->World->Prop):Prop where
 h:(∀y∈R,y∈F)->Region.noSelect (mZ s)=true->TD P N D F w0 (mZ s) hards Rd (dk (eS s)) (eS s) s.L (ap s.A s.Ts) (NoPanic (lL r P s.k Q))
section
variable {r:Option Nat} {P:Program} {N:Nat} {D:List Deferred} {F:HL} {w0:World} {R:HL} {s:Cfg} {Q:Exit->Act->World->Prop} {hards:List Nat} {Rd:HL}
def vZ(ix:List Nat)(s:Cfg):HL:=ix.filterMap (s.A[·]?)
theorem RN.draw(hards ix:List Nat)(hk:RD r P N D F w0 R hards (vZ ix s) (QY s) Q)(hm:P.follows .mixedOrders=true:=by kernel_rfl)(hc:N3 s=true:=by kernel_rfl):RN r P N D F w0 R s Q:=by
 refine⟨λ hR=>?_⟩;obtain⟨c,k,L,A,Ts⟩:=s;unfold N3 at hc;split at hc
 case h_2=>cases hc
 rename_i id ops e;simp only at e;subst e;rw[aaW] at hc;have h1:=hk.h hR hc.1;exact TR.draw hards _ hm hc.1 hc.2 (by
  simp only[QY,eS,mZ,Ej] at h1;have e:ops.toList.length=ops.size:=by simp
  rw[e] at h1 ⊢;exact h1)
def L2(s:Cfg):Cfg:=match s with
 | ⟨.drw _ _,k,L,A,Ts⟩=>⟨.ex .normal,k,L,A,Ts⟩
 |s=>s
def AX(s:Cfg):Bool:=match s.c with
 | .drw ops l=>(i0 ops.toList l).isEmpty
 |_=>false
theorem RD.fin(hk:RN r P N D F w0 R (L2 s) Q)(hc:AX s=true:=by kernel_rfl):RD r P N D F w0 R hards Rd s Q:=by
 refine⟨λ hR _=>?_⟩;obtain⟨c,k,L,A,Ts⟩:=s;unfold AX at hc;split at hc
 case h_2=>cases hc
 rename_i ops l e;simp only at e;subst e;exact TD.fin (List.isEmpty_iff.1 hc) (QQ (λ a w h1 h2 h3=>hk.h hR a w h1 h2 h3))
def G3(P:Program)(N:Nat)(R:HL)(hards:List Nat)(Rd:HL)(is:List Nat)(hints:List Hint)(s:Cfg):Option (List Bool×FL×SS):=match s.c with
 | .drw ops l=>tM P 0 N ops.toList hards Rd is l s.L ⟨ap s.A s.Ts,R,hints,0,[],[],false⟩
 |_=>none
def SQ(P:Program)(N:Nat)(R:HL)(hards:List Nat)(Rd:HL)(is:List Nat)(hints:List Hint)(s:Cfg):Cfg:=match G3 P N R hards Rd is hints s with
 |some (b,L',_)=>match s with
  | ⟨.drw ops _,k,_,A,Ts⟩=>⟨.drw ops b,k,L',A,Ts⟩
  |s=>s
 |none=>s
def ST(x:Option (List Bool×FL×SS)):List Nat:=match x with
 |some (_,_,ss)=>ss.eq.map (·.2)
 |none=>[]
def OW(n:Nat)(x:Option (List Bool×FL×SS)):Option (Nat×List Nat×List Prop):=match x with
 |some (b,_,ss)=>match ss.hints with
  | []=>some (dk b+n,ss.eq.map (·.1),ss.ob)
  |_=>none
 |none=>none
theorem G4{ix is:List Nat}{hints:List Hint}{Ob:List Prop}(iD:AllP Ob)(hk:RD r P N D F w0 R hards Rd (SQ P N R hards Rd is hints s) Q)
  (h:OW is.length (G3 P N R hards Rd is hints s)=some (dk (eS s),ST (G3 P N R hards Rd is hints s),Ob):=by kernel_rfl) (hix:vZ ix s=Rd:=by kernel_rfl):RD r P N D F w0 R hards Rd s Q:=by
 refine⟨λ hR hs=>?_⟩;obtain⟨c,k,L,A,Ts⟩:=s;cases c with
 |drw ops l=>
  simp only[mZ,eS] at hs ⊢;unfold SQ at hk;generalize hx:G3 P N R hards Rd is hints ⟨.drw ops l,k,L,A,Ts⟩=x at h hk;unfold OW at h;split at h
  case h_2=>cases h
  rename_i b L' ss;split at h
  case h_2=>cases h
  simp only[ST,eS,de,df] at h;obtain⟨e1,e2,e3⟩:=h;rw[<- e1];refine jC (Rr:=R) hs (λ x hx=>aaC _ (qh ix hix x hx)) hR is l b L L' _ ss hx rfl rfl rfl (f6 e2 rfl) (by rw[e3];exact AllP.mem iD)<|hk.h hR hs
 |code c=>simp[G3,OW] at h
 |ops ops i=>simp[G3,OW] at h
 |ex e=>simp[G3,OW] at h
theorem ag(hk:RD r P N D F w0 R hards Rd (SQ P N R hards Rd is hints s) Q)
 (h:OW is.length (G3 P N R hards Rd is hints s)=some (dk (eS s),ST (G3 P N R hards Rd is hints s),[]):=by kernel_rfl) (hix:vZ ix s=Rd:=by kernel_rfl):RD r P N D F w0 R hards Rd s Q:=G4 (ix:=ix) (is:=is) (hints:=hints) (Ob:=[]) trivial hk h hix
theorem aem (hk:RD r P N D F w0 R hards Rd (SQ P N R hards Rd is [] s) Q) (h:OW is.length (G3 P N R hards Rd is [] s)=some (dk (eS s),ST (G3 P N R hards Rd is [] s),[]):=by kernel_rfl) (hix:vZ [] s=Rd:=by kernel_rfl):RD r P N D F w0 R hards Rd s Q:=ag [] is [] hk h hix
theorem aA(hk:RD r P N D F w0 R hards Rd (SQ P N R hards Rd is hints s) Q)(iD:AllP Ob:=by simp only[AllP,aI,and_true,true_and] <;> (repeat' with_reducible refine And.intro ?_ ?_) <;> omega)
 (h:OW is.length (G3 P N R hards Rd is hints s)=some (dk (eS s),ST (G3 P N R hards Rd is hints s),Ob):=by kernel_rfl) (hix:vZ ix s=Rd:=by kernel_rfl):RD r P N D F w0 R hards Rd s Q:=G4 iD hk h hix
theorem RD.fx{b v:Bool}(hb:b=v)(hk:RD r P N D F w0 R hards Rd (qH t v s) Q)(h:s.L.lookup t=some (.bool b):=by kernel_rfl):RD r P N D F w0 R hards Rd s Q:=by
 subst hb;exact⟨λ hR hs I_ a hF=>hk.h hR hs I_ a (hF.fix h)⟩
theorem RD.em(p:Prop)[Decidable p](t:Nat)(h1:p->RD r P N D F w0 R hards Rd (qH t true s) Q)(h2:¬ p->RD r P N D F w0 R hards Rd (qH t false s) Q)(h:s.L.lookup t=some (.bool (decide p)):=by kernel_rfl):RD r P N D F w0 R hards Rd s Q:=by
 by_cases hp:p
 ·exact RD.fx t (abk hp) (h1 hp) h
 ·exact RD.fx t (abh hp) (h2 hp) h
theorem RD.ro{R':HL}(h:(∀y∈R,y∈F)->∀y∈R',y∈F)(hk:RD r P N D F w0 R' hards Rd s Q):RD r P N D F w0 R hards Rd s Q:=⟨λ hR=>hk.h (h hR)⟩
def OX(P:Program)(N:Nat)(R:HL)(i:Nat)(s:Cfg):Option (Option Tmp×FuncId×Array Value×List Nat×List Prop):=match s.c with
 | .drw ops _=>match ops.toList[i]? with
  |none=>none
  |some o=>match jA ops.toList o s.L ⟨ap s.A s.Ts,R,[],0,[],[],false⟩ with
   |some (true,ss)=>match iX o.op s.L with
    |true=>match ev P 0 o (eY s.L) ss with
     |some (.enter f args,s')=>match s'.hints with
      | []=>some (o.dst,f,args,s'.eq.map (·.1),s'.ob)
      |_=>none
     |_=>none
    |false=>none
   |_=>none
 |_=>none
def QZ(N:Nat)(hards:List Nat)(i:Nat)(s:Cfg)(x:Option (Option Tmp×FuncId×Array Value×List Nat×List Prop)):Option (FuncId×Array Value×List Nat×List Prop×Nat):=match x with
 |some (dst,f,args,E,Ob)=>match (dK N dst undef s.L).isSome,QF (mZ s).toList hards (eS s) i with
  |true,true=>some (f,args,E,Ob,dk (aO (eS s) i true)+1)
  |_,_=>none
 |none=>none
def qI(N i:Nat)(v:Value)(s:Cfg):Cfg:=match s with
 | ⟨.drw ops l,k,L,A,Ts⟩=>match ops.toList[i]? with
  |some o=>match dK N o.dst v L with
   |some L'=>⟨.drw ops (aO l i true),k,L',A,Ts⟩
   |none=>⟨.drw ops l,k,L,A,Ts⟩
  |none=>⟨.drw ops l,k,L,A,Ts⟩
 |s=>s
theorem RD.cp(ix:List Nat)(i:Nat){f:FuncId}{args:Array Value}{v:Value}(hc:∀X,Sp P f args [] (X++(ap s.A s.Ts++F)) (λ u H'=>u=v/\H'=[]))(hk:RD r P N D F w0 R hards Rd (qI N i v s) Q)
  (h:QZ N hards i s (OX P N R i s)=some (f,args,[],[],dk (eS s)):=by kernel_rfl) (hix:vZ ix s=Rd:=by kernel_rfl):RD r P N D F w0 R hards Rd s Q:=by
 refine⟨λ hR hs=>?_⟩;obtain⟨c,k,L,A,Ts⟩:=s;cases c with
 |drw ops l=>
  simp only[mZ,eS] at hs ⊢ h;generalize hx:OX P N R i ⟨.drw ops l,k,L,A,Ts⟩=x at h;unfold QZ at h;split at h
  case h_2=>cases h
  rename_i dst f' iS E Ob;split at h
  case h_2=>cases h
  rename_i X3 dO;simp only[mZ,eS,de,df] at h dO;obtain⟨e1,e2,e3,e4,e5⟩:=h;subst e1;subst e2;subst e3;subst e4;obtain⟨L',hl⟩:=b7 X3 v;have Yi:=hx;unfold OX at Yi;simp only at Yi;have ho:∃o,ops.toList[i]?=some o/\o.dst=dst:=by
   split at Yi
   ·cases Yi
   rename_i o ho;split at Yi
   case h_2=>cases Yi
   split at Yi
   case h_2=>cases Yi
   split at Yi
   case h_2=>cases Yi
   split at Yi
   case h_2=>cases Yi
   simp only[de,df] at Yi;exact⟨o,ho,Yi.1⟩
  obtain⟨o,ho,hd⟩:=ho;have UF:qI N i v ⟨.drw ops l,k,L,A,Ts⟩=⟨.drw ops (aO l i true),k,L',A,Ts⟩:=by
   unfold qI;simp only[ho,hd,hl]
  rw[UF] at hk;subst hd;show TD P N D F w0 ops hards Rd (dk l) l L (ap A Ts) (NoPanic (lL r P k Q));rw[<- e5];refine xC (v:=v) (L1:=L') hs (by unfold QF at dO;unfold QG;simp only[aaW] at dO ⊢;exact dO.1) (by simpa using ho) (λ a hF=>hF.put hl) (λ a hF=>?_) (λ x hx=>aaC _ (qh ix hix x hx)) (.inl dO) (hk.h hR hs);unfold OX at hx;simp only[ho] at hx;split at hx
  case h_2=>cases hx
  rename_i ss XC;split at hx
  case h_2=>cases hx
  rename_i aiK;split at hx
  case h_2=>cases hx
  rename_i f2 am3 s2 he;split at hx
  case h_2=>cases hx
  simp only[de,df] at hx;obtain⟨-,e2,e3,e4,e5⟩:=hx;subst e2;subst e3;obtain⟨a1,a2,a3,a4⟩:=bE XC;obtain⟨d1,d2,d3,d4⟩:=dz he;have Vz:∀p∈s2.ob,p:=by rw[e5];intro p hp;cases hp
  have ac0:∀p∈s2.eq,p.1=p.2:=by
   have:s2.eq=[]:=by simpa using e4
   rw[this];intro p hp;cases hp
  obtain⟨c1,c2,c3⟩:=b6 XC hF (λ p hp=>Vz p (d2 p hp));refine .inl ⟨c1,λ X w aT hB=>?_⟩;have Vr:Rel (ap A Ts++(X++F)) w:=aT.perm (by
   rw[<- aaF,<- aaF];exact aaT F aaS)
  obtain⟨w1,r1,r2,r3,r4,r5⟩:=gQ (w:=w) (F:=X++F) he ac0 Vz (by rw[c2];exact Vr) (by rw[a3];exact λ y hy=>aaB _ (hR y hy)) (λ e=>by rw[a4] at e;cases e);obtain rfl:=r5 a4;unfold cI;rw[hF.exec aiK,r1];refine(hc X w1 (by simpa using aT)).mono ?_;rintro e w2 ⟨u,H',rfl,⟨rfl,rfl⟩,h3,h4⟩;exact⟨rfl,by simpa using h3,hB.trans h4⟩
 |code c=>simp[OX,QZ] at h
 |ops ops i=>simp[OX,QZ] at h
 |ex e=>simp[OX,QZ] at h
structure RDO(r:Option Nat)(P:Program)(N:Nat)(D:List Deferred)(F:HL)(w0:World)(R:HL)(hards:List Nat)(Rd:HL)(i:Nat)(s:Cfg)(Q:Exit->Act->World->Prop):Prop where
 h:(∀y∈R,y∈F)->Region.noSelect (mZ s)=true->∀a,Fm N D s.L a->Closed (mZ s) ⟨aO (eS s) i true⟩->OPJ P (mZ s) F w0 hards Rd i a (ap s.A s.Ts) (JJ P (mZ s) (NoPanic (lL r P s.k Q)) F w0 hards Rd (dk (aO (eS s) i true)) ⟨aO (eS s) i true⟩)
def L3(s:Cfg):List Nat:=i0 (mZ s).toList (eS s)
def LS(i:Nat)(s:Cfg):Nat:=dk (aO (eS s) i true)+1
theorem RD.one(i:Nat)(hk:RDO r P N D F w0 R hards Rd i s Q)(h:(L3 s,dk (eS s))=([i],LS i s):=by kernel_rfl):RD r P N D F w0 R hards Rd s Q:=by
 refine⟨λ hR hs=>?_⟩;simp only[df] at h;exact TD.one i h.1 _ h.2 λ a hF I_=>hk.h hR hs a hF I_
theorem dg(i j:Nat)(h1:RDO r P N D F w0 R hards Rd i s Q)(h2:RDO r P N D F w0 R hards Rd j s Q)(h:(L3 s,dk (eS s),dk (eS s))=([i,j],LS i s,LS j s):=by kernel_rfl):RD r P N D F w0 R hards Rd s Q:=by
 refine⟨λ hR hs=>?_⟩;simp only[df] at h;have e:dk (aO (eS s) i true)=dk (aO (eS s) j true):=by
  have:=h.2.1.symm.trans h.2.2;unfold LS at this;omega
 exact OT h.1 h.2.1 (λ a hF I_=>h1.h hR hs a hF I_) (λ a hF I_=>by have:=h2.h hR hs a hF I_;rw[<- e] at this;exact this)
theorem G5(i j k:Nat)(h1:RDO r P N D F w0 R hards Rd i s Q)(h2:RDO r P N D F w0 R hards Rd j s Q)(h3:RDO r P N D F w0 R hards Rd k s Q)(h:(L3 s,dk (eS s),dk (eS s),dk (eS s))=([i,j,k],LS i s,LS j s,LS k s):=by kernel_rfl):RD r P N D F w0 R hards Rd s Q:=by
 refine⟨λ hR hs=>?_⟩;simp only[df] at h;have e:dk (aO (eS s) i true)=dk (aO (eS s) j true):=by
  have:=h.2.1.symm.trans h.2.2.1;unfold LS at this;omega
 have e':dk (aO (eS s) i true)=dk (aO (eS s) k true):=by
  have:=h.2.1.symm.trans h.2.2.2;unfold LS at this;omega
 exact GX h.1 h.2.1 (λ a hF I_=>h1.h hR hs a hF I_) (λ a hF I_=>by have:=h2.h hR hs a hF I_;rw[<- e] at this;exact this) (λ a hF I_=>by have:=h3.h hR hs a hF I_;rw[<- e'] at this;exact this)
def AY(P:Program)(n0 N:Nat)(R:HL)(i:Nat)(hints:List Hint)(s:Cfg):Option (Fo×FL×SS):=match s.c with
 | .drw ops l=>match ops.toList[i]? with
  |none=>none
  |some o=>match jA ops.toList o s.L ⟨s.A,R,hints,0,[],[],true⟩ with
   |some (true,ss)=>match iX o.op s.L with
    |true=>match ev P n0 o (eY s.L) ss with
     |some (.value v,s')=>match dK N o.dst v s.L with
      |some L'=>some (.drw ops (aO l i true),L',s')
      |none=>none
     |some (.skip,s')=>match dK N o.dst undef s.L with
      |some L'=>some (.drw ops (aO l i true),L',s')
      |none=>none
     |_=>none
    |false=>none
   |_=>none
 |_=>none
theorem G6{n0:Nat}{hints:List Hint}{l:List Bool}{c:Fo}{L':FL}{s':SS}(h:AY P n0 N R i hints ⟨.drw ops l,k,L,A,Ts⟩=some (c,L',s')) :
  ∃o ss u x,ops[i]?=some o/\jA ops.toList o L ⟨A,R,hints,0,[],[],true⟩=some (true,ss)/\iX o.op L=true/\ev P n0 o (eY L) ss=some (x,s')/\(x=.value u\/(x=.skip/\u=undef))/\dK N o.dst u L=some L'/\c=.drw ops (aO l i true):=by
 unfold AY at h;simp only at h;split at h
 ·cases h
 rename_i o ho;split at h
 case h_2=>cases h
 rename_i ss hw;split at h
 case h_2=>cases h
 rename_i dO;split at h
 ·rename_i v s2 he;split at h
  case h_2=>cases h
  rename_i hp;simp only[de,df] at h;obtain⟨e1,e2,e3⟩:=h;subst e2;subst e3;exact⟨o,ss,v,_,by simpa using ho,hw,dO,he,.inl rfl,hp,e1.symm⟩
 ·rename_i s2 he;split at h
  case h_2=>cases h
  rename_i hp;simp only[de,df] at h;obtain⟨e1,e2,e3⟩:=h;subst e2;subst e3;exact⟨o,ss,undef,_,by simpa using ho,hw,dO,he,.inr ⟨rfl,rfl⟩,hp,e1.symm⟩
 ·cases h
def QH(P:Program)(n0 N:Nat)(R:HL)(i:Nat)(hints:List Hint)(s:Cfg):Cfg:=match AY P n0 N R i hints s with
 |some (c,L',ss)=>match s with
  | ⟨_,k,_,_,Ts⟩=>⟨c,k,L',ss.h,Ts⟩
 |none=>s
def Q0(x:Option (Fo×FL×SS)):List Nat:=match x with
 |some (_,_,ss)=>ss.eq.map (·.2)
 |none=>[]
def SU(ZQ:Bool)(ix:List Nat)(A A':HL):HL:=match ZQ with
 |true=>ix.filterMap (A'[·]?)
 |false=>A'.drop (A'.length-A.length)
def N4(ZQ:Bool)(ix:List Nat)(A:HL)(x:Option (Fo×FL×SS)):Option (List Nat×List Prop×HL):=match x with
 |some (_,_,ss)=>match ss.hints with
  | []=>some (ss.eq.map (·.1),ss.ob,SU ZQ ix A ss.h)
  |_=>none
 |none=>none
theorem CK(Ob:Nat->List Prop)(iD:∀n0,AllP (Ob n0))(hk:∀n0,RD r P N D F w0 R hards Rd (QH P n0 N R i hints s) Q)
  (h:∀n0,N4 (hards.contains i) ix s.A (AY P n0 N R i hints s)=some (Q0 (AY P n0 N R i hints s),Ob n0,cond (hards.contains i) Rd s.A):=by intro n0;kernel_rfl):RDO r P N D F w0 R hards Rd i s Q:=by
 refine⟨λ hR hs a hF I_=>?_⟩;obtain⟨c,k,L,A,Ts⟩:=s;cases c with
 |code c=>simp[AY,N4] at h
 |ops ops i=>simp[AY,N4] at h
 |ex e=>simp[AY,N4] at h
 |drw ops l=>
  simp only[mZ,eS] at hs I_ h hF ⊢;have key:∀n0,∃o ss s' u x L',ops[i]?=some o/\jA ops.toList o L ⟨A,R,hints,0,[],[],true⟩=some (true,ss)/\iX o.op L=true/\ev P n0 o (eY L) ss=some (x,s')/\(x=.value u\/(x=.skip/\u=undef))/\dK N o.dst u L=some L'/\
    QH P n0 N R i hints ⟨.drw ops l,k,L,A,Ts⟩=⟨.drw ops (aO l i true),k,L',s'.h,Ts⟩/\(∀p∈s'.eq,p.1=p.2)/\s'.ob=Ob n0/\SU (hards.contains i) ix A s'.h=cond (hards.contains i) Rd A:=by
   intro n0;have h1:=h n0;generalize hx:AY P n0 N R i hints ⟨.drw ops l,k,L,A,Ts⟩=x at h1;unfold N4 at h1;split at h1
   case h_2=>cases h1
   rename_i c L' s';split at h1
   case h_2=>cases h1
   simp only[Q0,de,df] at h1;obtain⟨e1,e2,e3⟩:=h1;obtain⟨o,ss,u,x,q1,q2,q3,q4,q5,q6,q7⟩:=G6 hx;refine⟨o,ss,s',u,x,L',q1,q2,q3,q4,q5,q6,?_,f6 e1 rfl,e2,e3⟩;unfold QH;rw[hx];subst q7;rfl
  unfold OPJ;obtain⟨o,ss,s',u,x,L',q1,q2,q3,q4,q5,q6,q7,q8,q9,P_⟩:=key 0;rw[q1];simp only;obtain⟨d1,d2,d3,d4⟩:=dz q4;rw[if_pos (b6 q2 hF (λ p hp=>AllP.mem (iD 0) p (by rw[<- q9];exact d2 p hp))).1];intro w aT hB;obtain⟨o',ss,s',u,x,L',q1',q2,q3,q4,q5,q6,q7,q8,q9,P_⟩:=key w.heap.size;obtain rfl:o=o':=abL (q1.symm.trans q1');obtain⟨a1,a2,a3,a4⟩:=bE q2;obtain⟨d1,d2,d3,d4⟩:=dz q4;have Vz:∀p∈s'.ob,p:=by rw[q9];exact AllP.mem (iD _)
  obtain⟨c1,c2,c3⟩:=b6 q2 hF (λ p hp=>Vz p (d2 p hp));rw[eF] at aT;obtain⟨w1,r1,r2,r3,r4,r5⟩:=gQ (w:=w) (F:=Ts.flatten++F) q4 q8 Vz (by rw[c2];exact aT) (by rw[a3];exact λ y hy=>aaB _ (hR y hy)) (λ _=>by rw[c3];rfl);have hkk:=(hk w.heap.size).h hR;rw[q7] at hkk;have fin:∃H',((i∉hards->∃X,H'=X++ap A Ts)/\(i∈hards->∀x∈Rd,x∈H'))/\JJ P ops (NoPanic (lL r P k Q)) F w0 hards Rd (dk (aO l i true)) ⟨aO l i true⟩ (a.put o.dst u) H'/\Rel (H'++F) w1/\Below 0 w0 w1:=by
   refine⟨ap s'.h Ts,⟨λ hi=>?_,λ hi=>?_⟩,hkk hs I_ _ (hF.put q6),by rw[eF];exact r2,hB.trans r3⟩
   ·have hc:hards.contains i=false:=by
     cases hq:hards.contains i with
     |false=>rfl
     |true=>exact absurd (abC.1 hq) hi
    rw[hc] at P_;simp only[SU,cond_false] at P_;refine⟨s'.h.take (s'.h.length-A.length),?_⟩;show s'.h++Ts.flatten=_++(A++Ts.flatten);rw[<- aaF];congr 1
    conv=>lhs;rw[<- abg (s'.h.length-A.length) s'.h,P_]
   ·have hc:hards.contains i=true:=abC.2 hi;rw[hc] at P_;simp only[SU,cond_true] at P_;exact λ x hx=>aaC _ (qh ix P_ x hx)
  unfold cI;rw[hF.exec q3,r1];rcases q5 with rfl|⟨rfl,rfl⟩
  ·exact fin
  ·exact fin
theorem RDO.ev(ix:List Nat){i:Nat}(hints:List Hint)(hk:∀n0,RD r P N D F w0 R hards Rd (QH P n0 N R i hints s) Q)
 (h:∀n0,N4 (hards.contains i) ix s.A (AY P n0 N R i hints s)=some (Q0 (AY P n0 N R i hints s),[],cond (hards.contains i) Rd s.A):=by intro n0;kernel_rfl):RDO r P N D F w0 R hards Rd i s Q:=CK ix hints (λ _=>[]) (λ _=>trivial) hk h
theorem fK(hk:∀n0,RD r P N D F w0 R hards Rd (QH P n0 N R i hints s) Q)(iD:AllP Ob:=by simp only[AllP,aI,and_true,true_and] <;> (repeat' with_reducible refine And.intro ?_ ?_) <;> omega)
 (h:∀n0,N4 (hards.contains i) ix s.A (AY P n0 N R i hints s)=some (Q0 (AY P n0 N R i hints s),Ob,cond (hards.contains i) Rd s.A):=by intro n0;kernel_rfl):RDO r P N D F w0 R hards Rd i s Q:=CK ix hints (λ _=>Ob) (λ _=>iD) hk h
def QI(P:Program)(n0 N:Nat)(R:HL)(i:Nat)(s:Cfg):Option (Option Tmp×FuncId×Array Value×HL×List Nat×List Nat×List Prop):=match s.c with
 | .drw ops _=>oG P n0 N ops.toList i s.L (ap s.A s.Ts) R []
 |_=>none
theorem jX{l:List Bool}{o:Oper}(ho:ops[i]?=some o)(G:Value->σ->Prop)(Ho:σ->HL)(hl:(dK N o.dst undef L).isSome=true)
  (hg:∀a,Fm N D L a->Region.wanted o (yielded ops a.tmps)=true/\∀w,Rel (ap A Ts++F) w->Below 0 w0 w->cI P o a w λ u w'=>∃x,G u x/\Rel (Ho x++F) w'/\Below 0 w w')
  (ae7:∀x,(i∉hards->∃X,Ho x=X++ap A Ts)/\(i∈hards->∀y∈Rd,y∈Ho x))
  (hk:∀v x,G v x->∀L',dK N o.dst v L=some L'->Region.noSelect ops=true->TD P N D F w0 ops hards Rd (dk (aO l i true)) (aO l i true) L' (Ho x) (NoPanic (lL r P k Q))):RDO r P N D F w0 R hards Rd i ⟨.drw ops l,k,L,A,Ts⟩ Q:=by
 refine⟨λ hR hs a hF I_=>?_⟩;simp only[mZ,eS] at hs I_ hF ⊢;unfold OPJ;rw[ho];simp only;obtain⟨h1,h2⟩:=hg a hF;rw[if_pos h1];intro w aT hB;refine dS (h2 w aT hB) ?_;rintro u w' ⟨x,hx,By,VL⟩;obtain⟨L',Ya⟩:=b7 hl u;exact⟨Ho x,ae7 x,hk u x hx L' Ya hs I_ _ (hF.put Ya),By,hB.trans VL⟩
def CL(ZQ:Bool)(ix ip jp:List Nat)(s:Cfg)(Rd:HL):HL:=match ZQ with
 |true=>ix.filterMap ((eR ip s)[·]?)
 |false=>match ip,jp with
  | [],[]=>Rd
  |_,_=>(0,.obj (.deferred none))::Rd
theorem CM{α:Type}(l:List α):(oth [] l.length).filterMap (l[·]?)=l:=by
 have:oth [] l.length=List.range l.length:=by simp[oth]
 rw[this];exact G1 l
theorem G7{H H':HL}{fuel:Nat}{l:List Bool}(hp:H'.Perm H)(h:TD P N D F w0 ops hards Rd fuel l L H' Q):TD P N D F w0 ops hards Rd fuel l L H Q:=λ I_ a hF=>JJ.perm _ _ _ _ _ hp (h I_ a hF)
theorem RDO.ct{τ:Type}{i:Nat}(ix ip jp:List Nat){f:FuncId}{args:Array Value}{Hp:HL}{Tp:List HL}{Hq:τ->HL}{Tq:τ->List HL}{Rv:Value->τ->Prop}
  (hc:Sp P f args (ap Hp Tp) (ap (eR ip s) (fE jp s)++F) (λ v H'=>∃x,H'=ap (Hq x) (Tq x)/\Rv v x)) (hk:∀v x,Rv v x->RD r P N D F w0 R hards Rd (vW (λ A=>Hq x++(oth ip A.length).filterMap (A[·]?)) (λ Ts=>Tq x++(oth jp Ts.length).filterMap (Ts[·]?)) (qI N i v s)) Q)
  (h:∀n0,jD N s (QI P n0 N R i s)=some (f,args,[],[],ap s.A s.Ts):=by intro n0;kernel_rfl)
  (hp:bC ip jp s=true:=by kernel_rfl) (hH:picks ip jp s=(Hp,Tp):=by kernel_rfl) (hx:CL (hards.contains i) ix ip jp s Rd=Rd:=by kernel_rfl):RDO r P N D F w0 R hards Rd i s Q:=by
 obtain⟨c,k,L,A,Ts⟩:=s;cases c with
 |code c=>simp[QI,jD] at h
 |ops ops i=>simp[QI,jD] at h
 |ex e=>simp[QI,jD] at h
 |drw ops l=>
  refine⟨λ hR=>?_⟩;unfold bC at hp;unfold picks at hH;simp only[QI,aaW,df] at h hp hH;obtain⟨e1,e2⟩:=hH;have key:∀n0,∃dst,oG P n0 N ops.toList i L (ap A Ts) R []=some (dst,f,args,ap A Ts,[],[],[])/\(dK N dst undef L).isSome=true:=by
   intro n0;have h1:=h n0;generalize hx:oG P n0 N ops.toList i L (ap A Ts) R []=x at h1;unfold jD at h1;split at h1
   case h_2=>cases h1
   rename_i dst f' iS H1 E E' Ob';split at h1
   case h_2=>cases h1
   rename_i X3;simp only[de,df] at h1;obtain⟨e1,e2,e3,e4,e5⟩:=h1;subst e1;subst e2;subst e3;subst e4;subst e5;obtain⟨o,s1,s',_,_,_,_,_,_,g1,g2,_⟩:=iZ hx;have:s'.eq=[]:=by simpa using g1
   rw[this] at g2;simp only[List.map_nil] at g2;subst g2;exact⟨dst,rfl,X3⟩
  obtain⟨dst,hce,X3⟩:=key 0;obtain⟨o,s1,s',ho,_,_,_,hd,_⟩:=iZ hce;subst hd;have Q_:∀n0,oG P n0 N ops.toList i L (ap A Ts) R []=some (o.dst,f,args,ap A Ts,[],[],[]):=by
   intro n0;obtain⟨arD,h1,_⟩:=key n0;obtain⟨o',_,_,IT,_,_,_,Xb,_⟩:=iZ h1;obtain rfl:o=o':=abL (ho.symm.trans IT);rw[Xb];exact h1
  have oF:(ap Hp Tp++ap (eR ip ⟨.drw ops l,k,L,A,Ts⟩) (fE jp ⟨.drw ops l,k,L,A,Ts⟩)).Perm (ap A Ts):=by
   have h1:=my A Ts hp.1 hp.2;rw[e1,e2] at h1;exact h1
  have UF:∀v L',dK N o.dst v L=some L'->qI N i v ⟨.drw ops l,k,L,A,Ts⟩=⟨.drw ops (aO l i true),k,L',A,Ts⟩:=by
   intro v L' hl;unfold qI;simp only[ho,hl]
  have hTD:∀v x,Rv v x->∀L',dK N o.dst v L=some L'->Region.noSelect ops=true->TD P N D F w0 ops hards Rd (dk (aO l i true)) (aO l i true) L' (ap (Hq x++(oth ip A.length).filterMap (A[·]?)) (Tq x++(oth jp Ts.length).filterMap (Ts[·]?))) (NoPanic (lL r P k Q)):=by
   intro v x hv L' hl hs;have h1:=(hk v x hv).h hR;rw[UF v L' hl] at h1;exact h1 hs
  have ajj:∀a,Fm N D L a->Region.wanted o (yielded ops a.tmps)=true/\∀w,Rel (ap A Ts++F) w->Below 0 w0 w->cI P o a w λ u w'=>∃x,Rv u x/\Rel ((ap (Hq x) (Tq x)++ap (eR ip ⟨.drw ops l,k,L,A,Ts⟩) (fE jp ⟨.drw ops l,k,L,A,Ts⟩))++F) w'/\Below 0 w w':=by
   intro a hF;obtain⟨h1,h2⟩:=AJ (w0:=w0) ho Q_ hR trivial oF hc hF;refine⟨h1,λ w hR hB=>dS (h2 w hR hB) ?_⟩;rintro u w' ⟨H',⟨x,rfl,hv⟩,Wm,Yg⟩;exact⟨x,hv,Wm,Yg⟩
  have ae4:∀x,(ap (Hq x) (Tq x)++ap (eR ip ⟨.drw ops l,k,L,A,Ts⟩) (fE jp ⟨.drw ops l,k,L,A,Ts⟩)).Perm (ap (Hq x++(oth ip A.length).filterMap (A[·]?)) (Tq x++(oth jp Ts.length).filterMap (Ts[·]?))):=by
   intro x;have h1:=vR (A:=Hq x) (B:=eR ip ⟨.drw ops l,k,L,A,Ts⟩) (Tq x) (fE jp ⟨.drw ops l,k,L,A,Ts⟩) [];rw[ace,ace] at h1;exact h1
  refine(jX (by simpa using ho) (λ v x=>Rv v x) (λ x=>ap (Hq x) (Tq x)++ap (eR ip ⟨.drw ops l,k,L,A,Ts⟩) (fE jp ⟨.drw ops l,k,L,A,Ts⟩)) X3 ajj (λ x=>⟨λ hi=>?_,λ hi y hy=>?_⟩) (λ v x hv L' hl hs=>G7 (ae4 x).symm (hTD v x hv L' hl hs)):RDO r P N D F w0 R hards Rd i ⟨.drw ops l,k,L,A,Ts⟩ Q).h hR
  ·have hc:hards.contains i=false:=by
    cases hq:hards.contains i with
    |false=>rfl
    |true=>exact absurd (abC.1 hq) hi
   rw[hc] at hx;unfold CL at hx;simp only at hx;split at hx
   ·refine⟨ap (Hq x) (Tq x),?_⟩;unfold eR fE;show _++ap ((oth [] A.length).filterMap (A[·]?)) ((oth [] Ts.length).filterMap (Ts[·]?))=_;rw[CM,CM]
   ·exact absurd hx (by simp)
  ·rw[abC.2 hi] at hx;simp only[CL] at hx;exact aaB _ (aaC _ (qh ix hx y hy))
def N5(V:Inv)(ip jp:List Nat)(s:Cfg):(List (Option Value)×HL×List HL)×Bool×Bool:=(vY V ip jp s,bC ip jp s,AX s)
def Tk(V:Inv)(s:Cfg):Cfg:=match s with
 | ⟨_,k,_,_,_⟩=>⟨.ex .normal,k,V.L,V.A,V.Ts⟩
theorem lM(V:σ->Inv)(k:∀x,RN r P N D F w0 R (Tk (V x) s) Q)(h:(∀ {s':Cfg} (x:σ) (ip jp:List Nat),(h:N5 (V x) ip jp s'=(oL (V x),true,true):=by kernel_rfl)->(e:s'.k=s.k:=by kernel_rfl)->RD r P N D F w0 R hards Rd s' Q)->RD r P N D F w0 R hards Rd s Q):RD r P N D F w0 R hards Rd s Q:=by
 refine h λ {s'} x ip jp hm e=>?_;unfold N5 at hm;simp only[df] at hm;obtain⟨m1,m2,m3⟩:=hm;refine RD.fin ⟨λ hR a w h1 h2 h3=>?_⟩ m3;obtain⟨c,k',L,A,Ts⟩:=s';simp only at e;subst e;cases c with
 |drw ops l=>
  obtain⟨k1,k2⟩:=rJ (s:=⟨.drw ops l,s.k,L,A,Ts⟩) m1 m2 h1 h2;exact(k x).h hR a w k1 k2 h3
 |code c=>simp[AX] at m3
 |ops ops i=>simp[AX] at m3
 |ex e=>simp[AX] at m3
theorem Q1{τ:Type}{f:FuncId}{args:Array Value}{Hq:τ->HL}{Tq:τ->List HL}{Rv:Value->τ->Prop}
 (hc:Sp P f args (ap [] []) (ap (eR [] s) (fE [] s)++F) (λ v H'=>∃x,H'=ap (Hq x) (Tq x)/\Rv v x)) (hk:∀v x,Rv v x->RD r P N D F w0 R hards Rd (vW (λ A=>Hq x++(oth [] A.length).filterMap (A[·]?)) (λ Ts=>Tq x++(oth [] Ts.length).filterMap (Ts[·]?)) (qI N i v s)) Q)
 (h:∀n0,jD N s (QI P n0 N R i s)=some (f,args,[],[],ap s.A s.Ts):=by intro n0;kernel_rfl)
 (hp:bC [] [] s=true:=by kernel_rfl) (hH:picks [] [] s=([],[]):=by kernel_rfl) (hx:CL (hards.contains i) ix [] [] s Rd=Rd:=by kernel_rfl):RDO r P N D F w0 R hards Rd i s Q:=RDO.ct ix [] [] hc hk h hp hH hx
theorem SV(i:Nat)(ix:List Nat)(hints:List Hint)(hk:∀ {n0},RD r P N D F w0 R hards Rd (QH P n0 N R i hints s) Q)
 (h:∀n0,N4 (hards.contains i) ix s.A (AY P n0 N R i hints s)=some (Q0 (AY P n0 N R i hints s),[],cond (hards.contains i) Rd s.A):=by intro n0;kernel_rfl)
 (hr:(L3 s,dk (eS s))=([i],LS i s):=by kernel_rfl):RD r P N D F w0 R hards Rd s Q:=RD.one i (RDO.ev ix hints (λ _=>hk) h) hr
theorem Q2(hk:∀ {n0},RN r P N D F w0 R (AQ P n0 N n R [] (L2 s)) Q)
 (h:∀n0,AV (oJ P n0 N n R [] (L2 s))=some (AU (oJ P n0 N n R [] (L2 s)),[]):=by intro n0;kernel_rfl) (hc:AX s=true:=by kernel_rfl):RD r P N D F w0 R hards Rd s Q:=RD.fin (OU n hk h) hc
end
def aae:=@RD.cp
def aaf:=@RD.fin
def aag:=@RD.one
def aah:=@RDO.ct
def aai:=@RDO.ev
def aap:=@RN.draw
end
end Go.Proofs.YtogafelgppjklaaGreatDoor
namespace Go.Proofs.YtogafelgppjklaaGreatDoor
open IntKind
open Go.RowKit
variable {F:HL} (a b:Int)
abbrev aeo:=Sp Tryz.prog
abbrev aen (f:FuncId) (a:Array Value) (F:HL) (v:Value):Prop:=Sp Tryz.prog f a [] F λ u H'=>u=v/\H'=[]
abbrev aR(n:Int):Int:=i64.wrap n
structure V2 where (x y:Int)
structure Bx where (x0 y0 x1 y1:Int)
structure Mot where (px py vx vy inv:Int)
structure Con where (nx ny d:Int)
def aK(n lo hi:Int):Int:=if n<lo then lo else if n>hi then hi else n
def f7(a b:Int):Int:=if b=0 then 0 else if (a.tmod b>0/\b<0)\/(a.tmod b<0/\b>0) then aR (aR (a.tdiv b)-1) else aR (a.tdiv b)
def eZ(a b:Int):Int:=f7 (aR (a*b)) 1024
def az(a b c:Int):Int:=f7 (aR (a*b)) c
theorem dP(n:Int)(lo:Int)(hi:Int):aen 238 #[vI n,vI lo,vI hi] F (vI (aK n lo hi)):=by
 refine QT Tryz.func238<|OU 15<|aaq (n<lo) 7 (λ h1=>?_) λ h1=>?_
 ·refine ae 7 [] λ _=>QW (vI lo) _ ⟨by unfold aK;simp[*],rfl⟩
 ·refine OU 9<|aaq (n>hi) 12 (λ h2=>?_) λ h2=>?_
  ·refine ae 7 [] λ _=>QW (vI hi) _ ⟨by unfold aK;simp[*],rfl⟩
  ·refine ae 10 [] λ _=>QW (vI n) _ ⟨by unfold aK;simp[*],rfl⟩
theorem oM:aen 305 #[vI a,vI b] F (vI (f7 a b)):=by
 refine QT Tryz.func305<|OU 12<|aaq (b=0) 8 (λ h1=>?_) λ h1=>?_
 ·refine ae 6 [] λ _=>QW (vI 0) _ ⟨by unfold f7;simp[*],rfl⟩
 ·refine OU 4<|aap [] []<|aA [] [0,1,3,4,2,5,6,7] [.dv,.dv] [b≠0,b≠0]<|Q2 13<|aaq (a.tmod b>0) 18 (λ h2=>?_) λ h2=>?_
  ·refine OU 6<|aaq (b<0) 15 (λ h3=>?_) λ h3=>?_
   ·refine ae 23 [] λ _=>QW (vI (i64.wrap ((i64.wrap (a.tdiv b))-1))) _ ⟨by unfold f7;simp[*],rfl⟩
   ·refine OU 8<|aaq (a.tmod b<0) 25 (λ h4=>?_) λ h4=>?_
    ·refine OU 6<|aaq (b>0) 22 (λ h5=>?_) λ h5=>?_
     ·refine ae 22 [] λ _=>QW (vI (i64.wrap ((i64.wrap (a.tdiv b))-1))) _ ⟨by unfold f7;simp[*],rfl⟩
     ·refine ae 15 [] λ _=>QW (vI (i64.wrap (a.tdiv b))) _ ⟨by unfold f7;simp[*],rfl⟩
    ·refine ae 21 [] λ _=>QW (vI (i64.wrap (a.tdiv b))) _ ⟨by unfold f7;simp[*],rfl⟩
  ·refine OU 14<|aaq (a.tmod b<0) 25 (λ h6=>?_) λ h6=>?_
   ·refine OU 6<|aaq (b>0) 22 (λ h7=>?_) λ h7=>?_
    ·refine ae 22 [] λ _=>QW (vI (i64.wrap ((i64.wrap (a.tdiv b))-1))) _ ⟨by unfold f7;simp[*],rfl⟩
    ·refine ae 15 [] λ _=>QW (vI (i64.wrap (a.tdiv b))) _ ⟨by unfold f7;simp[*],rfl⟩
   ·refine ae 21 [] λ _=>QW (vI (i64.wrap (a.tdiv b))) _ ⟨by unfold f7;simp[*],rfl⟩
theorem oN:aen 279 #[vI a,vI b] F (vI (eZ a b)):=by
 refine QT Tryz.func279<|OU 10<|aal (oM (i64.wrap (a*b)) 1024)<|ae 3 [] λ _=>QW _ _ ⟨rfl,rfl⟩
theorem gy(c:Int):aen 314 #[vI a,vI b,vI c] F (vI (az a b c)):=by
 refine QT Tryz.func314<|OU 11<|aal (oM (i64.wrap (a*b)) c)<|ae 3 [] λ _=>QW _ _ ⟨rfl,rfl⟩
end Go.Proofs.YtogafelgppjklaaGreatDoor
namespace Go.Proofs
open IntKind
open Go.Shelf
def pw:Go.Shelf.Ren:=⟨λ|125=>384|128=>388|129=>389|n=>n,λ|46=>317|3=>3|51=>403|53=>326|4=>4|5=>5|9=>9|n=>n,λ|n=>n⟩
theorem v6:Go.Proofs.Lays.n125 Tryz.prog pw:={
 mixed:=by kernel_rfl
 f125:=Tryz.func384.trans (congrArg some (by kernel_rfl))
 f128:=Tryz.func388.trans (congrArg some (by kernel_rfl))
 f129:=Tryz.func389.trans (congrArg some (by kernel_rfl))
 t3:=Tryz.underlying3
 a3:=Tryz.isAgg3
 z3:=Tryz.sizeOf3
 v3:=Tryz.zeroValue3
 t4:=Tryz.underlying4
 a4:=Tryz.isAgg4
 z4:=Tryz.sizeOf4
 v4:=Tryz.zeroValue4
 t5:=Tryz.underlying5
 a5:=Tryz.isAgg5
 z5:=Tryz.sizeOf5
 v5:=Tryz.zeroValue5
 t9:=Tryz.underlying9
 a9:=Tryz.isAgg9
 z9:=Tryz.sizeOf9
 v9:=Tryz.zeroValue9
 t46:=Tryz.underlying317
 a46:=Tryz.isAgg317
 z46:=Tryz.sizeOf317
 v46:=Tryz.zeroValue317
 t51:=Tryz.underlying403
 a51:=Tryz.isAgg403
 z51:=Tryz.sizeOf403
 v51:=Tryz.zeroValue403
 t53:=Tryz.underlying326
 a53:=Tryz.isAgg326
 z53:=Tryz.sizeOf326
 v53:=Tryz.zeroValue326 }
theorem Tryz.bits_Len(x:Int)(w:World)(h0:0<=x)(h1:x<=18446744073709551615) :
 Calls Tryz.prog 384 #[.int .u64 x] w λ e w'=>e=.returned (.int .i64 (Lib.bitLen x.toNat))/\w'=w:=Any.bits_Len v6 x w h0 h1
end Go.Proofs
namespace Go.Proofs.YtogafelgppjklaaGreatDoor
open IntKind
open Go.RowKit
variable {F:HL} (m:Int) (a:V2) (n:Int) (b pos:V2)
abbrev G8(n:Int):Int:=u64.wrap n
theorem v7:0<=G8 n/\G8 n<=18446744073709551615:=by
 show 0<=u64.wrap n/\u64.wrap n<=_;unfold IntKind.wrap;simp[IntKind.signed,IntKind.bits];omega
abbrev Ek(n:Int):Int:=(Lib.bitLen (G8 n).toNat:Int)
theorem G9:aen 384 #[.int .u64 (G8 n)] F (vI (Ek n)) :=
 xA (λ w=>Tryz.bits_Len _ w (v7 n).1 (v7 n).2) F
theorem L4:0<=Ek n/\Ek n<=64:=by
 have h:=v7 n;have:=Lib.bitLen_le (G8 n).toNat 64 (by omega) (by omega);unfold Ek;omega
def L5(r:Int)(k:Nat):Int:=aR ((BitVec.ofInt 64 r ||| BitVec.ofInt 64 (aR (1*2 ^ min k 64))).toNat:Int)
def v8(n:Int):Nat->Int->Int
 |0,r=>r
 |k+1,r=>v8 n k (if L5 r k>aR (n.tdiv (L5 r k)) then r else L5 r k)
def El(n:Int):Int:=aR (aR ((aR (Ek n+1)).tdiv 2)-1)
def wa(n:Int):Int:=if n<=0 then 0 else v8 n (El n+1).toNat 0
theorem Tl{v:BitVec 64}(h:aR (v.toNat:Int)=0):v=0#64:=by
 apply BitVec.eq_of_toNat_eq;have h2:v.toNat<18446744073709551616:=v.isLt;generalize v.toNat=m at *;rw[aR,IntKind.wrap_i64] at h;simp;omega
theorem OY(r:Int){k:Nat}(hk:k<40):L5 r k≠0:=by
 intro h;have hb:BitVec.ofInt 64 (aR (1*2 ^ min k 64))≠0#64:=by
  have:∀k<40,BitVec.ofInt 64 (aR (1*2 ^ min k 64))≠0#64:=by decide
  exact this k hk
 have h1:=Tl h;clear h;generalize BitVec.ofInt 64 (aR (1*2 ^ min k 64))=b at *;generalize BitVec.ofInt 64 r=a at *;apply hb;have:(a ||| b) &&& b=b:=by
  apply BitVec.eq_of_getLsbD_eq;intro i hi;simp;intro h;exact .inr h
 rw[h1] at this;simpa using this.symm
theorem CN:-1<=El n/\El n<=31:=by
 have:=L4 n;unfold El aR;generalize Ek n=l at *;have e1:i64.wrap (l+1)=l+1:=by rw[IntKind.wrap_i64];omega
 rw[e1,ad0 (by omega)];have e2:i64.wrap ((l+1)/2)=(l+1)/2:=by rw[IntKind.wrap_i64];omega
 rw[e2,IntKind.wrap_i64];omega
theorem cV{x:Int}(h:-9223372036854775808<=x/\x<=9223372036854775807):aR x=x:=by
 rw[aR,IntKind.wrap_i64];omega
theorem xF{n r s:Int}{k:Int}(h0:¬ s<0)(h:v8 n (s+1).toNat r=k):v8 n s.toNat (if L5 r s.toNat>aR (n.tdiv (L5 r s.toNat)) then r else L5 r s.toNat)=k:=by
 have e:(s+1).toNat=s.toNat+1:=by omega
 rw[e,v8] at h;exact h
theorem Em:aen 380 #[vI n] F (vI (wa n)):=by
 refine QT Tryz.func380<|OU 13<|aaq (n<=0) 7 (λ h1=>?_) λ h1=>?_
 ·refine OU 6<|QW (vI 0) [] ⟨?_,rfl⟩;unfold wa
  first|(simp[*];done)|(have e:(s+1).toNat=0:=by omega);(rw[e,v8] at Yt);(simp[*])
 ·refine OU 16<|aal (G9 n)<|OU 7<|aat (σ:=Int×Int) (λ ⟨r,s⟩=>⟨[(0,vI n),(3,vI r),(4,vI s)],[],[],-1<=s/\s<=31/\v8 n (s+1).toNat r=v8 n (El n+1).toNat 0,(s+1).toNat⟩) (0,El n) [] [] (⟨(CN n).1,(CN n).2,rfl⟩) ?_;rintro⟨r,s⟩ ⟨hI0,hI1,Yt⟩ OF;have hw:s>=0->i64.wrap (s-1)=s-1:=λ _=>cV (by omega);have UE:(s-1+1).toNat=s.toNat:=by rw[Int.sub_add_cancel]
  refine OU 7<|aaq (s>=0) 15 (λ h4=>?_) λ h4=>?_
  ·refine rH 24 [.dv,.gen,.dv] (λ _=>[i64.wrap ((BitVec.ofInt 64 r ||| BitVec.ofInt 64 (i64.wrap (1*2 ^ min (s).toNat 64))).toNat:Int)≠0,0<=s]) (λ _=>(ac (OY r (by omega)) (ac (by omega) an))) λ _=>aaq (i64.wrap ((BitVec.ofInt 64 r ||| BitVec.ofInt 64 (i64.wrap (1*2 ^ min (s).toNat 64))).toNat:Int)>i64.wrap (n.tdiv (i64.wrap ((BitVec.ofInt 64 r ||| BitVec.ofInt 64 (i64.wrap (1*2 ^ min (s).toNat 64))).toNat:Int)))) 26 (λ h5=>?_) λ h5=>?_
   ·refine ae 10 [] λ _=>OF (r,i64.wrap (s-1)) [] [] ?_
    try dsimp only
    have hN:=xF (by omega) Yt;rw[hw (by assumption),UE];refine⟨⟨by omega,by omega,?_⟩,by omega⟩;simpa only[L5, *,if_true,if_false] using hN
   ·refine ae 14 [] λ _=>OF (i64.wrap ((BitVec.ofInt 64 r ||| BitVec.ofInt 64 (i64.wrap (1*2 ^ min (s).toNat 64))).toNat:Int),i64.wrap (s-1)) [] [] ?_
    try dsimp only
    have hN:=xF (by omega) Yt;rw[hw (by assumption),UE];refine⟨⟨by omega,by omega,?_⟩,by omega⟩;simpa only[L5, *,if_true,if_false] using hN
  ·refine OU 12<|QW (vI r) [] ⟨?_,rfl⟩;unfold wa
   first|(simp[*];done)|(have e:(s+1).toNat=0:=by omega);(rw[e,v8] at Yt);(simp[*])
def aF(a b:V2):V2:=⟨aR (a.x+b.x),aR (a.y+b.y)⟩
def bQ(a b:V2):V2:=⟨aR (a.x-b.x),aR (a.y-b.y)⟩
def tN(a:V2):V2:=bQ ⟨0,0⟩ a
def au(a:V2)(f:Int):V2:=⟨eZ a.x f,eZ a.y f⟩
def cK(a:V2)(n d:Int):V2:=⟨az a.x n d,az a.y n d⟩
def Hb(n:Int):Int:=n.fdiv 1024
def cX(a b:V2):Int:=Hb (aR (aR (a.x*b.x)+aR (a.y*b.y)))
def Hc(a:V2):Int:=wa (aR (aR (a.x*a.x)+aR (a.y*a.y)))
def uo(a:V2):Prop:=a.x=0/\a.y=0
instance (a:V2):Decidable (uo a):=inferInstanceAs (Decidable (_/\_))
def lm(a:V2):V2:=if uo a then a else cK a 1024 (Hc a)
theorem xG:aen 277 #[vI m,vI n] F (vI (aR (m+n))):=by
 refine QT Tryz.func277<|ae 13 [] λ _=>QW _ _ ⟨rfl,rfl⟩
theorem xH:aen 340 #[vI m,vI n] F (vI (aR (m-n))):=by
 refine QT Tryz.func340<|ae 13 [] λ _=>QW _ _ ⟨rfl,rfl⟩
theorem qj {d:Int}{b:Nat}(hb:(b,.lit [vI d] 3 (0,0))∈F):aen 322 #[vI m,vI n,vP b 0] F (vI (az m n d)):=by
 refine QU Tryz.func322 hb<|SO 10 [.ro 0]<|aal (gy m n d)<|ae 3 [] λ _=>QW _ _ ⟨rfl,rfl⟩
theorem He:aen 276 #[.agg #[vI a.x,vI a.y],.agg #[vI b.x,vI b.y],.func (.func 277) #[] #[]] F (.agg #[vI ((aF a b).x),vI ((aF a b).y)]):=by
 refine QT Tryz.func276<|ae 8 [] λ n1=>aap [13] []<|ag [] [0,1,3,6,7,9,2,4,8,10] [.o 2,.o 1,.o 2,.o 1]<|aae [] 5 (λ X_=>(xG a.x b.x))<|aae [] 11 (λ X_=>(xG a.y b.y))<|aem [12]<|SV 13 [] (aab 2)<|aaf<|ae 1 [] λ _=>aav (aab 2) [] [] ⟨rfl,rfl⟩
theorem Hf:aen 276 #[.agg #[vI a.x,vI a.y],.agg #[vI b.x,vI b.y],.func (.func 340) #[] #[]] F (.agg #[vI ((bQ a b).x),vI ((bQ a b).y)]):=by
 refine QT Tryz.func276<|ae 8 [] λ n1=>aap [13] []<|ag [] [0,1,3,6,7,9,2,4,8,10] [.o 2,.o 1,.o 2,.o 1]<|aae [] 5 (λ X_=>(xH a.x b.x))<|aae [] 11 (λ X_=>(xH a.y b.y))<|aem [12]<|SV 13 [] (aab 2)<|aaf<|ae 1 [] λ _=>aav (aab 2) [] [] ⟨rfl,rfl⟩
theorem Hg:aen 276 #[.agg #[vI a.x,vI a.y],.agg #[vI b.x,vI b.y],.func (.func 279) #[] #[]] F (.agg #[vI ((⟨eZ a.x b.x,eZ a.y b.y⟩:V2).x),vI ((⟨eZ a.x b.x,eZ a.y b.y⟩:V2).y)]):=by
 refine QT Tryz.func276<|ae 8 [] λ n1=>aap [13] []<|ag [] [0,1,3,6,7,9,2,4,8,10] [.o 2,.o 1,.o 2,.o 1]<|aae [] 5 (λ X_=>(oN a.x b.x))<|aae [] 11 (λ X_=>(oN a.y b.y))<|aem [12]<|SV 13 [] (aab 2)<|aaf<|ae 1 [] λ _=>aav (aab 2) [] [] ⟨rfl,rfl⟩
theorem xI{d:Int}{q:Nat}(hq:(q,.lit [vI d] 3 (0,0))∈F):aen 276 #[.agg #[vI a.x,vI a.y],.agg #[vI b.x,vI b.y],.func (.func 322) #[] #[vP q 0]] F (.agg #[vI ((⟨az a.x b.x d,az a.y b.y d⟩:V2).x),vI ((⟨az a.x b.x d,az a.y b.y d⟩:V2).y)]):=by
 refine QU Tryz.func276 hq<|ae 8 [] λ n1=>aap [13] []<|ag [] [0,1,3,6,7,9,2,4,8,10] [.o 2,.o 1,.o 2,.o 1]<|aae [] 5 (λ X_=>(qj a.x b.x (AW hq)))<|aae [] 11 (λ X_=>(qj a.y b.y (AW hq)))<|aem [12]<|SV 13 [] (aab 2)<|aaf<|ae 1 [] λ _=>aav (aab 2) [] [] ⟨rfl,rfl⟩
theorem qk:aen 278 #[vI n] F (.agg #[vI n,vI n]):=by
 refine QT Tryz.func278<|ae 13 (aab 2) λ n1=>aav (aab 2) [] [] ⟨rfl,rfl⟩
theorem fc:aen 236 #[.agg #[vI a.x,vI a.y],.agg #[vI b.x,vI b.y]] F (.agg #[vI ((aF a b).x),vI ((aF a b).y)]):=by
 refine QT Tryz.func236<|ae 11 [.o 2,.o 2,.o 1,.o 1] λ n1=>aal (He a b)<|ae 3 (aab 2) λ _=>aav (aab 2) [] [] ⟨rfl,rfl⟩
theorem i9:aen 311 #[.agg #[vI a.x,vI a.y],.agg #[vI b.x,vI b.y]] F (.agg #[vI ((bQ a b).x),vI ((bQ a b).y)]):=by
 refine QT Tryz.func311<|ae 11 [.o 2,.o 2,.o 1,.o 1] λ n1=>aal (Hf a b)<|ae 3 (aab 2) λ _=>aav (aab 2) [] [] ⟨rfl,rfl⟩
theorem Hh:aen 312 #[.agg #[vI a.x,vI a.y]] F (.agg #[vI ((tN a).x),vI ((tN a).y)]):=by
 refine QT Tryz.func312<|ae 10 [.o 1,.o 1] λ n1=>aal (i9 (⟨0,0⟩:V2) a)<|ae 3 (aab 2) λ _=>aav (aab 2) [] [] ⟨rfl,rfl⟩
theorem gz(f:Int):aen 237 #[.agg #[vI a.x,vI a.y],vI f] F (.agg #[vI ((au a f).x),vI ((au a f).y)]):=by
 refine QT Tryz.func237<|ae 7 [] λ n1=>aap [4] []<|ag [] [0,1] [.o 1,.o 1]<|aae [] 2 (λ X_=>(qk f))<|aae [] 3 (λ X_=>(Hg a (⟨f,f⟩:V2)))<|SV 4 [] (aab 2)<|aaf<|ae 1 [] λ _=>aav (aab 2) [] [] ⟨rfl,rfl⟩
theorem lN(d:Int):aen 284 #[.agg #[vI a.x,vI a.y],vI n,vI d] F (.agg #[vI ((cK a n d).x),vI ((cK a n d).y)]):=by
 refine aaz Tryz.func284 rfl mn (A:=[]) (Ts:=[]) rfl λ w0=>?_;refine ae 8 [] λ n1=>aap [5] []<|ag [] [0,1,3] [.o 2,.o 2]<|aae [] 2 (λ X_=>(qk n))<|aae [] 4 (λ X_=>(xI a (⟨n,n⟩:V2) (d:=d) (q:=n1+1) (fD 1)))<|aag 5 (aai [] (aab 2) λ _=>?_);refine aaf<|ae 1 [] λ _=>?_;exact aav (aab 2) [] [] ⟨rfl,rfl⟩
theorem Eo:aen 339 #[vI n] F (vI (Hb n)):=by
 refine QT Tryz.func339<|ae 12 [] λ _=>QW _ _ ⟨rfl,rfl⟩
theorem oO:aen 310 #[.agg #[vI a.x,vI a.y],.agg #[vI b.x,vI b.y]] F (vI (cX a b)):=by
 refine QT Tryz.func310<|ae 20 [.o 1,.o 0,.o 1,.o 0] λ n1=>aal (Eo (i64.wrap ((i64.wrap (a.x*b.x))+(i64.wrap (a.y*b.y)))))<|ae 3 [] λ _=>QW _ _ ⟨rfl,rfl⟩
theorem Hj:aen 376 #[.agg #[vI a.x,vI a.y]] F (vI (Hc a)):=by
 refine QT Tryz.func376<|ae 19 (aab 4) λ n1=>aal (Em (i64.wrap ((i64.wrap (a.x*a.x))+(i64.wrap (a.y*a.y)))))<|ae 3 [] λ _=>QW _ _ ⟨rfl,rfl⟩
theorem Ep:aen 370 #[.agg #[vI a.x,vI a.y]] F (.agg #[vI ((lm a).x),vI ((lm a).y)]):=by
 refine QT Tryz.func370<|ae 14 [.o 1,.o 1,.sq] λ n1=>cP ((decide (a.x=0) && (decide (a.y=0) && true))) 5 (λ h2=>?_) λ h2=>?_
 ·refine SO 7 [.o 1,.o 1,.o 0,.o 0]<|QV (aab 2) [] [] (.agg #[vI a.x,vI a.y]) [] ⟨?_,rfl⟩;unfold lm
  first|rw[if_pos (by simpa [uo] using h2)]|rw[if_neg (by simpa [uo] using h2)]
 ·refine OU 4<|aap [4] []<|ag [] [0,1] (ow 1 4)<|aae [] 2 (λ X_=>(Hj a))<|aae [] 3 (λ X_=>(lN a 1024 (Hc a)))<|SV 4 [] (aab 2)<|Q2 1<|QV (aab 2) [] [] (.agg #[vI ((cK a 1024 (Hc a)).x),vI ((cK a 1024 (Hc a)).y)]) [] ⟨?_,rfl⟩;unfold lm
  first|rw[if_pos (by simpa [uo] using h2)]|rw[if_neg (by simpa [uo] using h2)]
structure Shp where (r:Int) (poly:List V2) (A:Option Addr) (cap:Nat)
abbrev LT(s:Shp):Value:=.agg #[vI s.r,.slice s.A s.poly.length s.cap]
def jY(l:List V2):Nat->Nat->Value:=λ i k=>match k with|0=>vI (l.getD i ⟨0,0⟩).x|_=>vI (l.getD i ⟨0,0⟩).y
inductive ShIn(F:HL):Shp->Prop
 |circle (r:Int) (A:Option Addr) (cap:Nat):ShIn F ⟨r,[],A,cap⟩
 |poly (r:Int) (l:List V2) (b cap:Nat) (h:(b,.rows 2 cap (jY l) 32 (0,0))∈F) (h3:3<=l.length) (h4:l.length<=cap) (h5:l.length<=1000000):ShIn F ⟨r,l,some ⟨b,0,none⟩,cap⟩
theorem ShIn.mono{F':HL}{s:Shp}(h:ShIn F s)(hs:∀x∈F,x∈F'):ShIn F' s:=by
 cases h with
 |circle r A cap=>exact .circle r A cap
 |poly r l b cap h h3 h4 h5=>exact .poly r l b cap (hs _ h) h3 h4 h5
def ja(s:Shp):Prop:=s.poly=[]
instance (s:Shp):Decidable (ja s):=decidable_of_iff (s.poly.isEmpty=true) (by simp[ja])
def N6(b:Bx)(c:V2):Bx:=⟨if c.x<b.x0 then c.x else b.x0,if c.y<b.y0 then c.y else b.y0,if c.x>b.x1 then c.x else b.x1,if c.y>b.y1 then c.y else b.y1⟩
def nk(pos:V2)(l:List V2):Nat->Bx
 |0=>⟨(aF pos (l.getD 0 ⟨0,0⟩)).x,(aF pos (l.getD 0 ⟨0,0⟩)).y,(aF pos (l.getD 0 ⟨0,0⟩)).x,(aF pos (l.getD 0 ⟨0,0⟩)).y⟩
 |k+1=>N6 (nk pos l k) (aF pos (l.getD (1+k) ⟨0,0⟩))
def ew(s:Shp)(pos:V2):Bx:=if ja s then ⟨aR (pos.x-s.r),aR (pos.y-s.r),aR (pos.x+s.r),aR (pos.y+s.r)⟩ else nk pos s.poly (s.poly.length-1)
def ql(a b c d:Int):Prop:=a<=d/\c<=b
instance (a b c d:Int):Decidable (ql a b c d):=inferInstanceAs (Decidable (_/\_))
def QJ(a b:Bx):Prop:=ql a.x0 a.x1 b.x0 b.x1/\ql a.y0 a.y1 b.y0 b.y1
instance (a b:Bx):Decidable (QJ a b):=inferInstanceAs (Decidable (_/\_))
theorem pz(r:Int)(A:Option Addr)(n cap:Nat):aen 104 #[.agg #[vI r,.slice A n cap]] F (.bool (decide ((n:Int)=0))):=by
 refine QT Tryz.func104<|ae 15 [.o 0] λ n1=>QW _ _ ⟨rfl,rfl⟩
theorem jb(r:Int)(A:Option Addr)(n cap:Nat):aen 336 #[.agg #[vI r,.slice A n cap]] F (.bool (decide ((n:Int)=0))):=by
 refine QT Tryz.func336<|ae 15 [.o 0] λ n1=>QW _ _ ⟨rfl,rfl⟩
theorem xJ(a:Int)(b:Int)(c:Int)(d:Int):aen 333 #[vI a,vI b,vI c,vI d] F (.bool (decide (ql a b c d))):=by
 refine QT Tryz.func333<|OU 11<|aaq (a<=d) 12 (λ h1=>?_) λ h1=>?_
 ·refine ae 7 [] λ _=>QW (.bool (decide (c<=b))) _ ⟨by simp[ql, *],rfl⟩
 ·refine ae 7 [] λ _=>QW (.bool false) _ ⟨by simp[ql, *],rfl⟩
theorem L6(a:Bx)(b:Bx):aen 306 #[.agg #[vI a.x0,vI a.y0,vI a.x1,vI a.y1],.agg #[vI b.x0,vI b.y0,vI b.x1,vI b.y1]] F (.bool (decide (QJ a b))):=by
 refine QT Tryz.func306<|ae 17 [.o 1,.o 1,.o 0,.o 0] λ n1=>aal (xJ a.x0 a.x1 b.x0 b.x1)<|OU 1<|aaq (ql a.x0 a.x1 b.x0 b.x1) 14 (λ h2=>?_) λ h2=>?_
 ·refine SO 8 [.o 1,.o 1,.o 0,.o 0]<|aal (xJ a.y0 a.y1 b.y0 b.y1)<|ae 4 [] λ _=>QW (.bool (decide (ql a.y0 a.y1 b.y0 b.y1))) _ ⟨by simp[QJ, *],rfl⟩
 ·refine ae 13 [] λ _=>QW (.bool false) _ ⟨by simp[QJ, *],rfl⟩
theorem tP(r:Int)(A:Option Addr)(cap:Nat)(pos:V2)(F:HL):aen 307 #[.agg #[vI r,.slice A 0 cap],.agg #[vI pos.x,vI pos.y]] F (.agg #[vI ((ew ⟨r,[],A,cap⟩ pos).x0),vI ((ew ⟨r,[],A,cap⟩ pos).y0),vI ((ew ⟨r,[],A,cap⟩ pos).x1),vI ((ew ⟨r,[],A,cap⟩ pos).y1)]):=by
 refine QT Tryz.func307<|ae 11 [.o 2,.o 2] λ n1=>aal (pz r A 0 cap)<|ae 29 ([.o 1,.o 2,.o 1,.o 2,.o 1,.o 2,.o 1,.o 2]++aab 4) λ _=>aav (aab 4) [] [] ⟨rfl,rfl⟩
theorem xK(r:Int){l:List V2}{b cap:Nat}(pos:V2)(hb:(b,.rows 2 cap (jY l) 32 (0,0))∈F)(h3:3<=l.length)(h4:l.length<=cap)(h5:l.length<=1000000):aen 307 #[.agg #[vI r,vS b 0 l.length cap],.agg #[vI pos.x,vI pos.y]] F (.agg #[vI ((ew ⟨r,l,some ⟨b,0,none⟩,cap⟩ pos).x0),vI ((ew ⟨r,l,some ⟨b,0,none⟩,cap⟩ pos).y0),vI ((ew ⟨r,l,some ⟨b,0,none⟩,cap⟩ pos).x1),vI ((ew ⟨r,l,some ⟨b,0,none⟩,cap⟩ pos).y1)]):=by
 refine QU Tryz.func307 hb<|ae 11 [.o 2,.o 2] λ n1=>aal (pz r (some ⟨b,0,none⟩) l.length cap)<|OU 2<|aas 11 (abh (show ¬ ((l.length:Int)=0) by omega))<|OU 4<|aap [7] []<|aA [] [0,1,2,3,4] [.o 1,.o 1,.o 2,.ix 0,.rorow 0 0 0,.rorow 0 0 1] [((0+0*2)+1)=0*2+1/\0<cap,(0+0*2)=0*2+0/\0<cap,0=((0:Nat):Int)/\0<l.length]<|aae [] 5 (λ X_=>(fc pos (l.getD 0 ⟨0,0⟩)))<|aag 6 (aai [] [] λ n2=>?_);refine SV 7 [] (aab 2)<|aaf<|ah 27 (ow 0 8++[.o 4,.sl 1 l.length false]) [1=((1:Nat):Int)/\l.length=l.length/\1<=l.length/\l.length<=cap/\cap≠1] λ n3=>aat (σ:=Nat) (λ k=>⟨[(3,vP (n1+1) 0),(4,vP (n1+2) 0),(6,vP (n3+0) 0),(50,vS b 2 (l.length-1) (cap-1)),(51,vI (((l.length-1):Nat):Int)),(52,vI (k:Int))],[((n3+0),.lit [vI ((nk pos l k).x0),vI ((nk pos l k).y0),vI ((nk pos l k).x1),vI ((nk pos l k).y1)] 28 (0,0)),((n2+0),.lit [vI ((aF pos (l.getD 0 ⟨0,0⟩)).x),vI ((aF pos (l.getD 0 ⟨0,0⟩)).y)] 32 (0,0)),((n1+2),.lit [vI 0,vI 0,vI 0,vI 0] 28 (0,0)),((n1+1),.lit [vI pos.x,vI pos.y] 32 (0,0)),((n1+0),.lit [vI r,vS b 0 l.length cap] 70 (0,0))],[],k<=l.length-1,l.length-k⟩) 0 [0,1,2,3,4] [] (aaJ _) ?_;rintro k hI4 W9;refine OU 6<|aaq ((k:Int)<(((l.length-1):Nat):Int)) 53 (λ h6=>?_) λ h6=>?_
 ·refine ah 17 [.ix k,.rorow 0 (1+k) 0,.rorow 0 (1+k) 1,.o 0,.o 0,.o 4,.o 4,.o 0,.o 0] [((2+k*2)+1)=(1+k)*2+1/\(1+k)<cap,(2+k*2)=(1+k)*2+0/\(1+k)<cap,(k:Int)=((k:Nat):Int)/\k<(l.length-1)] λ n7=>aal (fc pos (l.getD (1+k) ⟨0,0⟩))<|ae 5 (aab 2) λ n8=>aap [11,13] [0,1,3,4,5,6]<|ag [0,1,3,4,5,6] [0,2,5,7,1,3,6,8,4,9,10] [.o 2,.o 0,.o 2,.ro 0]<|SV 11 [0,1,3,4,5,6] [.o 2]<|ag [0,1,3,4,5,6] [12] []<|SV 13 [0,1,3,4,5,6] [.o 2]<|Q2 1<|aap [11,13] [0,1,3,4,5,6]<|ag [0,1,3,4,5,6] [0,2,5,7,1,3,6,8,4,9,10] [.o 2,.o 0,.o 2,.ro 0]<|SV 11 [0,1,3,4,5,6] [.o 2]<|ag [0,1,3,4,5,6] [12] []<|SV 13 [0,1,3,4,5,6] [.o 2]<|aaf<|ah 6 [.nw] [aI ((k:Int)+1)] λ _=>W9 (k+1) [2,3,4,5,6] [] ?_
  try dsimp only
  refine⟨by omega,by omega⟩
 ·refine SO 12 (aab 4++ow 2 4)<|QV (ow 2 4) [] [] (.agg #[vI ((nk pos l k).x0),vI ((nk pos l k).y0),vI ((nk pos l k).x1),vI ((nk pos l k).y1)]) [] ?_;have ek:k=l.length-1:=by omega
  subst ek;refine⟨?_,rfl⟩;unfold ew;rw[if_neg (by intro e;simp[ja] at e;rw[e] at h3;simp at h3)]
theorem rK{s:Shp}(h:ShIn F s):aen 307 #[LT s,.agg #[vI pos.x,vI pos.y]] F (.agg #[vI (ew s pos).x0,vI (ew s pos).y0,vI (ew s pos).x1,vI (ew s pos).y1]):=by
 cases h with
 |circle r A cap=>exact tP r A cap pos F
 |poly r l b cap h h3 h4 h5=>exact xK r pos h h3 h4 h5
end Go.Proofs.YtogafelgppjklaaGreatDoor
namespace Go.Proofs.YtogafelgppjklaaGreatDoor
open Go.RowKit
open IntKind
open Go.RowKit Go.Shelf
section
variable {A:Option Addr} {F Hl T:HL} {cap cb k k' m mb n:Nat} (a:V2) (i:Int) (j:Nat)
theorem Hk(a b:Int):(0<=a->0<=a.tmod b)/\(a<=0->a.tmod b<=0):=by
 refine⟨λ h=>aei b h,λ h=>?_⟩;have h1:=aei b (show 0<= -a by omega);rw[Int.neg_tmod] at h1;omega
theorem rL{a b:Int}(hb:¬ b=0)(h:(a.tmod b>0/\b<0)\/(a.tmod b<0/\b>0)):f7 a b=aR (aR (a.tdiv b)-1):=by rw[f7,if_neg hb,if_pos h]
theorem rM{a b:Int}(hb:¬ b=0)(h:¬ ((a.tmod b>0/\b<0)\/(a.tmod b<0/\b>0))):f7 a b=aR (a.tdiv b):=by rw[f7,if_neg hb,if_neg h]
theorem cG(n:Int)(lo:Int)(hi:Int):aen 185 #[vI n,vI lo,vI hi] F (vI (aK n lo hi)):=by
 refine QT Tryz.func185<|OU 13<|aaq (n<lo) 9 (λ h1=>?_) λ h1=>?_
 ·refine ae 7 [] λ _=>QW (vI lo) _ ⟨by unfold aK;simp[*],rfl⟩
 ·refine OU 11<|aaq (n>hi) 13 (λ h2=>?_) λ h2=>?_
  ·refine ae 7 [] λ _=>QW (vI hi) _ ⟨by unfold aK;simp[*],rfl⟩
  ·refine ae 9 [] λ _=>QW (vI n) _ ⟨by unfold aK;simp[*],rfl⟩
theorem rN(a:Int)(b:Int)(hb:¬ b=0):aen 261 #[vI a,vI b] F (vI (f7 a b)):=by
 refine QT Tryz.func261<|ah 21 [.dv,.dv] [b≠0,b≠0] λ _=>aar (a.tmod b=0) 13 (λ h1=>?_) λ h1=>?_
 ·refine OU 17<|QW (vI (i64.wrap (a.tdiv b))) [] ?_;have U7:=Hk a b
  first|exact⟨by rw[rL hb (by omega)],rfl⟩|exact⟨by rw[rM hb (by omega)],rfl⟩
 ·refine OU 4<|aaq (a<0) 15 (λ h2=>?_) λ h2=>?_
  ·refine aaq (b<0) 17 (λ h3=>?_) λ h3=>?_
   ·refine OU 13<|QW (vI (i64.wrap (a.tdiv b))) [] ?_;have U7:=Hk a b
    first|exact⟨by rw[rL hb (by omega)],rfl⟩|exact⟨by rw[rM hb (by omega)],rfl⟩
   ·refine OU 12<|QW (vI (i64.wrap ((i64.wrap (a.tdiv b))-1))) [] ?_;have U7:=Hk a b
    first|exact⟨by rw[rL hb (by omega)],rfl⟩|exact⟨by rw[rM hb (by omega)],rfl⟩
  ·refine aaq (b<0) 17 (λ h4=>?_) λ h4=>?_
   ·refine OU 12<|QW (vI (i64.wrap ((i64.wrap (a.tdiv b))-1))) [] ?_;have U7:=Hk a b
    first|exact⟨by rw[rL hb (by omega)],rfl⟩|exact⟨by rw[rM hb (by omega)],rfl⟩
   ·refine OU 13<|QW (vI (i64.wrap (a.tdiv b))) [] ?_;have U7:=Hk a b
    first|exact⟨by rw[rL hb (by omega)],rfl⟩|exact⟨by rw[rM hb (by omega)],rfl⟩
theorem jZ(a:Int)(b:Int):aen 191 #[vI a,vI b] F (vI (eZ a b)):=by
 refine QT Tryz.func191<|OU 10<|aal (rN (i64.wrap (a*b)) 1024 (by first|assumption|decide))<|ae 3 [] λ _=>QW _ _ ⟨rfl,rfl⟩
theorem fd(a:Int)(b:Int)(c:Int):aen 258 #[vI a,vI b,vI c] F (vI (az a b c)):=by
 refine QT Tryz.func258<|OU 12<|aaq (c=0) 8 (λ h1=>?_) λ h1=>?_
 ·refine OU 6<|QW (vI 0) [] ?_
  first|exact⟨rfl,rfl⟩|exact⟨by rw[az,f7,if_pos (by assumption)],rfl⟩
 ·refine OU 9<|aal (rN (i64.wrap (a*b)) c (by first|assumption|decide))<|OU 3<|QW (vI (f7 (i64.wrap (a*b)) c)) [] ?_
  first|exact⟨rfl,rfl⟩|exact⟨by rw[az,f7,if_pos (by assumption)],rfl⟩
theorem eM(b:V2):aen 183 #[.agg #[vI a.x,vI a.y],.agg #[vI b.x,vI b.y]] F (.agg #[vI ((aF a b).x),vI ((aF a b).y)]):=by
 refine QT Tryz.func183<|ae 23 [.o 2,.o 1,.o 2,.o 1,.o 0,.o 0] λ n1=>aav (aab 2) [] [] ⟨rfl,rfl⟩
theorem fo(b:V2):aen 256 #[.agg #[vI a.x,vI a.y],.agg #[vI b.x,vI b.y]] F (.agg #[vI ((bQ a b).x),vI ((bQ a b).y)]):=by
 refine QT Tryz.func256<|ae 23 [.o 2,.o 1,.o 2,.o 1,.o 0,.o 0] λ n1=>aav (aab 2) [] [] ⟨rfl,rfl⟩
theorem oP(n:Int)(d:Int):aen 190 #[.agg #[vI a.x,vI a.y],vI n,vI d] F (.agg #[vI ((cK a n d).x),vI ((cK a n d).y)]):=by
 refine QT Tryz.func190<|ae 7 [] λ n1=>aap [11] []<|ag [] [0,2,3,5,7,8,1,6] [.o 1,.o 1]<|aae [] 4 (λ X_=>(fd a.x n d))<|aae [] 9 (λ X_=>(fd a.y n d))<|aem [10]<|SV 11 [] (aab 2)<|aaf<|ae 1 [] λ _=>aav (aab 2) [] [] ⟨rfl,rfl⟩
theorem jc(f:Int):aen 184 #[.agg #[vI a.x,vI a.y],vI f] F (.agg #[vI ((au a f).x),vI ((au a f).y)]):=by
 refine QT Tryz.func184<|ae 10 [.o 1,.o 1] λ n1=>aal (oP a f 1024)<|ae 3 (aab 2) λ _=>aav (aab 2) [] [] ⟨rfl,rfl⟩
def re(n:Int):Int:=if aR (aR (n.tdiv 1024)*1024)>n then aR (aR (n.tdiv 1024)-1) else aR (n.tdiv 1024)
def f8(a b:V2):Int:=re (aR (aR (a.x*b.x)+aR (a.y*b.y)))
theorem Hm:aen 257 #[.agg #[vI a.x,vI a.y]] F (.agg #[vI ((tN a).x),vI ((tN a).y)]):=by
 refine QT Tryz.func257<|ae 18 [.o 1,.o 1,.o 0,.o 0] λ n1=>aav (aab 2) [] [] ⟨rfl,rfl⟩
theorem Hn(n:Int):aen 293 #[vI n] F (vI (re n)):=by
 refine QT Tryz.func293<|OU 21<|aaq (i64.wrap ((i64.wrap (n.tdiv 1024))*1024)>n) 9 (λ h1=>?_) λ h1=>?_
 ·refine ae 13 [] λ _=>QW (vI (i64.wrap ((i64.wrap (n.tdiv 1024))-1))) _ ⟨by unfold re;simp[*],rfl⟩
 ·refine ae 9 [] λ _=>QW (vI (i64.wrap (n.tdiv 1024))) _ ⟨by unfold re;simp[*],rfl⟩
theorem lO(b:V2):aen 255 #[.agg #[vI a.x,vI a.y],.agg #[vI b.x,vI b.y]] F (vI (f8 a b)):=by
 refine QT Tryz.func255<|ae 20 [.o 1,.o 0,.o 1,.o 0] λ n1=>aal (Hn (i64.wrap ((i64.wrap (a.x*b.x))+(i64.wrap (a.y*b.y)))))<|ae 3 [] λ _=>QW _ _ ⟨rfl,rfl⟩
theorem Hs(n:Int):aeo 373 #[vI n] [] F (λ u H'=>∃x:Int,H'=ap [] []/\u=vI x):=by
 refine QT Tryz.func373<|OU 12<|aaq (n<0) 7 (λ h1=>?_) λ h1=>?_
 ·refine ae 6 [] λ _=>QW (vI 0) _ ⟨_,rfl,rfl⟩
 ·refine OU 15<|aat (σ:=Int×Int) (λ x_=>⟨[(0,vI n),(3,vI x_.1),(4,vI x_.2)],[],[],0<=x_.1/\x_.1<x_.2/\x_.2<=2147483649,(x_.2-x_.1).toNat⟩) (0,2147483649) [] [] (⟨by decide,by decide,by decide⟩) ?_;rintro x_ ⟨ha_,hb_,Yq⟩ OF;refine ah 9 [.nw] [aI (x_.2-x_.1)] λ _=>aaq (x_.2-x_.1>1) 11 (λ h4=>?_) λ h4=>?_
  ·refine ah 24 [.nw,.nw,.nw] [aI (x_.1+((x_.2-x_.1)/2)),0<=x_.2-x_.1/\(0:Int)<2/\x_.2-x_.1<=9223372036854775807,aI (x_.2-x_.1)] λ _=>aaq (i64.wrap ((x_.1+((x_.2-x_.1)/2))*(x_.1+((x_.2-x_.1)/2)))<=n) 22 (λ h5=>?_) λ h5=>?_
   ·refine ae 6 [] λ _=>OF (x_.1+((x_.2-x_.1)/2),x_.2) [] [] ?_
    try dsimp only
    refine⟨⟨by omega,by omega,by omega⟩,by omega⟩
   ·refine ae 6 [] λ _=>OF (x_.1,x_.1+((x_.2-x_.1)/2)) [] [] ?_
    try dsimp only
    refine⟨⟨by omega,by omega,by omega⟩,by omega⟩
  ·refine ae 12 [] λ _=>QW (vI x_.1) _ ⟨_,rfl,rfl⟩
theorem Ht:aeo 342 #[.agg #[vI a.x,vI a.y]] [] F (λ u H'=>∃x:Int,H'=ap [] []/\u=vI x):=by
 refine QT Tryz.func342<|ae 19 (aab 4) λ n1=>SP (Hs (i64.wrap ((i64.wrap (a.x*a.x))+(i64.wrap (a.y*a.y))))) ?_;rintro _ x2 rfl;refine ae 3 [] λ _=>QW (vI x2) _ ⟨_,rfl,rfl⟩
theorem Hu:aeo 323 #[.agg #[vI a.x,vI a.y]] [] F (λ u H'=>∃x:V2,H'=ap [] []/\u=.agg #[vI x.x,vI x.y]):=by
 refine QT Tryz.func323<|ae 7 [] λ n1=>aap [4] []<|ag [] [0,1] (ow 1 4)<|aag 2 (Q1 [] (Ht a) ?_);rintro _ x2 rfl;refine aae [] 3 (λ X_=>(oP a 1024 x2))<|SV 4 [] (aab 2)<|Q2 1<|QV (aab 2) [] [] (.agg #[vI ((cK a 1024 x2).x),vI ((cK a 1024 x2).y)]) (ap [] []) ⟨cK _ _ _,rfl,rfl⟩
theorem mB:aeo 291 #[.agg #[vI a.x,vI a.y]] [] F (λ u H'=>∃x:V2,H'=ap [] []/\u=.agg #[vI x.x,vI x.y]):=by
 refine QT Tryz.func291<|ae 9 [.o 1,.o 1] λ n1=>SP (Hu a) ?_;rintro _ x2 rfl;refine ae 11 (aab 3) λ n3=>aaq (x2.x=0) 9 (λ h4=>?_) λ h4=>?_
 ·refine SO 6 [.o 0]<|aaq (x2.y=0) 13 (λ h5=>?_) λ h5=>?_
  ·refine SO 7 [.o 1,.o 1]<|QV [.o 1,.o 1] [] [] (.agg #[vI 1024,vI 0]) (ap [] []) ⟨⟨1024,0⟩,rfl,rfl⟩
  ·refine SO 9 [.o 0,.o 0,.o 1,.o 1]<|QV [.o 1,.o 1] [] [] (.agg #[vI x2.x,vI x2.y]) (ap [] []) ⟨_,rfl,rfl⟩
 ·refine SO 15 [.o 0,.o 0,.o 1,.o 1]<|QV [.o 1,.o 1] [] [] (.agg #[vI x2.x,vI x2.y]) (ap [] []) ⟨_,rfl,rfl⟩
section
variable {r:Option Nat} {P:Program} {N:Nat} {D:List Deferred} {F:HL} {w0:World} {R:HL} {s:Cfg} {Q:Exit->Act->World->Prop} {hards:List Nat} {Rd:HL}
def Q3(i:Nat)(b:Blk)(s:Cfg):Cfg:=match s with
 | ⟨c,k,L,A,Ts⟩=>⟨c,k,L,match A[i]? with|some x=>aO A i (x.1,b)|none=>A,Ts⟩
theorem pA{A:HL}{i:Nat}{x:Nat×Blk}{b:Blk}(h:A[i]?=some x)(e:x.2.den=b.den):dU A=dU (aO A i (x.1,b)):=by
 rw[oB];unfold dU;rw[List.map_set];have h1:(A.map λ x=>(x.1,x.2.den))[i]?=some (x.1,b.den):=by rw[abf,h];simp[e]
 have g_:i<(A.map λ x=>(x.1,x.2.den)).length:=(bt.1 h1).1;have h2:(x.1,b.den)=(A.map λ x=>(x.1,x.2.den))[i]:=((bt.1 h1).2).symm;show _=(A.map λ x=>(x.1,x.2.den)).set i (x.1,b.den);rw[h2,List.set_getElem_self]
def Q4(i:Nat)(s:Cfg):Option Obj:=(s.A[i]?).map (·.2.den)
theorem RN.dn(i:Nat)(b:Blk)(hk:RN r P N D F w0 R (Q3 i b s) Q)(h:Q4 i s=some b.den:=by kernel_rfl):RN r P N D F w0 R s Q:=by
 refine⟨λ hR a w h1 h2 h3=>hk.h hR a w h1 ?_ h3⟩;obtain⟨c,k,L,A,Ts⟩:=s;unfold Q4 at h;simp only[ab1] at h;obtain⟨x,hx,e⟩:=h;unfold Q3;simp only[hx];exact h2.denA (pA hx e)
theorem RD.dn(i:Nat)(b:Blk)(hk:RD r P N D F w0 R hards Rd (Q3 i b s) Q)(h:Q4 i s=some b.den:=by kernel_rfl):RD r P N D F w0 R hards Rd s Q:=by
 refine⟨λ hR hs=>?_⟩;obtain⟨c,k,L,A,Ts⟩:=s;unfold Q4 at h;simp only[ab1] at h;obtain⟨x,hx,e⟩:=h;have h1:=hk.h hR hs;unfold Q3 at h1;simp only[hx] at h1;exact TD.den _ (pA hx e) h1
def ptC(jp:List Nat)(s:Cfg):Cfg:=match s with
 | ⟨c,k,L,A,Ts⟩=>⟨c,k,L,A,jp.filterMap (Ts[·]?)⟩
theorem uq(jp:List Nat)(hk:RN r P N D F w0 R (ptC jp s) Q)(h:jp.isPerm (List.range s.Ts.length)=true:=by kernel_rfl):RN r P N D F w0 R s Q :=
 ⟨λ hR a w h1 h2 h3=>hk.h hR a w h1 (h2.perm ((GY jp h rfl).append_right F)) h3⟩
def otC(j:Nat)(x:Nat×Blk)(s:Cfg):Cfg:=match s with
 | ⟨c,k,L,A,Ts⟩=>⟨c,k,L,x::A,(oth [j] Ts.length).filterMap (Ts[·]?)⟩
theorem RN.ot{x:Nat×Blk}(hk:RN r P N D F w0 R (otC j x s) Q)(h:(s.Ts[j]?,([j]++oth [j] s.Ts.length).isPerm (List.range s.Ts.length))=(some [x],true):=by kernel_rfl):RN r P N D F w0 R s Q:=by
 simp only[df] at h;exact⟨λ hR a w h1 h2 h3=>hk.h hR a w h1 (h2.perm ((AK h.2 h.1 rfl).append_right F)) h3⟩
def jtC(s:Cfg):Cfg:=match s with
 | ⟨c,k,L,A,T1::T2::Ts⟩=>⟨c,k,L,A,(T1++T2)::Ts⟩
 |s=>s
theorem xL(hk:RN r P N D F w0 R (jtC s) Q):RN r P N D F w0 R s Q:=by
 refine⟨λ hR a w h1 h2 h3=>?_⟩;have h4:=hk.h hR a w;unfold jtC at h4;split at h4
 ·exact h4 h1 (by simpa [ap] using h2) h3
 ·exact h4 h1 h2 h3
def ntC(s:Cfg):Cfg:=match s with
 | ⟨c,k,L,A,Ts⟩=>⟨c,k,L,A,[]::Ts⟩
theorem RN.nt(hk:RN r P N D F w0 R (ntC s) Q):RN r P N D F w0 R s Q:=⟨λ hR a w h1 h2 h3=>hk.h hR a w h1 h2 h3⟩
theorem RD.nt(hk:RD r P N D F w0 R hards Rd (ntC s) Q):RD r P N D F w0 R hards Rd s Q:=by
 obtain⟨c,k,L,A,Ts⟩:=s;exact⟨λ hR hs=>hk.h hR hs⟩
def svC(t:Nat)(v:Value)(s:Cfg):Cfg:=match s with
 | ⟨c,k,L,A,Ts⟩=>⟨c,k,(t,v)::L,A,Ts⟩
theorem aM(t:Nat){u v:Value}(e:u=v)(hk:RN r P N D F w0 R (svC t v s) Q)(h:s.L.lookup t=some u:=by kernel_rfl):RN r P N D F w0 R s Q:=by
 subst e;exact⟨λ hR a w h1 h2 h3=>hk.h hR a w (h1.fix h) h2 h3⟩
def bvC(i:Nat)(b:Blk)(s:Cfg):Cfg:=match s with
 | ⟨c,k,L,A,Ts⟩=>⟨c,k,L,match A[i]? with|some x=>aO A i (x.1,b)|none=>A,Ts⟩
theorem RN.bv(i:Nat){b b':Blk}(e:b=b')(hk:RN r P N D F w0 R (bvC i b' s) Q)(h:(s.A[i]?).map (·.2)=some b:=by kernel_rfl):RN r P N D F w0 R s Q:=by
 subst e;refine⟨λ hR a w h1 h2 h3=>hk.h hR a w h1 ?_ h3⟩;obtain⟨c,k,L,A,Ts⟩:=s;simp only[ab1] at h;obtain⟨x,hx,e⟩:=h;unfold bvC;simp only[hx];refine h2.denA (pA hx (by rw[e]))
variable {α:Type} {e:Enc α} {T:TypeId} {inf:TypeInfo} {z:Value}
def L7(P:Program)(o:Oper)(L:FL):Option (Option Addr×Nat×Nat×TypeId×Option Addr×Nat×Nat×TypeId):=match o.guard,o.op with
 |none,.call c=>match c.callee,c.args.toList,c.argTypes.toList with
  | .builtin .append,[a1,a2],[t,tx]=>match gm L a1 && gm L a2,eY L a1,eY L a2 with
   |true,.slice A n cap,.slice B m c'=>match P.underlying t,P.underlying tx with
    |some (.slice T),some (.slice _)=>some (A,n,cap,T,B,m,c',tx)
    |_,_=>none
   |_,_,_=>none
  |_,_,_=>none
 |_,_=>none
theorem ur{o:Oper}{L:FL}{B:Option Addr}{c':Nat}{tx:TypeId}(h:L7 P o L=some (A,n,cap,T,B,m,c',tx)) :
  ∃a1 a2 t e',o.guard=none/\o.op=.call { callee:=.builtin .append,args:=#[a1,a2],argTypes:=#[t,tx] } /\(gm L a1 && gm L a2)=true/\eY L a1=.slice A n cap/\eY L a2=.slice B m c'/\P.underlying t=some (.slice T)/\P.underlying tx=some (.slice e'):=by
 unfold L7 at h;split at h
 case h_2=>cases h
 rename_i c hg ID;split at h
 case h_2=>cases h
 rename_i a1 a2 t tx' h1 h2 h3;split at h
 case h_2=>cases h
 rename_i A' n' bY B' m' c2 h4 h5 h6;split at h
 case h_2=>cases h
 rename_i T' e' h7 h8;simp only[de,df] at h;obtain⟨e1,e2,e3,e4,e5,e6,e7,e8⟩:=h;subst e1;subst e2;subst e3;subst e4;subst e5;subst e6;subst e7;subst e8;refine⟨a1,a2,t,e',hg,?_,h4,h5,h6,h7,h8⟩;obtain⟨cal,args,ats⟩:=c;simp only at h1 h2 h3;subst h1;have:args=#[a1,a2]:=by cases args;simp_all
 subst this;have:ats=#[t,tx']:=by cases ats;simp_all
 subst this;exact ID
def fZ(s:Cfg):Option Oper:=match s.c with
 | .ops ops i=>ops.toList[i]?
 |_=>none
def jd(i:Nat)(s:Cfg):Option Oper:=match s.c with
 | .drw ops _=>ops.toList[i]?
 |_=>none
def OZ(p:Nat)(s:Cfg):Option (Nat×List Value):=match s.A[p]? with
 |some (b,.lit cs _ _)=>some (b,cs)
 |_=>none
def Er(P:Program)(N j p:Nat)(oo:Option Oper)(s:Cfg):Option (Option Addr×Nat×Nat×TypeId×Nat×List Value×HL×Nat):=match oo with
 |some o=>match L7 P o s.L,OZ p s,s.Ts[j]?,([j]++oth [j] s.Ts.length).isPerm (List.range s.Ts.length) && (dK N o.dst undef s.L).isSome with
  |some (A,n,cap,T,some ⟨b,0,none⟩,m,_,_),some (_,cs),some Hl,true=>some (A,n,cap,T,m,cs,Hl,b)
  |_,_,_,_=>none
 |none=>none
def Es(p:Nat)(s:Cfg):Nat:=match OZ p s with
 |some (b,_)=>b
 |none=>0
theorem mC{j p:Nat}{oo:Option Oper}{cs:List Value}(h:Er P N j p oo s=some (A,n,cap,T,m,cs,Hl,Es p s)) :
  ∃o a1 a2 t tx e' c' b ty fz,oo=some o/\o.guard=none/\o.op=.call { callee:=.builtin .append,args:=#[a1,a2],argTypes:=#[t,tx] } /\(gm s.L a1 && gm s.L a2)=true/\eY s.L a1=.slice A n cap/\eY s.L a2=.slice (some ⟨b,0,none⟩) m c'/\P.underlying t=some (.slice T)/\P.underlying tx=some (.slice e')/\
   s.A[p]?=some (b,.lit cs ty fz)/\s.Ts[j]?=some Hl/\([j]++oth [j] s.Ts.length).isPerm (List.range s.Ts.length)=true/\(dK N o.dst undef s.L).isSome=true:=by
 unfold Er at h;split at h
 case h_2=>cases h
 rename_i o;split at h
 case h_2=>cases h
 rename_i A' n' bY T' b m' c' tx b' cs' rW h1 h2 h3 h4;simp only[de,df] at h;obtain⟨e1,e2,e3,e4,e5,e6,e7,e8⟩:=h;subst e1;subst e2;subst e3;subst e4;subst e5;subst e6;subst e7;obtain⟨a1,a2,t,e',q1,q2,q3,q4,q5,q6,q7⟩:=ur h1;rw[aaW] at h4;unfold Es at e8;rw[h2] at e8;simp only at e8;subst e8;unfold OZ at h2;split at h2
 case h_2=>cases h2
 rename_i b2 cs2 ty fz h5;simp only[de,df] at h2;obtain⟨e1,e2⟩:=h2;subst e1;subst e2;exact⟨o,a1,a2,t,tx,e',c',_,ty,fz,rfl,q1,q2,q3,q4,q5,q6,q7,h5,h3,h4.1,h4.2⟩
def N7(j:Nat)(Hl:HL)(s:Cfg):Cfg:=match s with
 | ⟨c,k,L,A,Ts⟩=>⟨c,k,L,A,Hl::(oth [j] Ts.length).filterMap (Ts[·]?)⟩
theorem fW{A:HL}{Ts:List HL}{j:Nat}(hj:Ts[j]?=some Hl)(hp:([j]++oth [j] Ts.length).isPerm (List.range Ts.length)=true):(Hl++(A++((oth [j] Ts.length).filterMap (Ts[·]?)).flatten)).Perm (ap A Ts):=by
 have h3:=fU Ts hp;simp only[acK,hj,adI] at h3;have h4:=h3.flatten;simp only[abl,abz,aa6] at h4;refine List.Perm.trans ?_ (abB A h4);rw[<- aaF,<- aaF];exact aaT _ aaS
theorem ez(ok:EncOk e P T inf z){l:List α} (src:List α)(j p:Nat)(hn:n=l.length)(WR:SlIs e T l A cap Hl)(hb:l.length+src.length<=100000000)
  (hk:∀ (A':Option Addr) (bY:Nat) (rW:HL),(SlIs e T (l++src) A' bY rW/\(aX A->aX A'))->RN r P N D F w0 R (N7 j rW (db N (.slice A' (n+src.length) bY) s)) Q)
  (h:Er P N j p (fZ s) s=some (A,n,cap,T,src.length,aq e src,Hl,Es p s):=by kernel_rfl):RN r P N D F w0 R s Q:=by
 obtain⟨o,a1,a2,t,tx,e',c',b,ty,fz,q0,q1,q2,q3,q4,q5,q6,q7,q8,q9,P_,U5⟩:=mC h;refine⟨λ hR a w hF aT hB=>?_⟩;obtain⟨c,k,L,B,Ts⟩:=s;unfold fZ at q0;cases c with
 |code c=>cases q0
 |ex c=>cases q0
 |drw _ _=>cases q0
 |ops ops i=>
  simp only at q0 q3 q4 q5 q8 q9 P_ U5 hF aT;have iF:ops.toList.drop i=o::ops.toList.drop (i+1):=by
   have g_:i<ops.toList.length:=(bt.1 q0).1;rw[eB g_,(bt.1 q0).2]
  show wpListIn _ _ _ _ _ _ _ _;rw[iF,wpListIn,if_pos (by simp[Region.wanted,q1])];refine⟨λ _ _=>trivial,?_⟩;have oF:=fW (A:=B) q9 P_;refine dT (by rw[q2];intro c hc;cases hc) (mA (x:=vS b 0 src.length c') (src:=src) (G:=B++((oth [j] Ts.length).filterMap (Ts[·]?)).flatten) ok q2 q6 q3 q4 hn q5 oF WR (λ w hw=>qW ok q7 p (by rw[aaQ (bt.1 q8).1];exact q8) hw) hb hF aT) ?_;rintro u w' ⟨⟨A',bY,rW⟩,⟨rfl,XX⟩,By,VL⟩;obtain⟨L',p1⟩:=b7 U5 (.slice A' (n+src.length) bY);have hh:=(hk A' bY rW XX).h hR;have UF:db N (.slice A' (n+src.length) bY) ⟨.ops ops i,k,L,B,Ts⟩=⟨.ops ops (i+1),k,L',B,Ts⟩:=by
   unfold db;simp only[q0,p1]
  rw[UF] at hh;refine hh _ w' (hF.put p1) (By.perm (aaT F ?_)) (hB.trans VL);show (B++(rW::(oth [j] Ts.length).filterMap (Ts[·]?)).flatten).Perm _;rw[aa6,<- aaF,<- aaF];exact aaT _ aaS
theorem iK{i:Nat}(ix:List Nat)(ok:EncOk e P T inf z){l:List α} (src:List α)(j p:Nat)(hn:n=l.length)(WR:SlIs e T l A cap Hl)(hb:l.length+src.length<=100000000)
  (hk:∀ (A':Option Addr) (bY:Nat) (rW:HL),(SlIs e T (l++src) A' bY rW/\(aX A->aX A'))->RD r P N D F w0 R hards Rd (N7 j rW (qI N i (.slice A' (n+src.length) bY) s)) Q)
  (h:Er P N j p (jd i s) s=some (A,n,cap,T,src.length,aq e src,Hl,Es p s):=by kernel_rfl) (hx:(hards.contains i,vZ ix s)=(true,Rd):=by kernel_rfl):RDO r P N D F w0 R hards Rd i s Q:=by
 obtain⟨o,a1,a2,t,tx,e',c',b,ty,fz,q0,q1,q2,q3,q4,q5,q6,q7,q8,q9,P_,U5⟩:=mC h;obtain⟨c,k,L,B,Ts⟩:=s;unfold jd at q0;simp only[df] at hx;cases c with
 |code c=>cases q0
 |ex c=>cases q0
 |ops _ _=>cases q0
 |drw ops li=>
  refine⟨λ hR=>?_⟩;simp only at q0 q3 q4 q5 q8 q9 P_ U5;have oF:=fW (A:=B) q9 P_;have UF:∀v L',dK N o.dst v L=some L'->qI N i v ⟨.drw ops li,k,L,B,Ts⟩=⟨.drw ops (aO li i true),k,L',B,Ts⟩:=by
   intro v L' hl;unfold qI;simp only[q0,hl]
  refine(jX (Q:=Q) (by simpa using q0) (σ:=Option Addr×Nat×HL) (λ u y=>u=.slice y.1 (n+src.length) y.2.1/\(SlIs e T (l++src) y.1 y.2.1 y.2.2/\(aX A->aX y.1))) (λ y=>ap B (y.2.2::(oth [j] Ts.length).filterMap (Ts[·]?))) U5 (λ a hF=>⟨by simp[Region.wanted,q1],λ w aT hB=>?_⟩) (λ y=>⟨λ hi=>?_,λ hi x hm=>aaC _ (qh ix hx.2 x hm)⟩) ?_:RDO r P N D F w0 R hards Rd i ⟨.drw ops li,k,L,B,Ts⟩ Q).h hR
  ·refine dS (mA (x:=vS b 0 src.length c') (src:=src) (G:=B++((oth [j] Ts.length).filterMap (Ts[·]?)).flatten) ok q2 q6 q3 q4 hn q5 oF WR (λ w hw=>qW ok q7 p (by rw[aaQ (bt.1 q8).1];exact q8) hw) hb hF aT) ?_;rintro u w' ⟨y,h3,By,VL⟩;refine⟨y,h3,By.perm (aaT F ?_),VL⟩;show (B++(y.2.2::(oth [j] Ts.length).filterMap (Ts[·]?)).flatten).Perm _;rw[aa6,<- aaF,<- aaF];exact aaT _ aaS
  ·exact absurd (abC.1 hx.1) hi
  ·rintro u ⟨A',bY,rW⟩ ⟨rfl,h3⟩ L' hl hs;have h1:=(hk A' bY rW h3).h hR;rw[UF _ L' hl] at h1;exact h1 hs
end
structure MemS where
 cs:List Int
 lg:List (Int×Int)
 base:Int
def MemS.get(M:MemS)(i:Int):Int:=if 0<=i/\i<M.cs.length then M.cs.getD i.toNat 0 else 0
def MemS.set(M:MemS)(i v:Int):MemS:=if 0<=i/\i<M.cs.length then ⟨M.cs.set i.toNat v,M.lg++[(i,M.cs.getD i.toNat 0)],M.base⟩ else M
def bF(cs:List Int):Nat->Nat->Value:=λ i k=>match k with|0=>vI (cs.getD i 0)|_=>default
theorem f9{cs:List Int}{i:Nat}(h:i<cs.length)(v:Int):cF (bF cs) i 0 (vI v)=bF (cs.set i v):=by
 funext i' k';unfold cF bF
 by_cases h1:i'=i
 ·subst h1;rcases k' with _|k'
  ·simp[h]
  ·simp
 ·rcases k' with _|k'
  ·have:¬ i=i':=λ e=>h1 e.symm;simp[h1,ab5,this]
  ·simp
def rO:Enc (Int×Int):=⟨2,λ p k=>match k with|0=>vI p.1|_=>vI p.2,(0,0)⟩
noncomputable def N8:TypeInfo:=match Tryz.prog.info? 218 with | some i=>i | none=>⟨.bool,"",0,0,false,0,0,none,false,#[]⟩
noncomputable def N9:Value:=match N8.zero with|some z=>z|none=>.bool false
theorem AZ:EncOk rO Tryz.prog 218 N8 N9 where
 info:=by kernel_rfl
 zero:=by kernel_rfl
 size:=by kernel_rfl
 zsize:=by kernel_rfl
 zcell:=λ k hk=>by
  have h:∀k<2,N9.cells[k]?=some (rO.cell rO.dflt k):=by intro k hk;(iterate 2 (rcases k with _|k;· kernel_rfl));omega
  exact h k hk
 one:=λ x k=>by unfold rO;dsimp only;split <;> rfl
 bytes:=aaH (by kernel_rfl)
inductive MemH(mb:Nat)(M:MemS)(k:Nat):HL->Prop
 |mk (cb:Nat) (A:Option Addr) (cap:Nat) (Hl:HL) (hs:SlIs rO 218 M.lg A cap Hl) (hc:M.cs.length<=1000000) (hl:M.lg.length+k<=100000000):MemH mb M k (ap [(mb,.lit [vS cb 0 M.cs.length M.cs.length,.slice A M.lg.length cap,vI M.base] 164 (0,0)),(cb,.rows 1 M.cs.length (bF M.cs) 3 (0,0))] [Hl])
theorem MemH.weak{M:MemS}(h:MemH mb M k T)(hk:k'<=k):MemH mb M k' T:=by
 cases h with
 |mk cb A cap Hl hs hc hl=>exact .mk cb A cap Hl hs hc (by omega)
theorem MemH.cast{M M':MemS}(h:MemH mb M k T)(e:M'=M)(hk:k'<=k):MemH mb M' k' T:=e▸h.weak hk
theorem MemH.put{M:MemS}{i v:Int}(h:0<=i/\i<M.cs.length)(hc:M.cs.length<=1000000)(hl:M.lg.length+(k+1)<=100000000)(hs:SlIs rO 218 (M.lg++[(i,M.cs.getD i.toNat 0)]) A cap Hl) :
  MemH mb (M.set i v) k (ap [(mb,.lit [vS cb 0 M.cs.length M.cs.length,.slice A (M.lg.length+[(i,M.cs.getD i.toNat 0)].length) cap,vI M.base] 164 (0,0)),(cb,.rows 1 M.cs.length (cF (bF M.cs) i.toNat 0 (vI v)) 3 (0,0))] [Hl]):=by
 have e:M.set i v=⟨M.cs.set i.toNat v,M.lg++[(i,M.cs.getD i.toNat 0)],M.base⟩:=by unfold MemS.set;rw[if_pos h]
 rw[e,f9 (by omega)];have:=MemH.mk (M:=⟨M.cs.set i.toNat v,M.lg++[(i,M.cs.getD i.toNat 0)],M.base⟩) (k:=k) cb A cap Hl hs (by simpa using hc) (by simp;omega) (mb:=mb);simpa using this
theorem CO{base:Int}(hm:(mb,.lit [vS cb 0 n n,.slice A m cap,vI base] 164 (0,0))∈F):aeo 119 #[vP mb 0,vI i] [] F (λ u H'=>u=.bool (decide (0<=i/\i<n))/\H'=[]):=by
 refine QU Tryz.func119 hm<|OU 10<|aaq (0<=i) 7 (λ h1=>?_) λ h1=>?_
 ·refine ae 11 [.ro 0] λ _=>QW (.bool (decide (i<(n:Int)))) _ ⟨by simp[*],rfl⟩
 ·refine ae 11 [] λ _=>QW (.bool false) _ ⟨by simp[*],rfl⟩
theorem L8{cs:List Int}{base:Int}(lg:List (Int×Int))(hm:(mb,.lit [vS cb 0 cs.length cs.length,.slice A m cap,vI base] 164 (0,0))∈F)(hc:(cb,.rows 1 cs.length (bF cs) 3 (0,0))∈F)(hn:cs.length<=1000000):aen 84 #[vP mb 0,vI i] F (vI (MemS.get ⟨cs,lg,base⟩ i)):=by
 refine rI Tryz.func84 (mc hm (mc hc mn)) [] []<|OU 10<|aal (CO i (aC hm))<|OU 3<|aar (0<=i/\i<cs.length) 8 (λ h1=>?_) λ h1=>?_
 ·refine ah 15 [.ro 0,.ix ((i).toNat),.rorow 1 ((i).toNat) 0] [(0+((i).toNat)*1)=((i).toNat)*1+0/\((i).toNat)<cs.length,i=(((i).toNat:Nat):Int)/\(i).toNat<cs.length] λ _=>QW (vI (cs.getD ((i).toNat) 0)) _ ⟨by simp[MemS.get, *],rfl⟩
 ·refine ae 6 [] λ _=>QW (vI 0) _ ⟨by simp[MemS.get, *],rfl⟩
theorem aD{M:MemS}(h:MemH mb M k T)(hs:∀x∈T,x∈F):aen 84 #[vP mb 0,vI i] F (vI (M.get i)):=by
 cases h with
 |mk cb A cap Hl WR hc hl=>exact L8 (mb:=mb) (cb:=cb) (cs:=M.cs) (A:=A) (m:=M.lg.length) (cap:=cap) (base:=M.base) i M.lg (F:=F) (hs _ (by simp)) (hs _ (by simp)) hc
theorem jE{M:MemS}{i:Int}{c:Int}(e:M.get i=c)(h:MemH mb M k T)(hs:∀x∈T,x∈F):aen 84 #[vP mb 0,vI i] F (vI c):=e▸aD i h hs
theorem L9(mb cb:Nat)(M:MemS)(k:Nat)(i v:Int)(F:HL)(hs:SlIs rO 218 M.lg A cap Hl)(hc:M.cs.length<=1000000)(hl:M.lg.length+(k+1)<=100000000):aeo 409 #[vP mb 0,vI i,vI v] (ap [(mb,.lit [vS cb 0 M.cs.length M.cs.length,.slice A M.lg.length cap,vI M.base] 164 (0,0)),(cb,.rows 1 M.cs.length (bF M.cs) 3 (0,0))] [Hl]) F (λ u H'=>MemH mb (M.set i v) k H'):=by
 refine aaz Tryz.func409 rfl mn (A:=[(mb,.lit [vS cb 0 M.cs.length M.cs.length,.slice A M.lg.length cap,vI M.base] 164 (0,0)),(cb,.rows 1 M.cs.length (bF M.cs) 3 (0,0))]) (Ts:=[Hl]) rfl λ w0=>?_;refine ae 5 [] λ _=>aal (CO (mb:=mb) (cb:=cb) (n:=M.cs.length) (A:=A) (m:=M.lg.length) (cap:=cap) (base:=M.base) i (aw 0))<|ae 3 [] λ _=>aar (0<=i/\i<M.cs.length) 9 (λ h1=>?_) λ h1=>?_
 ·refine ae 4 [] λ _=>aap [15,18] []<|aA [] [0,1,5,6,10,2,7,3,8,4,9,11,12,13] [.o 0,.o 0,.ix ((i).toNat),.row 1 ((i).toNat) 0] [(0+((i).toNat)*1)=((i).toNat)*1+0/\((i).toNat)<M.cs.length,i=(((i).toNat:Nat):Int)/\(i).toNat<M.cs.length]<|aag 14 (aai [] [] λ n3=>?_);refine aag 15 (iK [] AZ (l:=M.lg) [(i,M.cs.getD i.toNat 0)] 0 0 rfl hs (by simp;omega) ?_);rintro A4 c5 T6 ⟨Z8,hz8⟩;refine ag [] [16,17] []<|aag 18 (aai [] [.o 1] λ _=>?_);refine aaf<|ah 11 [.o 1,.ix ((i).toNat),.row 2 ((i).toNat) 0] [(0+((i).toNat)*1)=((i).toNat)*1+0/\((i).toNat)<M.cs.length,i=(((i).toNat:Nat):Int)/\(i).toNat<M.cs.length] λ _=>aav [] [1,2] [0] (v:=.tuple #[]) (H':=(ap [(mb,.lit [vS cb 0 M.cs.length M.cs.length,.slice A4 (M.lg.length+([(i,M.cs.getD i.toNat 0)]).length) c5,vI M.base] 164 (0,0)),(cb,.rows 1 M.cs.length (cF (bF M.cs) ((i).toNat) 0 (vI v)) 3 (0,0))] [T6])) ?_;exact MemH.put (by omega) hc (by omega) Z8
 ·refine ae 1 [] λ _=>aav [] [0,1] [0] (v:=.tuple #[]) (H':=(ap [(mb,.lit [vS cb 0 M.cs.length M.cs.length,.slice A M.lg.length cap,vI M.base] 164 (0,0)),(cb,.rows 1 M.cs.length (bF M.cs) 3 (0,0))] [Hl])) ?_;have e:M.set i v=M:=by unfold MemS.set;rw[if_neg (by assumption)]
  rw[e];exact .mk cb A cap Hl hs hc (by omega)
theorem ar{M:MemS}(v:Int)(h:MemH mb M (k+1) T):aeo 409 #[vP mb 0,vI i,vI v] (ap [] [T]) F (λ u H'=>∃x,H'=ap ((λ _=>[]) x) ((λ x=>[x]) x)/\MemH mb (M.set i v) k x):=by
 cases h with
 |mk cb A cap Hl WR hc hl=>
  have e:∀T:HL,ap [] [T]=T:=λ T=>by simp
  have:=L9 mb cb M k i v F WR hc hl;rw[e];exact this.mono λ u H' h=>⟨H',(e H').symm,h⟩
def aak:=@RN.bv
def aao:=@RN.dn
def aau:=@RN.nt
end
section
variable {A H H' Hr own:HL} {R':Value->HL->Prop} {Te Tx:HL->Prop} {Ts:List HL} {args cap lb:Array Value} {assign:Code} {fn:Func} {g:Operand} {gf:FuncId} {ps:Array Tmp} {α σ τ:Type} (ds:List Nat) (hints:List Hint) (Ob:List Prop) (ip jp:List Nat)
section
variable {r:Option Nat} {P:Program} {N:Nat} {D:List Deferred} {F:HL} {w0:World} {R:HL} {s:Cfg} {Q:Exit->Act->World->Prop}
def Hv(P:Program)(n0 N:Nat)(R:HL)(s:Cfg):Option (Option Tmp×Nat×Array Value×List Prop):=match s.c with
 | .ops ops i=>AL P n0 N ops.toList i s.L (ap s.A s.Ts) R []
 |_=>none
def Hw(N j:Nat)(s:Cfg)(x:Option (Option Tmp×Nat×Array Value×List Prop)):Option (Nat×Array Value×List Prop×HL):=match x with
 |some (dst,l,args,Ob)=>match s.Ts[j]?,([j]++oth [j] s.Ts.length).isPerm (List.range s.Ts.length) && (dK N dst undef s.L).isSome with
  |some T,true=>some (l,args,Ob,T)
  |_,_=>none
 |none=>none
theorem RN.yield(j:Nat){l:Nat}{args:Array Value}{T:HL}{Rv:Bool->HL->Prop}(hc:YL P l args T (ap s.A (fE [j] s)++F) Rv)(hk:∀b H',Rv b H'->RN r P N D F w0 R (N7 j H' (db N (.bool b) s)) Q)
  (h:∀n0,Hw N j s (Hv P n0 N R s)=some (l,args,[],T):=by intro n0;kernel_rfl):RN r P N D F w0 R s Q:=by
 refine⟨λ hR a w hF aT hB=>?_⟩;have h':=h w.heap.size;obtain⟨cc,k,L,A,Ts⟩:=s;cases cc with
 |code c=>simp[Hv,Hw] at h'
 |ex c=>simp[Hv,Hw] at h'
 |drw _ _=>simp[Hv,Hw] at h'
 |ops ops i=>
 simp only[Hv] at h' hF aT;generalize hx:AL P w.heap.size N ops.toList i L (ap A Ts) R []=x at h';unfold Hw at h';split at h'
 case h_2=>cases h'
 rename_i dst l' iS Ob';split at h'
 case h_2=>cases h'
 rename_i T' hj hpp;simp only[de,df] at h';obtain⟨e1,e2,e3,e4⟩:=h';subst e1;subst e2;subst e3;subst e4;simp only at hj hpp;rw[aaW] at hpp;have h':=hx;unfold AL at h';split at h'
 ·cases h'
 rename_i o ho;split at h'
 case h_2=>cases h'
 rename_i ss hw;split at h'
 case h_2=>cases h'
 rename_i dO hh he;split at h'
 case h_2=>cases h'
 rename_i c ID;split at h'
 case h_2=>cases h'
 rename_i f VB;split at h'
 case h_2=>cases h'
 rename_i l2 cap bound hf;split at h'
 case h_2=>cases h'
 rename_i e1 e2;simp only[de,df] at h';obtain⟨d1,d2,d3,d4⟩:=h';subst d2;have hcap:cap=#[]:=by cases cap;simp_all
 have ajG:bound=#[]:=by cases bound;simp_all
 subst hcap;subst ajG;have iF:ops.toList.drop i=o::ops.toList.drop (i+1):=by
  have g_:i<ops.toList.length:=(bt.1 ho).1;rw[eB g_,(bt.1 ho).2]
 show wpListIn _ _ _ _ _ _ _ _;rw[iF,wpListIn];have Vz:∀p∈ss.ob,p:=by rw[d4];intro p hp;cases hp
 obtain⟨c1,c2,c3⟩:=b6 hw hF Vz;rw[if_pos c1];refine⟨λ _ _=>trivial,?_⟩;rw[hF.sem dO];have oF:=fW (A:=A) hj hpp.1;have By:Rel (T'++(ap A ((oth [j] Ts.length).filterMap (Ts[·]?))++F)) w:=by rw[<- aaF];exact aT.perm (oF.symm.append_right F).symm
 obtain⟨fn,tmps,assign,body,hy,acF⟩:=hc w By;rw[AO ID VB hf,d3,hy,Oper.uponIn_round];refine⟨λ h=>(by cases h),RoundIn.mono (show RoundIn (Wr r) (0-1) P l2 fn tmps assign body w _ from acF) ?_⟩;rintro e W' ⟨b,H',rfl,hv,Wm,Yg⟩;obtain⟨L',p1⟩:=b7 hpp.2 (.bool b);have hh:=(hk b H' hv).h hR;have UF:db N (.bool b) ⟨.ops ops i,k,L,A,Ts⟩=⟨.ops ops (i+1),k,L',A,Ts⟩:=by
  unfold db;rw[<- d1] at p1;simp only[ho,p1]
 rw[UF] at hh;rw[<- d1] at p1;refine hh _ W' (hF.put p1) (Wm.perm ?_) (hB.trans Yg);rw[<- aaF];refine aaT F ?_;show (A++(H'::(oth [j] Ts.length).filterMap (Ts[·]?)).flatten).Perm (H'++(A++((oth [j] Ts.length).filterMap (Ts[·]?)).flatten));rw[aa6,<- aaF,<- aaF];exact aaT _ aaS
theorem RN.rn{Ax:σ->HL}{Tx:σ->List HL}{I:σ->Prop}{Ix:Code->σ->Prop}(x:σ)(ip jp:List Nat)(hi:I x)(hc:(match s.c,s.k with | .ex .normal,[]=>true|_,_=>false)=true:=by kernel_rfl)
  (hp:bC ip jp s=true:=by kernel_rfl) (hH:picks ip jp s=(Ax x,Tx x):=by kernel_rfl):RN r P N D F w0 R s (RQ F w0 (λ x=>ap (Ax x) (Tx x)) I Ix):=by
 unfold bC at hp;unfold picks at hH;rw[aaW] at hp;simp only[df] at hH;refine⟨λ hR a w h1 h2 h3=>?_⟩;obtain⟨c,k,L,A,Ts⟩:=s;split at hc
 case h_2=>cases hc
 rename_i e1 e2;simp only at e1 e2;subst e1;subst e2;exact⟨x,hi,h2.takeT ip _ jp _ hp.1 hp.2 (by rw[hH.1,hH.2]),h3⟩
theorem RN.rr{Ax:σ->HL}{Tx:σ->List HL}{I:σ->Prop}{Ix:Code->σ->Prop}(x:σ)(ip jp:List Nat)(hi:Ix .ret x)(hc:(match s.c with | .code .ret=>true|_=>false)=true:=by kernel_rfl)
  (hp:bC ip jp s=true:=by kernel_rfl) (hH:picks ip jp s=(Ax x,Tx x):=by kernel_rfl):RN r P N D F w0 R s (RQ F w0 (λ x=>ap (Ax x) (Tx x)) I Ix):=by
 unfold bC at hp;unfold picks at hH;rw[aaW] at hp;simp only[df] at hH;refine⟨λ hR a w h1 h2 h3=>?_⟩;obtain⟨c,k,L,A,Ts⟩:=s;split at hc
 case h_2=>cases hc
 rename_i e1;simp only at e1;subst e1;exact wpIn_ret (i8 k ⟨x,hi,h2.takeT ip _ jp _ hp.1 hp.2 (by rw[hH.1,hH.2]),h3⟩)
end
section
variable {P:Program} {N:Nat} {D:List Deferred} {F:HL} {w0:World} {R:HL} {s:Cfg} {Q:Exit->Act->World->Prop}
def m0(s:Cfg):Option (Value×Nat):=match s.c with
 | .code (.rangeFunc g ps _ _)=>match gm s.L g with
  |true=>some (eY s.L g,ps.size)
  |false=>none
 |_=>none
def Ma(N:Nat)(s:Cfg):Bool:=match s.c with
 | .code (.rangeFunc _ ps _ _)=>ps.toList.all λ p=>decide (p<N)
 |_=>false
def Q5(K:Act->World->Prop)(vs:List Value)(A:HL)(Ts:List HL)(s:Cfg):Cfg:=match s with
 | ⟨.code (.rangeFunc _ ps assign _),_,L,_,_⟩=>⟨.code assign,[.met K],qG ps.toList vs L,A,Ts⟩
 |s=>s
def Q6(V:Inv)(s:Cfg):Cfg:=match s with
 | ⟨.code (.rangeFunc _ _ _ body),_,_,_,_⟩=>⟨.code body,[],V.L,V.A,V.Ts⟩
 |s=>s
def Q7(c:Fo)(d:Nat)(ip jp:List Nat)(A:HL)(Ts:List HL)(s:Cfg):Cfg:=match s with
 | ⟨_,k,L,A',XP⟩=>⟨c,k,L,cj d::(A++(oth ip A'.length).filterMap (A'[·]?)),Ts++(oth jp XP.length).filterMap (XP[·]?)⟩
theorem RN.range{encs:α->Array Value}{xs:List α}(eg:∀args w,(callFunc gf args).run P w=.ok (.enter gf args) w)
  (S:σ->HL×List HL) (I:Nat->σ->Prop) (Ix:Code->σ->Prop) (W:τ->Inv) (Ia:Nat->α->τ->Prop) (x0:σ) (h0:I 0 x0) (ip jp:List Nat)
  (hit:It P gf lb (ap (eR ip s) (fE jp s)++F) encs xs)
  (AS:∀ (l i:Nat) (x:α) (s1:σ) (Y:HL) (w1:World),xs[i]?=some x->I i s1->
   (∀ {s':Cfg} {R':HL} (t:τ) (ip' jp':List Nat),Ia i x t->(hm:Eh s'=some (MV N [] (Y++(ap (eR ip s) (fE jp s)++F)) w1 W (Ia i x)):=by kernel_rfl)->(h:vY (W t) ip' jp' s'=oL (W t):=by kernel_rfl)->(hp:bC ip' jp' s'=true:=by kernel_rfl)->RN (some l) P N [] (Y++(ap (eR ip s) (fE jp s)++F)) w1 R' s' (λ _ _ _=>False))->
   RN (some l) P N [] (Y++(ap (eR ip s) (fE jp s)++F)) w1 (eR ip s++R) (Q5 (MV N [] (Y++(ap (eR ip s) (fE jp s)++F)) w1 W (Ia i x)) (encs x).toList (S s1).1 (S s1).2 s) (λ _ _ _=>False))
  (UW:∀ (l i:Nat) (x:α) (t:τ) (Y:HL) (w1:World),xs[i]?=some x->Ia i x t->RN (some l) P N [] (Y++(ap (eR ip s) (fE jp s)++F)) w1 (eR ip s++R) (Q6 (W t) s) (RQ (Y++(ap (eR ip s) (fE jp s)++F)) w1 (λ s=>ap (S s).1 (S s).2) (I (i+1)) Ix))
  (UU:∀ (d:Nat) (s1:σ),I xs.length s1->RN none P N (coll d::D) F w0 R (Q7 (.ex .normal) d ip jp (S s1).1 (S s1).2 s) Q)
  (UR:∀ (d:Nat) (c:Code) (s1:σ),Ix c s1->RN none P N (coll d::D) F w0 R (Q7 (.code c) d ip jp (S s1).1 (S s1).2 s) Q)
  (XF:Ma N s=true:=by kernel_rfl) (hp:bC ip jp s=true:=by kernel_rfl) (hH:picks ip jp s=((S x0).1,(S x0).2):=by kernel_rfl) (hG:(m0 s).map (·.1)=some (.func (.func gf) #[] lb):=by kernel_rfl) (DO:∀x:α,(m0 s).map (·.2)=some (encs x).size:=by intro x;kernel_rfl):RN none P N D F w0 R s Q:=by
 refine⟨λ hR=>?_⟩;obtain⟨c,k,L,A,Ts⟩:=s;unfold bC at hp;unfold picks at hH;rw[aaW] at hp;simp only[df] at hH;cases c with
 |ops _ _=>simp[m0] at hG
 |ex _=>simp[m0] at hG
 |drw _ _=>simp[m0] at hG
 |code c=>
 cases c with
 |rangeFunc g ps assign body=>
  have hi:gm L g=true:=by
   cases h:gm L g with
   |true=>rfl
   |false=>simp[m0,h] at hG
  simp only[m0,hi,abK,de] at hG DO;simp only[Ma] at XF;have hRo:∀ (Y:HL),∀y∈eR ip ⟨.code (.rangeFunc g ps assign body),k,L,A,Ts⟩++R,y∈Y++(ap (eR ip ⟨.code (.rangeFunc g ps assign body),k,L,A,Ts⟩) (fE jp ⟨.code (.rangeFunc g ps assign body),k,L,A,Ts⟩)++F):=by
   intro Y y hy;rcases abM.1 hy with hy|hy
   ·exact aaB _ (aaC _ (aaC _ hy))
   ·exact aaB _ (aaB _ (hR y hy))
  exact Ee (assign:=assign) (body:=body) hi hG eg Ix (λ t=>(W t).L) (λ t=>ap (W t).A (W t).Ts) Ia (λ x=>(DO x).symm) XF h0 hp.1 hp.2 rfl rfl hH.1 hH.2 hit
   (λ l i x s1 Y w1 hx hi=>(AS l i x s1 Y w1 hx hi (λ t ip' jp' ht hm h hp=>qZ ht hm h hp)).h (hRo Y))
   (λ l i x t Y w1 hx ht=>(UW l i x t Y w1 hx ht).h (hRo Y))
   (λ d s1 hs=>(UU d s1 hs).h hR) (λ d c s1 hs=>(UR d c s1 hs).h hR)
 |_=>simp[m0] at hG
theorem Sp.runM{f:FuncId}{c:Code}(hf:P.funcs[f]?=some fn)(hb:fn.body=some c)(hR:∀y∈R,y∈F)(hH:H=ap A Ts)
  (h:∀w0,RN none P fn.ntmps [] F w0 R ⟨.code c,[],lI 0 args.toList,A,Ts⟩ (bodyPostM (Wr none) 0 P fn (uh F w0 R'))) (ha:decide (args.size<=fn.ntmps)=true:=by kernel_rfl):Sp P f args H F R':=by
 subst hH;exact xD hf hb rfl ha rfl λ w0=>(h w0).h hR
def ln(dx:List Nat)(s:Cfg):Cfg:=match s with
 | ⟨c,k,L,A,Ts⟩=>⟨c,k,L,(oth dx A.length).filterMap (A[·]?),Ts⟩
theorem Hy {dx:List Nat}(iD:AllP Ob){ip jp:List Nat}{v:Value}(hv:R' v H')
  (hD:D=ds.map coll:=by rfl) (hc:kJ s=true:=by kernel_rfl) (hd:((dx++oth dx s.A.length).isPerm (List.range s.A.length),dx.filterMap (s.A[·]?))=(true,ds.map cj):=by kernel_rfl)
  (h:∀n0,gS P n0 fn.results.toList R hints (ln dx s)=some (v,lD (gS P 0 fn.results.toList R hints (ln dx s)),lD (gS P 0 fn.results.toList R hints (ln dx s)),Ob):=by intro n0;kernel_rfl)
  (hp:bC ip jp (ln dx s)=true:=by kernel_rfl) (hH:ap (picks ip jp (ln dx s)).1 (picks ip jp (ln dx s)).2=H':=by kernel_rfl):RN none P N D F w0 R s (bodyPostM (Wr none) 0 P fn (uh F w0 R')):=by
 unfold bC at hp;unfold picks at hH;simp only[df] at hd;rw[aaW] at hp;obtain⟨c,k,L,A,Ts⟩:=s;refine⟨λ hR a w hF aT hB=>?_⟩;have key:LeavesInM (Wr none) 0 P fn a.tmps (uh F w0 R') a.defers .returning w:=by
  exact Go.Proofs.YtogafelgppjklaaGreatDoor.retM (by simp) ds hD dx (oth dx A.length) R hints v _ Ob hd.1 hd.2 rfl h hR iD ip _ jp _ H' hp.1 hp.2 hH hv a w hF aT hB
 exact pv hc key key
theorem RN.retM(dx:List Nat)(hints:List Hint)(ip jp:List Nat){v:Value}(hv:R' v H')
 (hD:D=ds.map coll:=by rfl) (hc:kJ s=true:=by kernel_rfl) (hd:((dx++oth dx s.A.length).isPerm (List.range s.A.length),dx.filterMap (s.A[·]?))=(true,ds.map cj):=by kernel_rfl)
 (h:∀n0,gS P n0 fn.results.toList R hints (ln dx s)=some (v,lD (gS P 0 fn.results.toList R hints (ln dx s)),lD (gS P 0 fn.results.toList R hints (ln dx s)),[]):=by intro n0;kernel_rfl)
 (hp:bC ip jp (ln dx s)=true:=by kernel_rfl) (hH:ap (picks ip jp (ln dx s)).1 (picks ip jp (ln dx s)).2=H':=by kernel_rfl):RN none P N D F w0 R s (bodyPostM (Wr none) 0 P fn (uh F w0 R')):=Hy ds hints [] trivial hv hD hc hd h hp hH
end
def SpD(P:Program)(f:FuncId)(args:Array Value)(H F:HL)(R:Value->HL->Prop):Prop :=
 ∀w,Rel (H++F) w->CallsDIn (Wr none) 0 P f args .returning w λ e u' w'=>u'=.returning/\∃v H',e=.returned v/\R v H'/\Rel (H'++F) w'/\Below 0 w w'
theorem SpD.mono{P:Program}{f:FuncId}{F:HL}{R:Value->HL->Prop}(h:SpD P f args H F R)(hr:∀v H',R v H'->R' v H'):SpD P f args H F R' :=
 λ w hR=>(h w hR).mono λ e u' w' ⟨h0,v,H',h1,h2,h3,h4⟩=>⟨h0,v,H',h1,hr _ _ h2,h3,h4⟩
section
variable {r:Option Nat} {P:Program} {N:Nat} {D:List Deferred} {F:HL} {w0:World} {R:HL} {s:Cfg} {Q:Exit->Act->World->Prop}
def dfR(N:Nat)(s:Cfg):Option (FuncId×Array Value×Array Value):=match fZ s with
 |some o=>match o.guard,o.op,(dK N o.dst undef s.L).isSome with
  |none,.defer c,true=>match c.callee with
   | .value f=>match gm s.L f && c.args.toList.all (gm s.L) with
    |true=>match eY s.L f with
     | .func (.func g) first cap=>some (g,first++c.args.map (eY s.L),cap)
     |_=>none
    |false=>none
   |_=>none
  |_,_,_=>none
 |none=>none
abbrev Q8(g:FuncId)(args cap:Array Value):Deferred:={ target:=.fn (.func g) cap,args:=args }
theorem CP{L:FL}{a:Act}(hF:Fm N D L a):∀ (l:List Operand),l.all (gm L)=true->l.map a.eval=l.map (eY L)
 | [],_=>rfl
 |x::l,h=>by
  rw[List.all_cons,aaW] at h;rw[ab7,ab7,hF.eval h.1,CP hF l h.2]
theorem Q9{g:FuncId}(hk:RN none P N (Q8 g args cap::D) F w0 R (db N undef s) Q)(h:dfR N s=some (g,args,cap):=by kernel_rfl):RN none P N D F w0 R s Q:=by
 refine⟨λ hR a w hF aT hB=>?_⟩;obtain⟨cc,kk,L,A,Ts⟩:=s;unfold dfR at h;split at h
 case h_2=>cases h
 rename_i o q0;split at h
 case h_2=>cases h
 rename_i c q1 q2 q3;split at h
 case h_2=>cases h
 rename_i f q4;split at h
 case h_2=>cases h
 rename_i q5;split at h
 case h_2=>cases h
 rename_i g' first bY q6
 simp only[de,df] at h;obtain⟨e1,e2,e3⟩:=h;subst e1;subst e2;subst e3;unfold fZ at q0;cases cc with
 |code c=>cases q0
 |ex c=>cases q0
 |drw _ _=>cases q0
 |ops ops j=>
  simp only at q0 q3 q5 q6 hF aT;have iF:ops.toList.drop j=o::ops.toList.drop (j+1):=by
   have g_:j<ops.toList.length:=(bt.1 q0).1;rw[eB g_,(bt.1 q0).2]
  show wpListIn _ _ _ _ _ _ _ _;rw[iF,wpListIn,if_pos (by simp[Region.wanted,q1])];refine⟨λ _ _=>trivial,?_⟩;rw[aaW] at q5;obtain⟨L',hl⟩:=b7 q3 undef;have UF:db N undef ⟨.ops ops j,kk,L,A,Ts⟩=⟨.ops ops (j+1),kk,L',A,Ts⟩:=by
   unfold db;simp only[q0,hl]
  have hh:=hk.h hR;rw[UF] at hh;have Yr:c.args.map a.eval=c.args.map (eY L):=by
   apply Array.ext';rw[acl,acl];exact CP hF _ q5.2
  have e1:a.eval f=.func (.func g') first bY:=(hF.eval q5.1).trans q6
  have hex:(o.semAt (Wr none).round a.eval).run P w=.ok (.defer (Q8 g' (first++c.args.map (eY L)) bY)) w:=by
   show (Oper.semAt none a.eval o).run P w=_;rw[Oper.semAt_none];simp only[execOp,q2,resolve,q4,e1,Deferred.ofValue,aa8,Yr];rfl
  rw[hex,Oper.uponIn_defer];have hF':Fm N (Q8 g' (first++c.args.map (eY L)) bY::D) L { a with defers:=Q8 g' (first++c.args.map (eY L)) bY::a.defers }:=⟨hF.size,by rw[<- hF.defs],hF.has⟩;exact hh _ w (hF'.put hl) aT hB
structure LV(P:Program)(N:Nat)(D:List Deferred)(F:HL)(w0:World)(R:HL)(fn:Func)(R':Value->HL->Prop)(s:Cfg):Prop where
 h:(∀y∈R,y∈F)->∀a w,Fm N D s.L a->Rel (ap s.A s.Ts++F) w->Below 0 w0 w->LeavesInM (Wr none) 0 P fn a.tmps (uh F w0 R') a.defers .returning w
theorem Ra(hk:LV P N D F w0 R fn R' s)(hc:kJ s=true:=by kernel_rfl):RN none P N D F w0 R s (bodyPostM (Wr none) 0 P fn (uh F w0 R')):=by
 refine⟨λ hR a w hF aT hB=>?_⟩;have key:=hk.h hR a w hF aT hB;exact pv hc key key
def Rb(ip jp:List Nat)(Hq:HL)(Tq:List HL)(s:Cfg):Cfg:=vW (λ A=>Hq++(oth ip A.length).filterMap (A[·]?)) (λ Ts=>Tq++(oth jp Ts.length).filterMap (Ts[·]?)) s
theorem Rc{g:FuncId}(eg:∀args w,(callFunc g args).run P w=.ok (.enter g args) w)(ip jp:List Nat){Hp:HL}{Tp:List HL}{Hq:τ->HL}{Tq:τ->List HL}{Rv:Value->τ->Prop}
  (hc:SpD P g (args++cap) (ap Hp Tp) (ap (eR ip s) (fE jp s)++F) (λ v H'=>∃x,H'=ap (Hq x) (Tq x)/\Rv v x)) (hk:∀v x,Rv v x->LV P N D F w0 R fn R' (Rb ip jp (Hq x) (Tq x) s))
  (hp:bC ip jp s=true:=by kernel_rfl) (hH:picks ip jp s=(Hp,Tp):=by kernel_rfl):LV P N (Q8 g args cap::D) F w0 R fn R' s:=by
 unfold bC at hp;unfold picks at hH;rw[aaW] at hp;simp only[df] at hH;obtain⟨e1,e2⟩:=hH;refine⟨λ hR a w hF aT hB=>?_⟩;have oF:(ap Hp Tp++ap (eR ip s) (fE jp s)).Perm (ap s.A s.Ts):=by
  have h1:=my s.A s.Ts hp.1 hp.2;rw[e1,e2] at h1;exact h1
 have hR1:Rel (ap Hp Tp++(ap (eR ip s) (fE jp s)++F)) w:=by rw[<- aaF];exact aT.perm (oF.append_right F)
 rw[hF.defs];refine⟨by simp,.inr ⟨(λ h=>by cases h),.func g,cap,g,args++cap,rfl,?_,λ _ _=>trivial,?_⟩⟩
 ·show (callFunc g (args++cap)).run P w=_;exact eg _ _
 ·refine(hc w hR1).mono ?_;rintro e u' w' ⟨rfl,v,H',rfl,⟨x,rfl,hv⟩,Wm,Yg⟩;have:=(hk v x hv).h hR { a with defers:=D } w' ⟨hF.size,rfl,hF.has⟩ ?_ (hB.trans Yg)
  ·exact this
  ·unfold Rb;rw[qY.1,qY.2.1];refine Wm.perm<|(vR _ _ _).symm
theorem Mb(iD:AllP Ob){ip jp:List Nat}{v:Value}(hv:R' v H')
  (h:∀n0,gS P n0 fn.results.toList R hints s=some (v,lD (gS P n0 fn.results.toList R hints s),lD (gS P n0 fn.results.toList R hints s),Ob):=by intro n0;kernel_rfl)
  (hp:bC ip jp s=true:=by kernel_rfl) (hH:ap (picks ip jp s).1 (picks ip jp s).2=H':=by kernel_rfl):LV P N [] F w0 R fn R' s:=by
 unfold bC at hp;unfold picks at hH;refine⟨λ hR a w hF aT hB=>?_⟩;rw[aaW] at hp;have h':=h w.heap.size;unfold gS AF at h';split at h'
 case h_2=>cases h'
 rename_i vs ss hs;split at h'
 case h_2=>cases h'
 simp only[lD,de,df] at h';obtain⟨e1,-,e3,e4⟩:=h';have f_:=jW (P:=P) hF aT fn.results.toList _ _ _ hs rfl rfl hR (λ e=>by cases e) (f6 rfl e3) (by rw[e4];exact AllP.mem iD);subst e1;rw[hF.defs];exact⟨_,jB (by simp) f_,_,H',rfl,hv,aT.takeT ip _ jp _ hp.1 hp.2 hH,hB⟩
theorem LV.ret{v:Value}(hv:R' v H')
 (h:∀n0,gS P n0 fn.results.toList R hints s=some (v,lD (gS P n0 fn.results.toList R hints s),lD (gS P n0 fn.results.toList R hints s),[]):=by intro n0;kernel_rfl)
 (hp:bC ip jp s=true:=by kernel_rfl) (hH:ap (picks ip jp s).1 (picks ip jp s).2=H':=by kernel_rfl):LV P N [] F w0 R fn R' s:=Mb hints [] trivial hv h hp hH
end
def SW(P:Program)(g:FuncId)(lb:Array Value)(own:HL)(F:HL){α:Type}(encs:α->Array Value)(xs:List α)(Te Tx:HL->Prop):Prop :=
 ∀ (X:HL) (l:Nat) (J:Nat->HL->Prop) (Jx:HL->Prop) (H0:HL),(∀i x H Y,xs[i]?=some x->J i H->YL P l (encs x) H (Y++(X++F)) (λ b H'=>(b=true/\J (i+1) H')\/(b=false/\Jx H')))->J 0 H0->
  Sp P g (#[.func (.yield l) #[] #[]]++lb) (H0++own) (X++F) (λ _ H'=>∃H1 T1,H'=H1++T1/\((J xs.length H1/\Te T1)\/(Jx H1/\Tx T1)))
section
variable {P:Program} {N:Nat} {D:List Deferred} {F:HL} {w0:World} {L:FL} {Q:Exit->Act->World->Prop}
theorem Et{body:Code}{encs:α->Array Value}{xs:List α}(hi:gm L g=true)(hg:eY L g=.func (.func gf) #[] lb)(eg:∀args w,(callFunc gf args).run P w=.ok (.enter gf args) w)
  (Hx:σ->HL) {I:Nat->σ->Prop} (Ix:Code->σ->Prop) (La:τ->FL) (Ha:τ->HL) (Ia:Nat->α->τ->Prop) (hps:∀x,(encs x).size=ps.size) (XF:(ps.toList.all λ p=>decide (p<N))=true)
  {x0:σ} (h0:I 0 x0) {ip ir jp jr:List Nat} (hp:(ip++ir).isPerm (List.range A.length)=true) (hj:(jp++jr).isPerm (List.range Ts.length)=true) {Tr:List HL} (hHr:ir.filterMap (A[·]?)=Hr) (hTr:jr.filterMap (Ts[·]?)=own::Tr) (hH:ap (ip.filterMap (A[·]?)) (jp.filterMap (Ts[·]?))=Hx x0)
  (hit:SW P gf lb own (ap Hr Tr++F) encs xs Te Tx)
  (AS:∀ (l i:Nat) (x:α) (s:σ) (Y:HL) (w1:World),xs[i]?=some x->I i s->TR (some l) P N [] (Y++(ap Hr Tr++F)) w1 (qG ps.toList (encs x).toList L) (Hx s) assign (Exit.then (OS N [] (Y++(ap Hr Tr++F)) w1 La Ha (Ia i x)) (λ _ _ _=>False)))
  (UW:∀ (l i:Nat) (x:α) (t:τ) (Y:HL) (w1:World),xs[i]?=some x->Ia i x t->TR (some l) P N [] (Y++(ap Hr Tr++F)) w1 (La t) (Ha t) body (RQ (Y++(ap Hr Tr++F)) w1 Hx (I (i+1)) Ix))
  (UU:∀ (d:Nat) (s:σ) (T1:HL),I xs.length s->Te T1->EX N (coll d::D) F w0 L (cj d::(Hx s++ap Hr (T1::Tr))) Q .normal)
  (UR:∀ (d:Nat) (c:Code) (s:σ) (T1:HL),Ix c s->Tx T1->TR none P N (coll d::D) F w0 L (cj d::(Hx s++ap Hr (T1::Tr))) c Q) :
  TR none P N D F w0 L (ap A Ts) (.rangeFunc g ps assign body) Q:=by
 intro a w hF hR hB;have hpo:∀ (X:HL) (T1:HL),((X++T1)++(ap Hr Tr++F)).Perm (X++(ap Hr (T1::Tr)++F)):=λ X T1=>by
  rw[aaF];refine abB X ?_;rw[<- aaF];refine aaT F ?_;show (T1++(Hr++Tr.flatten)).Perm (Hr++(T1::Tr).flatten);rw[aa6,<- aaF,<- aaF];exact aaT _ aaS
 have hR1:Rel ((Hx x0++own)++(ap Hr Tr++F)) w:=by
  have h1:=my A Ts hp hj;rw[hHr,hTr,hH] at h1;have h2:=hR.perm (h1.append_right F);rw[aaF] at h2;exact h2.perm (hpo _ _)
 refine wpIn_rangeFunc ?_;intro fn hfn;obtain⟨rec,UT⟩:∃rec:LoopState->Option Code->Loop,rec=λ st pe=>{ state:=st,pending:=pe,fn,tmps:=a.tmps,params:=ps,assign,body,defers:=w.heap.size }:=⟨_,rfl⟩;obtain⟨W1,hW1⟩:∃W1,(w.alloc (.deferred (some []))).alloc (.loop (rec .ready none))=W1:=⟨_,rfl⟩;have hB1:Below 0 w W1:=by rw[<- hW1];exact(iJ).trans (iJ)
 have hRW:Rel ((w.heap.size+1,Blk.obj (.loop (rec .ready none)))::cj w.heap.size::((Hx x0++own)++(ap Hr Tr++F))) W1:=by
  rw[<- hW1];have h1:=(hR1.alloc (.obj (.deferred (some [])))).alloc (.obj (.loop (rec .ready none)));rw[World.size_alloc] at h1;exact h1
 refine⟨w.heap.size+1,[coll w.heap.size],W1,{ target:=.fn (.func gf) lb,args:=#[.func (.yield (w.heap.size+1)) #[] #[]] },W1,gf,#[.func (.yield (w.heap.size+1)) #[] #[]]++lb,W1,?_,?_,?_,?_,λ h=>(by cases h),?_⟩
 ·rw[<- hW1,UT];exact run_enterLoop_outer _ _ _ _ _
 ·have VT:a.eval g=.func (.func gf) #[] lb:=(hF.eval hi).trans hg;simp only[resolve,VT];simp[Deferred.ofValue];rfl
 ·intro f' _;trivial
 ·simp[invoke,eg]
 ·refine jV ?_;obtain⟨l,hl⟩:∃l,w.heap.size+1=l:=⟨_,rfl⟩;rw[hl] at hRW ⊢;obtain⟨d,hd⟩:∃d,w.heap.size=d:=⟨_,rfl⟩;rw[hd] at hRW UT ⊢;have key:=hit [] l (λ i H'=>∃s,I i s/\H'=(l,Blk.obj (.loop (rec .ready none)))::cj d::Hx s) (λ H'=>∃c s,Ix c s/\H'=(l,Blk.obj (.loop (rec .done (some c))))::cj d::Hx s)
   ((l,Blk.obj (.loop (rec .ready none)))::cj d::Hx x0) ?round ⟨x0,h0,rfl⟩ W1 hRW
  case round=>
   rintro i x H' Y hx ⟨s,hs,rfl⟩ W aT;have Vr:Rel ((l,Blk.obj (.loop (rec .ready none)))::(cj d::(Hx s++(Y++(ap Hr Tr++F))))) W:=aT;have hlW:W.heap[l]?=some (.loop (rec .ready none)):=Vr.holds _ aaD;have hy:=run_yield (P:=P) (args:=encs x) hlW (by rw[UT];exact hps x);rw[UT] at hy;refine⟨fn,_,assign,body,hy,roundIn_of_wpIn (F:=Wr none) (n:=0) hfn ?_⟩;have hFm:Fm N [] (qG ps.toList (encs x).toList L) { tmps:=(ps.zip (encs x)).foldl (λ t (p,v)=>t.setIfInBounds p v) a.tmps,defers:=[] }:=by
    have h1:=Fm.zip (D:=[]) ps.toList (encs x).toList L a.tmps (λ p hp=>aa9 (ady.1 XF p hp)) ⟨hF.size,rfl,hF.has⟩;have e:(ps.zip (encs x)).foldl (λ t (p,v)=>t.setIfInBounds p v) a.tmps=(ps.toList.zip (encs x).toList).foldl (λ t (p,v)=>t.setIfInBounds p v) a.tmps:=by
     rw[<- adJ,aec]
    rw[e];exact h1
   have hRA:Rel (Hx s++(((l,Blk.obj (.loop (rec .ready none)))::cj d::Y)++(ap Hr Tr++F))) W:=by
    have:=Vr;refine this.perm ?_;simp only[abl];refine sv.trans<|List.Perm.cons _ sv
   refine wpIn_mono (AS l i x s ((l,Blk.obj (.loop (rec .ready none)))::cj d::Y) W hx hs _ W hFm hRA (go _ _)) ?_;intro e a1 Wa hq;cases e with
   |normal=>
    obtain⟨t,ht,m1,m2,m3⟩:=hq;have hRb:Rel ((l,Blk.obj (.loop (rec .ready none)))::(cj d::(Ha t++(Y++(ap Hr Tr++F))))) Wa:=by
     refine m2.perm ?_;simp only[abl];refine(List.Perm.trans ?_ sv.symm);refine List.Perm.cons _ sv.symm
    have hla:Wa.heap[l]?=some (.loop (rec .ready none)):=hRb.holds _ aaD;refine⟨_,run_beginRound hla (by rw[UT]),?_⟩;have hRc:=hRb.putObj (F:=[]) (.obj (.loop { rec .ready none with state:=.busy }));have Wx:Rel (Ha t++(((l,Blk.obj (.loop { rec .ready none with state:=.busy }))::cj d::Y)++(ap Hr Tr++F))) (Wa.putObj l (.loop { rec .ready none with state:=.busy })):=by
     refine hRc.perm ?_;simp only[abl];refine sv.trans<|List.Perm.cons _ sv
    refine wpIn_mono (UW l i x t ((l,Blk.obj (.loop { rec .ready none with state:=.busy }))::cj d::Y) W hx ht a1 _ m1 Wx (m3.trans (dQ))) ?_;have fin:∀ (jump:Option Code) (s':σ) (W3:World),Rel (Hx s'++(((l,Blk.obj (.loop { rec .ready none with state:=.busy }))::cj d::Y)++(ap Hr Tr++F))) W3->Below 0 W W3->
      ∃v w',(Instr.endRound l jump).run P W3=.ok v w'/\v=.bool jump.isNone/\Rel (((l,Blk.obj (.loop (rec (if jump.isNone then .ready else .done) jump)))::cj d::Hx s')++(Y++([]++(ap Hr Tr++F)))) w'/\Below 0 W w':=by
     intro jump s' W3 h3 hb3;have h4:Rel ((l,Blk.obj (.loop { rec .ready none with state:=.busy }))::(cj d::(Hx s'++(Y++(ap Hr Tr++F))))) W3:=by
      refine h3.perm ?_;simp only[abl];refine(List.Perm.trans ?_ sv.symm);refine List.Perm.cons _ sv.symm
     have YI:W3.heap[l]?=some (.loop { rec .ready none with state:=.busy }):=h4.holds _ aaD;have f_:=run_endRound (P:=P) jump YI;refine⟨_,_,f_,rfl,?_,hb3.trans (dQ)⟩;have h5:=h4.putObj (F:=[]) (.obj (.loop (rec (if jump.isNone then .ready else .done) jump)));rw[UT] at h5 ⊢;exact h5
    intro e2 a2 W3 Vh;cases e2 with
    |normal=>
     obtain⟨s',US,n2,n3⟩:=Vh;obtain⟨v,w',k1,k2,k3,k4⟩:=fin none s' W3 n2 n3;exact⟨v,w',k1,true,_,by rw[k2];rfl,.inl ⟨rfl,s',US,rfl⟩,k3,k4⟩
    |ret=>
     obtain⟨s',US,n2,n3⟩:=Vh;obtain⟨v,w',k1,k2,k3,k4⟩:=fin (some .ret) s' W3 n2 n3;exact⟨v,w',k1,false,_,by rw[k2];rfl,.inr ⟨rfl,.ret,s',US,rfl⟩,k3,k4⟩
    |exit id=>
     obtain⟨s',US,n2,n3⟩:=Vh;obtain⟨v,w',k1,k2,k3,k4⟩:=fin (some (.exit id)) s' W3 n2 n3;exact⟨v,w',k1,false,_,by rw[k2];rfl,.inr ⟨rfl,.exit id,s',US,rfl⟩,k3,k4⟩
    |goto t=>exact Vh.elim
    |panic ch=>exact Vh.elim
    |outgrown=>exact Vh.elim
   |exit id=>exact hq.elim
   |goto t=>exact hq.elim
   |ret=>exact hq.elim
   |panic ch=>exact hq.elim
   |outgrown=>exact hq.elim
  refine key.mono ?_;rintro e W2 ⟨v,H',rfl,hor,Wm,Yg⟩;have fin:∀ (st:LoopState) (pe:Option Code) (s:σ) (T1:HL) (iN:st≠ .busy),Rel ((((l,Blk.obj (.loop (rec st pe)))::cj d::Hx s)++T1)++([]++(ap Hr Tr++F))) W2->
    ∃w4,(Instr.endLoop l).run P W2=.ok pe w4/\Rel ((cj d::(Hx s++ap Hr (T1::Tr)))++F) w4/\Below 0 W1 w4:=by
   intro st pe s T1 iN h4;have h5:Rel ((l,Blk.obj (.loop (rec st pe)))::(cj d::(Hx s++(ap Hr (T1::Tr)++F)))) W2:=h4.perm (((hpo (Hx s) T1).symm.cons _).cons _);have Vo:W2.heap[l]?=some (.loop (rec st pe)):=h5.holds _ aaD;have f_:=run_endLoop (P:=P) Vo (by rw[UT];exact iN);refine⟨W2.putObj l (.loop { rec st pe with state:=.exhausted }),?_,?_,Yg.trans (dQ)⟩
   ·rw[f_,UT]
   ·have h6:=h5.putObj (F:=[]) (.obj (.loop { rec st pe with state:=.exhausted }));have h7:=Rel.drop (X:=[(l,Blk.obj (.loop { rec st pe with state:=.exhausted }))]) (H:=cj d::(Hx s++(ap Hr (T1::Tr)++F))) h6;rw[<- aaF] at h7;exact h7
  have hFd:Fm N (coll d::D) L { a with defers:=[coll d]++a.defers }:=⟨hF.size,by rw[hF.defs];rfl,hF.has⟩;rcases hor with ⟨H1,T1,rfl,⟨⟨s,hs,rfl⟩,hT⟩|⟨⟨c,s,hs,rfl⟩,hT⟩⟩
  ·obtain⟨w4,k1,k2,k3⟩:=fin .ready none s T1 (by simp) Wm;exact⟨none,w4,k1,UU d s T1 hs hT _ w4 hFd k2 (hB.trans (hB1.trans k3))⟩
  ·obtain⟨w4,k1,k2,k3⟩:=fin .done (some c) s T1 (by simp) Wm;exact⟨some c,w4,k1,UR d c s T1 hs hT _ w4 hFd k2 (hB.trans (hB1.trans k3))⟩
theorem Ba{body:Code}{encs:α->Array Value}{xs:List α}(hi:gm L g=true)(hg:eY L g=.func (.func gf) #[] lb)(eg:∀args w,(callFunc gf args).run P w=.ok (.enter gf args) w)
  {Ax:σ->HL} {Tx:σ->List HL} {I:Nat->σ->Prop} (Ix:Code->σ->Prop) (La:τ->FL) (Ha:τ->HL) (Ia:Nat->α->τ->Prop) (hps:∀x,(encs x).size=ps.size) (XF:(ps.toList.all λ p=>decide (p<N))=true)
  {x0:σ} (h0:I 0 x0) {ip ir jp jr:List Nat} (hp:(ip++ir).isPerm (List.range A.length)=true) (hj:(jp++jr).isPerm (List.range Ts.length)=true) {Tr:List HL} (hHr:ir.filterMap (A[·]?)=Hr) {Tx':HL->Prop} (hTr:jr.filterMap (Ts[·]?)=own::Tr) (hA:ip.filterMap (A[·]?)=Ax x0) (hT:jp.filterMap (Ts[·]?)=Tx x0)
  (hit:SW P gf lb own (ap Hr Tr++F) encs xs Te Tx')
  (AS:∀ (l i:Nat) (x:α) (s:σ) (Y:HL) (w1:World),xs[i]?=some x->I i s->TR (some l) P N [] (Y++(ap Hr Tr++F)) w1 (qG ps.toList (encs x).toList L) (ap (Ax s) (Tx s)) assign (Exit.then (OS N [] (Y++(ap Hr Tr++F)) w1 La Ha (Ia i x)) (λ _ _ _=>False)))
  (UW:∀ (l i:Nat) (x:α) (t:τ) (Y:HL) (w1:World),xs[i]?=some x->Ia i x t->TR (some l) P N [] (Y++(ap Hr Tr++F)) w1 (La t) (Ha t) body (RQ (Y++(ap Hr Tr++F)) w1 (λ s=>ap (Ax s) (Tx s)) (I (i+1)) Ix))
  (UU:∀ (d:Nat) (s:σ) (T1:HL),I xs.length s->Te T1->EX N (coll d::D) F w0 L (ap (cj d::(Ax s++Hr)) (Tx s++T1::Tr)) Q .normal)
  (UR:∀ (d:Nat) (c:Code) (s:σ) (T1:HL),Ix c s->Tx' T1->TR none P N (coll d::D) F w0 L (ap (cj d::(Ax s++Hr)) (Tx s++T1::Tr)) c Q) :
  TR none P N D F w0 L (ap A Ts) (.rangeFunc g ps assign body) Q:=by
 have hpm:∀ (d:Nat) (s:σ) (Tr:List HL),(ap (cj d::(Ax s++Hr)) (Tx s++Tr)).Perm (cj d::(ap (Ax s) (Tx s)++ap Hr Tr)):=λ d s Tr=>by
  show (cj d::((Ax s++Hr)++(Tx s++Tr).flatten)).Perm _;refine List.Perm.cons _ ?_;rw[adA];show ((Ax s++Hr)++((Tx s).flatten++Tr.flatten)).Perm ((Ax s++(Tx s).flatten)++(Hr++Tr.flatten));rw[aaF,aaF];refine abB _ ?_;rw[<- aaF,<- aaF];exact aaT _ aaS
 exact Et hi hg eg (λ s=>ap (Ax s) (Tx s)) Ix La Ha Ia hps XF h0 hp hj hHr hTr (by rw[hA,hT]) hit AS UW
  (λ d s T1 hs hT a w h1 h2 h3=>UU d s T1 hs hT a w h1 (h2.perm ((hpm d s _).append_right F)) h3) (λ d c s T1 hs hT a w h1 h2 h3=>UR d c s T1 hs hT a w h1 (h2.perm ((hpm d s _).append_right F)) h3)
end
section
variable {P:Program} {N:Nat} {D:List Deferred} {F:HL} {w0:World} {R:HL} {s:Cfg} {Q:Exit->Act->World->Prop}
def Re(c:Fo)(d:Nat)(ip jp:List Nat)(A:HL)(Ts:List HL)(T1:HL)(s:Cfg):Cfg:=match s with
 | ⟨_,k,L,A',XP⟩=>⟨c,k,L,cj d::(A++(oth ip A'.length).filterMap (A'[·]?)),Ts++T1::((oth jp XP.length).filterMap (XP[·]?)).tail⟩
theorem Eu{encs:α->Array Value}{xs:List α}(eg:∀args w,(callFunc gf args).run P w=.ok (.enter gf args) w)
  (S:σ->HL×List HL) (I:Nat->σ->Prop) (Ix:Code->σ->Prop) (W:τ->Inv) (Ia:Nat->α->τ->Prop) (x0:σ) (h0:I 0 x0) {ip jp:List Nat} (hit:SW P gf lb own (ap (eR ip s) (fE jp s).tail++F) encs xs Te Tx)
  (AS:∀ (l i:Nat) (x:α) (s1:σ) (Y:HL) (w1:World),xs[i]?=some x->I i s1->
   (∀ {s':Cfg} {R':HL} (t:τ) (ip' jp':List Nat),Ia i x t->(hm:Eh s'=some (MV N [] (Y++(ap (eR ip s) (fE jp s).tail++F)) w1 W (Ia i x)):=by kernel_rfl)->(h:vY (W t) ip' jp' s'=oL (W t):=by kernel_rfl)->(hp:bC ip' jp' s'=true:=by kernel_rfl)->RN (some l) P N [] (Y++(ap (eR ip s) (fE jp s).tail++F)) w1 R' s' (λ _ _ _=>False))->
   RN (some l) P N [] (Y++(ap (eR ip s) (fE jp s).tail++F)) w1 (eR ip s++R) (Q5 (MV N [] (Y++(ap (eR ip s) (fE jp s).tail++F)) w1 W (Ia i x)) (encs x).toList (S s1).1 (S s1).2 s) (λ _ _ _=>False))
  (UW:∀ (l i:Nat) (x:α) (t:τ) (Y:HL) (w1:World),xs[i]?=some x->Ia i x t->RN (some l) P N [] (Y++(ap (eR ip s) (fE jp s).tail++F)) w1 (eR ip s++R) (Q6 (W t) s) (RQ (Y++(ap (eR ip s) (fE jp s).tail++F)) w1 (λ s=>ap (S s).1 (S s).2) (I (i+1)) Ix))
  (UU:∀ (d:Nat) (s1:σ) (T1:HL),I xs.length s1->Te T1->RN none P N (coll d::D) F w0 R (Re (.ex .normal) d ip jp (S s1).1 (S s1).2 T1 s) Q)
  (UR:∀ (d:Nat) (c:Code) (s1:σ) (T1:HL),Ix c s1->Tx T1->RN none P N (coll d::D) F w0 R (Re (.code c) d ip jp (S s1).1 (S s1).2 T1 s) Q)
  (XF:Ma N s=true:=by kernel_rfl) (hp:bC ip jp s=true:=by kernel_rfl) (hH:picks ip jp s=((S x0).1,(S x0).2):=by kernel_rfl) (ho:(fE jp s).head?=some own:=by kernel_rfl) (hG:(m0 s).map (·.1)=some (.func (.func gf) #[] lb):=by kernel_rfl) (DO:∀x:α,(m0 s).map (·.2)=some (encs x).size:=by intro x;kernel_rfl):RN none P N D F w0 R s Q:=by
 refine⟨λ hR=>?_⟩;obtain⟨c,k,L,A,Ts⟩:=s;unfold bC at hp;unfold picks at hH;rw[aaW] at hp;simp only[df] at hH;cases c with
 |ops _ _=>simp[m0] at hG
 |ex _=>simp[m0] at hG
 |drw _ _=>simp[m0] at hG
 |code c=>
 cases c with
 |rangeFunc g ps assign body=>
  have hi:gm L g=true:=by
   cases h:gm L g with
   |true=>rfl
   |false=>simp[m0,h] at hG
  simp only[m0,hi,abK,de] at hG DO;simp only[Ma] at XF;have hRo:∀ (Y:HL),∀y∈eR ip ⟨.code (.rangeFunc g ps assign body),k,L,A,Ts⟩++R,y∈Y++(ap (eR ip ⟨.code (.rangeFunc g ps assign body),k,L,A,Ts⟩) (fE jp ⟨.code (.rangeFunc g ps assign body),k,L,A,Ts⟩).tail++F):=by
   intro Y y hy;rcases abM.1 hy with hy|hy
   ·exact aaB _ (aaC _ (aaC _ hy))
   ·exact aaB _ (aaB _ (hR y hy))
  have IT:(oth jp Ts.length).filterMap (Ts[·]?)=own::((oth jp Ts.length).filterMap (Ts[·]?)).tail:=by
   have h1:((oth jp Ts.length).filterMap (Ts[·]?)).head?=some own:=ho;generalize (oth jp Ts.length).filterMap (Ts[·]?)=l at h1 ⊢;cases l with
   |nil=>cases h1
   |cons x l=>simp only[List.head?_cons,de] at h1;rw[h1];rfl
  exact Ba (assign:=assign) (body:=body) hi hG eg Ix (λ t=>(W t).L) (λ t=>ap (W t).A (W t).Ts) Ia (λ x=>(DO x).symm) XF h0 hp.1 hp.2 rfl IT hH.1 hH.2 hit
   (λ l i x s1 Y w1 hx hi=>(AS l i x s1 Y w1 hx hi (λ t ip' jp' ht hm h hp=>qZ ht hm h hp)).h (hRo Y))
   (λ l i x t Y w1 hx ht=>(UW l i x t Y w1 hx ht).h (hRo Y))
   (λ d s1 T1 hs hT=>(UU d s1 T1 hs hT).h hR) (λ d c s1 T1 hs hT=>(UR d c s1 T1 hs hT).h hR)
 |_=>simp[m0] at hG
def mkC(i:Nat)(s:Cfg):Cfg:=match s with
 | ⟨c,k,L,A,Ts⟩=>⟨c,k,L,(oth [i] A.length).filterMap (A[·]?),Ts⟩
theorem LV.mark{d:Nat}(i:Nat)(hk:LV P N D F w0 R fn R' (mkC i s))(h:((s.A[i]?),([i]++oth [i] s.A.length).isPerm (List.range s.A.length))=(some (cj d),true):=by kernel_rfl):LV P N (coll d::D) F w0 R fn R' s:=by
 simp only[df] at h;refine⟨λ hR a w hF aT hB=>?_⟩;obtain⟨c,k,L,A,Ts⟩:=s;simp only at h hF aT;have hp:=fU A h.2;simp only[acK,h.1,adI,abl,abz] at hp;have h1:Rel ((d,Blk.obj (.deferred (some [])))::(ap ((oth [i] A.length).filterMap (A[·]?)) Ts++F)) w:=by
  refine aT.perm ?_;have h2:(cj d::ap ((oth [i] A.length).filterMap (A[·]?)) Ts).Perm (ap A Ts):=aaT Ts.flatten hp;exact h2.append_right F
 have hd:w.heap[d]?=some (.deferred (some [])):=h1.holds (cj d) (by simp);have h2:=(h1.putObj (F:=[]) (.obj (.deferred none)));rw[hF.defs];refine⟨by simp,.inl ⟨d,_,rfl,run_takeDeferred hd,?_⟩⟩;exact hk.h hR { a with defers:=D } _ ⟨hF.size,rfl,hF.has⟩ (Rel.drop (X:=[(d,Blk.obj (.deferred none))]) h2) (hB.trans (dQ))
end
def aax:=@RN.yield
end
section
variable {A B:Option Addr} {F' Hl X:HL} {L:FL} {c' cap i k m n q sz:Nat} {e tx:TypeId} {fz:Nat×Nat} {o:Oper} {w:World}
section
variable {r:Option Nat} {P:Program} {N:Nat} {D:List Deferred} {F:HL} {w0:World} {R:HL} {s:Cfg} {Q:Exit->Act->World->Prop}
variable {α:Type} {e:Enc α} {T:TypeId} {inf:TypeInfo} {z:Value}
def xM(P:Program)(N j:Nat)(oo:Option Oper)(s:Cfg):Option (Option Addr×Nat×Nat×TypeId×Option Addr×Nat×Nat×TypeId×HL):=match oo with
 |some o=>match L7 P o s.L,s.Ts[j]?,([j]++oth [j] s.Ts.length).isPerm (List.range s.Ts.length) && (dK N o.dst undef s.L).isSome with
  |some (A,n,cap,T,B,m,c',tx),some Hl,true=>some (A,n,cap,T,B,m,c',tx,Hl)
  |_,_,_=>none
 |none=>none
theorem nO{j:Nat}{oo:Option Oper}(h:xM P N j oo s=some (A,n,cap,T,B,m,c',tx,Hl)) :
  ∃o a1 a2 t e',oo=some o/\o.guard=none/\o.op=.call { callee:=.builtin .append,args:=#[a1,a2],argTypes:=#[t,tx] } /\(gm s.L a1 && gm s.L a2)=true/\eY s.L a1=.slice A n cap/\eY s.L a2=.slice B m c'/\P.underlying t=some (.slice T)/\P.underlying tx=some (.slice e')/\
   s.Ts[j]?=some Hl/\([j]++oth [j] s.Ts.length).isPerm (List.range s.Ts.length)=true/\(dK N o.dst undef s.L).isSome=true:=by
 unfold xM at h;split at h
 case h_2=>cases h
 rename_i o;split at h
 case h_2=>cases h
 rename_i A' n' bY T' B' m' c2 tx' rW h1 h3 h4;simp only[de,df] at h;obtain⟨e1,e2,e3,e4,e5,e6,e7,e8,e9⟩:=h;subst e1;subst e2;subst e3;subst e4;subst e5;subst e6;subst e7;subst e8;subst e9;obtain⟨a1,a2,t,e',q1,q2,q3,q4,q5,q6,q7⟩:=ur h1;rw[aaW] at h4;exact⟨o,a1,a2,t,e',rfl,q1,q2,q3,q4,q5,q6,q7,h3,h4.1,h4.2⟩
end
inductive RowL{α:Type}(e:Enc α)(T:TypeId)(F:HL):Option Addr->Nat->List α->Prop
 |zero (A:Option Addr):RowL e T F A 0 []
 |rows (q o N:Nat) (full:List α) (fz:Nat×Nat) (n:Nat) (xs:List α) (hq:(q,.rows e.w N (ak e full) T fz)∈F) (ho:o+n<=N) (hn:xs.length=n) (hx:∀k,k<n->full.getD (o+k) e.dflt=xs.getD k e.dflt):RowL e T F (some ⟨q,o*e.w,none⟩) n xs
section
variable {α:Type} {e:Enc α} {T:TypeId} {F:HL} {A:Option Addr} {n:Nat} {xs:List α}
theorem RowL.mono(h:RowL e T F A n xs)(hs:∀x∈F,x∈F'):RowL e T F' A n xs:=by
 cases h with
 |zero=>exact .zero _
 |rows q o N full fz n xs hq ho hn hx=>exact .rows q o N full fz n xs (hs _ hq) ho hn hx
theorem RowL.up(h:RowL e T F A n xs):RowL e T (X++F) A n xs:=h.mono λ x hx=>aaB _ hx
theorem RowL.len(h:RowL e T F A n xs):xs.length=n:=by
 cases h with
 |zero=>rfl
 |rows q o N full fz n xs hq ho hn hx=>exact hn
theorem RowL.at(h:RowL e T F A n xs)(hk:k<n):∃q o N full fz,A=some ⟨q,o*e.w,none⟩/\(q,.rows e.w N (ak e full) T fz)∈F/\o+k<N/\full.getD (o+k) e.dflt=xs.getD k e.dflt:=by
 cases h with
 |zero=>omega
 |rows q o N full fz n xs hq ho hn hx=>exact⟨q,o,N,full,fz,rfl,hq,by omega,hx k hk⟩
theorem RowL.whole{N:Nat}(hq:(q,.rows e.w N (ak e xs) T fz)∈F)(h:xs.length<=N):RowL e T F (some ⟨q,0,none⟩) xs.length xs:=by
 have:=RowL.rows (e:=e) (T:=T) (F:=F) q 0 N xs fz xs.length xs hq (by omega) rfl (λ k hk=>by rw[abp]);rwa [adS] at this
end
section
variable {α:Type} {e:Enc α} {P:Program} {t tx ty T:TypeId} {inf:TypeInfo} {z:Value} {F:HL}
theorem rP(l:List α)(hw:0<e.w):∀ {j:Nat},j<l.length*e.w->(aq e l)[j]?=some (e.cell (l.getD (j/e.w) e.dflt) (j%e.w)):=by
 induction l with
 |nil=>intro j hj;simp at hj
 |cons x l ih=>
  intro j hj;have hc:aq e (x::l)=(List.range e.w).map (e.cell x)++aq e l:=by simp[aq]
  rw[hc]
  by_cases h:j<e.w
  ·rw[aaQ (by simpa using h),Nat.div_eq_of_lt h,aeb h];simp[h]
  ·rw[aaR (by simp;omega)];simp only[ab2,adN];have h2:j=(j-e.w)+e.w:=by omega
   rw[ih (by simp only[aaN,abX,Nat.one_mul] at hj;omega)]
   conv=>rhs;rw[h2,Nat.add_div_right _ hw,Nat.add_mod_right]
   rfl
theorem Hz(ok:EncOk e P T inf z)(hw:0<e.w){F:HL}{xs:List α}(hl:RowL e T F A n xs){c:Nat}{e':TypeId}(hk:P.underlying tx=some (.slice e'))(hR:Rel (X++F) w):Src P inf.size tx (.slice A n c) xs.length (aq e xs) w:=by
 cases hl with
 |zero=>
  cases A with
  |none=>exact Src.ofNil w hk c
  |some a=>exact Src.ofSlice w hk a 0 c [] (by simp) (λ j u h=>by simp at h) (λ u h=>by simp at h)
 |rows q o N full fz n xs hq ho hn hx=>
  subst hn;refine Src.ofSlice w hk _ _ _ _ (by rw[aE,ok.size]) ?_ ?_
  ·intro j u hj;have Xa:j<xs.length*e.w:=by rw[<- aE];exact(bt.1 hj).1
   rw[rP xs hw Xa] at hj;have hd:j/e.w<xs.length:=Nat.div_lt_of_lt_mul (by rw[ad2];exact Xa);have hb:=hR.holds _ (aaB X hq);rw[Addr.add_lit];have YK:o*e.w+j=(o+j/e.w)*e.w+j%e.w:=by
    rw[abX,adk,ad2 (j/e.w) e.w,Nat.div_add_mod]
   rw[jU (i:=o+j/e.w) (k:=j%e.w) hb rfl rfl YK (by omega) (Nat.mod_lt _ hw)];rw[<- hj];show some (ak e full (o+j/e.w) (j%e.w))=_;unfold ak;rw[hx _ hd]
  ·intro u hu;simp only[aq,adT,abG] at hu;obtain⟨x,_,k,_,rfl⟩:=hu;exact ok.one x k
def SrcIn(P:Program)(e:Enc α)(F:HL)(A:Option Addr)(n:Nat)(xs:List α):Prop :=
 (xs.length=n/\(A=none->n=0))/\∀ {tx e':TypeId} (c:Nat),P.underlying tx=some (.slice e')->∀X w,Rel (X++F) w->Src P e.w tx (.slice A n c) xs.length (aq e xs) w
theorem SrcIn.mono{F:HL}{xs:List α}(h:SrcIn P e F A n xs)(hs:∃X,F'.Perm (X++F)):SrcIn P e F' A n xs:=by
 obtain⟨X,hX⟩:=hs;refine⟨h.1,λ c hk Y w hR=>h.2 c hk (Y++X) w ?_⟩;rw[aaF];exact hR.perm (abB Y hX.symm)
theorem SrcIn.up{F:HL}{xs:List α}(h:SrcIn P e F A n xs):SrcIn P e (X++F) A n xs:=h.mono ⟨X,List.Perm.refl _⟩
theorem SrcIn.none:SrcIn P e F Option.none 0 []:=⟨⟨rfl,λ _=>rfl⟩,λ c hk X w hR=>Src.ofNil w hk c⟩
theorem RowL.src(ok:EncOk e P T inf z)(hw:0<e.w){F:HL}{xs:List α}(hl:RowL e T F A n xs):SrcIn P e F A n xs:=by
 refine⟨⟨hl.len,λ h=>?_⟩,λ c hk X w hR=>?_⟩
 ·subst h;cases hl;rfl
 ·have:=Hz (c:=c) ok hw hl hk hR;rwa [ok.size] at this
theorem SrcIn.lit(ok:EncOk e P T inf z){F:HL}{xs:List α}{rest:List Value}{ty:TypeId}(hq:(q,.lit (aq e xs++rest) ty fz)∈F):SrcIn P e F (some ⟨q,0,Option.none⟩) xs.length xs:=by
 refine⟨⟨rfl,λ h=>by cases h⟩,λ c hk X w hR=>Src.ofSlice w hk _ _ _ _ (by rw[aE]) ?_ ?_⟩
 ·intro j u hj;have hb:=hR.holds _ (aaB X hq);have hl:j<(aq e xs).length:=(bt.1 hj).1;simp only[Blk.den] at hb;rw[Addr.add_lit];simp[World.cell?,hb,aaQ hl,hj]
 ·intro u hu;simp only[aq,adT,abG] at hu;obtain⟨x,_,k,_,rfl⟩:=hu;exact ok.one x k
def NewS(e:Enc α)(T:TypeId)(src:List α)(A A':Option Addr)(bY:Nat)(rW:HL):Prop :=
 (src=[]/\A'=A/\bY=0/\rW=[])\/∃b,A'=some ⟨b,0,none⟩/\rW=[(b,.rows e.w bY (ak e src) T (0,0))]/\src.length<=bY
theorem NewS.rowL{src:List α}{A':Option Addr}{bY:Nat}{rW:HL}(h:NewS e T src A A' bY rW){F:HL}(hF:∀x∈rW,x∈F):RowL e T F A' src.length src:=by
 rcases h with ⟨rfl,rfl,rfl,rfl⟩|⟨b,rfl,rfl,hc⟩
 ·exact .zero _
 ·exact RowL.whole (hF _ (jt.2 rfl)) hc
theorem xN(l:List α)(k:Nat):ak e (l++List.replicate k e.dflt)=ak e l:=by
 funext i j;unfold ak;congr 1;rw[aaG,aaG]
 by_cases h:i<l.length
 ·rw[aaQ h]
 ·rw[aaR (by omega),ab3,vo (by omega)];split <;> rfl
theorem Bb(ok:EncOk e P T inf z)(ht:P.underlying t=some (.slice T)){G:HL}(hA:∀a,A=some a->a.spot=none)(hR:Rel G w){src:List α}{x:Value}
  (hs:Src P inf.size tx x src.length (aq e src) w) (hb:src.length<=100000000) :
  ∃A' bY rW w',(Builtin.append_ #[t,tx] ty #[.slice A 0 0,x]).run P w=.ok (.slice A' src.length bY) w'/\NewS e T src A A' bY rW/\Rel (rW++G) w'/\Below 0 w w':=by
 rcases abI src.length with h0|h0
 ·obtain rfl:src=[]:=aaU h0;cases A with
  |none=>
   refine⟨none,0,[],w,?_,.inl ⟨rfl,rfl,rfl,rfl⟩,hR,go _ _⟩;have hc:(Builtin.firstCells inf.size 0 x).run P w=.ok #[] w:=hs.cells;rcases hs.kind with ⟨e',hk⟩|hk <;> simp[Builtin.append_,run_underlying ht,run_underlying hk,Go.sizeOf,typeInfo,ok.info,hs.len,hc]
  |some a=>
   obtain⟨b,off,spot⟩:=a;obtain rfl:spot=none:=hA _ rfl;refine⟨some ⟨b,off,none⟩,0,[],w,?_,.inl ⟨rfl,rfl,rfl,rfl⟩,hR,go _ _⟩;have:=run_append_room_src (P:=P) w t tx ty T inf ht ok.info b off 0 0 x 0 (aq e ([]:List α)) hs (aaI _) (λ j hj=>by simp[aq] at hj) (λ j hj=>by simp[aq] at hj);exact this
 ·have hby:=ok.bytes;have Wu:Builtin.nextslicecap (0+src.length) 0*inf.bytes<=281474976710656:=by
   have h1:=ii (n:=0+src.length) 0 (by omega);have h2:Builtin.nextslicecap (0+src.length) 0*inf.bytes<=(2*100000000+192)*1000:=ad7 (by omega) hby;omega
  have hold:(Builtin.firstCells inf.size 0 (.slice A 0 0)).run P w.drew=.ok ([]:List Value).toArray w.drew:=by
   cases A with
   |none=>exact run_firstCells_none w.drew inf.size 0 0 0
   |some a=>
    obtain⟨b,off,spot⟩:=a;obtain rfl:spot=none:=hA _ rfl;exact run_firstCells_some w.drew inf.size 0 ⟨b,off,none⟩ 0 0 [] (by simp) (λ j u hj=>by simp at hj)
  have f_:=run_append_grow_src (P:=P) w t tx ty T inf z ht ok.info ok.zero A 0 0 [] hold x src.length (aq e src) hs (by omega) (by omega) Wu;have VT:=grownCap_ge w (0+src.length) 0 T;generalize grownCap w (0+src.length) 0 T=nc at *;rw[abp] at f_ VT;refine⟨_,nc,[(w.heap.size,.rows e.w nc (ak e src) T (0,0))],_,f_,.inr ⟨_,rfl,rfl,VT⟩,?_,?_⟩
  ·have:=(Rel.cons (.rows e.w nc (ak e src) T (0,0)) (o:=.cells (([]++aq e src).toArray++Builtin.zeroCells z.cells (nc-src.length)) T (0,0)) ?_ (hR.world (w':=w.drew) rfl))
   ·exact this
   ·show Obj.cells _ _ _=_;congr 1;apply Array.ext';show bq _ _ _=_;have hl:nc=(src++List.replicate (nc-src.length) e.dflt).length:=by simp;omega
    have h3:=gR e (src++List.replicate (nc-src.length) e.dflt);rw[<- hl,xN] at h3;rw[h3,aQ,abz,acM,lK ok]
  ·exact⟨rfl,rfl,rfl,by simp,λ k hk=>by omega⟩
end
section
variable {r:Option Nat} {P:Program} {N:Nat} {D:List Deferred} {F:HL} {w0:World} {R:HL} {s:Cfg} {Q:Exit->Act->World->Prop}
variable {α:Type} {e:Enc α} {T:TypeId} {inf:TypeInfo} {z:Value}
theorem mD(ok:EncOk e P T inf z)(src:List α)(j:Nat)(hA:∀a,A=some a->a.spot=none)(hm:m=src.length)(hb:src.length<=100000000)
  (hs:∀e',P.underlying tx=some (.slice e')->∀X w,Rel (X++F) w->Src P inf.size tx (.slice B m c') src.length (aq e src) w)
  (hk:∀ (A':Option Addr) (bY:Nat) (rW:HL),NewS e T src A A' bY rW->RN r P N D F w0 R (N7 j rW (db N (.slice A' src.length bY) s)) Q)
  (h:xM P N j (fZ s) s=some (A,0,0,T,B,m,c',tx,([]:HL)):=by kernel_rfl):RN r P N D F w0 R s Q:=by
 obtain⟨o,a1,a2,t,e',q0,q1,q2,q3,q4,q5,q6,q7,q9,P_,U5⟩:=nO h;refine⟨λ hR a w hF aT hB=>?_⟩;obtain⟨c,k,L,Bs,Ts⟩:=s;unfold fZ at q0;cases c with
 |code c=>cases q0
 |ex c=>cases q0
 |drw _ _=>cases q0
 |ops ops i=>
  simp only at q0 q3 q4 q5 q9 P_ U5 hF aT;have iF:ops.toList.drop i=o::ops.toList.drop (i+1):=by
   have g_:i<ops.toList.length:=(bt.1 q0).1;rw[eB g_,(bt.1 q0).2]
  show wpListIn _ _ _ _ _ _ _ _;rw[iF,wpListIn,if_pos (by simp[Region.wanted,q1])];refine⟨λ _ _=>trivial,?_⟩;have oF:=fW (A:=Bs) q9 P_;have key:cI P o a w λ u w'=>∃y:Option Addr×Nat×HL,(u=.slice y.1 src.length y.2.1/\NewS e T src A y.1 y.2.1 y.2.2)/\Rel ((y.2.2++(Bs++((oth [j] Ts.length).filterMap (Ts[·]?)).flatten))++F) w'/\Below 0 w w':=by
   simp only[aaW] at q3;have e1:=(hF.eval q3.1).trans q4;have e2:=(hF.eval q3.2).trans q5;have By:Rel ((Bs++((oth [j] Ts.length).filterMap (Ts[·]?)).flatten)++F) w:=by
    have:=aT.perm (oF.append_right F);exact this
   obtain⟨A',bY,rW,w',r1,r2,r3,r4⟩:=Bb (ty:=o.type) ok q6 hA By (hs e' q7 _ w aT) hb;unfold cI;have f_:(execOp a.eval o).run P w=.ok (.value (.slice A' src.length bY)) w':=by
    simp[execOp,q2,resolve,invoke,builtin,aa8,e1,e2,r1]
   rw[f_];exact⟨(A',bY,rW),⟨rfl,r2⟩,by rw[aaF];exact r3,r4⟩
  refine dT (by rw[q2];intro c hc;cases hc) key ?_;rintro u w' ⟨⟨A',bY,rW⟩,⟨rfl,XX⟩,By,VL⟩;obtain⟨L',p1⟩:=b7 U5 (.slice A' src.length bY);have hh:=(hk A' bY rW XX).h hR;have UF:db N (.slice A' src.length bY) ⟨.ops ops i,k,L,Bs,Ts⟩=⟨.ops ops (i+1),k,L',Bs,Ts⟩:=by
   unfold db;simp only[q0,p1]
  rw[UF] at hh;refine hh _ w' (hF.put p1) (By.perm (aaT F ?_)) (hB.trans VL);show (Bs++(rW::(oth [j] Ts.length).filterMap (Ts[·]?)).flatten).Perm _;rw[aa6,<- aaF,<- aaF];exact aaT _ aaS
end
section
variable {α:Type} {e:Enc α} {P:Program} {T:TypeId} {inf:TypeInfo} {z:Value} {l:List α} {A:Option Addr} {cap:Nat} {Hl F:HL}
theorem SlIs.toRowL(h:SlIs e T l A cap Hl)(hF:∀x∈Hl,x∈F):RowL e T F A l.length l:=by
 rcases h with ⟨rfl,rfl,rfl,rfl⟩|⟨b,o,full,rfl,rfl,h1,h2,h3⟩
 ·exact .zero _
 ·refine .rows b o (o+cap) full (0,0) _ l (hF _ (jt.2 rfl)) (by omega) rfl (λ k hk=>?_);have h4:((full.drop o).take l.length)[k]?=l[k]?:=by rw[h3]
  rw[abe,if_pos hk,abd] at h4;rw[aaG,aaG,h4]
theorem SlIs.src(ok:EncOk e P T inf z)(hw:0<e.w)(h:SlIs e T l A cap Hl)(hF:∀x∈Hl,x∈F):SrcIn P e F A l.length l:=RowL.src ok hw (h.toRowL hF)
theorem SlIs.one{x:α}{b:Nat}:SlIs e T [x] (some ⟨b,0,none⟩) 1 [(b,.rows e.w 1 (ak e [x]) T (0,0))]:=.inr ⟨b,0,[x],by simp,by simp,rfl,aaI _,rfl⟩
end
section
variable {r:Option Nat} {P:Program} {N:Nat} {D:List Deferred} {F:HL} {w0:World} {R:HL} {s:Cfg} {Q:Exit->Act->World->Prop} {hards:List Nat} {Rd:HL}
def btC(i:Nat)(s:Cfg):Cfg:=match s with
 | ⟨c,k,L,A,Ts⟩=>⟨c,k,L,(oth [i] A.length).filterMap (A[·]?),[i].filterMap (A[·]?)::Ts⟩
theorem CQ{A:HL}{Ts:List HL}(h:([i]++oth [i] A.length).isPerm (List.range A.length)=true):(ap ((oth [i] A.length).filterMap (A[·]?)) ([i].filterMap (A[·]?)::Ts)).Perm (ap A Ts):=by
 have hp:=fU A h;show ((oth [i] A.length).filterMap (A[·]?)++([i].filterMap (A[·]?)::Ts).flatten).Perm (A++Ts.flatten);rw[aa6,<- aaF];exact(List.perm_append_comm.trans hp).append_right _
theorem rQ(i:Nat)(hk:RN r P N D F w0 R (btC i s) Q)(h:([i]++oth [i] s.A.length).isPerm (List.range s.A.length)=true:=by kernel_rfl):RN r P N D F w0 R s Q:=by
 obtain⟨c,k,L,A,Ts⟩:=s;exact⟨λ hR a w h1 h2 h3=>hk.h hR a w h1 (h2.perm ((CQ h).append_right F)) h3⟩
theorem Rf(i:Nat)(hk:RD r P N D F w0 R hards Rd (btC i s) Q)(h:([i]++oth [i] s.A.length).isPerm (List.range s.A.length)=true:=by kernel_rfl):RD r P N D F w0 R hards Rd s Q:=by
 obtain⟨c,k,L,A,Ts⟩:=s;refine⟨λ hR hs=>?_⟩;have h1:=hk.h hR hs;intro I_ a hF;exact JJ.perm _ _ _ _ _ (CQ h) (h1 I_ a hF)
theorem gT(t:Nat){u v:Value}(e:u=v)(hk:RD r P N D F w0 R hards Rd (svC t v s) Q)(h:s.L.lookup t=some u:=by kernel_rfl):RD r P N D F w0 R hards Rd s Q:=by
 subst e;exact⟨λ hR hs I_ a hF=>hk.h hR hs I_ a (hF.fix h)⟩
variable {α:Type} {e:Enc α} {T:TypeId} {inf:TypeInfo} {z:Value}
theorem RN.appU(ok:EncOk e P T inf z)(l src:List α)(j:Nat){A:Option Addr}{n cap:Nat}{Hl:HL}{B:Option Addr}{m c':Nat}{tx:TypeId}(hn:n=l.length)(WR:SlIs e T l A cap Hl)(hb:l.length+src.length<=100000000)
  (hs:SrcIn P e (ap s.A s.Ts++F) B m src)
  (hk:∀ (A':Option Addr) (bY:Nat) (rW:HL),(SlIs e T (l++src) A' bY rW/\(aX A->aX A'))->RN r P N D F w0 R (N7 j rW (db N (.slice A' (n+src.length) bY) s)) Q)
  (h:xM P N j (fZ s) s=some (A,n,cap,T,B,m,c',tx,Hl):=by kernel_rfl):RN r P N D F w0 R s Q:=by
 obtain⟨o,a1,a2,t,e',q0,q1,q2,q3,q4,q5,q6,q7,q9,P_,U5⟩:=nO h;refine⟨λ hR a w hF aT hB=>?_⟩;obtain⟨c,k,L,Bs,Ts⟩:=s;unfold fZ at q0;cases c with
 |code c=>cases q0
 |ex c=>cases q0
 |drw _ _=>cases q0
 |ops ops i=>
  simp only at q0 q3 q4 q5 q9 P_ U5 hF aT;have iF:ops.toList.drop i=o::ops.toList.drop (i+1):=by
   have g_:i<ops.toList.length:=(bt.1 q0).1;rw[eB g_,(bt.1 q0).2]
  show wpListIn _ _ _ _ _ _ _ _;rw[iF,wpListIn,if_pos (by simp[Region.wanted,q1])];refine⟨λ _ _=>trivial,?_⟩;have oF:=fW (A:=Bs) q9 P_;refine dT (by rw[q2];intro c hc;cases hc) (mA (x:=.slice B m c') (src:=src) (G:=Bs++((oth [j] Ts.length).filterMap (Ts[·]?)).flatten) ok q2 q6 q3 q4 hn q5 oF WR (λ w hw=>by have h5:=hs.2 c' q7 [] w hw;rwa [<- ok.size] at h5) hb hF aT) ?_;rintro u w' ⟨⟨A',bY,rW⟩,⟨rfl,XX⟩,By,VL⟩;obtain⟨L',p1⟩:=b7 U5 (.slice A' (n+src.length) bY);have hh:=(hk A' bY rW XX).h hR;have UF:db N (.slice A' (n+src.length) bY) ⟨.ops ops i,k,L,Bs,Ts⟩=⟨.ops ops (i+1),k,L',Bs,Ts⟩:=by
   unfold db;simp only[q0,p1]
  rw[UF] at hh;refine hh _ w' (hF.put p1) (By.perm (aaT F ?_)) (hB.trans VL);show (Bs++(rW::(oth [j] Ts.length).filterMap (Ts[·]?)).flatten).Perm _;rw[aa6,<- aaF,<- aaF];exact aaT _ aaS
theorem RDO.appU(ix:List Nat)(ok:EncOk e P T inf z)(l src:List α)(j:Nat)(hn:n=l.length)(WR:SlIs e T l A cap Hl)(hb:l.length+src.length<=100000000)
  (hs:SrcIn P e (ap s.A s.Ts++F) B m src)
  (hk:∀ (A':Option Addr) (bY:Nat) (rW:HL),(SlIs e T (l++src) A' bY rW/\(aX A->aX A'))->RD r P N D F w0 R hards Rd (N7 j rW (qI N i (.slice A' (n+src.length) bY) s)) Q)
  (h:xM P N j (jd i s) s=some (A,n,cap,T,B,m,c',tx,Hl):=by kernel_rfl) (hx:(hards.contains i,vZ ix s)=(true,Rd):=by kernel_rfl):RDO r P N D F w0 R hards Rd i s Q:=by
 obtain⟨o,a1,a2,t,e',q0,q1,q2,q3,q4,q5,q6,q7,q9,P_,U5⟩:=nO h;obtain⟨c,k,L,Bs,Ts⟩:=s;unfold jd at q0;simp only[df] at hx;cases c with
 |code c=>cases q0
 |ex c=>cases q0
 |ops _ _=>cases q0
 |drw ops li=>
  refine⟨λ hR=>?_⟩;simp only at q0 q3 q4 q5 q9 P_ U5;have oF:=fW (A:=Bs) q9 P_;have UF:∀v L',dK N o.dst v L=some L'->qI N i v ⟨.drw ops li,k,L,Bs,Ts⟩=⟨.drw ops (aO li i true),k,L',Bs,Ts⟩:=by
   intro v L' hl;unfold qI;simp only[q0,hl]
  refine(jX (Q:=Q) (by simpa using q0) (σ:=Option Addr×Nat×HL) (λ u y=>u=.slice y.1 (n+src.length) y.2.1/\(SlIs e T (l++src) y.1 y.2.1 y.2.2/\(aX A->aX y.1))) (λ y=>ap Bs (y.2.2::(oth [j] Ts.length).filterMap (Ts[·]?))) U5 (λ a hF=>⟨by simp[Region.wanted,q1],λ w aT hB=>?_⟩) (λ y=>⟨λ hi=>?_,λ hi x hm=>aaC _ (qh ix hx.2 x hm)⟩) ?_:RDO r P N D F w0 R hards Rd i ⟨.drw ops li,k,L,Bs,Ts⟩ Q).h hR
  ·refine dS (mA (x:=.slice B m c') (src:=src) (G:=Bs++((oth [j] Ts.length).filterMap (Ts[·]?)).flatten) ok q2 q6 q3 q4 hn q5 oF WR (λ w hw=>by have h5:=hs.2 c' q7 [] w hw;rwa [<- ok.size] at h5) hb hF aT) ?_;rintro u w' ⟨y,h3,By,VL⟩;refine⟨y,h3,By.perm (aaT F ?_),VL⟩;show (Bs++(y.2.2::(oth [j] Ts.length).filterMap (Ts[·]?)).flatten).Perm _;rw[aa6,<- aaF,<- aaF];exact aaT _ aaS
  ·exact absurd (abC.1 hx.1) hi
  ·rintro u ⟨A',bY,rW⟩ ⟨rfl,h3⟩ L' hl hs;have h1:=(hk A' bY rW h3).h hR;rw[UF _ L' hl] at h1;exact h1 hs
end
section
variable {r:Option Nat} {P:Program} {N:Nat} {D:List Deferred} {F:HL} {w0:World} {R:HL} {s:Cfg} {Q:Exit->Act->World->Prop}
end
def slA(A:Option Addr)(l sz cap:Nat):Option Addr:=if cap=l then A else A.map (·.add (l*sz))
def Tm(P:Program)(o:Oper)(L:FL):Option (Option Addr×Nat×Nat×Int×Nat):=match o.guard,o.op with
 |none,.slice t x (some lo) none none=>match gm L x && gm L lo,P.underlying t,eY L x,eY L lo with
  |true,some (.slice elem),.slice a len cap,.int .i64 l=>match P.info? elem with
   |some inf=>some (a,len,cap,l,inf.size)
   |none=>none
  |_,_,_,_=>none
 |_,_=>none
def SX(P:Program)(N:Nat)(oo:Option Oper)(s:Cfg):Option (Option Addr×Nat×Nat×Int×Nat):=match oo with
 |some o=>match Tm P o s.L,(dK N o.dst undef s.L).isSome with
  |some x,true=>some x
  |_,_=>none
 |none=>none
section
variable {r:Option Nat} {P:Program} {N:Nat} {D:List Deferred} {F:HL} {w0:World} {R:HL} {s:Cfg} {Q:Exit->Act->World->Prop}
theorem xO{l:Int}(h:Tm P o L=some (A,n,cap,l,sz)) :
  ∃t x lo elem inf,o.guard=none/\o.op=.slice t x (some lo) none none/\(gm L x && gm L lo)=true/\P.underlying t=some (.slice elem)/\eY L x=.slice A n cap/\eY L lo=.int .i64 l/\P.info? elem=some inf/\inf.size=sz:=by
 unfold Tm at h;split at h
 case h_2=>cases h
 rename_i t x lo hg ID;split at h
 case h_2=>cases h
 rename_i elem a len cp l' h1 h2 h3 h4;split at h
 case h_2=>cases h
 rename_i inf h5;simp only[de,df] at h;obtain⟨e1,e2,e3,e4,e5⟩:=h;subst e1;subst e2;subst e3;subst e4;exact⟨t,x,lo,elem,inf,hg,ID,h1,h2,h3,h4,h5,e5⟩
theorem RN.slA{l:Nat}{li:Int}(hl:li=(l:Int))(h1:l<=n)(h2:n<=cap)(hk:RN r P N D F w0 R (db N (.slice (slA A l sz cap) (n-l) (cap-l)) s) Q)
  (h:SX P N (fZ s) s=some (A,n,cap,li,sz):=by kernel_rfl):RN r P N D F w0 R s Q:=by
 unfold SX at h;split at h
 case h_2=>cases h
 rename_i o q0;split at h
 case h_2=>cases h
 rename_i y hv hp;simp only[de] at h;rw[h] at hv;clear h;obtain⟨t,x,lo,elem,inf,q1,q2,q3,q4,q5,q6,q7,q8⟩:=xO hv;refine⟨λ hR aa w hF aT hB=>?_⟩;obtain⟨c,k,L,Bs,Ts⟩:=s;unfold fZ at q0;cases c with
 |code c=>cases q0
 |ex c=>cases q0
 |drw _ _=>cases q0
 |ops ops pc=>
  simp only at q0 q3 q5 q6 hp hF aT;have iF:ops.toList.drop pc=o::ops.toList.drop (pc+1):=by
   have g_:pc<ops.toList.length:=(bt.1 q0).1;rw[eB g_,(bt.1 q0).2]
  show wpListIn _ _ _ _ _ _ _ _;rw[iF,wpListIn,if_pos (by simp[Region.wanted,q1])];refine⟨λ _ _=>trivial,?_⟩;have key:cI P o aa w λ u w'=>u=.slice (slA A l sz cap) (n-l) (cap-l)/\Rel (ap Bs Ts++F) w'/\Below 0 w w':=by
   simp only[aaW] at q3;have e1:=(hF.eval q3.1).trans q5;have e2:=(hF.eval q3.2).trans q6;have k1:=iY (P:=P) (ρ:=aa.eval) (lo:=some lo) (hi:=none) (l:=l) (h:=n) (len:=n) (cap:=cap) (by show Eb _ _ _ _;unfold Eb;simp only[e2];exact hl) rfl h1 h2 w;have k2:=λ W=>cO q7 W;have k3:=λ W=>aG q4 W;unfold cI;have he:(execOp aa.eval o).run P w=.ok (.value (.slice (slA A l sz cap) (n-l) (cap-l))) w:=by
    rw[show Option.map aa.eval none=none from rfl,show Option.map aa.eval (some lo)=some (aa.eval lo) from rfl] at k1;simp[execOp,q2,Instr.sliceAt,Instr.slice,e1,k3,Go.sizeOf,k2,aa8,k1,slA,q8]
   rw[he];exact⟨rfl,aT,go _ _⟩
  refine dT (by rw[q2];intro c hc;cases hc) key ?_;rintro u w' ⟨rfl,By,VL⟩;obtain⟨L',p1⟩:=b7 hp (.slice (slA A l sz cap) (n-l) (cap-l));have hh:=hk.h hR;have UF:db N (.slice (slA A l sz cap) (n-l) (cap-l)) ⟨.ops ops pc,k,L,Bs,Ts⟩=⟨.ops ops (pc+1),k,L',Bs,Ts⟩:=by
   unfold db;simp only[q0,p1]
  rw[UF] at hh;exact hh _ w' (hF.put p1) By (hB.trans VL)
end
section
variable {α:Type} {e:Enc α} {T:TypeId} {F:HL} {A:Option Addr} {n cap:Nat} {xs:List α} {Hl:HL}
theorem SlIs.drop(h:SlIs e T xs A cap Hl)(hF:∀x∈Hl,x∈F)(hn:xs.length=n)(hk:k<=n):RowL e T F (slA A k e.w cap) (n-k) (xs.drop k):=by
 subst hn;have hr:=h.toRowL hF;rcases h with ⟨rfl,rfl,rfl,rfl⟩|⟨b,o,full,rfl,rfl,h1,h2,h3⟩
 ·have:k=0:=by simpa using hk
  subst this;exact .zero _
 ·by_cases hc:cap=k
  ·have e1:xs.length-k=0:=by omega
   have e2:xs.drop k=[]:=aaU (by rw[aaM];omega);rw[e1,e2];exact .zero _
  ·have e1:slA (some ⟨b,o*e.w,none⟩) k e.w cap=some ⟨b,(o+k)*e.w,none⟩:=by
    unfold slA;rw[if_neg hc,abK,gO rfl];simp[tK,abX]
   rw[e1];refine .rows b (o+k) (o+cap) full (0,0) _ _ (hF _ (jt.2 rfl)) (by omega) (by simp) (λ i hi=>?_);have h4:((full.drop o).take xs.length)[k+i]?=xs[k+i]?:=by rw[h3]
   rw[abe,if_pos (by omega),abd] at h4;rw[aaG,aaG,abd,<- h4,adk]
end
def qm(st:ByteArray)(i:Nat):Int:=((st.data.toList.map λ b:UInt8=>(b.toNat:Int)).getD i 0)
def rR(st:ByteArray):Nat->Nat->Value:=λ i k=>match k with|0=>.int .u8 (qm st i)|_=>default
theorem rS(st:ByteArray)(h:st.size<=cap):bq 1 (rR st) cap=(bytesRow st cap).toList:=by
 have hl:st.data.toList.length=st.size:=by rw[adX];rfl
 refine iW ?_ λ i k hi hk=>?_
 ·simp only[bytesRow,acM,acl,Array.toList_replicate,aaK,ab2,abo,hl];omega
 ·obtain rfl:k=0:=by omega
  simp only[bytesRow,acM,acl,Array.toList_replicate,Nat.mul_one,abZ];unfold rR qm;rw[aaG,List.getElem?_append,ab2,abf,abf,ab3]
  by_cases h1:i<st.data.toList.length
  ·rw[if_pos h1,aaP h1];rfl
  ·rw[if_neg h1,if_pos (by omega),vo (by omega)];rfl
def To(P:Program)(o:Oper)(L:FL):Option (ByteArray×TypeId):=match o.guard,o.op with
 |none,.convert src dst x=>match gm L x,P.underlying src,P.underlying dst,eY L x with
  |true,some .string,some (.slice e),.string st=>match P.underlying e with
   |some (.int .u8)=>some (st,e)
   |_=>none
  |_,_,_,_=>none
 |_,_=>none
def sbK(P:Program)(N:Nat)(oo:Option Oper)(s:Cfg):Option (ByteArray×TypeId):=match oo with
 |some o=>match To P o s.L,(dK N o.dst undef s.L).isSome with
  |some x,true=>some x
  |_,_=>none
 |none=>none
def ntB(Hl:HL)(s:Cfg):Cfg:=match s with
 | ⟨c,k,L,A,Ts⟩=>⟨c,k,L,A,Hl::Ts⟩
section
variable {r:Option Nat} {P:Program} {N:Nat} {D:List Deferred} {F:HL} {w0:World} {R:HL} {s:Cfg} {Q:Exit->Act->World->Prop}
theorem HA{st:ByteArray}(h:To P o L=some (st,e)) :
  ∃src dst x,o.guard=none/\o.op=.convert src dst x/\gm L x=true/\P.underlying src=some .string/\P.underlying dst=some (.slice e)/\eY L x=.string st/\P.underlying e=some (.int .u8):=by
 unfold To at h;split at h
 case h_2=>cases h
 rename_i src dst x hg ID;split at h
 case h_2=>cases h
 rename_i e' st' h1 h2 h3 h4;split at h
 case h_2=>cases h
 rename_i h5;simp only[de,df] at h;obtain⟨e1,e2⟩:=h;subst e1;subst e2;exact⟨src,dst,x,hg,ID,h1,h2,h3,h4,h5⟩
theorem O0{st:ByteArray}(hk:∀b cap,st.size<=cap->RN r P N D F w0 R (ntB [(b,.rows 1 cap (rR st) e (cap,cap+1))] (db N (.slice (some ⟨b,0,none⟩) st.size cap) s)) Q)
  (h:sbK P N (fZ s) s=some (st,e):=by kernel_rfl):RN r P N D F w0 R s Q:=by
 unfold sbK at h;split at h
 case h_2=>cases h
 rename_i o q0;split at h
 case h_2=>cases h
 rename_i y hv hp;simp only[de] at h;rw[h] at hv;clear h;obtain⟨src,dst,x,q1,q2,q3,q4,q5,q6,q7⟩:=HA hv;refine⟨λ hR aa w hF aT hB=>?_⟩;obtain⟨c,k,L,Bs,Ts⟩:=s;unfold fZ at q0;cases c with
 |code c=>cases q0
 |ex c=>cases q0
 |drw _ _=>cases q0
 |ops ops pc=>
  simp only at q0 q3 q6 hp hF aT;have iF:ops.toList.drop pc=o::ops.toList.drop (pc+1):=by
   have g_:pc<ops.toList.length:=(bt.1 q0).1;rw[eB g_,(bt.1 q0).2]
  show wpListIn _ _ _ _ _ _ _ _;rw[iF,wpListIn,if_pos (by simp[Region.wanted,q1])];refine⟨λ _ _=>trivial,?_⟩;have key:cI P o aa w λ u w'=>∃y:Nat×Nat,(u=.slice (some ⟨y.1,0,none⟩) st.size y.2/\st.size<=y.2)/\Rel ((y.1,.rows 1 y.2 (rR st) e (y.2,y.2+1))::(ap Bs Ts++F)) w'/\Below 0 w w':=by
   have e1:=(hF.eval q3).trans q6;have f_:=run_bytes_of_string (P:=P) w src dst e st q4 q5 q7;have VT:=grownCap_ge w st.size 0 e;generalize grownCap w st.size 0 e=cap at *;have RW:(bytesRow st cap).size=cap:=by
    have:=congrArg List.length (rS st VT);rw[cm] at this;simpa using this.symm
   rw[RW] at f_;unfold cI;have he:(execOp aa.eval o).run P w=.ok (.value (.slice (some ⟨w.heap.size,0,none⟩) st.size cap)) (w.drew.alloc (.cells (bytesRow st cap) e (cap,cap+1))):=by
    simp[execOp,q2,e1,f_,aa8]
   rw[he];refine⟨(w.heap.size,cap),⟨rfl,VT⟩,?_,⟨rfl,rfl,rfl,by simp,λ k hk=>by omega⟩⟩;have:=Rel.cons (.rows 1 cap (rR st) e (cap,cap+1)) (o:=.cells (bytesRow st cap) e (cap,cap+1)) (by
    show Obj.cells _ _ _=_;congr 1;apply Array.ext';exact(rS st VT)) (aT.world (w':=w.drew) rfl)
   exact this
  refine dT (by rw[q2];intro c hc;cases hc) key ?_;rintro u w' ⟨⟨b,cap⟩,⟨rfl,VT⟩,By,VL⟩;obtain⟨L',p1⟩:=b7 hp (.slice (some ⟨b,0,none⟩) st.size cap);have hh:=(hk b cap VT).h hR;have UF:db N (.slice (some ⟨b,0,none⟩) st.size cap) ⟨.ops ops pc,k,L,Bs,Ts⟩=⟨.ops ops (pc+1),k,L',Bs,Ts⟩:=by
   unfold db;simp only[q0,p1]
  rw[UF] at hh;refine hh _ w' (hF.put p1) (By.perm ?_) (hB.trans VL);show ((Bs++([(b,_)]::Ts).flatten)++F).Perm _;rw[aa6,<- abl];refine aaT _ sv
end
def aaj:=@RN.appU
end
section
variable {A:Option Addr} {F F' T X:HL} {L:FL} {M:MemS} {P:Program} {b mb n q:Nat} {o:Oper} (k:Int) (vs:List Value)
def Mc(P:Program)(t:TypeId)(n:Nat):Bool:=match P.underlying t,P.info? t with
 |some d,some i=>(match d with | .struct _ | .array _ _=>true|_=>false) && i.size == n
 |_,_=>false
theorem Ev{t:TypeId}(h:Mc P t n=true):∃d,P.underlying t=some d/\d.isRow=true/\(P.info? t).map (·.size)=some n:=by
 unfold Mc at h;split at h
 case h_2=>cases h
 rename_i d i hd hi;rw[aaW,beq_iff_eq] at h;exact⟨d,hd,h.1,by rw[hi];exact congrArg some h.2⟩
def SY(P:Program)(n:Nat)(o:Oper)(L:FL):Option (Nat×Nat):=match o.guard,o.op with
 |none,.load t x=>match gm L x && Mc P t n,eY L x with
  |true,.pointer (some a)=>match a.spot with
   |none=>some (a.block,a.off)
   |_=>none
  |_,_=>none
 |_,_=>none
theorem rT(h:SY P n o L=some (b,q)) :
  ∃t x,o.guard=none/\o.op=.load t x/\gm L x=true/\Mc P t n=true/\eY L x=.pointer (some ⟨b,q,none⟩):=by
 unfold SY at h;split at h
 case h_2=>cases h
 rename_i t x hg ID;split at h
 case h_2=>cases h
 rename_i a h1 h2;split at h
 case h_2=>cases h
 rename_i hs;simp only[de,df] at h;obtain⟨e1,e2⟩:=h;rw[aaW] at h1;obtain⟨ab,ao,as_⟩:=a;dsimp only at hs e1 e2;subst hs;subst e1;subst e2;exact⟨t,x,hg,ID,h1.1,h1.2,h2⟩
def SZ(P:Program)(N n:Nat)(oo:Option Oper)(s:Cfg):Option (Nat×Nat):=match oo with
 |some o=>match SY P n o s.L,(dK N o.dst undef s.L).isSome with
  |some x,true=>some x
  |_,_=>none
 |none=>none
def ldD(P:Program)(N n:Nat)(hards:List Nat)(i:Nat)(s:Cfg):Option (Nat×Nat×Nat):=match SZ P N n (jd i s) s,QG (mZ s).toList (eS s) i with
 |some (b,q),true=>some (b,q,dk (aO (eS s) i true)+1)
 |_,_=>none
section
variable {r:Option Nat} {P:Program} {N:Nat} {D:List Deferred} {F:HL} {w0:World} {R:HL} {s:Cfg} {Q:Exit->Act->World->Prop} {hards:List Nat} {Rd:HL}
theorem HB{vs:List Value}(h:SY P vs.length o L=some (b,q)){a:Act}(hF:Fm N D L a){w:World}(hs:w.rangeAt b q vs):cI P o a w λ u w'=>u=.agg vs.toArray/\w'=w:=by
 obtain⟨t,x,q1,q2,q3,q4,q5⟩:=rT h;obtain⟨d,d1,d2,d3⟩:=Ev q4;have e1:=(hF.eval q3).trans q5;have f_:=run_loadAt_mid (P:=P) w b q t vs d hs d1 d2 d3;have he:(execOp a.eval o).run P w=.ok (.value (.agg vs.toArray)) w:=by
  simp only[execOp,q2,e1,f_,aa8,Result.andThen];rfl
 unfold cI;rw[he];exact⟨rfl,rfl⟩
theorem Bc(hs:∀w,xq w F->w.rangeAt b q vs)(hk:RN r P N D F w0 R (db N (.agg vs.toArray) s) Q)(h:SZ P N vs.length (fZ s) s=some (b,q):=by kernel_rfl):RN r P N D F w0 R s Q:=by
 unfold SZ at h;split at h
 case h_2=>cases h
 rename_i o q0;split at h
 case h_2=>cases h
 rename_i y hv hp;simp only[de] at h;subst h;refine⟨λ hR aa w hF aT hB=>?_⟩;obtain⟨c,k,L,Bs,Ts⟩:=s;unfold fZ at q0;cases c with
 |code c=>cases q0
 |ex c=>cases q0
 |drw _ _=>cases q0
 |ops ops pc=>
  simp only at q0 hv hp hF aT;obtain⟨t,x,q1,q2,q3,q4,q5⟩:=rT hv;have iF:ops.toList.drop pc=o::ops.toList.drop (pc+1):=by
   have g_:pc<ops.toList.length:=(bt.1 q0).1;rw[eB g_,(bt.1 q0).2]
  show wpListIn _ _ _ _ _ _ _ _;rw[iF,wpListIn,if_pos (by simp[Region.wanted,q1])];refine⟨λ _ _=>trivial,?_⟩;refine dT (by rw[q2];intro c hc;cases hc) (HB hv hF (hs w λ x hx=>aT.holds x (aaB _ hx))) ?_;rintro u w' ⟨rfl,rfl⟩;obtain⟨L',p1⟩:=b7 hp (.agg vs.toArray);have hh:=hk.h hR;have UF:db N (.agg vs.toArray) ⟨.ops ops pc,k,L,Bs,Ts⟩=⟨.ops ops (pc+1),k,L',Bs,Ts⟩:=by
   unfold db;simp only[q0,p1]
  rw[UF] at hh;exact hh _ _ (hF.put p1) aT hB
theorem Bd(i:Nat)(vs:List Value)(hs:∀w,xq w F->w.rangeAt b q vs)(hk:RD r P N D F w0 R hards Rd (qI N i (.agg vs.toArray) s) Q)(ix:List Nat)
  (h:ldD P N vs.length hards i s=some (b,q,dk (eS s)):=by kernel_rfl) (hix:vZ ix s=Rd:=by kernel_rfl):RD r P N D F w0 R hards Rd s Q:=by
 unfold ldD at h;split at h
 case h_2=>cases h
 rename_i b' q' hl dO;simp only[de,df] at h;obtain⟨e1,e2,e5⟩:=h;subst e1;subst e2;unfold SZ at hl;split at hl
 case h_2=>cases hl
 rename_i o q0;split at hl
 case h_2=>cases hl
 rename_i y hv hp;simp only[de] at hl;subst hl;refine⟨λ hR XY=>?_⟩;obtain⟨c,k,L,A,Ts⟩:=s;unfold jd at q0;cases c with
 |code c=>cases q0
 |ex c=>cases q0
 |ops _ _=>cases q0
 |drw ops l=>
  simp only[mZ,eS] at q0 hv hp XY dO e5 ⊢;obtain⟨t,x,q1,q2,q3,q4,q5⟩:=rT hv;obtain⟨L',hl⟩:=b7 hp (.agg vs.toArray);have UF:qI N i (.agg vs.toArray) ⟨.drw ops l,k,L,A,Ts⟩=⟨.drw ops (aO l i true),k,L',A,Ts⟩:=by
   unfold qI;simp only[q0,hl]
  rw[UF] at hk;rw[<- e5];have hvo:∀a,Fm N D L a->∀H':HL,VO P ops F w0 o (.agg vs.toArray) a H':=λ a hF H'=>.inl ⟨by simp[Region.wanted,q1],λ X w aT hB=>dS (HB hv hF (hs w λ x hx=>aT.holds x (aaB _ (aaB _ hx)))) λ u w' h=>by
   obtain⟨rfl,rfl⟩:=h;exact⟨rfl,aT,hB⟩⟩
  exact xC (v:=.agg vs.toArray) (L1:=L') XY dO (by simpa using q0) (λ a hF=>hF.put hl) (λ a hF=>hvo a hF _) (λ x hx=>aaC _ (qh ix hix x hx)) (.inr λ a hF H' _=>hvo a hF H') (hk.h hR XY)
end
structure Bod where (sh:Shp) (mot:Mot) (a b:Int)
abbrev dB:Bod:=⟨⟨0,[],none,0⟩,⟨0,0,0,0,0⟩,0,0⟩
def lE:Enc Bod:=⟨9,λ p k=>match k with|0=>vI p.sh.r|1=>.slice p.sh.A p.sh.poly.length p.sh.cap|2=>vI p.mot.px|3=>vI p.mot.py|4=>vI p.mot.vx|5=>vI p.mot.vy|6=>vI p.mot.inv|7=>vI p.a|_=>vI p.b,dB⟩
noncomputable def Oa:TypeInfo:=match Tryz.prog.info? 75 with | some i=>i | none=>⟨.bool,"",0,0,false,0,0,none,false,#[]⟩
noncomputable def Oc:Value:=match Oa.zero with|some z=>z|none=>.bool false
theorem Be:EncOk lE Tryz.prog 75 Oa Oc where
 info:=by kernel_rfl
 zero:=by kernel_rfl
 size:=by kernel_rfl
 zsize:=by kernel_rfl
 zcell:=λ k hk=>by
  have h:∀k<9,Oc.cells[k]?=some (lE.cell lE.dflt k):=by intro k hk;(iterate 9 (rcases k with _|k;· kernel_rfl));omega
  exact h k hk
 one:=λ x k=>by unfold lE;dsimp only;split <;> rfl
 bytes:=aaH (by kernel_rfl)
abbrev jO(l:List Bod):Nat->Nat->Value:=ak lE l
structure Setup where
 players:Int
 bb:Nat
 bo:Nat
 nb:Nat
 bc:Nat
 bR:Nat
 bods:List Bod
 box:Bx
 rA:Option Addr
 rn:Nat
 rc:Nat
 dA:Option Addr
 dn:Nat
 dc:Nat
 fog:Int
 g:V2
 push:Int
 drag:Int
 rest:Int
 rounds:Int
 fuel:Int
def Setup.body(S:Setup)(k:Nat):Bod:=S.bods.getD (S.bo+k) dB
structure SetN(S:Setup):Prop where
 pl:0<=S.players/\S.players<=1000000
 nb:S.nb<=1000000
structure SetIn(F:HL)(S:Setup):Prop extends SetN S where
 blk:(S.bb,.rows 9 S.bR (jO S.bods) 75 (0,0))∈F
 room:S.bo+S.nb<=S.bR
 shp:∀k,k<S.nb->ShIn F (S.body k).sh
theorem SetIn.up{S:Setup}(h:SetIn F S):SetIn (X++F) S :=
 ⟨h.toSetN,aaB _ h.blk,h.room,λ k hk=>(h.shp k hk).mono λ x hx=>aaB _ hx⟩
def ai(S:Setup)(k:Int):Int:=if k<0 then -1 else if k>=S.players then -1 else 48+4*k
def af(S:Setup)(k:Int):Int:=if k<0 then -1 else if k>=S.nb then -1 else 48+4*S.players+8*k
def sizeOf(S:Setup):Int:=48+4*S.players+8*S.nb
theorem lP{S:Setup}(h:SetN S)(k:Int):(-1<=ai S k/\ai S k<=1000000000)/\(ai S k<0\/(0<=k/\k<S.players)):=by
 have:=h.pl;unfold ai;split
 ·omega
 ·split <;> omega
theorem bT{S:Setup}(h:SetN S)(k:Int):(-1<=af S k/\af S k<=1000000000)/\(af S k<0\/(0<=k/\k<S.nb)):=by
 have:=h.pl;have:=h.nb;unfold af;split
 ·omega
 ·split <;> omega
abbrev Setup.v(S:Setup):Value:=.agg #[vI S.players,vS S.bb (S.bo*9) S.nb S.bc,vI S.box.x0,vI S.box.y0,vI S.box.x1,vI S.box.y1,.slice S.rA S.rn S.rc,.slice S.dA S.dn S.dc,vI S.fog,vI S.g.x,vI S.g.y,vI S.push,vI S.drag,vI S.rest,vI S.rounds,vI S.fuel]
abbrev Setup.l(S:Setup):List Value:=[vI S.players,vS S.bb (S.bo*9) S.nb S.bc,vI S.box.x0,vI S.box.y0,vI S.box.x1,vI S.box.y1,.slice S.rA S.rn S.rc,.slice S.dA S.dn S.dc,vI S.fog,vI S.g.x,vI S.g.y,vI S.push,vI S.drag,vI S.rest,vI S.rounds,vI S.fuel]
theorem lQ{S:Setup}(hn:SetN S):aen 230 #[(Setup.v S),vI k] F (vI (ai S k)):=by
 have h1:=hn.pl;have h2:=hn.nb;refine QT Tryz.func230<|ae 12 [] λ n1=>aaq (k<0) 7 (λ h2=>?_) λ h2=>?_
 ·refine OU 13<|QW (vI (-1)) [] ⟨?_,rfl⟩;simp only[ai,if_pos h2]
 ·refine SO 7 [.o 0]<|aaq (k>=S.players) 12 (λ h3=>?_) λ h3=>?_
  ·refine OU 6<|QW (vI (-1)) [] ⟨?_,rfl⟩;simp only[ai,if_neg h2,if_pos h3]
  ·refine ah 11 [.nw,.nw] [aI (48+(4*k)),aI (4*k)] λ _=>QW (vI (48+(4*k))) [] ⟨?_,rfl⟩;simp only[ai,if_neg h2,if_neg h3]
theorem dq{S:Setup}(hn:SetN S):aen 80 #[(Setup.v S),vI k] F (vI (af S k)):=by
 have h1:=hn.pl;have h2:=hn.nb;refine QT Tryz.func80<|ae 12 [] λ n1=>aaq (k<0) 7 (λ h2=>?_) λ h2=>?_
 ·refine OU 14<|QW (vI (-1)) [] ⟨?_,rfl⟩;simp only[af,if_pos h2]
 ·refine SO 8 [.o 0]<|aaq (k>=(S.nb:Int)) 13 (λ h3=>?_) λ h3=>?_
  ·refine OU 6<|QW (vI (-1)) [] ⟨?_,rfl⟩;simp only[af,if_neg h2,if_pos h3]
  ·refine ah 15 [.o 0,.nw,.nw,.nw,.nw] [aI ((48+(4*S.players))+(8*k)),aI (8*k),aI (48+(4*S.players)),aI (4*S.players)] λ _=>QW (vI ((48+(4*S.players))+(8*k))) [] ⟨?_,rfl⟩;simp only[af,if_neg h2,if_neg h3]
theorem Ew{S:Setup}(hn:SetN S):aen 79 #[(Setup.v S)] F (vI (sizeOf S)):=by
 have h1:=hn.pl;have h2:=hn.nb;refine QT Tryz.func79<|ah 20 [.o 0,.nw,.nw,.o 0,.nw,.nw] [aI ((48+(4*S.players))+(8*(S.nb:Int))),aI (8*(S.nb:Int)),aI (48+(4*S.players)),aI (4*S.players)] λ n1=>QW _ _ ⟨rfl,rfl⟩
theorem lR{S:Setup}(hn:SetN S):aen 179 #[(Setup.v S),vI k] F (vI (ai S k)):=by
 have h1:=hn.pl;have h2:=hn.nb;refine QT Tryz.func179<|ae 12 [] λ n1=>aaq (k<0) 7 (λ h2=>?_) λ h2=>?_
 ·refine OU 13<|QW (vI (-1)) [] ⟨?_,rfl⟩;simp only[ai,if_pos h2]
 ·refine SO 7 [.o 0]<|aaq (k>=S.players) 12 (λ h3=>?_) λ h3=>?_
  ·refine OU 6<|QW (vI (-1)) [] ⟨?_,rfl⟩;simp only[ai,if_neg h2,if_pos h3]
  ·refine ah 11 [.nw,.nw] [aI (48+(4*k)),aI (4*k)] λ _=>QW (vI (48+(4*k))) [] ⟨?_,rfl⟩;simp only[ai,if_neg h2,if_neg h3]
theorem cy{S:Setup}(hn:SetN S):aen 51 #[(Setup.v S),vI k] F (vI (af S k)):=by
 have h1:=hn.pl;have h2:=hn.nb;refine QT Tryz.func51<|ae 12 [] λ n1=>aaq (k<0) 7 (λ h2=>?_) λ h2=>?_
 ·refine OU 14<|QW (vI (-1)) [] ⟨?_,rfl⟩;simp only[af,if_pos h2]
 ·refine SO 8 [.o 0]<|aaq (k>=(S.nb:Int)) 13 (λ h3=>?_) λ h3=>?_
  ·refine OU 6<|QW (vI (-1)) [] ⟨?_,rfl⟩;simp only[af,if_neg h2,if_pos h3]
  ·refine ah 15 [.o 0,.nw,.nw,.nw,.nw] [aI ((48+(4*S.players))+(8*k)),aI (8*k),aI (48+(4*S.players)),aI (4*S.players)] λ _=>QW (vI ((48+(4*S.players))+(8*k))) [] ⟨?_,rfl⟩;simp only[af,if_neg h2,if_neg h3]
theorem Ey{S:Setup}(hn:SetN S):aen 50 #[(Setup.v S)] F (vI (sizeOf S)):=by
 have h1:=hn.pl;have h2:=hn.nb;refine QT Tryz.func50<|ah 20 [.o 0,.nw,.nw,.o 0,.nw,.nw] [aI ((48+(4*S.players))+(8*(S.nb:Int))),aI (8*(S.nb:Int)),aI (48+(4*S.players)),aI (4*S.players)] λ n1=>QW _ _ ⟨rfl,rfl⟩
section
variable {r:Option Nat} {P:Program} {N:Nat} {D:List Deferred} {F:HL} {w0:World} {R:HL} {s:Cfg} {Q:Exit->Act->World->Prop}
def Tt(K:Act->World->Prop)(s:Cfg):Cfg:=match s with
 | ⟨.code c,k,L,A,Ts⟩=>⟨.code c,.met K::k,L,A,Ts⟩
 |s=>s
def HC(s:Cfg):Bool:=match s.c with
 | .code _=>true
 |_=>false
def Tv(V:Inv)(s:Cfg):Cfg:=⟨.ex .normal,s.k,V.L,V.A,V.Ts⟩
theorem RN.cut{σ:Type}(V:σ->Inv)
  (first:(∀ {s':Cfg} {R':HL} (x':σ) (ip jp:List Nat),(V x').I->(hm:Eh s'=some (MV N D F w0 V (λ x'=>(V x').I)):=by kernel_rfl)->(h:vY (V x') ip jp s'=oL (V x'):=by kernel_rfl)->(hp:bC ip jp s'=true:=by kernel_rfl)->RN r P N D F w0 R' s' Q)->
   RN r P N D F w0 R (Tt (MV N D F w0 V (λ x'=>(V x').I)) s) Q)
  (rest:∀x,(V x).I->RN r P N D F w0 R (Tv (V x) s) Q) (hc:HC s=true:=by kernel_rfl):RN r P N D F w0 R s Q:=by
 refine⟨λ hR a w h1 h2 h3=>?_⟩;have h4:=(first (λ x' ip jp hi hm h hp=>qZ (x:=x') (ip:=ip) (jp:=jp) hi hm h hp)).h hR;obtain⟨c,k,L,A,Ts⟩:=s;unfold HC at hc;split at hc
 case h_2=>cases hc
 rename_i c' e1;simp only at e1;subst e1;refine wpIn_mono (h4 a w h1 h2 h3) λ e a w q=>?_;cases e with
 |normal=>
  obtain⟨x,hI,m1,m2,m3⟩:=q;exact(rest x hI).h hR a w m1 m2 m3
 |exit id=>exact q
 |goto l=>exact q
 |ret=>exact q
 |panic ch=>exact q
 |outgrown=>exact q
end
structure Inp where (dx dy act:Int)
abbrev dI:Inp:=⟨0,0,0⟩
structure Ins where (op n:Int)
abbrev dIns:Ins:=⟨0,0⟩
structure Eff where (t i k v:Int)
abbrev aaa(x:Eff):List Value:=[vI x.t,vI x.i,vI x.k,vI x.v]
abbrev aL:Eff:=⟨0,0,0,0⟩
def bS:Enc Inp:=⟨3,λ p k=>match k with|0=>vI p.dx|1=>vI p.dy|_=>vI p.act,dI⟩
noncomputable def Od:TypeInfo:=match Tryz.prog.info? 24 with | some i=>i | none=>⟨.bool,"",0,0,false,0,0,none,false,#[]⟩
noncomputable def Oe:Value:=match Od.zero with|some z=>z|none=>.bool false
theorem fM:EncOk bS Tryz.prog 24 Od Oe where
 info:=by kernel_rfl
 zero:=by kernel_rfl
 size:=by kernel_rfl
 zsize:=by kernel_rfl
 zcell:=λ k hk=>by
  have h:∀k<3,Oe.cells[k]?=some (bS.cell bS.dflt k):=by intro k hk;(iterate 3 (rcases k with _|k;· kernel_rfl));omega
  exact h k hk
 one:=λ x k=>by unfold bS;dsimp only;split <;> rfl
 bytes:=aaH (by kernel_rfl)
abbrev xP(l:List Inp):Nat->Nat->Value:=ak bS l
def InB(F:HL)(b a n:Nat)(f:Nat->Inp):Prop:=∀w,xq w F->∀k,k<n->w.rangeAt b (a+k*3) [vI (f k).dx,vI (f k).dy,vI (f k).act]
section
variable {F:HL} {b a n:Nat} {f:Nat->Inp}
theorem InB.mono(h:InB F b a n f)(hs:∀x∈F,x∈F'):InB F' b a n f:=λ w hw k hk=>h w (λ x hx=>hw x (hs x hx)) k hk
theorem InB.up(h:InB F b a n f):InB (X++F) b a n f:=h.mono λ x hx=>aaB _ hx
theorem InB.z{xs:List Inp}(h:InB F b a n λ k=>xs.getD k dI):InB F b a n λ k=>xs.getD (0+k) dI:=by simpa using h
theorem InB.rows{o N:Nat}{full:List Inp}{ty:TypeId}{fz:Nat×Nat}(hI:(b,.rows 3 N (xP full) ty fz)∈F)(hir:o+n<=N)(hx:∀k,k<n->full.getD (o+k) dI=f k):InB F b (o*3) n f:=by
 intro w hw k hk j v hj;have hb:=hw _ hI;have hj3:j<3:=by have:=(bt.1 hj).1;simpa using this
 rw[jU (i:=o+k) (k:=j) hb rfl rfl (by show o*3+k*3+j=(o+k)*3+j;omega) (by omega) hj3,<- hj];show some (bS.cell (full.getD (o+k) dI) j)=_;rw[hx k hk];rcases j with _|_|_|j
 ·rfl
 ·rfl
 ·rfl
 ·omega
def RowB(F:HL)(A:Option Addr)(n:Nat)(f:Nat->Inp):Prop:=n=0\/∃b a,A=some ⟨b,a,none⟩/\InB F b a n f
theorem RowB.at(h:RowB F A n f){k:Nat}(hk:k<n):∃b a,A=some ⟨b,a,none⟩/\InB F b a n f:=by
 rcases h with h|h
 ·omega
 ·exact h
theorem RowB.mono(h:RowB F A n f)(hs:∀x∈F,x∈F'):RowB F' A n f:=h.imp id λ ⟨b,a,e,hI⟩=>⟨b,a,e,hI.mono hs⟩
theorem RowB.up(h:RowB F A n f):RowB (X++F) A n f:=h.mono λ x hx=>aaB _ hx
theorem InB.rB(h:InB F b a n f):RowB F (some ⟨b,a,none⟩) n f:=.inr ⟨b,a,rfl,h⟩
end
structure Stp where
 S:Setup
 cA:Option Addr
 cn:Nat
 cc:Nat
 e0:Int
 e1:Int
 e2:Int
 version:Int
 ib:Nat
 io:Nat
 ni:Nat
 ic:Nat
 iR:Nat
 ins:List Inp
 i:Int
 j:Int
 ended:Bool
 f0:Int
 f1:Int
 f2:Int
 f3:Int
 emitted:Bool
 code:List Ins
def Stp.inp(t:Stp)(k:Nat):Inp:=t.ins.getD (t.io+k) dI
def movP(S:Setup)(k:Int):Prop:=(0<=k/\k<S.nb)/\(S.body k.toNat).mot.inv>0
instance (S:Setup) (k:Int):Decidable (movP S k):=inferInstanceAs (Decidable (_/\_))
theorem movP.has{S:Setup}{k:Int}(h:movP S k):0<=k/\k<S.nb:=h.1
def av(S:Setup)(M:MemS)(k:Int):Mot:=⟨M.get (af S k+0),M.get (af S k+1),M.get (af S k+2),M.get (af S k+3),(S.body k.toNat).mot.inv⟩
def bd(t:Stp)(ph j:Int)(M:MemS):MemS:=((M.set 1 ph).set 2 0).set 3 j
def dh(t:Stp)(k:Int)(m:Mot)(M:MemS):MemS:=(((M.set (af t.S k+0) m.px).set (af t.S k+1) m.py).set (af t.S k+2) m.vx).set (af t.S k+3) m.vy
def dL(t:Stp)(c sp pos lo hi:Int)(M:MemS):MemS:=if aK pos lo hi=pos then M.set c (aK pos lo hi) else (M.set c (aK pos lo hi)).set sp (aR (0-eZ ((M.set c (aK pos lo hi)).get sp) t.S.rest))
def cW(t:Stp)(M:MemS):MemS:=if t.i=0 then (M.set 13 t.version).set 11 0 else M
def di(t:Stp)(M:MemS):MemS:=if ai t.S t.i>=0 then if t.i<t.ni then ((M.set (ai t.S t.i+0) (t.inp t.i.toNat).dx).set (ai t.S t.i+1) (t.inp t.i.toNat).dy).set (ai t.S t.i+2) (t.inp t.i.toNat).act else M else M
def ga(t:Stp)(M:MemS):MemS:=if aR (t.i+1)<t.S.players then M.set 2 (aR (t.i+1)) else bd t 1 0 M
def dV(t:Stp)(M:MemS):MemS:=ga t (di t (cW t M))
abbrev Stp.l(t:Stp)(mb:Nat):List Value:=[.iface 85 (vP mb 0),vI t.S.players,vS t.S.bb (t.S.bo*9) t.S.nb t.S.bc,vI t.S.box.x0,vI t.S.box.y0,vI t.S.box.x1,vI t.S.box.y1,.slice t.S.rA t.S.rn t.S.rc,.slice t.S.dA t.S.dn t.S.dc,vI t.S.fog,vI t.S.g.x,vI t.S.g.y,vI t.S.push,vI t.S.drag,vI t.S.rest,vI t.S.rounds,vI t.S.fuel,.slice t.cA t.cn t.cc,vI t.e0,vI t.e1,vI t.e2,vI t.version,vS t.ib t.iR t.ni t.ic,vI t.i,vI t.j,.bool t.ended,vI t.f0,vI t.f1,vI t.f2,vI t.f3,.bool t.emitted]
abbrev Stp.lp(t:Stp)(mb:Nat):List Value:=[.iface 85 (vP mb 0),vI t.S.players,vS t.S.bb (t.S.bo*9) t.S.nb t.S.bc,vI t.S.box.x0,vI t.S.box.y0,vI t.S.box.x1,vI t.S.box.y1,.slice t.S.rA t.S.rn t.S.rc,.slice t.S.dA t.S.dn t.S.dc,vI t.S.fog,vI t.S.g.x,vI t.S.g.y,vI t.S.push,vI t.S.drag,vI t.S.rest,vI t.S.rounds,vI t.S.fuel,.slice t.cA t.cn t.cc,vI t.e0,vI t.e1,vI t.e2,vI t.version,vS t.ib t.iR t.ni t.ic,vI t.i,vI t.j,.bool t.ended]
theorem rg{t:Stp}{tb:Nat}(hb:(tb,.lit (Stp.l t mb) 281 (0,0))∈F):aeo 241 #[vP tb 0,vI k] [] F (λ u H'=>u=.bool (decide (0<=k/\k<t.S.nb))/\H'=[]):=by
 refine QU Tryz.func241 hb<|OU 10<|aaq (k>=0) 7 (λ h1=>?_) λ h1=>?_
 ·refine ae 12 [.ro 0] λ _=>QW (.bool (decide (k<(t.S.nb:Int)))) _ ⟨by simp[*],rfl⟩
 ·refine ae 12 [] λ _=>QW (.bool false) _ ⟨by simp[*],rfl⟩
theorem lS{t:Stp}{tb:Nat}(hb:(tb,.lit (Stp.l t mb) 281 (0,0))∈F)(hS:SetIn F t.S):aen 234 #[vP tb 0,vI k] F (.bool (decide (movP t.S k))):=by
 have hn:=hS.nb;have hr:=hS.room;refine rI Tryz.func234 (mc hb (mc hS.blk mn)) [] []<|OU 9<|aal (rg k (aaB _ hb))<|OU 1<|aaq (0<=k/\k<t.S.nb) 8 (λ h1=>?_) λ h1=>?_
 ·refine ah 15 [.ro 0,.ix ((k).toNat),.rorow 1 (t.S.bo+((k).toNat)) 6] [((t.S.bo*9+((k).toNat)*9)+6)=(t.S.bo+((k).toNat))*9+6/\(t.S.bo+((k).toNat))<t.S.bR,k=(((k).toNat:Nat):Int)/\(k).toNat<t.S.nb] λ _=>QW (.bool (decide ((t.S.bods.getD (t.S.bo+((k).toNat)) dB).mot.inv>0))) [] ⟨?_,rfl⟩;simp[movP,Setup.body, *]
 ·refine OU 15<|QW (.bool false) [] ⟨?_,rfl⟩;simp[movP,Setup.body, *]
theorem gA{t:Stp}{i:Int}{tb:Nat}{k:Nat}(hb:(tb,.lit (Stp.l t mb) 281 (0,0))∈F)(hS:SetIn F t.S)(hM:MemH mb M k T)(hT:∀x∈T,x∈F)(hi:0<=i/\i<t.S.nb) :aen 235 #[vP tb 0,vI i] F (.agg #[vI ((av t.S M i).px),vI ((av t.S M i).py),vI ((av t.S M i).vx),vI ((av t.S M i).vy),vI ((av t.S M i).inv)]):=by
 have hp:=hS.pl;have hn:=hS.nb;have hr:=hS.room;refine rI Tryz.func235 (mc hb (mc hS.blk mn)) [] []<|ae 12 [.ro 0,.ro 0,.ro 0,.ro 0,.ro 0,.ro 0,.ro 0,.ro 0,.ro 0,.ro 0,.ro 0,.ro 0,.ro 0,.ro 0,.ro 0,.ro 0] λ n1=>aal (dq i hS.toSetN) ?_;have Ye:=bT hS.toSetN i;refine OU 4<|aap [41] []<|aA [] [0,4,7,11,15,19,22,26,30,35,1,5,8,12,16,20,23,27,31,2,9,17,24,32,3,10,18,25,33,34,36,37,38,39] [.nw,.nw,.nw,.nw,.ro 0,.ro 0,.ro 0,.ro 0,.ro 0,.ix ((i).toNat),.rorow 1 (t.S.bo+((i).toNat)) 6] [((t.S.bo*9+((i).toNat)*9)+6)=(t.S.bo+((i).toNat))*9+6/\(t.S.bo+((i).toNat))<t.S.bR,i=(((i).toNat:Nat):Int)/\(i).toNat<t.S.nb,aI ((af t.S i)+3),aI ((af t.S i)+2),aI ((af t.S i)+1),aI ((af t.S i)+0)]<|aae [] 6 (λ X_=>(aD ((af t.S i)+0) hM (λ x hx=>aaB _ (aaB _ (hT x hx)))))<|aae [] 13 (λ X_=>(aD ((af t.S i)+1) hM (λ x hx=>aaB _ (aaB _ (hT x hx)))))<|aem [14]<|aae [] 21 (λ X_=>(aD ((af t.S i)+2) hM (λ x hx=>aaB _ (aaB _ (hT x hx)))))<|aae [] 28 (λ X_=>(aD ((af t.S i)+3) hM (λ x hx=>aaB _ (aaB _ (hT x hx)))))<|aem [29,40]<|SV 41 [] (ow 0 5)<|aaf<|ae 1 [] λ _=>aav (ow 0 5) [] [] ⟨rfl,rfl⟩
theorem fp(t:Stp)(ph:Int)(j:Int)(tb:Nat)(k:Nat)(hM:MemH mb M (k+3) T)(hS:SetIn F t.S) :aeo 231 #[vP tb 0,vI ph,vI j] (ap [(tb,.lit (Stp.l t mb) 281 (0,0))] [T]) F (λ u H'=>∃x,H'=ap [(tb,.lit (Stp.l t mb) 281 (0,0))] [x]/\(MemH mb (bd t ph j M) k x)):=by
 have hp:=hS.pl;have hn:=hS.nb;have hr:=hS.room;refine QS Tryz.func231 (mc hS.blk mn)<|SO 7 [.o 0]<|aam [] [0] (ar 1 ph hM) ?_;rintro _ T1 hM2;refine SO 8 [.o 0]<|aam [] [0] (ar 2 0 hM2) ?_;rintro _ T3 UI;refine SO 8 [.o 0]<|aam [] [0] (ar 3 j UI) ?_;rintro _ T5 VJ;refine ae 1 [] λ _=>?_;have e:(bd t ph j M)=(((M.set 1 ph).set 2 0).set 3 j):=by
  first|(simp only[bd];try rfl;done)|rfl
 exact aav [] [0] [0] (v:=.tuple #[]) ⟨T5,rfl,by rw[e];exact VJ.weak (by omega)⟩
theorem nq(t:Stp)(i:Int)(m:Mot)(tb:Nat)(k:Nat)(hM:MemH mb M (k+4) T)(hS:SetIn F t.S) :aeo 282 #[vP tb 0,vI i,.agg #[vI m.px,vI m.py,vI m.vx,vI m.vy,vI m.inv]] (ap [(tb,.lit (Stp.l t mb) 281 (0,0))] [T]) F (λ u H'=>∃x,H'=ap [(tb,.lit (Stp.l t mb) 281 (0,0))] [x]/\(MemH mb (dh t i m M) k x)):=by
 have hp:=hS.pl;have hn:=hS.nb;have hr:=hS.room;refine QS Tryz.func282 (mc hS.blk mn)<|ae 12 (ow 1 16) λ n1=>aal (dq i hS.toSetN) ?_;have Ye:=bT hS.toSetN i;refine OU 4<|aap [9] []<|aA [] [0,4,6,1,5,7,2,8,3] [.nw,.o 0,.o 1] [aI ((af t.S i)+0)]<|aag 9 (aah [] [] [0] (ar ((af t.S i)+0) m.px hM) ?_);rintro _ T3 UI;refine Q2 2<|aap [9] []<|aA [] [0,4,6,1,5,7,2,8,3] [.nw,.o 0,.o 1] [aI ((af t.S i)+1)]<|aag 9 (aah [] [] [0] (ar ((af t.S i)+1) m.py UI) ?_);rintro _ T5 VJ;refine Q2 2<|aap [9] []<|aA [] [0,4,6,1,5,7,2,8,3] [.nw,.o 0,.o 1] [aI ((af t.S i)+2)]<|aag 9 (aah [] [] [0] (ar ((af t.S i)+2) m.vx VJ) ?_);rintro _ T7 Xd;refine Q2 1<|aap [9] []<|aA [] [0,4,6,1,5,7,2,8,3] [.nw,.o 0,.o 1] [aI ((af t.S i)+3)]<|aag 9 (aah [] [] [0] (ar ((af t.S i)+3) m.vy Xd) ?_);rintro _ T9 W4;refine aaf ?_;have e:(dh t i m M)=((((M.set ((af t.S i)+0) m.px).set ((af t.S i)+1) m.py).set ((af t.S i)+2) m.vx).set ((af t.S i)+3) m.vy):=by
  first|(simp only[dh];try rfl;done)|rfl
 exact aav [] [1] [0] (v:=.tuple #[]) ⟨T9,rfl,by rw[e];exact W4.weak (by omega)⟩
theorem us(t:Stp)(c:Int)(s:Int)(pos:Int)(lo:Int)(hi:Int)(tb:Nat)(k:Nat)(hM:MemH mb M (k+2) T)(hS:SetIn F t.S) :aeo 285 #[vP tb 0,vI c,vI s,vI pos,vI lo,vI hi] (ap [(tb,.lit (Stp.l t mb) 281 (0,0))] [T]) F (λ u H'=>∃x,H'=ap [(tb,.lit (Stp.l t mb) 281 (0,0))] [x]/\(MemH mb (dL t c s pos lo hi M) k x)):=by
 have hp:=hS.pl;have hn:=hS.nb;have hr:=hS.room;refine QS Tryz.func285 (mc hS.blk mn)<|OU 5<|aal (dP pos lo hi)<|SO 11 [.o 0]<|aam [] [0] (ar c (aK pos lo hi) hM) ?_;rintro _ T1 hM2;refine OU 9<|aar (aK pos lo hi=pos) 26 (λ h3=>?_) λ h3=>?_
 ·refine ae 2 [] λ _=>?_;have e:(dL t c s pos lo hi M)=(M.set c (aK pos lo hi)):=by
   first|(simp only[dL,if_pos h3];try rfl;done)|rfl
  exact aav [] [0] [0] (v:=.tuple #[]) ⟨T1,rfl,by rw[e];exact hM2.weak (by omega)⟩
 ·refine OU 1<|aap [20] []<|ag [] [0,4,5,9,11,1,6,12,2,7,13,3,8,14,15,18,19] (aab 3)<|aae [] 10 (λ X_=>(aD s hM2 (aY 0)))<|aae [] 16 (λ X_=>(oN ((M.set c (aK pos lo hi)).get s) t.S.rest))<|aem [17]<|aag 20 (aah [] [] [0] (ar s (i64.wrap (0-(eZ ((M.set c (aK pos lo hi)).get s) t.S.rest))) hM2) ?_);rintro _ T4 Ys;refine aaf ?_;have e:(dL t c s pos lo hi M)=((M.set c (aK pos lo hi)).set s (i64.wrap (0-(eZ ((M.set c (aK pos lo hi)).get s) t.S.rest)))):=by
   first|(simp only[dL,if_neg h3];try rfl;done)|rfl
  exact aav [] [0] [0] (v:=.tuple #[]) ⟨T4,rfl,by rw[e];exact Ys.weak (by omega)⟩
theorem Ez(t:Stp) (tb:Nat) (k:Nat) (hM:MemH mb M (k+8) T) (hS:SetIn F t.S) (hI:InB F t.ib t.iR t.ni λ k=>t.ins.getD (t.io+k) dI) (hir:t.ni<=1000000):aeo 171 #[vP tb 0] (ap [(tb,.lit (Stp.l t mb) 281 (0,0))] [T]) F (λ u H'=>∃x,H'=ap [(tb,.lit (Stp.l t mb) 281 (0,0))] [x]/\(MemH mb (dV t M) k x)):=by
 have hp:=hS.pl;have hn:=hS.nb;have hr:=hS.room;refine QS Tryz.func171 (mc hS.blk mn)<|OU 1<|RN.cut (σ:=MemS×HL) (λ ⟨oR,Vf⟩=>⟨[(0,vP tb 0)],[(tb,.lit (Stp.l t mb) 281 (0,0))],[Vf],oR=cW t M/\MemH mb oR (k+6) Vf,0⟩) ?_ ?_
 ·intro mt1;refine SO 9 [.o 0]<|aaq (t.i=0) 8 (λ h2=>?_) λ h2=>?_
  ·refine OU 2<|aap [10] []<|ag [] [0,4,1,5,2,6,3,7,8,9] (aab 2)<|aag 10 (aah [] [] [0] (ar 13 t.version hM) ?_);rintro _ T3 UI;refine aaf<|SO 6 [.o 0]<|aam [] [0] (ar 11 0 UI) ?_;rintro _ T5 VJ;refine ae 1 [] λ _=>mt1 (((M.set 13 t.version).set 11 0),T5) [0] [0] ?_
   try dsimp only
   refine⟨?_,VJ.weak (by omega)⟩
   first|(simp only[cW,if_pos h2];try rfl;done)|rfl
  ·refine ae 2 [] λ _=>mt1 (M,T) [0] [0] ?_
   try dsimp only
   refine⟨?_,hM.weak (by omega)⟩
   first|(simp only[cW,if_neg h2];try rfl;done)|rfl
 ·rintro⟨oR,Vf⟩ ⟨Xz,Vs⟩;refine OU 3<|aap [] []<|ag [] [0,4,1,5,2,6,3,7] (ow 0 17)<|aae [] 8 (λ X_=>(lQ t.i hS.toSetN)) ?_;have hb7:=lP hS.toSetN t.i;refine aem [9]<|Q2 1<|RN.cut (σ:=MemS×HL) (λ ⟨YY,W5⟩=>⟨[(0,vP tb 0)],[(tb,.lit (Stp.l t mb) 281 (0,0))],[W5],YY=di t oR/\MemH mb YY (k+3) W5,0⟩) ?_ ?_
  ·intro Zd;refine OU 1<|aap [] []<|aem [0,1,2]<|RD.em (ai t.S t.i>=0) 36 (λ h9=>?_) λ h9=>?_
   ·refine ag [] [3,7,4,8,5,9,6,10,11,12,13] (aab 2)<|Q2 1<|aaq (t.i<(t.ni:Int)) 47 (λ No=>?_) λ No=>?_
    ·refine OU 2<|aap [11] []<|aA [] [0,4,1,5,2,6,3,7,8] [.o 0,.o 0,.ix ((t.i).toNat)] [t.i=(((t.i).toNat:Nat):Int)/\(t.i).toNat<t.ni]<|Bd 9 [vI (t.ins.getD (t.io+((t.i).toNat)) dI).dx,vI (t.ins.getD (t.io+((t.i).toNat)) dI).dy,vI (t.ins.getD (t.io+((t.i).toNat)) dI).act] (λ w_ h_=>hI w_ h_ ((t.i).toNat) (by omega)) ?_ [];refine aag 10 (aai [] [] λ n11=>?_);refine SV 11 [] (aab 3)<|Q2 2<|aap [8] []<|aA [] [0,4,6,1,5,7,2,3] [.nw,.o 0,.o 1] [aI ((ai t.S t.i)+0)]<|aag 8 (aah [] [] [0] (ar ((ai t.S t.i)+0) ((t.ins.getD (t.io+((t.i).toNat)) dI).dx) Vs) ?_);rintro _ T12 ZV;refine Q2 2<|aap [8] []<|aA [] [0,4,6,1,5,7,2,3] [.nw,.o 0,.o 1] [aI ((ai t.S t.i)+1)]<|aag 8 (aah [] [] [0] (ar ((ai t.S t.i)+1) ((t.ins.getD (t.io+((t.i).toNat)) dI).dy) ZV) ?_);rintro _ T14 ads;refine Q2 1<|aap [8] []<|aA [] [0,4,6,1,5,7,2,3] [.nw,.o 0,.o 1] [aI ((ai t.S t.i)+2)]<|aag 8 (aah [] [] [0] (ar ((ai t.S t.i)+2) ((t.ins.getD (t.io+((t.i).toNat)) dI).act) ads) ?_);rintro _ YX Yf;refine aaf<|Zd ((((oR.set ((ai t.S t.i)+0) ((t.ins.getD (t.io+((t.i).toNat)) dI).dx)).set ((ai t.S t.i)+1) ((t.ins.getD (t.io+((t.i).toNat)) dI).dy)).set ((ai t.S t.i)+2) ((t.ins.getD (t.io+((t.i).toNat)) dI).act)),YX) [1] [0] ?_
     try dsimp only
     refine⟨?_,Yf.weak (by omega)⟩
     first|(simp only[di,Stp.inp,if_pos h9,if_pos No];try rfl;done)|rfl
    ·refine ae 2 [] λ _=>Zd (oR,Vf) [0] [0] ?_
     try dsimp only
     refine⟨?_,Vs.weak (by omega)⟩
     first|(simp only[di,Stp.inp,if_pos h9,if_neg No];try rfl;done)|rfl
   ·refine aem [3,7,4,8,5,9,6,10,11,12,13]<|aaf<|ae 3 [] λ _=>Zd (oR,Vf) [0] [0] ?_
    try dsimp only
    refine⟨?_,Vs.weak (by omega)⟩
    first|(simp only[di,Stp.inp,if_neg h9];try rfl;done)|rfl
  ·rintro⟨YY,W5⟩ ⟨Z0,ZR⟩;refine OU 2<|aap [] []<|ag [] [0,5,1,6,2,7,3,8,4,9,10] (aab 2)<|Q2 1<|aaq (i64.wrap (t.i+1)<t.S.players) 95 (λ Xf=>?_) λ Xf=>?_
   ·refine OU 1<|aap [11] []<|ag [] [0,4,1,5,2,6,3,7,8,9,10] (aab 2)<|aag 11 (aah [] [] [0] (ar 2 (i64.wrap (t.i+1)) ZR) ?_);rintro _ T19 YR;refine aaf ?_;have e:(dV t M)=(YY.set 2 (i64.wrap (t.i+1))):=by
     first|(simp only[dV,ga,<- Xz,<- Z0,if_pos Xf];try rfl;done)|rfl
    exact aav [] [0] [0] (v:=.tuple #[]) ⟨T19,rfl,by rw[e];exact YR.weak (by omega)⟩
   ·refine OU 3<|aam [0] [0] (fp t 1 0 tb k ZR hS.up ) ?_;rintro _ T21 adq;refine ae 1 [] λ _=>?_;have e:(dV t M)=(bd t 1 0 YY):=by
     first|(simp only[dV,ga,<- Xz,<- Z0,if_neg Xf];try rfl;done)|rfl
    exact aav [] [0] [0] (v:=.tuple #[]) ⟨T21,rfl,by rw[e];exact adq.weak (by omega)⟩
def aan:=@RN.cut
end
end Go.Proofs.YtogafelgppjklaaGreatDoor
