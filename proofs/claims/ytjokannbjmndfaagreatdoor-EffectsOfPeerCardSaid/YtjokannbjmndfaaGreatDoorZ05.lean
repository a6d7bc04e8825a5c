import Derived.Test.YtjokannbjmndfaaGreatDoorZ04
set_option linter.all false
set_option maxHeartbeats 4000000
set_option maxRecDepth 100000
namespace Go.Proofs.YtjokannbjmndfaaGreatDoor
open Go.RowKit
variable {A:HL} {L:FL} {Ts:List HL} {i:Nat} {k:List KI} {ops:Array Oper} {σ:Type} (n:Nat) (ix is:List Nat) (hints:List Hint) (Ob:List Prop)
def nU(s:Cfg):Array Oper:=match s.c with
 | .drw ops _=>ops
 |_=>#[]
def gK(s:Cfg):List Bool:=match s.c with
 | .drw _ l=>l
 |_=>[]
def eK:List Bool->Nat
 | []=>0
 |true::l=>eK l
 |false::l=>eK l+1
theorem Ej:eK (List.replicate n false)=n:=by
 induction n with
 |zero=>rfl
 |succ n ih=>rw[List.replicate_succ,eK,ih]
def QL(s:Cfg):Cfg:=match s with
 | ⟨.code (.region _ ops true),k,L,A,Ts⟩=>⟨.drw ops (List.replicate ops.toList.length false),k,L,A,Ts⟩
 |s=>s
def NQ(s:Cfg):Bool:=match s.c with
 | .code (.region _ ops true)=>Region.noSelect ops && qJ ops
 |_=>false
structure RD(r:Option Nat)(P:Program)(N:Nat)(D:List Deferred)(F:HL)(w0:World)(R:HL)(hards:List Nat)(Rd:HL)(s:Cfg)(Q:Exit->Act->World->Prop):Prop where
 h:(∀y∈R,y∈F)->Region.noSelect (nU s)=true->TD P N D F w0 (nU s) hards Rd (eK (gK s)) (gK s) s.L (ap s.A s.Ts) (NoPanic (kZ r P s.k Q))
section
variable {r:Option Nat} {P:Program} {N:Nat} {D:List Deferred} {F:HL} {w0:World} {R:HL} {s:Cfg} {Q:Exit->Act->World->Prop} {hards:List Nat} {Rd:HL}
def AR(ix:List Nat)(s:Cfg):HL:=ix.filterMap (s.A[·]?)
theorem RN.draw(hards ix:List Nat)(hk:RD r P N D F w0 R hards (AR ix s) (QL s) Q)(hm:P.follows .mixedOrders=true:=by kernel_rfl)(hc:NQ s=true:=by kernel_rfl):RN r P N D F w0 R s Q:=by
 refine⟨λ hR=>?_⟩;obtain⟨c,k,L,A,Ts⟩:=s;unfold NQ at hc;split at hc
 case h_2=>cases hc
 rename_i id ops e;simp only at e;subst e;rw[abc] at hc;have h1:=hk.h hR hc.1;exact TR.draw hards _ hm hc.1 hc.2 (by
  simp only[QL,gK,nU,Ej] at h1;have e:ops.toList.length=ops.size:=by simp
  rw[e] at h1 ⊢;exact h1)
def LD(s:Cfg):Cfg:=match s with
 | ⟨.drw _ _,k,L,A,Ts⟩=>⟨.ex .normal,k,L,A,Ts⟩
 |s=>s
def AU(s:Cfg):Bool:=match s.c with
 | .drw ops l=>(jB ops.toList l).isEmpty
 |_=>false
theorem RD.fin(hk:RN r P N D F w0 R (LD s) Q)(hc:AU s=true:=by kernel_rfl):RD r P N D F w0 R hards Rd s Q:=by
 refine⟨λ hR _=>?_⟩;obtain⟨c,k,L,A,Ts⟩:=s;unfold AU at hc;split at hc
 case h_2=>cases hc
 rename_i ops l e;simp only at e;subst e;exact TD.fin (List.isEmpty_iff.1 hc) (QD (λ a w h1 h2 h3=>hk.h hR a w h1 h2 h3))
def G4(P:Program)(N:Nat)(R:HL)(hards:List Nat)(Rd:HL)(is:List Nat)(hints:List Hint)(s:Cfg):Option (List Bool×FL×SS):=match s.c with
 | .drw ops l=>tz P 0 N ops.toList hards Rd is l s.L ⟨ap s.A s.Ts,R,hints,0,[],[],false⟩
 |_=>none
def Su(P:Program)(N:Nat)(R:HL)(hards:List Nat)(Rd:HL)(is:List Nat)(hints:List Hint)(s:Cfg):Cfg:=match G4 P N R hards Rd is hints s with
 |some (b,L',_)=>match s with
  | ⟨.drw ops _,k,_,A,Ts⟩=>⟨.drw ops b,k,L',A,Ts⟩
  |s=>s
 |none=>s
def Sv(x:Option (List Bool×FL×SS)):List Nat:=match x with
 |some (_,_,ss)=>ss.eq.map (·.2)
 |none=>[]
def OH(n:Nat)(x:Option (List Bool×FL×SS)):Option (Nat×List Nat×List Prop):=match x with
 |some (b,_,ss)=>match ss.hints with
  | []=>some (eK b+n,ss.eq.map (·.1),ss.ob)
  |_=>none
 |none=>none
theorem G5{ix is:List Nat}{hints:List Hint}{Ob:List Prop}(iS:AllP Ob)(hk:RD r P N D F w0 R hards Rd (Su P N R hards Rd is hints s) Q)
  (h:OH is.length (G4 P N R hards Rd is hints s)=some (eK (gK s),Sv (G4 P N R hards Rd is hints s),Ob):=by kernel_rfl) (hix:AR ix s=Rd:=by kernel_rfl):RD r P N D F w0 R hards Rd s Q:=by
 refine⟨λ hR hs=>?_⟩;obtain⟨c,k,L,A,Ts⟩:=s;cases c with
 |drw ops l=>
  simp only[nU,gK] at hs ⊢;unfold Su at hk;generalize hx:G4 P N R hards Rd is hints ⟨.drw ops l,k,L,A,Ts⟩=x at h hk;unfold OH at h;split at h
  case h_2=>cases h
  rename_i b L' ss;split at h
  case h_2=>cases h
  simp only[Sv,gK,de,df] at h;obtain⟨e1,e2,e3⟩:=h;rw[<- e1];refine jn (Rr:=R) hs (λ x hx=>aaB _ (rt ix hix x hx)) hR is l b L L' _ ss hx rfl rfl rfl (fP e2 rfl) (by rw[e3];exact AllP.mem iS)<|hk.h hR hs
 |code c=>simp[G4,OH] at h
 |ops ops i=>simp[G4,OH] at h
 |ex e=>simp[G4,OH] at h
theorem af(hk:RD r P N D F w0 R hards Rd (Su P N R hards Rd is hints s) Q)
 (h:OH is.length (G4 P N R hards Rd is hints s)=some (eK (gK s),Sv (G4 P N R hards Rd is hints s),[]):=by kernel_rfl) (hix:AR ix s=Rd:=by kernel_rfl):RD r P N D F w0 R hards Rd s Q:=G5 (ix:=ix) (is:=is) (hints:=hints) (Ob:=[]) trivial hk h hix
theorem afZ (hk:RD r P N D F w0 R hards Rd (Su P N R hards Rd is [] s) Q) (h:OH is.length (G4 P N R hards Rd is [] s)=some (eK (gK s),Sv (G4 P N R hards Rd is [] s),[]):=by kernel_rfl) (hix:AR [] s=Rd:=by kernel_rfl):RD r P N D F w0 R hards Rd s Q:=af [] is [] hk h hix
theorem aH(hk:RD r P N D F w0 R hards Rd (Su P N R hards Rd is hints s) Q)(iS:AllP Ob:=by simp only[AllP,aX,and_true,true_and] <;> (repeat' with_reducible refine And.intro ?_ ?_) <;> omega)
 (h:OH is.length (G4 P N R hards Rd is hints s)=some (eK (gK s),Sv (G4 P N R hards Rd is hints s),Ob):=by kernel_rfl) (hix:AR ix s=Rd:=by kernel_rfl):RD r P N D F w0 R hards Rd s Q:=G5 iS hk h hix
theorem NR{b v:Bool}{t:Nat}(hb:b=v)(hk:RD r P N D F w0 R hards Rd (qz t v s) Q)(h:s.L.lookup t=some (.bool b):=by kernel_rfl):RD r P N D F w0 R hards Rd s Q:=by
 subst hb;exact⟨λ hR hs Q_ a hF=>hk.h hR hs Q_ a (hF.fix h)⟩
theorem RD.em(p:Prop)[Decidable p](t:Nat)(h1:p->RD r P N D F w0 R hards Rd (qz t true s) Q)(h2:¬ p->RD r P N D F w0 R hards Rd (qz t false s) Q)(h:s.L.lookup t=some (.bool (decide p)):=by kernel_rfl):RD r P N D F w0 R hards Rd s Q:=by
 by_cases hp:p
 ·exact NR (abw hp) (h1 hp) h
 ·exact NR (abv hp) (h2 hp) h
theorem RD.ro{R':HL}(h:(∀y∈R,y∈F)->∀y∈R',y∈F)(hk:RD r P N D F w0 R' hards Rd s Q):RD r P N D F w0 R hards Rd s Q:=⟨λ hR=>hk.h (h hR)⟩
def OI(P:Program)(N:Nat)(R:HL)(i:Nat)(s:Cfg):Option (Option Tmp×FuncId×Array Value×List Nat×List Prop):=match s.c with
 | .drw ops _=>match ops.toList[i]? with
  |none=>none
  |some o=>match jl ops.toList o s.L ⟨ap s.A s.Ts,R,[],0,[],[],false⟩ with
   |some (true,ss)=>match iP o.op s.L with
    |true=>match ev P 0 o (cN s.L) ss with
     |some (.enter f args,s')=>match s'.hints with
      | []=>some (o.dst,f,args,s'.eq.map (·.1),s'.ob)
      |_=>none
     |_=>none
    |false=>none
   |_=>none
 |_=>none
def QM(N:Nat)(hards:List Nat)(i:Nat)(s:Cfg)(x:Option (Option Tmp×FuncId×Array Value×List Nat×List Prop)):Option (FuncId×Array Value×List Nat×List Prop×Nat):=match x with
 |some (dst,f,args,E,Ob)=>match (cD N dst undef s.L).isSome,Qt (nU s).toList hards (gK s) i with
  |true,true=>some (f,args,E,Ob,eK (aS (gK s) i true)+1)
  |_,_=>none
 |none=>none
def mH(N i:Nat)(v:Value)(s:Cfg):Cfg:=match s with
 | ⟨.drw ops l,k,L,A,Ts⟩=>match ops.toList[i]? with
  |some o=>match cD N o.dst v L with
   |some L'=>⟨.drw ops (aS l i true),k,L',A,Ts⟩
   |none=>⟨.drw ops l,k,L,A,Ts⟩
  |none=>⟨.drw ops l,k,L,A,Ts⟩
 |s=>s
theorem RD.cp(ix:List Nat)(i:Nat){f:FuncId}{args:Array Value}{v:Value}(hc:∀X,Sp P f args [] (X++(ap s.A s.Ts++F)) (λ u H'=>u=v/\H'=[]))(hk:RD r P N D F w0 R hards Rd (mH N i v s) Q)
  (h:QM N hards i s (OI P N R i s)=some (f,args,[],[],eK (gK s)):=by kernel_rfl) (hix:AR ix s=Rd:=by kernel_rfl):RD r P N D F w0 R hards Rd s Q:=by
 refine⟨λ hR hs=>?_⟩;obtain⟨c,k,L,A,Ts⟩:=s;cases c with
 |drw ops l=>
  simp only[nU,gK] at hs ⊢ h;generalize hx:OI P N R i ⟨.drw ops l,k,L,A,Ts⟩=x at h;unfold QM at h;split at h
  case h_2=>cases h
  rename_i dst f' q_ E Ob;split at h
  case h_2=>cases h
  rename_i UT iF;simp only[nU,gK,de,df] at h iF;obtain⟨e1,e2,e3,e4,e5⟩:=h;subst e1;subst e2;subst e3;subst e4;obtain⟨L',hl⟩:=cr UT v;have Xv:=hx;unfold OI at Xv;simp only at Xv;have ho:∃o,ops.toList[i]?=some o/\o.dst=dst:=by
   split at Xv
   ·cases Xv
   rename_i o ho;split at Xv
   case h_2=>cases Xv
   split at Xv
   case h_2=>cases Xv
   split at Xv
   case h_2=>cases Xv
   split at Xv
   case h_2=>cases Xv
   simp only[de,df] at Xv;exact⟨o,ho,Xv.1⟩
  obtain⟨o,ho,hd⟩:=ho;have Of:mH N i v ⟨.drw ops l,k,L,A,Ts⟩=⟨.drw ops (aS l i true),k,L',A,Ts⟩:=by
   unfold mH;simp only[ho,hd,hl]
  rw[Of] at hk;subst hd;show TD P N D F w0 ops hards Rd (eK l) l L (ap A Ts) (NoPanic (kZ r P k Q));rw[<- e5];refine CI (v:=v) (L1:=L') hs (by unfold Qt at iF;unfold QC;simp only[abc] at iF ⊢;exact iF.1) (by simpa using ho) (λ a hF=>hF.put hl) (λ a hF=>?_) (λ x hx=>aaB _ (rt ix hix x hx)) (.inl iF) (hk.h hR hs);unfold OI at hx;simp only[ho] at hx;split at hx
  case h_2=>cases hx
  rename_i ss WW;split at hx
  case h_2=>cases hx
  rename_i ahB;split at hx
  case h_2=>cases hx
  rename_i f2 al1 s2 he;split at hx
  case h_2=>cases hx
  simp only[de,df] at hx;obtain⟨-,e2,e3,e4,e5⟩:=hx;subst e2;subst e3;obtain⟨a1,a2,a3,a4⟩:=bH WW;obtain⟨d1,d2,d3,d4⟩:=dk he;have UU:∀p∈s2.ob,p:=by rw[e5];intro p hp;cases hp
  have ab3:∀p∈s2.eq,p.1=p.2:=by
   have:s2.eq=[]:=by simpa using e4
   rw[this];intro p hp;cases hp
  obtain⟨c1,c2,c3⟩:=bZ WW hF (λ p hp=>UU p (d2 p hp));refine .inl ⟨c1,λ X w aT hB=>?_⟩;have UL:Rel (ap A Ts++(X++F)) w:=aT.perm (by
   rw[<- aaF,<- aaF];exact aa5 F aa4)
  obtain⟨w1,r1,r2,r3,r4,r5⟩:=gI (w:=w) (F:=X++F) he ab3 UU (by rw[c2];exact UL) (by rw[a3];exact λ y hy=>aaz _ (hR y hy)) (λ e=>by rw[a4] at e;cases e);obtain rfl:=r5 a4;unfold b9;rw[hF.exec ahB,r1];refine(hc X w1 (by simpa using aT)).mono ?_;rintro e w2 ⟨u,H',rfl,⟨rfl,rfl⟩,h3,h4⟩;exact⟨rfl,by simpa using h3,hB.trans h4⟩
 |code c=>simp[OI,QM] at h
 |ops ops i=>simp[OI,QM] at h
 |ex e=>simp[OI,QM] at h
structure RDO(r:Option Nat)(P:Program)(N:Nat)(D:List Deferred)(F:HL)(w0:World)(R:HL)(hards:List Nat)(Rd:HL)(i:Nat)(s:Cfg)(Q:Exit->Act->World->Prop):Prop where
 h:(∀y∈R,y∈F)->Region.noSelect (nU s)=true->∀a,Fm N D s.L a->Closed (nU s) ⟨aS (gK s) i true⟩->OPJ P (nU s) F w0 hards Rd i a (ap s.A s.Ts) (JJ P (nU s) (NoPanic (kZ r P s.k Q)) F w0 hards Rd (eK (aS (gK s) i true)) ⟨aS (gK s) i true⟩)
def OJ(s:Cfg):List Nat:=jB (nU s).toList (gK s)
def QN(i:Nat)(s:Cfg):Nat:=eK (aS (gK s) i true)+1
theorem RD.one(i:Nat)(hk:RDO r P N D F w0 R hards Rd i s Q)(h:(OJ s,eK (gK s))=([i],QN i s):=by kernel_rfl):RD r P N D F w0 R hards Rd s Q:=by
 refine⟨λ hR hs=>?_⟩;simp only[df] at h;exact TD.one i h.1 _ h.2 λ a hF Q_=>hk.h hR hs a hF Q_
theorem fq(i j:Nat)(h1:RDO r P N D F w0 R hards Rd i s Q)(h2:RDO r P N D F w0 R hards Rd j s Q)(h:(OJ s,eK (gK s),eK (gK s))=([i,j],QN i s,QN j s):=by kernel_rfl):RD r P N D F w0 R hards Rd s Q:=by
 refine⟨λ hR hs=>?_⟩;simp only[df] at h;have e:eK (aS (gK s) i true)=eK (aS (gK s) j true):=by
  have:=h.2.1.symm.trans h.2.2;unfold QN at this;omega
 exact OE h.1 h.2.1 (λ a hF Q_=>h1.h hR hs a hF Q_) (λ a hF Q_=>by have:=h2.h hR hs a hF Q_;rw[<- e] at this;exact this)
def AV(P:Program)(n0 N:Nat)(R:HL)(i:Nat)(hints:List Hint)(s:Cfg):Option (Fo×FL×SS):=match s.c with
 | .drw ops l=>match ops.toList[i]? with
  |none=>none
  |some o=>match jl ops.toList o s.L ⟨s.A,R,hints,0,[],[],true⟩ with
   |some (true,ss)=>match iP o.op s.L with
    |true=>match ev P n0 o (cN s.L) ss with
     |some (.value v,s')=>match cD N o.dst v s.L with
      |some L'=>some (.drw ops (aS l i true),L',s')
      |none=>none
     |some (.skip,s')=>match cD N o.dst undef s.L with
      |some L'=>some (.drw ops (aS l i true),L',s')
      |none=>none
     |_=>none
    |false=>none
   |_=>none
 |_=>none
theorem G6{n0:Nat}{hints:List Hint}{l:List Bool}{c:Fo}{L':FL}{s':SS}(h:AV P n0 N R i hints ⟨.drw ops l,k,L,A,Ts⟩=some (c,L',s')) :
  ∃o ss u x,ops[i]?=some o/\jl ops.toList o L ⟨A,R,hints,0,[],[],true⟩=some (true,ss)/\iP o.op L=true/\ev P n0 o (cN L) ss=some (x,s')/\(x=.value u\/(x=.skip/\u=undef))/\cD N o.dst u L=some L'/\c=.drw ops (aS l i true):=by
 unfold AV at h;simp only at h;split at h
 ·cases h
 rename_i o ho;split at h
 case h_2=>cases h
 rename_i ss hw;split at h
 case h_2=>cases h
 rename_i iF;split at h
 ·rename_i v s2 he;split at h
  case h_2=>cases h
  rename_i hp;simp only[de,df] at h;obtain⟨e1,e2,e3⟩:=h;subst e2;subst e3;exact⟨o,ss,v,_,by simpa using ho,hw,iF,he,.inl rfl,hp,e1.symm⟩
 ·rename_i s2 he;split at h
  case h_2=>cases h
  rename_i hp;simp only[de,df] at h;obtain⟨e1,e2,e3⟩:=h;subst e2;subst e3;exact⟨o,ss,undef,_,by simpa using ho,hw,iF,he,.inr ⟨rfl,rfl⟩,hp,e1.symm⟩
 ·cases h
def Qu(P:Program)(n0 N:Nat)(R:HL)(i:Nat)(hints:List Hint)(s:Cfg):Cfg:=match AV P n0 N R i hints s with
 |some (c,L',ss)=>match s with
  | ⟨_,k,_,_,Ts⟩=>⟨c,k,L',ss.h,Ts⟩
 |none=>s
def QO(x:Option (Fo×FL×SS)):List Nat:=match x with
 |some (_,_,ss)=>ss.eq.map (·.2)
 |none=>[]
def Sw(YV:Bool)(ix:List Nat)(A A':HL):HL:=match YV with
 |true=>ix.filterMap (A'[·]?)
 |false=>A'.drop (A'.length-A.length)
def NS(YV:Bool)(ix:List Nat)(A:HL)(x:Option (Fo×FL×SS)):Option (List Nat×List Prop×HL):=match x with
 |some (_,_,ss)=>match ss.hints with
  | []=>some (ss.eq.map (·.1),ss.ob,Sw YV ix A ss.h)
  |_=>none
 |none=>none
theorem CK(Ob:Nat->List Prop)(iS:∀n0,AllP (Ob n0))(hk:∀n0,RD r P N D F w0 R hards Rd (Qu P n0 N R i hints s) Q)
  (h:∀n0,NS (hards.contains i) ix s.A (AV P n0 N R i hints s)=some (QO (AV P n0 N R i hints s),Ob n0,cond (hards.contains i) Rd s.A):=by intro n0;kernel_rfl):RDO r P N D F w0 R hards Rd i s Q:=by
 refine⟨λ hR hs a hF Q_=>?_⟩;obtain⟨c,k,L,A,Ts⟩:=s;cases c with
 |code c=>simp[AV,NS] at h
 |ops ops i=>simp[AV,NS] at h
 |ex e=>simp[AV,NS] at h
 |drw ops l=>
  simp only[nU,gK] at hs Q_ h hF ⊢;have key:∀n0,∃o ss s' u x L',ops[i]?=some o/\jl ops.toList o L ⟨A,R,hints,0,[],[],true⟩=some (true,ss)/\iP o.op L=true/\ev P n0 o (cN L) ss=some (x,s')/\(x=.value u\/(x=.skip/\u=undef))/\cD N o.dst u L=some L'/\
    Qu P n0 N R i hints ⟨.drw ops l,k,L,A,Ts⟩=⟨.drw ops (aS l i true),k,L',s'.h,Ts⟩/\(∀p∈s'.eq,p.1=p.2)/\s'.ob=Ob n0/\Sw (hards.contains i) ix A s'.h=cond (hards.contains i) Rd A:=by
   intro n0;have h1:=h n0;generalize hx:AV P n0 N R i hints ⟨.drw ops l,k,L,A,Ts⟩=x at h1;unfold NS at h1;split at h1
   case h_2=>cases h1
   rename_i c L' s';split at h1
   case h_2=>cases h1
   simp only[QO,de,df] at h1;obtain⟨e1,e2,e3⟩:=h1;obtain⟨o,ss,u,x,q1,q2,q3,q4,q5,q6,q7⟩:=G6 hx;refine⟨o,ss,s',u,x,L',q1,q2,q3,q4,q5,q6,?_,fP e1 rfl,e2,e3⟩;unfold Qu;rw[hx];subst q7;rfl
  unfold OPJ;obtain⟨o,ss,s',u,x,L',q1,q2,q3,q4,q5,q6,q7,q8,q9,I_⟩:=key 0;rw[q1];simp only;obtain⟨d1,d2,d3,d4⟩:=dk q4;rw[if_pos (bZ q2 hF (λ p hp=>AllP.mem (iS 0) p (by rw[<- q9];exact d2 p hp))).1];intro w aT hB;obtain⟨o',ss,s',u,x,L',q1',q2,q3,q4,q5,q6,q7,q8,q9,I_⟩:=key w.heap.size;obtain rfl:o=o':=ab8 (q1.symm.trans q1');obtain⟨a1,a2,a3,a4⟩:=bH q2;obtain⟨d1,d2,d3,d4⟩:=dk q4;have UU:∀p∈s'.ob,p:=by rw[q9];exact AllP.mem (iS _)
  obtain⟨c1,c2,c3⟩:=bZ q2 hF (λ p hp=>UU p (d2 p hp));rw[eo] at aT;obtain⟨w1,r1,r2,r3,r4,r5⟩:=gI (w:=w) (F:=Ts.flatten++F) q4 q8 UU (by rw[c2];exact aT) (by rw[a3];exact λ y hy=>aaz _ (hR y hy)) (λ _=>by rw[c3];rfl);have hkk:=(hk w.heap.size).h hR;rw[q7] at hkk;have fin:∃H',((i∉hards->∃X,H'=X++ap A Ts)/\(i∈hards->∀x∈Rd,x∈H'))/\JJ P ops (NoPanic (kZ r P k Q)) F w0 hards Rd (eK (aS l i true)) ⟨aS l i true⟩ (a.put o.dst u) H'/\Rel (H'++F) w1/\Below 0 w0 w1:=by
   refine⟨ap s'.h Ts,⟨λ hi=>?_,λ hi=>?_⟩,hkk hs Q_ _ (hF.put q6),by rw[eo];exact r2,hB.trans r3⟩
   ·have hc:hards.contains i=false:=by
     cases hq:hards.contains i with
     |false=>rfl
     |true=>exact absurd (abI.1 hq) hi
    rw[hc] at I_;simp only[Sw,cond_false] at I_;refine⟨s'.h.take (s'.h.length-A.length),?_⟩;show s'.h++Ts.flatten=_++(A++Ts.flatten);rw[<- aaF];congr 1
    conv=>lhs;rw[<- abt (s'.h.length-A.length) s'.h,I_]
   ·have hc:hards.contains i=true:=abI.2 hi;rw[hc] at I_;simp only[Sw,cond_true] at I_;exact λ x hx=>aaB _ (rt ix I_ x hx)
  unfold b9;rw[hF.exec q3,r1];rcases q5 with rfl|⟨rfl,rfl⟩
  ·exact fin
  ·exact fin
theorem RDO.ev(ix:List Nat){i:Nat}(hints:List Hint)(hk:∀n0,RD r P N D F w0 R hards Rd (Qu P n0 N R i hints s) Q)
 (h:∀n0,NS (hards.contains i) ix s.A (AV P n0 N R i hints s)=some (QO (AV P n0 N R i hints s),[],cond (hards.contains i) Rd s.A):=by intro n0;kernel_rfl):RDO r P N D F w0 R hards Rd i s Q:=CK ix hints (λ _=>[]) (λ _=>trivial) hk h
theorem fR(hk:∀n0,RD r P N D F w0 R hards Rd (Qu P n0 N R i hints s) Q)(iS:AllP Ob:=by simp only[AllP,aX,and_true,true_and] <;> (repeat' with_reducible refine And.intro ?_ ?_) <;> omega)
 (h:∀n0,NS (hards.contains i) ix s.A (AV P n0 N R i hints s)=some (QO (AV P n0 N R i hints s),Ob,cond (hards.contains i) Rd s.A):=by intro n0;kernel_rfl):RDO r P N D F w0 R hards Rd i s Q:=CK ix hints (λ _=>Ob) (λ _=>iS) hk h
def Qv(P:Program)(n0 N:Nat)(R:HL)(i:Nat)(s:Cfg):Option (Option Tmp×FuncId×Array Value×HL×List Nat×List Nat×List Prop):=match s.c with
 | .drw ops _=>nO P n0 N ops.toList i s.L (ap s.A s.Ts) R []
 |_=>none
theorem iZ{l:List Bool}{o:Oper}(ho:ops[i]?=some o)(G:Value->σ->Prop)(Ho:σ->HL)(hl:(cD N o.dst undef L).isSome=true)
  (hg:∀a,Fm N D L a->Region.wanted o (yielded ops a.tmps)=true/\∀w,Rel (ap A Ts++F) w->Below 0 w0 w->b9 P o a w λ u w'=>∃x,G u x/\Rel (Ho x++F) w'/\Below 0 w w')
  (adV:∀x,(i∉hards->∃X,Ho x=X++ap A Ts)/\(i∈hards->∀y∈Rd,y∈Ho x))
  (hk:∀v x,G v x->∀L',cD N o.dst v L=some L'->Region.noSelect ops=true->TD P N D F w0 ops hards Rd (eK (aS l i true)) (aS l i true) L' (Ho x) (NoPanic (kZ r P k Q))):RDO r P N D F w0 R hards Rd i ⟨.drw ops l,k,L,A,Ts⟩ Q:=by
 refine⟨λ hR hs a hF Q_=>?_⟩;simp only[nU,gK] at hs Q_ hF ⊢;unfold OPJ;rw[ho];simp only;obtain⟨h1,h2⟩:=hg a hF;rw[if_pos h1];intro w aT hB;refine eT (h2 w aT hB) ?_;rintro u w' ⟨x,hx,IF,VY⟩;obtain⟨L',Xi⟩:=cr hl u;exact⟨Ho x,adV x,hk u x hx L' Xi hs Q_ _ (hF.put Xi),IF,hB.trans VY⟩
def kQ(YV:Bool)(ix ip jp:List Nat)(s:Cfg)(Rd:HL):HL:=match YV with
 |true=>ix.filterMap ((eH ip s)[·]?)
 |false=>match ip,jp with
  | [],[]=>Rd
  |_,_=>(0,.obj (.deferred none))::Rd
theorem CL{α:Type}(l:List α):(oth [] l.length).filterMap (l[·]?)=l:=by
 have:oth [] l.length=List.range l.length:=by simp[oth]
 rw[this];exact G2 l
theorem xD{H H':HL}{fuel:Nat}{l:List Bool}(hp:H'.Perm H)(h:TD P N D F w0 ops hards Rd fuel l L H' Q):TD P N D F w0 ops hards Rd fuel l L H Q:=λ Q_ a hF=>JJ.perm _ _ _ _ _ hp (h Q_ a hF)
theorem RDO.ct{τ:Type}{i:Nat}(ix ip jp:List Nat){f:FuncId}{args:Array Value}{Hp:HL}{Tp:List HL}{Hq:τ->HL}{Tq:τ->List HL}{Rv:Value->τ->Prop}
  (hc:Sp P f args (ap Hp Tp) (ap (eH ip s) (fA jp s)++F) (λ v H'=>∃x,H'=ap (Hq x) (Tq x)/\Rv v x)) (hk:∀v x,Rv v x->RD r P N D F w0 R hards Rd (m6 (λ A=>Hq x++(oth ip A.length).filterMap (A[·]?)) (λ Ts=>Tq x++(oth jp Ts.length).filterMap (Ts[·]?)) (mH N i v s)) Q)
  (h:∀n0,jo N s (Qv P n0 N R i s)=some (f,args,[],[],ap s.A s.Ts):=by intro n0;kernel_rfl)
  (hp:aJ ip jp s=true:=by kernel_rfl) (hH:picks ip jp s=(Hp,Tp):=by kernel_rfl) (hx:kQ (hards.contains i) ix ip jp s Rd=Rd:=by kernel_rfl):RDO r P N D F w0 R hards Rd i s Q:=by
 obtain⟨c,k,L,A,Ts⟩:=s;cases c with
 |code c=>simp[Qv,jo] at h
 |ops ops i=>simp[Qv,jo] at h
 |ex e=>simp[Qv,jo] at h
 |drw ops l=>
  refine⟨λ hR=>?_⟩;unfold aJ at hp;unfold picks at hH;simp only[Qv,abc,df] at h hp hH;obtain⟨e1,e2⟩:=hH;have key:∀n0,∃dst,nO P n0 N ops.toList i L (ap A Ts) R []=some (dst,f,args,ap A Ts,[],[],[])/\(cD N dst undef L).isSome=true:=by
   intro n0;have h1:=h n0;generalize hx:nO P n0 N ops.toList i L (ap A Ts) R []=x at h1;unfold jo at h1;split at h1
   case h_2=>cases h1
   rename_i dst f' q_ H1 E E' Ob';split at h1
   case h_2=>cases h1
   rename_i UT;simp only[de,df] at h1;obtain⟨e1,e2,e3,e4,e5⟩:=h1;subst e1;subst e2;subst e3;subst e4;subst e5;obtain⟨o,s1,s',_,_,_,_,_,_,g1,g2,_⟩:=iT hx;have:s'.eq=[]:=by simpa using g1
   rw[this] at g2;simp only[List.map_nil] at g2;subst g2;exact⟨dst,rfl,UT⟩
  obtain⟨dst,hce,UT⟩:=key 0;obtain⟨o,s1,s',ho,_,_,_,hd,_⟩:=iT hce;subst hd;have IS:∀n0,nO P n0 N ops.toList i L (ap A Ts) R []=some (o.dst,f,args,ap A Ts,[],[],[]):=by
   intro n0;obtain⟨apk,h1,_⟩:=key n0;obtain⟨o',_,_,ID,_,_,_,Ws,_⟩:=iT h1;obtain rfl:o=o':=ab8 (ho.symm.trans ID);rw[Ws];exact h1
  have o_:(ap Hp Tp++ap (eH ip ⟨.drw ops l,k,L,A,Ts⟩) (fA jp ⟨.drw ops l,k,L,A,Ts⟩)).Perm (ap A Ts):=by
   have h1:=gC A Ts hp.1 hp.2;rw[e1,e2] at h1;exact h1
  have Of:∀v L',cD N o.dst v L=some L'->mH N i v ⟨.drw ops l,k,L,A,Ts⟩=⟨.drw ops (aS l i true),k,L',A,Ts⟩:=by
   intro v L' hl;unfold mH;simp only[ho,hl]
  have hTD:∀v x,Rv v x->∀L',cD N o.dst v L=some L'->Region.noSelect ops=true->TD P N D F w0 ops hards Rd (eK (aS l i true)) (aS l i true) L' (ap (Hq x++(oth ip A.length).filterMap (A[·]?)) (Tq x++(oth jp Ts.length).filterMap (Ts[·]?))) (NoPanic (kZ r P k Q)):=by
   intro v x hv L' hl hs;have h1:=(hk v x hv).h hR;rw[Of v L' hl] at h1;exact h1 hs
  have YJ:∀a,Fm N D L a->Region.wanted o (yielded ops a.tmps)=true/\∀w,Rel (ap A Ts++F) w->Below 0 w0 w->b9 P o a w λ u w'=>∃x,Rv u x/\Rel ((ap (Hq x) (Tq x)++ap (eH ip ⟨.drw ops l,k,L,A,Ts⟩) (fA jp ⟨.drw ops l,k,L,A,Ts⟩))++F) w'/\Below 0 w w':=by
   intro a hF;obtain⟨h1,h2⟩:=AF (w0:=w0) ho IS hR trivial o_ hc hF;refine⟨h1,λ w hR hB=>eT (h2 w hR hB) ?_⟩;rintro u w' ⟨H',⟨x,rfl,hv⟩,VM,Xs⟩;exact⟨x,hv,VM,Xs⟩
  have Yo:∀x,(ap (Hq x) (Tq x)++ap (eH ip ⟨.drw ops l,k,L,A,Ts⟩) (fA jp ⟨.drw ops l,k,L,A,Ts⟩)).Perm (ap (Hq x++(oth ip A.length).filterMap (A[·]?)) (Tq x++(oth jp Ts.length).filterMap (Ts[·]?))):=by
   intro x;have h1:=nP (Hq x) (eH ip ⟨.drw ops l,k,L,A,Ts⟩) (Tq x) (fA jp ⟨.drw ops l,k,L,A,Ts⟩) [];rw[acm,acm] at h1;exact h1
  refine(iZ (by simpa using ho) (λ v x=>Rv v x) (λ x=>ap (Hq x) (Tq x)++ap (eH ip ⟨.drw ops l,k,L,A,Ts⟩) (fA jp ⟨.drw ops l,k,L,A,Ts⟩)) UT YJ (λ x=>⟨λ hi=>?_,λ hi y hy=>?_⟩) (λ v x hv L' hl hs=>xD (Yo x).symm (hTD v x hv L' hl hs)):RDO r P N D F w0 R hards Rd i ⟨.drw ops l,k,L,A,Ts⟩ Q).h hR
  ·have hc:hards.contains i=false:=by
    cases hq:hards.contains i with
    |false=>rfl
    |true=>exact absurd (abI.1 hq) hi
   rw[hc] at hx;unfold kQ at hx;simp only at hx;split at hx
   ·refine⟨ap (Hq x) (Tq x),?_⟩;unfold eH fA;show _++ap ((oth [] A.length).filterMap (A[·]?)) ((oth [] Ts.length).filterMap (Ts[·]?))=_;rw[CL,CL]
   ·exact absurd hx (by simp)
  ·rw[abI.2 hi] at hx;simp only[kQ] at hx;exact aaz _ (aaB _ (rt ix hx y hy))
def NT(V:Inv)(ip jp:List Nat)(s:Cfg):(List (Option Value)×HL×List HL)×Bool×Bool:=(vN V ip jp s,aJ ip jp s,AU s)
def SN(V:Inv)(s:Cfg):Cfg:=match s with
 | ⟨_,k,_,_,_⟩=>⟨.ex .normal,k,V.L,V.A,V.Ts⟩
theorem lq(V:σ->Inv)(k:∀x,RN r P N D F w0 R (SN (V x) s) Q)(h:(∀ {s':Cfg} (x:σ) (ip jp:List Nat),(h:NT (V x) ip jp s'=(nT (V x),true,true):=by kernel_rfl)->(e:s'.k=s.k:=by kernel_rfl)->RD r P N D F w0 R hards Rd s' Q)->RD r P N D F w0 R hards Rd s Q):RD r P N D F w0 R hards Rd s Q:=by
 refine h λ {s'} x ip jp hm e=>?_;unfold NT at hm;simp only[df] at hm;obtain⟨m1,m2,m3⟩:=hm;refine RD.fin ⟨λ hR a w h1 h2 h3=>?_⟩ m3;obtain⟨c,k',L,A,Ts⟩:=s';simp only at e;subst e;cases c with
 |drw ops l=>
  obtain⟨k1,k2⟩:=ry (s:=⟨.drw ops l,s.k,L,A,Ts⟩) m1 m2 h1 h2;exact(k x).h hR a w k1 k2 h3
 |code c=>simp[AU] at m3
 |ops ops i=>simp[AU] at m3
 |ex e=>simp[AU] at m3
theorem QP{τ:Type}{f:FuncId}{args:Array Value}{Hq:τ->HL}{Tq:τ->List HL}{Rv:Value->τ->Prop}
 (hc:Sp P f args (ap [] []) (ap (eH [] s) (fA [] s)++F) (λ v H'=>∃x,H'=ap (Hq x) (Tq x)/\Rv v x)) (hk:∀v x,Rv v x->RD r P N D F w0 R hards Rd (m6 (λ A=>Hq x++(oth [] A.length).filterMap (A[·]?)) (λ Ts=>Tq x++(oth [] Ts.length).filterMap (Ts[·]?)) (mH N i v s)) Q)
 (h:∀n0,jo N s (Qv P n0 N R i s)=some (f,args,[],[],ap s.A s.Ts):=by intro n0;kernel_rfl)
 (hp:aJ [] [] s=true:=by kernel_rfl) (hH:picks [] [] s=([],[]):=by kernel_rfl) (hx:kQ (hards.contains i) ix [] [] s Rd=Rd:=by kernel_rfl):RDO r P N D F w0 R hards Rd i s Q:=RDO.ct ix [] [] hc hk h hp hH hx
theorem Sx(i:Nat)(ix:List Nat)(hints:List Hint)(hk:∀ {n0},RD r P N D F w0 R hards Rd (Qu P n0 N R i hints s) Q)
 (h:∀n0,NS (hards.contains i) ix s.A (AV P n0 N R i hints s)=some (QO (AV P n0 N R i hints s),[],cond (hards.contains i) Rd s.A):=by intro n0;kernel_rfl)
 (hr:(OJ s,eK (gK s))=([i],QN i s):=by kernel_rfl):RD r P N D F w0 R hards Rd s Q:=RD.one i (RDO.ev ix hints (λ _=>hk) h) hr
theorem QQ(hk:∀ {n0},RN r P N D F w0 R (AM P n0 N n R [] (LD s)) Q)
 (h:∀n0,AP (nS P n0 N n R [] (LD s))=some (AO (nS P n0 N n R [] (LD s)),[]):=by intro n0;kernel_rfl) (hc:AU s=true:=by kernel_rfl):RD r P N D F w0 R hards Rd s Q:=RD.fin (OG n hk h) hc
end
def aac:=@RD.cp
def aad:=@RD.fin
def aae:=@RD.one
def aaf:=@RDO.ct
def aag:=@RDO.ev
def aak:=@RN.draw
end Go.Proofs.YtjokannbjmndfaaGreatDoor
