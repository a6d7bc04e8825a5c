import Derived.Test.YtghjbimijeinfaaGreatDoorV16
import Derived.Test.YtghjbimijeinfaaGreatDoorV22
set_option maxHeartbeats 4000000
set_option maxRecDepth 100000
set_option linter.all false
namespace Go.Proofs.YtghjbimijeinfaaGreatDoor
open Go.RowKit
noncomputable section
def SC(P:Program)(G N:Nat)(ops:Array Oper)(o:Oper)(k:Kt)(g:Value -> Tr Value -> Tr Value):CzR:=match o.op with
 | .move x=>match cv x with
  | .mk f=>.mk (RM k g f)
 | .assign x=>match cv x with
  | .mk f=>.mk (RM k g f)
 | .pick c a b=>match cv c with
  | .mk f=>match cv a with
   | .mk fa=>match cv b with
    | .mk fb=>.mk (I2 k g f fa fb)
 | .nilCheck x=>match cv x with
  | .mk f=>.mk (O3 P G N ops o k g f)
 | .binOp op _ x y _=>match LQ op with
  | some q=>match cv x with
   | .mk f1=>match cv y with
    | .mk f2=>.mk (O4 P G N ops o k g q f1 f2)
  | none=>.mk (de P G N ops o k)
 | .fieldAddr t x j=>match yX P t j with
  | some (c,_)=>match cv x with
   | .mk f=>.mk (O5 k g c f)
  | none=>.mk (de P G N ops o k)
 | .load t x=>match yW P t with
  | true=>match cv x with
   | .mk f=>.mk (Sw k g f)
  | false=>match Bv P t with
   | some c=>match cv x with
    | .mk f=>.mk (Sx k g c f)
   | none=>.mk (de P G N ops o k)
 | .alloc t=>match lC P t with
  | some z=>match jW z t with
   | .cells a b c d e=>.mk (alF k g (.cells a b c d e))
   | _=>.mk (de P G N ops o k)
  | none=>.mk (de P G N ops o k)
 | .indexAddr t x i=>match P.underlying t with
  | some (.slice el)=>match fy P el with
   | some c=>match cv x with
    | .mk f1=>match cv i with
     | .mk f2=>.mk (Sy k g c f1 f2)
   | none=>.mk (de P G N ops o k)
  | _=>.mk (de P G N ops o k)
 | .call c=>match c.callee with
  | .value (.func f)=>match sU P f with
   | true=>match ca c.args.toList with
    | .mk aS0=>.mk (SA k g f aS0)
   | false=>.mk (de P G N ops o k)
  | _=>.mk (de P G N ops o k)
 | _=>.mk (de P G N ops o k)
def SD(P:Program)(G N:Nat)(ops:Array Oper)(o:Oper)(k:Kt):CzR:=match o.op with
 | .store t x y=>match fy P t with
  | some 1=>match cv x with
   | .mk f1=>match cv y with
    | .mk f2=>.mk (Sz P G N ops o k f1 f2)
  | _=>.mk (de P G N ops o k)
 | .call c=>match c.callee with
  | .value (.func f)=>match sU P f with
   | true=>match ca c.args.toList with
    | .mk aS0=>.mk (SB k f aS0)
   | false=>.mk (de P G N ops o k)
  | _=>.mk (de P G N ops o k)
 | _=>.mk (de P G N ops o k)
def I5(P:Program)(G N:Nat)(ops:Array Oper)(o:Oper)(k:Kt):CzR:=match oA G o with
 | true=>match iJ N o.dst with
  | .ok g=>SC P G N ops o k g
  | .no=>SD P G N ops o k
  | .bad=>.mk (de P G N ops o k)
 | false=>.mk (de P G N ops o k)
def Gq(o:Oper):Oper:=⟨o.dst,o.op,o.type,o.pos,o.after,none⟩
def SE(want:Bool)(u:Value)(x y:Option St):Option St:=match u with
 | .bool b=>match b with
  | true=>match want with
   | true=>x
   | false=>y
  | false=>match want with
   | true=>y
   | false=>x
 | .tuple _=>y
 | _=>none
def guF(want:Bool)(f:Tr Value -> Value)(h:Kt)(k:Kt)(g:Value -> Tr Value -> Tr Value)(ih:Ih)(r:Option Nat)(T:Tr Value)(D:List Deferred)(H:AH)(n:Nat):Option St:=SE want (f T) (h ih r T D H n) (k ih r (g undef T) D H n)
def guN(want:Bool)(f:Tr Value -> Value)(h:Kt)(k:Kt)(ih:Ih)(r:Option Nat)(T:Tr Value)(D:List Deferred)(H:AH)(n:Nat):Option St:=SE want (f T) (h ih r T D H n) (k ih r T D H n)
def Pa(P:Program)(G N:Nat)(ops:Array Oper)(o:Oper)(nx:CzR):CzR:=match nx with
 | .mk k=>match o.guard with
  | none=>I5 P G N ops o k
  | some (j,want)=>match (ops[j]?).bind (·.dst) with
   | some d=>match xc (pth d) with
    | .mk f=>match I5 P G N ops (Gq o) k with
     | .mk h=>match iJ N o.dst with
      | .ok g=>.mk (guF want f h k g)
      | .no=>.mk (guN want f h k)
      | .bad=>.mk (de P G N ops o k)
   | none=>.mk (de P G N ops o k)
def Fz(P:Program)(G N:Nat)(ops:Array Oper):List Oper -> CzR
 | []=>.mk λ _ _ T D H n=>some ⟨T,D,H,n⟩
 | o::l=>Pa P G N ops o (Fz P G N ops l)
def I6(P:Program)(G N:Nat)(ops:Array Oper)(o:Oper)(k:Kt)(c:CzR):Prop:=∀ih r T D H n,c.f ih r T D H n=de P G N ops o k ih r T D H n
theorem dN{P:Program}{G N:Nat}{ops:Array Oper}{o:Oper}{k:Kt}:I6 P G N ops o k (.mk (de P G N ops o k)):=λ _ _ _ _ _ _=>rfl
theorem Av{x:Operand}{f}(h:cv x=.mk f)(T:Tr Value):f T=ael T x:=by
 have:=Nz x T;rw[h] at this;exact this
theorem cam{x:List Operand}{f}(h:ca x=.mk f)(T:Tr Value):f T=nU T x:=by
 have:=NA x T;rw[h] at this;exact this
theorem Pb{P:Program}{G N:Nat}{ops:Array Oper}{o:Oper}{k:Kt}{g}(hg:o.guard=none)(ho:oA G o=true)(hd:iJ N o.dst=.ok g):I6 P G N ops o k (SC P G N ops o k g):=by
 unfold SC;split
 ·rename_i x hx;split;rename_i f hf;exact λ ih r T D H n=>NB hg ho hd (.inl hx) (Av hf) ih r T D H n
 ·rename_i x hx;split;rename_i f hf;exact λ ih r T D H n=>NB hg ho hd (.inr hx) (Av hf) ih r T D H n
 ·rename_i c a b hx;split;rename_i f hf;split;rename_i fa hfa;split;rename_i fb hfb;exact λ ih r T D H n=>LT hg ho hd hx (Av hf) (Av hfa) (Av hfb) ih r T D H n
 ·rename_i x hx;split;rename_i f hf;exact λ ih r T D H n=>O6 hg ho hd hx (Av hf) ih r T D H n
 ·rename_i op t x y z hx;split
  ·rename_i q hq;split;rename_i f hf;split;rename_i f2 UJ;exact λ ih r T D H n=>O7 hg ho hd hx hq (Av hf) (Av UJ) ih r T D H n
  ·exact dN
 ·rename_i t x j hx;split
  ·rename_i c ft hc;split;rename_i f hf;exact λ ih r T D H n=>O8 hg ho hd hx hc (Av hf) ih r T D H n
  ·exact dN
 ·rename_i t x hx;split
  ·rename_i hc;split;rename_i f hf;exact λ ih r T D H n=>QM hg ho hd hx hc (Av hf) ih r T D H n
  ·rename_i hc;split
   ·rename_i c ha;split;rename_i f hf;exact λ ih r T D H n=>QN hg ho hd hx hc ha (Av hf) ih r T D H n
   ·exact dN
 ·rename_i t hx;split
  ·rename_i z hz;split
   ·rename_i a b c d e hb;exact λ ih r T D H n=>QO hg ho hd hx hz hb ih r T D H n
   ·exact dN
  ·exact dN
 ·rename_i t x i hx;split
  ·rename_i el ht;split
   ·rename_i c hc;split;rename_i f hf;split;rename_i f2 UJ;exact λ ih r T D H n=>QP hg ho hd hx ht hc (Av hf) (Av UJ) ih r T D H n
   ·exact dN
  ·exact dN
 ·rename_i c hx;split
  ·rename_i f hc;split
   ·rename_i hb;split;rename_i aS0 ha;exact λ ih r T D H n=>QR hg ho hd hx hc hb (cam ha) ih r T D H n
   ·exact dN
  ·exact dN
 ·exact dN
theorem Pc{P:Program}{G N:Nat}{ops:Array Oper}{o:Oper}{k:Kt}(hg:o.guard=none)(ho:oA G o=true)(hd:iJ N o.dst=.no):I6 P G N ops o k (SD P G N ops o k):=by
 unfold SD;split
 ·rename_i t x y hx;split
  ·rename_i hc;split;rename_i f hf;split;rename_i f2 UJ;exact λ ih r T D H n=>QQ hg ho hd hx hc (Av hf) (Av UJ) ih r T D H n
  ·exact dN
 ·rename_i c hx;split
  ·rename_i f hc;split
   ·rename_i hb;split;rename_i aS0 ha;exact λ ih r T D H n=>O9 hg ho hd hx hc hb (cam ha) ih r T D H n
   ·exact dN
  ·exact dN
 ·exact dN
theorem Dq{P:Program}{G N:Nat}{ops:Array Oper}{o:Oper}{k:Kt}(hg:o.guard=none):I6 P G N ops o k (I5 P G N ops o k):=by
 unfold I5;split
 ·rename_i ho;split
  ·rename_i g hd;exact Pb hg ho hd
  ·rename_i hd;exact Pc hg ho hd
  ·exact dN
 ·exact dN
theorem oc(P:Program)(T:Tr Value)(o:Oper):gI P T (Gq o)=gI P T o:=by
 have e:execOp (ael T) (Gq o)=execOp (ael T) o:=by
  obtain⟨dst,op,type,pos,after,guard⟩:=o;cases op <;> rfl
 unfold gI;rw[e];rfl
theorem FB(P:Program)(T:Tr Value)(o:Oper):gU P (Gq o) T=gU P o T:=by
 unfold gU;simp only[oc];rfl
theorem FC(P:Program)(T:Tr Value)(H:AH)(o:Oper):jM P (Gq o) T H=jM P o T H:=by
 unfold jM;simp only[oc];rfl
theorem I7(P:Program)(T:Tr Value)(H:AH)(n:Nat)(o:Oper):nV P (Gq o) T H n=nV P o T H n:=by
 unfold nV;simp only[oc];rfl
theorem I8(P:Program)(G:Nat)(ih:Ih)(r:Option Nat)(T:Tr Value)(H:AH)(n:Nat)(o:Oper):kl P G ih r (Gq o) T H n=kl P G ih r o T H n:=by
 unfold kl C7;simp only[FB,FC,I7];rfl
theorem tq{P:Program}{G N:Nat}{ops:Array Oper}{o:Oper}{k:Kt}{j:Nat}{want:Bool}(hg:o.guard=some (j,want)){d:Tmp}(hd:(ops[j]?).bind (·.dst)=some d){f:Tr Value -> Value}(hf:∀T,f T=da T d){h:Kt}(hh:∀ih r T D H n,h ih r T D H n=de P G N ops (Gq o) k ih r T D H n)(ih r T D H n) :
  de P G N ops o k ih r T D H n=SE want (f T) (h ih r T D H n) (match fI N o.dst undef T with|some T=>k ih r T D H n|none=>none):=by
 rw[hh,hf];have e:de P G N ops (Gq o) k ih r T D H n=match kl P G ih r o T H n with
  | none=>none
  | some (.val v H n)=>fj v λ v=>match fI N o.dst v T with
   | some T=>k ih r T D H n
   | none=>none
  | some (.dfr d)=>match fI N o.dst undef T with
   | some T=>k ih r T (d::D) H n
   | none=>none:=by
  simp only[de,eY,Gq];rw[<- I8 P G ih r T H n o];rfl
 rw[e];simp only[de,eY,hg,hd];cases da T d with
 | bool b=>cases b <;> cases want <;> rfl
 | _=>rfl
theorem Pd{P:Program}{G N:Nat}{ops:Array Oper}{o:Oper}{k:Kt}:I6 P G N ops o k (Pa P G N ops o (.mk k)):=by
 cases hg:o.guard with
 | none=>simp only[Pa,hg];exact Dq hg
 | some jw =>
  obtain⟨j,want⟩:=jw;cases hd:(ops[j]?).bind (·.dst) with
  | none=>simp only[Pa,hg,hd];exact dN
  | some d =>
   cases hf:xc (pth d) with
   | mk f=>cases hh:I5 P G N ops (Gq o) k with
    | mk h =>
     have hf':∀T,f T=da T d:=λ T=>by have:=rX (pth d) T;rw[hf] at this;exact this
     have hh':=Dq (P:=P) (G:=G) (N:=N) (ops:=ops) (o:=Gq o) (k:=k) rfl;rw[hh] at hh';cases hdk:iJ N o.dst with
     | ok g =>
      simp only[Pa,hg,hd,hf,hh,hdk];intro ih r T D H n;rw[tq hg hd hf' hh',Dh hdk];rfl
     | no =>
      simp only[Pa,hg,hd,hf,hh,hdk];intro ih r T D H n;rw[tq hg hd hf' hh',Di hdk];rfl
     | bad=>simp only[Pa,hg,hd,hf,hh,hdk];exact dN
theorem Ds(P:Program)(G N:Nat)(ops:Array Oper):∀l,CzR.okL P G N ops l (Fz P G N ops l).f
 | []=>λ ih r T D H n=>rfl
 | o::l=>by
  have h:=Ds P G N ops l;cases hk:Fz P G N ops l with
  | mk k =>
   rw[hk] at h;intro ih r T D H n;simp only[Fz,hk];rw[Pd];exact LP h o ih r T D H n
def RS(P:Program)(G N:Nat)(c:Code)(ih:Ih)(r:Option Nat)(T:Tr Value)(D:List Deferred)(H:AH)(n:Nat):Option (Ex × St):=ju P G ih r N c ⟨T,D,H,n⟩
def QS(k:Kt)(ih:Ih)(r:Option Nat)(T:Tr Value)(D:List Deferred)(H:AH)(n:Nat):Option (Ex × St):=match k ih r T D H n with
 | some s=>some (.normal,s)
 | none=>none
abbrev Kc:=Ih -> Option Nat -> Tr Value -> List Deferred -> AH -> Nat -> Option (Ex × St)
def SF(x:Option (Ex × St))(y:Tr Value -> List Deferred -> AH -> Nat -> Option (Ex × St)):Option (Ex × St):=match x with
 | some p=>match p with
  | (e,s)=>match e with
   | .normal=>match s with
    | ⟨T,D,H,n⟩=>y T D H n
   | .exit id=>some (.exit id,s)
   | .ret=>some (.ret,s)
 | none=>none
def QT(a b:Kc)(ih:Ih)(r:Option Nat)(T:Tr Value)(D:List Deferred)(H:AH)(n:Nat):Option (Ex × St):=SF (a ih r T D H n) λ T D H n=>b ih r T D H n
def QU(u:Value)(x y:Option (Ex × St)):Option (Ex × St):=match u with
 | .bool b=>match b with
  | true=>x
  | false=>y
 | _=>none
def NC(f:Tr Value -> Value)(a b:Kc)(ih:Ih)(r:Option Nat)(T:Tr Value)(D:List Deferred)(H:AH)(n:Nat):Option (Ex × St):=QU (f T) (a ih r T D H n) (b ih r T D H n)
def QV(id:Nat)(x:Option (Ex × St)):Option (Ex × St):=match x with
 | some p=>match p with
  | (e,s)=>match e with
   | .exit Vo=>match Nat.beq Vo id with
    | true=>some (.normal,s)
    | false=>some (.exit Vo,s)
   | .normal=>some (.normal,s)
   | .ret=>some (.ret,s)
 | none=>none
def QW(id:Nat)(a:Kc)(ih:Ih)(r:Option Nat)(T:Tr Value)(D:List Deferred)(H:AH)(n:Nat):Option (Ex × St):=QV id (a ih r T D H n)
def QX(x:Option (Ex × St))(y:St -> Option Rs):Option (Ex × St):=match x with
 | some p=>match p with
  | (e,s)=>match e with
   | .normal=>match y s with
    | some q=>match q with
     | .cd e s=>some (e,s)
     | .fn _ _ _=>none
    | none=>none
   | .exit id=>some (.exit id,s)
   | .ret=>some (.ret,s)
 | none=>none
def QY(N:Nat)(c:Code)(a:Kc)(ih:Ih)(r:Option Nat)(T:Tr Value)(D:List Deferred)(H:AH)(n:Nat):Option (Ex × St):=QX (a ih r T D H n) λ s=>ih (.loop r N c s)
def iK(P:Program)(G N:Nat):Code -> CzC
 | .skip=>.mk λ _ _ T D H n=>some (.normal,⟨T,D,H,n⟩)
 | .label _=>.mk λ _ _ T D H n=>some (.normal,⟨T,D,H,n⟩)
 | .region id ops draw=>match draw with
  | false=>match Fz P G N ops ops.toList with
   | .mk k=>.mk (QS k)
  | true=>.mk (RS P G N (.region id ops true))
 | .seq a b=>match iK P G N a with
  | .mk fa=>match iK P G N b with
   | .mk fb=>.mk (QT fa fb)
 | .cond c a b=>match cv c with
  | .mk f=>match iK P G N a with
   | .mk fa=>match iK P G N b with
    | .mk fb=>.mk (NC f fa fb)
 | .block id c=>match iK P G N c with
  | .mk fa=>.mk (QW id fa)
 | .loop c=>match iK P G N c with
  | .mk fa=>.mk (QY N c fa)
 | .rangeFunc g ps assign body=>.mk (RS P G N (.rangeFunc g ps assign body))
 | .exit id=>.mk λ _ _ T D H n=>some (.exit id,⟨T,D,H,n⟩)
 | .scope c=>iK P G N c
 | .goto l=>.mk (RS P G N (.goto l))
 | .ret=>.mk λ _ _ T D H n=>some (.ret,⟨T,D,H,n⟩)
 | .refuse x=>.mk (RS P G N (.refuse x))
def QZ(P:Program)(G N:Nat)(c:Code)(f:Kc):Prop:=∀ih r T D H n,f ih r T D H n=ju P G ih r N c ⟨T,D,H,n⟩
theorem iL(P:Program)(G N:Nat):∀c,QZ P G N c (iK P G N c).f
 | .skip=>λ _ _ _ _ _ _=>rfl
 | .label _=>λ _ _ _ _ _ _=>rfl
 | .region id ops draw=>by
  cases draw with
  | true=>exact λ _ _ _ _ _ _=>rfl
  | false =>
   have h:=Ds P G N ops ops.toList;cases hk:Fz P G N ops ops.toList with
   | mk k =>
    rw[hk] at h;intro ih r T D H n;simp only[iK,hk,CzC.f,QS,ju];have:=h ih r T D H n;simp only[CzR.f] at this;rw[this];cases nk P G ih r N ops ops.toList ⟨T,D,H,n⟩ <;> rfl
 | .seq a b=>by
  have h1:=iL P G N a;have h2:=iL P G N b;cases ha:iK P G N a with
  | mk fa=>cases hb:iK P G N b with
   | mk fb =>
    rw[ha] at h1;rw[hb] at h2;intro ih r T D H n;have e1:=h1 ih r T D H n;simp only[CzC.f] at e1;simp only[iK,ha,hb,CzC.f,QT,ju,e1];cases ju P G ih r N a ⟨T,D,H,n⟩ with
    | none=>rfl
    | some p=>obtain⟨e,s⟩:=p;cases e with
     | normal=>obtain⟨T,D,H,n⟩:=s;exact h2 ih r T D H n
     | exit id=>rfl
     | ret=>rfl
 | .cond c a b=>by
  have h1:=iL P G N a;have h2:=iL P G N b;cases hc:cv c with
  | mk f=>cases ha:iK P G N a with
   | mk fa=>cases hb:iK P G N b with
    | mk fb =>
     rw[ha] at h1;rw[hb] at h2;intro ih r T D H n;simp only[iK,hc,ha,hb,CzC.f,NC,ju,Av hc];cases ael T c with
     | bool q=>cases q with
      | true=>exact h1 ih r T D H n
      | false=>exact h2 ih r T D H n
     | _=>rfl
 | .block id c=>by
  have h1:=iL P G N c;cases ha:iK P G N c with
  | mk fa =>
   rw[ha] at h1;intro ih r T D H n;have e1:=h1 ih r T D H n;simp only[CzC.f] at e1;simp only[iK,ha,CzC.f,QW,ju,e1];cases ju P G ih r N c ⟨T,D,H,n⟩ with
   | none=>rfl
   | some p=>obtain⟨e,s⟩:=p;cases e with
    | normal=>rfl
    | exit Vo=>simp only[QV];cases Nat.beq Vo id <;> rfl
    | ret=>rfl
 | .loop c=>by
  have h1:=iL P G N c;cases ha:iK P G N c with
  | mk fa =>
   rw[ha] at h1;intro ih r T D H n;have e1:=h1 ih r T D H n;simp only[CzC.f] at e1;simp only[iK,ha,CzC.f,QY,ju,e1];cases ju P G ih r N c ⟨T,D,H,n⟩ with
   | none=>rfl
   | some p=>obtain⟨e,s⟩:=p;cases e with
    | normal =>
     simp only[QX];cases ih (.loop r N c s) with
     | none=>rfl
     | some q=>cases q <;> rfl
    | exit Vo=>rfl
    | ret=>rfl
 | .rangeFunc g ps assign body=>λ _ _ _ _ _ _=>rfl
 | .exit id=>λ _ _ _ _ _ _=>rfl
 | .scope c=>by
  intro ih r T D H n;simp only[iK,ju];exact iL P G N c ih r T D H n
 | .goto l=>λ _ _ _ _ _ _=>rfl
 | .ret=>λ _ _ _ _ _ _=>rfl
 | .refuse x=>λ _ _ _ _ _ _=>rfl
def LU:List ResultVar -> Option CzA
 | []=>some (.mk λ _=>[])
 | x::l=>match x with
  | .tmp t=>match xc (pth t) with
   | .mk f=>match LU l with
    | some c=>match c with
     | .mk h=>some (.mk λ T=>f T::h T)
    | none=>none
  | .cell _ _=>none
theorem I9(P:Program)(H:AH)(T:Tr Value):∀ {l:List ResultVar} {h},LU l=some (.mk h) -> p8 P T H l=some (h T)
 | [],h,e=>by simp only[LU,Option.some.injEq,CzA.mk.injEq] at e;subst e;rfl
 | .cell _ _::l,h,e=>by simp[LU] at e
 | .tmp t::l,h,e=>by
  simp only[LU] at e;cases hf:xc (pth t) with
  | mk f =>
   rw[hf] at e;simp only at e;cases hl:LU l with
   | none=>rw[hl] at e;simp at e
   | some c=>cases c with
    | mk h' =>
     rw[hl] at e;simp only[Option.some.injEq,CzA.mk.injEq] at e;subst e;have:=rX (pth t) T;rw[hf] at this;simp only[CzV.f] at this;simp only[p8,I9 P H T hl,this];rfl
def Pe(l:List Value):Nat -> Tr Value -> Tr Value:=List.rec (motive:=λ _=>Nat -> Tr Value -> Tr Value) (λ _ t=>t) (λ x _ ih i t=>fj x λ x=>ih (i+1) (Tr.setP undef x (pth i) t)) l
theorem Dt:∀ (l:List Value) (i:Nat) (t:Tr Value),Pe l i t=dR undef l i t
 | [],i,t=>rfl
 | x::l,i,t=>by
  have:=Dt l (i+1) (Tr.setP undef x (pth i) t);show (fj x λ x=>Pe l (i+1) (Tr.setP undef x (pth i) t))=_;rw[cM,this,dR];have e:Tr.set undef x t i=Tr.setP undef x (pth i) t:=rfl;rw[e];cases Tr.setP undef x (pth i) t <;> rfl
def Q0(h:List Value):Value:=match h with
 | []=>.tuple ⟨[]⟩
 | v::l=>match l with
  | []=>v
  | w::l=>.tuple ⟨v::w::l⟩
theorem LW(h:List Value):Q0 h=ze h:=by
 cases h with
 | nil=>rfl
 | cons v l=>cases l <;> rfl
def Q1(P:Program)(fn:Func)(ih:Ih)(s:St):Option Rs:=match kT P ih s.D s.H s.n with
 | some (H,n)=>match p8 P s.T H fn.results.toList with
  | some vs=>some (.fn (ze vs) H n)
  | none=>none
 | none=>none
def SG(P:Program)(fn:Func)(h:Tr Value -> List Value)(ih:Ih)(s:St):Option Rs:=match s with
 | ⟨T,D,H,n⟩=>match D with
  | []=>some (.fn (Q0 (h T)) H n)
  | d::D=>Q1 P fn ih ⟨T,d::D,H,n⟩
def fnR(x:Option (Ex × St))(y:St -> Option Rs):Option Rs:=match x with
 | some p=>match p with
  | (e,s)=>match e with
   | .exit _=>none
   | .normal=>y s
   | .ret=>y s
 | none=>none
def RU(N:Nat)(k:Kc)(y:Ih -> St -> Option Rs)(ih:Ih)(args:List Value)(H:AH)(n:Nat):Option Rs:=match Nat.ble (gH args) N with
 | true=>fnR (k ih none (Pe args 0 .lf) [] H n) (y ih)
 | false=>none
def FD(P:Program)(G:Nat)(f:FuncId):CzF:=match sY P f with
 | some (fn,c)=>match iK P G fn.ntmps c with
  | .mk k=>match LU fn.results.toList with
   | some h=>match h with
    | .mk h=>.mk (RU fn.ntmps k (SG P fn h))
   | none=>.mk (RU fn.ntmps k (Q1 P fn))
 | none=>.mk λ _ _ _ _=>none
theorem Pf{P:Program}{fn:Func}{h}(e:LU fn.results.toList=some (.mk h))(ih:Ih)(s:St):SG P fn h ih s=Q1 P fn ih s:=by
 obtain⟨T,D,H,n⟩:=s;cases D with
 | cons d D=>rfl
 | nil=>simp only[SG,Q1,kT,I9 P H T e,LW]
theorem Ja{P:Program}{G:Nat}{fn:Func}{c:Code}{f:FuncId}(hb:sY P f=some (fn,c)){k:Kc}(hk:QZ P G fn.ntmps c k){y:Ih -> St -> Option Rs}(hy:∀ih s,y ih s=Q1 P fn ih s)(ih:Ih)(args:List Value)(H:AH)(n:Nat):RU fn.ntmps k y ih args H n=gW P G ih (.fn f args H n):=by
 simp only[RU,gW,hb];cases Nat.ble (gH args) fn.ntmps with
 | false=>rfl
 | true =>
  simp only[hk ih,Dt];rw[show dR undef args 0 .lf=nq args from rfl];cases ju P G ih none fn.ntmps c ⟨nq args,[],H,n⟩ with
  | none=>rfl
  | some p=>obtain⟨e,s⟩:=p;cases e with
   | exit _=>rfl
   | normal=>exact hy ih s
   | ret=>exact hy ih s
theorem LX(P:Program)(G:Nat)(f:FuncId)(ih:Ih)(args:List Value)(H:AH)(n:Nat):(FD P G f).f ih args H n=gW P G ih (.fn f args H n):=by
 cases hb:sY P f with
 | none=>simp only[FD,hb,CzF.f,gW]
 | some p =>
  obtain⟨fn,c⟩:=p;have h1:=iL P G fn.ntmps c;cases hk:iK P G fn.ntmps c with
  | mk k =>
   rw[hk] at h1;cases hr:LU fn.results.toList with
   | none =>
    simp only[FD,hb,hk,hr,CzF.f];exact Ja hb h1 (λ _ _=>rfl) ih args H n
   | some h=>cases h with
    | mk h =>
     simp only[FD,hb,hk,hr,CzF.f];exact Ja hb h1 (λ ih s=>Pf hr ih s) ih args H n
def zH(P:Program)(G:Nat)(ih:Ih)(t:Task):Option Rs:=match t with
 | .loop r N c s=>match iK P G N (.loop c) with
  | .mk k=>match s with
   | ⟨T,D,H,n⟩=>match k ih r T D H n with
    | some p=>match p with
     | (e,s)=>some (.cd e s)
    | none=>none
 | .fn f args H n=>match FD P G f with
  | .mk k=>k ih args H n
 | t=>gW P G ih t
theorem Jb(P:Program)(G:Nat)(ih:Ih)(t:Task):zH P G ih t=gW P G ih t:=by
 cases t with
 | loop r N c s =>
  obtain⟨T,D,H,n⟩:=s;have h1:=iL P G N (.loop c);cases hk:iK P G N (.loop c) with
  | mk k =>
   rw[hk] at h1;have:=h1 ih r T D H n;simp only[CzC.f] at this;simp only[zH,hk,gW,this];cases ju P G ih r N (.loop c) ⟨T,D,H,n⟩ with
   | none=>rfl
   | some p=>rfl
 | fn f args H n =>
  have:=LX P G f ih args H n;cases hk:FD P G f with
  | mk k =>
   rw[hk] at this;simp only[zH,hk];exact this
 | _=>rfl
def rB(P:Program)(G:Nat)(k:Nat):Ih:=Nat.rec (motive:=λ _=>Ih) (λ _=>none) (λ _ ih t=>zH P G ih t) k
theorem rY(P:Program)(G:Nat):∀k,rB P G k=Iv P G k
 | 0=>rfl
 | k+1=>by
  funext t;show zH P G (rB P G k) t=_;rw[Jb,rY P G k];rfl
end
noncomputable section
def mK(ν:Nu)(h:Nat):Nat:=match ν h with
 | some (b,_)=>b
 | none=>0
def SH(ν:Nu)(h c:Nat):Nat:=match Nat.blt c mB with
 | true=>c
 | false=>match ν h with
  | some (_,K)=>K-(c-mB)
  | none=>0
mutual
def lL(ν:Nu):Value -> Value
 | .pointer (some a)=>.pointer (some ⟨mK ν a.block,a.off,none⟩)
 | .slice (some a) n c=>.slice (some ⟨mK ν a.block,a.off,none⟩) n (SH ν a.block c)
 | .map (some h)=>.map (some (mK ν h))
 | .iface t v=>.iface t (lL ν v)
 | .agg c=>.agg (Jc ν c)
 | .tuple c=>.tuple (Jc ν c)
 | v=>v
def Jc(ν:Nu):Array Value -> Array Value
 | ⟨l⟩=>⟨tu ν l⟩
def tu(ν:Nu):List Value -> List Value
 | []=>[]
 | v::l=>lL ν v::tu ν l
end
mutual
def mh:Value -> Bool
 | .iface _ v=>mh v
 | .func f a c=>pl (.func f a c)
 | .agg c=>ND c
 | .tuple c=>ND c
 | .chan _=>false
 | _=>true
def ND:Array Value -> Bool
 | ⟨l⟩=>FF l
def FF:List Value -> Bool
 | []=>true
 | v::l=>match mh v with
  | true=>FF l
  | false=>false
end
theorem xd{ν:Nu}:∀ {l l':List Value},l.length=l'.length -> (∀ (i:Nat) (v v':Value),l[i]?=some v -> l'[i]?=some v' -> mh v=true -> v'=lL ν v) -> FF l=true -> l'=tu ν l
 | [],[],_,_,_=>rfl
 | [],_::_,e,_,_=>by simp at e
 | _::_,[],e,_,_=>by simp at e
 | v::l,v'::l',e,h,ho=>by
  rw[FF] at ho;cases hv:mh v with
  | false=>rw[hv] at ho;cases ho
  | true =>
   rw[hv] at ho;have a1:=h 0 v v' rfl rfl hv;have a2:=xd (l:=l) (l':=l') (by simpa using e) (λ i a b h1 h2=>h (i+1) a b (by simpa using h1) (by simpa using h2)) ho;rw[tu,<- a1,<- a2]
theorem rZ{ν:Nu}{v v':Value}(h:VRi ν v v'):mh v=true -> v'=lL ν v:=by
 induction h with
 | atom v h =>
  intro _;cases v with
  | pointer a=>cases a with
   | none=>rfl
   | some a=>simp[cC] at h
  | slice a n c=>cases a with
   | none=>rfl
   | some a=>simp[cC] at h
  | map r=>cases r with
   | none=>rfl
   | some r=>simp[cC] at h
  | iface t v=>simp[cC] at h
  | agg c=>simp[cC] at h
  | tuple c=>simp[cC] at h
  | _=>rfl
 | ptr o h=>intro _;simp[lL,mK,h]
 | @slice hd b K c c' o n h hc =>
  intro _;simp only[lL,mK,SH,h];congr 1;cases hb:Nat.blt c mB with
  | true=>exact hc.1 (Eq.mp Nat.blt_eq hb)
  | false =>
   have h2:=hc.2 (lD hb);simp only;omega
 | map h=>intro _;simp[lL,mK,h]
 | func hf e1 h1 e2 h2 _ _ =>
  intro ho;have:=VRi.plain_eq (VRi.func hf e1 h1 e2 h2) (by simpa only[mh] using ho);rw[this];rfl
 | iface t _ ih=>intro ho;rw[lL,<- ih (by simpa only[mh] using ho)]
 | @agg c c' e _ ih =>
  intro ho;obtain⟨l⟩:=c;obtain⟨l'⟩:=c';simp only[List.getElem?_toArray] at ih;rw[lL,Jc,xd (l:=l) (l':=l') e ih (by simpa only[mh,ND] using ho)]
 | @tuple c c' e _ ih =>
  intro ho;obtain⟨l⟩:=c;obtain⟨l'⟩:=c';simp only[List.getElem?_toArray] at ih;rw[lL,Jc,xd (l:=l) (l':=l') e ih (by simpa only[mh,ND] using ho)]
theorem LY{ν:Nu}{l l':List Value}(h:LR ν l l'):FF l=true -> l'=l.map (lL ν):=by
 induction h with
 | nil=>intro _;rfl
 | @cons v v' l l' h _ ih =>
  intro ho;rw[FF] at ho;cases hv:mh v with
  | false=>rw[hv] at ho;cases ho
  | true =>
   rw[hv] at ho;rw[List.map_cons,rZ h hv,ih ho]
abbrev PB:=Nat × List Value × TypeId
def LZ(H:AH)(p:PB):Bool:=match bE H p.1 with
 | some (.cells n t ty _ _)=>match Nat.beq n (gH p.2.1),Nat.beq ty p.2.2 with
  | true,true=>match rz (gV t 0 n) p.2.1 with
   | true=>FF p.2.1
   | false=>false
  | _,_=>false
 | _=>false
def Du(H:AH):List PB -> Bool
 | []=>true
 | p::l=>match LZ H p with
  | true=>Du H l
  | false=>false
def qj(ν:Nu)(w:World)(p:PB):List Value:=match w.heap[mK ν p.1]? with
 | some (.cells c _ _)=>c.toList.drop p.2.1.length
 | _=>[]
def tw(ν:Nu)(rest:PB -> List Value)(p:PB):Nat × Blk:=(mK ν p.1,.lit (p.2.1.map (lL ν)++rest p) p.2.2 (0,0))
theorem Dv(l l':List Value)(h:rz l l'=true):l=l':=by
 induction l generalizing l' with
 | nil=>cases l' with
  | nil=>rfl
  | cons v l'=>simp[rz] at h
 | cons v l ih=>cases l' with
  | nil=>simp[rz] at h
  | cons v' l' =>
   rw[rz] at h;cases hv:ua v v' with
   | false=>rw[hv] at h;cases h
   | true=>rw[hv] at h;rw[BP _ _ hv,ih _ h]
theorem Jd{ν:Nu}{H:AH}{F:HL}{w:World}(hH:HR ν H F w){p:PB}(hc:LZ H p=true) :
  (∃K,ν p.1=some (mK ν p.1,K)) /\ (∃b,bE H p.1=some b) /\ w.heap[mK ν p.1]?=some (tw ν (qj ν w) p).2.den:=by
 unfold LZ at hc;split at hc
 case h_2=>cases hc
 rename_i n t ty ww ro hb;split at hc
 case h_2=>cases hc
 rename_i e1 e2;have e1:=abf e1;have e2:=abf e2;split at hc
 case h_2=>cases hc
 rename_i e3;have e3:=Dv _ _ e3;obtain⟨r,K,o,h1,h2,h3⟩:=hH.blk _ _ hb;have hn:mK ν p.1=r:=by simp[mK,h1]
 have hcc:=hH.cells hb h1;obtain⟨c,ty',fz,g1,g2⟩:=hcc;refine⟨⟨K,by rw[hn];exact h1⟩,⟨_,hb⟩,?_⟩;rw[hn,g1];have hr:=ku g2.le g2.get n 0 (by omega);rw[e3] at hr;have hl:=LY hr hc;rw[eo] at e1;simp only[tw,Blk.den,qj,hn,g1,g2.ty,g2.fz,<- e2];congr 2;apply Array.ext';simp only;rw[<- hl,List.drop_zero,<- e1,List.take_append_drop]
def qk:List PB -> AH
 | []=>.lf
 | p::l=>c9 (qk l) p.1 (some (.cells (gH p.2.1) (dR undef p.2.1 0 .lf) p.2.2 1 true))
def ql(tabs:List PB)(G:Nat):Nu:=λ h=>if h<G then some (h,match tabs.find? (λ p=>p.1 == h) with|some p=>p.2.1.length|none=>0) else none
def gA(p:PB):Nat × Blk:=(p.1,.lit p.2.1 p.2.2 (0,0))
def qZ(G:Nat):List PB -> Bool
 | []=>true
 | p::l=>match Nat.blt p.1 G,uj p.2.1,l.any (λ q=>q.1 == p.1) with
  | true,true,false=>qZ G l
  | _,_,_=>false
end
noncomputable section
theorem Dw:∀ (tabs:List PB) (h:Nat),bE (qk tabs) h=match tabs.find? (λ p=>p.1 == h) with
  | some p=>some (.cells (gH p.2.1) (dR undef p.2.1 0 .lf) p.2.2 1 true)
  | none=>none
 | [],h=>BE _
 | p::l,h=>by
  rw[qk,dM,Dw l h]
  by_cases e:p.1=h
  ·rw[if_pos e,List.find?_cons_of_pos (by simpa using e)]
  ·rw[if_neg e,List.find?_cons_of_neg (by simpa using e)]
theorem fK{G:Nat}:∀ {tabs:List PB},qZ G tabs=true -> ∀p∈tabs,p.1<G /\ uj p.2.1=true
 | [],_,p,hp=>by simp at hp
 | q::l,h,p,hp=>by
  rw[qZ] at h;split at h
  ·rename_i h1 h2 h3;rcases List.mem_cons.1 hp with rfl|hp
   ·exact⟨Eq.mp Nat.blt_eq h1,h2⟩
   ·exact fK h p hp
  ·cases h
theorem Dx:∀ {l:List Value},uj l=true -> ∀ {i:Nat} {v:Value},l[i]?=some v -> pl v=true
 | [],_,i,v,h=>by simp at h
 | x::l,hp,i,v,h=>by
  rw[uj] at hp;split at hp
  ·rename_i hx;cases i with
   | zero=>simp at h;rw[<- h];exact hx
   | succ i=>exact Dx hp (by simpa using h)
  ·cases hp
theorem mL{tabs:List PB}{h:Nat}{p:PB}(e:tabs.find? (λ p=>p.1 == h)=some p):p∈tabs /\ p.1=h :=
 ⟨List.mem_of_find?_eq_some e,by simpa using List.find?_some e⟩
section
variable {tabs picks:List PB} {G:Nat} {F:HL} {w:World}
theorem Je(ht:qZ G tabs=true)(hR:Rel (tabs.map gA++F) w):HR (ql tabs G) (qk tabs) F w:=by
 have key:∀h b,bE (qk tabs) h=some b -> ∃p,tabs.find? (λ p=>p.1 == h)=some p /\ b=.cells (gH p.2.1) (dR undef p.2.1 0 .lf) p.2.2 1 true:=λ h b hb=>by
  rw[Dw] at hb;split at hb
  ·rename_i p hp;cases hb;exact⟨p,hp,rfl⟩
  ·cases hb
 refine⟨λ h b hb=>?_,λ h₁ h₂ b₁ b₂ r K₁ K₂ _ _ e1 e2=>?_,λ x hx=>hR.holds x (aau _ hx),λ h b r K hb e1 x hx=>?_⟩
 ·obtain⟨p,hp,rfl⟩:=key h b hb;obtain⟨hm,rfl⟩:=mL hp;obtain⟨g_,iS⟩:=fK ht p hm;refine⟨p.1,p.2.1.length,.cells ⟨p.2.1⟩ p.2.2 (0,0),by simp only[ql,if_pos g_,hp],?_,?_⟩
  ·exact hR.holds (gA p) (aav _ (List.mem_map.2 ⟨p,hm,rfl⟩))
  ·refine⟨rfl,by rw[eo];exact aaS _,rfl,λ i hi=>?_,λ _=>by simp⟩;rw[eo] at hi;refine⟨p.2.1[i],by simp[hi],?_⟩;rw[md hi];exact VRi.plain_refl _ (Dx iS (aa3 hi))
 ·unfold ql at e1 e2;split at e1
  ·split at e2
   ·simp only[Option.some.injEq,Prod.mk.injEq] at e1 e2;rw[e1.1,e2.1]
   ·cases e2
  ·cases e1
 ·obtain⟨p,hp,rfl⟩:=key h b hb;obtain⟨hm,rfl⟩:=mL hp;have hr:r=p.1:=by
   unfold ql at e1;split at e1
   ·simp only[Option.some.injEq,Prod.mk.injEq] at e1;exact e1.1.symm
   ·cases e1
  intro e;have hn:=hR.nodup;rw[List.map_append,List.nodup_append] at hn;exact hn.2.2 p.1 (by rw[List.map_map];exact List.mem_map.2 ⟨p,hm,rfl⟩) x.1 (List.mem_map.2 ⟨x,hx,rfl⟩) (by rw[e,hr])
def L0(H:AH)(p:PB):Bool:=match bE H p.1 with
 | some (.cells n t ty ww _)=>match Nat.beq n (gH p.2.1),Nat.beq ty p.2.2,Nat.beq ww 1 with
  | true,true,true=>rz (gV t 0 n) p.2.1
  | _,_,_=>false
 | _=>false
def tz(H:AH):List PB -> Bool
 | []=>true
 | p::l=>match L0 H p with
  | true=>tz H l
  | false=>false
theorem mM{H:AH}:∀ {l:List PB},tz H l=true -> ∀p∈l,L0 H p=true
 | [],_,p,hp=>by simp at hp
 | q::l,h,p,hp=>by
  rw[tz] at h;split at h
  ·rename_i h1;rcases List.mem_cons.1 hp with rfl|hp
   ·exact h1
   ·exact mM h p hp
  ·cases h
theorem vK{H:AH}:∀ {l:List PB},Du H l=true -> ∀p∈l,LZ H p=true
 | [],_,p,hp=>by simp at hp
 | q::l,h,p,hp=>by
  rw[Du] at h;split at h
  ·rename_i h1;rcases List.mem_cons.1 hp with rfl|hp
   ·exact h1
   ·exact vK h p hp
  ·cases h
theorem LR.plain_eq{ν:Nu}{l l':List Value}(h:LR ν l l'):uj l=true -> l'=l:=by
 induction h with
 | nil=>intro _;rfl
 | @cons v v' l l' h _ ih =>
  intro hp;rw[uj] at hp;split at hp
  ·rename_i hv;rw[VRi.plain_eq h hv,ih hp]
  ·cases hp
theorem xe{ν:Nu}{H:AH}(hH:HR ν H F w){p:PB}(hc:L0 H p=true)(hp:uj p.2.1=true)(hν:ν p.1=some (p.1,p.2.1.length)):w.heap[p.1]?=some (gA p).2.den /\ ∃b,bE H p.1=some b:=by
 unfold L0 at hc;split at hc
 case h_2=>cases hc
 rename_i n t ty ww ro hb;split at hc
 case h_2=>cases hc
 rename_i e1 e2 e3;have e1:=abf e1;have e2:=abf e2;have e3:=abf e3;have e4:=Dv _ _ hc;obtain⟨c,ty',fz,g1,g2⟩:=hH.cells hb hν;refine⟨?_,_,hb⟩;have hr:=ku g2.le g2.get n 0 (by omega);rw[e4] at hr;have hl:=hr.plain_eq hp;have C_:=g2.gr (by omega);rw[e3,Nat.mul_one] at C_;rw[eo] at e1;rw[g1,g2.ty,g2.fz,e2];simp only[gA,Blk.den];congr 2;apply Array.ext';rw[List.drop_zero] at hl;rw[<- hl,List.take_of_length_le];have:c.toList.length=c.size:=rfl;omega
theorem od:∀ {l:List PB},(l.map (·.1)).Nodup -> ∀ {p q:PB},p∈l -> q∈l -> q.1=p.1 -> q=p
 | [],_,p,q,hp,_,_=>by simp at hp
 | x::l,hd,p,q,hp,hq,e=>by
  simp only[List.map_cons,List.nodup_cons] at hd;rcases List.mem_cons.1 hp with h1|h1 <;> rcases List.mem_cons.1 hq with h2|h2
  ·rw[h1,h2]
  ·exact absurd (List.mem_map.2 ⟨q,h2,by rw[e,h1]⟩) hd.1
  ·exact absurd (List.mem_map.2 ⟨p,h1,by rw[<- e,h2]⟩) hd.1
  ·exact od hd.2 h1 h2 e
def Pg(tabs picks:List PB)(v0:Value):Option Rs -> Bool
 | some (.fn v H _)=>match ua v v0,mh v0,tz H tabs with
  | true,true,true=>Du H picks
  | _,_,_=>false
 | _=>false
theorem LR.plain_refl{ν:Nu}:∀ {l:List Value},uj l=true -> LR ν l l
 | [],_=>.nil
 | v::l,h=>by
  rw[uj] at h;split at h
  ·rename_i hv;exact .cons (VRi.plain_refl v hv) (LR.plain_refl h)
  ·cases h
theorem vL{P:Program}(hm:P.follows .mixedOrders=true){k n0:Nat}{f:FuncId}{args:List Value}{v0:Value}(hG:Nat.ble G n0=true)(ht:qZ G tabs=true)(ha:uj args=true)
  (Tl:(tabs.map (·.1)++picks.map (·.1)).Nodup) (bY:Pg tabs picks v0 (rB P G k (.fn f args (qk tabs) n0))=true) :
  Sp P f ⟨args⟩ (tabs.map gA) F λ v' H'=>∃ν rest,v'=lL ν v0 /\ H'=tabs.map gA++picks.map (tw ν rest):=by
 intro w hR;have hG:=bK hG;cases L_:rB P G k (.fn f args (qk tabs) n0) with
 | none=>rw[L_] at bY;cases bY
 | some res=>cases res with
  | cd e s=>rw[L_] at bY;cases bY
  | fn v H n' =>
   rw[L_] at bY;simp only[Pg] at bY;split at bY
   case h_2=>cases bY
   rename_i q1 q2 q3;rw[rY] at L_;obtain⟨hn,SU⟩:=rV hm k _ _ L_;have g_:∀p∈tabs,p.1<G:=λ p hp=>(fK ht p hp).1;refine(SU (ql tabs G) F w args (λ k hk=>⟨_,if_pos hk⟩) (λ h h1 h2=>by simp only[ql];rw[if_neg (by omega)]) (Je ht hR) (LR.plain_refl ha)).mono ?_;rintro e w' ⟨ν,v',rfl,hv,VE,hH,Xn⟩;rw[BP _ _ q1] at hv;have Vp:∀p∈tabs,ν p.1=ql tabs G p.1:=λ p hp=>VE.out _ (.inl (by have:=g_ p hp;omega));have Xh:∀p∈tabs,ν p.1=some (p.1,p.2.1.length):=λ p hp=>by
    rw[Vp p hp];simp only[ql,if_pos (g_ p hp)];congr 2;have hd:(tabs.map (·.1)).Nodup:=(List.nodup_append.1 Tl).1;cases hf:tabs.find? (λ q=>q.1 == p.1) with
    | none=>exact absurd (List.find?_eq_none.1 hf p hp) (by simp)
    | some q =>
     obtain⟨hq,S0⟩:=mL hf;have:q=p:=od hd hp hq S0;simp[this]
   have Vt:∀p∈tabs,w'.heap[p.1]?=some (gA p).2.den /\ ∃b,bE H p.1=some b:=λ p hp=>xe hH (mM q3 p hp) (fK ht p hp).2 (Xh p hp);have hpk:∀p∈picks,(∃K,ν p.1=some (mK ν p.1,K)) /\ (∃b,bE H p.1=some b) /\ w'.heap[mK ν p.1]?=some (tw ν (qj ν w') p).2.den:=λ p hp=>Jd hH (vK bY p hp);refine⟨v',tabs.map gA++picks.map (tw ν (qj ν w')),rfl,⟨ν,qj ν w',rZ hv q2,rfl⟩,⟨?_,?_⟩,Xn⟩
   ·intro x hx;rcases List.mem_append.1 hx with hx|hx
    ·rcases List.mem_append.1 hx with hx|hx
     ·obtain⟨p,hp,rfl⟩:=List.mem_map.1 hx;exact(Vt p hp).1
     ·obtain⟨p,hp,rfl⟩:=List.mem_map.1 hx;exact(hpk p hp).2.2
    ·exact hH.frm x hx
   ·-- the ad4 blocks
    have IT:∀h∈tabs.map (·.1)++picks.map (·.1),∃K b,ν h=some (mK ν h,K) /\ bE H h=some b:=λ h hh=>by
     rcases List.mem_append.1 hh with hh|hh
     ·obtain⟨p,hp,rfl⟩:=List.mem_map.1 hh;obtain⟨b,hb⟩:=(Vt p hp).2;exact⟨p.2.1.length,b,by simp[mK,Xh p hp],hb⟩
     ·obtain⟨p,hp,rfl⟩:=List.mem_map.1 hh;obtain⟨⟨K,h1⟩,⟨b,hb⟩,-⟩:=hpk p hp;exact⟨K,b,h1,hb⟩
    have e1:(tabs.map gA++picks.map (tw ν (qj ν w'))).map (·.1)=(tabs.map (·.1)++picks.map (·.1)).map (mK ν):=by
     simp only[List.map_append,List.map_map];congr 1;apply List.map_congr_left;intro p hp;simp[gA,mK,Xh p hp]
    rw[List.map_append,List.nodup_append,e1];refine⟨?_,?_,λ a ha b hb=>?_⟩
    ·rw[List.Nodup,List.pairwise_map];refine(List.pairwise_iff_forall_sublist.2 λ {a b} hs=>?_);have ha':=IT a (hs.subset (by simp));have TQ:=IT b (hs.subset (by simp));obtain⟨K1,b1,x1,x2⟩:=ha';obtain⟨K2,b2,y1,y2⟩:=TQ;intro e;have hab:a=b:=hH.inj _ _ _ _ _ _ _ x2 y2 x1 (by rw[e];exact y1);have:=Tl.sublist hs;simp[hab] at this
    ·have:=hR.nodup;rw[List.map_append,List.nodup_append] at this;exact this.2.1
    ·obtain⟨h,hh,rfl⟩:=List.mem_map.1 ha;obtain⟨x,hx,rfl⟩:=List.mem_map.1 hb;obtain⟨K,b,g1,g2⟩:=IT h hh;exact(hH.apt _ _ _ _ g2 g1 x hx).symm
end
end
theorem zI{P:Program}{f:FuncId}{args:Array Value}{x:Nat × Blk}{F:HL}{Q:Value -> HL -> Prop}(hx:x∈F)(h:∀F0,Sp P f args [x] F0 λ u H'=>∃Hp,Q u Hp /\ H'=[x]++Hp):Sp P f args [] F Q:=by
 obtain⟨l1,l2,rfl⟩:=List.append_of_mem hx;have hp:∀H:HL,([x]++H++(l1++l2)).Perm (H++(l1++x::l2)):=λ H=>by
  refine List.Perm.trans ?_ (List.Perm.append_left H List.perm_middle.symm);show (x::(H++(l1++l2))).Perm (H++x::(l1++l2));exact List.perm_middle.symm
 intro w hR;have TT:Rel ([x]++(l1++l2)) w:=hR.perm (by have:=hp [];simpa using this);refine(h (l1++l2) w TT).mono ?_;rintro e w' ⟨v,H',he,⟨Hp,hq,rfl⟩,G_,hb⟩;exact⟨v,Hp,he,hq,G_.perm (hp Hp).symm,hb⟩
noncomputable section
def iv(x:Int):Value:=.int .i64 x
def tC:List Value:=[iv 0,iv 0,iv 0,iv 1,iv 0,iv 1,iv 1,iv 0,iv 1,iv 1,iv 2,iv 0,iv 0,iv 1,iv 0,iv 1,iv 0,iv 1,iv 2,iv 1,iv 2,iv 1,iv 2,iv 1,iv 2,iv 1,iv 1,iv 1,iv 2,iv 1,iv 2,iv 1,iv 2,iv 1,iv 1,iv 1,iv 0,iv 0,iv 1,iv 0,iv 2,iv 0,iv 0,iv 0]
def gZ:List PB:=[(0,tC,302)]
def Ph:String:="on tick { n = n + 1; if n >= 3 { effect 1, n; n = 0; } }"
def Pi:String:="on act { vx[self] = vx[self] + 100 * other; effect 2, self; } on hit { a[self] = a[self] + 1; effect 3, other; }"
def Pj:String:="on hit { if hit[other] == self + 1 && a[self] < a[other] { vx[self] = -vx[self]; b[self] = tick; } else { stop; } effect 4, a[self]; }"
def Pk:String:="on tick { i = 0; while i < 4 { b[i] = b[i] + still[i]; i = i + 1; } s = s + x[0] / 100; effect 5, s; } on act { s = 0; }"
def Q2:List Value:=[iv 2,iv 0,iv 1,iv 1,iv 9,iv 0,iv 3,iv 0,iv 1,iv 3,iv 2,iv 0,iv 15,iv 0,iv 19,iv 14,iv 1,iv 1,iv 2,iv 0,iv 20,iv 0,iv 1,iv 0,iv 3,iv 0,iv 18,iv 14,iv 21,iv 0]
def Q3:List Value:=[iv 6,iv 0,iv 6,iv 0,iv 4,iv 2,iv 1,iv 100,iv 7,iv 0,iv 11,iv 0,iv 9,iv 0,iv 5,iv 2,iv 1,iv 2,iv 6,iv 0,iv 20,iv 0,iv 21,iv 0,iv 6,iv 0,iv 6,iv 0,iv 4,iv 4,iv 1,iv 1,iv 9,iv 0,iv 5,iv 4,iv 1,iv 3,iv 7,iv 0,iv 20,iv 0,iv 21,iv 0]
def Q4:List Value:=[iv 7,iv 0,iv 4,iv 6,iv 6,iv 0,iv 1,iv 1,iv 9,iv 0,iv 16,iv 0,iv 19,iv 13,iv 6,iv 0,iv 4,iv 4,iv 7,iv 0,iv 4,iv 4,iv 14,iv 0,iv 18,iv 14,iv 1,iv 0,iv 19,iv 24,iv 6,iv 0,iv 6,iv 0,iv 4,iv 2,iv 13,iv 0,iv 5,iv 2,iv 6,iv 0,iv 8,iv 0,iv 5,iv 5,iv 18,iv 25,iv 21,iv 0,iv 1,iv 4,iv 6,iv 0,iv 4,iv 4,iv 20,iv 0,iv 21,iv 0]
def Q5:List Value:=[iv 1,iv 0,iv 3,iv 0,iv 21,iv 0,iv 1,iv 0,iv 3,iv 1,iv 2,iv 1,iv 1,iv 4,iv 14,iv 0,iv 19,iv 21,iv 2,iv 1,iv 2,iv 1,iv 4,iv 5,iv 2,iv 1,iv 4,iv 7,iv 9,iv 0,iv 5,iv 5,iv 2,iv 1,iv 1,iv 1,iv 9,iv 0,iv 3,iv 1,iv 18,iv 5,iv 2,iv 0,iv 1,iv 0,iv 4,iv 0,iv 1,iv 100,iv 12,iv 0,iv 9,iv 0,iv 3,iv 0,iv 1,iv 5,iv 2,iv 0,iv 20,iv 0,iv 21,iv 0]
def FG(h len:Nat)(a b c:Int):Value:=.tuple ⟨[.agg ⟨[.slice (some ⟨h,0,none⟩) len mB,iv a,iv b,iv c]⟩,iv 0]⟩
def SI:Value:=.tuple ⟨[.agg ⟨[.slice none 0 0,iv (-1),iv (-1),iv (-1)]⟩,iv 0]⟩
def vM(src:String)(picks:List PB)(v:Value):Bool:=Pg gZ picks v (rB Tryz.prog 3 100000 (.fn 78 [.string src.toUTF8] (qk gZ) 3))
theorem mixed:Tryz.prog.follows .mixedOrders=true:=by kernel_rfl
theorem r6{src:String}{h:Nat}{cod:List Value}{ty:TypeId}{v:Value}{F:HL}(hh:h≠0)(hq:vM src [(h,cod,ty)] v=true) :
  Sp Tryz.prog 78 #[.string src.toUTF8] (gZ.map gA) F λ v' H'=>∃ν rest,v'=lL ν v /\ H'=gZ.map gA++[tw ν rest (h,cod,ty)] :=
 vL (G:=3) (tabs:=gZ) (picks:=[(h,cod,ty)]) mixed rfl rfl rfl (by simp[gZ,hh.symm]) hq
theorem L2:vM "" [] SI=true:=by kernel_rfl
end
theorem L3:vM Ph [(1095,Q2,129)] (FG 1095 15 (-1) 0 (-1))=true:=by kernel_rfl
theorem L4:vM Pi [(1804,Q3,129)] (FG 1804 22 0 (-1) 12)=true:=by kernel_rfl
theorem L5:vM Pj [(2348,Q4,129)] (FG 2348 30 (-1) (-1) 0)=true:=by kernel_rfl
theorem L6:vM Pk [(2279,Q5,129)] (FG 2279 32 0 3 (-1))=true:=by kernel_rfl
noncomputable section
def nv:Nat -> ByteArray
 | 0=>"".toUTF8
 | 1=>Ph.toUTF8
 | 2=>Pi.toUTF8
 | 3=>Pj.toUTF8
 | _=>Pk.toUTF8
def Jf:Nat -> List Value
 | 0=>[]
 | 1=>Q2
 | 2=>Q3
 | 3=>Q4
 | _=>Q5
def fP:Nat -> Nat
 | 0=>0
 | 1=>15
 | 2=>22
 | 3=>30
 | _=>32
def L7:Nat -> List Value
 | 0=>[iv (-1),iv (-1),iv (-1)]
 | 1=>[iv (-1),iv 0,iv (-1)]
 | 2=>[iv 0,iv (-1),iv 12]
 | 3=>[iv (-1),iv (-1),iv 0]
 | _=>[iv 0,iv 3,iv (-1)]
inductive PrgV(j:Nat):Value -> HL -> Prop
 | nil:j=0 -> PrgV j (.slice none 0 0) []
 | some (b cap:Nat) (rest:List Value):PrgV j (.slice (some ⟨b,0,none⟩) (fP j) cap) [(b,.lit (Jf j++rest) 129 (0,0))]
theorem mN(ν:Nu)(h len:Nat)(a b c:Int):lL ν (FG h len a b c)=.tuple ⟨[.agg ⟨[.slice (some ⟨mK ν h,0,none⟩) len (SH ν h mB),iv a,iv b,iv c]⟩,iv 0]⟩:=by
 simp only[FG,lL,Jc,tu,iv]
theorem Jg{j:Nat}(hj:j<5){F:HL}:Sp Tryz.prog 78 #[.string (nv j)] (gZ.map gA) F λ u H'=>∃s Hp,PrgV j s Hp /\ u=.tuple ⟨[.agg ⟨s::L7 j⟩,iv 0]⟩ /\ H'=gZ.map gA++Hp:=by
 match j,hj with
 | 0,_ =>
  refine(vL (G:=3) (tabs:=gZ) (picks:=[]) mixed rfl rfl rfl (by simp[gZ]) L2).mono ?_;rintro u H' ⟨ν,rest,rfl,rfl⟩;exact⟨_,[],.nil rfl,rfl,rfl⟩
 | 1,_ =>
  refine(r6 (by decide) L3).mono ?_;rintro u H' ⟨ν,rest,rfl,rfl⟩;exact⟨_,_,.some _ _ _,mN ..,rfl⟩
 | 2,_ =>
  refine(r6 (by decide) L4).mono ?_;rintro u H' ⟨ν,rest,rfl,rfl⟩;exact⟨_,_,.some _ _ _,mN ..,rfl⟩
 | 3,_ =>
  refine(r6 (by decide) L5).mono ?_;rintro u H' ⟨ν,rest,rfl,rfl⟩;exact⟨_,_,.some _ _ _,mN ..,rfl⟩
 | 4,_ =>
  refine(r6 (by decide) L6).mono ?_;rintro u H' ⟨ν,rest,rfl,rfl⟩;exact⟨_,_,.some _ _ _,mN ..,rfl⟩
theorem L8{j:Nat}(hj:j<5){F:HL}(hF:(0,Blk.lit tC 302 (0,0))∈F):Sp Tryz.prog 78 #[.string (nv j)] [] F λ u H'=>∃s,PrgV j s H' /\ u=.tuple ⟨[.agg ⟨s::L7 j⟩,iv 0]⟩ :=
 zI hF λ F0=>(Jg hj).mono λ u H' ⟨s,Hp,h1,h2,h3⟩=>⟨Hp,⟨s,h1,h2⟩,h3⟩
end
def bD(j k:Nat):Int:=match (L7 j)[k]? with|some (.int _ x)=>x|_=>0
def NE:List Value -> List Ins
 | .int _ a :: .int _ b::r=>⟨a,b⟩::NE r
 | _=>[]
def kz(j:Nat):List Ins:=NE (Jf j)
theorem zJ:∀ {j:Nat},j<5 -> (kz j).length=fP j
 | 0,_=>by kernel_rfl
 | 1,_=>by kernel_rfl
 | 2,_=>by kernel_rfl
 | 3,_=>by kernel_rfl
 | 4,_=>by kernel_rfl
 | j+5,h=>absurd h (by omega)
theorem BU:∀ {j:Nat},j<5 -> Jf j=aw lW (kz j)
 | 0,_=>by kernel_rfl
 | 1,_=>by kernel_rfl
 | 2,_=>by kernel_rfl
 | 3,_=>by kernel_rfl
 | 4,_=>by kernel_rfl
 | j+5,h=>absurd h (by omega)
theorem Dy:∀ {j:Nat},j<5 -> fP j <= 32
 | 0,_=>by decide
 | 1,_=>by decide
 | 2,_=>by decide
 | 3,_=>by decide
 | 4,_=>by decide
 | j+5,h=>absurd h (by omega)
theorem L9:∀ {j:Nat},j<5 -> L7 j=[vI (bD j 0),vI (bD j 1),vI (bD j 2)]
 | 0,_=>by kernel_rfl
 | 1,_=>by kernel_rfl
 | 2,_=>by kernel_rfl
 | 3,_=>by kernel_rfl
 | 4,_=>by kernel_rfl
 | j+5,h=>absurd h (by omega)
abbrev pk(F:HL):Prop:=(0,Blk.lit tC 302 (0,0))∈F
def SJ(F:HL)(j:Nat)(A:Option Addr):Prop:=0<fP j -> ∃b rest,A=some ⟨b,0,none⟩ /\ (b,Blk.lit (Jf j++rest) 129 (0,0))∈F
structure CodT(j:Nat)(A:Option Addr)(T:HL):Prop where
 src:∀F,(∀x∈T,x∈F) -> SrcIn Tryz.prog lW F A (fP j) (kz j)
 wrd:∀F,(∀x∈T,x∈F) -> SJ F j A
theorem Pl{j:Nat}(hj:j<5)(F:HL)(hE:pk F):Sp Tryz.prog 78 #[.string (nv j)] (ap [] []) F (λ u H'=>∃x:Option Addr × Nat × HL,H'=ap [] [x.2.2] /\ (u=.tuple #[.agg #[.slice x.1 (fP j) x.2.1,vI (bD j 0),vI (bD j 1),vI (bD j 2)],vI 0] /\ CodT j x.1 x.2.2)):=by
 refine(L8 hj hE).mono ?_;rintro u H' ⟨s,hp,rfl⟩;rw[L9 hj];cases hp with
 | nil h0 =>
  subst h0;exact⟨(none,0,[]),(cN _).symm,rfl,⟨λ F hF=>SrcIn.none,λ F hF h=>absurd h (by decide)⟩⟩
 | some b cap rest =>
  refine⟨(some ⟨b,0,none⟩,cap,[(b,.lit (Jf j++rest) 129 (0,0))]),(cN _).symm,rfl,⟨λ F hF=>?_,λ F hF h=>⟨b,rest,rfl,hF _ (List.mem_singleton.2 rfl)⟩⟩⟩;have h:=SrcIn.lit G3 (xs:=kz j) (rest:=rest) (ty:=129) (fz:=(0,0)) (F:=F) (q:=b) (by rw[<- BU hj];exact hF _ (List.mem_singleton.2 rfl));rw[zJ hj] at h;exact h
inductive Book1(j bp:Nat):HL -> Prop
 | mk (q:Nat) (A:Option Addr) (c:Nat) (T:HL) (h:CodT j A T):Book1 j bp (ap [(bp,.lit [vS q 0 1 1] 123 (0,0)),(q,.lit [vI 0,.slice A (fP j) c,vI (bD j 0),vI (bD j 1),vI (bD j 2)] 125 (0,0))] [T])
def Q6:List Value:=[.string ⟨#[]⟩,.string ⟨#[111,110,32,116,105,99,107,32,123,32,110,32,61,32,110,32,43,32,49,59,32,105,102,32,110,32,62,61,32,51,32,123,32,101,102,102,101,99,116,32,49,44,32,110,59,32,110,32,61,32,48,59,32,125,32,125]⟩,.string ⟨#[111,110,32,97,99,116,32,123,32,118,120,91,115,101,108,102,93,32,61,32,118,120,91,115,101,108,102,93,32,43,32,49,48,48,32,42,32,111,116,104,101,114,59,32,101,102,102,101,99,116,32,50,44,32,115,101,108,102,59,32,125,32,111,110,32,104,105,116,32,123,32,97,91,115,101,108,102,93,32,61,32,97,91,115,101,108,102,93,32,43,32,49,59,32,101,102,102,101,99,116,32,51,44,32,111,116,104,101,114,59,32,125]⟩,.string ⟨#[111,110,32,104,105,116,32,123,32,105,102,32,104,105,116,91,111,116,104,101,114,93,32,61,61,32,115,101,108,102,32,43,32,49,32,38,38,32,97,91,115,101,108,102,93,32,60,32,97,91,111,116,104,101,114,93,32,123,32,118,120,91,115,101,108,102,93,32,61,32,45,118,120,91,115,101,108,102,93,59,32,98,91,115,101,108,102,93,32,61,32,116,105,99,107,59,32,125,32,101,108,115,101,32,123,32,115,116,111,112,59,32,125,32,101,102,102,101,99,116,32,52,44,32,97,91,115,101,108,102,93,59,32,125]⟩,.string ⟨#[111,110,32,116,105,99,107,32,123,32,105,32,61,32,48,59,32,119,104,105,108,101,32,105,32,60,32,52,32,123,32,98,91,105,93,32,61,32,98,91,105,93,32,43,32,115,116,105,108,108,91,105,93,59,32,105,32,61,32,105,32,43,32,49,59,32,125,32,115,32,61,32,115,32,43,32,120,91,48,93,32,47,32,49,48,48,59,32,101,102,102,101,99,116,32,53,44,32,115,59,32,125,32,111,110,32,97,99,116,32,123,32,115,32,61,32,48,59,32,125]⟩]
def Pm:Nat -> Nat -> Value:=λ i k=>match k with|0=>.string (nv i)|_=>default
theorem zK(F:HL):Sp Tryz.prog 79 #[] (ap [] []) F (λ u H'=>∃q:Nat,H'=ap [(q,.lit Q6 9 (0,0))] [] /\ u=vS q 0 5 5):=by
 refine aas Tryz.func79 rfl mn (A:=[]) (Ts:=[]) rfl λ w0=>?_;refine ae 11 [] λ n1=>aap [] [0] [] (v:=vS (n1+0) 0 5 5) (H':=(ap [((n1+0),.lit Q6 9 (0,0))] [])) ?_;exact⟨_,rfl,rfl⟩
theorem BV(n:Int)(F:HL)(hn:rp n):Sp Tryz.prog 36 #[vI n] [] F (λ u H'=>u=.string (nv (aB n 5).toNat) /\ H'=[]):=by
 refine aas Tryz.func36 rfl mn (A:=[]) (Ts:=[]) rfl λ w0=>?_;refine ae 7 [] λ _=>aai (Hp:=[]) (Tp:=[]) [] [] (zK _) ?_;rintro _ q1 rfl;refine ae 1 [] λ _=>aah (gF n 5 (by decide) _) ?_;have hA2:=eC (n:=n) hn 5 (by decide);refine aaj 0 (.rows 1 5 Pm 9 (0,0))<|ai 5 [.ix ((aB n 5).toNat),.row 0 ((aB n 5).toNat) 0] [(0+((aB n 5).toNat)*1)=((aB n 5).toNat)*1+0 /\ ((aB n 5).toNat)<5,aB n 5=(((aB n 5).toNat:Nat):Int) /\ (aB n 5).toNat<5] λ _=>?_;exact aap [] [] [] ⟨rfl,rfl⟩
theorem zL(j:Nat)(F:HL)(hj:j<5)(hE:pk F):Sp Tryz.prog 35 #[.string (nv j)] (ap [] []) F (λ u H'=>∃x:Nat × HL,H'=ap [] [x.2] /\ (u=.tuple #[vP x.1 0,vI 0] /\ Book1 j x.1 x.2)):=by
 refine aas Tryz.func35 rfl mn (A:=[]) (Ts:=[]) rfl λ w0=>?_;refine ae 9 [] λ _=>aai (Hp:=[]) (Tp:=[]) [] [] (Pl hj _ (aq hE)) ?_;rintro _ ⟨A1,c2,T3⟩ ⟨rfl,hC4⟩;dsimp only at hC4;refine ae 29 (ow 0 8) λ n5=>aap [] [0,1] [0] (v:=.tuple #[vP (n5+2) 0,vI 0]) (H':=(ap [((n5+2),.lit [vS (n5+1) 0 1 1] 123 (0,0)),((n5+1),.lit [vI 0,.slice A1 (fP j) c2,vI (bD j 0),vI (bD j 1),vI (bD j 2)] 125 (0,0))] [T3])) ?_;exact⟨((n5+2),ap [((n5+2),.lit [vS (n5+1) 0 1 1] 123 (0,0)),((n5+1),.lit [vI 0,.slice A1 (fP j) c2,vI (bD j 0),vI (bD j 1),vI (bD j 2)] 125 (0,0))] [T3]),by simp[ap],rfl,.mk _ _ _ _ hC4⟩
theorem Jh(q2 q3 bp q j:Nat)(A:Option Addr)(c:Nat)(t:Int)(F:HL)(h2:(q2,.lit [vP bp 0] 33 (0,0))∈F)(h3:(q3,.lit [vI t] 3 (0,0))∈F)(hb:(bp,.lit [vS q 0 1 1] 123 (0,0))∈F)(hq:(q,.lit [vI 0,.slice A (fP j) c,vI (bD j 0),vI (bD j 1),vI (bD j 2)] 125 (0,0))∈F)(ht:0 <= t):Sp Tryz.prog 42 #[vI 0,vP q2 0,vP q3 0] [] F (λ u H'=>u=.bool false /\ H'=[]):=by
 refine aas Tryz.func42 rfl (mc h2 (mc h3 (mc hb (mc hq mn)))) (A:=[]) (Ts:=[]) rfl λ w0=>?_;refine ae 6 [] λ _=>aak [] []<|ag [] [0,4,8,1,2,3,5,6,7,9,10] [.ro 0,.ro 1,.ro 2,.ro 3]<|aad<|ae 1 [] λ _=>aap [] [] [] (v:=.bool (decide (0>t))) (H':=[]) ?_;exact⟨congrArg Value.bool (abz (by omega)),rfl⟩
theorem zM(q2 q3 bp q j:Nat)(A:Option Addr)(c:Nat)(t:Int)(F:HL)(h2:(q2,.lit [vP bp 0] 33 (0,0))∈F)(h3:(q3,.lit [vI t] 3 (0,0))∈F)(hb:(bp,.lit [vS q 0 1 1] 123 (0,0))∈F)(hq:(q,.lit [vI 0,.slice A (fP j) c,vI (bD j 0),vI (bD j 1),vI (bD j 2)] 125 (0,0))∈F)(ht:0 <= t):Sp Tryz.prog 41 #[vI 1,.func (.func 42) #[] #[vP q2 0,vP q3 0]] [] F (λ u H'=>u=vI 1 /\ H'=[]):=by
 refine aas Tryz.func41 rfl (mc h2 (mc h3 (mc hb (mc hq mn)))) (A:=[]) (Ts:=[]) rfl λ w0=>?_;refine ae 14 [] λ _=>aaq 3<|ae 27 [] λ _=>aah (Jh q2 q3 bp q j A c t _ (aq h2) (aq h3) (aq hb) (aq hq) ht)<|ae 31 [] λ _=>?_;exact aap [] [] [] ⟨rfl,rfl⟩
theorem Ma(bp q j:Nat)(A:Option Addr)(c:Nat)(t:Int)(F:HL)(hb:(bp,.lit [vS q 0 1 1] 123 (0,0))∈F)(hq:(q,.lit [vI 0,.slice A (fP j) c,vI (bD j 0),vI (bD j 1),vI (bD j 2)] 125 (0,0))∈F)(ht:0 <= t)(hj:j<5)(hC:SrcIn Tryz.prog lW F A (fP j) (kz j)):Sp Tryz.prog 15 #[vP bp 0,vI t] [] F (λ u H'=>∃x:Option Addr × Nat × HL,H'=ap [] [x.2.2] /\ (u=.tuple #[vI 0,.agg #[.slice x.1 (fP j) x.2.1,vI (bD j 0),vI (bD j 1),vI (bD j 2)]] /\ ClS lW 129 (kz j) x.1 x.2.1 x.2.2)):=by
 refine aas Tryz.func15 rfl (mc hb (mc hq mn)) (A:=[]) (Ts:=[]) rfl λ w0=>?_;refine ae 16 [.own 2,.ro 0] λ n1=>aah (zM (n1+0) (n1+1) bp q j A c t _ (au 2) (au 1) (aq hb) (aq hq) ht)<|ae 26 [.own 2,.ro 0,.ro 1,.ro 1,.ro 1,.ro 1,.own 0,.own 0,.own 0,.own 0] λ n2=>aak [8] []<|ag [] [0,1,4,2,5] (aab 4)<|aae 3 (aaf [] (Hp:=[]) (Tp:=[]) [] [] (uh A (fP j) c (kz j) _ hC.up (by have:=Dy hj;omega)) ?_);rintro _ ⟨A3,c4,T5⟩ ⟨rfl,hc6⟩;dsimp only at hc6;refine ag [] [6,7] []<|aae 8 (aag [] [.own 1,.own 1,.own 1,.own 1] λ _=>?_);refine aad<|ae 1 [] λ _=>aap [.own 1,.own 1,.own 1,.own 1] [] [0] (v:=.tuple #[vI 0,.agg #[.slice A3 (fP j) c4,vI (bD j 0),vI (bD j 1),vI (bD j 2)]]) (H':=(ap [] [T5])) ?_;exact⟨(A3,c4,T5),rfl,rfl,hc6⟩
theorem Mb{j bp:Nat}{TB F:HL}(hB:Book1 j bp TB)(hT:∀x∈TB,x∈F)(hj:j<5)(t:Int)(ht:0 <= t):Sp Tryz.prog 15 #[vP bp 0,vI t] (ap [] []) F (λ u H'=>∃x:Option Addr × Nat × HL,H'=ap [] [x.2.2] /\ (u=.tuple #[vI 0,.agg #[.slice x.1 (fP j) x.2.1,vI (bD j 0),vI (bD j 1),vI (bD j 2)]] /\ ClS lW 129 (kz j) x.1 x.2.1 x.2.2)):=by
 cases hB with
 | mk q A c T h=>exact Ma bp q j A c t F (hT _ (by simp[ap])) (hT _ (by simp[ap])) ht hj (h.src F λ x hx=>hT x (by simp[ap,hx]))
open Go.Shelf
def SpD(P:Program)(f:FuncId)(args:Array Value)(H F:HL)(R:Value -> HL -> Prop):Prop :=
 ∀w,Rel (H++F) w -> CallsDIn (Wr none) 0 P f args .returning w λ e u' w'=>u'=.returning /\ ∃v H',e=.returned v /\ R v H' /\ Rel (H'++F) w' /\ Below 0 w w'
theorem SpD.mono{P:Program}{f:FuncId}{args:Array Value}{H F:HL}{R R':Value -> HL -> Prop}(h:SpD P f args H F R)(hr:∀v H',R v H' -> R' v H'):SpD P f args H F R' :=
 λ w hR=>(h w hR).mono λ e u' w' ⟨h0,v,H',h1,h2,h3,h4⟩=>⟨h0,v,H',h1,hr _ _ h2,h3,h4⟩
section
variable {r:Option Nat} {P:Program} {N:Nat} {D:List Deferred} {F:HL} {w0:World} {R:HL} {s:Cfg} {Q:Exit -> Act -> World -> Prop}
def dfR(N:Nat)(s:Cfg):Option (FuncId × Array Value × Array Value):=match fN s with
 | some o=>match o.guard,o.op,(dV N o.dst undef s.L).isSome with
  | none,.defer c,true=>match c.callee with
   | .value f=>match gB s.L f && c.args.toList.all (gB s.L) with
    | true=>match fG s.L f with
     | .func (.func g) first cap=>some (g,first++c.args.map (fG s.L),cap)
     | _=>none
    | false=>none
   | _=>none
  | _,_,_=>none
 | none=>none
abbrev Q7(g:FuncId)(args cap:Array Value):Deferred:={ target:=.fn (.func g) cap,args:=args }
theorem Dz{L:FL}{a:Act}(hF:Fm N D L a):∀ (l:List Operand),l.all (gB L)=true -> l.map a.eval=l.map (fG L)
 | [],_=>rfl
 | x::l,h=>by
  rw[List.all_cons,abe] at h;rw[List.map_cons,List.map_cons,hF.eval h.1,Dz hF l h.2]
theorem NF{g:FuncId}{args cap:Array Value}(hk:RN none P N (Q7 g args cap::D) F w0 R (eH N undef s) Q)(h:dfR N s=some (g,args,cap):=by kernel_rfl):RN none P N D F w0 R s Q:=by
 refine⟨λ hR a w hF aT hB=>?_⟩;obtain⟨cc,kk,L,A,Ts⟩:=s;unfold dfR at h;split at h
 case h_2=>cases h
 rename_i o q0;split at h
 case h_2=>cases h
 rename_i c q1 q2 q3;split at h
 case h_2=>cases h
 rename_i f q4;split at h
 case h_2=>cases h
 rename_i q5;split at h
 case h_2=>cases h
 rename_i g' first f_ q6
 simp only[Option.some.injEq,Prod.mk.injEq] at h;obtain⟨e1,e2,e3⟩:=h;subst e1;subst e2;subst e3;unfold fN at q0;cases cc with
 | code c=>cases q0
 | ex c=>cases q0
 | drw _ _=>cases q0
 | ops ops j =>
  simp only at q0 q3 q5 q6 hF aT;have rW:ops.toList.drop j=o::ops.toList.drop (j+1):=by
   have g_:j<ops.toList.length:=(List.getElem?_eq_some_iff.1 q0).1;rw[List.drop_eq_getElem_cons g_,(List.getElem?_eq_some_iff.1 q0).2]
  show wpListIn _ _ _ _ _ _ _ _;rw[rW,wpListIn,if_pos (by simp[Region.wanted,q1])];refine⟨λ _ _=>trivial,?_⟩;rw[abe] at q5;obtain⟨L',hl⟩:=dU q3 undef;have Tf:eH N undef ⟨.ops ops j,kk,L,A,Ts⟩=⟨.ops ops (j+1),kk,L',A,Ts⟩:=by
   unfold eH;simp only[q0,hl]
  have hh:=hk.h hR;rw[Tf] at hh;have V1:c.args.map a.eval=c.args.map (fG L):=by
   apply Array.ext';rw[Array.toList_map,Array.toList_map];exact Dz hF _ q5.2
  have e1:a.eval f=.func (.func g') first f_:=(hF.eval q5.1).trans q6
  have hex:(o.semAt (Wr none).round a.eval).run P w=.ok (.defer (Q7 g' (first++c.args.map (fG L)) f_)) w:=by
   show (Oper.semAt none a.eval o).run P w=_;rw[Oper.semAt_none];simp only[execOp,q2,resolve,q4,e1,Deferred.ofValue,abp,V1];rfl
  rw[hex,Oper.uponIn_defer];have Th:Fm N (Q7 g' (first++c.args.map (fG L)) f_::D) L { a with defers:=Q7 g' (first++c.args.map (fG L)) f_::a.defers }:=⟨hF.size,by rw[<- hF.defs],hF.has⟩;exact hh _ w (Th.put hl) aT hB
def ctC(i:Nat)(s:Cfg):Cfg:=match s with
 | ⟨c,k,L,A,Ts⟩=>match A[i]? with
  | some x=>⟨c,k,L,(oth [i] A.length).filterMap (A[·]?),[x]::Ts⟩
  | none=>⟨c,k,L,A,Ts⟩
theorem Ji(i:Nat)(hk:RN r P N D F w0 R (ctC i s) Q)(h:([i]++oth [i] s.A.length).isPerm (List.range s.A.length)=true:=by kernel_rfl):RN r P N D F w0 R s Q:=by
 refine⟨λ hR a w h1 h2 h3=>?_⟩;have h4:=hk.h hR a w;obtain⟨c,k,L,A,Ts⟩:=s;unfold ctC at h4;simp only at h4 h h1 h2;split at h4
 case h_2=>exact h4 h1 h2 h3
 rename_i x hx;have hp:=fc A [i] (oth [i] A.length) h;simp only[List.filterMap_cons,hx,List.filterMap_nil,List.cons_append,List.nil_append] at hp;refine h4 h1 (h2.perm (aa8 F ?_)) h3;show ((oth [i] A.length).filterMap (A[·]?)++([x]++Ts.flatten)).Perm (A++Ts.flatten);rw[<- aaF];refine aa8 _ (List.Perm.trans ?_ hp);exact aa7
structure LV(P:Program)(N:Nat)(D:List Deferred)(F:HL)(w0:World)(R:HL)(fn:Func)(R':Value -> HL -> Prop)(s:Cfg):Prop where
 h:(∀y∈R,y∈F) -> ∀a w,Fm N D s.L a -> Rel (ap s.A s.Ts++F) w -> Below 0 w0 w -> LeavesInM (Wr none) 0 P fn a.tmps (CC F w0 R') a.defers .returning w
theorem Jj{fn:Func}{R':Value -> HL -> Prop}(hk:LV P N D F w0 R fn R' s)(hc:nL s=true:=by kernel_rfl):RN none P N D F w0 R s (bodyPostM (Wr none) 0 P fn (CC F w0 R')):=by
 refine⟨λ hR a w hF aT hB=>?_⟩;have key:=hk.h hR a w hF aT hB;exact pL hc key key
def Q8(ip jp:List Nat)(Hq:HL)(Tq:List HL)(s:Cfg):Cfg:=xP (λ A=>Hq++(oth ip A.length).filterMap (A[·]?)) (λ Ts=>Tq++(oth jp Ts.length).filterMap (Ts[·]?)) s
theorem NG{τ:Type}{fn:Func}{R':Value -> HL -> Prop}{g:FuncId}{args cap:Array Value}(eg:∀args w,(callFunc g args).run P w=.ok (.enter g args) w)(ip jp:List Nat){Hp:HL}{Tp:List HL}{Hq:τ -> HL}{Tq:τ -> List HL}{Rv:Value -> τ -> Prop}
  (hc:SpD P g (args++cap) (ap Hp Tp) (ap (fm ip s) (gn jp s)++F) (λ v H'=>∃x,H'=ap (Hq x) (Tq x) /\ Rv v x)) (hk:∀v x,Rv v x -> LV P N D F w0 R fn R' (Q8 ip jp (Hq x) (Tq x) s))
  (hp:cg ip jp s=true:=by kernel_rfl) (hH:picks ip jp s=(Hp,Tp):=by kernel_rfl):LV P N (Q7 g args cap::D) F w0 R fn R' s:=by
 unfold cg at hp;unfold picks at hH;rw[abe] at hp;simp only[Prod.mk.injEq] at hH;obtain⟨e1,e2⟩:=hH;refine⟨λ hR a w hF aT hB=>?_⟩;have AT:(ap Hp Tp++ap (fm ip s) (gn jp s)).Perm (ap s.A s.Ts):=by
  have h1:=mu s.A s.Ts ip (oth ip s.A.length) jp (oth jp s.Ts.length) hp.1 hp.2;rw[e1,e2] at h1;exact h1
 have TT:Rel (ap Hp Tp++(ap (fm ip s) (gn jp s)++F)) w:=by rw[<- aaF];exact aT.perm (AT.append_right F)
 rw[hF.defs];refine⟨by simp,.inr ⟨(λ h=>by cases h),.func g,cap,g,args++cap,rfl,?_,λ _ _=>trivial,?_⟩⟩
 ·show (callFunc g (args++cap)).run P w=_;exact eg _ _
 ·refine(hc w TT).mono ?_;rintro e u' w' ⟨rfl,v,H',rfl,⟨x,rfl,hv⟩,UE,VK⟩;have:=(hk v x hv).h hR { a with defers:=D } w' ⟨hF.size,rfl,hF.has⟩ ?_ (hB.trans VK)
  ·exact this
  ·unfold Q8;rw[rJ.1,rJ.2.1];refine UE.perm ?_;exact(wp _ _ _ _ _).symm
theorem Mc{fn:Func}{R':Value -> HL -> Prop}(hints:List Hint)(Ob:List Prop)(iD:AllP Ob)(ip jp:List Nat){v:Value}{H':HL}(hv:R' v H')
  (h:∀n0,j6 P n0 fn.results.toList R hints s=some (v,oI (j6 P n0 fn.results.toList R hints s),oI (j6 P n0 fn.results.toList R hints s),Ob):=by intro n0;kernel_rfl)
  (hp:cg ip jp s=true:=by kernel_rfl) (hH:ap (picks ip jp s).1 (picks ip jp s).2=H':=by kernel_rfl):LV P N [] F w0 R fn R' s:=by
 unfold cg at hp;unfold picks at hH;refine⟨λ hR a w hF aT hB=>?_⟩;rw[abe] at hp;have h':=h w.heap.size;unfold j6 AD at h';split at h'
 case h_2=>cases h'
 rename_i vs ss hs;split at h'
 case h_2=>cases h'
 simp only[oI,Option.some.injEq,Prod.mk.injEq] at h';obtain⟨e1,-,e3,e4⟩:=h';have bY:=j4 (P:=P) hF aT fn.results.toList _ _ _ hs rfl rfl hR (λ e=>by cases e) (gq rfl e3) (by rw[e4];exact fl iD);subst e1;rw[hF.defs];exact⟨_,jD (by simp) bY,_,H',rfl,hv,aT.takeT ip _ jp _ hp.1 hp.2 hH,hB⟩
theorem LV.ret{fn:Func}{R':Value -> HL -> Prop}(hints:List Hint)(ip jp:List Nat){v:Value}{H':HL}(hv:R' v H')
 (h:∀n0,j6 P n0 fn.results.toList R hints s=some (v,oI (j6 P n0 fn.results.toList R hints s),oI (j6 P n0 fn.results.toList R hints s),[]):=by intro n0;kernel_rfl)
 (hp:cg ip jp s=true:=by kernel_rfl) (hH:ap (picks ip jp s).1 (picks ip jp s).2=H':=by kernel_rfl):LV P N [] F w0 R fn R' s:=Mc hints [] trivial ip jp hv h hp hH
end
end Go.Proofs.YtghjbimijeinfaaGreatDoor
