import Derived.Test.YtjokannbjmndfaaGreatDoorZ23
set_option linter.all false
set_option maxHeartbeats 4000000
set_option maxRecDepth 100000
namespace Go.Proofs.YtjokannbjmndfaaGreatDoor
open Go.RowKit
variable {G N:Nat} {P:Program} {fn:Func} {o:Oper} {ops:Array Oper} (m:Nat) (a b:Int) (n:Nat)
noncomputable section
inductive CzV where|mk (f:Tr Value->Value)
inductive CzS where|mk (f:Value->Tr Value->Tr Value)
abbrev Ih:=Task->Option Rs
inductive CzR where|mk (f:Ih->Option Nat->Tr Value->List Deferred->AH->Nat->Option St)
inductive CzC where|mk (f:Ih->Option Nat->Tr Value->List Deferred->AH->Nat->Option (Ex×St))
inductive CzF where|mk (f:Ih->List Value->AH->Nat->Option Rs)
inductive CzA where|mk (f:Tr Value->List Value)
def CzV.f:CzV->Tr Value->Value | .mk f=>f
def CzS.f:CzS->Value->Tr Value->Tr Value | .mk f=>f
def CzR.f:CzR->Ih->Option Nat->Tr Value->List Deferred->AH->Nat->Option St | .mk f=>f
def CzC.f:CzC->Ih->Option Nat->Tr Value->List Deferred->AH->Nat->Option (Ex×St) | .mk f=>f
def CzF.f:CzF->Ih->List Value->AH->Nat->Option Rs | .mk f=>f
def CzA.f:CzA->Tr Value->List Value | .mk f=>f
def eO{α:Type}(v:Value)(x:Value->α):α:=match v with
 | .bool b=>x (.bool b)
 | .int k n=>x (.int k n)
 | .float k b=>x (.float k b)
 | .complex k a b=>x (.complex k a b)
 | .string s=>x (.string s)
 | .pointer a=>x (.pointer a)
 | .slice a l c=>x (.slice a l c)
 | .map r=>x (.map r)
 | .chan r=>x (.chan r)
 | .func f a c=>x (.func f a c)
 | .nilFunc=>x .nilFunc
 | .iface t v=>x (.iface t v)
 | .nilIface=>x .nilIface
 | .agg c=>x (.agg c)
 | .tuple c=>x (.tuple c)
theorem cw{α:Type}(v:Value)(x:Value->α):eO v x=x v:=by cases v <;> rfl
def Ca{α:Type}(l:List Value):(List Value->α)->α:=List.rec (motive:=λ _=>(List Value->α)->α) (λ x=>x []) (λ v _ ih x=>eO v λ v=>ih λ l=>x (v::l)) l
theorem vf{α:Type}:∀ (l:List Value) (x:List Value->α),Ca l x=x l
 | [],x=>rfl
 |v::l,x=>by
  show eO v (λ v=>Ca l λ l=>x (v::l))=_;rw[cw,vf l]
def wH:List Bool->CzV
 | []=>.mk λ T=>Tr.rec (motive:=λ _=>Value) undef (λ v _ _ _ _=>v) T
 |b::p=>match wH p with
  | .mk f=>match b with
   |true=>.mk λ T=>Tr.rec (motive:=λ _=>Value) undef (λ _ _ r _ _=>f r) T
   |false=>.mk λ T=>Tr.rec (motive:=λ _=>Value) undef (λ _ l _ _ _=>f l) T
theorem qZ:∀ (p:List Bool) (T:Tr Value),(wH p).f T=fY undef p T
 | [],T=>by cases T <;> rfl
 |b::p,T=>by
  have ih:=qZ p;cases h:wH p with
  |mk f=>
   rw[h] at ih;cases b <;> simp only[wH,h,CzV.f] <;> cases T <;> first|rfl|exact ih _
def Cb:List Bool->CzS
 | []=>.mk λ x T=>Tr.rec (motive:=λ _=>Tr Value) (.nd x .lf .lf) (λ _ l r _ _=>.nd x l r) T
 |b::p=>match Cb p with
  | .mk f=>match b with
   |true=>.mk λ x T=>Tr.rec (motive:=λ _=>Tr Value) (.nd undef .lf (f x .lf)) (λ v l r _ _=>.nd v l (f x r)) T
   |false=>.mk λ x T=>Tr.rec (motive:=λ _=>Tr Value) (.nd undef (f x .lf) .lf) (λ v l r _ _=>.nd v (f x l) r) T
theorem Dp(x:Value):∀ (p:List Bool) (T:Tr Value),(Cb p).f x T=dL undef x p T
 | [],T=>by cases T <;> rfl
 |b::p,T=>by
  have ih:=Dp x p;cases h:Cb p with
  |mk f=>
   rw[h] at ih;simp only[CzS.f] at ih;cases b <;> simp only[Cb,h,CzS.f] <;> cases T <;> simp only[ih] <;> rfl
def cv:Operand->CzV
 | .tmp t=>wH (pth t)
 | .const v=>.mk λ _=>v
 | .global g=>.mk λ _=>.pointer (some ⟨g,0,none⟩)
 | .func f=>.mk λ _=>.func (.func f) #[] #[]
theorem Ok(x:Operand)(T:Tr Value):(cv x).f T=ael T x:=by
 cases x with
 |tmp t=>exact qZ _ _
 |const v=>rfl
 |global g=>rfl
 |func f=>rfl
def ca:List Operand->CzA
 | []=>.mk λ _=>[]
 |x::l=>match cv x,ca l with
  | .mk f,.mk g=>.mk λ T=>f T::g T
theorem Ol:∀ (l:List Operand) (T:Tr Value),(ca l).f T=nj T l
 | [],T=>rfl
 |x::l,T=>by
  have h1:=Ok x T;have h2:=Ol l T;cases hx:cv x with
  |mk f=>cases hl:ca l with
   |mk g=>
    rw[hx] at h1;rw[hl] at h2;simp only[CzV.f] at h1;simp only[CzA.f] at h2;simp only[ca,hx,hl,CzA.f,nj,h1,h2]
inductive CzD where
 |no
 |ok (f:Value->Tr Value->Tr Value)
 |bad
def iE(N:Nat):Option Tmp->CzD
 |none=>.no
 |some d=>match Nat.blt d N with
  |true=>match Cb (pth d) with
   | .mk f=>.ok f
  |false=>.bad
theorem Dq{d:Option Tmp}{f}(h:iE N d=.ok f)(v:Value)(T:Tr Value):fm N d v T=some (f v T):=by
 cases d with
 |none=>simp[iE] at h
 |some d=>
  simp only[iE] at h;cases hb:Nat.blt d N <;> rw[hb] at h
  ·simp at h
  ·cases hs:Cb (pth d) with
   |mk g=>
    simp only[hs,CzD.ok.injEq] at h;subst h;have:=Dp v (pth d) T;rw[hs] at this;simp only[CzS.f] at this;simp only[fm,hb,this];rfl
theorem Ds{d:Option Tmp}(h:iE N d=.no)(v:Value)(T:Tr Value):fm N d v T=some T:=by
 cases d with
 |none=>rfl
 |some d=>
  simp only[iE] at h;cases hb:Nat.blt d N <;> rw[hb] at h
  ·simp at h
  ·cases hs:Cb (pth d) with
   |mk g=>simp[hs] at h
def cO(P:Program)(G N:Nat)(ops:Array Oper)(o:Oper)(k:Ih->Option Nat->Tr Value->List Deferred->AH->Nat->Option St)(ih:Ih)(r:Option Nat)(T:Tr Value)(D:List Deferred)(H:AH)(n:Nat):Option St:=match eD ops o T with
 |none=>none
 |some false=>match fm N o.dst undef T with
  |some T=>k ih r T D H n
  |none=>none
 |some true=>match jW P G ih r o T H n with
  |none=>none
  |some (.val v H n)=>eO v λ v=>match fm N o.dst v T with
   |some T=>k ih r T D H n
   |none=>none
  |some (.dfr d)=>match fm N o.dst undef T with
   |some T=>k ih r T (d::D) H n
   |none=>none
def CzR.okL(P:Program)(G N:Nat)(ops:Array Oper)(l:List Oper)(k:Ih->Option Nat->Tr Value->List Deferred->AH->Nat->Option St):Prop:=∀ih r T D H n,k ih r T D H n=mN P G ih r N ops l ⟨T,D,H,n⟩
theorem MG{l:List Oper}{k}(h:CzR.okL P G N ops l k)(o:Oper):CzR.okL P G N ops (o::l) (cO P G N ops o k):=by
 intro ih r T D H n;simp only[cO,mN];cases eD ops o T with
 |none=>rfl
 |some b=>
  cases b with
  |false=>cases fm N o.dst undef T with
   |none=>rfl
   |some T'=>exact h _ _ _ _ _ _
  |true=>cases jW P G ih r o T H n with
   |none=>rfl
   |some x=>cases x with
    |val v H' n'=>simp only[cw];cases hp:fm N o.dst v T with
     |none=>simp only[hp]
     |some T'=>simp only[hp];exact h _ _ _ _ _ _
    |dfr d=>cases hp:fm N o.dst undef T with
     |none=>simp only[hp]
     |some T'=>simp only[hp];exact h _ _ _ _ _ _
def oC(N:Nat)(o:Oper)(k:Ih->Option Nat->Tr Value->List Deferred->AH->Nat->Option St)(ih:Ih)(r:Option Nat)(T:Tr Value)(D:List Deferred)(v:Value)(H:AH)(n:Nat):Option St:=match fm N o.dst v T with
 |some T=>k ih r T D H n
 |none=>none
theorem pL{P:Program}{G N:Nat}{ops:Array Oper}{o:Oper}{k}(hg:o.guard=none)(ho:nH G o=true)(hc:tj P o.op=.pu)(ih:Ih)(r:Option Nat)(T:Tr Value)(D:List Deferred)(H:AH)(n:Nat) :
  cO P G N ops o k ih r T D H n=match gQ P o T with
   |some v=>oC N o k ih r T D v H n
   |none=>none:=by
 simp only[nH] at ho;cases hl:i9 o.op with
 |none=>rw[hl] at ho;simp at ho
 |some l=>
  rw[hl] at ho;simp only at ho;simp only[cO,eD,hg,jW,De,hl,ho,hc];cases gQ P o T with
  |none=>rfl
  |some v=>simp only[cw];rfl
theorem JG{P:Program}{G N:Nat}{ops:Array Oper}{o:Oper}{k}(hg:o.guard=none)(ho:nH G o=true)(hc:tj P o.op=.lo)(ih:Ih)(r:Option Nat)(T:Tr Value)(D:List Deferred)(H:AH)(n:Nat) :
  cO P G N ops o k ih r T D H n=match jy P o T H with
   |some v=>oC N o k ih r T D v H n
   |none=>none:=by
 simp only[nH] at ho;cases hl:i9 o.op with
 |none=>rw[hl] at ho;simp at ho
 |some l=>
  rw[hl] at ho;simp only at ho;simp only[cO,eD,hg,jW,De,hl,ho,hc];cases jy P o T H with
  |none=>rfl
  |some v=>simp only[cw];rfl
theorem PC{P:Program}{G N:Nat}{ops:Array Oper}{o:Oper}{k}(hg:o.guard=none)(ho:nH G o=true)(hc:tj P o.op=.nw)(ih:Ih)(r:Option Nat)(T:Tr Value)(D:List Deferred)(H:AH)(n:Nat) :
  cO P G N ops o k ih r T D H n=match tM P o T with
   |some (b,m)=>oC N o k ih r T D (m.val n) (cJ H n (some b)) (n+1)
   |none=>none:=by
 simp only[nH] at ho;cases hl:i9 o.op with
 |none=>rw[hl] at ho;simp at ho
 |some l=>
  rw[hl] at ho;simp only at ho;simp only[cO,eD,hg,jW,De,hl,ho,hc];cases tM P o T with
  |none=>rfl
  |some v=>simp only[Pu,cw];rfl
theorem PD{k}(hg:o.guard=none)(ho:nH G o=true)(hc:tj P o.op=.ef)(ih:Ih)(r:Option Nat){T:Tr Value}(D:List Deferred){H:AH}{n:Nat}{v:Value}{H':AH}{n':Nat}(he:nk P o T H n=some (.val v H' n')) :
  cO P G N ops o k ih r T D H n=oC N o k ih r T D v H' n':=by
 simp only[nH] at ho;cases hl:i9 o.op with
 |none=>rw[hl] at ho;simp at ho
 |some l=>
  rw[hl] at ho;simp only at ho;simp only[cO,eD,hg,jW,De,hl,ho,hc,he,cw];rfl
theorem Dt{P:Program}{G N:Nat}{ops:Array Oper}{o:Oper}{k}(hg:o.guard=none)(ho:nH G o=true)(hc:tj P o.op=.ef)(ih:Ih)(r:Option Nat){T:Tr Value}(D:List Deferred){H:AH}{n:Nat}{f:FuncId}{args:List Value}(he:nk P o T H n=some (.ent f args)) :
  cO P G N ops o k ih r T D H n=match ih (.fn f args H n) with
   |some (.fn v H n)=>oC N o k ih r T D v H n
   |_=>none:=by
 simp only[nH] at ho;cases hl:i9 o.op with
 |none=>rw[hl] at ho;simp at ho
 |some l=>
  rw[hl] at ho;simp only at ho;simp only[cO,eD,hg,jW,De,hl,ho,hc,he];cases ih (.fn f args H n) with
  |none=>rfl
  |some x=>cases x <;> simp only[cw] <;> rfl
end
noncomputable section
abbrev Kt:=Ih->Option Nat->Tr Value->List Deferred->AH->Nat->Option St
def kN(k:IntKind):Nat:=IntKind.rec (motive:=λ _=>Nat) 0 1 2 3 4 5 6 7 k
def To(a b:IntKind):Bool:=Nat.beq (kN a) (kN b)
theorem PE(a b:IntKind):To a b=decide (a=b):=by cases a <;> cases b <;> rfl
def Qz(a b:Int):Bool:=match a,b with
 | .ofNat m,.ofNat n=>Nat.blt m n
 | .negSucc _,.ofNat _=>true
 | .ofNat _,.negSucc _=>false
 | .negSucc m,.negSucc n=>Nat.blt n m
theorem Du:Nat.blt m n=decide (m<n):=by
 by_cases h:m<n
 ·simp[Nat.blt_eq,h]
 ·rw[abv h];cases hb:Nat.blt m n
  ·rfl
  ·exact absurd (Eq.mp Nat.blt_eq hb) h
theorem JH:Qz a b=decide (a<b):=by
 cases a with
 |ofNat m=>cases b with
  |ofNat n=>
   simp only[Qz,Du];exact decide_eq_decide.2 (Int.ofNat_lt).symm
  |negSucc n=>exact(abv (show ¬ ((m:Int)<Int.negSucc n) by omega)).symm
 |negSucc m=>cases b with
  |ofNat n=>exact(abw (show Int.negSucc m<(n:Int) by omega)).symm
  |negSucc n=>
   simp only[Qz,Du];exact decide_eq_decide.2 (by omega)
def PF(b:Bool):Bool:=match b with
 |true=>false
 |false=>true
theorem Dv(b:Bool):PF b=!b:=by cases b <;> rfl
def SE(a b:Int):Bool:=PF (Qz b a)
theorem PG:SE a b=decide (a<=b):=by
 rw[SE,Dv,JH]
 by_cases h:b<a
 ·rw[abw h,abv (by omega)];rfl
 ·rw[abv h,abw (by omega)];rfl
def RB(a b:Int):Bool:=match a,b with
 | .ofNat m,.ofNat n=>Nat.beq m n
 | .negSucc m,.negSucc n=>Nat.beq m n
 |_,_=>false
theorem Dw:Nat.beq m n=decide (m=n):=by
 by_cases h:m=n
 ·rw[abw h];exact Eq.mpr Nat.beq_eq h
 ·rw[abv h];cases hb:Nat.beq m n
  ·rfl
  ·exact absurd (Eq.mp Nat.beq_eq hb) h
theorem PH:RB a b=(a == b):=by
 have e:(a == b)=decide (a=b):=rfl;rw[e];cases a with
 |ofNat m=>cases b with
  |ofNat n=>
   simp only[RB,Dw];exact decide_eq_decide.2 (Int.ofNat_inj (m:=m) (n:=n)).symm
  |negSucc n=>rfl
 |negSucc m=>cases b with
  |ofNat n=>rfl
  |negSucc n=>
   simp only[RB,Dw];exact decide_eq_decide.2 (by simp)
def MH:BinOp->Option (Int->Int->Bool)
 | .lss=>some λ a b=>Qz a b
 | .leq=>some λ a b=>SE a b
 | .gtr=>some λ a b=>Qz b a
 | .geq=>some λ a b=>SE b a
 | .eql=>some λ a b=>RB a b
 | .neq=>some λ a b=>PF (RB a b)
 |_=>none
theorem MI{op:BinOp}{q}(h:MH op=some q)(a b:Int):I2 op a b=some (q a b):=by
 cases op <;> simp only[MH,de,reduceCtorEq] at h <;> subst h <;> simp only[I2,JH,PG,PH,Dv] <;> rfl
section
variable (P:Program) (G N:Nat) (ops:Array Oper) (o:Oper) (k:Kt) (g:Value->Tr Value->Tr Value)
def SF(f:Tr Value->Value)(ih:Ih)(r:Option Nat)(T:Tr Value)(D:List Deferred)(H:AH)(n:Nat):Option St:=eO (f T) λ v=>k ih r (g v T) D H n
def RC(u:Value)(x y:Option St):Option St:=match u with
 | .bool b=>match b with
  |true=>x
  |false=>y
 |_=>none
def JI(f fa fb:Tr Value->Value)(ih:Ih)(r:Option Nat)(T:Tr Value)(D:List Deferred)(H:AH)(n:Nat):Option St:=RC (f T) (eO (fa T) λ v=>k ih r (g v T) D H n) (eO (fb T) λ v=>k ih r (g v T) D H n)
def RE(u:Value)(x y:Option St):Option St:=match u with
 | .pointer p=>match p with
  |some _=>x
  |none=>y
 |_=>y
def PI(f:Tr Value->Value)(ih:Ih)(r:Option Nat)(T:Tr Value)(D:List Deferred)(H:AH)(n:Nat):Option St:=RE (f T) (eO (f T) λ v=>k ih r (g v T) D H n) (cO P G N ops o k ih r T D H n)
def RF(q:Int->Int->Bool)(u v:Value)(x:Bool->Option St)(y:Option St):Option St:=match u with
 | .int ka a=>match v with
  | .int kb b=>match To ka kb with
   |true=>match q a b with
    |true=>x true
    |false=>x false
   |false=>y
  |_=>y
 |_=>y
def PJ(q:Int->Int->Bool)(f1 f2:Tr Value->Value)(ih:Ih)(r:Option Nat)(T:Tr Value)(D:List Deferred)(H:AH)(n:Nat):Option St:=RF q (f1 T) (f2 T) (λ b=>k ih r (g (.bool b) T) D H n) (cO P G N ops o k ih r T D H n)
def Tt(c:Nat)(u:Value)(x:Value->Option St):Option St:=match u with
 | .pointer p=>match p with
  |some a=>match a with
   | ⟨b,off,s⟩=>match c with
    |0=>x (.pointer (some ⟨b,off,s⟩))
    |c+1=>x (.pointer (some ⟨b,off+(c+1),none⟩))
  |none=>none
 |_=>none
def PK(c:Nat)(f:Tr Value->Value)(ih:Ih)(r:Option Nat)(T:Tr Value)(D:List Deferred)(H:AH)(n:Nat):Option St:=Tt c (f T) λ v=>k ih r (g v T) D H n
def ldB(off:Nat)(s:Option Nat)(b:Option AB)(x:Value->Option St):Option St:=match s with
 |none=>match b with
  |some c=>match c with
   | .cells n tr _ _ _=>match Nat.blt off n with
    |true=>eO (cK tr off) x
    |false=>none
   |_=>none
  |none=>none
 |some _=>none
def ldR(H:AH)(u:Value)(x:Value->Option St):Option St:=match u with
 | .pointer p=>match p with
  |some a=>match a with
   | ⟨b,off,s⟩=>ldB off s (bS H b) x
  |none=>none
 |_=>none
def Tv(f:Tr Value->Value)(ih:Ih)(r:Option Nat)(T:Tr Value)(D:List Deferred)(H:AH)(n:Nat):Option St:=ldR H (f T) λ v=>k ih r (g v T) D H n
def laB(off c:Nat)(s:Option Nat)(b:Option AB)(x:Value->Option St):Option St:=match s with
 |none=>match b with
  |some ab=>match ab with
   | .cells n tr _ _ _=>match Nat.ble (off+c) n with
    |true=>Ca (gR tr off c) λ l=>x (.agg ⟨l⟩)
    |false=>none
   |_=>none
  |none=>none
 |some _=>none
def laR(c:Nat)(H:AH)(u:Value)(x:Value->Option St):Option St:=match u with
 | .pointer p=>match p with
  |some a=>match a with
   | ⟨b,off,s⟩=>laB off c s (bS H b) x
  |none=>none
 |_=>none
def Tw(c:Nat)(f:Tr Value->Value)(ih:Ih)(r:Option Nat)(T:Tr Value)(D:List Deferred)(H:AH)(n:Nat):Option St:=laR c H (f T) λ v=>k ih r (g v T) D H n
def alF(b:AB)(ih:Ih)(r:Option Nat)(T:Tr Value)(D:List Deferred)(H:AH)(n:Nat):Option St:=k ih r (g (.pointer (some ⟨n,0,none⟩)) T) D (cJ H n (some b)) (n+1)
def ixR(c:Nat)(u i:Value)(x:Value->Option St):Option St:=match u with
 | .slice p m _=>match p with
  |some a=>match i with
   | .int _ i=>match i with
    | .ofNat i=>match Nat.blt i m with
     |true=>match a with
      | ⟨b,off,s⟩=>match i*c with
       |0=>x (.pointer (some ⟨b,off,s⟩))
       |j+1=>x (.pointer (some ⟨b,off+(j+1),none⟩))
     |false=>none
    |_=>none
   |_=>none
  |none=>none
 |_=>none
def Ty(c:Nat)(f1 f2:Tr Value->Value)(ih:Ih)(r:Option Nat)(T:Tr Value)(D:List Deferred)(H:AH)(n:Nat):Option St:=ixR c (f1 T) (f2 T) λ v=>k ih r (g v T) D H n
def stB(off:Nat)(s:Option Nat)(v:Value)(b:Option AB)(x:AB->Option St)(y:Option St):Option St:=match s with
 |none=>match b with
  |some c=>match c with
   | .cells n tr ty w ro=>match ro with
    |false=>match Nat.blt off n with
     |true=>x (.cells n (tK tr off v) ty w false)
     |false=>y
    |true=>y
   |_=>y
  |none=>y
 |some _=>y
def Dx(v:Value):Bool:=match v with
 | .agg _=>false
 | .tuple _=>false
 |_=>true
def stR(H:AH)(u v:Value)(x:Nat->AB->Option St)(y:Option St):Option St:=match Dx v with
 |true=>match u with
  | .pointer p=>match p with
   |some a=>match a with
    | ⟨b,off,s⟩=>eO v λ v=>stB off s v (bS H b) (x b) y
   |none=>y
  |_=>y
 |false=>y
def TA(f1 f2:Tr Value->Value)(ih:Ih)(r:Option Nat)(T:Tr Value)(D:List Deferred)(H:AH)(n:Nat):Option St:=stR H (f1 T) (f2 T) (λ b ab=>k ih r T D (cJ H b (some ab)) n) (cO P G N ops o k ih r T D H n)
def SG(x:Option Rs)(y:Value->AH->Nat->Option St):Option St:=match x with
 |some x=>match x with
  | .fn v H n=>eO v λ v=>y v H n
  | .cd _ _=>none
 |none=>none
def TC(f:FuncId)(as:Tr Value->List Value)(ih:Ih)(r:Option Nat)(T:Tr Value)(D:List Deferred)(H:AH)(n:Nat):Option St:=SG (ih (.fn f (as T) H n)) λ v H n=>k ih r (g v T) D H n
def TE(f:FuncId)(as:Tr Value->List Value)(ih:Ih)(r:Option Nat)(T:Tr Value)(D:List Deferred)(H:AH)(n:Nat):Option St:=SG (ih (.fn f (as T) H n)) λ v H n=>k ih r T D H n
end
section
variable {P:Program} {G N:Nat} {ops:Array Oper} {o:Oper} {k:Kt} {g:Value->Tr Value->Tr Value}
theorem fH(hd:iE N o.dst=.ok g)(ih:Ih)(r:Option Nat)(T:Tr Value)(D:List Deferred)(v:Value)(H:AH)(n:Nat):oC N o k ih r T D v H n=k ih r (g v T) D H n:=by
 rw[oC,Dq hd]
theorem Dy(hd:iE N o.dst=.no)(ih:Ih)(r:Option Nat)(T:Tr Value)(D:List Deferred)(v:Value)(H:AH)(n:Nat):oC N o k ih r T D v H n=k ih r T D H n:=by
 rw[oC,Ds hd]
theorem Om(hg:o.guard=none)(ho:nH G o=true)(hd:iE N o.dst=.ok g){x:Operand}(hx:o.op=.move x\/o.op=.assign x){f}(hf:∀T,f T=ael T x)(ih r T D H n):SF k g f ih r T D H n=cO P G N ops o k ih r T D H n:=by
 have hc:tj P o.op=.pu:=by cases hx with|inl h=>rw[h];rfl|inr h=>rw[h];rfl
 have hp:gQ P o T=some (ael T x):=by unfold gQ;cases hx with|inl h=>rw[h]|inr h=>rw[h]
 rw[pL hg ho hc,hp,SF,hf,cw];exact(fH hd ..).symm
theorem MJ(hg:o.guard=none)(ho:nH G o=true)(hd:iE N o.dst=.ok g){c a b:Operand}(hx:o.op=.pick c a b){f fa fb}(hf:∀T,f T=ael T c)(hfa:∀T,fa T=ael T a)(hfb:∀T,fb T=ael T b)(ih r T D H n):JI k g f fa fb ih r T D H n=cO P G N ops o k ih r T D H n:=by
 rw[pL hg ho (by rw[hx];rfl)];unfold gQ;rw[hx];simp only[JI,hf,hfa,hfb,cw];cases ael T c with
 |bool q=>cases q <;> exact(fH hd ..).symm
 |_=>rfl
theorem PL(hg:o.guard=none)(ho:nH G o=true)(hd:iE N o.dst=.ok g){x:Operand}(hx:o.op=.nilCheck x){f}(hf:∀T,f T=ael T x)(ih r T D H n):PI P G N ops o k g f ih r T D H n=cO P G N ops o k ih r T D H n:=by
 simp only[PI,hf];cases he:ael T x with
 |pointer p=>cases p with
  |none=>rfl
  |some a=>
   rw[pL hg ho (by rw[hx];rfl)];unfold gQ;rw[hx];simp only[he,RE,cw];exact(fH hd ..).symm
 |_=>rfl
theorem PM(hg:o.guard=none)(ho:nH G o=true)(hd:iE N o.dst=.ok g){op t x y z}(hx:o.op=.binOp op t x y z){q}(hq:MH op=some q){f1 f2}(hf1:∀T,f1 T=ael T x)(Wi:∀T,f2 T=ael T y)(ih r T D H n):PJ P G N ops o k g q f1 f2 ih r T D H n=cO P G N ops o k ih r T D H n:=by
 simp only[PJ,hf1,Wi];cases he:ael T x with
 |int ka a=>cases he2:ael T y with
  |int kb b=>
   simp only[RF];cases hk:To ka kb with
   |false=>rfl
   |true=>
    rw[pL hg ho (by rw[hx];rfl)];unfold gQ;rw[hx];rw[PE] at hk;simp only[he,he2,MI hq,hk];cases q a b <;> exact(fH hd ..).symm
  |_=>rfl
 |_=>rfl
theorem PN(hg:o.guard=none)(ho:nH G o=true)(hd:iE N o.dst=.ok g){t x j}(hx:o.op=.fieldAddr t x j){c ft}(hc:yS P t j=some (c,ft)){f}(hf:∀T,f T=ael T x)(ih r T D H n):PK k g c f ih r T D H n=cO P G N ops o k ih r T D H n:=by
 rw[pL hg ho (by rw[hx];rfl)];unfold gQ;rw[hx];simp only[PK,hf,hc];cases he:ael T x with
 |pointer p=>cases p with
  |none=>rfl
  |some a=>cases a with
   |mk b off s=>cases c with
    |zero=>exact(fH hd ..).symm
    |succ c=>exact(fH hd ..).symm
 |_=>rfl
theorem RG(hg:o.guard=none)(ho:nH G o=true)(hd:iE N o.dst=.ok g){t x}(hx:o.op=.load t x)(hc:yR P t=true){f}(hf:∀T,f T=ael T x)(ih r T D H n):Tv k g f ih r T D H n=cO P G N ops o k ih r T D H n:=by
 rw[JG hg ho (by rw[hx];rfl)];unfold jy;rw[hx];simp only[Tv,hf];cases he:ael T x with
 |pointer p=>cases p with
  |none=>rfl
  |some a=>cases a with
   |mk b off s=>
    cases s with
    |some s=>rfl
    |none=>
     simp only[ldR,uK];cases bS H b with
     |none=>rfl
     |some c=>cases c with
      |cells nn tr ty w ro=>
       simp only[ldB,hc];cases Nat.blt off nn
       ·rfl
       ·simp only[cw];exact(fH hd ..).symm
      |_=>rfl
 |_=>rfl
theorem RH(hg:o.guard=none)(ho:nH G o=true)(hd:iE N o.dst=.ok g){t x}(hx:o.op=.load t x)(hc:yR P t=false){c}(ha:BN P t=some c){f}(hf:∀T,f T=ael T x)(ih r T D H n):Tw k g c f ih r T D H n=cO P G N ops o k ih r T D H n:=by
 rw[JG hg ho (by rw[hx];rfl)];unfold jy;rw[hx];simp only[Tw,hf];cases he:ael T x with
 |pointer p=>cases p with
  |none=>rfl
  |some a=>cases a with
   |mk b off s=>
    cases s with
    |some s=>rfl
    |none=>
     simp only[laR,uK];cases bS H b with
     |none=>rfl
     |some ab=>cases ab with
      |cells nn tr ty w ro=>
       simp only[laB,hc,ha];cases Nat.ble (off+c) nn
       ·rfl
       ·simp only[vf];exact(fH hd ..).symm
      |_=>rfl
 |_=>rfl
theorem RI(hg:o.guard=none)(ho:nH G o=true)(hd:iE N o.dst=.ok g){t}(hx:o.op=.alloc t){z}(hz:kW P t=some z){b}(hb:jG z t=b)(ih r T D H n):alF k g b ih r T D H n=cO P G N ops o k ih r T D H n:=by
 rw[PC hg ho (by rw[hx];rfl)];unfold tM;rw[hx];simp only[hz,hb];exact(fH hd ..).symm
theorem RJ(hg:o.guard=none)(ho:nH G o=true)(hd:iE N o.dst=.ok g){t x i}(hx:o.op=.indexAddr t x i){el c}(ht:P.underlying t=some (.slice el))(hc:eZ P el=some c){f1 f2}(hf1:∀T,f1 T=ael T x)(Wi:∀T,f2 T=ael T i)(ih r T D H n):Ty k g c f1 f2 ih r T D H n=cO P G N ops o k ih r T D H n:=by
 rw[pL hg ho (by rw[hx];rfl)];unfold gQ;rw[hx];simp only[Ty,hf1,Wi,ht];cases he:ael T x with
 |slice p m cc=>cases p with
  |none=>rfl
  |some a=>cases a with
   |mk b off s=>cases he2:ael T i with
    |int ki i=>cases i with
     |ofNat i=>
      simp only[ixR,Ly,hc];cases Nat.blt i m with
      |false=>rfl
      |true=>
       simp only[BP];cases i*c with
       |zero=>exact(fH hd ..).symm
       |succ j=>exact(fH hd ..).symm
     |negSucc i=>rfl
    |_=>rfl
 |_=>cases he2:ael T i <;> rfl
theorem RK(hg:o.guard=none)(ho:nH G o=true)(hd:iE N o.dst=.no){t x y}(hx:o.op=.store t x y)(ht:eZ P t=some 1){f1 f2}(hf1:∀T,f1 T=ael T x)(Wi:∀T,f2 T=ael T y)(ih r T D H n):TA P G N ops o k f1 f2 ih r T D H n=cO P G N ops o k ih r T D H n:=by
 simp only[TA,hf1,Wi];unfold stR;cases UY:Dx (ael T y) with
 |false=>rfl
 |true=>
  cases he:ael T x with
  |pointer p=>cases p with
   |none=>rfl
   |some a=>cases a with
    |mk b off s=>cases s with
     |some s=>simp only[cw];rfl
     |none=>
      simp only[cw];cases hb:bS H b with
      |none=>rfl
      |some c=>cases c with
       |cells nn tr ty w ro=>cases ro with
        |true=>rfl
        |false=>
         simp only[stB];cases iN:Nat.blt off nn with
         |false=>rfl
         |true=>
          have Q_:hO (ael T y)=[ael T y]:=by
           cases hv:ael T y <;> first|rfl|(rw[hv] at UY;simp[Dx] at UY)
          have hff:jV [ael T y]=true:=by
           cases hv:ael T y <;> first|rfl|(rw[hv] at UY;simp[Dx] at UY)
          have hle:Nat.ble (off+1) nn=true:=iN;have YP:nk P o T H n=some (.val undef (cJ H b (some (.cells nn (tK tr off (ael T y)) ty w false))) n):=by
           unfold nk;rw[hx];simp only[he,wz,ht,Q_,gv,pC,hb,hle,hff];rfl
          rw[PD hg ho (by rw[hx];rfl) ih r D YP];exact(Dy hd ..).symm
       |_=>rfl
  |_=>rfl
theorem JK{f:FuncId}{c:Call}(hx:o.op=.call c)(hc:c.callee=.value (.func f))(hb:sf P f=true)(T H n):nk P o T H n=some (.ent f (nj T c.args.toList)):=by
 unfold nk;rw[hx];simp only[hc,ael,qW,hb];simp
theorem JL{f:FuncId}{c:Call}(hx:o.op=.call c)(hc:c.callee=.value (.func f)):tj P o.op=.ef:=by
 rw[hx];obtain⟨ce,a,t⟩:=c;simp only at hc;subst hc;rfl
theorem RL(hg:o.guard=none)(ho:nH G o=true)(hd:iE N o.dst=.ok g){f:FuncId}{c:Call}(hx:o.op=.call c)(hc:c.callee=.value (.func f))(hb:sf P f=true){as}(ha:∀T,as T=nj T c.args.toList)(ih r T D H n):TC k g f as ih r T D H n=cO P G N ops o k ih r T D H n:=by
 rw[Dt hg ho (JL hx hc) ih r D (JK hx hc hb T H n),TC,ha];cases ih (.fn f (nj T c.args.toList) H n) with
 |none=>rfl
 |some x=>cases x with
  |cd _ _=>rfl
  |fn v H n=>simp only[SG,cw];exact(fH hd ..).symm
theorem PO(hg:o.guard=none)(ho:nH G o=true)(hd:iE N o.dst=.no){f:FuncId}{c:Call}(hx:o.op=.call c)(hc:c.callee=.value (.func f))(hb:sf P f=true){as}(ha:∀T,as T=nj T c.args.toList)(ih r T D H n):TE k f as ih r T D H n=cO P G N ops o k ih r T D H n:=by
 rw[Dt hg ho (JL hx hc) ih r D (JK hx hc hb T H n),TE,ha];cases ih (.fn f (nj T c.args.toList) H n) with
 |none=>rfl
 |some x=>cases x with
  |cd _ _=>rfl
  |fn v H n=>simp only[SG,cw];exact(Dy hd ..).symm
end
end
noncomputable section
def TF(P:Program)(G N:Nat)(ops:Array Oper)(o:Oper)(k:Kt)(g:Value->Tr Value->Tr Value):CzR:=match o.op with
 | .move x=>match cv x with
  | .mk f=>.mk (SF k g f)
 | .assign x=>match cv x with
  | .mk f=>.mk (SF k g f)
 | .pick c a b=>match cv c with
  | .mk f=>match cv a with
   | .mk fa=>match cv b with
    | .mk fb=>.mk (JI k g f fa fb)
 | .nilCheck x=>match cv x with
  | .mk f=>.mk (PI P G N ops o k g f)
 | .binOp op _ x y _=>match MH op with
  |some q=>match cv x with
   | .mk f1=>match cv y with
    | .mk f2=>.mk (PJ P G N ops o k g q f1 f2)
  |none=>.mk (cO P G N ops o k)
 | .fieldAddr t x j=>match yS P t j with
  |some (c,_)=>match cv x with
   | .mk f=>.mk (PK k g c f)
  |none=>.mk (cO P G N ops o k)
 | .load t x=>match yR P t with
  |true=>match cv x with
   | .mk f=>.mk (Tv k g f)
  |false=>match BN P t with
   |some c=>match cv x with
    | .mk f=>.mk (Tw k g c f)
   |none=>.mk (cO P G N ops o k)
 | .alloc t=>match kW P t with
  |some z=>match jG z t with
   | .cells a b c d e=>.mk (alF k g (.cells a b c d e))
   |_=>.mk (cO P G N ops o k)
  |none=>.mk (cO P G N ops o k)
 | .indexAddr t x i=>match P.underlying t with
  |some (.slice el)=>match eZ P el with
   |some c=>match cv x with
    | .mk f1=>match cv i with
     | .mk f2=>.mk (Ty k g c f1 f2)
   |none=>.mk (cO P G N ops o k)
  |_=>.mk (cO P G N ops o k)
 | .call c=>match c.callee with
  | .value (.func f)=>match sf P f with
   |true=>match ca c.args.toList with
    | .mk as=>.mk (TC k g f as)
   |false=>.mk (cO P G N ops o k)
  |_=>.mk (cO P G N ops o k)
 |_=>.mk (cO P G N ops o k)
def TG(P:Program)(G N:Nat)(ops:Array Oper)(o:Oper)(k:Kt):CzR:=match o.op with
 | .store t x y=>match eZ P t with
  |some 1=>match cv x with
   | .mk f1=>match cv y with
    | .mk f2=>.mk (TA P G N ops o k f1 f2)
  |_=>.mk (cO P G N ops o k)
 | .call c=>match c.callee with
  | .value (.func f)=>match sf P f with
   |true=>match ca c.args.toList with
    | .mk as=>.mk (TE k f as)
   |false=>.mk (cO P G N ops o k)
  |_=>.mk (cO P G N ops o k)
 |_=>.mk (cO P G N ops o k)
def JM(P:Program)(G N:Nat)(ops:Array Oper)(o:Oper)(k:Kt):CzR:=match nH G o with
 |true=>match iE N o.dst with
  | .ok g=>TF P G N ops o k g
  | .no=>TG P G N ops o k
  | .bad=>.mk (cO P G N ops o k)
 |false=>.mk (cO P G N ops o k)
def GO(o:Oper):Oper:=⟨o.dst,o.op,o.type,o.pos,o.after,none⟩
def TH(want:Bool)(u:Value)(x y:Option St):Option St:=match u with
 | .bool b=>match b with
  |true=>match want with
   |true=>x
   |false=>y
  |false=>match want with
   |true=>y
   |false=>x
 | .tuple _=>y
 |_=>none
def guF(want:Bool)(f:Tr Value->Value)(h:Kt)(k:Kt)(g:Value->Tr Value->Tr Value)(ih:Ih)(r:Option Nat)(T:Tr Value)(D:List Deferred)(H:AH)(n:Nat):Option St:=TH want (f T) (h ih r T D H n) (k ih r (g undef T) D H n)
def guN(want:Bool)(f:Tr Value->Value)(h:Kt)(k:Kt)(ih:Ih)(r:Option Nat)(T:Tr Value)(D:List Deferred)(H:AH)(n:Nat):Option St:=TH want (f T) (h ih r T D H n) (k ih r T D H n)
def PP(P:Program)(G N:Nat)(ops:Array Oper)(o:Oper)(nx:CzR):CzR:=match nx with
 | .mk k=>match o.guard with
  |none=>JM P G N ops o k
  |some (j,want)=>match (ops[j]?).bind (·.dst) with
   |some d=>match wH (pth d) with
    | .mk f=>match JM P G N ops (GO o) k with
     | .mk h=>match iE N o.dst with
      | .ok g=>.mk (guF want f h k g)
      | .no=>.mk (guN want f h k)
      | .bad=>.mk (cO P G N ops o k)
   |none=>.mk (cO P G N ops o k)
def FV(P:Program)(G N:Nat)(ops:Array Oper):List Oper->CzR
 | []=>.mk λ _ _ T D H n=>some ⟨T,D,H,n⟩
 |o::l=>PP P G N ops o (FV P G N ops l)
def JN(P:Program)(G N:Nat)(ops:Array Oper)(o:Oper)(k:Kt)(c:CzR):Prop:=∀ih r T D H n,c.f ih r T D H n=cO P G N ops o k ih r T D H n
theorem du{k:Kt}:JN P G N ops o k (.mk (cO P G N ops o k)):=λ _ _ _ _ _ _=>rfl
theorem Av{x:Operand}{f}(h:cv x=.mk f)(T:Tr Value):f T=ael T x:=by
 have:=Ok x T;rw[h] at this;exact this
theorem cam{x:List Operand}{f}(h:ca x=.mk f)(T:Tr Value):f T=nj T x:=by
 have:=Ol x T;rw[h] at this;exact this
theorem PQ{k:Kt}{g}(hg:o.guard=none)(ho:nH G o=true)(hd:iE N o.dst=.ok g):JN P G N ops o k (TF P G N ops o k g):=by
 unfold TF;split
 ·rename_i x hx;split;rename_i f hf;exact λ ih r T D H n=>Om hg ho hd (.inl hx) (Av hf) ih r T D H n
 ·rename_i x hx;split;rename_i f hf;exact λ ih r T D H n=>Om hg ho hd (.inr hx) (Av hf) ih r T D H n
 ·rename_i c a b hx;split;rename_i f hf;split;rename_i fa hfa;split;rename_i fb hfb;exact λ ih r T D H n=>MJ hg ho hd hx (Av hf) (Av hfa) (Av hfb) ih r T D H n
 ·rename_i x hx;split;rename_i f hf;exact λ ih r T D H n=>PL hg ho hd hx (Av hf) ih r T D H n
 ·rename_i op t x y z hx;split
  ·rename_i q hq;split;rename_i f hf;split;rename_i f2 Wi;exact λ ih r T D H n=>PM hg ho hd hx hq (Av hf) (Av Wi) ih r T D H n
  ·exact du
 ·rename_i t x j hx;split
  ·rename_i c ft hc;split;rename_i f hf;exact λ ih r T D H n=>PN hg ho hd hx hc (Av hf) ih r T D H n
  ·exact du
 ·rename_i t x hx;split
  ·rename_i hc;split;rename_i f hf;exact λ ih r T D H n=>RG hg ho hd hx hc (Av hf) ih r T D H n
  ·rename_i hc;split
   ·rename_i c ha;split;rename_i f hf;exact λ ih r T D H n=>RH hg ho hd hx hc ha (Av hf) ih r T D H n
   ·exact du
 ·rename_i t hx;split
  ·rename_i z hz;split
   ·rename_i a b c d e hb;exact λ ih r T D H n=>RI hg ho hd hx hz hb ih r T D H n
   ·exact du
  ·exact du
 ·rename_i t x i hx;split
  ·rename_i el ht;split
   ·rename_i c hc;split;rename_i f hf;split;rename_i f2 Wi;exact λ ih r T D H n=>RJ hg ho hd hx ht hc (Av hf) (Av Wi) ih r T D H n
   ·exact du
  ·exact du
 ·rename_i c hx;split
  ·rename_i f hc;split
   ·rename_i hb;split;rename_i as ha;exact λ ih r T D H n=>RL hg ho hd hx hc hb (cam ha) ih r T D H n
   ·exact du
  ·exact du
 ·exact du
theorem PT{k:Kt}(hg:o.guard=none)(ho:nH G o=true)(hd:iE N o.dst=.no):JN P G N ops o k (TG P G N ops o k):=by
 unfold TG;split
 ·rename_i t x y hx;split
  ·rename_i hc;split;rename_i f hf;split;rename_i f2 Wi;exact λ ih r T D H n=>RK hg ho hd hx hc (Av hf) (Av Wi) ih r T D H n
  ·exact du
 ·rename_i c hx;split
  ·rename_i f hc;split
   ·rename_i hb;split;rename_i as ha;exact λ ih r T D H n=>PO hg ho hd hx hc hb (cam ha) ih r T D H n
   ·exact du
  ·exact du
 ·exact du
theorem Dz{k:Kt}(hg:o.guard=none):JN P G N ops o k (JM P G N ops o k):=by
 unfold JM;split
 ·rename_i ho;split
  ·rename_i g hd;exact PQ hg ho hd
  ·rename_i hd;exact PT hg ho hd
  ·exact du
 ·exact du
theorem nz(P:Program)(T:Tr Value)(o:Oper):gw P T (GO o)=gw P T o:=by
 have e:execOp (ael T) (GO o)=execOp (ael T) o:=by
  obtain⟨dst,op,type,pos,after,guard⟩:=o;cases op <;> rfl
 unfold gw;rw[e];rfl
theorem FW(P:Program)(T:Tr Value)(o:Oper):gQ P (GO o) T=gQ P o T:=by
 unfold gQ;simp only[nz];rfl
theorem FX(P:Program)(T:Tr Value)(H:AH)(o:Oper):jy P (GO o) T H=jy P o T H:=by
 unfold jy;simp only[nz];rfl
theorem JO(P:Program)(T:Tr Value)(H:AH)(n:Nat)(o:Oper):nk P (GO o) T H n=nk P o T H n:=by
 unfold nk;simp only[nz];rfl
theorem JP(P:Program)(G:Nat)(ih:Ih)(r:Option Nat)(T:Tr Value)(H:AH)(n:Nat)(o:Oper):jW P G ih r (GO o) T H n=jW P G ih r o T H n:=by
 unfold jW De;simp only[FW,FX,JO];rfl
theorem sK{k:Kt}{j:Nat}{want:Bool}(hg:o.guard=some (j,want)){d:Tmp}(hd:(ops[j]?).bind (·.dst)=some d){f:Tr Value->Value}(hf:∀T,f T=cK T d){h:Kt}(hh:∀ih r T D H n,h ih r T D H n=cO P G N ops (GO o) k ih r T D H n)(ih r T D H n) :
  cO P G N ops o k ih r T D H n=TH want (f T) (h ih r T D H n) (match fm N o.dst undef T with|some T=>k ih r T D H n|none=>none):=by
 rw[hh,hf];have e:cO P G N ops (GO o) k ih r T D H n=match jW P G ih r o T H n with
  |none=>none
  |some (.val v H n)=>eO v λ v=>match fm N o.dst v T with
   |some T=>k ih r T D H n
   |none=>none
  |some (.dfr d)=>match fm N o.dst undef T with
   |some T=>k ih r T (d::D) H n
   |none=>none:=by
  simp only[cO,eD,GO];rw[<- JP P G ih r T H n o];rfl
 rw[e];simp only[cO,eD,hg,hd];cases cK T d with
 |bool b=>cases b <;> cases want <;> rfl
 |_=>rfl
theorem PU{k:Kt}:JN P G N ops o k (PP P G N ops o (.mk k)):=by
 cases hg:o.guard with
 |none=>simp only[PP,hg];exact Dz hg
 |some jw=>
  obtain⟨j,want⟩:=jw;cases hd:(ops[j]?).bind (·.dst) with
  |none=>simp only[PP,hg,hd];exact du
  |some d=>
   cases hf:wH (pth d) with
   |mk f=>cases hh:JM P G N ops (GO o) k with
    |mk h=>
     have hf':∀T,f T=cK T d:=λ T=>by have:=qZ (pth d) T;rw[hf] at this;exact this
     have hh':=Dz (P:=P) (G:=G) (N:=N) (ops:=ops) (o:=GO o) (k:=k) rfl;rw[hh] at hh';cases hdk:iE N o.dst with
     |ok g=>
      simp only[PP,hg,hd,hf,hh,hdk];intro ih r T D H n;rw[sK hg hd hf' hh',Dq hdk];rfl
     |no=>
      simp only[PP,hg,hd,hf,hh,hdk];intro ih r T D H n;rw[sK hg hd hf' hh',Ds hdk];rfl
     |bad=>simp only[PP,hg,hd,hf,hh,hdk];exact du
theorem DA(P:Program)(G N:Nat)(ops:Array Oper):∀l,CzR.okL P G N ops l (FV P G N ops l).f
 | []=>λ ih r T D H n=>rfl
 |o::l=>by
  have h:=DA P G N ops l;cases hk:FV P G N ops l with
  |mk k=>
   rw[hk] at h;intro ih r T D H n;simp only[FV,hk];rw[PU];exact MG h o ih r T D H n
def SH(P:Program)(G N:Nat)(c:Code)(ih:Ih)(r:Option Nat)(T:Tr Value)(D:List Deferred)(H:AH)(n:Nat):Option (Ex×St):=jh P G ih r N c ⟨T,D,H,n⟩
def RM(k:Kt)(ih:Ih)(r:Option Nat)(T:Tr Value)(D:List Deferred)(H:AH)(n:Nat):Option (Ex×St):=match k ih r T D H n with
 |some s=>some (.normal,s)
 |none=>none
abbrev Kc:=Ih->Option Nat->Tr Value->List Deferred->AH->Nat->Option (Ex×St)
def TI(x:Option (Ex×St))(y:Tr Value->List Deferred->AH->Nat->Option (Ex×St)):Option (Ex×St):=match x with
 |some p=>match p with
  | (e,s)=>match e with
   | .normal=>match s with
    | ⟨T,D,H,n⟩=>y T D H n
   | .exit id=>some (.exit id,s)
   | .ret=>some (.ret,s)
 |none=>none
def RO(a b:Kc)(ih:Ih)(r:Option Nat)(T:Tr Value)(D:List Deferred)(H:AH)(n:Nat):Option (Ex×St):=TI (a ih r T D H n) λ T D H n=>b ih r T D H n
def RP(u:Value)(x y:Option (Ex×St)):Option (Ex×St):=match u with
 | .bool b=>match b with
  |true=>x
  |false=>y
 |_=>none
def On(f:Tr Value->Value)(a b:Kc)(ih:Ih)(r:Option Nat)(T:Tr Value)(D:List Deferred)(H:AH)(n:Nat):Option (Ex×St):=RP (f T) (a ih r T D H n) (b ih r T D H n)
def RS(id:Nat)(x:Option (Ex×St)):Option (Ex×St):=match x with
 |some p=>match p with
  | (e,s)=>match e with
   | .exit W_=>match Nat.beq W_ id with
    |true=>some (.normal,s)
    |false=>some (.exit W_,s)
   | .normal=>some (.normal,s)
   | .ret=>some (.ret,s)
 |none=>none
def RT(id:Nat)(a:Kc)(ih:Ih)(r:Option Nat)(T:Tr Value)(D:List Deferred)(H:AH)(n:Nat):Option (Ex×St):=RS id (a ih r T D H n)
def RU(x:Option (Ex×St))(y:St->Option Rs):Option (Ex×St):=match x with
 |some p=>match p with
  | (e,s)=>match e with
   | .normal=>match y s with
    |some q=>match q with
     | .cd e s=>some (e,s)
     | .fn _ _ _=>none
    |none=>none
   | .exit id=>some (.exit id,s)
   | .ret=>some (.ret,s)
 |none=>none
def RV(N:Nat)(c:Code)(a:Kc)(ih:Ih)(r:Option Nat)(T:Tr Value)(D:List Deferred)(H:AH)(n:Nat):Option (Ex×St):=RU (a ih r T D H n) λ s=>ih (.loop r N c s)
def iG(P:Program)(G N:Nat):Code->CzC
 | .skip=>.mk λ _ _ T D H n=>some (.normal,⟨T,D,H,n⟩)
 | .label _=>.mk λ _ _ T D H n=>some (.normal,⟨T,D,H,n⟩)
 | .region id ops draw=>match draw with
  |false=>match FV P G N ops ops.toList with
   | .mk k=>.mk (RM k)
  |true=>.mk (SH P G N (.region id ops true))
 | .seq a b=>match iG P G N a with
  | .mk fa=>match iG P G N b with
   | .mk fb=>.mk (RO fa fb)
 | .cond c a b=>match cv c with
  | .mk f=>match iG P G N a with
   | .mk fa=>match iG P G N b with
    | .mk fb=>.mk (On f fa fb)
 | .block id c=>match iG P G N c with
  | .mk fa=>.mk (RT id fa)
 | .loop c=>match iG P G N c with
  | .mk fa=>.mk (RV N c fa)
 | .rangeFunc g ps assign body=>.mk (SH P G N (.rangeFunc g ps assign body))
 | .exit id=>.mk λ _ _ T D H n=>some (.exit id,⟨T,D,H,n⟩)
 | .scope c=>iG P G N c
 | .goto l=>.mk (SH P G N (.goto l))
 | .ret=>.mk λ _ _ T D H n=>some (.ret,⟨T,D,H,n⟩)
 | .refuse x=>.mk (SH P G N (.refuse x))
def RX(P:Program)(G N:Nat)(c:Code)(f:Kc):Prop:=∀ih r T D H n,f ih r T D H n=jh P G ih r N c ⟨T,D,H,n⟩
theorem iH(P:Program)(G N:Nat):∀c,RX P G N c (iG P G N c).f
 | .skip=>λ _ _ _ _ _ _=>rfl
 | .label _=>λ _ _ _ _ _ _=>rfl
 | .region id ops draw=>by
  cases draw with
  |true=>exact λ _ _ _ _ _ _=>rfl
  |false=>
   have h:=DA P G N ops ops.toList;cases hk:FV P G N ops ops.toList with
   |mk k=>
    rw[hk] at h;intro ih r T D H n;simp only[iG,hk,CzC.f,RM,jh];have:=h ih r T D H n;simp only[CzR.f] at this;rw[this];cases mN P G ih r N ops ops.toList ⟨T,D,H,n⟩ <;> rfl
 | .seq a b=>by
  have h1:=iH P G N a;have h2:=iH P G N b;cases ha:iG P G N a with
  |mk fa=>cases hb:iG P G N b with
   |mk fb=>
    rw[ha] at h1;rw[hb] at h2;intro ih r T D H n;have e1:=h1 ih r T D H n;simp only[CzC.f] at e1;simp only[iG,ha,hb,CzC.f,RO,jh,e1];cases jh P G ih r N a ⟨T,D,H,n⟩ with
    |none=>rfl
    |some p=>obtain⟨e,s⟩:=p;cases e with
     |normal=>obtain⟨T,D,H,n⟩:=s;exact h2 ih r T D H n
     |exit id=>rfl
     |ret=>rfl
 | .cond c a b=>by
  have h1:=iH P G N a;have h2:=iH P G N b;cases hc:cv c with
  |mk f=>cases ha:iG P G N a with
   |mk fa=>cases hb:iG P G N b with
    |mk fb=>
     rw[ha] at h1;rw[hb] at h2;intro ih r T D H n;simp only[iG,hc,ha,hb,CzC.f,On,jh,Av hc];cases ael T c with
     |bool q=>cases q with
      |true=>exact h1 ih r T D H n
      |false=>exact h2 ih r T D H n
     |_=>rfl
 | .block id c=>by
  have h1:=iH P G N c;cases ha:iG P G N c with
  |mk fa=>
   rw[ha] at h1;intro ih r T D H n;have e1:=h1 ih r T D H n;simp only[CzC.f] at e1;simp only[iG,ha,CzC.f,RT,jh,e1];cases jh P G ih r N c ⟨T,D,H,n⟩ with
   |none=>rfl
   |some p=>obtain⟨e,s⟩:=p;cases e with
    |normal=>rfl
    |exit W_=>simp only[RS];cases Nat.beq W_ id <;> rfl
    |ret=>rfl
 | .loop c=>by
  have h1:=iH P G N c;cases ha:iG P G N c with
  |mk fa=>
   rw[ha] at h1;intro ih r T D H n;have e1:=h1 ih r T D H n;simp only[CzC.f] at e1;simp only[iG,ha,CzC.f,RV,jh,e1];cases jh P G ih r N c ⟨T,D,H,n⟩ with
   |none=>rfl
   |some p=>obtain⟨e,s⟩:=p;cases e with
    |normal=>
     simp only[RU];cases ih (.loop r N c s) with
     |none=>rfl
     |some q=>cases q <;> rfl
    |exit W_=>rfl
    |ret=>rfl
 | .rangeFunc g ps assign body=>λ _ _ _ _ _ _=>rfl
 | .exit id=>λ _ _ _ _ _ _=>rfl
 | .scope c=>by
  intro ih r T D H n;simp only[iG,jh];exact iH P G N c ih r T D H n
 | .goto l=>λ _ _ _ _ _ _=>rfl
 | .ret=>λ _ _ _ _ _ _=>rfl
 | .refuse x=>λ _ _ _ _ _ _=>rfl
def MK:List ResultVar->Option CzA
 | []=>some (.mk λ _=>[])
 |x::l=>match x with
  | .tmp t=>match wH (pth t) with
   | .mk f=>match MK l with
    |some c=>match c with
     | .mk h=>some (.mk λ T=>f T::h T)
    |none=>none
  | .cell _ _=>none
theorem JQ(P:Program)(H:AH)(T:Tr Value):∀ {l:List ResultVar} {h},MK l=some (.mk h)->pD P T H l=some (h T)
 | [],h,e=>by simp only[MK,de,CzA.mk.injEq] at e;subst e;rfl
 | .cell _ _::l,h,e=>by simp[MK] at e
 | .tmp t::l,h,e=>by
  simp only[MK] at e;cases hf:wH (pth t) with
  |mk f=>
   rw[hf] at e;simp only at e;cases hl:MK l with
   |none=>rw[hl] at e;simp at e
   |some c=>cases c with
    |mk h'=>
     rw[hl] at e;simp only[de,CzA.mk.injEq] at e;subst e;have:=qZ (pth t) T;rw[hf] at this;simp only[CzV.f] at this;simp only[pD,JQ P H T hl,this];rfl
def PV(l:List Value):Nat->Tr Value->Tr Value:=List.rec (motive:=λ _=>Nat->Tr Value->Tr Value) (λ _ t=>t) (λ x _ ih i t=>eO x λ x=>ih (i+1) (dL undef x (pth i) t)) l
theorem DB:∀ (l:List Value) (i:Nat) (t:Tr Value),PV l i t=dE undef l i t
 | [],i,t=>rfl
 |x::l,i,t=>by
  have:=DB l (i+1) (dL undef x (pth i) t);show (eO x λ x=>PV l (i+1) (dL undef x (pth i) t))=_;rw[cw,this,dE];have e:Tr.set undef x t i=dL undef x (pth i) t:=rfl;rw[e];cases dL undef x (pth i) t <;> rfl
def RY(h:List Value):Value:=match h with
 | []=>.tuple ⟨[]⟩
 |v::l=>match l with
  | []=>v
  |w::l=>.tuple ⟨v::w::l⟩
theorem ML(h:List Value):RY h=yZ h:=by
 cases h with
 |nil=>rfl
 |cons v l=>cases l <;> rfl
def RZ(P:Program)(fn:Func)(ih:Ih)(s:St):Option Rs:=match kr P ih s.D s.H s.n with
 |some (H,n)=>match pD P s.T H fn.results.toList with
  |some vs=>some (.fn (yZ vs) H n)
  |none=>none
 |none=>none
def TJ(P:Program)(fn:Func)(h:Tr Value->List Value)(ih:Ih)(s:St):Option Rs:=match s with
 | ⟨T,D,H,n⟩=>match D with
  | []=>some (.fn (RY (h T)) H n)
  |d::D=>RZ P fn ih ⟨T,d::D,H,n⟩
def fnR(x:Option (Ex×St))(y:St->Option Rs):Option Rs:=match x with
 |some p=>match p with
  | (e,s)=>match e with
   | .exit _=>none
   | .normal=>y s
   | .ret=>y s
 |none=>none
def SI(N:Nat)(k:Kc)(y:Ih->St->Option Rs)(ih:Ih)(args:List Value)(H:AH)(n:Nat):Option Rs:=match Nat.ble (gv args) N with
 |true=>fnR (k ih none (PV args 0 .lf) [] H n) (y ih)
 |false=>none
def FY(P:Program)(G:Nat)(f:FuncId):CzF:=match so P f with
 |some (fn,c)=>match iG P G fn.ntmps c with
  | .mk k=>match MK fn.results.toList with
   |some h=>match h with
    | .mk h=>.mk (SI fn.ntmps k (TJ P fn h))
   |none=>.mk (SI fn.ntmps k (RZ P fn))
 |none=>.mk λ _ _ _ _=>none
theorem PW{h}(e:MK fn.results.toList=some (.mk h))(ih:Ih)(s:St):TJ P fn h ih s=RZ P fn ih s:=by
 obtain⟨T,D,H,n⟩:=s;cases D with
 |cons d D=>rfl
 |nil=>simp only[TJ,RZ,kr,JQ P H T e,ML]
theorem JR{c:Code}{f:FuncId}(hb:so P f=some (fn,c)){k:Kc}(hk:RX P G fn.ntmps c k){y:Ih->St->Option Rs}(hy:∀ih s,y ih s=RZ P fn ih s)(ih:Ih)(args:List Value)(H:AH)(n:Nat):SI fn.ntmps k y ih args H n=gS P G ih (.fn f args H n):=by
 simp only[SI,gS,hb];cases Nat.ble (gv args) fn.ntmps with
 |false=>rfl
 |true=>
  simp only[hk ih,DB];rw[show dE undef args 0 .lf=mO args from rfl];cases jh P G ih none fn.ntmps c ⟨mO args,[],H,n⟩ with
  |none=>rfl
  |some p=>obtain⟨e,s⟩:=p;cases e with
   |exit _=>rfl
   |normal=>exact hy ih s
   |ret=>exact hy ih s
theorem MM(P:Program)(G:Nat)(f:FuncId)(ih:Ih)(args:List Value)(H:AH)(n:Nat):(FY P G f).f ih args H n=gS P G ih (.fn f args H n):=by
 cases hb:so P f with
 |none=>simp only[FY,hb,CzF.f,gS]
 |some p=>
  obtain⟨fn,c⟩:=p;have h1:=iH P G fn.ntmps c;cases hk:iG P G fn.ntmps c with
  |mk k=>
   rw[hk] at h1;cases hr:MK fn.results.toList with
   |none=>
    simp only[FY,hb,hk,hr,CzF.f];exact JR hb h1 (λ _ _=>rfl) ih args H n
   |some h=>cases h with
    |mk h=>
     simp only[FY,hb,hk,hr,CzF.f];exact JR hb h1 (λ ih s=>PW hr ih s) ih args H n
def zC(P:Program)(G:Nat)(ih:Ih)(t:Task):Option Rs:=match t with
 | .loop r N c s=>match iG P G N (.loop c) with
  | .mk k=>match s with
   | ⟨T,D,H,n⟩=>match k ih r T D H n with
    |some p=>match p with
     | (e,s)=>some (.cd e s)
    |none=>none
 | .fn f args H n=>match FY P G f with
  | .mk k=>k ih args H n
 |t=>gS P G ih t
theorem JS(P:Program)(G:Nat)(ih:Ih)(t:Task):zC P G ih t=gS P G ih t:=by
 cases t with
 |loop r N c s=>
  obtain⟨T,D,H,n⟩:=s;have h1:=iH P G N (.loop c);cases hk:iG P G N (.loop c) with
  |mk k=>
   rw[hk] at h1;have:=h1 ih r T D H n;simp only[CzC.f] at this;simp only[zC,hk,gS,this];cases jh P G ih r N (.loop c) ⟨T,D,H,n⟩ with
   |none=>rfl
   |some p=>rfl
 |fn f args H n=>
  have:=MM P G f ih args H n;cases hk:FY P G f with
  |mk k=>
   rw[hk] at this;simp only[zC,hk];exact this
 |_=>rfl
def JT(P:Program)(G:Nat)(k:Nat):Ih:=Nat.rec (motive:=λ _=>Ih) (λ _=>none) (λ _ ih t=>zC P G ih t) k
theorem DC(P:Program)(G:Nat):∀k,JT P G k=Jf P G k
 |0=>rfl
 |k+1=>by
  funext t;show zC P G (JT P G k) t=_;rw[JS,DC P G k];rfl
end
end Go.Proofs.YtjokannbjmndfaaGreatDoor
