import Derived.Test.YtdppjkjbghbnjaaGreatDoorC10
import Derived.Test.YtdppjkjbghbnjaaGreatDoorC14
set_option maxHeartbeats 4000000
set_option maxRecDepth 100000
set_option linter.all false
namespace Go.Proofs.YtdppjkjbghbnjaaGreatDoor
open Go.RowKit
noncomputable section
inductive CzV where|mk (f:Tr Value -> Value)
inductive CzS where|mk (f:Value -> Tr Value -> Tr Value)
abbrev Ih:=Task -> Option Rs
inductive CzR where|mk (f:Ih -> Option Nat -> Tr Value -> List Deferred -> AH -> Nat -> Option St)
inductive CzC where|mk (f:Ih -> Option Nat -> Tr Value -> List Deferred -> AH -> Nat -> Option (Ex × St))
inductive CzF where|mk (f:Ih -> List Value -> AH -> Nat -> Option Rs)
inductive CzA where|mk (f:Tr Value -> List Value)
def CzV.f:CzV -> Tr Value -> Value | .mk f=>f
def CzS.f:CzS -> Value -> Tr Value -> Tr Value | .mk f=>f
def CzR.f:CzR -> Ih -> Option Nat -> Tr Value -> List Deferred -> AH -> Nat -> Option St | .mk f=>f
def CzC.f:CzC -> Ih -> Option Nat -> Tr Value -> List Deferred -> AH -> Nat -> Option (Ex × St) | .mk f=>f
def CzF.f:CzF -> Ih -> List Value -> AH -> Nat -> Option Rs | .mk f=>f
def CzA.f:CzA -> Tr Value -> List Value | .mk f=>f
def eU{α:Type}(v:Value)(x:Value -> α):α:=match v with
 | .bool b=>x (.bool b)
 | .int k n=>x (.int k n)
 | .float k b=>x (.float k b)
 | .complex k a b=>x (.complex k a b)
 | .string s=>x (.string s)
 | .pointer a=>x (.pointer a)
 | .slice a l c=>x (.slice a l c)
 | .map r=>x (.map r)
 | .chan r=>x (.chan r)
 | .func f a c=>x (.func f a c)
 | .nilFunc=>x .nilFunc
 | .iface t v=>x (.iface t v)
 | .nilIface=>x .nilIface
 | .agg c=>x (.agg c)
 | .tuple c=>x (.tuple c)
theorem cE{α:Type}(v:Value)(x:Value -> α):eU v x=x v:=by cases v <;> rfl
def AY{α:Type}(l:List Value):(List Value -> α) -> α:=List.rec (motive:=λ _=>(List Value -> α) -> α) (λ x=>x []) (λ v _ ih x=>eU v λ v=>ih λ l=>x (v::l)) l
theorem uj{α:Type}:∀ (l:List Value) (x:List Value -> α),AY l x=x l
 | [],x=>rfl
 | v::l,x=>by
  show eU v (λ v=>AY l λ l=>x (v::l))=_;rw[cE,uj l]
def vL:List Bool -> CzV
 | []=>.mk λ T=>Tr.rec (motive:=λ _=>Value) undef (λ v _ _ _ _=>v) T
 | b::p=>match vL p with
  | .mk f=>match b with
   | true=>.mk λ T=>Tr.rec (motive:=λ _=>Value) undef (λ _ _ r _ _=>f r) T
   | false=>.mk λ T=>Tr.rec (motive:=λ _=>Value) undef (λ _ l _ _ _=>f l) T
theorem qA:∀ (p:List Bool) (T:Tr Value),(vL p).f T=ga undef p T
 | [],T=>by cases T <;> rfl
 | b::p,T=>by
  have ih:=qA p;cases h:vL p with
  | mk f =>
   rw[h] at ih;cases b <;> simp only[vL,h,CzV.f] <;> cases T <;> first|rfl|exact ih _
def AZ:List Bool -> CzS
 | []=>.mk λ x T=>Tr.rec (motive:=λ _=>Tr Value) (.nd x .lf .lf) (λ _ l r _ _=>.nd x l r) T
 | b::p=>match AZ p with
  | .mk f=>match b with
   | true=>.mk λ x T=>Tr.rec (motive:=λ _=>Tr Value) (.nd undef .lf (f x .lf)) (λ v l r _ _=>.nd v l (f x r)) T
   | false=>.mk λ x T=>Tr.rec (motive:=λ _=>Tr Value) (.nd undef (f x .lf) .lf) (λ v l r _ _=>.nd v (f x l) r) T
theorem Cv(x:Value):∀ (p:List Bool) (T:Tr Value),(AZ p).f x T=dW undef x p T
 | [],T=>by cases T <;> rfl
 | b::p,T=>by
  have ih:=Cv x p;cases h:AZ p with
  | mk f =>
   rw[h] at ih;simp only[CzS.f] at ih;cases b <;> simp only[AZ,h,CzS.f] <;> cases T <;> simp only[ih] <;> rfl
def cv:Operand -> CzV
 | .tmp t=>vL (pth t)
 | .const v=>.mk λ _=>v
 | .global g=>.mk λ _=>.pointer (some ⟨g,0,none⟩)
 | .func f=>.mk λ _=>.func (.func f) #[] #[]
theorem MN(x:Operand)(T:Tr Value):(cv x).f T=ael T x:=by
 cases x with
 | tmp t=>exact qA _ _
 | const v=>rfl
 | global g=>rfl
 | func f=>rfl
def ca:List Operand -> CzA
 | []=>.mk λ _=>[]
 | x::l=>match cv x,ca l with
  | .mk f,.mk g=>.mk λ T=>f T::g T
theorem MO:∀ (l:List Operand) (T:Tr Value),(ca l).f T=mZ T l
 | [],T=>rfl
 | x::l,T=>by
  have h1:=MN x T;have h2:=MO l T;cases hx:cv x with
  | mk f=>cases hl:ca l with
   | mk g =>
    rw[hx] at h1;rw[hl] at h2;simp only[CzV.f] at h1;simp only[CzA.f] at h2;simp only[ca,hx,hl,CzA.f,mZ,h1,h2]
inductive CzD where
 | no
 | ok (f:Value -> Tr Value -> Tr Value)
 | bad
def iE(N:Nat):Option Tmp -> CzD
 | none=>.no
 | some d=>match Nat.blt d N with
  | true=>match AZ (pth d) with
   | .mk f=>.ok f
  | false=>.bad
theorem Cw{N:Nat}{d:Option Tmp}{f}(h:iE N d=.ok f)(v:Value)(T:Tr Value):fo N d v T=some (f v T):=by
 cases d with
 | none=>simp[iE] at h
 | some d =>
  simp only[iE] at h;cases hb:Nat.blt d N <;> rw[hb] at h
  ·simp at h
  ·cases hs:AZ (pth d) with
   | mk g =>
    simp only[hs,CzD.ok.injEq] at h;subst h;have:=Cv v (pth d) T;rw[hs] at this;simp only[CzS.f] at this;simp only[fo,hb,this];rfl
theorem Cx{N:Nat}{d:Option Tmp}(h:iE N d=.no)(v:Value)(T:Tr Value):fo N d v T=some T:=by
 cases d with
 | none=>rfl
 | some d =>
  simp only[iE] at h;cases hb:Nat.blt d N <;> rw[hb] at h
  ·simp at h
  ·cases hs:AZ (pth d) with
   | mk g=>simp[hs] at h
def da(P:Program)(G N:Nat)(ops:Array Oper)(o:Oper)(k:Ih -> Option Nat -> Tr Value -> List Deferred -> AH -> Nat -> Option St)(ih:Ih)(r:Option Nat)(T:Tr Value)(D:List Deferred)(H:AH)(n:Nat):Option St:=match eO ops o T with
 | none=>none
 | some false=>match fo N o.dst undef T with
  | some T=>k ih r T D H n
  | none=>none
 | some true=>match j4 P G ih r o T H n with
  | none=>none
  | some (.val v H n)=>eU v λ v=>match fo N o.dst v T with
   | some T=>k ih r T D H n
   | none=>none
  | some (.dfr d)=>match fo N o.dst undef T with
   | some T=>k ih r T (d::D) H n
   | none=>none
def CzR.okL(P:Program)(G N:Nat)(ops:Array Oper)(l:List Oper)(k:Ih -> Option Nat -> Tr Value -> List Deferred -> AH -> Nat -> Option St):Prop:=∀ih r T D H n,k ih r T D H n=mF P G ih r N ops l ⟨T,D,H,n⟩
theorem LD{P:Program}{G N:Nat}{ops:Array Oper}{l:List Oper}{k}(h:CzR.okL P G N ops l k)(o:Oper):CzR.okL P G N ops (o::l) (da P G N ops o k):=by
 intro ih r T D H n;simp only[da,mF];cases eO ops o T with
 | none=>rfl
 | some b =>
  cases b with
  | false=>cases fo N o.dst undef T with
   | none=>rfl
   | some T'=>exact h _ _ _ _ _ _
  | true=>cases j4 P G ih r o T H n with
   | none=>rfl
   | some x=>cases x with
    | val v H' n'=>simp only[cE];cases hp:fo N o.dst v T with
     | none=>simp only[hp]
     | some T'=>simp only[hp];exact h _ _ _ _ _ _
    | dfr d=>cases hp:fo N o.dst undef T with
     | none=>simp only[hp]
     | some T'=>simp only[hp];exact h _ _ _ _ _ _
def ol(N:Nat)(o:Oper)(k:Ih -> Option Nat -> Tr Value -> List Deferred -> AH -> Nat -> Option St)(ih:Ih)(r:Option Nat)(T:Tr Value)(D:List Deferred)(v:Value)(H:AH)(n:Nat):Option St:=match fo N o.dst v T with
 | some T=>k ih r T D H n
 | none=>none
theorem pk{P:Program}{G N:Nat}{ops:Array Oper}{o:Oper}{k}(hg:o.guard=none)(ho:nz G o=true)(hc:sy P o.op=.pu)(ih:Ih)(r:Option Nat)(T:Tr Value)(D:List Deferred)(H:AH)(n:Nat) :
  da P G N ops o k ih r T D H n=match gS P o T with
   | some v=>ol N o k ih r T D v H n
   | none=>none:=by
 simp only[nz] at ho;cases hl:i9 o.op with
 | none=>rw[hl] at ho;simp at ho
 | some l =>
  rw[hl] at ho;simp only at ho;simp only[da,eO,hg,j4,Cj,hl,ho,hc];cases gS P o T with
  | none=>rfl
  | some v=>simp only[cE];rfl
theorem Iy{P:Program}{G N:Nat}{ops:Array Oper}{o:Oper}{k}(hg:o.guard=none)(ho:nz G o=true)(hc:sy P o.op=.lo)(ih:Ih)(r:Option Nat)(T:Tr Value)(D:List Deferred)(H:AH)(n:Nat) :
  da P G N ops o k ih r T D H n=match jB P o T H with
   | some v=>ol N o k ih r T D v H n
   | none=>none:=by
 simp only[nz] at ho;cases hl:i9 o.op with
 | none=>rw[hl] at ho;simp at ho
 | some l =>
  rw[hl] at ho;simp only at ho;simp only[da,eO,hg,j4,Cj,hl,ho,hc];cases jB P o T H with
  | none=>rfl
  | some v=>simp only[cE];rfl
theorem Od{P:Program}{G N:Nat}{ops:Array Oper}{o:Oper}{k}(hg:o.guard=none)(ho:nz G o=true)(hc:sy P o.op=.nw)(ih:Ih)(r:Option Nat)(T:Tr Value)(D:List Deferred)(H:AH)(n:Nat) :
  da P G N ops o k ih r T D H n=match sO P o T with
   | some (b,m)=>ol N o k ih r T D (m.val n) (cX H n (some b)) (n+1)
   | none=>none:=by
 simp only[nz] at ho;cases hl:i9 o.op with
 | none=>rw[hl] at ho;simp at ho
 | some l =>
  rw[hl] at ho;simp only at ho;simp only[da,eO,hg,j4,Cj,hl,ho,hc];cases sO P o T with
  | none=>rfl
  | some v=>simp only[N5,cE];rfl
theorem Oe{P:Program}{G N:Nat}{ops:Array Oper}{o:Oper}{k}(hg:o.guard=none)(ho:nz G o=true)(hc:sy P o.op=.ef)(ih:Ih)(r:Option Nat)(T:Tr Value)(D:List Deferred)(H:AH)(n:Nat){v:Value}{H':AH}{n':Nat}(he:m0 P o T H n=some (.val v H' n')) :
  da P G N ops o k ih r T D H n=ol N o k ih r T D v H' n':=by
 simp only[nz] at ho;cases hl:i9 o.op with
 | none=>rw[hl] at ho;simp at ho
 | some l =>
  rw[hl] at ho;simp only at ho;simp only[da,eO,hg,j4,Cj,hl,ho,hc,he,cE];rfl
theorem Cy{P:Program}{G N:Nat}{ops:Array Oper}{o:Oper}{k}(hg:o.guard=none)(ho:nz G o=true)(hc:sy P o.op=.ef)(ih:Ih)(r:Option Nat)(T:Tr Value)(D:List Deferred)(H:AH)(n:Nat){f:FuncId}{args:List Value}(he:m0 P o T H n=some (.ent f args)) :
  da P G N ops o k ih r T D H n=match ih (.fn f args H n) with
   | some (.fn v H n)=>ol N o k ih r T D v H n
   | _=>none:=by
 simp only[nz] at ho;cases hl:i9 o.op with
 | none=>rw[hl] at ho;simp at ho
 | some l =>
  rw[hl] at ho;simp only at ho;simp only[da,eO,hg,j4,Cj,hl,ho,hc,he];cases ih (.fn f args H n) with
  | none=>rfl
  | some x=>cases x <;> simp only[cE] <;> rfl
end
noncomputable section
abbrev Kt:=Ih -> Option Nat -> Tr Value -> List Deferred -> AH -> Nat -> Option St
def kN(k:IntKind):Nat:=IntKind.rec (motive:=λ _=>Nat) 0 1 2 3 4 5 6 7 k
def RM(a b:IntKind):Bool:=Nat.beq (kN a) (kN b)
theorem Og(a b:IntKind):RM a b=decide (a=b):=by cases a <;> cases b <;> rfl
def Pb(a b:Int):Bool:=match a,b with
 | .ofNat m,.ofNat n=>Nat.blt m n
 | .negSucc _,.ofNat _=>true
 | .ofNat _,.negSucc _=>false
 | .negSucc m,.negSucc n=>Nat.blt n m
theorem Cz(m n:Nat):Nat.blt m n=decide (m<n):=by
 by_cases h:m<n
 ·simp[Nat.blt_eq,h]
 ·rw[aa9 h];cases hb:Nat.blt m n
  ·rfl
  ·exact absurd (Eq.mp Nat.blt_eq hb) h
theorem Iz(a b:Int):Pb a b=decide (a<b):=by
 cases a with
 | ofNat m=>cases b with
  | ofNat n =>
   simp only[Pb,Cz];exact decide_eq_decide.2 (Int.ofNat_lt).symm
  | negSucc n=>exact(aa9 (show ¬ ((m:Int)<Int.negSucc n) by omega)).symm
 | negSucc m=>cases b with
  | ofNat n=>exact(aba (show Int.negSucc m<(n:Int) by omega)).symm
  | negSucc n =>
   simp only[Pb,Cz];exact decide_eq_decide.2 (by omega)
def Oh(b:Bool):Bool:=match b with
 | true=>false
 | false=>true
theorem CA(b:Bool):Oh b=!b:=by cases b <;> rfl
def Q8(a b:Int):Bool:=Oh (Pb b a)
theorem Oi(a b:Int):Q8 a b=decide (a <= b):=by
 rw[Q8,CA,Iz]
 by_cases h:b<a
 ·rw[aba h,aa9 (by omega)];rfl
 ·rw[aa9 h,aba (by omega)];rfl
def P9(a b:Int):Bool:=match a,b with
 | .ofNat m,.ofNat n=>Nat.beq m n
 | .negSucc m,.negSucc n=>Nat.beq m n
 | _,_=>false
theorem CB(m n:Nat):Nat.beq m n=decide (m=n):=by
 by_cases h:m=n
 ·rw[aba h];exact Eq.mpr Nat.beq_eq h
 ·rw[aa9 h];cases hb:Nat.beq m n
  ·rfl
  ·exact absurd (Eq.mp Nat.beq_eq hb) h
theorem Oj(a b:Int):P9 a b=(a == b):=by
 have e:(a == b)=decide (a=b):=rfl;rw[e];cases a with
 | ofNat m=>cases b with
  | ofNat n =>
   simp only[P9,CB];exact decide_eq_decide.2 (Int.ofNat_inj (m:=m) (n:=n)).symm
  | negSucc n=>rfl
 | negSucc m=>cases b with
  | ofNat n=>rfl
  | negSucc n =>
   simp only[P9,CB];exact decide_eq_decide.2 (by simp)
def LE:BinOp -> Option (Int -> Int -> Bool)
 | .lss=>some λ a b=>Pb a b
 | .leq=>some λ a b=>Q8 a b
 | .gtr=>some λ a b=>Pb b a
 | .geq=>some λ a b=>Q8 b a
 | .eql=>some λ a b=>P9 a b
 | .neq=>some λ a b=>Oh (P9 a b)
 | _=>none
theorem LF{op:BinOp}{q}(h:LE op=some q)(a b:Int):HI op a b=some (q a b):=by
 cases op <;> simp only[LE,Option.some.injEq,reduceCtorEq] at h <;> subst h <;> simp only[HI,Iz,Oi,Oj,CA] <;> rfl
section
variable (P:Program) (G N:Nat) (ops:Array Oper) (o:Oper) (k:Kt) (g:Value -> Tr Value -> Tr Value)
def Q9(f:Tr Value -> Value)(ih:Ih)(r:Option Nat)(T:Tr Value)(D:List Deferred)(H:AH)(n:Nat):Option St:=eU (f T) λ v=>k ih r (g v T) D H n
def Qa(u:Value)(x y:Option St):Option St:=match u with
 | .bool b=>match b with
  | true=>x
  | false=>y
 | _=>none
def IA(f fa fb:Tr Value -> Value)(ih:Ih)(r:Option Nat)(T:Tr Value)(D:List Deferred)(H:AH)(n:Nat):Option St:=Qa (f T) (eU (fa T) λ v=>k ih r (g v T) D H n) (eU (fb T) λ v=>k ih r (g v T) D H n)
def Qb(u:Value)(x y:Option St):Option St:=match u with
 | .pointer p=>match p with
  | some _=>x
  | none=>y
 | _=>y
def Ok(f:Tr Value -> Value)(ih:Ih)(r:Option Nat)(T:Tr Value)(D:List Deferred)(H:AH)(n:Nat):Option St:=Qb (f T) (eU (f T) λ v=>k ih r (g v T) D H n) (da P G N ops o k ih r T D H n)
def Qc(q:Int -> Int -> Bool)(u v:Value)(x:Bool -> Option St)(y:Option St):Option St:=match u with
 | .int ka a=>match v with
  | .int kb b=>match RM ka kb with
   | true=>match q a b with
    | true=>x true
    | false=>x false
   | false=>y
  | _=>y
 | _=>y
def Ol(q:Int -> Int -> Bool)(f1 f2:Tr Value -> Value)(ih:Ih)(r:Option Nat)(T:Tr Value)(D:List Deferred)(H:AH)(n:Nat):Option St:=Qc q (f1 T) (f2 T) (λ b=>k ih r (g (.bool b) T) D H n) (da P G N ops o k ih r T D H n)
def RO(c:Nat)(u:Value)(x:Value -> Option St):Option St:=match u with
 | .pointer p=>match p with
  | some a=>match a with
   | ⟨b,off,s⟩=>match c with
    | 0=>x (.pointer (some ⟨b,off,s⟩))
    | c+1=>x (.pointer (some ⟨b,off+(c+1),none⟩))
  | none=>none
 | _=>none
def Om(c:Nat)(f:Tr Value -> Value)(ih:Ih)(r:Option Nat)(T:Tr Value)(D:List Deferred)(H:AH)(n:Nat):Option St:=RO c (f T) λ v=>k ih r (g v T) D H n
def ldB(off:Nat)(s:Option Nat)(b:Option AB)(x:Value -> Option St):Option St:=match s with
 | none=>match b with
  | some c=>match c with
   | .cells n tr _ _ _=>match Nat.blt off n with
    | true=>eU (cY tr off) x
    | false=>none
   | _=>none
  | none=>none
 | some _=>none
def ldR(H:AH)(u:Value)(x:Value -> Option St):Option St:=match u with
 | .pointer p=>match p with
  | some a=>match a with
   | ⟨b,off,s⟩=>ldB off s (bX H b) x
  | none=>none
 | _=>none
def RP(f:Tr Value -> Value)(ih:Ih)(r:Option Nat)(T:Tr Value)(D:List Deferred)(H:AH)(n:Nat):Option St:=ldR H (f T) λ v=>k ih r (g v T) D H n
def laB(off c:Nat)(s:Option Nat)(b:Option AB)(x:Value -> Option St):Option St:=match s with
 | none=>match b with
  | some ab=>match ab with
   | .cells n tr _ _ _=>match Nat.ble (off+c) n with
    | true=>AY (gT tr off c) λ l=>x (.agg ⟨l⟩)
    | false=>none
   | _=>none
  | none=>none
 | some _=>none
def laR(c:Nat)(H:AH)(u:Value)(x:Value -> Option St):Option St:=match u with
 | .pointer p=>match p with
  | some a=>match a with
   | ⟨b,off,s⟩=>laB off c s (bX H b) x
  | none=>none
 | _=>none
def RS(c:Nat)(f:Tr Value -> Value)(ih:Ih)(r:Option Nat)(T:Tr Value)(D:List Deferred)(H:AH)(n:Nat):Option St:=laR c H (f T) λ v=>k ih r (g v T) D H n
def alF(b:AB)(ih:Ih)(r:Option Nat)(T:Tr Value)(D:List Deferred)(H:AH)(n:Nat):Option St:=k ih r (g (.pointer (some ⟨n,0,none⟩)) T) D (cX H n (some b)) (n+1)
def ixR(c:Nat)(u i:Value)(x:Value -> Option St):Option St:=match u with
 | .slice p m _=>match p with
  | some a=>match i with
   | .int _ i=>match i with
    | .ofNat i=>match Nat.blt i m with
     | true=>match a with
      | ⟨b,off,s⟩=>match i*c with
       | 0=>x (.pointer (some ⟨b,off,s⟩))
       | j+1=>x (.pointer (some ⟨b,off+(j+1),none⟩))
     | false=>none
    | _=>none
   | _=>none
  | none=>none
 | _=>none
def RU(c:Nat)(f1 f2:Tr Value -> Value)(ih:Ih)(r:Option Nat)(T:Tr Value)(D:List Deferred)(H:AH)(n:Nat):Option St:=ixR c (f1 T) (f2 T) λ v=>k ih r (g v T) D H n
def stB(off:Nat)(s:Option Nat)(v:Value)(b:Option AB)(x:AB -> Option St)(y:Option St):Option St:=match s with
 | none=>match b with
  | some c=>match c with
   | .cells n tr ty w ro=>match ro with
    | false=>match Nat.blt off n with
     | true=>x (.cells n (sM tr off v) ty w false)
     | false=>y
    | true=>y
   | _=>y
  | none=>y
 | some _=>y
def CC(v:Value):Bool:=match v with
 | .agg _=>false
 | .tuple _=>false
 | _=>true
def stR(H:AH)(u v:Value)(x:Nat -> AB -> Option St)(y:Option St):Option St:=match CC v with
 | true=>match u with
  | .pointer p=>match p with
   | some a=>match a with
    | ⟨b,off,s⟩=>eU v λ v=>stB off s v (bX H b) (x b) y
   | none=>y
  | _=>y
 | false=>y
def RV(f1 f2:Tr Value -> Value)(ih:Ih)(r:Option Nat)(T:Tr Value)(D:List Deferred)(H:AH)(n:Nat):Option St:=stR H (f1 T) (f2 T) (λ b ab=>k ih r T D (cX H b (some ab)) n) (da P G N ops o k ih r T D H n)
def Ra(x:Option Rs)(y:Value -> AH -> Nat -> Option St):Option St:=match x with
 | some x=>match x with
  | .fn v H n=>eU v λ v=>y v H n
  | .cd _ _=>none
 | none=>none
def RX(f:FuncId)(aZz:Tr Value -> List Value)(ih:Ih)(r:Option Nat)(T:Tr Value)(D:List Deferred)(H:AH)(n:Nat):Option St:=Ra (ih (.fn f (aZz T) H n)) λ v H n=>k ih r (g v T) D H n
def RY(f:FuncId)(aZz:Tr Value -> List Value)(ih:Ih)(r:Option Nat)(T:Tr Value)(D:List Deferred)(H:AH)(n:Nat):Option St:=Ra (ih (.fn f (aZz T) H n)) λ v H n=>k ih r T D H n
end
section
variable {P:Program} {G N:Nat} {ops:Array Oper} {o:Oper} {k:Kt} {g:Value -> Tr Value -> Tr Value}
theorem fF(hd:iE N o.dst=.ok g)(ih:Ih)(r:Option Nat)(T:Tr Value)(D:List Deferred)(v:Value)(H:AH)(n:Nat):ol N o k ih r T D v H n=k ih r (g v T) D H n:=by
 rw[ol,Cw hd]
theorem CD(hd:iE N o.dst=.no)(ih:Ih)(r:Option Nat)(T:Tr Value)(D:List Deferred)(v:Value)(H:AH)(n:Nat):ol N o k ih r T D v H n=k ih r T D H n:=by
 rw[ol,Cx hd]
theorem MP(hg:o.guard=none)(ho:nz G o=true)(hd:iE N o.dst=.ok g){x:Operand}(hx:o.op=.move x \/ o.op=.assign x){f}(hf:∀T,f T=ael T x)(ih r T D H n):Q9 k g f ih r T D H n=da P G N ops o k ih r T D H n:=by
 have hc:sy P o.op=.pu:=by cases hx with|inl h=>rw[h];rfl|inr h=>rw[h];rfl
 have hp:gS P o T=some (ael T x):=by unfold gS;cases hx with|inl h=>rw[h]|inr h=>rw[h]
 rw[pk hg ho hc,hp,Q9,hf,cE];exact(fF hd ..).symm
theorem LG(hg:o.guard=none)(ho:nz G o=true)(hd:iE N o.dst=.ok g){c a b:Operand}(hx:o.op=.pick c a b){f fa fb}(hf:∀T,f T=ael T c)(hfa:∀T,fa T=ael T a)(hfb:∀T,fb T=ael T b)(ih r T D H n):IA k g f fa fb ih r T D H n=da P G N ops o k ih r T D H n:=by
 rw[pk hg ho (by rw[hx];rfl)];unfold gS;rw[hx];simp only[IA,hf,hfa,hfb,cE];cases ael T c with
 | bool q=>cases q <;> exact(fF hd ..).symm
 | _=>rfl
theorem On(hg:o.guard=none)(ho:nz G o=true)(hd:iE N o.dst=.ok g){x:Operand}(hx:o.op=.nilCheck x){f}(hf:∀T,f T=ael T x)(ih r T D H n):Ok P G N ops o k g f ih r T D H n=da P G N ops o k ih r T D H n:=by
 simp only[Ok,hf];cases he:ael T x with
 | pointer p=>cases p with
  | none=>rfl
  | some a =>
   rw[pk hg ho (by rw[hx];rfl)];unfold gS;rw[hx];simp only[he,Qb,cE];exact(fF hd ..).symm
 | _=>rfl
theorem Oo(hg:o.guard=none)(ho:nz G o=true)(hd:iE N o.dst=.ok g){op t x y z}(hx:o.op=.binOp op t x y z){q}(hq:LE op=some q){f1 f2}(YK:∀T,f1 T=ael T x)(Ur:∀T,f2 T=ael T y)(ih r T D H n):Ol P G N ops o k g q f1 f2 ih r T D H n=da P G N ops o k ih r T D H n:=by
 simp only[Ol,YK,Ur];cases he:ael T x with
 | int ka a=>cases he2:ael T y with
  | int kb b =>
   simp only[Qc];cases hk:RM ka kb with
   | false=>rfl
   | true =>
    rw[pk hg ho (by rw[hx];rfl)];unfold gS;rw[hx];rw[Og] at hk;simp only[he,he2,LF hq,hk];cases q a b <;> exact(fF hd ..).symm
  | _=>rfl
 | _=>rfl
theorem Oq(hg:o.guard=none)(ho:nz G o=true)(hd:iE N o.dst=.ok g){t x j}(hx:o.op=.fieldAddr t x j){c ft}(hc:xS P t j=some (c,ft)){f}(hf:∀T,f T=ael T x)(ih r T D H n):Om k g c f ih r T D H n=da P G N ops o k ih r T D H n:=by
 rw[pk hg ho (by rw[hx];rfl)];unfold gS;rw[hx];simp only[Om,hf,hc];cases he:ael T x with
 | pointer p=>cases p with
  | none=>rfl
  | some a=>cases a with
   | mk b off s=>cases c with
    | zero=>exact(fF hd ..).symm
    | succ c=>exact(fF hd ..).symm
 | _=>rfl
theorem Qd(hg:o.guard=none)(ho:nz G o=true)(hd:iE N o.dst=.ok g){t x}(hx:o.op=.load t x)(hc:xR P t=true){f}(hf:∀T,f T=ael T x)(ih r T D H n):RP k g f ih r T D H n=da P G N ops o k ih r T D H n:=by
 rw[Iy hg ho (by rw[hx];rfl)];unfold jB;rw[hx];simp only[RP,hf];cases he:ael T x with
 | pointer p=>cases p with
  | none=>rfl
  | some a=>cases a with
   | mk b off s =>
    cases s with
    | some s=>rfl
    | none =>
     simp only[ldR,tS];cases bX H b with
     | none=>rfl
     | some c=>cases c with
      | cells nn tr ty w ro =>
       simp only[ldB,hc];cases Nat.blt off nn
       ·rfl
       ·simp only[cE];exact(fF hd ..).symm
      | _=>rfl
 | _=>rfl
theorem Qe(hg:o.guard=none)(ho:nz G o=true)(hd:iE N o.dst=.ok g){t x}(hx:o.op=.load t x)(hc:xR P t=false){c}(ha:Aw P t=some c){f}(hf:∀T,f T=ael T x)(ih r T D H n):RS k g c f ih r T D H n=da P G N ops o k ih r T D H n:=by
 rw[Iy hg ho (by rw[hx];rfl)];unfold jB;rw[hx];simp only[RS,hf];cases he:ael T x with
 | pointer p=>cases p with
  | none=>rfl
  | some a=>cases a with
   | mk b off s =>
    cases s with
    | some s=>rfl
    | none =>
     simp only[laR,tS];cases bX H b with
     | none=>rfl
     | some ab=>cases ab with
      | cells nn tr ty w ro =>
       simp only[laB,hc,ha];cases Nat.ble (off+c) nn
       ·rfl
       ·simp only[uj];exact(fF hd ..).symm
      | _=>rfl
 | _=>rfl
theorem Qf(hg:o.guard=none)(ho:nz G o=true)(hd:iE N o.dst=.ok g){t}(hx:o.op=.alloc t){z}(hz:kT P t=some z){b}(hb:jM z t=b)(ih r T D H n):alF k g b ih r T D H n=da P G N ops o k ih r T D H n:=by
 rw[Od hg ho (by rw[hx];rfl)];unfold sO;rw[hx];simp only[hz,hb];exact(fF hd ..).symm
theorem Qg(hg:o.guard=none)(ho:nz G o=true)(hd:iE N o.dst=.ok g){t x i}(hx:o.op=.indexAddr t x i){el c}(ht:P.underlying t=some (.slice el))(hc:fi P el=some c){f1 f2}(YK:∀T,f1 T=ael T x)(Ur:∀T,f2 T=ael T i)(ih r T D H n):RU k g c f1 f2 ih r T D H n=da P G N ops o k ih r T D H n:=by
 rw[pk hg ho (by rw[hx];rfl)];unfold gS;rw[hx];simp only[RU,YK,Ur,ht];cases he:ael T x with
 | slice p m cc=>cases p with
  | none=>rfl
  | some a=>cases a with
   | mk b off s=>cases he2:ael T i with
    | int ki i=>cases i with
     | ofNat i =>
      simp only[ixR,Ki,hc];cases Nat.blt i m with
      | false=>rfl
      | true =>
       simp only[Az];cases i*c with
       | zero=>exact(fF hd ..).symm
       | succ j=>exact(fF hd ..).symm
     | negSucc i=>rfl
    | _=>rfl
 | _=>cases he2:ael T i <;> rfl
theorem Qh(hg:o.guard=none)(ho:nz G o=true)(hd:iE N o.dst=.no){t x y}(hx:o.op=.store t x y)(ht:fi P t=some 1){f1 f2}(YK:∀T,f1 T=ael T x)(Ur:∀T,f2 T=ael T y)(ih r T D H n):RV P G N ops o k f1 f2 ih r T D H n=da P G N ops o k ih r T D H n:=by
 simp only[RV,YK,Ur];unfold stR;cases Sx:CC (ael T y) with
 | false=>rfl
 | true =>
  cases he:ael T x with
  | pointer p=>cases p with
   | none=>rfl
   | some a=>cases a with
    | mk b off s=>cases s with
     | some s=>simp only[cE];rfl
     | none =>
      simp only[cE];cases hb:bX H b with
      | none=>rfl
      | some c=>cases c with
       | cells nn tr ty w ro=>cases ro with
        | true=>rfl
        | false =>
         simp only[stB];cases iF:Nat.blt off nn with
         | false=>rfl
         | true =>
          have hcl:hO (ael T y)=[ael T y]:=by
           cases hv:ael T y <;> first|rfl|(rw[hv] at Sx;simp[CC] at Sx)
          have hff:j0 [ael T y]=true:=by
           cases hv:ael T y <;> first|rfl|(rw[hv] at Sx;simp[CC] at Sx)
          have hle:Nat.ble (off+1) nn=true:=iF;have X1:m0 P o T H n=some (.val undef (cX H b (some (.cells nn (sM tr off (ael T y)) ty w false))) n):=by
           unfold m0;rw[hx];simp only[he,vC,ht,hcl,gy,o0,hb,hle,hff];rfl
          rw[Oe hg ho (by rw[hx];rfl) ih r T D H n X1];exact(CD hd ..).symm
       | _=>rfl
  | _=>rfl
theorem IB{f:FuncId}{c:Call}(hx:o.op=.call c)(hc:c.callee=.value (.func f))(hb:rx P f=true)(T H n):m0 P o T H n=some (.ent f (mZ T c.args.toList)):=by
 unfold m0;rw[hx];simp only[hc,ael,qx,hb];simp
theorem IC{f:FuncId}{c:Call}(hx:o.op=.call c)(hc:c.callee=.value (.func f)):sy P o.op=.ef:=by
 rw[hx];obtain⟨ce,a,t⟩:=c;simp only at hc;subst hc;rfl
theorem Qi(hg:o.guard=none)(ho:nz G o=true)(hd:iE N o.dst=.ok g){f:FuncId}{c:Call}(hx:o.op=.call c)(hc:c.callee=.value (.func f))(hb:rx P f=true){aZz}(ha:∀T,aZz T=mZ T c.args.toList)(ih r T D H n):RX k g f aZz ih r T D H n=da P G N ops o k ih r T D H n:=by
 rw[Cy hg ho (IC hx hc) ih r T D H n (IB hx hc hb T H n),RX,ha];cases ih (.fn f (mZ T c.args.toList) H n) with
 | none=>rfl
 | some x=>cases x with
  | cd _ _=>rfl
  | fn v H n=>simp only[Ra,cE];exact(fF hd ..).symm
theorem Ot(hg:o.guard=none)(ho:nz G o=true)(hd:iE N o.dst=.no){f:FuncId}{c:Call}(hx:o.op=.call c)(hc:c.callee=.value (.func f))(hb:rx P f=true){aZz}(ha:∀T,aZz T=mZ T c.args.toList)(ih r T D H n):RY k f aZz ih r T D H n=da P G N ops o k ih r T D H n:=by
 rw[Cy hg ho (IC hx hc) ih r T D H n (IB hx hc hb T H n),RY,ha];cases ih (.fn f (mZ T c.args.toList) H n) with
 | none=>rfl
 | some x=>cases x with
  | cd _ _=>rfl
  | fn v H n=>simp only[Ra,cE];exact(CD hd ..).symm
end
end
noncomputable section
def RZ(P:Program)(G N:Nat)(ops:Array Oper)(o:Oper)(k:Kt)(g:Value -> Tr Value -> Tr Value):CzR:=match o.op with
 | .move x=>match cv x with
  | .mk f=>.mk (Q9 k g f)
 | .assign x=>match cv x with
  | .mk f=>.mk (Q9 k g f)
 | .pick c a b=>match cv c with
  | .mk f=>match cv a with
   | .mk fa=>match cv b with
    | .mk fb=>.mk (IA k g f fa fb)
 | .nilCheck x=>match cv x with
  | .mk f=>.mk (Ok P G N ops o k g f)
 | .binOp op _ x y _=>match LE op with
  | some q=>match cv x with
   | .mk f1=>match cv y with
    | .mk f2=>.mk (Ol P G N ops o k g q f1 f2)
  | none=>.mk (da P G N ops o k)
 | .fieldAddr t x j=>match xS P t j with
  | some (c,_)=>match cv x with
   | .mk f=>.mk (Om k g c f)
  | none=>.mk (da P G N ops o k)
 | .load t x=>match xR P t with
  | true=>match cv x with
   | .mk f=>.mk (RP k g f)
  | false=>match Aw P t with
   | some c=>match cv x with
    | .mk f=>.mk (RS k g c f)
   | none=>.mk (da P G N ops o k)
 | .alloc t=>match kT P t with
  | some z=>match jM z t with
   | .cells a b c d e=>.mk (alF k g (.cells a b c d e))
   | _=>.mk (da P G N ops o k)
  | none=>.mk (da P G N ops o k)
 | .indexAddr t x i=>match P.underlying t with
  | some (.slice el)=>match fi P el with
   | some c=>match cv x with
    | .mk f1=>match cv i with
     | .mk f2=>.mk (RU k g c f1 f2)
   | none=>.mk (da P G N ops o k)
  | _=>.mk (da P G N ops o k)
 | .call c=>match c.callee with
  | .value (.func f)=>match rx P f with
   | true=>match ca c.args.toList with
    | .mk aZz=>.mk (RX k g f aZz)
   | false=>.mk (da P G N ops o k)
  | _=>.mk (da P G N ops o k)
 | _=>.mk (da P G N ops o k)
def R0(P:Program)(G N:Nat)(ops:Array Oper)(o:Oper)(k:Kt):CzR:=match o.op with
 | .store t x y=>match fi P t with
  | some 1=>match cv x with
   | .mk f1=>match cv y with
    | .mk f2=>.mk (RV P G N ops o k f1 f2)
  | _=>.mk (da P G N ops o k)
 | .call c=>match c.callee with
  | .value (.func f)=>match rx P f with
   | true=>match ca c.args.toList with
    | .mk aZz=>.mk (RY k f aZz)
   | false=>.mk (da P G N ops o k)
  | _=>.mk (da P G N ops o k)
 | _=>.mk (da P G N ops o k)
def IE(P:Program)(G N:Nat)(ops:Array Oper)(o:Oper)(k:Kt):CzR:=match nz G o with
 | true=>match iE N o.dst with
  | .ok g=>RZ P G N ops o k g
  | .no=>R0 P G N ops o k
  | .bad=>.mk (da P G N ops o k)
 | false=>.mk (da P G N ops o k)
def FI(o:Oper):Oper:=⟨o.dst,o.op,o.type,o.pos,o.after,none⟩
def R1(want:Bool)(u:Value)(x y:Option St):Option St:=match u with
 | .bool b=>match b with
  | true=>match want with
   | true=>x
   | false=>y
  | false=>match want with
   | true=>y
   | false=>x
 | .tuple _=>y
 | _=>none
def guF(want:Bool)(f:Tr Value -> Value)(h:Kt)(k:Kt)(g:Value -> Tr Value -> Tr Value)(ih:Ih)(r:Option Nat)(T:Tr Value)(D:List Deferred)(H:AH)(n:Nat):Option St:=R1 want (f T) (h ih r T D H n) (k ih r (g undef T) D H n)
def guN(want:Bool)(f:Tr Value -> Value)(h:Kt)(k:Kt)(ih:Ih)(r:Option Nat)(T:Tr Value)(D:List Deferred)(H:AH)(n:Nat):Option St:=R1 want (f T) (h ih r T D H n) (k ih r T D H n)
def Ou(P:Program)(G N:Nat)(ops:Array Oper)(o:Oper)(nx:CzR):CzR:=match nx with
 | .mk k=>match o.guard with
  | none=>IE P G N ops o k
  | some (j,want)=>match (ops[j]?).bind (·.dst) with
   | some d=>match vL (pth d) with
    | .mk f=>match IE P G N ops (FI o) k with
     | .mk h=>match iE N o.dst with
      | .ok g=>.mk (guF want f h k g)
      | .no=>.mk (guN want f h k)
      | .bad=>.mk (da P G N ops o k)
   | none=>.mk (da P G N ops o k)
def ET(P:Program)(G N:Nat)(ops:Array Oper):List Oper -> CzR
 | []=>.mk λ _ _ T D H n=>some ⟨T,D,H,n⟩
 | o::l=>Ou P G N ops o (ET P G N ops l)
def IG(P:Program)(G N:Nat)(ops:Array Oper)(o:Oper)(k:Kt)(c:CzR):Prop:=∀ih r T D H n,c.f ih r T D H n=da P G N ops o k ih r T D H n
theorem dN{P:Program}{G N:Nat}{ops:Array Oper}{o:Oper}{k:Kt}:IG P G N ops o k (.mk (da P G N ops o k)):=λ _ _ _ _ _ _=>rfl
theorem zr{x:Operand}{f}(h:cv x=.mk f)(T:Tr Value):f T=ael T x:=by
 have:=MN x T;rw[h] at this;exact this
theorem cam{x:List Operand}{f}(h:ca x=.mk f)(T:Tr Value):f T=mZ T x:=by
 have:=MO x T;rw[h] at this;exact this
theorem Ov{P:Program}{G N:Nat}{ops:Array Oper}{o:Oper}{k:Kt}{g}(hg:o.guard=none)(ho:nz G o=true)(hd:iE N o.dst=.ok g):IG P G N ops o k (RZ P G N ops o k g):=by
 unfold RZ;split
 ·rename_i x hx;split;rename_i f hf;exact λ ih r T D H n=>MP hg ho hd (.inl hx) (zr hf) ih r T D H n
 ·rename_i x hx;split;rename_i f hf;exact λ ih r T D H n=>MP hg ho hd (.inr hx) (zr hf) ih r T D H n
 ·rename_i c a b hx;split;rename_i f hf;split;rename_i fa hfa;split;rename_i fb hfb;exact λ ih r T D H n=>LG hg ho hd hx (zr hf) (zr hfa) (zr hfb) ih r T D H n
 ·rename_i x hx;split;rename_i f hf;exact λ ih r T D H n=>On hg ho hd hx (zr hf) ih r T D H n
 ·rename_i op t x y z hx;split
  ·rename_i q hq;split;rename_i f hf;split;rename_i f2 Ur;exact λ ih r T D H n=>Oo hg ho hd hx hq (zr hf) (zr Ur) ih r T D H n
  ·exact dN
 ·rename_i t x j hx;split
  ·rename_i c ft hc;split;rename_i f hf;exact λ ih r T D H n=>Oq hg ho hd hx hc (zr hf) ih r T D H n
  ·exact dN
 ·rename_i t x hx;split
  ·rename_i hc;split;rename_i f hf;exact λ ih r T D H n=>Qd hg ho hd hx hc (zr hf) ih r T D H n
  ·rename_i hc;split
   ·rename_i c ha;split;rename_i f hf;exact λ ih r T D H n=>Qe hg ho hd hx hc ha (zr hf) ih r T D H n
   ·exact dN
 ·rename_i t hx;split
  ·rename_i z hz;split
   ·rename_i a b c d e hb;exact λ ih r T D H n=>Qf hg ho hd hx hz hb ih r T D H n
   ·exact dN
  ·exact dN
 ·rename_i t x i hx;split
  ·rename_i el ht;split
   ·rename_i c hc;split;rename_i f hf;split;rename_i f2 Ur;exact λ ih r T D H n=>Qg hg ho hd hx ht hc (zr hf) (zr Ur) ih r T D H n
   ·exact dN
  ·exact dN
 ·rename_i c hx;split
  ·rename_i f hc;split
   ·rename_i hb;split;rename_i aZz ha;exact λ ih r T D H n=>Qi hg ho hd hx hc hb (cam ha) ih r T D H n
   ·exact dN
  ·exact dN
 ·exact dN
theorem Ow{P:Program}{G N:Nat}{ops:Array Oper}{o:Oper}{k:Kt}(hg:o.guard=none)(ho:nz G o=true)(hd:iE N o.dst=.no):IG P G N ops o k (R0 P G N ops o k):=by
 unfold R0;split
 ·rename_i t x y hx;split
  ·rename_i hc;split;rename_i f hf;split;rename_i f2 Ur;exact λ ih r T D H n=>Qh hg ho hd hx hc (zr hf) (zr Ur) ih r T D H n
  ·exact dN
 ·rename_i c hx;split
  ·rename_i f hc;split
   ·rename_i hb;split;rename_i aZz ha;exact λ ih r T D H n=>Ot hg ho hd hx hc hb (cam ha) ih r T D H n
   ·exact dN
  ·exact dN
 ·exact dN
theorem CE{P:Program}{G N:Nat}{ops:Array Oper}{o:Oper}{k:Kt}(hg:o.guard=none):IG P G N ops o k (IE P G N ops o k):=by
 unfold IE;split
 ·rename_i ho;split
  ·rename_i g hd;exact Ov hg ho hd
  ·rename_i hd;exact Ow hg ho hd
  ·exact dN
 ·exact dN
theorem ng(P:Program)(T:Tr Value)(o:Oper):gz P T (FI o)=gz P T o:=by
 have e:execOp (ael T) (FI o)=execOp (ael T) o:=by
  obtain⟨dst,op,type,pos,after,guard⟩:=o;cases op <;> rfl
 unfold gz;rw[e];rfl
theorem EU(P:Program)(T:Tr Value)(o:Oper):gS P (FI o) T=gS P o T:=by
 unfold gS;simp only[ng];rfl
theorem EV(P:Program)(T:Tr Value)(H:AH)(o:Oper):jB P (FI o) T H=jB P o T H:=by
 unfold jB;simp only[ng];rfl
theorem IH(P:Program)(T:Tr Value)(H:AH)(n:Nat)(o:Oper):m0 P (FI o) T H n=m0 P o T H n:=by
 unfold m0;simp only[ng];rfl
theorem II(P:Program)(G:Nat)(ih:Ih)(r:Option Nat)(T:Tr Value)(H:AH)(n:Nat)(o:Oper):j4 P G ih r (FI o) T H n=j4 P G ih r o T H n:=by
 unfold j4 Cj;simp only[EU,EV,IH];rfl
theorem rT{P:Program}{G N:Nat}{ops:Array Oper}{o:Oper}{k:Kt}{j:Nat}{want:Bool}(hg:o.guard=some (j,want)){d:Tmp}(hd:(ops[j]?).bind (·.dst)=some d){f:Tr Value -> Value}(hf:∀T,f T=cY T d){h:Kt}(hh:∀ih r T D H n,h ih r T D H n=da P G N ops (FI o) k ih r T D H n)(ih r T D H n) :
  da P G N ops o k ih r T D H n=R1 want (f T) (h ih r T D H n) (match fo N o.dst undef T with|some T=>k ih r T D H n|none=>none):=by
 rw[hh,hf];have e:da P G N ops (FI o) k ih r T D H n=match j4 P G ih r o T H n with
  | none=>none
  | some (.val v H n)=>eU v λ v=>match fo N o.dst v T with
   | some T=>k ih r T D H n
   | none=>none
  | some (.dfr d)=>match fo N o.dst undef T with
   | some T=>k ih r T (d::D) H n
   | none=>none:=by
  simp only[da,eO,FI];rw[<- II P G ih r T H n o];rfl
 rw[e];simp only[da,eO,hg,hd];cases cY T d with
 | bool b=>cases b <;> cases want <;> rfl
 | _=>rfl
theorem Ox{P:Program}{G N:Nat}{ops:Array Oper}{o:Oper}{k:Kt}:IG P G N ops o k (Ou P G N ops o (.mk k)):=by
 cases hg:o.guard with
 | none=>simp only[Ou,hg];exact CE hg
 | some jw =>
  obtain⟨j,want⟩:=jw;cases hd:(ops[j]?).bind (·.dst) with
  | none=>simp only[Ou,hg,hd];exact dN
  | some d =>
   cases hf:vL (pth d) with
   | mk f=>cases hh:IE P G N ops (FI o) k with
    | mk h =>
     have hf':∀T,f T=cY T d:=λ T=>by have:=qA (pth d) T;rw[hf] at this;exact this
     have hh':=CE (P:=P) (G:=G) (N:=N) (ops:=ops) (o:=FI o) (k:=k) rfl;rw[hh] at hh';cases hdk:iE N o.dst with
     | ok g =>
      simp only[Ou,hg,hd,hf,hh,hdk];intro ih r T D H n;rw[rT hg hd hf' hh',Cw hdk];rfl
     | no =>
      simp only[Ou,hg,hd,hf,hh,hdk];intro ih r T D H n;rw[rT hg hd hf' hh',Cx hdk];rfl
     | bad=>simp only[Ou,hg,hd,hf,hh,hdk];exact dN
theorem CF(P:Program)(G N:Nat)(ops:Array Oper):∀l,CzR.okL P G N ops l (ET P G N ops l).f
 | []=>λ ih r T D H n=>rfl
 | o::l=>by
  have h:=CF P G N ops l;cases hk:ET P G N ops l with
  | mk k =>
   rw[hk] at h;intro ih r T D H n;simp only[ET,hk];rw[Ox];exact LD h o ih r T D H n
def Rb(P:Program)(G N:Nat)(c:Code)(ih:Ih)(r:Option Nat)(T:Tr Value)(D:List Deferred)(H:AH)(n:Nat):Option (Ex × St):=jd P G ih r N c ⟨T,D,H,n⟩
def Qj(k:Kt)(ih:Ih)(r:Option Nat)(T:Tr Value)(D:List Deferred)(H:AH)(n:Nat):Option (Ex × St):=match k ih r T D H n with
 | some s=>some (.normal,s)
 | none=>none
abbrev Kc:=Ih -> Option Nat -> Tr Value -> List Deferred -> AH -> Nat -> Option (Ex × St)
def R3(x:Option (Ex × St))(y:Tr Value -> List Deferred -> AH -> Nat -> Option (Ex × St)):Option (Ex × St):=match x with
 | some p=>match p with
  | (e,s)=>match e with
   | .normal=>match s with
    | ⟨T,D,H,n⟩=>y T D H n
   | .exit id=>some (.exit id,s)
   | .ret=>some (.ret,s)
 | none=>none
def Qk(a b:Kc)(ih:Ih)(r:Option Nat)(T:Tr Value)(D:List Deferred)(H:AH)(n:Nat):Option (Ex × St):=R3 (a ih r T D H n) λ T D H n=>b ih r T D H n
def Ql(u:Value)(x y:Option (Ex × St)):Option (Ex × St):=match u with
 | .bool b=>match b with
  | true=>x
  | false=>y
 | _=>none
def MQ(f:Tr Value -> Value)(a b:Kc)(ih:Ih)(r:Option Nat)(T:Tr Value)(D:List Deferred)(H:AH)(n:Nat):Option (Ex × St):=Ql (f T) (a ih r T D H n) (b ih r T D H n)
def Qm(id:Nat)(x:Option (Ex × St)):Option (Ex × St):=match x with
 | some p=>match p with
  | (e,s)=>match e with
   | .exit Vc=>match Nat.beq Vc id with
    | true=>some (.normal,s)
    | false=>some (.exit Vc,s)
   | .normal=>some (.normal,s)
   | .ret=>some (.ret,s)
 | none=>none
def Qn(id:Nat)(a:Kc)(ih:Ih)(r:Option Nat)(T:Tr Value)(D:List Deferred)(H:AH)(n:Nat):Option (Ex × St):=Qm id (a ih r T D H n)
def Qo(x:Option (Ex × St))(y:St -> Option Rs):Option (Ex × St):=match x with
 | some p=>match p with
  | (e,s)=>match e with
   | .normal=>match y s with
    | some q=>match q with
     | .cd e s=>some (e,s)
     | .fn _ _ _=>none
    | none=>none
   | .exit id=>some (.exit id,s)
   | .ret=>some (.ret,s)
 | none=>none
def Qp(N:Nat)(c:Code)(a:Kc)(ih:Ih)(r:Option Nat)(T:Tr Value)(D:List Deferred)(H:AH)(n:Nat):Option (Ex × St):=Qo (a ih r T D H n) λ s=>ih (.loop r N c s)
def iG(P:Program)(G N:Nat):Code -> CzC
 | .skip=>.mk λ _ _ T D H n=>some (.normal,⟨T,D,H,n⟩)
 | .label _=>.mk λ _ _ T D H n=>some (.normal,⟨T,D,H,n⟩)
 | .region id ops draw=>match draw with
  | false=>match ET P G N ops ops.toList with
   | .mk k=>.mk (Qj k)
  | true=>.mk (Rb P G N (.region id ops true))
 | .seq a b=>match iG P G N a with
  | .mk fa=>match iG P G N b with
   | .mk fb=>.mk (Qk fa fb)
 | .cond c a b=>match cv c with
  | .mk f=>match iG P G N a with
   | .mk fa=>match iG P G N b with
    | .mk fb=>.mk (MQ f fa fb)
 | .block id c=>match iG P G N c with
  | .mk fa=>.mk (Qn id fa)
 | .loop c=>match iG P G N c with
  | .mk fa=>.mk (Qp N c fa)
 | .rangeFunc g ps assign body=>.mk (Rb P G N (.rangeFunc g ps assign body))
 | .exit id=>.mk λ _ _ T D H n=>some (.exit id,⟨T,D,H,n⟩)
 | .scope c=>iG P G N c
 | .goto l=>.mk (Rb P G N (.goto l))
 | .ret=>.mk λ _ _ T D H n=>some (.ret,⟨T,D,H,n⟩)
 | .refuse x=>.mk (Rb P G N (.refuse x))
def Qq(P:Program)(G N:Nat)(c:Code)(f:Kc):Prop:=∀ih r T D H n,f ih r T D H n=jd P G ih r N c ⟨T,D,H,n⟩
theorem iH(P:Program)(G N:Nat):∀c,Qq P G N c (iG P G N c).f
 | .skip=>λ _ _ _ _ _ _=>rfl
 | .label _=>λ _ _ _ _ _ _=>rfl
 | .region id ops draw=>by
  cases draw with
  | true=>exact λ _ _ _ _ _ _=>rfl
  | false =>
   have h:=CF P G N ops ops.toList;cases hk:ET P G N ops ops.toList with
   | mk k =>
    rw[hk] at h;intro ih r T D H n;simp only[iG,hk,CzC.f,Qj,jd];have:=h ih r T D H n;simp only[CzR.f] at this;rw[this];cases mF P G ih r N ops ops.toList ⟨T,D,H,n⟩ <;> rfl
 | .seq a b=>by
  have h1:=iH P G N a;have h2:=iH P G N b;cases ha:iG P G N a with
  | mk fa=>cases hb:iG P G N b with
   | mk fb =>
    rw[ha] at h1;rw[hb] at h2;intro ih r T D H n;have e1:=h1 ih r T D H n;simp only[CzC.f] at e1;simp only[iG,ha,hb,CzC.f,Qk,jd,e1];cases jd P G ih r N a ⟨T,D,H,n⟩ with
    | none=>rfl
    | some p=>obtain⟨e,s⟩:=p;cases e with
     | normal=>obtain⟨T,D,H,n⟩:=s;exact h2 ih r T D H n
     | exit id=>rfl
     | ret=>rfl
 | .cond c a b=>by
  have h1:=iH P G N a;have h2:=iH P G N b;cases hc:cv c with
  | mk f=>cases ha:iG P G N a with
   | mk fa=>cases hb:iG P G N b with
    | mk fb =>
     rw[ha] at h1;rw[hb] at h2;intro ih r T D H n;simp only[iG,hc,ha,hb,CzC.f,MQ,jd,zr hc];cases ael T c with
     | bool q=>cases q with
      | true=>exact h1 ih r T D H n
      | false=>exact h2 ih r T D H n
     | _=>rfl
 | .block id c=>by
  have h1:=iH P G N c;cases ha:iG P G N c with
  | mk fa =>
   rw[ha] at h1;intro ih r T D H n;have e1:=h1 ih r T D H n;simp only[CzC.f] at e1;simp only[iG,ha,CzC.f,Qn,jd,e1];cases jd P G ih r N c ⟨T,D,H,n⟩ with
   | none=>rfl
   | some p=>obtain⟨e,s⟩:=p;cases e with
    | normal=>rfl
    | exit Vc=>simp only[Qm];cases Nat.beq Vc id <;> rfl
    | ret=>rfl
 | .loop c=>by
  have h1:=iH P G N c;cases ha:iG P G N c with
  | mk fa =>
   rw[ha] at h1;intro ih r T D H n;have e1:=h1 ih r T D H n;simp only[CzC.f] at e1;simp only[iG,ha,CzC.f,Qp,jd,e1];cases jd P G ih r N c ⟨T,D,H,n⟩ with
   | none=>rfl
   | some p=>obtain⟨e,s⟩:=p;cases e with
    | normal =>
     simp only[Qo];cases ih (.loop r N c s) with
     | none=>rfl
     | some q=>cases q <;> rfl
    | exit Vc=>rfl
    | ret=>rfl
 | .rangeFunc g ps assign body=>λ _ _ _ _ _ _=>rfl
 | .exit id=>λ _ _ _ _ _ _=>rfl
 | .scope c=>by
  intro ih r T D H n;simp only[iG,jd];exact iH P G N c ih r T D H n
 | .goto l=>λ _ _ _ _ _ _=>rfl
 | .ret=>λ _ _ _ _ _ _=>rfl
 | .refuse x=>λ _ _ _ _ _ _=>rfl
def LH:List ResultVar -> Option CzA
 | []=>some (.mk λ _=>[])
 | x::l=>match x with
  | .tmp t=>match vL (pth t) with
   | .mk f=>match LH l with
    | some c=>match c with
     | .mk h=>some (.mk λ T=>f T::h T)
    | none=>none
  | .cell _ _=>none
theorem IJ(P:Program)(H:AH)(T:Tr Value):∀ {l:List ResultVar} {h},LH l=some (.mk h) -> o7 P T H l=some (h T)
 | [],h,e=>by simp only[LH,Option.some.injEq,CzA.mk.injEq] at e;subst e;rfl
 | .cell _ _::l,h,e=>by simp[LH] at e
 | .tmp t::l,h,e=>by
  simp only[LH] at e;cases hf:vL (pth t) with
  | mk f =>
   rw[hf] at e;simp only at e;cases hl:LH l with
   | none=>rw[hl] at e;simp at e
   | some c=>cases c with
    | mk h' =>
     rw[hl] at e;simp only[Option.some.injEq,CzA.mk.injEq] at e;subst e;have:=qA (pth t) T;rw[hf] at this;simp only[CzV.f] at this;simp only[o7,IJ P H T hl,this];rfl
def Oy(l:List Value):Nat -> Tr Value -> Tr Value:=List.rec (motive:=λ _=>Nat -> Tr Value -> Tr Value) (λ _ t=>t) (λ x _ ih i t=>eU x λ x=>ih (i+1) (dW undef x (pth i) t)) l
theorem CG:∀ (l:List Value) (i:Nat) (t:Tr Value),Oy l i t=dS undef l i t
 | [],i,t=>rfl
 | x::l,i,t=>by
  have:=CG l (i+1) (dW undef x (pth i) t);show (eU x λ x=>Oy l (i+1) (dW undef x (pth i) t))=_;rw[cE,this,dS];have e:Tr.set undef x t i=dW undef x (pth i) t:=rfl;rw[e];cases dW undef x (pth i) t <;> rfl
def Qr(h:List Value):Value:=match h with
 | []=>.tuple ⟨[]⟩
 | v::l=>match l with
  | []=>v
  | w::l=>.tuple ⟨v::w::l⟩
theorem LI(h:List Value):Qr h=xZ h:=by
 cases h with
 | nil=>rfl
 | cons v l=>cases l <;> rfl
def Qs(P:Program)(fn:Func)(ih:Ih)(s:St):Option Rs:=match kx P ih s.D s.H s.n with
 | some (H,n)=>match o7 P s.T H fn.results.toList with
  | some vs=>some (.fn (xZ vs) H n)
  | none=>none
 | none=>none
def R4(P:Program)(fn:Func)(h:Tr Value -> List Value)(ih:Ih)(s:St):Option Rs:=match s with
 | ⟨T,D,H,n⟩=>match D with
  | []=>some (.fn (Qr (h T)) H n)
  | d::D=>Qs P fn ih ⟨T,d::D,H,n⟩
def fnR(x:Option (Ex × St))(y:St -> Option Rs):Option Rs:=match x with
 | some p=>match p with
  | (e,s)=>match e with
   | .exit _=>none
   | .normal=>y s
   | .ret=>y s
 | none=>none
def Rc(N:Nat)(k:Kc)(y:Ih -> St -> Option Rs)(ih:Ih)(args:List Value)(H:AH)(n:Nat):Option Rs:=match Nat.ble (gy args) N with
 | true=>fnR (k ih none (Oy args 0 .lf) [] H n) (y ih)
 | false=>none
def EW(P:Program)(G:Nat)(f:FuncId):CzF:=match rC P f with
 | some (fn,c)=>match iG P G fn.ntmps c with
  | .mk k=>match LH fn.results.toList with
   | some h=>match h with
    | .mk h=>.mk (Rc fn.ntmps k (R4 P fn h))
   | none=>.mk (Rc fn.ntmps k (Qs P fn))
 | none=>.mk λ _ _ _ _=>none
theorem Oz{P:Program}{fn:Func}{h}(e:LH fn.results.toList=some (.mk h))(ih:Ih)(s:St):R4 P fn h ih s=Qs P fn ih s:=by
 obtain⟨T,D,H,n⟩:=s;cases D with
 | cons d D=>rfl
 | nil=>simp only[R4,Qs,kx,IJ P H T e,LI]
theorem IK{P:Program}{G:Nat}{fn:Func}{c:Code}{f:FuncId}(hb:rC P f=some (fn,c)){k:Kc}(hk:Qq P G fn.ntmps c k){y:Ih -> St -> Option Rs}(hy:∀ih s,y ih s=Qs P fn ih s)(ih:Ih)(args:List Value)(H:AH)(n:Nat):Rc fn.ntmps k y ih args H n=gU P G ih (.fn f args H n):=by
 simp only[Rc,gU,hb];cases Nat.ble (gy args) fn.ntmps with
 | false=>rfl
 | true =>
  simp only[hk ih,CG];rw[show dS undef args 0 .lf=mG args from rfl];cases jd P G ih none fn.ntmps c ⟨mG args,[],H,n⟩ with
  | none=>rfl
  | some p=>obtain⟨e,s⟩:=p;cases e with
   | exit _=>rfl
   | normal=>exact hy ih s
   | ret=>exact hy ih s
theorem LJ(P:Program)(G:Nat)(f:FuncId)(ih:Ih)(args:List Value)(H:AH)(n:Nat):(EW P G f).f ih args H n=gU P G ih (.fn f args H n):=by
 cases hb:rC P f with
 | none=>simp only[EW,hb,CzF.f,gU]
 | some p =>
  obtain⟨fn,c⟩:=p;have h1:=iH P G fn.ntmps c;cases hk:iG P G fn.ntmps c with
  | mk k =>
   rw[hk] at h1;cases hr:LH fn.results.toList with
   | none =>
    simp only[EW,hb,hk,hr,CzF.f];exact IK hb h1 (λ _ _=>rfl) ih args H n
   | some h=>cases h with
    | mk h =>
     simp only[EW,hb,hk,hr,CzF.f];exact IK hb h1 (λ ih s=>Oz hr ih s) ih args H n
def yD(P:Program)(G:Nat)(ih:Ih)(t:Task):Option Rs:=match t with
 | .loop r N c s=>match iG P G N (.loop c) with
  | .mk k=>match s with
   | ⟨T,D,H,n⟩=>match k ih r T D H n with
    | some p=>match p with
     | (e,s)=>some (.cd e s)
    | none=>none
 | .fn f args H n=>match EW P G f with
  | .mk k=>k ih args H n
 | t=>gU P G ih t
theorem IL(P:Program)(G:Nat)(ih:Ih)(t:Task):yD P G ih t=gU P G ih t:=by
 cases t with
 | loop r N c s =>
  obtain⟨T,D,H,n⟩:=s;have h1:=iH P G N (.loop c);cases hk:iG P G N (.loop c) with
  | mk k =>
   rw[hk] at h1;have:=h1 ih r T D H n;simp only[CzC.f] at this;simp only[yD,hk,gU,this];cases jd P G ih r N (.loop c) ⟨T,D,H,n⟩ with
   | none=>rfl
   | some p=>rfl
 | fn f args H n =>
  have:=LJ P G f ih args H n;cases hk:EW P G f with
  | mk k =>
   rw[hk] at this;simp only[yD,hk];exact this
 | _=>rfl
def IM(P:Program)(G:Nat)(k:Nat):Ih:=Nat.rec (motive:=λ _=>Ih) (λ _=>none) (λ _ ih t=>yD P G ih t) k
theorem CH(P:Program)(G:Nat):∀k,IM P G k=HX P G k
 | 0=>rfl
 | k+1=>by
  funext t;show yD P G (IM P G k) t=_;rw[IL,CH P G k];rfl
end
noncomputable section
def vM(ν:Nu)(h:Nat):Nat:=match ν h with
 | some (b,_)=>b
 | none=>0
def R5(ν:Nu)(h c:Nat):Nat:=match Nat.blt c lU with
 | true=>c
 | false=>match ν h with
  | some (_,K)=>K-(c-lU)
  | none=>0
mutual
def mv(ν:Nu):Value -> Value
 | .pointer (some a)=>.pointer (some ⟨vM ν a.block,a.off,none⟩)
 | .slice (some a) n c=>.slice (some ⟨vM ν a.block,a.off,none⟩) n (R5 ν a.block c)
 | .map (some h)=>.map (some (vM ν h))
 | .iface t v=>.iface t (mv ν v)
 | .agg c=>.agg (IO ν c)
 | .tuple c=>.tuple (IO ν c)
 | v=>v
def IO(ν:Nu):Array Value -> Array Value
 | ⟨l⟩=>⟨IP ν l⟩
def IP(ν:Nu):List Value -> List Value
 | []=>[]
 | v::l=>mv ν v::IP ν l
end
mutual
def rU:Value -> Bool
 | .iface _ v=>rU v
 | .func f a c=>pl (.func f a c)
 | .agg c=>Re c
 | .tuple c=>Re c
 | .chan _=>false
 | _=>true
def Re:Array Value -> Bool
 | ⟨l⟩=>OA l
def OA:List Value -> Bool
 | []=>true
 | v::l=>match rU v with
  | true=>OA l
  | false=>false
end
theorem vN{ν:Nu}:∀ {l l':List Value},l.length=l'.length -> (∀ (i:Nat) (v v':Value),l[i]?=some v -> l'[i]?=some v' -> rU v=true -> v'=mv ν v) -> OA l=true -> l'=IP ν l
 | [],[],_,_,_=>rfl
 | [],_::_,e,_,_=>by simp at e
 | _::_,[],e,_,_=>by simp at e
 | v::l,v'::l',e,h,ho=>by
  rw[OA] at ho;cases hv:rU v with
  | false=>rw[hv] at ho;cases ho
  | true =>
   rw[hv] at ho;have a1:=h 0 v v' rfl rfl hv;have a2:=vN (l:=l) (l':=l') (by simpa using e) (λ i a b h1 h2=>h (i+1) a b (by simpa using h1) (by simpa using h2)) ho;rw[IP,<- a1,<- a2]
theorem CI{ν:Nu}{v v':Value}(h:VRi ν v v'):rU v=true -> v'=mv ν v:=by
 induction h with
 | atom v h =>
  intro _;cases v with
  | pointer a=>cases a with
   | none=>rfl
   | some a=>simp[cC] at h
  | slice a n c=>cases a with
   | none=>rfl
   | some a=>simp[cC] at h
  | map r=>cases r with
   | none=>rfl
   | some r=>simp[cC] at h
  | iface t v=>simp[cC] at h
  | agg c=>simp[cC] at h
  | tuple c=>simp[cC] at h
  | _=>rfl
 | ptr o h=>intro _;simp[mv,vM,h]
 | @slice hd b K c c' o n h hc =>
  intro _;simp only[mv,vM,R5,h];congr 1;cases hb:Nat.blt c lU with
  | true=>exact hc.1 (Eq.mp Nat.blt_eq hb)
  | false =>
   have h2:=hc.2 (kU hb);simp only;omega
 | map h=>intro _;simp[mv,vM,h]
 | func hf e1 h1 e2 h2 _ _ =>
  intro ho;have:=VRi.plain_eq (VRi.func hf e1 h1 e2 h2) (by simpa only[rU] using ho);rw[this];rfl
 | iface t _ ih=>intro ho;rw[mv,<- ih (by simpa only[rU] using ho)]
 | @agg c c' e _ ih =>
  intro ho;obtain⟨l⟩:=c;obtain⟨l'⟩:=c';simp only[List.getElem?_toArray] at ih;rw[mv,IO,vN (l:=l) (l':=l') e ih (by simpa only[rU,Re] using ho)]
 | @tuple c c' e _ ih =>
  intro ho;obtain⟨l⟩:=c;obtain⟨l'⟩:=c';simp only[List.getElem?_toArray] at ih;rw[mv,IO,vN (l:=l) (l':=l') e ih (by simpa only[rU,Re] using ho)]
theorem LK{ν:Nu}{l l':List Value}(h:LR ν l l'):OA l=true -> l'=l.map (mv ν):=by
 induction h with
 | nil=>intro _;rfl
 | @cons v v' l l' h _ ih =>
  intro ho;rw[OA] at ho;cases hv:rU v with
  | false=>rw[hv] at ho;cases ho
  | true =>
   rw[hv] at ho;rw[List.map_cons,CI h hv,ih ho]
abbrev PB:=Nat × List Value × TypeId
def LL(H:AH)(p:PB):Bool:=match bX H p.1 with
 | some (.cells n t ty _ _)=>match Nat.beq n (gy p.2.1),Nat.beq ty p.2.2 with
  | true,true=>match p8 (gT t 0 n) p.2.1 with
   | true=>OA p.2.1
   | false=>false
  | _,_=>false
 | _=>false
def CJ(H:AH):List PB -> Bool
 | []=>true
 | p::l=>match LL H p with
  | true=>CJ H l
  | false=>false
def pm(ν:Nu)(w:World)(p:PB):List Value:=match w.heap[vM ν p.1]? with
 | some (.cells c _ _)=>c.toList.drop p.2.1.length
 | _=>[]
def rV(ν:Nu)(rest:PB -> List Value)(p:PB):Nat × Blk:=(vM ν p.1,.lit (p.2.1.map (mv ν)++rest p) p.2.2 (0,0))
theorem CK(l l':List Value)(h:p8 l l'=true):l=l':=by
 induction l generalizing l' with
 | nil=>cases l' with
  | nil=>rfl
  | cons v l'=>simp[p8] at h
 | cons v l ih=>cases l' with
  | nil=>simp[p8] at h
  | cons v' l' =>
   rw[p8] at h;cases hv:sA v v' with
   | false=>rw[hv] at h;cases h
   | true=>rw[hv] at h;rw[AV _ _ hv,ih _ h]
theorem IQ{ν:Nu}{H:AH}{F:HL}{w:World}(hH:HR ν H F w){p:PB}(hc:LL H p=true) :
  (∃K,ν p.1=some (vM ν p.1,K)) /\ (∃b,bX H p.1=some b) /\ w.heap[vM ν p.1]?=some (rV ν (pm ν w) p).2.den:=by
 unfold LL at hc;split at hc
 case h_2=>cases hc
 rename_i n t ty ww ro hb;split at hc
 case h_2=>cases hc
 rename_i e1 e2;have e1:=aa1 e1;have e2:=aa1 e2;split at hc
 case h_2=>cases hc
 rename_i e3;have e3:=CK _ _ e3;obtain⟨r,K,o,h1,h2,h3⟩:=hH.blk _ _ hb;have hn:vM ν p.1=r:=by simp[vM,h1]
 have hcc:=hH.cells hb h1;obtain⟨c,ty',fz,g1,g2⟩:=hcc;refine⟨⟨K,by rw[hn];exact h1⟩,⟨_,hb⟩,?_⟩;rw[hn,g1];have hr:=j8 g2.le g2.get n 0 (by omega);rw[e3] at hr;have hl:=LK hr hc;rw[ew] at e1;simp only[rV,Blk.den,pm,hn,g1,g2.ty,g2.fz,<- e2];congr 2;apply Array.ext';simp only;rw[<- hl,List.drop_zero,<- e1,aa8]
def yE:List PB -> AH
 | []=>.lf
 | p::l=>cX (yE l) p.1 (some (.cells (gy p.2.1) (dS undef p.2.1 0 .lf) p.2.2 1 true))
def yF(tabs:List PB)(G:Nat):Nu:=λ h=>if h<G then some (h,match tabs.find? (λ p=>p.1 == h) with|some p=>p.2.1.length|none=>0) else none
def om(p:PB):Nat × Blk:=(p.1,.lit p.2.1 p.2.2 (0,0))
def yG(G:Nat):List PB -> Bool
 | []=>true
 | p::l=>match Nat.blt p.1 G,xP p.2.1,l.any (λ q=>q.1 == p.1) with
  | true,true,false=>yG G l
  | _,_,_=>false
end
noncomputable section
theorem CL:∀ (tabs:List PB) (h:Nat),bX (yE tabs) h=match tabs.find? (λ p=>p.1 == h) with
  | some p=>some (.cells (gy p.2.1) (dS undef p.2.1 0 .lf) p.2.2 1 true)
  | none=>none
 | [],h=>AF _
 | p::l,h=>by
  rw[yE,dL,CL l h]
  by_cases e:p.1=h
  ·rw[if_pos e,List.find?_cons_of_pos (by simpa using e)]
  ·rw[if_neg e,List.find?_cons_of_neg (by simpa using e)]
theorem md{G:Nat}:∀ {tabs:List PB},yG G tabs=true -> ∀p∈tabs,p.1<G /\ xP p.2.1=true
 | [],_,p,hp=>by simp at hp
 | q::l,h,p,hp=>by
  rw[yG] at h;split at h
  ·rename_i h1 h2 h3;rcases List.mem_cons.1 hp with rfl|hp
   ·exact⟨Eq.mp Nat.blt_eq h1,h2⟩
   ·exact md h p hp
  ·cases h
theorem CM:∀ {l:List Value},xP l=true -> ∀ {i:Nat} {v:Value},l[i]?=some v -> pl v=true
 | [],_,i,v,h=>by simp at h
 | x::l,hp,i,v,h=>by
  rw[xP] at hp;split at hp
  ·rename_i hx;cases i with
   | zero=>simp at h;rw[<- h];exact hx
   | succ i=>exact CM hp (by simpa using h)
  ·cases hp
theorem pn{tabs:List PB}{h:Nat}{p:PB}(e:tabs.find? (λ p=>p.1 == h)=some p):p∈tabs /\ p.1=h :=
 ⟨List.mem_of_find?_eq_some e,by simpa using List.find?_some e⟩
section
variable {tabs picks:List PB} {G:Nat} {F:HL} {w:World}
theorem OB(ht:yG G tabs=true)(hR:Rel (tabs.map om++F) w):HR (yF tabs G) (yE tabs) F w:=by
 have key:∀h b,bX (yE tabs) h=some b -> ∃p,tabs.find? (λ p=>p.1 == h)=some p /\ b=.cells (gy p.2.1) (dS undef p.2.1 0 .lf) p.2.2 1 true:=λ h b hb=>by
  rw[CL] at hb;split at hb
  ·rename_i p hp;cases hb;exact⟨p,hp,rfl⟩
  ·cases hb
 refine⟨λ h b hb=>?_,λ h₁ h₂ b₁ b₂ r K₁ K₂ _ _ e1 e2=>?_,λ x hx=>hR.holds x (aay _ hx),λ h b r K hb e1 x hx=>?_⟩
 ·obtain⟨p,hp,rfl⟩:=key h b hb;obtain⟨hm,rfl⟩:=pn hp;obtain⟨iF,hpl⟩:=md ht p hm;refine⟨p.1,p.2.1.length,.cells ⟨p.2.1⟩ p.2.2 (0,0),by simp only[yF,if_pos iF,hp],?_,?_⟩
  ·exact hR.holds (om p) (aaA _ (List.mem_map.2 ⟨p,hm,rfl⟩))
  ·refine⟨rfl,by rw[ew];exact aaK _,rfl,λ i hi=>?_,λ _=>by simp⟩;rw[ew] at hi;refine⟨p.2.1[i],by simp[hi],?_⟩;rw[lD hi];exact VRi.plain_refl _ (CM hpl (aaT hi))
 ·unfold yF at e1 e2;split at e1
  ·split at e2
   ·simp only[Option.some.injEq,Prod.mk.injEq] at e1 e2;rw[e1.1,e2.1]
   ·cases e2
  ·cases e1
 ·obtain⟨p,hp,rfl⟩:=key h b hb;obtain⟨hm,rfl⟩:=pn hp;have hr:r=p.1:=by
   unfold yF at e1;split at e1
   ·simp only[Option.some.injEq,Prod.mk.injEq] at e1;exact e1.1.symm
   ·cases e1
  intro e;have hn:=hR.nodup;rw[List.map_append,List.nodup_append] at hn;exact hn.2.2 p.1 (by rw[List.map_map];exact List.mem_map.2 ⟨p,hm,rfl⟩) x.1 (List.mem_map.2 ⟨x,hx,rfl⟩) (by rw[e,hr])
def LM(H:AH)(p:PB):Bool:=match bX H p.1 with
 | some (.cells n t ty ww _)=>match Nat.beq n (gy p.2.1),Nat.beq ty p.2.2,Nat.beq ww 1 with
  | true,true,true=>p8 (gT t 0 n) p.2.1
  | _,_,_=>false
 | _=>false
def CN(H:AH):List PB -> Bool
 | []=>true
 | p::l=>match LM H p with
  | true=>CN H l
  | false=>false
theorem uk{H:AH}:∀ {l:List PB},CN H l=true -> ∀p∈l,LM H p=true
 | [],_,p,hp=>by simp at hp
 | q::l,h,p,hp=>by
  rw[CN] at h;split at h
  ·rename_i h1;rcases List.mem_cons.1 hp with rfl|hp
   ·exact h1
   ·exact uk h p hp
  ·cases h
theorem um{H:AH}:∀ {l:List PB},CJ H l=true -> ∀p∈l,LL H p=true
 | [],_,p,hp=>by simp at hp
 | q::l,h,p,hp=>by
  rw[CJ] at h;split at h
  ·rename_i h1;rcases List.mem_cons.1 hp with rfl|hp
   ·exact h1
   ·exact um h p hp
  ·cases h
theorem LR.plain_eq{ν:Nu}{l l':List Value}(h:LR ν l l'):xP l=true -> l'=l:=by
 induction h with
 | nil=>intro _;rfl
 | @cons v v' l l' h _ ih =>
  intro hp;rw[xP] at hp;split at hp
  ·rename_i hv;rw[VRi.plain_eq h hv,ih hp]
  ·cases hp
theorem LN{ν:Nu}{H:AH}(hH:HR ν H F w){p:PB}(hc:LM H p=true)(hp:xP p.2.1=true)(hν:ν p.1=some (p.1,p.2.1.length)):w.heap[p.1]?=some (om p).2.den /\ ∃b,bX H p.1=some b:=by
 unfold LM at hc;split at hc
 case h_2=>cases hc
 rename_i n t ty ww ro hb;split at hc
 case h_2=>cases hc
 rename_i e1 e2 e3;have e1:=aa1 e1;have e2:=aa1 e2;have e3:=aa1 e3;have e4:=CK _ _ hc;obtain⟨c,ty',fz,g1,g2⟩:=hH.cells hb hν;refine⟨?_,_,hb⟩;have hr:=j8 g2.le g2.get n 0 (by omega);rw[e4] at hr;have hl:=hr.plain_eq hp;have D_:=g2.gr (by omega);rw[e3,Nat.mul_one] at D_;rw[ew] at e1;rw[g1,g2.ty,g2.fz,e2];simp only[om,Blk.den];congr 2;apply Array.ext';rw[List.drop_zero] at hl;rw[<- hl,List.take_of_length_le];have:c.toList.length=c.size:=rfl;omega
theorem rX:∀ {l:List PB},(l.map (·.1)).Nodup -> ∀ {p q:PB},p∈l -> q∈l -> q.1=p.1 -> q=p
 | [],_,p,q,hp,_,_=>by simp at hp
 | x::l,hd,p,q,hp,hq,e=>by
  simp only[List.map_cons,List.nodup_cons] at hd;rcases List.mem_cons.1 hp with h1|h1 <;> rcases List.mem_cons.1 hq with h2|h2
  ·rw[h1,h2]
  ·exact absurd (List.mem_map.2 ⟨q,h2,by rw[e,h1]⟩) hd.1
  ·exact absurd (List.mem_map.2 ⟨p,h1,by rw[<- e,h2]⟩) hd.1
  ·exact rX hd.2 h1 h2 e
def OC(tabs picks:List PB)(v0:Value):Option Rs -> Bool
 | some (.fn v H _)=>match sA v v0,rU v0,CN H tabs with
  | true,true,true=>CJ H picks
  | _,_,_=>false
 | _=>false
theorem LR.plain_refl{ν:Nu}:∀ {l:List Value},xP l=true -> LR ν l l
 | [],_=>.nil
 | v::l,h=>by
  rw[xP] at h;split at h
  ·rename_i hv;exact .cons (VRi.plain_refl v hv) (LR.plain_refl h)
  ·cases h
theorem uo{P:Program}(hm:P.follows .mixedOrders=true){k n0:Nat}{f:FuncId}{args:List Value}{v0:Value}(hG:Nat.ble G n0=true)(ht:yG G tabs=true)(ha:xP args=true)
  (UC:(tabs.map (·.1)++picks.map (·.1)).Nodup) (iD:OC tabs picks v0 (IM P G k (.fn f args (yE tabs) n0))=true) :
  Sp P f ⟨args⟩ (tabs.map om) F λ v' H'=>∃ν rest,v'=mv ν v0 /\ H'=tabs.map om++picks.map (rV ν rest):=by
 intro w hR;have hG:=bT hG;cases Un:IM P G k (.fn f args (yE tabs) n0) with
 | none=>rw[Un] at iD;cases iD
 | some res=>cases res with
  | cd e s=>rw[Un] at iD;cases iD
  | fn v H n' =>
   rw[Un] at iD;simp only[OC] at iD;split at iD
   case h_2=>cases iD
   rename_i q1 q2 q3;rw[CH] at Un;obtain⟨hn,To⟩:=Cu hm k _ _ Un;have iF:∀p∈tabs,p.1<G:=λ p hp=>(md ht p hp).1;refine(To (yF tabs G) F w args (λ k hk=>⟨_,if_pos hk⟩) (λ h h1 h2=>by simp only[yF];rw[if_neg (by omega)]) (OB ht hR) (LR.plain_refl ha)).mono ?_;rintro e w' ⟨ν,v',rfl,hv,afX,hH,agj⟩;rw[AV _ _ q1] at hv;have hνt:∀p∈tabs,ν p.1=yF tabs G p.1:=λ p hp=>afX.out _ (.inl (by have:=iF p hp;omega));have WT:∀p∈tabs,ν p.1=some (p.1,p.2.1.length):=λ p hp=>by
    rw[hνt p hp];simp only[yF,if_pos (iF p hp)];congr 2;have hd:(tabs.map (·.1)).Nodup:=(List.nodup_append.1 UC).1;cases hf:tabs.find? (λ q=>q.1 == p.1) with
    | none=>exact absurd (List.find?_eq_none.1 hf p hp) (by simp)
    | some q =>
     obtain⟨hq,R_⟩:=pn hf;have:q=p:=rX hd hp hq R_;simp[this]
   have abN:∀p∈tabs,w'.heap[p.1]?=some (om p).2.den /\ ∃b,bX H p.1=some b:=λ p hp=>LN hH (uk q3 p hp) (md ht p hp).2 (WT p hp);have hpk:∀p∈picks,(∃K,ν p.1=some (vM ν p.1,K)) /\ (∃b,bX H p.1=some b) /\ w'.heap[vM ν p.1]?=some (rV ν (pm ν w') p).2.den:=λ p hp=>IQ hH (um iD p hp);refine⟨v',tabs.map om++picks.map (rV ν (pm ν w')),rfl,⟨ν,pm ν w',CI hv q2,rfl⟩,⟨?_,?_⟩,agj⟩
   ·intro x hx;rcases List.mem_append.1 hx with hx|hx
    ·rcases List.mem_append.1 hx with hx|hx
     ·obtain⟨p,hp,rfl⟩:=List.mem_map.1 hx;exact(abN p hp).1
     ·obtain⟨p,hp,rfl⟩:=List.mem_map.1 hx;exact(hpk p hp).2.2
    ·exact hH.frm x hx
   ·-- the acY blocks
    have H_:∀h∈tabs.map (·.1)++picks.map (·.1),∃K b,ν h=some (vM ν h,K) /\ bX H h=some b:=λ h hh=>by
     rcases List.mem_append.1 hh with hh|hh
     ·obtain⟨p,hp,rfl⟩:=List.mem_map.1 hh;obtain⟨b,hb⟩:=(abN p hp).2;exact⟨p.2.1.length,b,by simp[vM,WT p hp],hb⟩
     ·obtain⟨p,hp,rfl⟩:=List.mem_map.1 hh;obtain⟨⟨K,h1⟩,⟨b,hb⟩,-⟩:=hpk p hp;exact⟨K,b,h1,hb⟩
    have e1:(tabs.map om++picks.map (rV ν (pm ν w'))).map (·.1)=(tabs.map (·.1)++picks.map (·.1)).map (vM ν):=by
     simp only[List.map_append,List.map_map];congr 1;apply List.map_congr_left;intro p hp;simp[om,vM,WT p hp]
    rw[List.map_append,List.nodup_append,e1];refine⟨?_,?_,λ a ha b hb=>?_⟩
    ·rw[List.Nodup,List.pairwise_map];refine(List.pairwise_iff_forall_sublist.2 λ {a b} hs=>?_);have ha':=H_ a (hs.subset (by simp));have TO:=H_ b (hs.subset (by simp));obtain⟨K1,b1,x1,x2⟩:=ha';obtain⟨K2,b2,y1,y2⟩:=TO;intro e;have hab:a=b:=hH.inj _ _ _ _ _ _ _ x2 y2 x1 (by rw[e];exact y1);have:=UC.sublist hs;simp[hab] at this
    ·have:=hR.nodup;rw[List.map_append,List.nodup_append] at this;exact this.2.1
    ·obtain⟨h,hh,rfl⟩:=List.mem_map.1 ha;obtain⟨x,hx,rfl⟩:=List.mem_map.1 hb;obtain⟨K,b,g1,g2⟩:=H_ h hh;exact(hH.apt _ _ _ _ g2 g1 x hx).symm
end
end
theorem IR{P:Program}{f:FuncId}{args:Array Value}{x:Nat × Blk}{F:HL}{Q:Value -> HL -> Prop}(hx:x∈F)(h:∀F0,Sp P f args [x] F0 λ u H'=>∃Hp,Q u Hp /\ H'=[x]++Hp):Sp P f args [] F Q:=by
 obtain⟨l1,l2,rfl⟩:=List.append_of_mem hx;have hp:∀H:HL,([x]++H++(l1++l2)).Perm (H++(l1++x::l2)):=λ H=>by
  refine List.Perm.trans ?_ (List.Perm.append_left H List.perm_middle.symm);show (x::(H++(l1++l2))).Perm (H++x::(l1++l2));exact List.perm_middle.symm
 intro w hR;have X5:Rel ([x]++(l1++l2)) w:=hR.perm (by have:=hp [];simpa using this);refine(h (l1++l2) w X5).mono ?_;rintro e w' ⟨v,H',he,⟨Hp,hq,rfl⟩,C_,hb⟩;exact⟨v,Hp,he,hq,C_.perm (hp Hp).symm,hb⟩
noncomputable section
def iv(x:Int):Value:=.int .i64 x
def vO:List Value:=[iv 0,iv 0,iv 0,iv 1,iv 0,iv 1,iv 1,iv 0,iv 1,iv 1,iv 2,iv 0,iv 0,iv 1,iv 0,iv 1,iv 0,iv 1,iv 2,iv 1,iv 2,iv 1,iv 2,iv 1,iv 2,iv 1,iv 1,iv 1,iv 2,iv 1,iv 2,iv 1,iv 2,iv 1,iv 1,iv 1,iv 0,iv 0,iv 1,iv 0,iv 2,iv 0,iv 0,iv 0]
def mJ:List PB:=[(0,vO,270)]
def Qt:String:="on tick { n = n + 1; if n >= 3 { effect 1, n; n = 0; } }"
def Qu:String:="on act { vx[self] = vx[self] + 100 * other; effect 2, self; } on hit { a[self] = a[self] + 1; effect 3, other; }"
def Qv:String:="on hit { if hit[other] == self + 1 && a[self] < a[other] { vx[self] = -vx[self]; b[self] = tick; } else { stop; } effect 4, a[self]; }"
def Qw:String:="on tick { i = 0; while i < 4 { b[i] = b[i] + still[i]; i = i + 1; } s = s + x[0] / 100; effect 5, s; } on act { s = 0; }"
def Qx:List Value:=[iv 2,iv 0,iv 1,iv 1,iv 9,iv 0,iv 3,iv 0,iv 1,iv 3,iv 2,iv 0,iv 15,iv 0,iv 19,iv 14,iv 1,iv 1,iv 2,iv 0,iv 20,iv 0,iv 1,iv 0,iv 3,iv 0,iv 18,iv 14,iv 21,iv 0]
def Qy:List Value:=[iv 6,iv 0,iv 6,iv 0,iv 4,iv 2,iv 1,iv 100,iv 7,iv 0,iv 11,iv 0,iv 9,iv 0,iv 5,iv 2,iv 1,iv 2,iv 6,iv 0,iv 20,iv 0,iv 21,iv 0,iv 6,iv 0,iv 6,iv 0,iv 4,iv 4,iv 1,iv 1,iv 9,iv 0,iv 5,iv 4,iv 1,iv 3,iv 7,iv 0,iv 20,iv 0,iv 21,iv 0]
def Qz:List Value:=[iv 7,iv 0,iv 4,iv 6,iv 6,iv 0,iv 1,iv 1,iv 9,iv 0,iv 16,iv 0,iv 19,iv 13,iv 6,iv 0,iv 4,iv 4,iv 7,iv 0,iv 4,iv 4,iv 14,iv 0,iv 18,iv 14,iv 1,iv 0,iv 19,iv 24,iv 6,iv 0,iv 6,iv 0,iv 4,iv 2,iv 13,iv 0,iv 5,iv 2,iv 6,iv 0,iv 8,iv 0,iv 5,iv 5,iv 18,iv 25,iv 21,iv 0,iv 1,iv 4,iv 6,iv 0,iv 4,iv 4,iv 20,iv 0,iv 21,iv 0]
def QA:List Value:=[iv 1,iv 0,iv 3,iv 0,iv 21,iv 0,iv 1,iv 0,iv 3,iv 1,iv 2,iv 1,iv 1,iv 4,iv 14,iv 0,iv 19,iv 21,iv 2,iv 1,iv 2,iv 1,iv 4,iv 5,iv 2,iv 1,iv 4,iv 7,iv 9,iv 0,iv 5,iv 5,iv 2,iv 1,iv 1,iv 1,iv 9,iv 0,iv 3,iv 1,iv 18,iv 5,iv 2,iv 0,iv 1,iv 0,iv 4,iv 0,iv 1,iv 100,iv 12,iv 0,iv 9,iv 0,iv 3,iv 0,iv 1,iv 5,iv 2,iv 0,iv 20,iv 0,iv 21,iv 0]
def EY(h len:Nat)(a b c:Int):Value:=.tuple ⟨[.agg ⟨[.slice (some ⟨h,0,none⟩) len lU,iv a,iv b,iv c]⟩,iv 0]⟩
def R6:Value:=.tuple ⟨[.agg ⟨[.slice none 0 0,iv (-1),iv (-1),iv (-1)]⟩,iv 0]⟩
def uq(src:String)(picks:List PB)(v:Value):Bool:=OC mJ picks v (IM Tryz.prog 3 100000 (.fn 70 [.string src.toUTF8] (yE mJ) 3))
theorem mixed:Tryz.prog.follows .mixedOrders=true:=by kernel_rfl
theorem qB{src:String}{h:Nat}{cod:List Value}{ty:TypeId}{v:Value}{F:HL}(hh:h≠0)(hq:uq src [(h,cod,ty)] v=true) :
  Sp Tryz.prog 70 #[.string src.toUTF8] (mJ.map om) F λ v' H'=>∃ν rest,v'=mv ν v /\ H'=mJ.map om++[rV ν rest (h,cod,ty)] :=
 uo (G:=3) (tabs:=mJ) (picks:=[(h,cod,ty)]) mixed rfl rfl rfl (by simp[mJ,hh.symm]) hq
theorem LO:uq "" [] R6=true:=by kernel_rfl
end
theorem LP:uq Qt [(1095,Qx,231)] (EY 1095 15 (-1) 0 (-1))=true:=by kernel_rfl
theorem LQ:uq Qu [(1804,Qy,231)] (EY 1804 22 0 (-1) 12)=true:=by kernel_rfl
theorem LS:uq Qv [(2348,Qz,231)] (EY 2348 30 (-1) (-1) 0)=true:=by kernel_rfl
theorem LT:uq Qw [(2279,QA,231)] (EY 2279 32 0 3 (-1))=true:=by kernel_rfl
noncomputable section
def pR:Nat -> ByteArray
 | 0=>"".toUTF8
 | 1=>Qt.toUTF8
 | 2=>Qu.toUTF8
 | 3=>Qv.toUTF8
 | _=>Qw.toUTF8
def IU:Nat -> List Value
 | 0=>[]
 | 1=>Qx
 | 2=>Qy
 | 3=>Qz
 | _=>QA
def fT:Nat -> Nat
 | 0=>0
 | 1=>15
 | 2=>22
 | 3=>30
 | _=>32
def LU:Nat -> List Value
 | 0=>[iv (-1),iv (-1),iv (-1)]
 | 1=>[iv (-1),iv 0,iv (-1)]
 | 2=>[iv 0,iv (-1),iv 12]
 | 3=>[iv (-1),iv (-1),iv 0]
 | _=>[iv 0,iv 3,iv (-1)]
inductive PrgV(j:Nat):Value -> HL -> Prop
 | nil:j=0 -> PrgV j (.slice none 0 0) []
 | some (b cap:Nat) (rest:List Value):PrgV j (.slice (some ⟨b,0,none⟩) (fT j) cap) [(b,.lit (IU j++rest) 231 (0,0))]
theorem mf(ν:Nu)(h len:Nat)(a b c:Int):mv ν (EY h len a b c)=.tuple ⟨[.agg ⟨[.slice (some ⟨vM ν h,0,none⟩) len (R5 ν h lU),iv a,iv b,iv c]⟩,iv 0]⟩:=by
 simp only[EY,mv,IO,IP,iv]
theorem IV{j:Nat}(hj:j<5){F:HL}:Sp Tryz.prog 70 #[.string (pR j)] (mJ.map om) F λ u H'=>∃s Hp,PrgV j s Hp /\ u=.tuple ⟨[.agg ⟨s::LU j⟩,iv 0]⟩ /\ H'=mJ.map om++Hp:=by
 match j,hj with
 | 0,_ =>
  refine(uo (G:=3) (tabs:=mJ) (picks:=[]) mixed rfl rfl rfl (by simp[mJ]) LO).mono ?_;rintro u H' ⟨ν,rest,rfl,rfl⟩;exact⟨_,[],.nil rfl,rfl,rfl⟩
 | 1,_ =>
  refine(qB (by decide) LP).mono ?_;rintro u H' ⟨ν,rest,rfl,rfl⟩;exact⟨_,_,.some _ _ _,mf ..,rfl⟩
 | 2,_ =>
  refine(qB (by decide) LQ).mono ?_;rintro u H' ⟨ν,rest,rfl,rfl⟩;exact⟨_,_,.some _ _ _,mf ..,rfl⟩
 | 3,_ =>
  refine(qB (by decide) LS).mono ?_;rintro u H' ⟨ν,rest,rfl,rfl⟩;exact⟨_,_,.some _ _ _,mf ..,rfl⟩
 | 4,_ =>
  refine(qB (by decide) LT).mono ?_;rintro u H' ⟨ν,rest,rfl,rfl⟩;exact⟨_,_,.some _ _ _,mf ..,rfl⟩
theorem LW{j:Nat}(hj:j<5){F:HL}(hF:(0,Blk.lit vO 270 (0,0))∈F):Sp Tryz.prog 70 #[.string (pR j)] [] F λ u H'=>∃s,PrgV j s H' /\ u=.tuple ⟨[.agg ⟨s::LU j⟩,iv 0]⟩ :=
 IR hF λ F0=>(IV hj).mono λ u H' ⟨s,Hp,h1,h2,h3⟩=>⟨Hp,⟨s,h1,h2⟩,h3⟩
end
def cg(j k:Nat):Int:=match (LU j)[k]? with|some (.int _ x)=>x|_=>0
def MR:List Value -> List Ins
 | .int _ a :: .int _ b::r=>⟨a,b⟩::MR r
 | _=>[]
def kH(j:Nat):List Ins:=MR (IU j)
theorem yH:∀ {j:Nat},j<5 -> (kH j).length=fT j
 | 0,_=>by kernel_rfl
 | 1,_=>by kernel_rfl
 | 2,_=>by kernel_rfl
 | 3,_=>by kernel_rfl
 | 4,_=>by kernel_rfl
 | j+5,h=>absurd h (by omega)
theorem Ba:∀ {j:Nat},j<5 -> IU j=aq k8 (kH j)
 | 0,_=>by kernel_rfl
 | 1,_=>by kernel_rfl
 | 2,_=>by kernel_rfl
 | 3,_=>by kernel_rfl
 | 4,_=>by kernel_rfl
 | j+5,h=>absurd h (by omega)
theorem vQ:∀ {j:Nat},j<5 -> fT j <= 32
 | 0,_=>by decide
 | 1,_=>by decide
 | 2,_=>by decide
 | 3,_=>by decide
 | 4,_=>by decide
 | j+5,h=>absurd h (by omega)
theorem LX:∀ {j:Nat},j<5 -> LU j=[vI (cg j 0),vI (cg j 1),vI (cg j 2)]
 | 0,_=>by kernel_rfl
 | 1,_=>by kernel_rfl
 | 2,_=>by kernel_rfl
 | 3,_=>by kernel_rfl
 | 4,_=>by kernel_rfl
 | j+5,h=>absurd h (by omega)
abbrev pS(F:HL):Prop:=(0,Blk.lit vO 270 (0,0))∈F
def R7(F:HL)(j:Nat)(A:Option Addr):Prop:=0<fT j -> ∃b rest,A=some ⟨b,0,none⟩ /\ (b,Blk.lit (IU j++rest) 231 (0,0))∈F
structure CodT(j:Nat)(A:Option Addr)(T:HL):Prop where
 src:∀F,(∀x∈T,x∈F) -> SrcIn Tryz.prog k8 F A (fT j) (kH j)
 wrd:∀F,(∀x∈T,x∈F) -> R7 F j A
theorem IW{j:Nat}(hj:j<5)(F:HL)(hE:pS F):Sp Tryz.prog 70 #[.string (pR j)] (ap [] []) F (λ u H'=>∃x:Option Addr × Nat × HL,H'=ap [] [x.2.2] /\ (u=.tuple #[.agg #[.slice x.1 (fT j) x.2.1,vI (cg j 0),vI (cg j 1),vI (cg j 2)],vI 0] /\ CodT j x.1 x.2.2)):=by
 refine(LW hj hE).mono ?_;rintro u H' ⟨s,hp,rfl⟩;rw[LX hj];cases hp with
 | nil h0 =>
  subst h0;exact⟨(none,0,[]),(aU _).symm,rfl,⟨λ F hF=>SrcIn.none,λ F hF h=>absurd h (by decide)⟩⟩
 | some b cap rest =>
  refine⟨(some ⟨b,0,none⟩,cap,[(b,.lit (IU j++rest) 231 (0,0))]),(aU _).symm,rfl,⟨λ F hF=>?_,λ F hF h=>⟨b,rest,rfl,hF _ (List.mem_singleton.2 rfl)⟩⟩⟩;have h:=SrcIn.lit Gq (xs:=kH j) (rest:=rest) (ty:=231) (fz:=(0,0)) (F:=F) (q:=b) (by rw[<- Ba hj];exact hF _ (List.mem_singleton.2 rfl));rw[yH hj] at h;exact h
inductive Book1(j bp:Nat):HL -> Prop
 | mk (q:Nat) (A:Option Addr) (c:Nat) (T:HL) (h:CodT j A T):Book1 j bp (ap [(bp,.lit [vS q 0 1 1] 149 (0,0)),(q,.lit [vI 0,.slice A (fT j) c,vI (cg j 0),vI (cg j 1),vI (cg j 2)] 146 (0,0))] [T])
def QB:List Value:=[.string ⟨#[]⟩,.string ⟨#[111,110,32,116,105,99,107,32,123,32,110,32,61,32,110,32,43,32,49,59,32,105,102,32,110,32,62,61,32,51,32,123,32,101,102,102,101,99,116,32,49,44,32,110,59,32,110,32,61,32,48,59,32,125,32,125]⟩,.string ⟨#[111,110,32,97,99,116,32,123,32,118,120,91,115,101,108,102,93,32,61,32,118,120,91,115,101,108,102,93,32,43,32,49,48,48,32,42,32,111,116,104,101,114,59,32,101,102,102,101,99,116,32,50,44,32,115,101,108,102,59,32,125,32,111,110,32,104,105,116,32,123,32,97,91,115,101,108,102,93,32,61,32,97,91,115,101,108,102,93,32,43,32,49,59,32,101,102,102,101,99,116,32,51,44,32,111,116,104,101,114,59,32,125]⟩,.string ⟨#[111,110,32,104,105,116,32,123,32,105,102,32,104,105,116,91,111,116,104,101,114,93,32,61,61,32,115,101,108,102,32,43,32,49,32,38,38,32,97,91,115,101,108,102,93,32,60,32,97,91,111,116,104,101,114,93,32,123,32,118,120,91,115,101,108,102,93,32,61,32,45,118,120,91,115,101,108,102,93,59,32,98,91,115,101,108,102,93,32,61,32,116,105,99,107,59,32,125,32,101,108,115,101,32,123,32,115,116,111,112,59,32,125,32,101,102,102,101,99,116,32,52,44,32,97,91,115,101,108,102,93,59,32,125]⟩,.string ⟨#[111,110,32,116,105,99,107,32,123,32,105,32,61,32,48,59,32,119,104,105,108,101,32,105,32,60,32,52,32,123,32,98,91,105,93,32,61,32,98,91,105,93,32,43,32,115,116,105,108,108,91,105,93,59,32,105,32,61,32,105,32,43,32,49,59,32,125,32,115,32,61,32,115,32,43,32,120,91,48,93,32,47,32,49,48,48,59,32,101,102,102,101,99,116,32,53,44,32,115,59,32,125,32,111,110,32,97,99,116,32,123,32,115,32,61,32,48,59,32,125]⟩]
def OD:Nat -> Nat -> Value:=λ i k=>match k with|0=>.string (pR i)|_=>default
theorem yI(F:HL):Sp Tryz.prog 71 #[] (ap [] []) F (λ u H'=>∃q:Nat,H'=ap [(q,.lit QB 9 (0,0))] [] /\ u=vS q 0 5 5):=by
 refine aau Tryz.func71 rfl mn (A:=[]) (Ts:=[]) rfl λ w0=>?_;refine ae 11 [] λ n1=>aaq [] [0] [] (v:=vS (n1+0) 0 5 5) (H':=(ap [((n1+0),.lit QB 9 (0,0))] [])) ?_;exact⟨_,rfl,rfl⟩
theorem rY(n:Int)(F:HL)(hn:oV n):Sp Tryz.prog 42 #[vI n] [] F (λ u H'=>u=.string (pR (ay n 5).toNat) /\ H'=[]):=by
 refine aau Tryz.func42 rfl mn (A:=[]) (Ts:=[]) rfl λ w0=>?_;refine ae 7 [] λ _=>aaj (Hp:=[]) (Tp:=[]) [] [] (yI _) ?_;rintro _ q1 rfl;refine ae 1 [] λ _=>aai (i8 n 5 (by decide) _) ?_;have hA2:=dg (n:=n) hn 5 (by decide);refine aak 0 (.rows 1 5 OD 9 (0,0))<|ai 5 [.ix ((ay n 5).toNat),.row 0 ((ay n 5).toNat) 0] [(0+((ay n 5).toNat)*1)=((ay n 5).toNat)*1+0 /\ ((ay n 5).toNat)<5,ay n 5=(((ay n 5).toNat:Nat):Int) /\ (ay n 5).toNat<5] λ _=>?_;exact aaq [] [] [] ⟨rfl,rfl⟩
theorem IX(j:Nat)(F:HL)(hj:j<5)(hE:pS F):Sp Tryz.prog 41 #[.string (pR j)] (ap [] []) F (λ u H'=>∃x:Nat × HL,H'=ap [] [x.2] /\ (u=.tuple #[vP x.1 0,vI 0] /\ Book1 j x.1 x.2)):=by
 refine aau Tryz.func41 rfl mn (A:=[]) (Ts:=[]) rfl λ w0=>?_;refine ae 9 [] λ _=>aaj (Hp:=[]) (Tp:=[]) [] [] (IW hj _ (au hE)) ?_;rintro _ ⟨A1,c2,T3⟩ ⟨rfl,hC4⟩;dsimp only at hC4;refine ae 29 (ow 0 8) λ n5=>aaq [] [0,1] [0] (v:=.tuple #[vP (n5+2) 0,vI 0]) (H':=(ap [((n5+2),.lit [vS (n5+1) 0 1 1] 149 (0,0)),((n5+1),.lit [vI 0,.slice A1 (fT j) c2,vI (cg j 0),vI (cg j 1),vI (cg j 2)] 146 (0,0))] [T3])) ?_;exact⟨((n5+2),ap [((n5+2),.lit [vS (n5+1) 0 1 1] 149 (0,0)),((n5+1),.lit [vI 0,.slice A1 (fT j) c2,vI (cg j 0),vI (cg j 1),vI (cg j 2)] 146 (0,0))] [T3]),by simp[ap],rfl,.mk _ _ _ _ hC4⟩
open Go.Shelf
theorem IY(c0 c1 c2 c3 c4:Value)(F:HL):SpD Tryz.prog 81 #[c0,c1,c2,c3,c4] [] F (λ _ H'=>H'=[]):=by
 intro w hR;refine callsDIn_of_wpSIn (F:=Wr none) (n:=0) Tryz.func81 rfl trivial λ c₀ cs hu=>?_;have Zu:recoverD (c₀::cs)=none:=by simp[recoverD,hu]
 refine wpSIn_seq (wpSIn_region ?_);show wpOpsSIn _ _ _ _ _ [0,1] _ _ _;simp only[wpOpsSIn,List.getElem?_toArray,List.getElem?_cons_zero,List.getElem?_cons_succ];simp[wpOpsSIn,go_sem,Zu,Tryz.ntmps81,Exit.thenS];refine wpSIn_cond (t:=false) (by simp[Act.eval,Array.replicate]) ?_;refine wpSIn_of_wpIn rfl ?_;refine wpIn_skip ?_;simp[bodyPostS,results,Tryz.results81,hu];exact⟨.returning,by cases c₀;simp at hu;subst hu;rfl,hu ▸ rfl,hR,Below.refl _ _⟩
end Go.Proofs.YtdppjkjbghbnjaaGreatDoor
