import Derived.Test.YthoijjeddhfcnaaGreatDoorZ20
set_option maxHeartbeats 4000000
set_option maxRecDepth 100000
set_option linter.unusedSimpArgs false
set_option linter.unusedVariables false
namespace Go.Proofs.YthoijjeddhfcnaaGreatDoor
open Go.RowKit
noncomputable section
inductive CzV where|mk (f:Tr Value -> Value)
inductive CzS where|mk (f:Value -> Tr Value -> Tr Value)
abbrev Ih:=Task -> Option Rs
inductive CzR where|mk (f:Ih -> Option Nat -> Tr Value -> List Deferred -> AH -> Nat -> Option St)
inductive CzC where|mk (f:Ih -> Option Nat -> Tr Value -> List Deferred -> AH -> Nat -> Option (Ex × St))
inductive CzF where|mk (f:Ih -> List Value -> AH -> Nat -> Option Rs)
inductive CzA where|mk (f:Tr Value -> List Value)
def CzV.f:CzV -> Tr Value -> Value | .mk f=>f
def CzS.f:CzS -> Value -> Tr Value -> Tr Value | .mk f=>f
def CzR.f:CzR -> Ih -> Option Nat -> Tr Value -> List Deferred -> AH -> Nat -> Option St | .mk f=>f
def CzC.f:CzC -> Ih -> Option Nat -> Tr Value -> List Deferred -> AH -> Nat -> Option (Ex × St) | .mk f=>f
def CzF.f:CzF -> Ih -> List Value -> AH -> Nat -> Option Rs | .mk f=>f
def CzA.f:CzA -> Tr Value -> List Value | .mk f=>f
def eM{α:Type}(v:Value)(x:Value -> α):α:=match v with
 | .bool b=>x (.bool b)
 | .int k n=>x (.int k n)
 | .float k b=>x (.float k b)
 | .complex k a b=>x (.complex k a b)
 | .string s=>x (.string s)
 | .pointer a=>x (.pointer a)
 | .slice a l c=>x (.slice a l c)
 | .map r=>x (.map r)
 | .chan r=>x (.chan r)
 | .func f a c=>x (.func f a c)
 | .nilFunc=>x .nilFunc
 | .iface t v=>x (.iface t v)
 | .nilIface=>x .nilIface
 | .agg c=>x (.agg c)
 | .tuple c=>x (.tuple c)
theorem cR{α:Type}(v:Value)(x:Value -> α):eM v x=x v:=by cases v <;> rfl
def yH{α:Type}(l:List Value):(List Value -> α) -> α:=List.rec (motive:=λ _=>(List Value -> α) -> α) (λ x=>x []) (λ v _ ih x=>eM v λ v=>ih λ l=>x (v::l)) l
theorem sD{α:Type}:∀ (l:List Value) (x:List Value -> α),yH l x=x l
 | [],x=>rfl
 | v::l,x=>by
  show eM v (λ v=>yH l λ l=>x (v::l))=_
  rw[cR,sD l]
def tS:List Bool -> CzV
 | []=>.mk λ T=>Tr.rec (motive:=λ _=>Value) undef (λ v _ _ _ _=>v) T
 | b::p=>match tS p with
  | .mk f=>match b with
   | true=>.mk λ T=>Tr.rec (motive:=λ _=>Value) undef (λ _ _ r _ _=>f r) T
   | false=>.mk λ T=>Tr.rec (motive:=λ _=>Value) undef (λ _ l _ _ _=>f l) T
theorem oZ:∀ (p:List Bool) (T:Tr Value),(tS p).f T=fN undef p T
 | [],T=>by cases T <;> rfl
 | b::p,T=>by
  have ih:=oZ p
  cases h:tS p with
  | mk f =>
   rw[h] at ih
   cases b <;> simp only[tS,h,CzV.f] <;> cases T <;> first|rfl|exact ih _
def yI:List Bool -> CzS
 | []=>.mk λ x T=>Tr.rec (motive:=λ _=>Tr Value) (.nd x .lf .lf) (λ _ l r _ _=>.nd x l r) T
 | b::p=>match yI p with
  | .mk f=>match b with
   | true=>.mk λ x T=>Tr.rec (motive:=λ _=>Tr Value) (.nd undef .lf (f x .lf)) (λ v l r _ _=>.nd v l (f x r)) T
   | false=>.mk λ x T=>Tr.rec (motive:=λ _=>Tr Value) (.nd undef (f x .lf) .lf) (λ v l r _ _=>.nd v (f x l) r) T
theorem z6(x:Value):∀ (p:List Bool) (T:Tr Value),(yI p).f x T=dZ undef x p T
 | [],T=>by cases T <;> rfl
 | b::p,T=>by
  have ih:=z6 x p
  cases h:yI p with
  | mk f =>
   rw[h] at ih
   simp only[CzS.f] at ih
   cases b <;> simp only[yI,h,CzS.f] <;> cases T <;> simp only[ih] <;> rfl
def cv:Operand -> CzV
 | .tmp t=>tS (pth t)
 | .const v=>.mk λ _=>v
 | .global g=>.mk λ _=>.pointer (some ⟨g,0,none⟩)
 | .func f=>.mk λ _=>.func (.func f) #[] #[]
theorem Kh(x:Operand)(T:Tr Value):(cv x).f T=ael T x:=by
 cases x with
 | tmp t=>exact oZ _ _
 | const v=>rfl
 | global g=>rfl
 | func f=>rfl
def ca:List Operand -> CzA
 | []=>.mk λ _=>[]
 | x::l=>match cv x,ca l with
  | .mk f,.mk g=>.mk λ T=>f T::g T
theorem Ki:∀ (l:List Operand) (T:Tr Value),(ca l).f T=mg T l
 | [],T=>rfl
 | x::l,T=>by
  have h1:=Kh x T
  have h2:=Ki l T
  cases hx:cv x with
  | mk f=>cases hl:ca l with
   | mk g =>
    rw[hx] at h1;rw[hl] at h2
    simp only[CzV.f] at h1;simp only[CzA.f] at h2
    simp only[ca,hx,hl,CzA.f,mg,h1,h2]
inductive CzD where
 | no
 | ok (f:Value -> Tr Value -> Tr Value)
 | bad
def gO(N:Nat):Option Tmp -> CzD
 | none=>.no
 | some d=>match Nat.blt d N with
  | true=>match yI (pth d) with
   | .mk f=>.ok f
  | false=>.bad
theorem z7{N:Nat}{d:Option Tmp}{f}(h:gO N d=.ok f)(v:Value)(T:Tr Value):fm N d v T=some (f v T):=by
 cases d with
 | none=>simp[gO] at h
 | some d =>
  simp only[gO] at h
  cases hb:Nat.blt d N <;> rw[hb] at h
  ·simp at h
  ·cases hs:yI (pth d) with
   | mk g =>
    simp only[hs,CzD.ok.injEq] at h
    subst h
    have:=z6 v (pth d) T
    rw[hs] at this
    simp only[CzS.f] at this
    simp only[fm,hb,this]
    rfl
theorem z8{N:Nat}{d:Option Tmp}(h:gO N d=.no)(v:Value)(T:Tr Value):fm N d v T=some T:=by
 cases d with
 | none=>rfl
 | some d =>
  simp only[gO] at h
  cases hb:Nat.blt d N <;> rw[hb] at h
  ·simp at h
  ·cases hs:yI (pth d) with
   | mk g=>simp[hs] at h
def dj(P:Program)(G N:Nat)(ops:Array Oper)(o:Oper)(k:Ih -> Option Nat -> Tr Value -> List Deferred -> AH -> Nat -> Option St)(ih:Ih)(r:Option Nat)(T:Tr Value)(D:List Deferred)(H:AH)(n:Nat):Option St:=match eI ops o T with
 | none=>none
 | some false=>match fm N o.dst undef T with
  | some T=>k ih r T D H n
  | none=>none
 | some true=>match jx P G ih r o T H n with
  | none=>none
  | some (.val v H n)=>eM v λ v=>match fm N o.dst v T with
   | some T=>k ih r T D H n
   | none=>none
  | some (.dfr d)=>match fm N o.dst undef T with
   | some T=>k ih r T (d::D) H n
   | none=>none
def CzR.okL(P:Program)(G N:Nat)(ops:Array Oper)(l:List Oper)(k:Ih -> Option Nat -> Tr Value -> List Deferred -> AH -> Nat -> Option St):Prop:=∀ih r T D H n,k ih r T D H n=lN P G ih r N ops l ⟨T,D,H,n⟩
theorem IQ{P:Program}{G N:Nat}{ops:Array Oper}{l:List Oper}{k}(h:CzR.okL P G N ops l k)(o:Oper):CzR.okL P G N ops (o::l) (dj P G N ops o k):=by
 intro ih r T D H n
 simp only[dj,lN]
 cases eI ops o T with
 | none=>rfl
 | some b =>
  cases b with
  | false=>cases fm N o.dst undef T with
   | none=>rfl
   | some T'=>exact h _ _ _ _ _ _
  | true=>cases jx P G ih r o T H n with
   | none=>rfl
   | some x=>cases x with
    | val v H' n'=>simp only[cR];cases hp:fm N o.dst v T with
     | none=>simp only[hp]
     | some T'=>simp only[hp];exact h _ _ _ _ _ _
    | dfr d=>cases hp:fm N o.dst undef T with
     | none=>simp only[hp]
     | some T'=>simp only[hp];exact h _ _ _ _ _ _
def m9(N:Nat)(o:Oper)(k:Ih -> Option Nat -> Tr Value -> List Deferred -> AH -> Nat -> Option St)(ih:Ih)(r:Option Nat)(T:Tr Value)(D:List Deferred)(v:Value)(H:AH)(n:Nat):Option St:=match fm N o.dst v T with
 | some T=>k ih r T D H n
 | none=>none
theorem nP{P:Program}{G N:Nat}{ops:Array Oper}{o:Oper}{k}(hg:o.guard=none)(ho:mB G o=true)(hc:qL P o.op=.pu)(ih:Ih)(r:Option Nat)(T:Tr Value)(D:List Deferred)(H:AH)(n:Nat) :
  dj P G N ops o k ih r T D H n=match gq P o T with
   | some v=>m9 N o k ih r T D v H n
   | none=>none:=by
 simp only[mB] at ho
 cases hl:ik o.op with
 | none=>rw[hl] at ho;simp at ho
 | some l =>
  rw[hl] at ho
  simp only at ho
  simp only[dj,eI,hg,jx,zQ,hl,ho,hc]
  cases gq P o T with
  | none=>rfl
  | some v=>simp only[cR];rfl
theorem FN{P:Program}{G N:Nat}{ops:Array Oper}{o:Oper}{k}(hg:o.guard=none)(ho:mB G o=true)(hc:qL P o.op=.lo)(ih:Ih)(r:Option Nat)(T:Tr Value)(D:List Deferred)(H:AH)(n:Nat) :
  dj P G N ops o k ih r T D H n=match iW P o T H with
   | some v=>m9 N o k ih r T D v H n
   | none=>none:=by
 simp only[mB] at ho
 cases hl:ik o.op with
 | none=>rw[hl] at ho;simp at ho
 | some l =>
  rw[hl] at ho
  simp only at ho
  simp only[dj,eI,hg,jx,zQ,hl,ho,hc]
  cases iW P o T H with
  | none=>rfl
  | some v=>simp only[cR];rfl
theorem Lu{P:Program}{G N:Nat}{ops:Array Oper}{o:Oper}{k}(hg:o.guard=none)(ho:mB G o=true)(hc:qL P o.op=.nw)(ih:Ih)(r:Option Nat)(T:Tr Value)(D:List Deferred)(H:AH)(n:Nat) :
  dj P G N ops o k ih r T D H n=match rd P o T with
   | some (b,m)=>m9 N o k ih r T D (m.val n) (c9 H n (some b)) (n+1)
   | none=>none:=by
 simp only[mB] at ho
 cases hl:ik o.op with
 | none=>rw[hl] at ho;simp at ho
 | some l =>
  rw[hl] at ho
  simp only at ho
  simp only[dj,eI,hg,jx,zQ,hl,ho,hc]
  cases rd P o T with
  | none=>rfl
  | some v=>simp only[Ln,cR];rfl
theorem Lv{P:Program}{G N:Nat}{ops:Array Oper}{o:Oper}{k}(hg:o.guard=none)(ho:mB G o=true)(hc:qL P o.op=.ef)(ih:Ih)(r:Option Nat)(T:Tr Value)(D:List Deferred)(H:AH)(n:Nat){v:Value}{H':AH}{n':Nat}(he:mh P o T H n=some (.val v H' n')) :
  dj P G N ops o k ih r T D H n=m9 N o k ih r T D v H' n':=by
 simp only[mB] at ho
 cases hl:ik o.op with
 | none=>rw[hl] at ho;simp at ho
 | some l =>
  rw[hl] at ho
  simp only at ho
  simp only[dj,eI,hg,jx,zQ,hl,ho,hc,he,cR]
  rfl
theorem Ac{P:Program}{G N:Nat}{ops:Array Oper}{o:Oper}{k}(hg:o.guard=none)(ho:mB G o=true)(hc:qL P o.op=.ef)(ih:Ih)(r:Option Nat)(T:Tr Value)(D:List Deferred)(H:AH)(n:Nat){f:FuncId}{args:List Value}(he:mh P o T H n=some (.ent f args)) :
  dj P G N ops o k ih r T D H n=match ih (.fn f args H n) with
   | some (.fn v H n)=>m9 N o k ih r T D v H n
   | _=>none:=by
 simp only[mB] at ho
 cases hl:ik o.op with
 | none=>rw[hl] at ho;simp at ho
 | some l =>
  rw[hl] at ho
  simp only at ho
  simp only[dj,eI,hg,jx,zQ,hl,ho,hc,he]
  cases ih (.fn f args H n) with
  | none=>rfl
  | some x=>cases x <;> simp only[cR] <;> rfl
end
noncomputable section
abbrev Kt:=Ih -> Option Nat -> Tr Value -> List Deferred -> AH -> Nat -> Option St
def kN(k:IntKind):Nat:=IntKind.rec (motive:=λ _=>Nat) 0 1 2 3 4 5 6 7 k
def O2(a b:IntKind):Bool:=Nat.beq (kN a) (kN b)
theorem Lw(a b:IntKind):O2 a b=decide (a=b):=by cases a <;> cases b <;> rfl
def My(a b:Int):Bool:=match a,b with
 | .ofNat m,.ofNat n=>Nat.blt m n
 | .negSucc _,.ofNat _=>true
 | .ofNat _,.negSucc _=>false
 | .negSucc m,.negSucc n=>Nat.blt n m
theorem Ad(m n:Nat):Nat.blt m n=decide (m<n):=by
 by_cases h:m<n
 ·simp[Nat.blt_eq,h]
 ·rw[decide_eq_false h]
  cases hb:Nat.blt m n
  ·rfl
  ·exact absurd (Eq.mp Nat.blt_eq hb) h
theorem FO(a b:Int):My a b=decide (a<b):=by
 cases a with
 | ofNat m=>cases b with
  | ofNat n =>
   simp only[My,Ad]
   exact decide_eq_decide.2 (Int.ofNat_lt).symm
  | negSucc n=>exact(decide_eq_false (show ¬ ((m:Int)<Int.negSucc n) by omega)).symm
 | negSucc m=>cases b with
  | ofNat n=>exact(decide_eq_true (show Int.negSucc m<(n:Int) by omega)).symm
  | negSucc n =>
   simp only[My,Ad]
   exact decide_eq_decide.2 (by omega)
def Ly(b:Bool):Bool:=match b with
 | true=>false
 | false=>true
theorem Ae(b:Bool):Ly b=!b:=by cases b <;> rfl
def Oi(a b:Int):Bool:=Ly (My b a)
theorem Lz(a b:Int):Oi a b=decide (a <= b):=by
 rw[Oi,Ae,FO]
 by_cases h:b<a
 ·rw[decide_eq_true h,decide_eq_false (by omega)];rfl
 ·rw[decide_eq_false h,decide_eq_true (by omega)];rfl
def Nk(a b:Int):Bool:=match a,b with
 | .ofNat m,.ofNat n=>Nat.beq m n
 | .negSucc m,.negSucc n=>Nat.beq m n
 | _,_=>false
theorem Af(m n:Nat):Nat.beq m n=decide (m=n):=by
 by_cases h:m=n
 ·rw[decide_eq_true h];exact Eq.mpr Nat.beq_eq h
 ·rw[decide_eq_false h]
  cases hb:Nat.beq m n
  ·rfl
  ·exact absurd (Eq.mp Nat.beq_eq hb) h
theorem LA(a b:Int):Nk a b=(a == b):=by
 have e:(a == b)=decide (a=b):=rfl
 rw[e]
 cases a with
 | ofNat m=>cases b with
  | ofNat n =>
   simp only[Nk,Af]
   exact decide_eq_decide.2 (Int.ofNat_inj (m:=m) (n:=n)).symm
  | negSucc n=>rfl
 | negSucc m=>cases b with
  | ofNat n=>rfl
  | negSucc n =>
   simp only[Nk,Af]
   exact decide_eq_decide.2 (by simp)
def IR:BinOp -> Option (Int -> Int -> Bool)
 | .lss=>some λ a b=>My a b
 | .leq=>some λ a b=>Oi a b
 | .gtr=>some λ a b=>My b a
 | .geq=>some λ a b=>Oi b a
 | .eql=>some λ a b=>Nk a b
 | .neq=>some λ a b=>Ly (Nk a b)
 | _=>none
theorem IU{op:BinOp}{q}(h:IR op=some q)(a b:Int):E2 op a b=some (q a b):=by
 cases op <;> simp only[IR,Option.some.injEq,reduceCtorEq] at h <;> subst h <;> simp only[E2,FO,Lz,LA,Ae] <;> rfl
section
variable (P:Program) (G N:Nat) (ops:Array Oper) (o:Oper) (k:Kt) (g:Value -> Tr Value -> Tr Value)
def Oj(f:Tr Value -> Value)(ih:Ih)(r:Option Nat)(T:Tr Value)(D:List Deferred)(H:AH)(n:Nat):Option St:=eM (f T) λ v=>k ih r (g v T) D H n
def Nl(u:Value)(x y:Option St):Option St:=match u with
 | .bool b=>match b with
  | true=>x
  | false=>y
 | _=>none
def FP(f fa fb:Tr Value -> Value)(ih:Ih)(r:Option Nat)(T:Tr Value)(D:List Deferred)(H:AH)(n:Nat):Option St:=Nl (f T) (eM (fa T) λ v=>k ih r (g v T) D H n) (eM (fb T) λ v=>k ih r (g v T) D H n)
def Nm(u:Value)(x y:Option St):Option St:=match u with
 | .pointer p=>match p with
  | some _=>x
  | none=>y
 | _=>y
def LB(f:Tr Value -> Value)(ih:Ih)(r:Option Nat)(T:Tr Value)(D:List Deferred)(H:AH)(n:Nat):Option St:=Nm (f T) (eM (f T) λ v=>k ih r (g v T) D H n) (dj P G N ops o k ih r T D H n)
def Nn(q:Int -> Int -> Bool)(u v:Value)(x:Bool -> Option St)(y:Option St):Option St:=match u with
 | .int ka a=>match v with
  | .int kb b=>match O2 ka kb with
   | true=>match q a b with
    | true=>x true
    | false=>x false
   | false=>y
  | _=>y
 | _=>y
def LC(q:Int -> Int -> Bool)(f1 f2:Tr Value -> Value)(ih:Ih)(r:Option Nat)(T:Tr Value)(D:List Deferred)(H:AH)(n:Nat):Option St:=Nn q (f1 T) (f2 T) (λ b=>k ih r (g (.bool b) T) D H n) (dj P G N ops o k ih r T D H n)
def O3(c:Nat)(u:Value)(x:Value -> Option St):Option St:=match u with
 | .pointer p=>match p with
  | some a=>match a with
   | ⟨b,off,s⟩=>match c with
    | 0=>x (.pointer (some ⟨b,off,s⟩))
    | c+1=>x (.pointer (some ⟨b,off+(c+1),none⟩))
  | none=>none
 | _=>none
def LD(c:Nat)(f:Tr Value -> Value)(ih:Ih)(r:Option Nat)(T:Tr Value)(D:List Deferred)(H:AH)(n:Nat):Option St:=O3 c (f T) λ v=>k ih r (g v T) D H n
def ldB(off:Nat)(s:Option Nat)(b:Option AB)(x:Value -> Option St):Option St:=match s with
 | none=>match b with
  | some c=>match c with
   | .cells n tr _ _ _=>match Nat.blt off n with
    | true=>eM (da tr off) x
    | false=>none
   | _=>none
  | none=>none
 | some _=>none
def ldR(H:AH)(u:Value)(x:Value -> Option St):Option St:=match u with
 | .pointer p=>match p with
  | some a=>match a with
   | ⟨b,off,s⟩=>ldB off s (cr H b) x
  | none=>none
 | _=>none
def O4(f:Tr Value -> Value)(ih:Ih)(r:Option Nat)(T:Tr Value)(D:List Deferred)(H:AH)(n:Nat):Option St:=ldR H (f T) λ v=>k ih r (g v T) D H n
def laB(off c:Nat)(s:Option Nat)(b:Option AB)(x:Value -> Option St):Option St:=match s with
 | none=>match b with
  | some ab=>match ab with
   | .cells n tr _ _ _=>match Nat.ble (off+c) n with
    | true=>yH (gt tr off c) λ l=>x (.agg ⟨l⟩)
    | false=>none
   | _=>none
  | none=>none
 | some _=>none
def laR(c:Nat)(H:AH)(u:Value)(x:Value -> Option St):Option St:=match u with
 | .pointer p=>match p with
  | some a=>match a with
   | ⟨b,off,s⟩=>laB off c s (cr H b) x
  | none=>none
 | _=>none
def O5(c:Nat)(f:Tr Value -> Value)(ih:Ih)(r:Option Nat)(T:Tr Value)(D:List Deferred)(H:AH)(n:Nat):Option St:=laR c H (f T) λ v=>k ih r (g v T) D H n
def alF(b:AB)(ih:Ih)(r:Option Nat)(T:Tr Value)(D:List Deferred)(H:AH)(n:Nat):Option St:=k ih r (g (.pointer (some ⟨n,0,none⟩)) T) D (c9 H n (some b)) (n+1)
def ixR(c:Nat)(u i:Value)(x:Value -> Option St):Option St:=match u with
 | .slice p m _=>match p with
  | some a=>match i with
   | .int _ i=>match i with
    | .ofNat i=>match Nat.blt i m with
     | true=>match a with
      | ⟨b,off,s⟩=>match i*c with
       | 0=>x (.pointer (some ⟨b,off,s⟩))
       | j+1=>x (.pointer (some ⟨b,off+(j+1),none⟩))
     | false=>none
    | _=>none
   | _=>none
  | none=>none
 | _=>none
def O6(c:Nat)(f1 f2:Tr Value -> Value)(ih:Ih)(r:Option Nat)(T:Tr Value)(D:List Deferred)(H:AH)(n:Nat):Option St:=ixR c (f1 T) (f2 T) λ v=>k ih r (g v T) D H n
def stB(off:Nat)(s:Option Nat)(v:Value)(b:Option AB)(x:AB -> Option St)(y:Option St):Option St:=match s with
 | none=>match b with
  | some c=>match c with
   | .cells n tr ty w ro=>match ro with
    | false=>match Nat.blt off n with
     | true=>x (.cells n (qY tr off v) ty w false)
     | false=>y
    | true=>y
   | _=>y
  | none=>y
 | some _=>y
def Ag(v:Value):Bool:=match v with
 | .agg _=>false
 | .tuple _=>false
 | _=>true
def stR(H:AH)(u v:Value)(x:Nat -> AB -> Option St)(y:Option St):Option St:=match Ag v with
 | true=>match u with
  | .pointer p=>match p with
   | some a=>match a with
    | ⟨b,off,s⟩=>eM v λ v=>stB off s v (cr H b) (x b) y
   | none=>y
  | _=>y
 | false=>y
def O7(f1 f2:Tr Value -> Value)(ih:Ih)(r:Option Nat)(T:Tr Value)(D:List Deferred)(H:AH)(n:Nat):Option St:=stR H (f1 T) (f2 T) (λ b ab=>k ih r T D (c9 H b (some ab)) n) (dj P G N ops o k ih r T D H n)
def Ok(x:Option Rs)(y:Value -> AH -> Nat -> Option St):Option St:=match x with
 | some x=>match x with
  | .fn v H n=>eM v λ v=>y v H n
  | .cd _ _=>none
 | none=>none
def O8(f:FuncId)(as:Tr Value -> List Value)(ih:Ih)(r:Option Nat)(T:Tr Value)(D:List Deferred)(H:AH)(n:Nat):Option St:=Ok (ih (.fn f (as T) H n)) λ v H n=>k ih r (g v T) D H n
def O9(f:FuncId)(as:Tr Value -> List Value)(ih:Ih)(r:Option Nat)(T:Tr Value)(D:List Deferred)(H:AH)(n:Nat):Option St:=Ok (ih (.fn f (as T) H n)) λ v H n=>k ih r T D H n
end
section
variable {P:Program} {G N:Nat} {ops:Array Oper} {o:Oper} {k:Kt} {g:Value -> Tr Value -> Tr Value}
theorem fF(hd:gO N o.dst=.ok g)(ih:Ih)(r:Option Nat)(T:Tr Value)(D:List Deferred)(v:Value)(H:AH)(n:Nat):m9 N o k ih r T D v H n=k ih r (g v T) D H n:=by
 rw[m9,z7 hd]
theorem Ah(hd:gO N o.dst=.no)(ih:Ih)(r:Option Nat)(T:Tr Value)(D:List Deferred)(v:Value)(H:AH)(n:Nat):m9 N o k ih r T D v H n=k ih r T D H n:=by
 rw[m9,z8 hd]
theorem Kj(hg:o.guard=none)(ho:mB G o=true)(hd:gO N o.dst=.ok g){x:Operand}(hx:o.op=.move x \/ o.op=.assign x){f}(hf:∀T,f T=ael T x)(ih r T D H n):Oj k g f ih r T D H n=dj P G N ops o k ih r T D H n:=by
 have hc:qL P o.op=.pu:=by cases hx with|inl h=>rw[h];rfl|inr h=>rw[h];rfl
 have hp:gq P o T=some (ael T x):=by unfold gq;cases hx with|inl h=>rw[h]|inr h=>rw[h]
 rw[nP hg ho hc,hp,Oj,hf,cR]
 exact(fF hd ..).symm
theorem IV(hg:o.guard=none)(ho:mB G o=true)(hd:gO N o.dst=.ok g){c a b:Operand}(hx:o.op=.pick c a b){f fa fb}(hf:∀T,f T=ael T c)(hfa:∀T,fa T=ael T a)(WC:∀T,fb T=ael T b)(ih r T D H n):FP k g f fa fb ih r T D H n=dj P G N ops o k ih r T D H n:=by
 rw[nP hg ho (by rw[hx];rfl)]
 unfold gq
 rw[hx]
 simp only[FP,hf,hfa,WC,cR]
 cases ael T c with
 | bool q=>cases q <;> exact(fF hd ..).symm
 | _=>rfl
theorem LE(hg:o.guard=none)(ho:mB G o=true)(hd:gO N o.dst=.ok g){x:Operand}(hx:o.op=.nilCheck x){f}(hf:∀T,f T=ael T x)(ih r T D H n):LB P G N ops o k g f ih r T D H n=dj P G N ops o k ih r T D H n:=by
 simp only[LB,hf]
 cases he:ael T x with
 | pointer p=>cases p with
  | none=>rfl
  | some a =>
   rw[nP hg ho (by rw[hx];rfl)]
   unfold gq
   rw[hx]
   simp only[he,Nm,cR]
   exact(fF hd ..).symm
 | _=>rfl
theorem LF(hg:o.guard=none)(ho:mB G o=true)(hd:gO N o.dst=.ok g){op t x y z}(hx:o.op=.binOp op t x y z){q}(hq:IR op=some q){f1 f2}(VT:∀T,f1 T=ael T x)(QK:∀T,f2 T=ael T y)(ih r T D H n):LC P G N ops o k g q f1 f2 ih r T D H n=dj P G N ops o k ih r T D H n:=by
 simp only[LC,VT,QK]
 cases he:ael T x with
 | int ka a=>cases he2:ael T y with
  | int kb b =>
   simp only[Nn]
   cases hk:O2 ka kb with
   | false=>rfl
   | true =>
    rw[nP hg ho (by rw[hx];rfl)]
    unfold gq
    rw[hx]
    rw[Lw] at hk
    simp only[he,he2,IU hq,hk]
    cases q a b <;> exact(fF hd ..).symm
  | _=>rfl
 | _=>rfl
theorem LG(hg:o.guard=none)(ho:mB G o=true)(hd:gO N o.dst=.ok g){t x j}(hx:o.op=.fieldAddr t x j){c ft}(hc:vM P t j=some (c,ft)){f}(hf:∀T,f T=ael T x)(ih r T D H n):LD k g c f ih r T D H n=dj P G N ops o k ih r T D H n:=by
 rw[nP hg ho (by rw[hx];rfl)]
 unfold gq
 rw[hx]
 simp only[LD,hf,hc]
 cases he:ael T x with
 | pointer p=>cases p with
  | none=>rfl
  | some a=>cases a with
   | mk b off s=>cases c with
    | zero=>exact(fF hd ..).symm
    | succ c=>exact(fF hd ..).symm
 | _=>rfl
theorem Np(hg:o.guard=none)(ho:mB G o=true)(hd:gO N o.dst=.ok g){t x}(hx:o.op=.load t x)(hc:vL P t=true){f}(hf:∀T,f T=ael T x)(ih r T D H n):O4 k g f ih r T D H n=dj P G N ops o k ih r T D H n:=by
 rw[FN hg ho (by rw[hx];rfl)]
 unfold iW
 rw[hx]
 simp only[O4,hf]
 cases he:ael T x with
 | pointer p=>cases p with
  | none=>rfl
  | some a=>cases a with
   | mk b off s =>
    cases s with
    | some s=>rfl
    | none =>
     simp only[ldR,r8]
     cases cr H b with
     | none=>rfl
     | some c=>cases c with
      | cells nn tr ty w ro =>
       simp only[ldB,hc]
       cases Nat.blt off nn
       ·rfl
       ·simp only[cR];exact(fF hd ..).symm
      | _=>rfl
 | _=>rfl
theorem Nq(hg:o.guard=none)(ho:mB G o=true)(hd:gO N o.dst=.ok g){t x}(hx:o.op=.load t x)(hc:vL P t=false){c}(ha:yj P t=some c){f}(hf:∀T,f T=ael T x)(ih r T D H n):O5 k g c f ih r T D H n=dj P G N ops o k ih r T D H n:=by
 rw[FN hg ho (by rw[hx];rfl)]
 unfold iW
 rw[hx]
 simp only[O5,hf]
 cases he:ael T x with
 | pointer p=>cases p with
  | none=>rfl
  | some a=>cases a with
   | mk b off s =>
    cases s with
    | some s=>rfl
    | none =>
     simp only[laR,r8]
     cases cr H b with
     | none=>rfl
     | some ab=>cases ab with
      | cells nn tr ty w ro =>
       simp only[laB,hc,ha]
       cases Nat.ble (off+c) nn
       ·rfl
       ·simp only[sD];exact(fF hd ..).symm
      | _=>rfl
 | _=>rfl
theorem Nr(hg:o.guard=none)(ho:mB G o=true)(hd:gO N o.dst=.ok g){t}(hx:o.op=.alloc t){z}(hz:kj P t=some z){b}(hb:ja z t=b)(ih r T D H n):alF k g b ih r T D H n=dj P G N ops o k ih r T D H n:=by
 rw[Lu hg ho (by rw[hx];rfl)]
 unfold rd
 rw[hx]
 simp only[hz,hb]
 exact(fF hd ..).symm
theorem Ns(hg:o.guard=none)(ho:mB G o=true)(hd:gO N o.dst=.ok g){t x i}(hx:o.op=.indexAddr t x i){el c}(ht:P.underlying t=some (.slice el))(hc:fe P el=some c){f1 f2}(VT:∀T,f1 T=ael T x)(QK:∀T,f2 T=ael T i)(ih r T D H n):O6 k g c f1 f2 ih r T D H n=dj P G N ops o k ih r T D H n:=by
 rw[nP hg ho (by rw[hx];rfl)]
 unfold gq
 rw[hx]
 simp only[O6,VT,QK,ht]
 cases he:ael T x with
 | slice p m cc=>cases p with
  | none=>rfl
  | some a=>cases a with
   | mk b off s=>cases he2:ael T i with
    | int ki i=>cases i with
     | ofNat i =>
      simp only[ixR,Hu,hc]
      cases Nat.blt i m with
      | false=>rfl
      | true =>
       simp only[ym]
       cases i*c with
       | zero=>exact(fF hd ..).symm
       | succ j=>exact(fF hd ..).symm
     | negSucc i=>rfl
    | _=>rfl
 | _=>cases he2:ael T i <;> rfl
theorem Nt(hg:o.guard=none)(ho:mB G o=true)(hd:gO N o.dst=.no){t x y}(hx:o.op=.store t x y)(ht:fe P t=some 1){f1 f2}(VT:∀T,f1 T=ael T x)(QK:∀T,f2 T=ael T y)(ih r T D H n):O7 P G N ops o k f1 f2 ih r T D H n=dj P G N ops o k ih r T D H n:=by
 simp only[O7,VT,QK]
 unfold stR
 cases P3:Ag (ael T y) with
 | false=>rfl
 | true =>
  cases he:ael T x with
  | pointer p=>cases p with
   | none=>rfl
   | some a=>cases a with
    | mk b off s=>cases s with
     | some s=>simp only[cR];rfl
     | none =>
      simp only[cR]
      cases hb:cr H b with
      | none=>rfl
      | some c=>cases c with
       | cells nn tr ty w ro=>cases ro with
        | true=>rfl
        | false =>
         simp only[stB]
         cases iN:Nat.blt off nn with
         | false=>rfl
         | true =>
          have By:gB (ael T y)=[ael T y]:=by
           cases hv:ael T y <;> first|rfl|(rw[hv] at P3;simp[Ag] at P3)
          have hff:jv [ael T y]=true:=by
           cases hv:ael T y <;> first|rfl|(rw[hv] at P3;simp[Ag] at P3)
          have hle:Nat.ble (off+1) nn=true:=iN
          have Uf:mh P o T H n=some (.val undef (c9 H b (some (.cells nn (qY tr off (ael T y)) ty w false))) n):=by
           unfold mh
           rw[hx]
           simp only[he,tJ,ht,By,f5,nF,hb,hle,hff]
           rfl
          rw[Lv hg ho (by rw[hx];rfl) ih r T D H n Uf]
          exact(Ah hd ..).symm
       | _=>rfl
  | _=>rfl
theorem FQ{f:FuncId}{c:Call}(hx:o.op=.call c)(hc:c.callee=.value (.func f))(hb:pS P f=true)(T H n):mh P o T H n=some (.ent f (mg T c.args.toList)):=by
 unfold mh
 rw[hx]
 simp only[hc,ael,oW,hb]
 simp
theorem FR{f:FuncId}{c:Call}(hx:o.op=.call c)(hc:c.callee=.value (.func f)):qL P o.op=.ef:=by
 rw[hx]
 obtain⟨ce,a,t⟩:=c
 simp only at hc
 subst hc
 rfl
theorem Nv(hg:o.guard=none)(ho:mB G o=true)(hd:gO N o.dst=.ok g){f:FuncId}{c:Call}(hx:o.op=.call c)(hc:c.callee=.value (.func f))(hb:pS P f=true){as}(ha:∀T,as T=mg T c.args.toList)(ih r T D H n):O8 k g f as ih r T D H n=dj P G N ops o k ih r T D H n:=by
 rw[Ac hg ho (FR hx hc) ih r T D H n (FQ hx hc hb T H n),O8,ha]
 cases ih (.fn f (mg T c.args.toList) H n) with
 | none=>rfl
 | some x=>cases x with
  | cd _ _=>rfl
  | fn v H n=>simp only[Ok,cR];exact(fF hd ..).symm
theorem LH(hg:o.guard=none)(ho:mB G o=true)(hd:gO N o.dst=.no){f:FuncId}{c:Call}(hx:o.op=.call c)(hc:c.callee=.value (.func f))(hb:pS P f=true){as}(ha:∀T,as T=mg T c.args.toList)(ih r T D H n):O9 k f as ih r T D H n=dj P G N ops o k ih r T D H n:=by
 rw[Ac hg ho (FR hx hc) ih r T D H n (FQ hx hc hb T H n),O9,ha]
 cases ih (.fn f (mg T c.args.toList) H n) with
 | none=>rfl
 | some x=>cases x with
  | cd _ _=>rfl
  | fn v H n=>simp only[Ok,cR];exact(Ah hd ..).symm
end
end
end Go.Proofs.YthoijjeddhfcnaaGreatDoor
