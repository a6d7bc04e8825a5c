import Derived.Test.YtobflkidpfkcaaaGreatDoorY16
set_option maxHeartbeats 4000000
set_option maxRecDepth 100000
set_option linter.unusedSimpArgs false
set_option linter.unusedVariables false
namespace Go.Proofs.YtobflkidpfkcaaaGreatDoor
open Go.RowKit
noncomputable section
inductive CzV where | mk (f:Tr Value -> Value)
inductive CzS where | mk (f:Value -> Tr Value -> Tr Value)
abbrev Ih:=Task -> Option Rs
inductive CzR where | mk (f:Ih -> Option Nat -> Tr Value -> List Deferred -> AH -> Nat -> Option St)
inductive CzC where | mk (f:Ih -> Option Nat -> Tr Value -> List Deferred -> AH -> Nat -> Option (Ex × St))
inductive CzF where | mk (f:Ih -> List Value -> AH -> Nat -> Option Rs)
inductive CzA where | mk (f:Tr Value -> List Value)
def CzV.f:CzV -> Tr Value -> Value | .mk f=>f
def CzS.f:CzS -> Value -> Tr Value -> Tr Value | .mk f=>f
def CzR.f:CzR -> Ih -> Option Nat -> Tr Value -> List Deferred -> AH -> Nat -> Option St | .mk f=>f
def CzC.f:CzC -> Ih -> Option Nat -> Tr Value -> List Deferred -> AH -> Nat -> Option (Ex × St) | .mk f=>f
def CzF.f:CzF -> Ih -> List Value -> AH -> Nat -> Option Rs | .mk f=>f
def CzA.f:CzA -> Tr Value -> List Value | .mk f=>f
def eF {α:Type} (v:Value) (x:Value -> α):α:=match v with
 | .bool b=>x (.bool b)
 | .int k n=>x (.int k n)
 | .float k b=>x (.float k b)
 | .complex k a b=>x (.complex k a b)
 | .string s=>x (.string s)
 | .pointer a=>x (.pointer a)
 | .slice a l c=>x (.slice a l c)
 | .map r=>x (.map r)
 | .chan r=>x (.chan r)
 | .func f a c=>x (.func f a c)
 | .nilFunc=>x .nilFunc
 | .iface t v=>x (.iface t v)
 | .nilIface=>x .nilIface
 | .agg c=>x (.agg c)
 | .tuple c=>x (.tuple c)
theorem cC {α:Type} (v:Value) (x:Value -> α):eF v x=x v:=by cases v <;> rfl
def yU {α:Type} (l:List Value):(List Value -> α) -> α:=List.rec (motive:=λ _=>(List Value -> α) -> α) (λ x=>x []) (λ v _ ih x=>eF v λ v=>ih λ l=>x (v :: l)) l
theorem tc {α:Type}:∀ (l:List Value) (x:List Value -> α),yU l x=x l
 | [],x=>rfl
 | v :: l,x=>by
  show eF v (λ v=>yU l λ l=>x (v :: l))=_
  rw [cC,tc l]
def uo:List Bool -> CzV
 | []=>.mk λ T=>Tr.rec (motive:=λ _=>Value) undef (λ v _ _ _ _=>v) T
 | b :: p=>match uo p with
  | .mk f=>match b with
   | true=>.mk λ T=>Tr.rec (motive:=λ _=>Value) undef (λ _ _ r _ _=>f r) T
   | false=>.mk λ T=>Tr.rec (motive:=λ _=>Value) undef (λ _ l _ _ _=>f l) T
theorem pN:∀ (p:List Bool) (T:Tr Value),(uo p).f T=fJ undef p T
 | [],T=>by cases T <;> rfl
 | b :: p,T=>by
  have ih:=pN p
  cases h:uo p with
  | mk f =>
   rw [h] at ih
   cases b <;> simp only [uo,h,CzV.f] <;> cases T <;> first | rfl | exact ih _
def yV:List Bool -> CzS
 | []=>.mk λ x T=>Tr.rec (motive:=λ _=>Tr Value) (.nd x .lf .lf) (λ _ l r _ _=>.nd x l r) T
 | b :: p=>match yV p with
  | .mk f=>match b with
   | true=>.mk λ x T=>Tr.rec (motive:=λ _=>Tr Value) (.nd undef .lf (f x .lf)) (λ v l r _ _=>.nd v l (f x r)) T
   | false=>.mk λ x T=>Tr.rec (motive:=λ _=>Tr Value) (.nd undef (f x .lf) .lf) (λ v l r _ _=>.nd v (f x l) r) T
theorem Aq (x:Value):∀ (p:List Bool) (T:Tr Value),(yV p).f x T=dK undef x p T
 | [],T=>by cases T <;> rfl
 | b :: p,T=>by
  have ih:=Aq x p
  cases h:yV p with
  | mk f =>
   rw [h] at ih
   simp only [CzS.f] at ih
   cases b <;> simp only [yV,h,CzS.f] <;> cases T <;> simp only [ih] <;> rfl
def cv:Operand -> CzV
 | .tmp t=>uo (pth t)
 | .const v=>.mk λ _=>v
 | .global g=>.mk λ _=>.pointer (some ⟨g,0,none⟩)
 | .func f=>.mk λ _=>.func (.func f) #[] #[]
theorem J1 (x:Operand) (T:Tr Value):(cv x).f T=ael T x:=by
 cases x with
 | tmp t=>exact pN _ _
 | const v=>rfl
 | global g=>rfl
 | func f=>rfl
def ca:List Operand -> CzA
 | []=>.mk λ _=>[]
 | x :: l=>match cv x,ca l with
  | .mk f,.mk g=>.mk λ T=>f T :: g T
theorem J3:∀ (l:List Operand) (T:Tr Value),(ca l).f T=mv T l
 | [],T=>rfl
 | x :: l,T=>by
  have h1:=J1 x T
  have h2:=J3 l T
  cases hx:cv x with
  | mk f=>cases hl:ca l with
   | mk g =>
    rw [hx] at h1;rw [hl] at h2
    simp only [CzV.f] at h1;simp only [CzA.f] at h2
    simp only [ca,hx,hl,CzA.f,mv,h1,h2]
inductive CzD where
 | no
 | ok (f:Value -> Tr Value -> Tr Value)
 | bad
def gU (N:Nat):Option Tmp -> CzD
 | none=>.no
 | some d=>match Nat.blt d N with
  | true=>match yV (pth d) with
   | .mk f=>.ok f
  | false=>.bad
theorem Ar {N:Nat} {d:Option Tmp} {f} (h:gU N d=.ok f) (v:Value) (T:Tr Value):eX N d v T=some (f v T):=by
 cases d with
 | none=>simp [gU] at h
 | some d =>
  simp only [gU] at h
  cases hb:Nat.blt d N <;> rw [hb] at h
  ·simp at h
  ·cases hs:yV (pth d) with
   | mk g =>
    simp only [hs,CzD.ok.injEq] at h
    subst h
    have:=Aq v (pth d) T
    rw [hs] at this
    simp only [CzS.f] at this
    simp only [eX,hb,this]
    rfl
theorem Au {N:Nat} {d:Option Tmp} (h:gU N d=.no) (v:Value) (T:Tr Value):eX N d v T=some T:=by
 cases d with
 | none=>rfl
 | some d =>
  simp only [gU] at h
  cases hb:Nat.blt d N <;> rw [hb] at h
  ·simp at h
  ·cases hs:yV (pth d) with
   | mk g=>simp [hs] at h
def cT (P:Program) (G N:Nat) (ops:Array Oper) (o:Oper) (k:Ih -> Option Nat -> Tr Value -> List Deferred -> AH -> Nat -> Option St) (ih:Ih) (r:Option Nat) (T:Tr Value) (D:List Deferred) (H:AH) (n:Nat):Option St:=match ew ops o T with
 | none=>none
 | some false=>match eX N o.dst undef T with
  | some T=>k ih r T D H n
  | none=>none
 | some true=>match jH P G ih r o T H n with
  | none=>none
  | some (.val v H n)=>eF v λ v=>match eX N o.dst v T with
   | some T=>k ih r T D H n
   | none=>none
  | some (.dfr d)=>match eX N o.dst undef T with
   | some T=>k ih r T (d :: D) H n
   | none=>none
def CzR.okL (P:Program) (G N:Nat) (ops:Array Oper) (l:List Oper) (k:Ih -> Option Nat -> Tr Value -> List Deferred -> AH -> Nat -> Option St):Prop:=∀ ih r T D H n,k ih r T D H n=lU P G ih r N ops l ⟨T,D,H,n⟩
theorem IX {P:Program} {G N:Nat} {ops:Array Oper} {l:List Oper} {k} (h:CzR.okL P G N ops l k) (o:Oper):CzR.okL P G N ops (o :: l) (cT P G N ops o k):=by
 intro ih r T D H n
 simp only [cT,lU]
 cases ew ops o T with
 | none=>rfl
 | some b =>
  cases b with
  | false=>cases eX N o.dst undef T with
   | none=>rfl
   | some T'=>exact h _ _ _ _ _ _
  | true=>cases jH P G ih r o T H n with
   | none=>rfl
   | some x=>cases x with
    | val v H' n'=>simp only [cC];cases hp:eX N o.dst v T with
     | none=>simp only [hp]
     | some T'=>simp only [hp];exact h _ _ _ _ _ _
    | dfr d=>cases hp:eX N o.dst undef T with
     | none=>simp only [hp]
     | some T'=>simp only [hp];exact h _ _ _ _ _ _
def nC (N:Nat) (o:Oper) (k:Ih -> Option Nat -> Tr Value -> List Deferred -> AH -> Nat -> Option St) (ih:Ih) (r:Option Nat) (T:Tr Value) (D:List Deferred) (v:Value) (H:AH) (n:Nat):Option St:=match eX N o.dst v T with
 | some T=>k ih r T D H n
 | none=>none
theorem ou {P:Program} {G N:Nat} {ops:Array Oper} {o:Oper} {k} (hg:o.guard=none) (ho:mM G o=true) (hc:rD P o.op=.pu) (ih:Ih) (r:Option Nat) (T:Tr Value) (D:List Deferred) (H:AH) (n:Nat) :
  cT P G N ops o k ih r T D H n=match gw P o T with
   | some v=>nC N o k ih r T D v H n
   | none=>none:=by
 simp only [mM] at ho
 cases hl:iG o.op with
 | none=>rw [hl] at ho;simp at ho
 | some l =>
  rw [hl] at ho
  simp only at ho
  simp only [cT,ew,hg,jH,Ag,hl,ho,hc]
  cases gw P o T with
  | none=>rfl
  | some v=>simp only [cC];rfl
theorem FW {P:Program} {G N:Nat} {ops:Array Oper} {o:Oper} {k} (hg:o.guard=none) (ho:mM G o=true) (hc:rD P o.op=.lo) (ih:Ih) (r:Option Nat) (T:Tr Value) (D:List Deferred) (H:AH) (n:Nat) :
  cT P G N ops o k ih r T D H n=match ja P o T H with
   | some v=>nC N o k ih r T D v H n
   | none=>none:=by
 simp only [mM] at ho
 cases hl:iG o.op with
 | none=>rw [hl] at ho;simp at ho
 | some l =>
  rw [hl] at ho
  simp only at ho
  simp only [cT,ew,hg,jH,Ag,hl,ho,hc]
  cases ja P o T H with
  | none=>rfl
  | some v=>simp only [cC];rfl
theorem Lc {P:Program} {G N:Nat} {ops:Array Oper} {o:Oper} {k} (hg:o.guard=none) (ho:mM G o=true) (hc:rD P o.op=.nw) (ih:Ih) (r:Option Nat) (T:Tr Value) (D:List Deferred) (H:AH) (n:Nat) :
  cT P G N ops o k ih r T D H n=match rS P o T with
   | some (b,m)=>nC N o k ih r T D (m.val n) (cP H n (some b)) (n+1)
   | none=>none:=by
 simp only [mM] at ho
 cases hl:iG o.op with
 | none=>rw [hl] at ho;simp at ho
 | some l =>
  rw [hl] at ho
  simp only at ho
  simp only [cT,ew,hg,jH,Ag,hl,ho,hc]
  cases rS P o T with
  | none=>rfl
  | some v=>simp only [K4,cC];rfl
theorem Ld {P:Program} {G N:Nat} {ops:Array Oper} {o:Oper} {k} (hg:o.guard=none) (ho:mM G o=true) (hc:rD P o.op=.ef) (ih:Ih) (r:Option Nat) (T:Tr Value) (D:List Deferred) (H:AH) (n:Nat) {v:Value} {H':AH} {n':Nat} (he:mw P o T H n=some (.val v H' n')) :
  cT P G N ops o k ih r T D H n=nC N o k ih r T D v H' n':=by
 simp only [mM] at ho
 cases hl:iG o.op with
 | none=>rw [hl] at ho;simp at ho
 | some l =>
  rw [hl] at ho
  simp only at ho
  simp only [cT,ew,hg,jH,Ag,hl,ho,hc,he,cC]
  rfl
theorem Aw {P:Program} {G N:Nat} {ops:Array Oper} {o:Oper} {k} (hg:o.guard=none) (ho:mM G o=true) (hc:rD P o.op=.ef) (ih:Ih) (r:Option Nat) (T:Tr Value) (D:List Deferred) (H:AH) (n:Nat) {f:FuncId} {args:List Value} (he:mw P o T H n=some (.ent f args)) :
  cT P G N ops o k ih r T D H n=match ih (.fn f args H n) with
   | some (.fn v H n)=>nC N o k ih r T D v H n
   | _=>none:=by
 simp only [mM] at ho
 cases hl:iG o.op with
 | none=>rw [hl] at ho;simp at ho
 | some l =>
  rw [hl] at ho
  simp only at ho
  simp only [cT,ew,hg,jH,Ag,hl,ho,hc,he]
  cases ih (.fn f args H n) with
  | none=>rfl
  | some x=>cases x <;> simp only [cC] <;> rfl
end
noncomputable section
abbrev Kt:=Ih -> Option Nat -> Tr Value -> List Deferred -> AH -> Nat -> Option St
def kN (k:IntKind):Nat:=IntKind.rec (motive:=λ _=>Nat) 0 1 2 3 4 5 6 7 k
def ON (a b:IntKind):Bool:=Nat.beq (kN a) (kN b)
theorem Lf (a b:IntKind):ON a b=decide (a=b):=by cases a <;> cases b <;> rfl
def L7 (a b:Int):Bool:=match a,b with
 | .ofNat m,.ofNat n=>Nat.blt m n
 | .negSucc _,.ofNat _=>true
 | .ofNat _,.negSucc _=>false
 | .negSucc m,.negSucc n=>Nat.blt n m
theorem Ay (m n:Nat):Nat.blt m n=decide (m < n):=by
 by_cases h:m < n
 ·simp [Nat.blt_eq,h]
 ·rw [decide_eq_false h]
  cases hb:Nat.blt m n
  ·rfl
  ·exact absurd (Eq.mp Nat.blt_eq hb) h
theorem FX (a b:Int):L7 a b=decide (a < b):=by
 cases a with
 | ofNat m=>cases b with
  | ofNat n =>
   simp only [L7,Ay]
   exact decide_eq_decide.2 (Int.ofNat_lt).symm
  | negSucc n=>exact (decide_eq_false (show ¬ ((m:Int) < Int.negSucc n) by omega)).symm
 | negSucc m=>cases b with
  | ofNat n=>exact (decide_eq_true (show Int.negSucc m < (n:Int) by omega)).symm
  | negSucc n =>
   simp only [L7,Ay]
   exact decide_eq_decide.2 (by omega)
def Lg (b:Bool):Bool:=match b with
 | true=>false
 | false=>true
theorem Az (b:Bool):Lg b=!b:=by cases b <;> rfl
def N9 (a b:Int):Bool:=Lg (L7 b a)
theorem Lh (a b:Int):N9 a b=decide (a <= b):=by
 rw [N9,Az,FX]
 by_cases h:b < a
 ·rw [decide_eq_true h,decide_eq_false (by omega)];rfl
 ·rw [decide_eq_false h,decide_eq_true (by omega)];rfl
def MW (a b:Int):Bool:=match a,b with
 | .ofNat m,.ofNat n=>Nat.beq m n
 | .negSucc m,.negSucc n=>Nat.beq m n
 | _,_=>false
theorem AA (m n:Nat):Nat.beq m n=decide (m=n):=by
 by_cases h:m=n
 ·rw [decide_eq_true h];exact Eq.mpr Nat.beq_eq h
 ·rw [decide_eq_false h]
  cases hb:Nat.beq m n
  ·rfl
  ·exact absurd (Eq.mp Nat.beq_eq hb) h
theorem Li (a b:Int):MW a b=(a == b):=by
 have e:(a == b)=decide (a=b):=rfl
 rw [e]
 cases a with
 | ofNat m=>cases b with
  | ofNat n =>
   simp only [MW,AA]
   exact decide_eq_decide.2 (Int.ofNat_inj (m:=m) (n:=n)).symm
  | negSucc n=>rfl
 | negSucc m=>cases b with
  | ofNat n=>rfl
  | negSucc n =>
   simp only [MW,AA]
   exact decide_eq_decide.2 (by simp)
def IY:BinOp -> Option (Int -> Int -> Bool)
 | .lss=>some λ a b=>L7 a b
 | .leq=>some λ a b=>N9 a b
 | .gtr=>some λ a b=>L7 b a
 | .geq=>some λ a b=>N9 b a
 | .eql=>some λ a b=>MW a b
 | .neq=>some λ a b=>Lg (MW a b)
 | _=>none
theorem IZ {op:BinOp} {q} (h:IY op=some q) (a b:Int):Fb op a b=some (q a b):=by
 cases op <;> simp only [IY,Option.some.injEq,reduceCtorEq] at h <;> subst h <;> simp only [Fb,FX,Lh,Li,Az] <;> rfl
section
variable (P:Program) (G N:Nat) (ops:Array Oper) (o:Oper) (k:Kt) (g:Value -> Tr Value -> Tr Value)
def Oa (f:Tr Value -> Value) (ih:Ih) (r:Option Nat) (T:Tr Value) (D:List Deferred) (H:AH) (n:Nat):Option St:=eF (f T) λ v=>k ih r (g v T) D H n
def MX (u:Value) (x y:Option St):Option St:=match u with
 | .bool b=>match b with
  | true=>x
  | false=>y
 | _=>none
def FY (f fa fb:Tr Value -> Value) (ih:Ih) (r:Option Nat) (T:Tr Value) (D:List Deferred) (H:AH) (n:Nat):Option St:=MX (f T) (eF (fa T) λ v=>k ih r (g v T) D H n) (eF (fb T) λ v=>k ih r (g v T) D H n)
def MY (u:Value) (x y:Option St):Option St:=match u with
 | .pointer p=>match p with
  | some _=>x
  | none=>y
 | _=>y
def Lj (f:Tr Value -> Value) (ih:Ih) (r:Option Nat) (T:Tr Value) (D:List Deferred) (H:AH) (n:Nat):Option St:=MY (f T) (eF (f T) λ v=>k ih r (g v T) D H n) (cT P G N ops o k ih r T D H n)
def MZ (q:Int -> Int -> Bool) (u v:Value) (x:Bool -> Option St) (y:Option St):Option St:=match u with
 | .int ka a=>match v with
  | .int kb b=>match ON ka kb with
   | true=>match q a b with
    | true=>x true
    | false=>x false
   | false=>y
  | _=>y
 | _=>y
def Lk (q:Int -> Int -> Bool) (f1 f2:Tr Value -> Value) (ih:Ih) (r:Option Nat) (T:Tr Value) (D:List Deferred) (H:AH) (n:Nat):Option St:=MZ q (f1 T) (f2 T) (λ b=>k ih r (g (.bool b) T) D H n) (cT P G N ops o k ih r T D H n)
def OO (c:Nat) (u:Value) (x:Value -> Option St):Option St:=match u with
 | .pointer p=>match p with
  | some a=>match a with
   | ⟨b,off,s⟩=>match c with
    | 0=>x (.pointer (some ⟨b,off,s⟩))
    | c+1=>x (.pointer (some ⟨b,off+(c+1),none⟩))
  | none=>none
 | _=>none
def Ll (c:Nat) (f:Tr Value -> Value) (ih:Ih) (r:Option Nat) (T:Tr Value) (D:List Deferred) (H:AH) (n:Nat):Option St:=OO c (f T) λ v=>k ih r (g v T) D H n
def ldB (off:Nat) (s:Option Nat) (b:Option AB) (x:Value -> Option St):Option St:=match s with
 | none=>match b with
  | some c=>match c with
   | .cells n tr _ _ _=>match Nat.blt off n with
    | true=>eF (cQ tr off) x
    | false=>none
   | _=>none
  | none=>none
 | some _=>none
def ldR (H:AH) (u:Value) (x:Value -> Option St):Option St:=match u with
 | .pointer p=>match p with
  | some a=>match a with
   | ⟨b,off,s⟩=>ldB off s (bO H b) x
  | none=>none
 | _=>none
def OP (f:Tr Value -> Value) (ih:Ih) (r:Option Nat) (T:Tr Value) (D:List Deferred) (H:AH) (n:Nat):Option St:=ldR H (f T) λ v=>k ih r (g v T) D H n
def laB (off c:Nat) (s:Option Nat) (b:Option AB) (x:Value -> Option St):Option St:=match s with
 | none=>match b with
  | some ab=>match ab with
   | .cells n tr _ _ _=>match Nat.ble (off+c) n with
    | true=>yU (gx tr off c) λ l=>x (.agg ⟨l⟩)
    | false=>none
   | _=>none
  | none=>none
 | some _=>none
def laR (c:Nat) (H:AH) (u:Value) (x:Value -> Option St):Option St:=match u with
 | .pointer p=>match p with
  | some a=>match a with
   | ⟨b,off,s⟩=>laB off c s (bO H b) x
  | none=>none
 | _=>none
def OQ (c:Nat) (f:Tr Value -> Value) (ih:Ih) (r:Option Nat) (T:Tr Value) (D:List Deferred) (H:AH) (n:Nat):Option St:=laR c H (f T) λ v=>k ih r (g v T) D H n
def alF (b:AB) (ih:Ih) (r:Option Nat) (T:Tr Value) (D:List Deferred) (H:AH) (n:Nat):Option St:=k ih r (g (.pointer (some ⟨n,0,none⟩)) T) D (cP H n (some b)) (n+1)
def ixR (c:Nat) (u i:Value) (x:Value -> Option St):Option St:=match u with
 | .slice p m _=>match p with
  | some a=>match i with
   | .int _ i=>match i with
    | .ofNat i=>match Nat.blt i m with
     | true=>match a with
      | ⟨b,off,s⟩=>match i * c with
       | 0=>x (.pointer (some ⟨b,off,s⟩))
       | j+1=>x (.pointer (some ⟨b,off+(j+1),none⟩))
     | false=>none
    | _=>none
   | _=>none
  | none=>none
 | _=>none
def OS (c:Nat) (f1 f2:Tr Value -> Value) (ih:Ih) (r:Option Nat) (T:Tr Value) (D:List Deferred) (H:AH) (n:Nat):Option St:=ixR c (f1 T) (f2 T) λ v=>k ih r (g v T) D H n
def stB (off:Nat) (s:Option Nat) (v:Value) (b:Option AB) (x:AB -> Option St) (y:Option St):Option St:=match s with
 | none=>match b with
  | some c=>match c with
   | .cells n tr ty w ro=>match ro with
    | false=>match Nat.blt off n with
     | true=>x (.cells n (rQ tr off v) ty w false)
     | false=>y
    | true=>y
   | _=>y
  | none=>y
 | some _=>y
def AC (v:Value):Bool:=match v with
 | .agg _=>false
 | .tuple _=>false
 | _=>true
def stR (H:AH) (u v:Value) (x:Nat -> AB -> Option St) (y:Option St):Option St:=match AC v with
 | true=>match u with
  | .pointer p=>match p with
   | some a=>match a with
    | ⟨b,off,s⟩=>eF v λ v=>stB off s v (bO H b) (x b) y
   | none=>y
  | _=>y
 | false=>y
def OT (f1 f2:Tr Value -> Value) (ih:Ih) (r:Option Nat) (T:Tr Value) (D:List Deferred) (H:AH) (n:Nat):Option St:=stR H (f1 T) (f2 T) (λ b ab=>k ih r T D (cP H b (some ab)) n) (cT P G N ops o k ih r T D H n)
def Oc (x:Option Rs) (y:Value -> AH -> Nat -> Option St):Option St:=match x with
 | some x=>match x with
  | .fn v H n=>eF v λ v=>y v H n
  | .cd _ _=>none
 | none=>none
def OU (f:FuncId) (as:Tr Value -> List Value) (ih:Ih) (r:Option Nat) (T:Tr Value) (D:List Deferred) (H:AH) (n:Nat):Option St:=Oc (ih (.fn f (as T) H n)) λ v H n=>k ih r (g v T) D H n
def OV (f:FuncId) (as:Tr Value -> List Value) (ih:Ih) (r:Option Nat) (T:Tr Value) (D:List Deferred) (H:AH) (n:Nat):Option St:=Oc (ih (.fn f (as T) H n)) λ v H n=>k ih r T D H n
end
section
variable {P:Program} {G N:Nat} {ops:Array Oper} {o:Oper} {k:Kt} {g:Value -> Tr Value -> Tr Value}
theorem fj (hd:gU N o.dst=.ok g) (ih:Ih) (r:Option Nat) (T:Tr Value) (D:List Deferred) (v:Value) (H:AH) (n:Nat):nC N o k ih r T D v H n=k ih r (g v T) D H n:=by
 rw [nC,Ar hd]
theorem AD (hd:gU N o.dst=.no) (ih:Ih) (r:Option Nat) (T:Tr Value) (D:List Deferred) (v:Value) (H:AH) (n:Nat):nC N o k ih r T D v H n=k ih r T D H n:=by
 rw [nC,Au hd]
theorem J4 (hg:o.guard=none) (ho:mM G o=true) (hd:gU N o.dst=.ok g) {x:Operand} (hx:o.op=.move x \/ o.op=.assign x) {f} (hf:∀ T,f T=ael T x) (ih r T D H n):Oa k g f ih r T D H n=cT P G N ops o k ih r T D H n:=by
 have hc:rD P o.op=.pu:=by cases hx with | inl h=>rw [h];rfl | inr h=>rw [h];rfl
 have hp:gw P o T=some (ael T x):=by unfold gw;cases hx with | inl h=>rw [h] | inr h=>rw [h]
 rw [ou hg ho hc,hp,Oa,hf,cC]
 exact (fj hd ..).symm
theorem I0 (hg:o.guard=none) (ho:mM G o=true) (hd:gU N o.dst=.ok g) {c a b:Operand} (hx:o.op=.pick c a b) {f fa fb} (hf:∀ T,f T=ael T c) (hfa:∀ T,fa T=ael T a) (hfb:∀ T,fb T=ael T b) (ih r T D H n):FY k g f fa fb ih r T D H n=cT P G N ops o k ih r T D H n:=by
 rw [ou hg ho (by rw [hx];rfl)]
 unfold gw
 rw [hx]
 simp only [FY,hf,hfa,hfb,cC]
 cases ael T c with
 | bool q=>cases q <;> exact (fj hd ..).symm
 | _=>rfl
theorem Lm (hg:o.guard=none) (ho:mM G o=true) (hd:gU N o.dst=.ok g) {x:Operand} (hx:o.op=.nilCheck x) {f} (hf:∀ T,f T=ael T x) (ih r T D H n):Lj P G N ops o k g f ih r T D H n=cT P G N ops o k ih r T D H n:=by
 simp only [Lj,hf]
 cases he:ael T x with
 | pointer p=>cases p with
  | none=>rfl
  | some a =>
   rw [ou hg ho (by rw [hx];rfl)]
   unfold gw
   rw [hx]
   simp only [he,MY,cC]
   exact (fj hd ..).symm
 | _=>rfl
theorem Ln (hg:o.guard=none) (ho:mM G o=true) (hd:gU N o.dst=.ok g) {op t x y z} (hx:o.op=.binOp op t x y z) {q} (hq:IY op=some q) {f1 f2} (hf1:∀ T,f1 T=ael T x) (hf2:∀ T,f2 T=ael T y) (ih r T D H n):Lk P G N ops o k g q f1 f2 ih r T D H n=cT P G N ops o k ih r T D H n:=by
 simp only [Lk,hf1,hf2]
 cases he:ael T x with
 | int ka a=>cases he2:ael T y with
  | int kb b =>
   simp only [MZ]
   cases hk:ON ka kb with
   | false=>rfl
   | true =>
    rw [ou hg ho (by rw [hx];rfl)]
    unfold gw
    rw [hx]
    rw [Lf] at hk
    simp only [he,he2,IZ hq,hk]
    cases q a b <;> exact (fj hd ..).symm
  | _=>rfl
 | _=>rfl
theorem Lo (hg:o.guard=none) (ho:mM G o=true) (hd:gU N o.dst=.ok g) {t x j} (hx:o.op=.fieldAddr t x j) {c ft} (hc:wg P t j=some (c,ft)) {f} (hf:∀ T,f T=ael T x) (ih r T D H n):Ll k g c f ih r T D H n=cT P G N ops o k ih r T D H n:=by
 rw [ou hg ho (by rw [hx];rfl)]
 unfold gw
 rw [hx]
 simp only [Ll,hf,hc]
 cases he:ael T x with
 | pointer p=>cases p with
  | none=>rfl
  | some a=>cases a with
   | mk b off s=>cases c with
    | zero=>exact (fj hd ..).symm
    | succ c=>exact (fj hd ..).symm
 | _=>rfl
theorem M2 (hg:o.guard=none) (ho:mM G o=true) (hd:gU N o.dst=.ok g) {t x} (hx:o.op=.load t x) (hc:wc P t=true) {f} (hf:∀ T,f T=ael T x) (ih r T D H n):OP k g f ih r T D H n=cT P G N ops o k ih r T D H n:=by
 rw [FW hg ho (by rw [hx];rfl)]
 unfold ja
 rw [hx]
 simp only [OP,hf]
 cases he:ael T x with
 | pointer p=>cases p with
  | none=>rfl
  | some a=>cases a with
   | mk b off s =>
    cases s with
    | some s=>rfl
    | none =>
     simp only [ldR,sL]
     cases bO H b with
     | none=>rfl
     | some c=>cases c with
      | cells nn tr ty w ro =>
       simp only [ldB,hc]
       cases Nat.blt off nn
       ·rfl
       ·simp only [cC];exact (fj hd ..).symm
      | _=>rfl
 | _=>rfl
theorem M3 (hg:o.guard=none) (ho:mM G o=true) (hd:gU N o.dst=.ok g) {t x} (hx:o.op=.load t x) (hc:wc P t=false) {c} (ha:yz P t=some c) {f} (hf:∀ T,f T=ael T x) (ih r T D H n):OQ k g c f ih r T D H n=cT P G N ops o k ih r T D H n:=by
 rw [FW hg ho (by rw [hx];rfl)]
 unfold ja
 rw [hx]
 simp only [OQ,hf]
 cases he:ael T x with
 | pointer p=>cases p with
  | none=>rfl
  | some a=>cases a with
   | mk b off s =>
    cases s with
    | some s=>rfl
    | none =>
     simp only [laR,sL]
     cases bO H b with
     | none=>rfl
     | some ab=>cases ab with
      | cells nn tr ty w ro =>
       simp only [laB,hc,ha]
       cases Nat.ble (off+c) nn
       ·rfl
       ·simp only [tc];exact (fj hd ..).symm
      | _=>rfl
 | _=>rfl
theorem M4 (hg:o.guard=none) (ho:mM G o=true) (hd:gU N o.dst=.ok g) {t} (hx:o.op=.alloc t) {z} (hz:kr P t=some z) {b} (hb:jo z t=b) (ih r T D H n):alF k g b ih r T D H n=cT P G N ops o k ih r T D H n:=by
 rw [Lc hg ho (by rw [hx];rfl)]
 unfold rS
 rw [hx]
 simp only [hz,hb]
 exact (fj hd ..).symm
theorem M5 (hg:o.guard=none) (ho:mM G o=true) (hd:gU N o.dst=.ok g) {t x i} (hx:o.op=.indexAddr t x i) {el c} (ht:P.underlying t=some (.slice el)) (hc:eM P el=some c) {f1 f2} (hf1:∀ T,f1 T=ael T x) (hf2:∀ T,f2 T=ael T i) (ih r T D H n):OS k g c f1 f2 ih r T D H n=cT P G N ops o k ih r T D H n:=by
 rw [ou hg ho (by rw [hx];rfl)]
 unfold gw
 rw [hx]
 simp only [OS,hf1,hf2,ht]
 cases he:ael T x with
 | slice p m cc=>cases p with
  | none=>rfl
  | some a=>cases a with
   | mk b off s=>cases he2:ael T i with
    | int ki i=>cases i with
     | ofNat i =>
      simp only [ixR,Hz,hc]
      cases Nat.blt i m with
      | false=>rfl
      | true =>
       simp only [yB]
       cases i * c with
       | zero=>exact (fj hd ..).symm
       | succ j=>exact (fj hd ..).symm
     | negSucc i=>rfl
    | _=>rfl
 | _=>cases he2:ael T i <;> rfl
theorem M6 (hg:o.guard=none) (ho:mM G o=true) (hd:gU N o.dst=.no) {t x y} (hx:o.op=.store t x y) (ht:eM P t=some 1) {f1 f2} (hf1:∀ T,f1 T=ael T x) (hf2:∀ T,f2 T=ael T y) (ih r T D H n):OT P G N ops o k f1 f2 ih r T D H n=cT P G N ops o k ih r T D H n:=by
 simp only [OT,hf1,hf2]
 unfold stR
 cases hfl:AC (ael T y) with
 | false=>rfl
 | true =>
  cases he:ael T x with
  | pointer p=>cases p with
   | none=>rfl
   | some a=>cases a with
    | mk b off s=>cases s with
     | some s=>simp only [cC];rfl
     | none =>
      simp only [cC]
      cases hb:bO H b with
      | none=>rfl
      | some c=>cases c with
       | cells nn tr ty w ro=>cases ro with
        | true=>rfl
        | false =>
         simp only [stB]
         cases hlt:Nat.blt off nn with
         | false=>rfl
         | true =>
          have hcl:gF (ael T y)=[ael T y]:=by
           cases hv:ael T y <;> first | rfl | (rw [hv] at hfl;simp [AC] at hfl)
          have hff:jG [ael T y]=true:=by
           cases hv:ael T y <;> first | rfl | (rw [hv] at hfl;simp [AC] at hfl)
          have hle:Nat.ble (off+1) nn=true:=hlt
          have he':mw P o T H n=some (.val undef (cP H b (some (.cells nn (rQ tr off (ael T y)) ty w false))) n):=by
           unfold mw
           rw [hx]
           simp only [he,ug,ht,hcl,fW,nZ,hb,hle,hff]
           rfl
          rw [Ld hg ho (by rw [hx];rfl) ih r T D H n he']
          exact (AD hd ..).symm
       | _=>rfl
  | _=>rfl
theorem FZ {f:FuncId} {c:Call} (hx:o.op=.call c) (hc:c.callee=.value (.func f)) (hb:qD P f=true) (T H n):mw P o T H n=some (.ent f (mv T c.args.toList)):=by
 unfold mw
 rw [hx]
 simp only [hc,ael,pK,hb]
 simp
theorem F1 {f:FuncId} {c:Call} (hx:o.op=.call c) (hc:c.callee=.value (.func f)):rD P o.op=.ef:=by
 rw [hx]
 obtain ⟨ce,a,t⟩:=c
 simp only at hc
 subst hc
 rfl
theorem M7 (hg:o.guard=none) (ho:mM G o=true) (hd:gU N o.dst=.ok g) {f:FuncId} {c:Call} (hx:o.op=.call c) (hc:c.callee=.value (.func f)) (hb:qD P f=true) {as} (ha:∀ T,as T=mv T c.args.toList) (ih r T D H n):OU k g f as ih r T D H n=cT P G N ops o k ih r T D H n:=by
 rw [Aw hg ho (F1 hx hc) ih r T D H n (FZ hx hc hb T H n),OU,ha]
 cases ih (.fn f (mv T c.args.toList) H n) with
 | none=>rfl
 | some x=>cases x with
  | cd _ _=>rfl
  | fn v H n=>simp only [Oc,cC];exact (fj hd ..).symm
theorem Lp (hg:o.guard=none) (ho:mM G o=true) (hd:gU N o.dst=.no) {f:FuncId} {c:Call} (hx:o.op=.call c) (hc:c.callee=.value (.func f)) (hb:qD P f=true) {as} (ha:∀ T,as T=mv T c.args.toList) (ih r T D H n):OV k f as ih r T D H n=cT P G N ops o k ih r T D H n:=by
 rw [Aw hg ho (F1 hx hc) ih r T D H n (FZ hx hc hb T H n),OV,ha]
 cases ih (.fn f (mv T c.args.toList) H n) with
 | none=>rfl
 | some x=>cases x with
  | cd _ _=>rfl
  | fn v H n=>simp only [Oc,cC];exact (AD hd ..).symm
end
end
noncomputable section
def OW (P:Program) (G N:Nat) (ops:Array Oper) (o:Oper) (k:Kt) (g:Value -> Tr Value -> Tr Value):CzR:=match o.op with
 | .move x=>match cv x with
  | .mk f=>.mk (Oa k g f)
 | .assign x=>match cv x with
  | .mk f=>.mk (Oa k g f)
 | .pick c a b=>match cv c with
  | .mk f=>match cv a with
   | .mk fa=>match cv b with
    | .mk fb=>.mk (FY k g f fa fb)
 | .nilCheck x=>match cv x with
  | .mk f=>.mk (Lj P G N ops o k g f)
 | .binOp op _ x y _=>match IY op with
  | some q=>match cv x with
   | .mk f1=>match cv y with
    | .mk f2=>.mk (Lk P G N ops o k g q f1 f2)
  | none=>.mk (cT P G N ops o k)
 | .fieldAddr t x j=>match wg P t j with
  | some (c,_)=>match cv x with
   | .mk f=>.mk (Ll k g c f)
  | none=>.mk (cT P G N ops o k)
 | .load t x=>match wc P t with
  | true=>match cv x with
   | .mk f=>.mk (OP k g f)
  | false=>match yz P t with
   | some c=>match cv x with
    | .mk f=>.mk (OQ k g c f)
   | none=>.mk (cT P G N ops o k)
 | .alloc t=>match kr P t with
  | some z=>match jo z t with
   | .cells a b c d e=>.mk (alF k g (.cells a b c d e))
   | _=>.mk (cT P G N ops o k)
  | none=>.mk (cT P G N ops o k)
 | .indexAddr t x i=>match P.underlying t with
  | some (.slice el)=>match eM P el with
   | some c=>match cv x with
    | .mk f1=>match cv i with
     | .mk f2=>.mk (OS k g c f1 f2)
   | none=>.mk (cT P G N ops o k)
  | _=>.mk (cT P G N ops o k)
 | .call c=>match c.callee with
  | .value (.func f)=>match qD P f with
   | true=>match ca c.args.toList with
    | .mk as=>.mk (OU k g f as)
   | false=>.mk (cT P G N ops o k)
  | _=>.mk (cT P G N ops o k)
 | _=>.mk (cT P G N ops o k)
def OX (P:Program) (G N:Nat) (ops:Array Oper) (o:Oper) (k:Kt):CzR:=match o.op with
 | .store t x y=>match eM P t with
  | some 1=>match cv x with
   | .mk f1=>match cv y with
    | .mk f2=>.mk (OT P G N ops o k f1 f2)
  | _=>.mk (cT P G N ops o k)
 | .call c=>match c.callee with
  | .value (.func f)=>match qD P f with
   | true=>match ca c.args.toList with
    | .mk as=>.mk (OV k f as)
   | false=>.mk (cT P G N ops o k)
  | _=>.mk (cT P G N ops o k)
 | _=>.mk (cT P G N ops o k)
def F3 (P:Program) (G N:Nat) (ops:Array Oper) (o:Oper) (k:Kt):CzR:=match mM G o with
 | true=>match gU N o.dst with
  | .ok g=>OW P G N ops o k g
  | .no=>OX P G N ops o k
  | .bad=>.mk (cT P G N ops o k)
 | false=>.mk (cT P G N ops o k)
def Du (o:Oper):Oper:=⟨o.dst,o.op,o.type,o.pos,o.after,none⟩
def OY (want:Bool) (u:Value) (x y:Option St):Option St:=match u with
 | .bool b=>match b with
  | true=>match want with
   | true=>x
   | false=>y
  | false=>match want with
   | true=>y
   | false=>x
 | .tuple _=>y
 | _=>none
def guF (want:Bool) (f:Tr Value -> Value) (h:Kt) (k:Kt) (g:Value -> Tr Value -> Tr Value) (ih:Ih) (r:Option Nat) (T:Tr Value) (D:List Deferred) (H:AH) (n:Nat):Option St:=OY want (f T) (h ih r T D H n) (k ih r (g undef T) D H n)
def guN (want:Bool) (f:Tr Value -> Value) (h:Kt) (k:Kt) (ih:Ih) (r:Option Nat) (T:Tr Value) (D:List Deferred) (H:AH) (n:Nat):Option St:=OY want (f T) (h ih r T D H n) (k ih r T D H n)
def Lq (P:Program) (G N:Nat) (ops:Array Oper) (o:Oper) (nx:CzR):CzR:=match nx with
 | .mk k=>match o.guard with
  | none=>F3 P G N ops o k
  | some (j,want)=>match (ops[j]?).bind (·.dst) with
   | some d=>match uo (pth d) with
    | .mk f=>match F3 P G N ops (Du o) k with
     | .mk h=>match gU N o.dst with
      | .ok g=>.mk (guF want f h k g)
      | .no=>.mk (guN want f h k)
      | .bad=>.mk (cT P G N ops o k)
   | none=>.mk (cT P G N ops o k)
def CN (P:Program) (G N:Nat) (ops:Array Oper):List Oper -> CzR
 | []=>.mk λ _ _ T D H n=>some ⟨T,D,H,n⟩
 | o :: l=>Lq P G N ops o (CN P G N ops l)
def F4 (P:Program) (G N:Nat) (ops:Array Oper) (o:Oper) (k:Kt) (c:CzR):Prop:=∀ ih r T D H n,c.f ih r T D H n=cT P G N ops o k ih r T D H n
theorem dt {P:Program} {G N:Nat} {ops:Array Oper} {o:Oper} {k:Kt}:F4 P G N ops o k (.mk (cT P G N ops o k)):=λ _ _ _ _ _ _=>rfl
theorem xA {x:Operand} {f} (h:cv x=.mk f) (T:Tr Value):f T=ael T x:=by
 have:=J1 x T;rw [h] at this;exact this
theorem cam {x:List Operand} {f} (h:ca x=.mk f) (T:Tr Value):f T=mv T x:=by
 have:=J3 x T;rw [h] at this;exact this
theorem Lr {P:Program} {G N:Nat} {ops:Array Oper} {o:Oper} {k:Kt} {g} (hg:o.guard=none) (ho:mM G o=true) (hd:gU N o.dst=.ok g):F4 P G N ops o k (OW P G N ops o k g):=by
 unfold OW
 split
 ·rename_i x hx
  split;rename_i f hf
  exact λ ih r T D H n=>J4 hg ho hd (.inl hx) (xA hf) ih r T D H n
 ·rename_i x hx
  split;rename_i f hf
  exact λ ih r T D H n=>J4 hg ho hd (.inr hx) (xA hf) ih r T D H n
 ·rename_i c a b hx
  split;rename_i f hf
  split;rename_i fa hfa
  split;rename_i fb hfb
  exact λ ih r T D H n=>I0 hg ho hd hx (xA hf) (xA hfa) (xA hfb) ih r T D H n
 ·rename_i x hx
  split;rename_i f hf
  exact λ ih r T D H n=>Lm hg ho hd hx (xA hf) ih r T D H n
 ·rename_i op t x y z hx
  split
  ·rename_i q hq
   split;rename_i f hf
   split;rename_i f2 hf2
   exact λ ih r T D H n=>Ln hg ho hd hx hq (xA hf) (xA hf2) ih r T D H n
  ·exact dt
 ·rename_i t x j hx
  split
  ·rename_i c ft hc
   split;rename_i f hf
   exact λ ih r T D H n=>Lo hg ho hd hx hc (xA hf) ih r T D H n
  ·exact dt
 ·rename_i t x hx
  split
  ·rename_i hc
   split;rename_i f hf
   exact λ ih r T D H n=>M2 hg ho hd hx hc (xA hf) ih r T D H n
  ·rename_i hc
   split
   ·rename_i c ha
    split;rename_i f hf
    exact λ ih r T D H n=>M3 hg ho hd hx hc ha (xA hf) ih r T D H n
   ·exact dt
 ·rename_i t hx
  split
  ·rename_i z hz
   split
   ·rename_i a b c d e hb
    exact λ ih r T D H n=>M4 hg ho hd hx hz hb ih r T D H n
   ·exact dt
  ·exact dt
 ·rename_i t x i hx
  split
  ·rename_i el ht
   split
   ·rename_i c hc
    split;rename_i f hf
    split;rename_i f2 hf2
    exact λ ih r T D H n=>M5 hg ho hd hx ht hc (xA hf) (xA hf2) ih r T D H n
   ·exact dt
  ·exact dt
 ·rename_i c hx
  split
  ·rename_i f hc
   split
   ·rename_i hb
    split;rename_i as ha
    exact λ ih r T D H n=>M7 hg ho hd hx hc hb (cam ha) ih r T D H n
   ·exact dt
  ·exact dt
 ·exact dt
theorem Ls {P:Program} {G N:Nat} {ops:Array Oper} {o:Oper} {k:Kt} (hg:o.guard=none) (ho:mM G o=true) (hd:gU N o.dst=.no):F4 P G N ops o k (OX P G N ops o k):=by
 unfold OX
 split
 ·rename_i t x y hx
  split
  ·rename_i hc
   split;rename_i f hf
   split;rename_i f2 hf2
   exact λ ih r T D H n=>M6 hg ho hd hx hc (xA hf) (xA hf2) ih r T D H n
  ·exact dt
 ·rename_i c hx
  split
  ·rename_i f hc
   split
   ·rename_i hb
    split;rename_i as ha
    exact λ ih r T D H n=>Lp hg ho hd hx hc hb (cam ha) ih r T D H n
   ·exact dt
  ·exact dt
 ·exact dt
theorem AE {P:Program} {G N:Nat} {ops:Array Oper} {o:Oper} {k:Kt} (hg:o.guard=none):F4 P G N ops o k (F3 P G N ops o k):=by
 unfold F3
 split
 ·rename_i ho
  split
  ·rename_i g hd
   exact Lr hg ho hd
  ·rename_i hd
   exact Ls hg ho hd
  ·exact dt
 ·exact dt
theorem mD (P:Program) (T:Tr Value) (o:Oper):fX P T (Du o)=fX P T o:=by
 have e:execOp (ael T) (Du o)=execOp (ael T) o:=by
  obtain ⟨dst,op,type,pos,after,guard⟩:=o
  cases op <;> rfl
 unfold fX
 rw [e]
 rfl
theorem CO (P:Program) (T:Tr Value) (o:Oper):gw P (Du o) T=gw P o T:=by
 unfold gw
 simp only [mD]
 rfl
theorem CP (P:Program) (T:Tr Value) (H:AH) (o:Oper):ja P (Du o) T H=ja P o T H:=by
 unfold ja
 simp only [mD]
 rfl
theorem F5 (P:Program) (T:Tr Value) (H:AH) (n:Nat) (o:Oper):mw P (Du o) T H n=mw P o T H n:=by
 unfold mw
 simp only [mD]
 rfl
theorem F6 (P:Program) (G:Nat) (ih:Ih) (r:Option Nat) (T:Tr Value) (H:AH) (n:Nat) (o:Oper):jH P G ih r (Du o) T H n=jH P G ih r o T H n:=by
 unfold jH Ag
 simp only [CO,CP,F5]
 rfl
theorem qX {P:Program} {G N:Nat} {ops:Array Oper} {o:Oper} {k:Kt} {j:Nat} {want:Bool} (hg:o.guard=some (j,want)) {d:Tmp} (hd:(ops[j]?).bind (·.dst)=some d) {f:Tr Value -> Value} (hf:∀ T,f T=cQ T d) {h:Kt} (hh:∀ ih r T D H n,h ih r T D H n=cT P G N ops (Du o) k ih r T D H n) (ih r T D H n) :
  cT P G N ops o k ih r T D H n=OY want (f T) (h ih r T D H n) (match eX N o.dst undef T with | some T=>k ih r T D H n | none=>none):=by
 rw [hh,hf]
 have e:cT P G N ops (Du o) k ih r T D H n=match jH P G ih r o T H n with
  | none=>none
  | some (.val v H n)=>eF v λ v=>match eX N o.dst v T with
   | some T=>k ih r T D H n
   | none=>none
  | some (.dfr d)=>match eX N o.dst undef T with
   | some T=>k ih r T (d :: D) H n
   | none=>none:=by
  simp only [cT,ew,Du]
  rw [<- F6 P G ih r T H n o]
  rfl
 rw [e]
 simp only [cT,ew,hg,hd]
 cases cQ T d with
 | bool b=>cases b <;> cases want <;> rfl
 | _=>rfl
theorem Lt {P:Program} {G N:Nat} {ops:Array Oper} {o:Oper} {k:Kt}:F4 P G N ops o k (Lq P G N ops o (.mk k)):=by
 cases hg:o.guard with
 | none=>simp only [Lq,hg];exact AE hg
 | some jw =>
  obtain ⟨j,want⟩:=jw
  cases hd:(ops[j]?).bind (·.dst) with
  | none=>simp only [Lq,hg,hd];exact dt
  | some d =>
   cases hf:uo (pth d) with
   | mk f=>cases hh:F3 P G N ops (Du o) k with
    | mk h =>
     have hf':∀ T,f T=cQ T d:=λ T=>by have:=pN (pth d) T;rw [hf] at this;exact this
     have hh':=AE (P:=P) (G:=G) (N:=N) (ops:=ops) (o:=Du o) (k:=k) rfl
     rw [hh] at hh'
     cases hdk:gU N o.dst with
     | ok g =>
      simp only [Lq,hg,hd,hf,hh,hdk]
      intro ih r T D H n
      rw [qX hg hd hf' hh',Ar hdk]
      rfl
     | no =>
      simp only [Lq,hg,hd,hf,hh,hdk]
      intro ih r T D H n
      rw [qX hg hd hf' hh',Au hdk]
      rfl
     | bad=>simp only [Lq,hg,hd,hf,hh,hdk];exact dt
theorem AF (P:Program) (G N:Nat) (ops:Array Oper):∀ l,CzR.okL P G N ops l (CN P G N ops l).f
 | []=>λ ih r T D H n=>rfl
 | o :: l=>by
  have h:=AF P G N ops l
  cases hk:CN P G N ops l with
  | mk k =>
   rw [hk] at h
   intro ih r T D H n
   simp only [CN,hk]
   rw [Lt]
   exact IX h o ih r T D H n
def Od (P:Program) (G N:Nat) (c:Code) (ih:Ih) (r:Option Nat) (T:Tr Value) (D:List Deferred) (H:AH) (n:Nat):Option (Ex × St):=iQ P G ih r N c ⟨T,D,H,n⟩
def M8 (k:Kt) (ih:Ih) (r:Option Nat) (T:Tr Value) (D:List Deferred) (H:AH) (n:Nat):Option (Ex × St):=match k ih r T D H n with
 | some s=>some (.normal,s)
 | none=>none
abbrev Kc:=Ih -> Option Nat -> Tr Value -> List Deferred -> AH -> Nat -> Option (Ex × St)
def OZ (x:Option (Ex × St)) (y:Tr Value -> List Deferred -> AH -> Nat -> Option (Ex × St)):Option (Ex × St):=match x with
 | some p=>match p with
  | (e,s)=>match e with
   | .normal=>match s with
    | ⟨T,D,H,n⟩=>y T D H n
   | .exit id=>some (.exit id,s)
   | .ret=>some (.ret,s)
 | none=>none
def M9 (a b:Kc) (ih:Ih) (r:Option Nat) (T:Tr Value) (D:List Deferred) (H:AH) (n:Nat):Option (Ex × St):=OZ (a ih r T D H n) λ T D H n=>b ih r T D H n
def Na (u:Value) (x y:Option (Ex × St)):Option (Ex × St):=match u with
 | .bool b=>match b with
  | true=>x
  | false=>y
 | _=>none
def J5 (f:Tr Value -> Value) (a b:Kc) (ih:Ih) (r:Option Nat) (T:Tr Value) (D:List Deferred) (H:AH) (n:Nat):Option (Ex × St):=Na (f T) (a ih r T D H n) (b ih r T D H n)
def Nb (id:Nat) (x:Option (Ex × St)):Option (Ex × St):=match x with
 | some p=>match p with
  | (e,s)=>match e with
   | .exit id'=>match Nat.beq id' id with
    | true=>some (.normal,s)
    | false=>some (.exit id',s)
   | .normal=>some (.normal,s)
   | .ret=>some (.ret,s)
 | none=>none
def Nc (id:Nat) (a:Kc) (ih:Ih) (r:Option Nat) (T:Tr Value) (D:List Deferred) (H:AH) (n:Nat):Option (Ex × St):=Nb id (a ih r T D H n)
def Nd (x:Option (Ex × St)) (y:St -> Option Rs):Option (Ex × St):=match x with
 | some p=>match p with
  | (e,s)=>match e with
   | .normal=>match y s with
    | some q=>match q with
     | .cd e s=>some (e,s)
     | .fn _ _ _=>none
    | none=>none
   | .exit id=>some (.exit id,s)
   | .ret=>some (.ret,s)
 | none=>none
def Nf (N:Nat) (c:Code) (a:Kc) (ih:Ih) (r:Option Nat) (T:Tr Value) (D:List Deferred) (H:AH) (n:Nat):Option (Ex × St):=Nd (a ih r T D H n) λ s=>ih (.loop r N c s)
def gV (P:Program) (G N:Nat):Code -> CzC
 | .skip=>.mk λ _ _ T D H n=>some (.normal,⟨T,D,H,n⟩)
 | .label _=>.mk λ _ _ T D H n=>some (.normal,⟨T,D,H,n⟩)
 | .region id ops draw=>match draw with
  | false=>match CN P G N ops ops.toList with
   | .mk k=>.mk (M8 k)
  | true=>.mk (Od P G N (.region id ops true))
 | .seq a b=>match gV P G N a with
  | .mk fa=>match gV P G N b with
   | .mk fb=>.mk (M9 fa fb)
 | .cond c a b=>match cv c with
  | .mk f=>match gV P G N a with
   | .mk fa=>match gV P G N b with
    | .mk fb=>.mk (J5 f fa fb)
 | .block id c=>match gV P G N c with
  | .mk fa=>.mk (Nc id fa)
 | .loop c=>match gV P G N c with
  | .mk fa=>.mk (Nf N c fa)
 | .rangeFunc g ps assign body=>.mk (Od P G N (.rangeFunc g ps assign body))
 | .exit id=>.mk λ _ _ T D H n=>some (.exit id,⟨T,D,H,n⟩)
 | .scope c=>gV P G N c
 | .goto l=>.mk (Od P G N (.goto l))
 | .ret=>.mk λ _ _ T D H n=>some (.ret,⟨T,D,H,n⟩)
 | .refuse x=>.mk (Od P G N (.refuse x))
def Ng (P:Program) (G N:Nat) (c:Code) (f:Kc):Prop:=∀ ih r T D H n,f ih r T D H n=iQ P G ih r N c ⟨T,D,H,n⟩
theorem gW (P:Program) (G N:Nat):∀ c,Ng P G N c (gV P G N c).f
 | .skip=>λ _ _ _ _ _ _=>rfl
 | .label _=>λ _ _ _ _ _ _=>rfl
 | .region id ops draw=>by
  cases draw with
  | true=>exact λ _ _ _ _ _ _=>rfl
  | false =>
   have h:=AF P G N ops ops.toList
   cases hk:CN P G N ops ops.toList with
   | mk k =>
    rw [hk] at h
    intro ih r T D H n
    simp only [gV,hk,CzC.f,M8,iQ]
    have:=h ih r T D H n
    simp only [CzR.f] at this
    rw [this]
    cases lU P G ih r N ops ops.toList ⟨T,D,H,n⟩ <;> rfl
 | .seq a b=>by
  have h1:=gW P G N a
  have h2:=gW P G N b
  cases ha:gV P G N a with
  | mk fa=>cases hb:gV P G N b with
   | mk fb =>
    rw [ha] at h1;rw [hb] at h2
    intro ih r T D H n
    have e1:=h1 ih r T D H n
    simp only [CzC.f] at e1
    simp only [gV,ha,hb,CzC.f,M9,iQ,e1]
    cases iQ P G ih r N a ⟨T,D,H,n⟩ with
    | none=>rfl
    | some p=>obtain ⟨e,s⟩:=p;cases e with
     | normal=>obtain ⟨T,D,H,n⟩:=s;exact h2 ih r T D H n
     | exit id=>rfl
     | ret=>rfl
 | .cond c a b=>by
  have h1:=gW P G N a
  have h2:=gW P G N b
  cases hc:cv c with
  | mk f=>cases ha:gV P G N a with
   | mk fa=>cases hb:gV P G N b with
    | mk fb =>
     rw [ha] at h1;rw [hb] at h2
     intro ih r T D H n
     simp only [gV,hc,ha,hb,CzC.f,J5,iQ,xA hc]
     cases ael T c with
     | bool q=>cases q with
      | true=>exact h1 ih r T D H n
      | false=>exact h2 ih r T D H n
     | _=>rfl
 | .block id c=>by
  have h1:=gW P G N c
  cases ha:gV P G N c with
  | mk fa =>
   rw [ha] at h1
   intro ih r T D H n
   have e1:=h1 ih r T D H n
   simp only [CzC.f] at e1
   simp only [gV,ha,CzC.f,Nc,iQ,e1]
   cases iQ P G ih r N c ⟨T,D,H,n⟩ with
   | none=>rfl
   | some p=>obtain ⟨e,s⟩:=p;cases e with
    | normal=>rfl
    | exit id'=>simp only [Nb];cases Nat.beq id' id <;> rfl
    | ret=>rfl
 | .loop c=>by
  have h1:=gW P G N c
  cases ha:gV P G N c with
  | mk fa =>
   rw [ha] at h1
   intro ih r T D H n
   have e1:=h1 ih r T D H n
   simp only [CzC.f] at e1
   simp only [gV,ha,CzC.f,Nf,iQ,e1]
   cases iQ P G ih r N c ⟨T,D,H,n⟩ with
   | none=>rfl
   | some p=>obtain ⟨e,s⟩:=p;cases e with
    | normal =>
     simp only [Nd]
     cases ih (.loop r N c s) with
     | none=>rfl
     | some q=>cases q <;> rfl
    | exit id'=>rfl
    | ret=>rfl
 | .rangeFunc g ps assign body=>λ _ _ _ _ _ _=>rfl
 | .exit id=>λ _ _ _ _ _ _=>rfl
 | .scope c=>by
  intro ih r T D H n
  simp only [gV,iQ]
  exact gW P G N c ih r T D H n
 | .goto l=>λ _ _ _ _ _ _=>rfl
 | .ret=>λ _ _ _ _ _ _=>rfl
 | .refuse x=>λ _ _ _ _ _ _=>rfl
def I1:List ResultVar -> Option CzA
 | []=>some (.mk λ _=>[])
 | x :: l=>match x with
  | .tmp t=>match uo (pth t) with
   | .mk f=>match I1 l with
    | some c=>match c with
     | .mk h=>some (.mk λ T=>f T :: h T)
    | none=>none
  | .cell _ _=>none
theorem F7 (P:Program) (H:AH) (T:Tr Value):∀ {l:List ResultVar} {h},I1 l=some (.mk h) -> oa P T H l=some (h T)
 | [],h,e=>by simp only [I1,Option.some.injEq,CzA.mk.injEq] at e;subst e;rfl
 | .cell _ _ :: l,h,e=>by simp [I1] at e
 | .tmp t :: l,h,e=>by
  simp only [I1] at e
  cases hf:uo (pth t) with
  | mk f =>
   rw [hf] at e
   simp only at e
   cases hl:I1 l with
   | none=>rw [hl] at e;simp at e
   | some c=>cases c with
    | mk h' =>
     rw [hl] at e
     simp only [Option.some.injEq,CzA.mk.injEq] at e
     subst e
     have:=pN (pth t) T
     rw [hf] at this
     simp only [CzV.f] at this
     simp only [oa,F7 P H T hl,this]
     rfl
def Lu (l:List Value):Nat -> Tr Value -> Tr Value:=List.rec (motive:=λ _=>Nat -> Tr Value -> Tr Value) (λ _ t=>t) (λ x _ ih i t=>eF x λ x=>ih (i+1) (dK undef x (pth i) t)) l
theorem AG:∀ (l:List Value) (i:Nat) (t:Tr Value),Lu l i t=dD undef l i t
 | [],i,t=>rfl
 | x :: l,i,t=>by
  have:=AG l (i+1) (dK undef x (pth i) t)
  show (eF x λ x=>Lu l (i+1) (dK undef x (pth i) t))=_
  rw [cC,this,dD]
  have e:Tr.set undef x t i=dK undef x (pth i) t:=rfl
  rw [e]
  cases dK undef x (pth i) t <;> rfl
def Nh (h:List Value):Value:=match h with
 | []=>.tuple ⟨[]⟩
 | v :: l=>match l with
  | []=>v
  | w :: l=>.tuple ⟨v :: w :: l⟩
theorem I2 (h:List Value):Nh h=wp h:=by
 cases h with
 | nil=>rfl
 | cons v l=>cases l <;> rfl
def Ni (P:Program) (fn:Func) (ih:Ih) (s:St):Option Rs:=match j0 P ih s.D s.H s.n with
 | some (H,n)=>match oa P s.T H fn.results.toList with
  | some vs=>some (.fn (wp vs) H n)
  | none=>none
 | none=>none
def O0 (P:Program) (fn:Func) (h:Tr Value -> List Value) (ih:Ih) (s:St):Option Rs:=match s with
 | ⟨T,D,H,n⟩=>match D with
  | []=>some (.fn (Nh (h T)) H n)
  | d :: D=>Ni P fn ih ⟨T,d :: D,H,n⟩
def fnR (x:Option (Ex × St)) (y:St -> Option Rs):Option Rs:=match x with
 | some p=>match p with
  | (e,s)=>match e with
   | .exit _=>none
   | .normal=>y s
   | .ret=>y s
 | none=>none
def Oe (N:Nat) (k:Kc) (y:Ih -> St -> Option Rs) (ih:Ih) (args:List Value) (H:AH) (n:Nat):Option Rs:=match Nat.ble (fW args) N with
 | true=>fnR (k ih none (Lu args 0 .lf) [] H n) (y ih)
 | false=>none
def CQ (P:Program) (G:Nat) (f:FuncId):CzF:=match qH P f with
 | some (fn,c)=>match gV P G fn.ntmps c with
  | .mk k=>match I1 fn.results.toList with
   | some h=>match h with
    | .mk h=>.mk (Oe fn.ntmps k (O0 P fn h))
   | none=>.mk (Oe fn.ntmps k (Ni P fn))
 | none=>.mk λ _ _ _ _=>none
theorem Lv {P:Program} {fn:Func} {h} (e:I1 fn.results.toList=some (.mk h)) (ih:Ih) (s:St):O0 P fn h ih s=Ni P fn ih s:=by
 obtain ⟨T,D,H,n⟩:=s
 cases D with
 | cons d D=>rfl
 | nil=>simp only [O0,Ni,j0,F7 P H T e,I2]
theorem F8 {P:Program} {G:Nat} {fn:Func} {c:Code} {f:FuncId} (hb:qH P f=some (fn,c)) {k:Kc} (hk:Ng P G fn.ntmps c k) {y:Ih -> St -> Option Rs} (hy:∀ ih s,y ih s=Ni P fn ih s) (ih:Ih) (args:List Value) (H:AH) (n:Nat):Oe fn.ntmps k y ih args H n=gy P G ih (.fn f args H n):=by
 simp only [Oe,gy,hb]
 cases Nat.ble (fW args) fn.ntmps with
 | false=>rfl
 | true =>
  simp only [hk ih,AG]
  rw [show dD undef args 0 .lf=lV args from rfl]
  cases iQ P G ih none fn.ntmps c ⟨lV args,[],H,n⟩ with
  | none=>rfl
  | some p=>obtain ⟨e,s⟩:=p;cases e with
   | exit _=>rfl
   | normal=>exact hy ih s
   | ret=>exact hy ih s
theorem I3 (P:Program) (G:Nat) (f:FuncId) (ih:Ih) (args:List Value) (H:AH) (n:Nat):(CQ P G f).f ih args H n=gy P G ih (.fn f args H n):=by
 cases hb:qH P f with
 | none=>simp only [CQ,hb,CzF.f,gy]
 | some p =>
  obtain ⟨fn,c⟩:=p
  have h1:=gW P G fn.ntmps c
  cases hk:gV P G fn.ntmps c with
  | mk k =>
   rw [hk] at h1
   cases hr:I1 fn.results.toList with
   | none =>
    simp only [CQ,hb,hk,hr,CzF.f]
    exact F8 hb h1 (λ _ _=>rfl) ih args H n
   | some h=>cases h with
    | mk h =>
     simp only [CQ,hb,hk,hr,CzF.f]
     exact F8 hb h1 (λ ih s=>Lv hr ih s) ih args H n
def wT (P:Program) (G:Nat) (ih:Ih) (t:Task):Option Rs:=match t with
 | .loop r N c s=>match gV P G N (.loop c) with
  | .mk k=>match s with
   | ⟨T,D,H,n⟩=>match k ih r T D H n with
    | some p=>match p with
     | (e,s)=>some (.cd e s)
    | none=>none
 | .fn f args H n=>match CQ P G f with
  | .mk k=>k ih args H n
 | t=>gy P G ih t
theorem F9 (P:Program) (G:Nat) (ih:Ih) (t:Task):wT P G ih t=gy P G ih t:=by
 cases t with
 | loop r N c s =>
  obtain ⟨T,D,H,n⟩:=s
  have h1:=gW P G N (.loop c)
  cases hk:gV P G N (.loop c) with
  | mk k =>
   rw [hk] at h1
   have:=h1 ih r T D H n
   simp only [CzC.f] at this
   simp only [wT,hk,gy,this]
   cases iQ P G ih r N (.loop c) ⟨T,D,H,n⟩ with
   | none=>rfl
   | some p=>rfl
 | fn f args H n =>
  have:=I3 P G f ih args H n
  cases hk:CQ P G f with
  | mk k =>
   rw [hk] at this
   simp only [wT,hk]
   exact this
 | _=>rfl
def Ga (P:Program) (G:Nat) (k:Nat):Ih:=Nat.rec (motive:=λ _=>Ih) (λ _=>none) (λ _ ih t=>wT P G ih t) k
theorem AJ (P:Program) (G:Nat):∀ k,Ga P G k=Ft P G k
 | 0=>rfl
 | k+1=>by
  funext t
  show wT P G (Ga P G k) t=_
  rw [F9,AJ P G k]
  rfl
end
end Go.Proofs.YtobflkidpfkcaaaGreatDoor
