import Derived.Test.YtghjbimijeinfaaGreatDoorZ22
set_option maxHeartbeats 4000000
set_option maxRecDepth 100000
set_option linter.unusedSimpArgs false
set_option linter.unusedVariables false
namespace Go.Proofs.YtghjbimijeinfaaGreatDoor
open Go.RowKit
noncomputable section
inductive CzV where | mk (f:Tr Value -> Value)
inductive CzS where | mk (f:Value -> Tr Value -> Tr Value)
abbrev Ih:=Task -> Option Rs
inductive CzR where | mk (f:Ih -> Option Nat -> Tr Value -> List Deferred -> AH -> Nat -> Option St)
inductive CzC where | mk (f:Ih -> Option Nat -> Tr Value -> List Deferred -> AH -> Nat -> Option (Ex × St))
inductive CzF where | mk (f:Ih -> List Value -> AH -> Nat -> Option Rs)
inductive CzA where | mk (f:Tr Value -> List Value)
def CzV.f:CzV -> Tr Value -> Value | .mk f=>f
def CzS.f:CzS -> Value -> Tr Value -> Tr Value | .mk f=>f
def CzR.f:CzR -> Ih -> Option Nat -> Tr Value -> List Deferred -> AH -> Nat -> Option St | .mk f=>f
def CzC.f:CzC -> Ih -> Option Nat -> Tr Value -> List Deferred -> AH -> Nat -> Option (Ex × St) | .mk f=>f
def CzF.f:CzF -> Ih -> List Value -> AH -> Nat -> Option Rs | .mk f=>f
def CzA.f:CzA -> Tr Value -> List Value | .mk f=>f
def ep {α:Type} (v:Value) (x:Value -> α):α:=match v with
 | .bool b=>x (.bool b)
 | .int k n=>x (.int k n)
 | .float k b=>x (.float k b)
 | .complex k a b=>x (.complex k a b)
 | .string s=>x (.string s)
 | .pointer a=>x (.pointer a)
 | .slice a l c=>x (.slice a l c)
 | .map r=>x (.map r)
 | .chan r=>x (.chan r)
 | .func f a c=>x (.func f a c)
 | .nilFunc=>x .nilFunc
 | .iface t v=>x (.iface t v)
 | .nilIface=>x .nilIface
 | .agg c=>x (.agg c)
 | .tuple c=>x (.tuple c)
theorem cw {α:Type} (v:Value) (x:Value -> α):ep v x=x v:=by cases v <;> rfl
def yt {α:Type} (l:List Value):(List Value -> α) -> α:=List.rec (motive:=λ _=>(List Value -> α) -> α) (λ x=>x []) (λ v _ ih x=>ep v λ v=>ih λ l=>x (v :: l)) l
theorem sO {α:Type}:∀ (l:List Value) (x:List Value -> α),yt l x=x l
 | [],x=>rfl
 | v :: l,x=>by
  show ep v (λ v=>yt l λ l=>x (v :: l))=_
  rw [cw,sO l]
def tY:List Bool -> CzV
 | []=>.mk λ T=>Tr.rec (motive:=λ _=>Value) undef (λ v _ _ _ _=>v) T
 | b :: p=>match tY p with
  | .mk f=>match b with
   | true=>.mk λ T=>Tr.rec (motive:=λ _=>Value) undef (λ _ _ r _ _=>f r) T
   | false=>.mk λ T=>Tr.rec (motive:=λ _=>Value) undef (λ _ l _ _ _=>f l) T
theorem pp:∀ (p:List Bool) (T:Tr Value),(tY p).f T=fF undef p T
 | [],T=>by cases T <;> rfl
 | b :: p,T=>by
  have ih:=pp p
  cases h:tY p with
  | mk f =>
   rw [h] at ih
   cases b <;> simp only [tY,h,CzV.f] <;> cases T <;> first | rfl | exact ih _
def yu:List Bool -> CzS
 | []=>.mk λ x T=>Tr.rec (motive:=λ _=>Tr Value) (.nd x .lf .lf) (λ _ l r _ _=>.nd x l r) T
 | b :: p=>match yu p with
  | .mk f=>match b with
   | true=>.mk λ x T=>Tr.rec (motive:=λ _=>Tr Value) (.nd undef .lf (f x .lf)) (λ v l r _ _=>.nd v l (f x r)) T
   | false=>.mk λ x T=>Tr.rec (motive:=λ _=>Tr Value) (.nd undef (f x .lf) .lf) (λ v l r _ _=>.nd v (f x l) r) T
theorem zT (x:Value):∀ (p:List Bool) (T:Tr Value),(yu p).f x T=dE undef x p T
 | [],T=>by cases T <;> rfl
 | b :: p,T=>by
  have ih:=zT x p
  cases h:yu p with
  | mk f =>
   rw [h] at ih
   simp only [CzS.f] at ih
   cases b <;> simp only [yu,h,CzS.f] <;> cases T <;> simp only [ih] <;> rfl
def cv:Operand -> CzV
 | .tmp t=>tY (pth t)
 | .const v=>.mk λ _=>v
 | .global g=>.mk λ _=>.pointer (some ⟨g,0,none⟩)
 | .func f=>.mk λ _=>.func (.func f) #[] #[]
theorem Jn (x:Operand) (T:Tr Value):(cv x).f T=ael T x:=by
 cases x with
 | tmp t=>exact pp _ _
 | const v=>rfl
 | global g=>rfl
 | func f=>rfl
def ca:List Operand -> CzA
 | []=>.mk λ _=>[]
 | x :: l=>match cv x,ca l with
  | .mk f,.mk g=>.mk λ T=>f T :: g T
theorem Jo:∀ (l:List Operand) (T:Tr Value),(ca l).f T=md T l
 | [],T=>rfl
 | x :: l,T=>by
  have h1:=Jn x T
  have h2:=Jo l T
  cases hx:cv x with
  | mk f=>cases hl:ca l with
   | mk g =>
    rw [hx] at h1;rw [hl] at h2
    simp only [CzV.f] at h1;simp only [CzA.f] at h2
    simp only [ca,hx,hl,CzA.f,md,h1,h2]
inductive CzD where
 | no
 | ok (f:Value -> Tr Value -> Tr Value)
 | bad
def gQ (N:Nat):Option Tmp -> CzD
 | none=>.no
 | some d=>match Nat.blt d N with
  | true=>match yu (pth d) with
   | .mk f=>.ok f
  | false=>.bad
theorem zU {N:Nat} {d:Option Tmp} {f} (h:gQ N d=.ok f) (v:Value) (T:Tr Value):eV N d v T=some (f v T):=by
 cases d with
 | none=>simp [gQ] at h
 | some d =>
  simp only [gQ] at h
  cases hb:Nat.blt d N <;> rw [hb] at h
  ·simp at h
  ·cases hs:yu (pth d) with
   | mk g =>
    simp only [hs,CzD.ok.injEq] at h
    subst h
    have:=zT v (pth d) T
    rw [hs] at this
    simp only [CzS.f] at this
    simp only [eV,hb,this]
    rfl
theorem zV {N:Nat} {d:Option Tmp} (h:gQ N d=.no) (v:Value) (T:Tr Value):eV N d v T=some T:=by
 cases d with
 | none=>rfl
 | some d =>
  simp only [gQ] at h
  cases hb:Nat.blt d N <;> rw [hb] at h
  ·simp at h
  ·cases hs:yu (pth d) with
   | mk g=>simp [hs] at h
def cL (P:Program) (G N:Nat) (ops:Array Oper) (o:Oper) (k:Ih -> Option Nat -> Tr Value -> List Deferred -> AH -> Nat -> Option St) (ih:Ih) (r:Option Nat) (T:Tr Value) (D:List Deferred) (H:AH) (n:Nat):Option St:=match d8 ops o T with
 | none=>none
 | some false=>match eV N o.dst undef T with
  | some T=>k ih r T D H n
  | none=>none
 | some true=>match js P G ih r o T H n with
  | none=>none
  | some (.val v H n)=>ep v λ v=>match eV N o.dst v T with
   | some T=>k ih r T D H n
   | none=>none
  | some (.dfr d)=>match eV N o.dst undef T with
   | some T=>k ih r T (d :: D) H n
   | none=>none
def CzR.okL (P:Program) (G N:Nat) (ops:Array Oper) (l:List Oper) (k:Ih -> Option Nat -> Tr Value -> List Deferred -> AH -> Nat -> Option St):Prop:=∀ ih r T D H n,k ih r T D H n=lL P G ih r N ops l ⟨T,D,H,n⟩
theorem HV {P:Program} {G N:Nat} {ops:Array Oper} {l:List Oper} {k} (h:CzR.okL P G N ops l k) (o:Oper):CzR.okL P G N ops (o :: l) (cL P G N ops o k):=by
 intro ih r T D H n
 simp only [cL,lL]
 cases d8 ops o T with
 | none=>rfl
 | some b =>
  cases b with
  | false=>cases eV N o.dst undef T with
   | none=>rfl
   | some T'=>exact h _ _ _ _ _ _
  | true=>cases js P G ih r o T H n with
   | none=>rfl
   | some x=>cases x with
    | val v H' n'=>simp only [cw];cases hp:eV N o.dst v T with
     | none=>simp only [hp]
     | some T'=>simp only [hp];exact h _ _ _ _ _ _
    | dfr d=>cases hp:eV N o.dst undef T with
     | none=>simp only [hp]
     | some T'=>simp only [hp];exact h _ _ _ _ _ _
def m8 (N:Nat) (o:Oper) (k:Ih -> Option Nat -> Tr Value -> List Deferred -> AH -> Nat -> Option St) (ih:Ih) (r:Option Nat) (T:Tr Value) (D:List Deferred) (v:Value) (H:AH) (n:Nat):Option St:=match eV N o.dst v T with
 | some T=>k ih r T D H n
 | none=>none
theorem nT {P:Program} {G N:Nat} {ops:Array Oper} {o:Oper} {k} (hg:o.guard=none) (ho:my G o=true) (hc:qX P o.op=.pu) (ih:Ih) (r:Option Nat) (T:Tr Value) (D:List Deferred) (H:AH) (n:Nat) :
  cL P G N ops o k ih r T D H n=match gj P o T with
   | some v=>m8 N o k ih r T D v H n
   | none=>none:=by
 simp only [my] at ho
 cases hl:iw o.op with
 | none=>rw [hl] at ho;simp at ho
 | some l =>
  rw [hl] at ho
  simp only at ho
  simp only [cL,d8,hg,js,zK,hl,ho,hc]
  cases gj P o T with
  | none=>rfl
  | some v=>simp only [cw];rfl
theorem E6 {P:Program} {G N:Nat} {ops:Array Oper} {o:Oper} {k} (hg:o.guard=none) (ho:my G o=true) (hc:qX P o.op=.lo) (ih:Ih) (r:Option Nat) (T:Tr Value) (D:List Deferred) (H:AH) (n:Nat) :
  cL P G N ops o k ih r T D H n=match iU P o T H with
   | some v=>m8 N o k ih r T D v H n
   | none=>none:=by
 simp only [my] at ho
 cases hl:iw o.op with
 | none=>rw [hl] at ho;simp at ho
 | some l =>
  rw [hl] at ho
  simp only at ho
  simp only [cL,d8,hg,js,zK,hl,ho,hc]
  cases iU P o T H with
  | none=>rfl
  | some v=>simp only [cw];rfl
theorem Kz {P:Program} {G N:Nat} {ops:Array Oper} {o:Oper} {k} (hg:o.guard=none) (ho:my G o=true) (hc:qX P o.op=.nw) (ih:Ih) (r:Option Nat) (T:Tr Value) (D:List Deferred) (H:AH) (n:Nat) :
  cL P G N ops o k ih r T D H n=match ru P o T with
   | some (b,m)=>m8 N o k ih r T D (m.val n) (cH H n (some b)) (n+1)
   | none=>none:=by
 simp only [my] at ho
 cases hl:iw o.op with
 | none=>rw [hl] at ho;simp at ho
 | some l =>
  rw [hl] at ho
  simp only at ho
  simp only [cL,d8,hg,js,zK,hl,ho,hc]
  cases ru P o T with
  | none=>rfl
  | some v=>simp only [Kr,cw];rfl
theorem KA {P:Program} {G N:Nat} {ops:Array Oper} {o:Oper} {k} (hg:o.guard=none) (ho:my G o=true) (hc:qX P o.op=.ef) (ih:Ih) (r:Option Nat) (T:Tr Value) (D:List Deferred) (H:AH) (n:Nat) {v:Value} {H':AH} {n':Nat} (he:me P o T H n=some (.val v H' n')) :
  cL P G N ops o k ih r T D H n=m8 N o k ih r T D v H' n':=by
 simp only [my] at ho
 cases hl:iw o.op with
 | none=>rw [hl] at ho;simp at ho
 | some l =>
  rw [hl] at ho
  simp only at ho
  simp only [cL,d8,hg,js,zK,hl,ho,hc,he,cw]
  rfl
theorem zW {P:Program} {G N:Nat} {ops:Array Oper} {o:Oper} {k} (hg:o.guard=none) (ho:my G o=true) (hc:qX P o.op=.ef) (ih:Ih) (r:Option Nat) (T:Tr Value) (D:List Deferred) (H:AH) (n:Nat) {f:FuncId} {args:List Value} (he:me P o T H n=some (.ent f args)) :
  cL P G N ops o k ih r T D H n=match ih (.fn f args H n) with
   | some (.fn v H n)=>m8 N o k ih r T D v H n
   | _=>none:=by
 simp only [my] at ho
 cases hl:iw o.op with
 | none=>rw [hl] at ho;simp at ho
 | some l =>
  rw [hl] at ho
  simp only at ho
  simp only [cL,d8,hg,js,zK,hl,ho,hc,he]
  cases ih (.fn f args H n) with
  | none=>rfl
  | some x=>cases x <;> simp only [cw] <;> rfl
end
noncomputable section
abbrev Kt:=Ih -> Option Nat -> Tr Value -> List Deferred -> AH -> Nat -> Option St
def kN (k:IntKind):Nat:=IntKind.rec (motive:=λ _=>Nat) 0 1 2 3 4 5 6 7 k
def NM (a b:IntKind):Bool:=Nat.beq (kN a) (kN b)
theorem KB (a b:IntKind):NM a b=decide (a=b):=by cases a <;> cases b <;> rfl
def Lv (a b:Int):Bool:=match a,b with
 | .ofNat m,.ofNat n=>Nat.blt m n
 | .negSucc _,.ofNat _=>true
 | .ofNat _,.negSucc _=>false
 | .negSucc m,.negSucc n=>Nat.blt n m
theorem zX (m n:Nat):Nat.blt m n=decide (m < n):=by
 by_cases h:m < n
 ·simp [Nat.blt_eq,h]
 ·rw [decide_eq_false h]
  cases hb:Nat.blt m n
  ·rfl
  ·exact absurd (Eq.mp Nat.blt_eq hb) h
theorem E7 (a b:Int):Lv a b=decide (a < b):=by
 cases a with
 | ofNat m=>cases b with
  | ofNat n =>
   simp only [Lv,zX]
   exact decide_eq_decide.2 (Int.ofNat_lt).symm
  | negSucc n=>exact (decide_eq_false (show ¬ ((m:Int) < Int.negSucc n) by omega)).symm
 | negSucc m=>cases b with
  | ofNat n=>exact (decide_eq_true (show Int.negSucc m < (n:Int) by omega)).symm
  | negSucc n =>
   simp only [Lv,zX]
   exact decide_eq_decide.2 (by omega)
def KC (b:Bool):Bool:=match b with
 | true=>false
 | false=>true
theorem zY (b:Bool):KC b=!b:=by cases b <;> rfl
def Na (a b:Int):Bool:=KC (Lv b a)
theorem KD (a b:Int):Na a b=decide (a <= b):=by
 rw [Na,zY,E7]
 by_cases h:b < a
 ·rw [decide_eq_true h,decide_eq_false (by omega)];rfl
 ·rw [decide_eq_false h,decide_eq_true (by omega)];rfl
def Mj (a b:Int):Bool:=match a,b with
 | .ofNat m,.ofNat n=>Nat.beq m n
 | .negSucc m,.negSucc n=>Nat.beq m n
 | _,_=>false
theorem zZ (m n:Nat):Nat.beq m n=decide (m=n):=by
 by_cases h:m=n
 ·rw [decide_eq_true h];exact Eq.mpr Nat.beq_eq h
 ·rw [decide_eq_false h]
  cases hb:Nat.beq m n
  ·rfl
  ·exact absurd (Eq.mp Nat.beq_eq hb) h
theorem KE (a b:Int):Mj a b=(a == b):=by
 have e:(a == b)=decide (a=b):=rfl
 rw [e]
 cases a with
 | ofNat m=>cases b with
  | ofNat n =>
   simp only [Mj,zZ]
   exact decide_eq_decide.2 (Int.ofNat_inj (m:=m) (n:=n)).symm
  | negSucc n=>rfl
 | negSucc m=>cases b with
  | ofNat n=>rfl
  | negSucc n =>
   simp only [Mj,zZ]
   exact decide_eq_decide.2 (by simp)
def HW:BinOp -> Option (Int -> Int -> Bool)
 | .lss=>some λ a b=>Lv a b
 | .leq=>some λ a b=>Na a b
 | .gtr=>some λ a b=>Lv b a
 | .geq=>some λ a b=>Na b a
 | .eql=>some λ a b=>Mj a b
 | .neq=>some λ a b=>KC (Mj a b)
 | _=>none
theorem HX {op:BinOp} {q} (h:HW op=some q) (a b:Int):Em op a b=some (q a b):=by
 cases op <;> simp only [HW,Option.some.injEq,reduceCtorEq] at h <;> subst h <;> simp only [Em,E7,KD,KE,zY] <;> rfl
section
variable (P:Program) (G N:Nat) (ops:Array Oper) (o:Oper) (k:Kt) (g:Value -> Tr Value -> Tr Value)
def Nb (f:Tr Value -> Value) (ih:Ih) (r:Option Nat) (T:Tr Value) (D:List Deferred) (H:AH) (n:Nat):Option St:=ep (f T) λ v=>k ih r (g v T) D H n
def Ml (u:Value) (x y:Option St):Option St:=match u with
 | .bool b=>match b with
  | true=>x
  | false=>y
 | _=>none
def E8 (f fa fb:Tr Value -> Value) (ih:Ih) (r:Option Nat) (T:Tr Value) (D:List Deferred) (H:AH) (n:Nat):Option St:=Ml (f T) (ep (fa T) λ v=>k ih r (g v T) D H n) (ep (fb T) λ v=>k ih r (g v T) D H n)
def Mm (u:Value) (x y:Option St):Option St:=match u with
 | .pointer p=>match p with
  | some _=>x
  | none=>y
 | _=>y
def KF (f:Tr Value -> Value) (ih:Ih) (r:Option Nat) (T:Tr Value) (D:List Deferred) (H:AH) (n:Nat):Option St:=Mm (f T) (ep (f T) λ v=>k ih r (g v T) D H n) (cL P G N ops o k ih r T D H n)
def Mn (q:Int -> Int -> Bool) (u v:Value) (x:Bool -> Option St) (y:Option St):Option St:=match u with
 | .int ka a=>match v with
  | .int kb b=>match NM ka kb with
   | true=>match q a b with
    | true=>x true
    | false=>x false
   | false=>y
  | _=>y
 | _=>y
def KG (q:Int -> Int -> Bool) (f1 f2:Tr Value -> Value) (ih:Ih) (r:Option Nat) (T:Tr Value) (D:List Deferred) (H:AH) (n:Nat):Option St:=Mn q (f1 T) (f2 T) (λ b=>k ih r (g (.bool b) T) D H n) (cL P G N ops o k ih r T D H n)
def NN (c:Nat) (u:Value) (x:Value -> Option St):Option St:=match u with
 | .pointer p=>match p with
  | some a=>match a with
   | ⟨b,off,s⟩=>match c with
    | 0=>x (.pointer (some ⟨b,off,s⟩))
    | c+1=>x (.pointer (some ⟨b,off+(c+1),none⟩))
  | none=>none
 | _=>none
def KH (c:Nat) (f:Tr Value -> Value) (ih:Ih) (r:Option Nat) (T:Tr Value) (D:List Deferred) (H:AH) (n:Nat):Option St:=NN c (f T) λ v=>k ih r (g v T) D H n
def ldB (off:Nat) (s:Option Nat) (b:Option AB) (x:Value -> Option St):Option St:=match s with
 | none=>match b with
  | some c=>match c with
   | .cells n tr _ _ _=>match Nat.blt off n with
    | true=>ep (cJ tr off) x
    | false=>none
   | _=>none
  | none=>none
 | some _=>none
def ldR (H:AH) (u:Value) (x:Value -> Option St):Option St:=match u with
 | .pointer p=>match p with
  | some a=>match a with
   | ⟨b,off,s⟩=>ldB off s (br H b) x
  | none=>none
 | _=>none
def NO (f:Tr Value -> Value) (ih:Ih) (r:Option Nat) (T:Tr Value) (D:List Deferred) (H:AH) (n:Nat):Option St:=ldR H (f T) λ v=>k ih r (g v T) D H n
def laB (off c:Nat) (s:Option Nat) (b:Option AB) (x:Value -> Option St):Option St:=match s with
 | none=>match b with
  | some ab=>match ab with
   | .cells n tr _ _ _=>match Nat.ble (off+c) n with
    | true=>yt (gl tr off c) λ l=>x (.agg ⟨l⟩)
    | false=>none
   | _=>none
  | none=>none
 | some _=>none
def laR (c:Nat) (H:AH) (u:Value) (x:Value -> Option St):Option St:=match u with
 | .pointer p=>match p with
  | some a=>match a with
   | ⟨b,off,s⟩=>laB off c s (br H b) x
  | none=>none
 | _=>none
def NP (c:Nat) (f:Tr Value -> Value) (ih:Ih) (r:Option Nat) (T:Tr Value) (D:List Deferred) (H:AH) (n:Nat):Option St:=laR c H (f T) λ v=>k ih r (g v T) D H n
def alF (b:AB) (ih:Ih) (r:Option Nat) (T:Tr Value) (D:List Deferred) (H:AH) (n:Nat):Option St:=k ih r (g (.pointer (some ⟨n,0,none⟩)) T) D (cH H n (some b)) (n+1)
def ixR (c:Nat) (u i:Value) (x:Value -> Option St):Option St:=match u with
 | .slice p m _=>match p with
  | some a=>match i with
   | .int _ i=>match i with
    | .ofNat i=>match Nat.blt i m with
     | true=>match a with
      | ⟨b,off,s⟩=>match i * c with
       | 0=>x (.pointer (some ⟨b,off,s⟩))
       | j+1=>x (.pointer (some ⟨b,off+(j+1),none⟩))
     | false=>none
    | _=>none
   | _=>none
  | none=>none
 | _=>none
def NQ (c:Nat) (f1 f2:Tr Value -> Value) (ih:Ih) (r:Option Nat) (T:Tr Value) (D:List Deferred) (H:AH) (n:Nat):Option St:=ixR c (f1 T) (f2 T) λ v=>k ih r (g v T) D H n
def stB (off:Nat) (s:Option Nat) (v:Value) (b:Option AB) (x:AB -> Option St) (y:Option St):Option St:=match s with
 | none=>match b with
  | some c=>match c with
   | .cells n tr ty w ro=>match ro with
    | false=>match Nat.blt off n with
     | true=>x (.cells n (rq tr off v) ty w false)
     | false=>y
    | true=>y
   | _=>y
  | none=>y
 | some _=>y
def z0 (v:Value):Bool:=match v with
 | .agg _=>false
 | .tuple _=>false
 | _=>true
def stR (H:AH) (u v:Value) (x:Nat -> AB -> Option St) (y:Option St):Option St:=match z0 v with
 | true=>match u with
  | .pointer p=>match p with
   | some a=>match a with
    | ⟨b,off,s⟩=>ep v λ v=>stB off s v (br H b) (x b) y
   | none=>y
  | _=>y
 | false=>y
def NR (f1 f2:Tr Value -> Value) (ih:Ih) (r:Option Nat) (T:Tr Value) (D:List Deferred) (H:AH) (n:Nat):Option St:=stR H (f1 T) (f2 T) (λ b ab=>k ih r T D (cH H b (some ab)) n) (cL P G N ops o k ih r T D H n)
def Nc (x:Option Rs) (y:Value -> AH -> Nat -> Option St):Option St:=match x with
 | some x=>match x with
  | .fn v H n=>ep v λ v=>y v H n
  | .cd _ _=>none
 | none=>none
def NS (f:FuncId) (as:Tr Value -> List Value) (ih:Ih) (r:Option Nat) (T:Tr Value) (D:List Deferred) (H:AH) (n:Nat):Option St:=Nc (ih (.fn f (as T) H n)) λ v H n=>k ih r (g v T) D H n
def NT (f:FuncId) (as:Tr Value -> List Value) (ih:Ih) (r:Option Nat) (T:Tr Value) (D:List Deferred) (H:AH) (n:Nat):Option St:=Nc (ih (.fn f (as T) H n)) λ v H n=>k ih r T D H n
end
section
variable {P:Program} {G N:Nat} {ops:Array Oper} {o:Oper} {k:Kt} {g:Value -> Tr Value -> Tr Value}
theorem fj (hd:gQ N o.dst=.ok g) (ih:Ih) (r:Option Nat) (T:Tr Value) (D:List Deferred) (v:Value) (H:AH) (n:Nat):m8 N o k ih r T D v H n=k ih r (g v T) D H n:=by
 rw [m8,zU hd]
theorem z6 (hd:gQ N o.dst=.no) (ih:Ih) (r:Option Nat) (T:Tr Value) (D:List Deferred) (v:Value) (H:AH) (n:Nat):m8 N o k ih r T D v H n=k ih r T D H n:=by
 rw [m8,zV hd]
theorem Jp (hg:o.guard=none) (ho:my G o=true) (hd:gQ N o.dst=.ok g) {x:Operand} (hx:o.op=.move x \/ o.op=.assign x) {f} (hf:∀ T,f T=ael T x) (ih r T D H n):Nb k g f ih r T D H n=cL P G N ops o k ih r T D H n:=by
 have hc:qX P o.op=.pu:=by cases hx with | inl h=>rw [h];rfl | inr h=>rw [h];rfl
 have hp:gj P o T=some (ael T x):=by unfold gj;cases hx with | inl h=>rw [h] | inr h=>rw [h]
 rw [nT hg ho hc,hp,Nb,hf,cw]
 exact (fj hd ..).symm
theorem HY (hg:o.guard=none) (ho:my G o=true) (hd:gQ N o.dst=.ok g) {c a b:Operand} (hx:o.op=.pick c a b) {f fa fb} (hf:∀ T,f T=ael T c) (hfa:∀ T,fa T=ael T a) (hfb:∀ T,fb T=ael T b) (ih r T D H n):E8 k g f fa fb ih r T D H n=cL P G N ops o k ih r T D H n:=by
 rw [nT hg ho (by rw [hx];rfl)]
 unfold gj
 rw [hx]
 simp only [E8,hf,hfa,hfb,cw]
 cases ael T c with
 | bool q=>cases q <;> exact (fj hd ..).symm
 | _=>rfl
theorem KJ (hg:o.guard=none) (ho:my G o=true) (hd:gQ N o.dst=.ok g) {x:Operand} (hx:o.op=.nilCheck x) {f} (hf:∀ T,f T=ael T x) (ih r T D H n):KF P G N ops o k g f ih r T D H n=cL P G N ops o k ih r T D H n:=by
 simp only [KF,hf]
 cases he:ael T x with
 | pointer p=>cases p with
  | none=>rfl
  | some a =>
   rw [nT hg ho (by rw [hx];rfl)]
   unfold gj
   rw [hx]
   simp only [he,Mm,cw]
   exact (fj hd ..).symm
 | _=>rfl
theorem KL (hg:o.guard=none) (ho:my G o=true) (hd:gQ N o.dst=.ok g) {op t x y z} (hx:o.op=.binOp op t x y z) {q} (hq:HW op=some q) {f1 f2} (hf1:∀ T,f1 T=ael T x) (hf2:∀ T,f2 T=ael T y) (ih r T D H n):KG P G N ops o k g q f1 f2 ih r T D H n=cL P G N ops o k ih r T D H n:=by
 simp only [KG,hf1,hf2]
 cases he:ael T x with
 | int ka a=>cases he2:ael T y with
  | int kb b =>
   simp only [Mn]
   cases hk:NM ka kb with
   | false=>rfl
   | true =>
    rw [nT hg ho (by rw [hx];rfl)]
    unfold gj
    rw [hx]
    rw [KB] at hk
    simp only [he,he2,HX hq,hk]
    cases q a b <;> exact (fj hd ..).symm
  | _=>rfl
 | _=>rfl
theorem KM (hg:o.guard=none) (ho:my G o=true) (hd:gQ N o.dst=.ok g) {t x j} (hx:o.op=.fieldAddr t x j) {c ft} (hc:vO P t j=some (c,ft)) {f} (hf:∀ T,f T=ael T x) (ih r T D H n):KH k g c f ih r T D H n=cL P G N ops o k ih r T D H n:=by
 rw [nT hg ho (by rw [hx];rfl)]
 unfold gj
 rw [hx]
 simp only [KH,hf,hc]
 cases he:ael T x with
 | pointer p=>cases p with
  | none=>rfl
  | some a=>cases a with
   | mk b off s=>cases c with
    | zero=>exact (fj hd ..).symm
    | succ c=>exact (fj hd ..).symm
 | _=>rfl
theorem Mo (hg:o.guard=none) (ho:my G o=true) (hd:gQ N o.dst=.ok g) {t x} (hx:o.op=.load t x) (hc:vN P t=true) {f} (hf:∀ T,f T=ael T x) (ih r T D H n):NO k g f ih r T D H n=cL P G N ops o k ih r T D H n:=by
 rw [E6 hg ho (by rw [hx];rfl)]
 unfold iU
 rw [hx]
 simp only [NO,hf]
 cases he:ael T x with
 | pointer p=>cases p with
  | none=>rfl
  | some a=>cases a with
   | mk b off s =>
    cases s with
    | some s=>rfl
    | none =>
     simp only [ldR,sn]
     cases br H b with
     | none=>rfl
     | some c=>cases c with
      | cells nn tr ty w ro =>
       simp only [ldB,hc]
       cases Nat.blt off nn
       ·rfl
       ·simp only [cw];exact (fj hd ..).symm
      | _=>rfl
 | _=>rfl
theorem Mp (hg:o.guard=none) (ho:my G o=true) (hd:gQ N o.dst=.ok g) {t x} (hx:o.op=.load t x) (hc:vN P t=false) {c} (ha:xW P t=some c) {f} (hf:∀ T,f T=ael T x) (ih r T D H n):NP k g c f ih r T D H n=cL P G N ops o k ih r T D H n:=by
 rw [E6 hg ho (by rw [hx];rfl)]
 unfold iU
 rw [hx]
 simp only [NP,hf]
 cases he:ael T x with
 | pointer p=>cases p with
  | none=>rfl
  | some a=>cases a with
   | mk b off s =>
    cases s with
    | some s=>rfl
    | none =>
     simp only [laR,sn]
     cases br H b with
     | none=>rfl
     | some ab=>cases ab with
      | cells nn tr ty w ro =>
       simp only [laB,hc,ha]
       cases Nat.ble (off+c) nn
       ·rfl
       ·simp only [sO];exact (fj hd ..).symm
      | _=>rfl
 | _=>rfl
theorem Mq (hg:o.guard=none) (ho:my G o=true) (hd:gQ N o.dst=.ok g) {t} (hx:o.op=.alloc t) {z} (hz:j8 P t=some z) {b} (hb:i8 z t=b) (ih r T D H n):alF k g b ih r T D H n=cL P G N ops o k ih r T D H n:=by
 rw [Kz hg ho (by rw [hx];rfl)]
 unfold ru
 rw [hx]
 simp only [hz,hb]
 exact (fj hd ..).symm
theorem Mr (hg:o.guard=none) (ho:my G o=true) (hd:gQ N o.dst=.ok g) {t x i} (hx:o.op=.indexAddr t x i) {el c} (ht:P.underlying t=some (.slice el)) (hc:eK P el=some c) {f1 f2} (hf1:∀ T,f1 T=ael T x) (hf2:∀ T,f2 T=ael T i) (ih r T D H n):NQ k g c f1 f2 ih r T D H n=cL P G N ops o k ih r T D H n:=by
 rw [nT hg ho (by rw [hx];rfl)]
 unfold gj
 rw [hx]
 simp only [NQ,hf1,hf2,ht]
 cases he:ael T x with
 | slice p m cc=>cases p with
  | none=>rfl
  | some a=>cases a with
   | mk b off s=>cases he2:ael T i with
    | int ki i=>cases i with
     | ofNat i =>
      simp only [ixR,GD,hc]
      cases Nat.blt i m with
      | false=>rfl
      | true =>
       simp only [xY]
       cases i * c with
       | zero=>exact (fj hd ..).symm
       | succ j=>exact (fj hd ..).symm
     | negSucc i=>rfl
    | _=>rfl
 | _=>cases he2:ael T i <;> rfl
theorem Ms (hg:o.guard=none) (ho:my G o=true) (hd:gQ N o.dst=.no) {t x y} (hx:o.op=.store t x y) (ht:eK P t=some 1) {f1 f2} (hf1:∀ T,f1 T=ael T x) (hf2:∀ T,f2 T=ael T y) (ih r T D H n):NR P G N ops o k f1 f2 ih r T D H n=cL P G N ops o k ih r T D H n:=by
 simp only [NR,hf1,hf2]
 unfold stR
 cases hfl:z0 (ael T y) with
 | false=>rfl
 | true =>
  cases he:ael T x with
  | pointer p=>cases p with
   | none=>rfl
   | some a=>cases a with
    | mk b off s=>cases s with
     | some s=>simp only [cw];rfl
     | none =>
      simp only [cw]
      cases hb:br H b with
      | none=>rfl
      | some c=>cases c with
       | cells nn tr ty w ro=>cases ro with
        | true=>rfl
        | false =>
         simp only [stB]
         cases hlt:Nat.blt off nn with
         | false=>rfl
         | true =>
          have hcl:gz (ael T y)=[ael T y]:=by
           cases hv:ael T y <;> first | rfl | (rw [hv] at hfl;simp [z0] at hfl)
          have hff:jq [ael T y]=true:=by
           cases hv:ael T y <;> first | rfl | (rw [hv] at hfl;simp [z0] at hfl)
          have hle:Nat.ble (off+1) nn=true:=hlt
          have he':me P o T H n=some (.val undef (cH H b (some (.cells nn (rq tr off (ael T y)) ty w false))) n):=by
           unfold me
           rw [hx]
           simp only [he,tQ,ht,hcl,fT,nK,hb,hle,hff]
           rfl
          rw [KA hg ho (by rw [hx];rfl) ih r T D H n he']
          exact (z6 hd ..).symm
       | _=>rfl
  | _=>rfl
theorem E9 {f:FuncId} {c:Call} (hx:o.op=.call c) (hc:c.callee=.value (.func f)) (hb:qg P f=true) (T H n):me P o T H n=some (.ent f (md T c.args.toList)):=by
 unfold me
 rw [hx]
 simp only [hc,ael,pk,hb]
 simp
theorem Fa {f:FuncId} {c:Call} (hx:o.op=.call c) (hc:c.callee=.value (.func f)):qX P o.op=.ef:=by
 rw [hx]
 obtain ⟨ce,a,t⟩:=c
 simp only at hc
 subst hc
 rfl
theorem Mt (hg:o.guard=none) (ho:my G o=true) (hd:gQ N o.dst=.ok g) {f:FuncId} {c:Call} (hx:o.op=.call c) (hc:c.callee=.value (.func f)) (hb:qg P f=true) {as} (ha:∀ T,as T=md T c.args.toList) (ih r T D H n):NS k g f as ih r T D H n=cL P G N ops o k ih r T D H n:=by
 rw [zW hg ho (Fa hx hc) ih r T D H n (E9 hx hc hb T H n),NS,ha]
 cases ih (.fn f (md T c.args.toList) H n) with
 | none=>rfl
 | some x=>cases x with
  | cd _ _=>rfl
  | fn v H n=>simp only [Nc,cw];exact (fj hd ..).symm
theorem KN (hg:o.guard=none) (ho:my G o=true) (hd:gQ N o.dst=.no) {f:FuncId} {c:Call} (hx:o.op=.call c) (hc:c.callee=.value (.func f)) (hb:qg P f=true) {as} (ha:∀ T,as T=md T c.args.toList) (ih r T D H n):NT k f as ih r T D H n=cL P G N ops o k ih r T D H n:=by
 rw [zW hg ho (Fa hx hc) ih r T D H n (E9 hx hc hb T H n),NT,ha]
 cases ih (.fn f (md T c.args.toList) H n) with
 | none=>rfl
 | some x=>cases x with
  | cd _ _=>rfl
  | fn v H n=>simp only [Nc,cw];exact (z6 hd ..).symm
end
end
end Go.Proofs.YtghjbimijeinfaaGreatDoor
