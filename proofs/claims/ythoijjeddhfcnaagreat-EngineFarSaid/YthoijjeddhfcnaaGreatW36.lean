import Derived.Test.YthoijjeddhfcnaaGreatW28
set_option maxHeartbeats 4000000
set_option maxRecDepth 100000
set_option linter.unusedSimpArgs false
set_option linter.unusedVariables false
namespace Go.Proofs.YthoijjeddhfcnaaGreat
open Go.RowKit
noncomputable section
inductive CzV where | mk (f:Tr Value -> Value)
inductive CzS where | mk (f:Value -> Tr Value -> Tr Value)
abbrev Ih:=Task -> Option Rs
inductive CzR where | mk (f:Ih -> Option Nat -> Tr Value -> List Deferred -> AH -> Nat -> Option St)
inductive CzC where | mk (f:Ih -> Option Nat -> Tr Value -> List Deferred -> AH -> Nat -> Option (Ex × St))
inductive CzF where | mk (f:Ih -> List Value -> AH -> Nat -> Option Rs)
inductive CzA where | mk (f:Tr Value -> List Value)
def CzV.f:CzV -> Tr Value -> Value | .mk f=>f
def CzS.f:CzS -> Value -> Tr Value -> Tr Value | .mk f=>f
def CzR.f:CzR -> Ih -> Option Nat -> Tr Value -> List Deferred -> AH -> Nat -> Option St | .mk f=>f
def CzC.f:CzC -> Ih -> Option Nat -> Tr Value -> List Deferred -> AH -> Nat -> Option (Ex × St) | .mk f=>f
def CzF.f:CzF -> Ih -> List Value -> AH -> Nat -> Option Rs | .mk f=>f
def CzA.f:CzA -> Tr Value -> List Value | .mk f=>f
def forceVi {α:Type} (v:Value) (x:Value -> α):α:=match v with
  | .bool b=>x (.bool b)
  | .int k n=>x (.int k n)
  | .float k b=>x (.float k b)
  | .complex k a b=>x (.complex k a b)
  | .string s=>x (.string s)
  | .pointer a=>x (.pointer a)
  | .slice a l c=>x (.slice a l c)
  | .map r=>x (.map r)
  | .chan r=>x (.chan r)
  | .func f a c=>x (.func f a c)
  | .nilFunc=>x .nilFunc
  | .iface t v=>x (.iface t v)
  | .nilIface=>x .nilIface
  | .agg c=>x (.agg c)
  | .tuple c=>x (.tuple c)
theorem forceV_eq {α:Type} (v:Value) (x:Value -> α):forceVi v x=x v:=by cases v <;> rfl
def forceL {α:Type} (l:List Value):(List Value -> α) -> α:=List.rec (motive:=λ _=>(List Value -> α) -> α) (λ x=>x []) (λ v _ ih x=>forceVi v λ v=>ih λ l=>x (v :: l)) l
theorem forceL_eq {α:Type}:∀ (l:List Value) (x:List Value -> α),forceL l x=x l
  | [],x=>rfl
  | v :: l,x=>by
    show forceVi v (λ v=>forceL l λ l=>x (v :: l))=_
    rw [forceV_eq,forceL_eq l]
def getK:List Bool -> CzV
  | []=>.mk λ T=>Tr.rec (motive:=λ _=>Value) undef (λ v _ _ _ _=>v) T
  | b :: p=>match getK p with
    | .mk f=>match b with
      | true=>.mk λ T=>Tr.rec (motive:=λ _=>Value) undef (λ _ _ r _ _=>f r) T
      | false=>.mk λ T=>Tr.rec (motive:=λ _=>Value) undef (λ _ l _ _ _=>f l) T
theorem getK_eq:∀ (p:List Bool) (T:Tr Value),(getK p).f T=Tr.getP undef p T
  | [],T=>by cases T <;> rfl
  | b :: p,T=>by
    have ih:=getK_eq p
    cases h:getK p with
    | mk f =>
      rw [h] at ih
      cases b <;> simp only [getK,h,CzV.f] <;> cases T <;> first | rfl | exact ih _
def setK:List Bool -> CzS
  | []=>.mk λ x T=>Tr.rec (motive:=λ _=>Tr Value) (.nd x .lf .lf) (λ _ l r _ _=>.nd x l r) T
  | b :: p=>match setK p with
    | .mk f=>match b with
      | true=>.mk λ x T=>Tr.rec (motive:=λ _=>Tr Value) (.nd undef .lf (f x .lf)) (λ v l r _ _=>.nd v l (f x r)) T
      | false=>.mk λ x T=>Tr.rec (motive:=λ _=>Tr Value) (.nd undef (f x .lf) .lf) (λ v l r _ _=>.nd v (f x l) r) T
theorem setK_eq (x:Value):∀ (p:List Bool) (T:Tr Value),(setK p).f x T=Tr.setP undef x p T
  | [],T=>by cases T <;> rfl
  | b :: p,T=>by
    have ih:=setK_eq x p
    cases h:setK p with
    | mk f =>
      rw [h] at ih
      simp only [CzS.f] at ih
      cases b <;> simp only [setK,h,CzS.f] <;> cases T <;> simp only [ih] <;> rfl
def cv:Operand -> CzV
  | .tmp t=>getK (pth t)
  | .const v=>.mk λ _=>v
  | .global g=>.mk λ _=>.pointer (some ⟨g,0,none⟩)
  | .func f=>.mk λ _=>.func (.func f) #[] #[]
theorem cv_eq (x:Operand) (T:Tr Value):(cv x).f T=ael T x:=by
  cases x with
  | tmp t=>exact getK_eq _ _
  | const v=>rfl
  | global g=>rfl
  | func f=>rfl
def ca:List Operand -> CzA
  | []=>.mk λ _=>[]
  | x :: l=>match cv x,ca l with
    | .mk f,.mk g=>.mk λ T=>f T :: g T
theorem ca_eq:∀ (l:List Operand) (T:Tr Value),(ca l).f T=mapE T l
  | [],T=>rfl
  | x :: l,T=>by
    have h1:=cv_eq x T
    have h2:=ca_eq l T
    cases hx:cv x with
    | mk f=>cases hl:ca l with
      | mk g =>
        rw [hx] at h1;rw [hl] at h2
        simp only [CzV.f] at h1;simp only [CzA.f] at h2
        simp only [ca,hx,hl,CzA.f,mapE,h1,h2]
inductive CzD where
  | no
  | ok (f:Value -> Tr Value -> Tr Value)
  | bad
def dstK (N:Nat):Option Tmp -> CzD
  | none=>.no
  | some d=>match Nat.blt d N with
    | true=>match setK (pth d) with
      | .mk f=>.ok f
    | false=>.bad
theorem dstK_ok {N:Nat} {d:Option Tmp} {f} (h:dstK N d=.ok f) (v:Value) (T:Tr Value):putT N d v T=some (f v T):=by
  cases d with
  | none=>simp [dstK] at h
  | some d =>
    simp only [dstK] at h
    cases hb:Nat.blt d N <;> rw [hb] at h
    · simp at h
    · cases hs:setK (pth d) with
      | mk g =>
        simp only [hs,CzD.ok.injEq] at h
        subst h
        have:=setK_eq v (pth d) T
        rw [hs] at this
        simp only [CzS.f] at this
        simp only [putT,hb,this]
        rfl
theorem dstK_no {N:Nat} {d:Option Tmp} (h:dstK N d=.no) (v:Value) (T:Tr Value):putT N d v T=some T:=by
  cases d with
  | none=>rfl
  | some d =>
    simp only [dstK] at h
    cases hb:Nat.blt d N <;> rw [hb] at h
    · simp at h
    · cases hs:setK (pth d) with
      | mk g=>simp [hs] at h
def genF (P:Program) (G N:Nat) (ops:Array Oper) (o:Oper) (k:Ih -> Option Nat -> Tr Value -> List Deferred -> AH -> Nat -> Option St) (ih:Ih) (r:Option Nat) (T:Tr Value) (D:List Deferred) (H:AH) (n:Nat):Option St:=match wantA ops o T with
  | none=>none
  | some false=>match putT N o.dst undef T with
    | some T=>k ih r T D H n
    | none=>none
  | some true=>match stOp P G ih r o T H n with
    | none=>none
    | some (.val v H n)=>forceVi v λ v=>match putT N o.dst v T with
      | some T=>k ih r T D H n
      | none=>none
    | some (.dfr d)=>match putT N o.dst undef T with
      | some T=>k ih r T (d :: D) H n
      | none=>none
def CzR.okL (P:Program) (G N:Nat) (ops:Array Oper) (l:List Oper) (k:Ih -> Option Nat -> Tr Value -> List Deferred -> AH -> Nat -> Option St):Prop:=∀ ih r T D H n,k ih r T D H n=evOps P G ih r N ops l ⟨T,D,H,n⟩
theorem genF_eq {P:Program} {G N:Nat} {ops:Array Oper} {l:List Oper} {k} (h:CzR.okL P G N ops l k) (o:Oper):CzR.okL P G N ops (o :: l) (genF P G N ops o k):=by
  intro ih r T D H n
  simp only [genF,evOps]
  cases wantA ops o T with
  | none=>rfl
  | some b =>
    cases b with
    | false=>cases putT N o.dst undef T with
      | none=>rfl
      | some T'=>exact h _ _ _ _ _ _
    | true=>cases stOp P G ih r o T H n with
      | none=>rfl
      | some x=>cases x with
        | val v H' n'=>simp only [forceV_eq];cases hp:putT N o.dst v T with
          | none=>simp only [hp]
          | some T'=>simp only [hp];exact h _ _ _ _ _ _
        | dfr d=>cases hp:putT N o.dst undef T with
          | none=>simp only [hp]
          | some T'=>simp only [hp];exact h _ _ _ _ _ _
def contV (N:Nat) (o:Oper) (k:Ih -> Option Nat -> Tr Value -> List Deferred -> AH -> Nat -> Option St) (ih:Ih) (r:Option Nat) (T:Tr Value) (D:List Deferred) (v:Value) (H:AH) (n:Nat):Option St:=match putT N o.dst v T with
  | some T=>k ih r T D H n
  | none=>none
theorem gen_pu {P:Program} {G N:Nat} {ops:Array Oper} {o:Oper} {k} (hg:o.guard=none) (ho:okO G o=true) (hc:cls P o.op=.pu) (ih:Ih) (r:Option Nat) (T:Tr Value) (D:List Deferred) (H:AH) (n:Nat) :
    genF P G N ops o k ih r T D H n=match pureV P o T with
      | some v=>contV N o k ih r T D v H n
      | none=>none:=by
  simp only [okO] at ho
  cases hl:opsI o.op with
  | none=>rw [hl] at ho;simp at ho
  | some l =>
    rw [hl] at ho
    simp only at ho
    simp only [genF,wantA,hg,stOp,aop,hl,ho,hc]
    cases pureV P o T with
    | none=>rfl
    | some v=>simp only [forceV_eq];rfl
theorem gen_lo {P:Program} {G N:Nat} {ops:Array Oper} {o:Oper} {k} (hg:o.guard=none) (ho:okO G o=true) (hc:cls P o.op=.lo) (ih:Ih) (r:Option Nat) (T:Tr Value) (D:List Deferred) (H:AH) (n:Nat) :
    genF P G N ops o k ih r T D H n=match loadV P o T H with
      | some v=>contV N o k ih r T D v H n
      | none=>none:=by
  simp only [okO] at ho
  cases hl:opsI o.op with
  | none=>rw [hl] at ho;simp at ho
  | some l =>
    rw [hl] at ho
    simp only at ho
    simp only [genF,wantA,hg,stOp,aop,hl,ho,hc]
    cases loadV P o T H with
    | none=>rfl
    | some v=>simp only [forceV_eq];rfl
theorem gen_nw {P:Program} {G N:Nat} {ops:Array Oper} {o:Oper} {k} (hg:o.guard=none) (ho:okO G o=true) (hc:cls P o.op=.nw) (ih:Ih) (r:Option Nat) (T:Tr Value) (D:List Deferred) (H:AH) (n:Nat) :
    genF P G N ops o k ih r T D H n=match newV P o T with
      | some (b,m)=>contV N o k ih r T D (m.val n) (hset H n (some b)) (n+1)
      | none=>none:=by
  simp only [okO] at ho
  cases hl:opsI o.op with
  | none=>rw [hl] at ho;simp at ho
  | some l =>
    rw [hl] at ho
    simp only at ho
    simp only [genF,wantA,hg,stOp,aop,hl,ho,hc]
    cases newV P o T with
    | none=>rfl
    | some v=>simp only [newA,forceV_eq];rfl
theorem gen_ef {P:Program} {G N:Nat} {ops:Array Oper} {o:Oper} {k} (hg:o.guard=none) (ho:okO G o=true) (hc:cls P o.op=.ef) (ih:Ih) (r:Option Nat) (T:Tr Value) (D:List Deferred) (H:AH) (n:Nat) {v:Value} {H':AH} {n':Nat} (he:effV P o T H n=some (.val v H' n')) :
    genF P G N ops o k ih r T D H n=contV N o k ih r T D v H' n':=by
  simp only [okO] at ho
  cases hl:opsI o.op with
  | none=>rw [hl] at ho;simp at ho
  | some l =>
    rw [hl] at ho
    simp only at ho
    simp only [genF,wantA,hg,stOp,aop,hl,ho,hc,he,forceV_eq]
    rfl
theorem gen_ent {P:Program} {G N:Nat} {ops:Array Oper} {o:Oper} {k} (hg:o.guard=none) (ho:okO G o=true) (hc:cls P o.op=.ef) (ih:Ih) (r:Option Nat) (T:Tr Value) (D:List Deferred) (H:AH) (n:Nat) {f:FuncId} {args:List Value} (he:effV P o T H n=some (.ent f args)) :
    genF P G N ops o k ih r T D H n=match ih (.fn f args H n) with
      | some (.fn v H n)=>contV N o k ih r T D v H n
      | _=>none:=by
  simp only [okO] at ho
  cases hl:opsI o.op with
  | none=>rw [hl] at ho;simp at ho
  | some l =>
    rw [hl] at ho
    simp only at ho
    simp only [genF,wantA,hg,stOp,aop,hl,ho,hc,he]
    cases ih (.fn f args H n) with
    | none=>rfl
    | some x=>cases x <;> simp only [forceV_eq] <;> rfl
end
noncomputable section
abbrev Kt:=Ih -> Option Nat -> Tr Value -> List Deferred -> AH -> Nat -> Option St
def kN (k:IntKind):Nat:=IntKind.rec (motive:=λ _=>Nat) 0 1 2 3 4 5 6 7 k
def kEq (a b:IntKind):Bool:=Nat.beq (kN a) (kN b)
theorem kEq_eq (a b:IntKind):kEq a b=decide (a=b):=by cases a <;> cases b <;> rfl
def ltI (a b:Int):Bool:=match a,b with
  | .ofNat m,.ofNat n=>Nat.blt m n
  | .negSucc _,.ofNat _=>true
  | .ofNat _,.negSucc _=>false
  | .negSucc m,.negSucc n=>Nat.blt n m
theorem blt_dec (m n:Nat):Nat.blt m n=decide (m < n):=by
  by_cases h:m < n
  · simp [Nat.blt_eq,h]
  · rw [decide_eq_false h]
    cases hb:Nat.blt m n
    · rfl
    · exact absurd (Eq.mp Nat.blt_eq hb) h
theorem ltI_eq (a b:Int):ltI a b=decide (a < b):=by
  cases a with
  | ofNat m=>cases b with
    | ofNat n =>
      simp only [ltI,blt_dec]
      exact decide_eq_decide.2 (Int.ofNat_lt).symm
    | negSucc n=>exact (decide_eq_false (show ¬ ((m:Int) < Int.negSucc n) by omega)).symm
  | negSucc m=>cases b with
    | ofNat n=>exact (decide_eq_true (show Int.negSucc m < (n:Int) by omega)).symm
    | negSucc n =>
      simp only [ltI,blt_dec]
      exact decide_eq_decide.2 (by omega)
def notB (b:Bool):Bool:=match b with
  | true=>false
  | false=>true
theorem notB_eq (b:Bool):notB b=!b:=by cases b <;> rfl
def leI (a b:Int):Bool:=notB (ltI b a)
theorem leI_eq (a b:Int):leI a b=decide (a <= b):=by
  rw [leI,notB_eq,ltI_eq]
  by_cases h:b < a
  · rw [decide_eq_true h,decide_eq_false (by omega)];rfl
  · rw [decide_eq_false h,decide_eq_true (by omega)];rfl
def eqI (a b:Int):Bool:=match a,b with
  | .ofNat m,.ofNat n=>Nat.beq m n
  | .negSucc m,.negSucc n=>Nat.beq m n
  | _,_=>false
theorem beq_dec (m n:Nat):Nat.beq m n=decide (m=n):=by
  by_cases h:m=n
  · rw [decide_eq_true h];exact Eq.mpr Nat.beq_eq h
  · rw [decide_eq_false h]
    cases hb:Nat.beq m n
    · rfl
    · exact absurd (Eq.mp Nat.beq_eq hb) h
theorem eqI_eq (a b:Int):eqI a b=(a == b):=by
  have e:(a == b)=decide (a=b):=rfl
  rw [e]
  cases a with
  | ofNat m=>cases b with
    | ofNat n =>
      simp only [eqI,beq_dec]
      exact decide_eq_decide.2 (Int.ofNat_inj (m:=m) (n:=n)).symm
    | negSucc n=>rfl
  | negSucc m=>cases b with
    | ofNat n=>rfl
    | negSucc n =>
      simp only [eqI,beq_dec]
      exact decide_eq_decide.2 (by simp)
def cmpQ:BinOp -> Option (Int -> Int -> Bool)
  | .lss=>some λ a b=>ltI a b
  | .leq=>some λ a b=>leI a b
  | .gtr=>some λ a b=>ltI b a
  | .geq=>some λ a b=>leI b a
  | .eql=>some λ a b=>eqI a b
  | .neq=>some λ a b=>notB (eqI a b)
  | _=>none
theorem cmpQ_eq {op:BinOp} {q} (h:cmpQ op=some q) (a b:Int):cmpI op a b=some (q a b):=by
  cases op <;> simp only [cmpQ,Option.some.injEq,reduceCtorEq] at h <;> subst h <;> simp only [cmpI,ltI_eq,leI_eq,eqI_eq,notB_eq] <;> rfl
section
variable (P:Program) (G N:Nat) (ops:Array Oper) (o:Oper) (k:Kt) (g:Value -> Tr Value -> Tr Value)
def mvF (f:Tr Value -> Value) (ih:Ih) (r:Option Nat) (T:Tr Value) (D:List Deferred) (H:AH) (n:Nat):Option St:=forceVi (f T) λ v=>k ih r (g v T) D H n
def pickR (u:Value) (x y:Option St):Option St:=match u with
  | .bool b=>match b with
    | true=>x
    | false=>y
  | _=>none
def pickF (f fa fb:Tr Value -> Value) (ih:Ih) (r:Option Nat) (T:Tr Value) (D:List Deferred) (H:AH) (n:Nat):Option St:=pickR (f T) (forceVi (fa T) λ v=>k ih r (g v T) D H n) (forceVi (fb T) λ v=>k ih r (g v T) D H n)
def nilR (u:Value) (x y:Option St):Option St:=match u with
  | .pointer p=>match p with
    | some _=>x
    | none=>y
  | _=>y
def nilF (f:Tr Value -> Value) (ih:Ih) (r:Option Nat) (T:Tr Value) (D:List Deferred) (H:AH) (n:Nat):Option St:=nilR (f T) (forceVi (f T) λ v=>k ih r (g v T) D H n) (genF P G N ops o k ih r T D H n)
def cmpR (q:Int -> Int -> Bool) (u v:Value) (x:Bool -> Option St) (y:Option St):Option St:=match u with
  | .int ka a=>match v with
    | .int kb b=>match kEq ka kb with
      | true=>match q a b with
        | true=>x true
        | false=>x false
      | false=>y
    | _=>y
  | _=>y
def cmpF (q:Int -> Int -> Bool) (f1 f2:Tr Value -> Value) (ih:Ih) (r:Option Nat) (T:Tr Value) (D:List Deferred) (H:AH) (n:Nat):Option St:=cmpR q (f1 T) (f2 T) (λ b=>k ih r (g (.bool b) T) D H n) (genF P G N ops o k ih r T D H n)
def fldR (c:Nat) (u:Value) (x:Value -> Option St):Option St:=match u with
  | .pointer p=>match p with
    | some a=>match a with
      | ⟨b,off,s⟩=>match c with
        | 0=>x (.pointer (some ⟨b,off,s⟩))
        | c+1=>x (.pointer (some ⟨b,off+(c+1),none⟩))
    | none=>none
  | _=>none
def fldF (c:Nat) (f:Tr Value -> Value) (ih:Ih) (r:Option Nat) (T:Tr Value) (D:List Deferred) (H:AH) (n:Nat):Option St:=fldR c (f T) λ v=>k ih r (g v T) D H n
def ldB (off:Nat) (s:Option Nat) (b:Option AB) (x:Value -> Option St):Option St:=match s with
  | none=>match b with
    | some c=>match c with
      | .cells n tr _ _ _=>match Nat.blt off n with
        | true=>forceVi (tget tr off) x
        | false=>none
      | _=>none
    | none=>none
  | some _=>none
def ldR (H:AH) (u:Value) (x:Value -> Option St):Option St:=match u with
  | .pointer p=>match p with
    | some a=>match a with
      | ⟨b,off,s⟩=>ldB off s (hget H b) x
    | none=>none
  | _=>none
def ldF (f:Tr Value -> Value) (ih:Ih) (r:Option Nat) (T:Tr Value) (D:List Deferred) (H:AH) (n:Nat):Option St:=ldR H (f T) λ v=>k ih r (g v T) D H n
def laB (off c:Nat) (s:Option Nat) (b:Option AB) (x:Value -> Option St):Option St:=match s with
  | none=>match b with
    | some ab=>match ab with
      | .cells n tr _ _ _=>match Nat.ble (off+c) n with
        | true=>forceL (readN tr off c) λ l=>x (.agg ⟨l⟩)
        | false=>none
      | _=>none
    | none=>none
  | some _=>none
def laR (c:Nat) (H:AH) (u:Value) (x:Value -> Option St):Option St:=match u with
  | .pointer p=>match p with
    | some a=>match a with
      | ⟨b,off,s⟩=>laB off c s (hget H b) x
    | none=>none
  | _=>none
def laF (c:Nat) (f:Tr Value -> Value) (ih:Ih) (r:Option Nat) (T:Tr Value) (D:List Deferred) (H:AH) (n:Nat):Option St:=laR c H (f T) λ v=>k ih r (g v T) D H n
def alF (b:AB) (ih:Ih) (r:Option Nat) (T:Tr Value) (D:List Deferred) (H:AH) (n:Nat):Option St:=k ih r (g (.pointer (some ⟨n,0,none⟩)) T) D (hset H n (some b)) (n+1)
def ixR (c:Nat) (u i:Value) (x:Value -> Option St):Option St:=match u with
  | .slice p m _=>match p with
    | some a=>match i with
      | .int _ i=>match i with
        | .ofNat i=>match Nat.blt i m with
          | true=>match a with
            | ⟨b,off,s⟩=>match i * c with
              | 0=>x (.pointer (some ⟨b,off,s⟩))
              | j+1=>x (.pointer (some ⟨b,off+(j+1),none⟩))
          | false=>none
        | _=>none
      | _=>none
    | none=>none
  | _=>none
def ixF (c:Nat) (f1 f2:Tr Value -> Value) (ih:Ih) (r:Option Nat) (T:Tr Value) (D:List Deferred) (H:AH) (n:Nat):Option St:=ixR c (f1 T) (f2 T) λ v=>k ih r (g v T) D H n
def stB (off:Nat) (s:Option Nat) (v:Value) (b:Option AB) (x:AB -> Option St) (y:Option St):Option St:=match s with
  | none=>match b with
    | some c=>match c with
      | .cells n tr ty w ro=>match ro with
        | false=>match Nat.blt off n with
          | true=>x (.cells n (tset tr off v) ty w false)
          | false=>y
        | true=>y
      | _=>y
    | none=>y
  | some _=>y
def flat1 (v:Value):Bool:=match v with
  | .agg _=>false
  | .tuple _=>false
  | _=>true
def stR (H:AH) (u v:Value) (x:Nat -> AB -> Option St) (y:Option St):Option St:=match flat1 v with
  | true=>match u with
    | .pointer p=>match p with
      | some a=>match a with
        | ⟨b,off,s⟩=>forceVi v λ v=>stB off s v (hget H b) (x b) y
      | none=>y
    | _=>y
  | false=>y
def stF (f1 f2:Tr Value -> Value) (ih:Ih) (r:Option Nat) (T:Tr Value) (D:List Deferred) (H:AH) (n:Nat):Option St:=stR H (f1 T) (f2 T) (λ b ab=>k ih r T D (hset H b (some ab)) n) (genF P G N ops o k ih r T D H n)
def cxR (x:Option Rs) (y:Value -> AH -> Nat -> Option St):Option St:=match x with
  | some x=>match x with
    | .fn v H n=>forceVi v λ v=>y v H n
    | .cd _ _=>none
  | none=>none
def enF (f:FuncId) (as:Tr Value -> List Value) (ih:Ih) (r:Option Nat) (T:Tr Value) (D:List Deferred) (H:AH) (n:Nat):Option St:=cxR (ih (.fn f (as T) H n)) λ v H n=>k ih r (g v T) D H n
def enN (f:FuncId) (as:Tr Value -> List Value) (ih:Ih) (r:Option Nat) (T:Tr Value) (D:List Deferred) (H:AH) (n:Nat):Option St:=cxR (ih (.fn f (as T) H n)) λ v H n=>k ih r T D H n
end
section
variable {P:Program} {G N:Nat} {ops:Array Oper} {o:Oper} {k:Kt} {g:Value -> Tr Value -> Tr Value}
theorem cont_ok (hd:dstK N o.dst=.ok g) (ih:Ih) (r:Option Nat) (T:Tr Value) (D:List Deferred) (v:Value) (H:AH) (n:Nat):contV N o k ih r T D v H n=k ih r (g v T) D H n:=by
  rw [contV,dstK_ok hd]
theorem cont_no (hd:dstK N o.dst=.no) (ih:Ih) (r:Option Nat) (T:Tr Value) (D:List Deferred) (v:Value) (H:AH) (n:Nat):contV N o k ih r T D v H n=k ih r T D H n:=by
  rw [contV,dstK_no hd]
theorem mv_eq (hg:o.guard=none) (ho:okO G o=true) (hd:dstK N o.dst=.ok g) {x:Operand} (hx:o.op=.move x \/ o.op=.assign x) {f} (hf:∀ T,f T=ael T x) (ih r T D H n):mvF k g f ih r T D H n=genF P G N ops o k ih r T D H n:=by
  have hc:cls P o.op=.pu:=by cases hx with | inl h=>rw [h];rfl | inr h=>rw [h];rfl
  have hp:pureV P o T=some (ael T x):=by unfold pureV;cases hx with | inl h=>rw [h] | inr h=>rw [h]
  rw [gen_pu hg ho hc,hp,mvF,hf,forceV_eq]
  exact (cont_ok hd ..).symm
theorem pick_eq (hg:o.guard=none) (ho:okO G o=true) (hd:dstK N o.dst=.ok g) {c a b:Operand} (hx:o.op=.pick c a b) {f fa fb} (hf:∀ T,f T=ael T c) (hfa:∀ T,fa T=ael T a) (hfb:∀ T,fb T=ael T b) (ih r T D H n):pickF k g f fa fb ih r T D H n=genF P G N ops o k ih r T D H n:=by
  rw [gen_pu hg ho (by rw [hx];rfl)]
  unfold pureV
  rw [hx]
  simp only [pickF,hf,hfa,hfb,forceV_eq]
  cases ael T c with
  | bool q=>cases q <;> exact (cont_ok hd ..).symm
  | _=>rfl
theorem nil_eq (hg:o.guard=none) (ho:okO G o=true) (hd:dstK N o.dst=.ok g) {x:Operand} (hx:o.op=.nilCheck x) {f} (hf:∀ T,f T=ael T x) (ih r T D H n):nilF P G N ops o k g f ih r T D H n=genF P G N ops o k ih r T D H n:=by
  simp only [nilF,hf]
  cases he:ael T x with
  | pointer p=>cases p with
    | none=>rfl
    | some a =>
      rw [gen_pu hg ho (by rw [hx];rfl)]
      unfold pureV
      rw [hx]
      simp only [he,nilR,forceV_eq]
      exact (cont_ok hd ..).symm
  | _=>rfl
theorem cmp_eq (hg:o.guard=none) (ho:okO G o=true) (hd:dstK N o.dst=.ok g) {op t x y z} (hx:o.op=.binOp op t x y z) {q} (hq:cmpQ op=some q) {f1 f2} (hf1:∀ T,f1 T=ael T x) (hf2:∀ T,f2 T=ael T y) (ih r T D H n):cmpF P G N ops o k g q f1 f2 ih r T D H n=genF P G N ops o k ih r T D H n:=by
  simp only [cmpF,hf1,hf2]
  cases he:ael T x with
  | int ka a=>cases he2:ael T y with
    | int kb b =>
      simp only [cmpR]
      cases hk:kEq ka kb with
      | false=>rfl
      | true =>
        rw [gen_pu hg ho (by rw [hx];rfl)]
        unfold pureV
        rw [hx]
        rw [kEq_eq] at hk
        simp only [he,he2,cmpQ_eq hq,hk]
        cases q a b <;> exact (cont_ok hd ..).symm
    | _=>rfl
  | _=>rfl
theorem fld_eq (hg:o.guard=none) (ho:okO G o=true) (hd:dstK N o.dst=.ok g) {t x j} (hx:o.op=.fieldAddr t x j) {c ft} (hc:fldO P t j=some (c,ft)) {f} (hf:∀ T,f T=ael T x) (ih r T D H n):fldF k g c f ih r T D H n=genF P G N ops o k ih r T D H n:=by
  rw [gen_pu hg ho (by rw [hx];rfl)]
  unfold pureV
  rw [hx]
  simp only [fldF,hf,hc]
  cases he:ael T x with
  | pointer p=>cases p with
    | none=>rfl
    | some a=>cases a with
      | mk b off s=>cases c with
        | zero=>exact (cont_ok hd ..).symm
        | succ c=>exact (cont_ok hd ..).symm
  | _=>rfl
theorem ld_eq (hg:o.guard=none) (ho:okO G o=true) (hd:dstK N o.dst=.ok g) {t x} (hx:o.op=.load t x) (hc:oneC P t=true) {f} (hf:∀ T,f T=ael T x) (ih r T D H n):ldF k g f ih r T D H n=genF P G N ops o k ih r T D H n:=by
  rw [gen_lo hg ho (by rw [hx];rfl)]
  unfold loadV
  rw [hx]
  simp only [ldF,hf]
  cases he:ael T x with
  | pointer p=>cases p with
    | none=>rfl
    | some a=>cases a with
      | mk b off s =>
        cases s with
        | some s=>rfl
        | none =>
          simp only [ldR,loadA]
          cases hget H b with
          | none=>rfl
          | some c=>cases c with
            | cells nn tr ty w ro =>
              simp only [ldB,hc]
              cases Nat.blt off nn
              · rfl
              · simp only [forceV_eq];exact (cont_ok hd ..).symm
            | _=>rfl
  | _=>rfl
theorem la_eq (hg:o.guard=none) (ho:okO G o=true) (hd:dstK N o.dst=.ok g) {t x} (hx:o.op=.load t x) (hc:oneC P t=false) {c} (ha:aggC P t=some c) {f} (hf:∀ T,f T=ael T x) (ih r T D H n):laF k g c f ih r T D H n=genF P G N ops o k ih r T D H n:=by
  rw [gen_lo hg ho (by rw [hx];rfl)]
  unfold loadV
  rw [hx]
  simp only [laF,hf]
  cases he:ael T x with
  | pointer p=>cases p with
    | none=>rfl
    | some a=>cases a with
      | mk b off s =>
        cases s with
        | some s=>rfl
        | none =>
          simp only [laR,loadA]
          cases hget H b with
          | none=>rfl
          | some ab=>cases ab with
            | cells nn tr ty w ro =>
              simp only [laB,hc,ha]
              cases Nat.ble (off+c) nn
              · rfl
              · simp only [forceL_eq];exact (cont_ok hd ..).symm
            | _=>rfl
  | _=>rfl
theorem al_eq (hg:o.guard=none) (ho:okO G o=true) (hd:dstK N o.dst=.ok g) {t} (hx:o.op=.alloc t) {z} (hz:zeroT P t=some z) {b} (hb:cellsB z t=b) (ih r T D H n):alF k g b ih r T D H n=genF P G N ops o k ih r T D H n:=by
  rw [gen_nw hg ho (by rw [hx];rfl)]
  unfold newV
  rw [hx]
  simp only [hz,hb]
  exact (cont_ok hd ..).symm
theorem ix_eq (hg:o.guard=none) (ho:okO G o=true) (hd:dstK N o.dst=.ok g) {t x i} (hx:o.op=.indexAddr t x i) {el c} (ht:P.underlying t=some (.slice el)) (hc:sizeT P el=some c) {f1 f2} (hf1:∀ T,f1 T=ael T x) (hf2:∀ T,f2 T=ael T i) (ih r T D H n):ixF k g c f1 f2 ih r T D H n=genF P G N ops o k ih r T D H n:=by
  rw [gen_pu hg ho (by rw [hx];rfl)]
  unfold pureV
  rw [hx]
  simp only [ixF,hf1,hf2,ht]
  cases he:ael T x with
  | slice p m cc=>cases p with
    | none=>rfl
    | some a=>cases a with
      | mk b off s=>cases he2:ael T i with
        | int ki i=>cases i with
          | ofNat i =>
            simp only [ixR,asN,hc]
            cases Nat.blt i m with
            | false=>rfl
            | true =>
              simp only [addA]
              cases i * c with
              | zero=>exact (cont_ok hd ..).symm
              | succ j=>exact (cont_ok hd ..).symm
          | negSucc i=>rfl
        | _=>rfl
  | _=>cases he2:ael T i <;> rfl
theorem st_eq (hg:o.guard=none) (ho:okO G o=true) (hd:dstK N o.dst=.no) {t x y} (hx:o.op=.store t x y) (ht:sizeT P t=some 1) {f1 f2} (hf1:∀ T,f1 T=ael T x) (hf2:∀ T,f2 T=ael T y) (ih r T D H n):stF P G N ops o k f1 f2 ih r T D H n=genF P G N ops o k ih r T D H n:=by
  simp only [stF,hf1,hf2]
  unfold stR
  cases hfl:flat1 (ael T y) with
  | false=>rfl
  | true =>
    cases he:ael T x with
    | pointer p=>cases p with
      | none=>rfl
      | some a=>cases a with
        | mk b off s=>cases s with
          | some s=>simp only [forceV_eq];rfl
          | none =>
            simp only [forceV_eq]
            cases hb:hget H b with
            | none=>rfl
            | some c=>cases c with
              | cells nn tr ty w ro=>cases ro with
                | true=>rfl
                | false =>
                  simp only [stB]
                  cases hlt:Nat.blt off nn with
                  | false=>rfl
                  | true =>
                    have hcl:cellsL (ael T y)=[ael T y]:=by
                      cases hv:ael T y <;> first | rfl | (rw [hv] at hfl;simp [flat1] at hfl)
                    have hff:flatL [ael T y]=true:=by
                      cases hv:ael T y <;> first | rfl | (rw [hv] at hfl;simp [flat1] at hfl)
                    have hle:Nat.ble (off+1) nn=true:=hlt
                    have he':effV P o T H n=some (.val undef (hset H b (some (.cells nn (tset tr off (ael T y)) ty w false))) n):=by
                      unfold effV
                      rw [hx]
                      simp only [he,storeA,ht,hcl,lenL,putSeg,hb,hle,hff]
                      rfl
                    rw [gen_ef hg ho (by rw [hx];rfl) ih r T D H n he']
                    exact (cont_no hd ..).symm
              | _=>rfl
    | _=>rfl
theorem en_eff {f:FuncId} {c:Call} (hx:o.op=.call c) (hc:c.callee=.value (.func f)) (hb:hasB P f=true) (T H n):effV P o T H n=some (.ent f (mapE T c.args.toList)):=by
  unfold effV
  rw [hx]
  simp only [hc,ael,calleeA,hb]
  simp
theorem en_cls {f:FuncId} {c:Call} (hx:o.op=.call c) (hc:c.callee=.value (.func f)):cls P o.op=.ef:=by
  rw [hx]
  obtain ⟨ce,a,t⟩:=c
  simp only at hc
  subst hc
  rfl
theorem en_eq (hg:o.guard=none) (ho:okO G o=true) (hd:dstK N o.dst=.ok g) {f:FuncId} {c:Call} (hx:o.op=.call c) (hc:c.callee=.value (.func f)) (hb:hasB P f=true) {as} (ha:∀ T,as T=mapE T c.args.toList) (ih r T D H n):enF k g f as ih r T D H n=genF P G N ops o k ih r T D H n:=by
  rw [gen_ent hg ho (en_cls hx hc) ih r T D H n (en_eff hx hc hb T H n),enF,ha]
  cases ih (.fn f (mapE T c.args.toList) H n) with
  | none=>rfl
  | some x=>cases x with
    | cd _ _=>rfl
    | fn v H n=>simp only [cxR,forceV_eq];exact (cont_ok hd ..).symm
theorem en_neq (hg:o.guard=none) (ho:okO G o=true) (hd:dstK N o.dst=.no) {f:FuncId} {c:Call} (hx:o.op=.call c) (hc:c.callee=.value (.func f)) (hb:hasB P f=true) {as} (ha:∀ T,as T=mapE T c.args.toList) (ih r T D H n):enN k f as ih r T D H n=genF P G N ops o k ih r T D H n:=by
  rw [gen_ent hg ho (en_cls hx hc) ih r T D H n (en_eff hx hc hb T H n),enN,ha]
  cases ih (.fn f (mapE T c.args.toList) H n) with
  | none=>rfl
  | some x=>cases x with
    | cd _ _=>rfl
    | fn v H n=>simp only [cxR,forceV_eq];exact (cont_no hd ..).symm
end
end
end Go.Proofs.YthoijjeddhfcnaaGreat
