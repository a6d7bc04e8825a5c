import Derived.Test.YtgdcbiiopbpgaaaGreatDoorY26
set_option maxHeartbeats 4000000
set_option maxRecDepth 100000
set_option linter.unusedSimpArgs false
set_option linter.unusedVariables false
namespace Go.Proofs.YtgdcbiiopbpgaaaGreatDoor
open Go.RowKit
noncomputable section
inductive CzV where | mk (f:Tr Value -> Value)
inductive CzS where | mk (f:Value -> Tr Value -> Tr Value)
abbrev Ih:=Task -> Option Rs
inductive CzR where | mk (f:Ih -> Option Nat -> Tr Value -> List Deferred -> AH -> Nat -> Option St)
inductive CzC where | mk (f:Ih -> Option Nat -> Tr Value -> List Deferred -> AH -> Nat -> Option (Ex × St))
inductive CzF where | mk (f:Ih -> List Value -> AH -> Nat -> Option Rs)
inductive CzA where | mk (f:Tr Value -> List Value)
def CzV.f:CzV -> Tr Value -> Value | .mk f=>f
def CzS.f:CzS -> Value -> Tr Value -> Tr Value | .mk f=>f
def CzR.f:CzR -> Ih -> Option Nat -> Tr Value -> List Deferred -> AH -> Nat -> Option St | .mk f=>f
def CzC.f:CzC -> Ih -> Option Nat -> Tr Value -> List Deferred -> AH -> Nat -> Option (Ex × St) | .mk f=>f
def CzF.f:CzF -> Ih -> List Value -> AH -> Nat -> Option Rs | .mk f=>f
def CzA.f:CzA -> Tr Value -> List Value | .mk f=>f
def eF {α:Type} (v:Value) (x:Value -> α):α:=match v with
 | .bool b=>x (.bool b)
 | .int k n=>x (.int k n)
 | .float k b=>x (.float k b)
 | .complex k a b=>x (.complex k a b)
 | .string s=>x (.string s)
 | .pointer a=>x (.pointer a)
 | .slice a l c=>x (.slice a l c)
 | .map r=>x (.map r)
 | .chan r=>x (.chan r)
 | .func f a c=>x (.func f a c)
 | .nilFunc=>x .nilFunc
 | .iface t v=>x (.iface t v)
 | .nilIface=>x .nilIface
 | .agg c=>x (.agg c)
 | .tuple c=>x (.tuple c)
theorem cz {α:Type} (v:Value) (x:Value -> α):eF v x=x v:=by cases v <;> rfl
def yS {α:Type} (l:List Value):(List Value -> α) -> α:=List.rec (motive:=λ _=>(List Value -> α) -> α) (λ x=>x []) (λ v _ ih x=>eF v λ v=>ih λ l=>x (v :: l)) l
theorem tg {α:Type}:∀ (l:List Value) (x:List Value -> α),yS l x=x l
 | [],x=>rfl
 | v :: l,x=>by
  show eF v (λ v=>yS l λ l=>x (v :: l))=_
  rw [cz,tg l]
def ut:List Bool -> CzV
 | []=>.mk λ T=>Tr.rec (motive:=λ _=>Value) undef (λ v _ _ _ _=>v) T
 | b :: p=>match ut p with
  | .mk f=>match b with
   | true=>.mk λ T=>Tr.rec (motive:=λ _=>Value) undef (λ _ _ r _ _=>f r) T
   | false=>.mk λ T=>Tr.rec (motive:=λ _=>Value) undef (λ _ l _ _ _=>f l) T
theorem pP:∀ (p:List Bool) (T:Tr Value),(ut p).f T=fK undef p T
 | [],T=>by cases T <;> rfl
 | b :: p,T=>by
  have ih:=pP p
  cases h:ut p with
  | mk f =>
   rw [h] at ih
   cases b <;> simp only [ut,h,CzV.f] <;> cases T <;> first | rfl | exact ih _
def yT:List Bool -> CzS
 | []=>.mk λ x T=>Tr.rec (motive:=λ _=>Tr Value) (.nd x .lf .lf) (λ _ l r _ _=>.nd x l r) T
 | b :: p=>match yT p with
  | .mk f=>match b with
   | true=>.mk λ x T=>Tr.rec (motive:=λ _=>Tr Value) (.nd undef .lf (f x .lf)) (λ v l r _ _=>.nd v l (f x r)) T
   | false=>.mk λ x T=>Tr.rec (motive:=λ _=>Tr Value) (.nd undef (f x .lf) .lf) (λ v l r _ _=>.nd v (f x l) r) T
theorem Ai (x:Value):∀ (p:List Bool) (T:Tr Value),(yT p).f x T=dH undef x p T
 | [],T=>by cases T <;> rfl
 | b :: p,T=>by
  have ih:=Ai x p
  cases h:yT p with
  | mk f =>
   rw [h] at ih
   simp only [CzS.f] at ih
   cases b <;> simp only [yT,h,CzS.f] <;> cases T <;> simp only [ih] <;> rfl
def cv:Operand -> CzV
 | .tmp t=>ut (pth t)
 | .const v=>.mk λ _=>v
 | .global g=>.mk λ _=>.pointer (some ⟨g,0,none⟩)
 | .func f=>.mk λ _=>.func (.func f) #[] #[]
theorem JO (x:Operand) (T:Tr Value):(cv x).f T=ael T x:=by
 cases x with
 | tmp t=>exact pP _ _
 | const v=>rfl
 | global g=>rfl
 | func f=>rfl
def ca:List Operand -> CzA
 | []=>.mk λ _=>[]
 | x :: l=>match cv x,ca l with
  | .mk f,.mk g=>.mk λ T=>f T :: g T
theorem JP:∀ (l:List Operand) (T:Tr Value),(ca l).f T=mA T l
 | [],T=>rfl
 | x :: l,T=>by
  have h1:=JO x T
  have h2:=JP l T
  cases hx:cv x with
  | mk f=>cases hl:ca l with
   | mk g =>
    rw [hx] at h1;rw [hl] at h2
    simp only [CzV.f] at h1;simp only [CzA.f] at h2
    simp only [ca,hx,hl,CzA.f,mA,h1,h2]
inductive CzD where
 | no
 | ok (f:Value -> Tr Value -> Tr Value)
 | bad
def gW (N:Nat):Option Tmp -> CzD
 | none=>.no
 | some d=>match Nat.blt d N with
  | true=>match yT (pth d) with
   | .mk f=>.ok f
  | false=>.bad
theorem Aj {N:Nat} {d:Option Tmp} {f} (h:gW N d=.ok f) (v:Value) (T:Tr Value):eZ N d v T=some (f v T):=by
 cases d with
 | none=>simp [gW] at h
 | some d =>
  simp only [gW] at h
  cases hb:Nat.blt d N <;> rw [hb] at h
  ·simp at h
  ·cases hs:yT (pth d) with
   | mk g =>
    simp only [hs,CzD.ok.injEq] at h
    subst h
    have:=Ai v (pth d) T
    rw [hs] at this
    simp only [CzS.f] at this
    simp only [eZ,hb,this]
    rfl
theorem Ak {N:Nat} {d:Option Tmp} (h:gW N d=.no) (v:Value) (T:Tr Value):eZ N d v T=some T:=by
 cases d with
 | none=>rfl
 | some d =>
  simp only [gW] at h
  cases hb:Nat.blt d N <;> rw [hb] at h
  ·simp at h
  ·cases hs:yT (pth d) with
   | mk g=>simp [hs] at h
def cS (P:Program) (G N:Nat) (ops:Array Oper) (o:Oper) (k:Ih -> Option Nat -> Tr Value -> List Deferred -> AH -> Nat -> Option St) (ih:Ih) (r:Option Nat) (T:Tr Value) (D:List Deferred) (H:AH) (n:Nat):Option St:=match ez ops o T with
 | none=>none
 | some false=>match eZ N o.dst undef T with
  | some T=>k ih r T D H n
  | none=>none
 | some true=>match jH P G ih r o T H n with
  | none=>none
  | some (.val v H n)=>eF v λ v=>match eZ N o.dst v T with
   | some T=>k ih r T D H n
   | none=>none
  | some (.dfr d)=>match eZ N o.dst undef T with
   | some T=>k ih r T (d :: D) H n
   | none=>none
def CzR.okL (P:Program) (G N:Nat) (ops:Array Oper) (l:List Oper) (k:Ih -> Option Nat -> Tr Value -> List Deferred -> AH -> Nat -> Option St):Prop:=∀ ih r T D H n,k ih r T D H n=lZ P G ih r N ops l ⟨T,D,H,n⟩
theorem IH {P:Program} {G N:Nat} {ops:Array Oper} {l:List Oper} {k} (h:CzR.okL P G N ops l k) (o:Oper):CzR.okL P G N ops (o :: l) (cS P G N ops o k):=by
 intro ih r T D H n
 simp only [cS,lZ]
 cases ez ops o T with
 | none=>rfl
 | some b =>
  cases b with
  | false=>cases eZ N o.dst undef T with
   | none=>rfl
   | some T'=>exact h _ _ _ _ _ _
  | true=>cases jH P G ih r o T H n with
   | none=>rfl
   | some x=>cases x with
    | val v H' n'=>simp only [cz];cases hp:eZ N o.dst v T with
     | none=>simp only [hp]
     | some T'=>simp only [hp];exact h _ _ _ _ _ _
    | dfr d=>cases hp:eZ N o.dst undef T with
     | none=>simp only [hp]
     | some T'=>simp only [hp];exact h _ _ _ _ _ _
def nE (N:Nat) (o:Oper) (k:Ih -> Option Nat -> Tr Value -> List Deferred -> AH -> Nat -> Option St) (ih:Ih) (r:Option Nat) (T:Tr Value) (D:List Deferred) (v:Value) (H:AH) (n:Nat):Option St:=match eZ N o.dst v T with
 | some T=>k ih r T D H n
 | none=>none
theorem oD {P:Program} {G N:Nat} {ops:Array Oper} {o:Oper} {k} (hg:o.guard=none) (ho:mP G o=true) (hc:rH P o.op=.pu) (ih:Ih) (r:Option Nat) (T:Tr Value) (D:List Deferred) (H:AH) (n:Nat) :
  cS P G N ops o k ih r T D H n=match gx P o T with
   | some v=>nE N o k ih r T D v H n
   | none=>none:=by
 simp only [mP] at ho
 cases hl:iG o.op with
 | none=>rw [hl] at ho;simp at ho
 | some l =>
  rw [hl] at ho
  simp only at ho
  simp only [cS,ez,hg,jH,z0,hl,ho,hc]
  cases gx P o T with
  | none=>rfl
  | some v=>simp only [cz];rfl
theorem FK {P:Program} {G N:Nat} {ops:Array Oper} {o:Oper} {k} (hg:o.guard=none) (ho:mP G o=true) (hc:rH P o.op=.lo) (ih:Ih) (r:Option Nat) (T:Tr Value) (D:List Deferred) (H:AH) (n:Nat) :
  cS P G N ops o k ih r T D H n=match jb P o T H with
   | some v=>nE N o k ih r T D v H n
   | none=>none:=by
 simp only [mP] at ho
 cases hl:iG o.op with
 | none=>rw [hl] at ho;simp at ho
 | some l =>
  rw [hl] at ho
  simp only at ho
  simp only [cS,ez,hg,jH,z0,hl,ho,hc]
  cases jb P o T H with
  | none=>rfl
  | some v=>simp only [cz];rfl
theorem KV {P:Program} {G N:Nat} {ops:Array Oper} {o:Oper} {k} (hg:o.guard=none) (ho:mP G o=true) (hc:rH P o.op=.nw) (ih:Ih) (r:Option Nat) (T:Tr Value) (D:List Deferred) (H:AH) (n:Nat) :
  cS P G N ops o k ih r T D H n=match rV P o T with
   | some (b,m)=>nE N o k ih r T D (m.val n) (cP H n (some b)) (n+1)
   | none=>none:=by
 simp only [mP] at ho
 cases hl:iG o.op with
 | none=>rw [hl] at ho;simp at ho
 | some l =>
  rw [hl] at ho
  simp only at ho
  simp only [cS,ez,hg,jH,z0,hl,ho,hc]
  cases rV P o T with
  | none=>rfl
  | some v=>simp only [KO,cz];rfl
theorem KW {P:Program} {G N:Nat} {ops:Array Oper} {o:Oper} {k} (hg:o.guard=none) (ho:mP G o=true) (hc:rH P o.op=.ef) (ih:Ih) (r:Option Nat) (T:Tr Value) (D:List Deferred) (H:AH) (n:Nat) {v:Value} {H':AH} {n':Nat} (he:mB P o T H n=some (.val v H' n')) :
  cS P G N ops o k ih r T D H n=nE N o k ih r T D v H' n':=by
 simp only [mP] at ho
 cases hl:iG o.op with
 | none=>rw [hl] at ho;simp at ho
 | some l =>
  rw [hl] at ho
  simp only at ho
  simp only [cS,ez,hg,jH,z0,hl,ho,hc,he,cz]
  rfl
theorem Al {P:Program} {G N:Nat} {ops:Array Oper} {o:Oper} {k} (hg:o.guard=none) (ho:mP G o=true) (hc:rH P o.op=.ef) (ih:Ih) (r:Option Nat) (T:Tr Value) (D:List Deferred) (H:AH) (n:Nat) {f:FuncId} {args:List Value} (he:mB P o T H n=some (.ent f args)) :
  cS P G N ops o k ih r T D H n=match ih (.fn f args H n) with
   | some (.fn v H n)=>nE N o k ih r T D v H n
   | _=>none:=by
 simp only [mP] at ho
 cases hl:iG o.op with
 | none=>rw [hl] at ho;simp at ho
 | some l =>
  rw [hl] at ho
  simp only at ho
  simp only [cS,ez,hg,jH,z0,hl,ho,hc,he]
  cases ih (.fn f args H n) with
  | none=>rfl
  | some x=>cases x <;> simp only [cz] <;> rfl
end
noncomputable section
abbrev Kt:=Ih -> Option Nat -> Tr Value -> List Deferred -> AH -> Nat -> Option St
def kN (k:IntKind):Nat:=IntKind.rec (motive:=λ _=>Nat) 0 1 2 3 4 5 6 7 k
def Ox (a b:IntKind):Bool:=Nat.beq (kN a) (kN b)
theorem KX (a b:IntKind):Ox a b=decide (a=b):=by cases a <;> cases b <;> rfl
def LS (a b:Int):Bool:=match a,b with
 | .ofNat m,.ofNat n=>Nat.blt m n
 | .negSucc _,.ofNat _=>true
 | .ofNat _,.negSucc _=>false
 | .negSucc m,.negSucc n=>Nat.blt n m
theorem Am (m n:Nat):Nat.blt m n=decide (m < n):=by
 by_cases h:m < n
 ·simp [Nat.blt_eq,h]
 ·rw [decide_eq_false h]
  cases hb:Nat.blt m n
  ·rfl
  ·exact absurd (Eq.mp Nat.blt_eq hb) h
theorem FM (a b:Int):LS a b=decide (a < b):=by
 cases a with
 | ofNat m=>cases b with
  | ofNat n =>
   simp only [LS,Am]
   exact decide_eq_decide.2 (Int.ofNat_lt).symm
  | negSucc n=>exact (decide_eq_false (show ¬ ((m:Int) < Int.negSucc n) by omega)).symm
 | negSucc m=>cases b with
  | ofNat n=>exact (decide_eq_true (show Int.negSucc m < (n:Int) by omega)).symm
  | negSucc n =>
   simp only [LS,Am]
   exact decide_eq_decide.2 (by omega)
def KY (b:Bool):Bool:=match b with
 | true=>false
 | false=>true
theorem An (b:Bool):KY b=!b:=by cases b <;> rfl
def NU (a b:Int):Bool:=KY (LS b a)
theorem KZ (a b:Int):NU a b=decide (a <= b):=by
 rw [NU,An,FM]
 by_cases h:b < a
 ·rw [decide_eq_true h,decide_eq_false (by omega)];rfl
 ·rw [decide_eq_false h,decide_eq_true (by omega)];rfl
def MC (a b:Int):Bool:=match a,b with
 | .ofNat m,.ofNat n=>Nat.beq m n
 | .negSucc m,.negSucc n=>Nat.beq m n
 | _,_=>false
theorem Ao (m n:Nat):Nat.beq m n=decide (m=n):=by
 by_cases h:m=n
 ·rw [decide_eq_true h];exact Eq.mpr Nat.beq_eq h
 ·rw [decide_eq_false h]
  cases hb:Nat.beq m n
  ·rfl
  ·exact absurd (Eq.mp Nat.beq_eq hb) h
theorem K3 (a b:Int):MC a b=(a == b):=by
 have e:(a == b)=decide (a=b):=rfl
 rw [e]
 cases a with
 | ofNat m=>cases b with
  | ofNat n =>
   simp only [MC,Ao]
   exact decide_eq_decide.2 (Int.ofNat_inj (m:=m) (n:=n)).symm
  | negSucc n=>rfl
 | negSucc m=>cases b with
  | ofNat n=>rfl
  | negSucc n =>
   simp only [MC,Ao]
   exact decide_eq_decide.2 (by simp)
def II:BinOp -> Option (Int -> Int -> Bool)
 | .lss=>some λ a b=>LS a b
 | .leq=>some λ a b=>NU a b
 | .gtr=>some λ a b=>LS b a
 | .geq=>some λ a b=>NU b a
 | .eql=>some λ a b=>MC a b
 | .neq=>some λ a b=>KY (MC a b)
 | _=>none
theorem IJ {op:BinOp} {q} (h:II op=some q) (a b:Int):EY op a b=some (q a b):=by
 cases op <;> simp only [II,Option.some.injEq,reduceCtorEq] at h <;> subst h <;> simp only [EY,FM,KZ,K3,An] <;> rfl
section
variable (P:Program) (G N:Nat) (ops:Array Oper) (o:Oper) (k:Kt) (g:Value -> Tr Value -> Tr Value)
def NV (f:Tr Value -> Value) (ih:Ih) (r:Option Nat) (T:Tr Value) (D:List Deferred) (H:AH) (n:Nat):Option St:=eF (f T) λ v=>k ih r (g v T) D H n
def MD (u:Value) (x y:Option St):Option St:=match u with
 | .bool b=>match b with
  | true=>x
  | false=>y
 | _=>none
def FN (f fa fb:Tr Value -> Value) (ih:Ih) (r:Option Nat) (T:Tr Value) (D:List Deferred) (H:AH) (n:Nat):Option St:=MD (f T) (eF (fa T) λ v=>k ih r (g v T) D H n) (eF (fb T) λ v=>k ih r (g v T) D H n)
def ME (u:Value) (x y:Option St):Option St:=match u with
 | .pointer p=>match p with
  | some _=>x
  | none=>y
 | _=>y
def K4 (f:Tr Value -> Value) (ih:Ih) (r:Option Nat) (T:Tr Value) (D:List Deferred) (H:AH) (n:Nat):Option St:=ME (f T) (eF (f T) λ v=>k ih r (g v T) D H n) (cS P G N ops o k ih r T D H n)
def MF (q:Int -> Int -> Bool) (u v:Value) (x:Bool -> Option St) (y:Option St):Option St:=match u with
 | .int ka a=>match v with
  | .int kb b=>match Ox ka kb with
   | true=>match q a b with
    | true=>x true
    | false=>x false
   | false=>y
  | _=>y
 | _=>y
def K5 (q:Int -> Int -> Bool) (f1 f2:Tr Value -> Value) (ih:Ih) (r:Option Nat) (T:Tr Value) (D:List Deferred) (H:AH) (n:Nat):Option St:=MF q (f1 T) (f2 T) (λ b=>k ih r (g (.bool b) T) D H n) (cS P G N ops o k ih r T D H n)
def Oy (c:Nat) (u:Value) (x:Value -> Option St):Option St:=match u with
 | .pointer p=>match p with
  | some a=>match a with
   | ⟨b,off,s⟩=>match c with
    | 0=>x (.pointer (some ⟨b,off,s⟩))
    | c+1=>x (.pointer (some ⟨b,off+(c+1),none⟩))
  | none=>none
 | _=>none
def K6 (c:Nat) (f:Tr Value -> Value) (ih:Ih) (r:Option Nat) (T:Tr Value) (D:List Deferred) (H:AH) (n:Nat):Option St:=Oy c (f T) λ v=>k ih r (g v T) D H n
def ldB (off:Nat) (s:Option Nat) (b:Option AB) (x:Value -> Option St):Option St:=match s with
 | none=>match b with
  | some c=>match c with
   | .cells n tr _ _ _=>match Nat.blt off n with
    | true=>eF (cQ tr off) x
    | false=>none
   | _=>none
  | none=>none
 | some _=>none
def ldR (H:AH) (u:Value) (x:Value -> Option St):Option St:=match u with
 | .pointer p=>match p with
  | some a=>match a with
   | ⟨b,off,s⟩=>ldB off s (bK H b) x
  | none=>none
 | _=>none
def Oz (f:Tr Value -> Value) (ih:Ih) (r:Option Nat) (T:Tr Value) (D:List Deferred) (H:AH) (n:Nat):Option St:=ldR H (f T) λ v=>k ih r (g v T) D H n
def laB (off c:Nat) (s:Option Nat) (b:Option AB) (x:Value -> Option St):Option St:=match s with
 | none=>match b with
  | some ab=>match ab with
   | .cells n tr _ _ _=>match Nat.ble (off+c) n with
    | true=>yS (gy tr off c) λ l=>x (.agg ⟨l⟩)
    | false=>none
   | _=>none
  | none=>none
 | some _=>none
def laR (c:Nat) (H:AH) (u:Value) (x:Value -> Option St):Option St:=match u with
 | .pointer p=>match p with
  | some a=>match a with
   | ⟨b,off,s⟩=>laB off c s (bK H b) x
  | none=>none
 | _=>none
def OA (c:Nat) (f:Tr Value -> Value) (ih:Ih) (r:Option Nat) (T:Tr Value) (D:List Deferred) (H:AH) (n:Nat):Option St:=laR c H (f T) λ v=>k ih r (g v T) D H n
def alF (b:AB) (ih:Ih) (r:Option Nat) (T:Tr Value) (D:List Deferred) (H:AH) (n:Nat):Option St:=k ih r (g (.pointer (some ⟨n,0,none⟩)) T) D (cP H n (some b)) (n+1)
def ixR (c:Nat) (u i:Value) (x:Value -> Option St):Option St:=match u with
 | .slice p m _=>match p with
  | some a=>match i with
   | .int _ i=>match i with
    | .ofNat i=>match Nat.blt i m with
     | true=>match a with
      | ⟨b,off,s⟩=>match i * c with
       | 0=>x (.pointer (some ⟨b,off,s⟩))
       | j+1=>x (.pointer (some ⟨b,off+(j+1),none⟩))
     | false=>none
    | _=>none
   | _=>none
  | none=>none
 | _=>none
def OB (c:Nat) (f1 f2:Tr Value -> Value) (ih:Ih) (r:Option Nat) (T:Tr Value) (D:List Deferred) (H:AH) (n:Nat):Option St:=ixR c (f1 T) (f2 T) λ v=>k ih r (g v T) D H n
def stB (off:Nat) (s:Option Nat) (v:Value) (b:Option AB) (x:AB -> Option St) (y:Option St):Option St:=match s with
 | none=>match b with
  | some c=>match c with
   | .cells n tr ty w ro=>match ro with
    | false=>match Nat.blt off n with
     | true=>x (.cells n (rT tr off v) ty w false)
     | false=>y
    | true=>y
   | _=>y
  | none=>y
 | some _=>y
def Ap (v:Value):Bool:=match v with
 | .agg _=>false
 | .tuple _=>false
 | _=>true
def stR (H:AH) (u v:Value) (x:Nat -> AB -> Option St) (y:Option St):Option St:=match Ap v with
 | true=>match u with
  | .pointer p=>match p with
   | some a=>match a with
    | ⟨b,off,s⟩=>eF v λ v=>stB off s v (bK H b) (x b) y
   | none=>y
  | _=>y
 | false=>y
def OC (f1 f2:Tr Value -> Value) (ih:Ih) (r:Option Nat) (T:Tr Value) (D:List Deferred) (H:AH) (n:Nat):Option St:=stR H (f1 T) (f2 T) (λ b ab=>k ih r T D (cP H b (some ab)) n) (cS P G N ops o k ih r T D H n)
def NW (x:Option Rs) (y:Value -> AH -> Nat -> Option St):Option St:=match x with
 | some x=>match x with
  | .fn v H n=>eF v λ v=>y v H n
  | .cd _ _=>none
 | none=>none
def OD (f:FuncId) (as:Tr Value -> List Value) (ih:Ih) (r:Option Nat) (T:Tr Value) (D:List Deferred) (H:AH) (n:Nat):Option St:=NW (ih (.fn f (as T) H n)) λ v H n=>k ih r (g v T) D H n
def OE (f:FuncId) (as:Tr Value -> List Value) (ih:Ih) (r:Option Nat) (T:Tr Value) (D:List Deferred) (H:AH) (n:Nat):Option St:=NW (ih (.fn f (as T) H n)) λ v H n=>k ih r T D H n
end
section
variable {P:Program} {G N:Nat} {ops:Array Oper} {o:Oper} {k:Kt} {g:Value -> Tr Value -> Tr Value}
theorem fm (hd:gW N o.dst=.ok g) (ih:Ih) (r:Option Nat) (T:Tr Value) (D:List Deferred) (v:Value) (H:AH) (n:Nat):nE N o k ih r T D v H n=k ih r (g v T) D H n:=by
 rw [nE,Aj hd]
theorem Aq (hd:gW N o.dst=.no) (ih:Ih) (r:Option Nat) (T:Tr Value) (D:List Deferred) (v:Value) (H:AH) (n:Nat):nE N o k ih r T D v H n=k ih r T D H n:=by
 rw [nE,Ak hd]
theorem JQ (hg:o.guard=none) (ho:mP G o=true) (hd:gW N o.dst=.ok g) {x:Operand} (hx:o.op=.move x \/ o.op=.assign x) {f} (hf:∀ T,f T=ael T x) (ih r T D H n):NV k g f ih r T D H n=cS P G N ops o k ih r T D H n:=by
 have hc:rH P o.op=.pu:=by cases hx with | inl h=>rw [h];rfl | inr h=>rw [h];rfl
 have hp:gx P o T=some (ael T x):=by unfold gx;cases hx with | inl h=>rw [h] | inr h=>rw [h]
 rw [oD hg ho hc,hp,NV,hf,cz]
 exact (fm hd ..).symm
theorem IK (hg:o.guard=none) (ho:mP G o=true) (hd:gW N o.dst=.ok g) {c a b:Operand} (hx:o.op=.pick c a b) {f fa fb} (hf:∀ T,f T=ael T c) (hfa:∀ T,fa T=ael T a) (hfb:∀ T,fb T=ael T b) (ih r T D H n):FN k g f fa fb ih r T D H n=cS P G N ops o k ih r T D H n:=by
 rw [oD hg ho (by rw [hx];rfl)]
 unfold gx
 rw [hx]
 simp only [FN,hf,hfa,hfb,cz]
 cases ael T c with
 | bool q=>cases q <;> exact (fm hd ..).symm
 | _=>rfl
theorem K7 (hg:o.guard=none) (ho:mP G o=true) (hd:gW N o.dst=.ok g) {x:Operand} (hx:o.op=.nilCheck x) {f} (hf:∀ T,f T=ael T x) (ih r T D H n):K4 P G N ops o k g f ih r T D H n=cS P G N ops o k ih r T D H n:=by
 simp only [K4,hf]
 cases he:ael T x with
 | pointer p=>cases p with
  | none=>rfl
  | some a =>
   rw [oD hg ho (by rw [hx];rfl)]
   unfold gx
   rw [hx]
   simp only [he,ME,cz]
   exact (fm hd ..).symm
 | _=>rfl
theorem K8 (hg:o.guard=none) (ho:mP G o=true) (hd:gW N o.dst=.ok g) {op t x y z} (hx:o.op=.binOp op t x y z) {q} (hq:II op=some q) {f1 f2} (hf1:∀ T,f1 T=ael T x) (hf2:∀ T,f2 T=ael T y) (ih r T D H n):K5 P G N ops o k g q f1 f2 ih r T D H n=cS P G N ops o k ih r T D H n:=by
 simp only [K5,hf1,hf2]
 cases he:ael T x with
 | int ka a=>cases he2:ael T y with
  | int kb b =>
   simp only [MF]
   cases hk:Ox ka kb with
   | false=>rfl
   | true =>
    rw [oD hg ho (by rw [hx];rfl)]
    unfold gx
    rw [hx]
    rw [KX] at hk
    simp only [he,he2,IJ hq,hk]
    cases q a b <;> exact (fm hd ..).symm
  | _=>rfl
 | _=>rfl
theorem K9 (hg:o.guard=none) (ho:mP G o=true) (hd:gW N o.dst=.ok g) {t x j} (hx:o.op=.fieldAddr t x j) {c ft} (hc:wm P t j=some (c,ft)) {f} (hf:∀ T,f T=ael T x) (ih r T D H n):K6 k g c f ih r T D H n=cS P G N ops o k ih r T D H n:=by
 rw [oD hg ho (by rw [hx];rfl)]
 unfold gx
 rw [hx]
 simp only [K6,hf,hc]
 cases he:ael T x with
 | pointer p=>cases p with
  | none=>rfl
  | some a=>cases a with
   | mk b off s=>cases c with
    | zero=>exact (fm hd ..).symm
    | succ c=>exact (fm hd ..).symm
 | _=>rfl
theorem MG (hg:o.guard=none) (ho:mP G o=true) (hd:gW N o.dst=.ok g) {t x} (hx:o.op=.load t x) (hc:wl P t=true) {f} (hf:∀ T,f T=ael T x) (ih r T D H n):Oz k g f ih r T D H n=cS P G N ops o k ih r T D H n:=by
 rw [FK hg ho (by rw [hx];rfl)]
 unfold jb
 rw [hx]
 simp only [Oz,hf]
 cases he:ael T x with
 | pointer p=>cases p with
  | none=>rfl
  | some a=>cases a with
   | mk b off s =>
    cases s with
    | some s=>rfl
    | none =>
     simp only [ldR,sP]
     cases bK H b with
     | none=>rfl
     | some c=>cases c with
      | cells nn tr ty w ro =>
       simp only [ldB,hc]
       cases Nat.blt off nn
       ·rfl
       ·simp only [cz];exact (fm hd ..).symm
      | _=>rfl
 | _=>rfl
theorem MH (hg:o.guard=none) (ho:mP G o=true) (hd:gW N o.dst=.ok g) {t x} (hx:o.op=.load t x) (hc:wl P t=false) {c} (ha:yw P t=some c) {f} (hf:∀ T,f T=ael T x) (ih r T D H n):OA k g c f ih r T D H n=cS P G N ops o k ih r T D H n:=by
 rw [FK hg ho (by rw [hx];rfl)]
 unfold jb
 rw [hx]
 simp only [OA,hf]
 cases he:ael T x with
 | pointer p=>cases p with
  | none=>rfl
  | some a=>cases a with
   | mk b off s =>
    cases s with
    | some s=>rfl
    | none =>
     simp only [laR,sP]
     cases bK H b with
     | none=>rfl
     | some ab=>cases ab with
      | cells nn tr ty w ro =>
       simp only [laB,hc,ha]
       cases Nat.ble (off+c) nn
       ·rfl
       ·simp only [tg];exact (fm hd ..).symm
      | _=>rfl
 | _=>rfl
theorem MI (hg:o.guard=none) (ho:mP G o=true) (hd:gW N o.dst=.ok g) {t} (hx:o.op=.alloc t) {z} (hz:kr P t=some z) {b} (hb:jn z t=b) (ih r T D H n):alF k g b ih r T D H n=cS P G N ops o k ih r T D H n:=by
 rw [KV hg ho (by rw [hx];rfl)]
 unfold rV
 rw [hx]
 simp only [hz,hb]
 exact (fm hd ..).symm
theorem MJ (hg:o.guard=none) (ho:mP G o=true) (hd:gW N o.dst=.ok g) {t x i} (hx:o.op=.indexAddr t x i) {el c} (ht:P.underlying t=some (.slice el)) (hc:eR P el=some c) {f1 f2} (hf1:∀ T,f1 T=ael T x) (hf2:∀ T,f2 T=ael T i) (ih r T D H n):OB k g c f1 f2 ih r T D H n=cS P G N ops o k ih r T D H n:=by
 rw [oD hg ho (by rw [hx];rfl)]
 unfold gx
 rw [hx]
 simp only [OB,hf1,hf2,ht]
 cases he:ael T x with
 | slice p m cc=>cases p with
  | none=>rfl
  | some a=>cases a with
   | mk b off s=>cases he2:ael T i with
    | int ki i=>cases i with
     | ofNat i =>
      simp only [ixR,Hg,hc]
      cases Nat.blt i m with
      | false=>rfl
      | true =>
       simp only [yz]
       cases i * c with
       | zero=>exact (fm hd ..).symm
       | succ j=>exact (fm hd ..).symm
     | negSucc i=>rfl
    | _=>rfl
 | _=>cases he2:ael T i <;> rfl
theorem MK (hg:o.guard=none) (ho:mP G o=true) (hd:gW N o.dst=.no) {t x y} (hx:o.op=.store t x y) (ht:eR P t=some 1) {f1 f2} (hf1:∀ T,f1 T=ael T x) (hf2:∀ T,f2 T=ael T y) (ih r T D H n):OC P G N ops o k f1 f2 ih r T D H n=cS P G N ops o k ih r T D H n:=by
 simp only [OC,hf1,hf2]
 unfold stR
 cases hfl:Ap (ael T y) with
 | false=>rfl
 | true =>
  cases he:ael T x with
  | pointer p=>cases p with
   | none=>rfl
   | some a=>cases a with
    | mk b off s=>cases s with
     | some s=>simp only [cz];rfl
     | none =>
      simp only [cz]
      cases hb:bK H b with
      | none=>rfl
      | some c=>cases c with
       | cells nn tr ty w ro=>cases ro with
        | true=>rfl
        | false =>
         simp only [stB]
         cases hlt:Nat.blt off nn with
         | false=>rfl
         | true =>
          have hcl:gG (ael T y)=[ael T y]:=by
           cases hv:ael T y <;> first | rfl | (rw [hv] at hfl;simp [Ap] at hfl)
          have hff:jG [ael T y]=true:=by
           cases hv:ael T y <;> first | rfl | (rw [hv] at hfl;simp [Ap] at hfl)
          have hle:Nat.ble (off+1) nn=true:=hlt
          have he':mB P o T H n=some (.val undef (cP H b (some (.cells nn (rT tr off (ael T y)) ty w false))) n):=by
           unfold mB
           rw [hx]
           simp only [he,uk,ht,hcl,fX,oq,hb,hle,hff]
           rfl
          rw [KW hg ho (by rw [hx];rfl) ih r T D H n he']
          exact (Aq hd ..).symm
       | _=>rfl
  | _=>rfl
theorem FO {f:FuncId} {c:Call} (hx:o.op=.call c) (hc:c.callee=.value (.func f)) (hb:qD P f=true) (T H n):mB P o T H n=some (.ent f (mA T c.args.toList)):=by
 unfold mB
 rw [hx]
 simp only [hc,ael,pM,hb]
 simp
theorem FP {f:FuncId} {c:Call} (hx:o.op=.call c) (hc:c.callee=.value (.func f)):rH P o.op=.ef:=by
 rw [hx]
 obtain ⟨ce,a,t⟩:=c
 simp only at hc
 subst hc
 rfl
theorem ML (hg:o.guard=none) (ho:mP G o=true) (hd:gW N o.dst=.ok g) {f:FuncId} {c:Call} (hx:o.op=.call c) (hc:c.callee=.value (.func f)) (hb:qD P f=true) {as} (ha:∀ T,as T=mA T c.args.toList) (ih r T D H n):OD k g f as ih r T D H n=cS P G N ops o k ih r T D H n:=by
 rw [Al hg ho (FP hx hc) ih r T D H n (FO hx hc hb T H n),OD,ha]
 cases ih (.fn f (mA T c.args.toList) H n) with
 | none=>rfl
 | some x=>cases x with
  | cd _ _=>rfl
  | fn v H n=>simp only [NW,cz];exact (fm hd ..).symm
theorem Lb (hg:o.guard=none) (ho:mP G o=true) (hd:gW N o.dst=.no) {f:FuncId} {c:Call} (hx:o.op=.call c) (hc:c.callee=.value (.func f)) (hb:qD P f=true) {as} (ha:∀ T,as T=mA T c.args.toList) (ih r T D H n):OE k f as ih r T D H n=cS P G N ops o k ih r T D H n:=by
 rw [Al hg ho (FP hx hc) ih r T D H n (FO hx hc hb T H n),OE,ha]
 cases ih (.fn f (mA T c.args.toList) H n) with
 | none=>rfl
 | some x=>cases x with
  | cd _ _=>rfl
  | fn v H n=>simp only [NW,cz];exact (Aq hd ..).symm
end
end
end Go.Proofs.YtgdcbiiopbpgaaaGreatDoor
