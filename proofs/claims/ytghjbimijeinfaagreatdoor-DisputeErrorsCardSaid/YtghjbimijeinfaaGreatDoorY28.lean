import Derived.Test.YtghjbimijeinfaaGreatDoorY21
set_option maxHeartbeats 4000000
set_option maxRecDepth 100000
set_option linter.unusedSimpArgs false
set_option linter.unusedVariables false
namespace Go.Proofs.YtghjbimijeinfaaGreatDoor
open Go.RowKit
noncomputable section
inductive CzV where | mk (f:Tr Value -> Value)
inductive CzS where | mk (f:Value -> Tr Value -> Tr Value)
abbrev Ih:=Task -> Option Rs
inductive CzR where | mk (f:Ih -> Option Nat -> Tr Value -> List Deferred -> AH -> Nat -> Option St)
inductive CzC where | mk (f:Ih -> Option Nat -> Tr Value -> List Deferred -> AH -> Nat -> Option (Ex × St))
inductive CzF where | mk (f:Ih -> List Value -> AH -> Nat -> Option Rs)
inductive CzA where | mk (f:Tr Value -> List Value)
def CzV.f:CzV -> Tr Value -> Value | .mk f=>f
def CzS.f:CzS -> Value -> Tr Value -> Tr Value | .mk f=>f
def CzR.f:CzR -> Ih -> Option Nat -> Tr Value -> List Deferred -> AH -> Nat -> Option St | .mk f=>f
def CzC.f:CzC -> Ih -> Option Nat -> Tr Value -> List Deferred -> AH -> Nat -> Option (Ex × St) | .mk f=>f
def CzF.f:CzF -> Ih -> List Value -> AH -> Nat -> Option Rs | .mk f=>f
def CzA.f:CzA -> Tr Value -> List Value | .mk f=>f
def eA {α:Type} (v:Value) (x:Value -> α):α:=match v with
 | .bool b=>x (.bool b)
 | .int k n=>x (.int k n)
 | .float k b=>x (.float k b)
 | .complex k a b=>x (.complex k a b)
 | .string s=>x (.string s)
 | .pointer a=>x (.pointer a)
 | .slice a l c=>x (.slice a l c)
 | .map r=>x (.map r)
 | .chan r=>x (.chan r)
 | .func f a c=>x (.func f a c)
 | .nilFunc=>x .nilFunc
 | .iface t v=>x (.iface t v)
 | .nilIface=>x .nilIface
 | .agg c=>x (.agg c)
 | .tuple c=>x (.tuple c)
theorem cC {α:Type} (v:Value) (x:Value -> α):eA v x=x v:=by cases v <;> rfl
def yH {α:Type} (l:List Value):(List Value -> α) -> α:=List.rec (motive:=λ _=>(List Value -> α) -> α) (λ x=>x []) (λ v _ ih x=>eA v λ v=>ih λ l=>x (v :: l)) l
theorem s8 {α:Type}:∀ (l:List Value) (x:List Value -> α),yH l x=x l
 | [],x=>rfl
 | v :: l,x=>by
  show eA v (λ v=>yH l λ l=>x (v :: l))=_
  rw [cC,s8 l]
def ul:List Bool -> CzV
 | []=>.mk λ T=>Tr.rec (motive:=λ _=>Value) undef (λ v _ _ _ _=>v) T
 | b :: p=>match ul p with
  | .mk f=>match b with
   | true=>.mk λ T=>Tr.rec (motive:=λ _=>Value) undef (λ _ _ r _ _=>f r) T
   | false=>.mk λ T=>Tr.rec (motive:=λ _=>Value) undef (λ _ l _ _ _=>f l) T
theorem pD:∀ (p:List Bool) (T:Tr Value),(ul p).f T=fK undef p T
 | [],T=>by cases T <;> rfl
 | b :: p,T=>by
  have ih:=pD p
  cases h:ul p with
  | mk f =>
   rw [h] at ih
   cases b <;> simp only [ul,h,CzV.f] <;> cases T <;> first | rfl | exact ih _
def yI:List Bool -> CzS
 | []=>.mk λ x T=>Tr.rec (motive:=λ _=>Tr Value) (.nd x .lf .lf) (λ _ l r _ _=>.nd x l r) T
 | b :: p=>match yI p with
  | .mk f=>match b with
   | true=>.mk λ x T=>Tr.rec (motive:=λ _=>Tr Value) (.nd undef .lf (f x .lf)) (λ v l r _ _=>.nd v l (f x r)) T
   | false=>.mk λ x T=>Tr.rec (motive:=λ _=>Tr Value) (.nd undef (f x .lf) .lf) (λ v l r _ _=>.nd v (f x l) r) T
theorem Ac (x:Value):∀ (p:List Bool) (T:Tr Value),(yI p).f x T=dF undef x p T
 | [],T=>by cases T <;> rfl
 | b :: p,T=>by
  have ih:=Ac x p
  cases h:yI p with
  | mk f =>
   rw [h] at ih
   simp only [CzS.f] at ih
   cases b <;> simp only [yI,h,CzS.f] <;> cases T <;> simp only [ih] <;> rfl
def cv:Operand -> CzV
 | .tmp t=>ul (pth t)
 | .const v=>.mk λ _=>v
 | .global g=>.mk λ _=>.pointer (some ⟨g,0,none⟩)
 | .func f=>.mk λ _=>.func (.func f) #[] #[]
theorem JG (x:Operand) (T:Tr Value):(cv x).f T=ael T x:=by
 cases x with
 | tmp t=>exact pD _ _
 | const v=>rfl
 | global g=>rfl
 | func f=>rfl
def ca:List Operand -> CzA
 | []=>.mk λ _=>[]
 | x :: l=>match cv x,ca l with
  | .mk f,.mk g=>.mk λ T=>f T :: g T
theorem JH:∀ (l:List Operand) (T:Tr Value),(ca l).f T=mj T l
 | [],T=>rfl
 | x :: l,T=>by
  have h1:=JG x T
  have h2:=JH l T
  cases hx:cv x with
  | mk f=>cases hl:ca l with
   | mk g =>
    rw [hx] at h1;rw [hl] at h2
    simp only [CzV.f] at h1;simp only [CzA.f] at h2
    simp only [ca,hx,hl,CzA.f,mj,h1,h2]
inductive CzD where
 | no
 | ok (f:Value -> Tr Value -> Tr Value)
 | bad
def gV (N:Nat):Option Tmp -> CzD
 | none=>.no
 | some d=>match Nat.blt d N with
  | true=>match yI (pth d) with
   | .mk f=>.ok f
  | false=>.bad
theorem Ad {N:Nat} {d:Option Tmp} {f} (h:gV N d=.ok f) (v:Value) (T:Tr Value):eZ N d v T=some (f v T):=by
 cases d with
 | none=>simp [gV] at h
 | some d =>
  simp only [gV] at h
  cases hb:Nat.blt d N <;> rw [hb] at h
  ·simp at h
  ·cases hs:yI (pth d) with
   | mk g =>
    simp only [hs,CzD.ok.injEq] at h
    subst h
    have:=Ac v (pth d) T
    rw [hs] at this
    simp only [CzS.f] at this
    simp only [eZ,hb,this]
    rfl
theorem Ae {N:Nat} {d:Option Tmp} (h:gV N d=.no) (v:Value) (T:Tr Value):eZ N d v T=some T:=by
 cases d with
 | none=>rfl
 | some d =>
  simp only [gV] at h
  cases hb:Nat.blt d N <;> rw [hb] at h
  ·simp at h
  ·cases hs:yI (pth d) with
   | mk g=>simp [hs] at h
def cP (P:Program) (G N:Nat) (ops:Array Oper) (o:Oper) (k:Ih -> Option Nat -> Tr Value -> List Deferred -> AH -> Nat -> Option St) (ih:Ih) (r:Option Nat) (T:Tr Value) (D:List Deferred) (H:AH) (n:Nat):Option St:=match d9 ops o T with
 | none=>none
 | some false=>match eZ N o.dst undef T with
  | some T=>k ih r T D H n
  | none=>none
 | some true=>match jz P G ih r o T H n with
  | none=>none
  | some (.val v H n)=>eA v λ v=>match eZ N o.dst v T with
   | some T=>k ih r T D H n
   | none=>none
  | some (.dfr d)=>match eZ N o.dst undef T with
   | some T=>k ih r T (d :: D) H n
   | none=>none
def CzR.okL (P:Program) (G N:Nat) (ops:Array Oper) (l:List Oper) (k:Ih -> Option Nat -> Tr Value -> List Deferred -> AH -> Nat -> Option St):Prop:=∀ ih r T D H n,k ih r T D H n=lS P G ih r N ops l ⟨T,D,H,n⟩
theorem Ik {P:Program} {G N:Nat} {ops:Array Oper} {l:List Oper} {k} (h:CzR.okL P G N ops l k) (o:Oper):CzR.okL P G N ops (o :: l) (cP P G N ops o k):=by
 intro ih r T D H n
 simp only [cP,lS]
 cases d9 ops o T with
 | none=>rfl
 | some b =>
  cases b with
  | false=>cases eZ N o.dst undef T with
   | none=>rfl
   | some T'=>exact h _ _ _ _ _ _
  | true=>cases jz P G ih r o T H n with
   | none=>rfl
   | some x=>cases x with
    | val v H' n'=>simp only [cC];cases hp:eZ N o.dst v T with
     | none=>simp only [hp]
     | some T'=>simp only [hp];exact h _ _ _ _ _ _
    | dfr d=>cases hp:eZ N o.dst undef T with
     | none=>simp only [hp]
     | some T'=>simp only [hp];exact h _ _ _ _ _ _
def nh (N:Nat) (o:Oper) (k:Ih -> Option Nat -> Tr Value -> List Deferred -> AH -> Nat -> Option St) (ih:Ih) (r:Option Nat) (T:Tr Value) (D:List Deferred) (v:Value) (H:AH) (n:Nat):Option St:=match eZ N o.dst v T with
 | some T=>k ih r T D H n
 | none=>none
theorem nZ {P:Program} {G N:Nat} {ops:Array Oper} {o:Oper} {k} (hg:o.guard=none) (ho:mD G o=true) (hc:rp P o.op=.pu) (ih:Ih) (r:Option Nat) (T:Tr Value) (D:List Deferred) (H:AH) (n:Nat) :
  cP P G N ops o k ih r T D H n=match gv P o T with
   | some v=>nh N o k ih r T D v H n
   | none=>none:=by
 simp only [mD] at ho
 cases hl:iC o.op with
 | none=>rw [hl] at ho;simp at ho
 | some l =>
  rw [hl] at ho
  simp only at ho
  simp only [cP,d9,hg,jz,zV,hl,ho,hc]
  cases gv P o T with
  | none=>rfl
  | some v=>simp only [cC];rfl
theorem Fd {P:Program} {G N:Nat} {ops:Array Oper} {o:Oper} {k} (hg:o.guard=none) (ho:mD G o=true) (hc:rp P o.op=.lo) (ih:Ih) (r:Option Nat) (T:Tr Value) (D:List Deferred) (H:AH) (n:Nat) :
  cP P G N ops o k ih r T D H n=match iZ P o T H with
   | some v=>nh N o k ih r T D v H n
   | none=>none:=by
 simp only [mD] at ho
 cases hl:iC o.op with
 | none=>rw [hl] at ho;simp at ho
 | some l =>
  rw [hl] at ho
  simp only at ho
  simp only [cP,d9,hg,jz,zV,hl,ho,hc]
  cases iZ P o T H with
  | none=>rfl
  | some v=>simp only [cC];rfl
theorem KR {P:Program} {G N:Nat} {ops:Array Oper} {o:Oper} {k} (hg:o.guard=none) (ho:mD G o=true) (hc:rp P o.op=.nw) (ih:Ih) (r:Option Nat) (T:Tr Value) (D:List Deferred) (H:AH) (n:Nat) :
  cP P G N ops o k ih r T D H n=match rK P o T with
   | some (b,m)=>nh N o k ih r T D (m.val n) (cM H n (some b)) (n+1)
   | none=>none:=by
 simp only [mD] at ho
 cases hl:iC o.op with
 | none=>rw [hl] at ho;simp at ho
 | some l =>
  rw [hl] at ho
  simp only at ho
  simp only [cP,d9,hg,jz,zV,hl,ho,hc]
  cases rK P o T with
  | none=>rfl
  | some v=>simp only [KJ,cC];rfl
theorem KS {P:Program} {G N:Nat} {ops:Array Oper} {o:Oper} {k} (hg:o.guard=none) (ho:mD G o=true) (hc:rp P o.op=.ef) (ih:Ih) (r:Option Nat) (T:Tr Value) (D:List Deferred) (H:AH) (n:Nat) {v:Value} {H':AH} {n':Nat} (he:ml P o T H n=some (.val v H' n')) :
  cP P G N ops o k ih r T D H n=nh N o k ih r T D v H' n':=by
 simp only [mD] at ho
 cases hl:iC o.op with
 | none=>rw [hl] at ho;simp at ho
 | some l =>
  rw [hl] at ho
  simp only at ho
  simp only [cP,d9,hg,jz,zV,hl,ho,hc,he,cC]
  rfl
theorem Af {P:Program} {G N:Nat} {ops:Array Oper} {o:Oper} {k} (hg:o.guard=none) (ho:mD G o=true) (hc:rp P o.op=.ef) (ih:Ih) (r:Option Nat) (T:Tr Value) (D:List Deferred) (H:AH) (n:Nat) {f:FuncId} {args:List Value} (he:ml P o T H n=some (.ent f args)) :
  cP P G N ops o k ih r T D H n=match ih (.fn f args H n) with
   | some (.fn v H n)=>nh N o k ih r T D v H n
   | _=>none:=by
 simp only [mD] at ho
 cases hl:iC o.op with
 | none=>rw [hl] at ho;simp at ho
 | some l =>
  rw [hl] at ho
  simp only at ho
  simp only [cP,d9,hg,jz,zV,hl,ho,hc,he]
  cases ih (.fn f args H n) with
  | none=>rfl
  | some x=>cases x <;> simp only [cC] <;> rfl
end
noncomputable section
abbrev Kt:=Ih -> Option Nat -> Tr Value -> List Deferred -> AH -> Nat -> Option St
def kN (k:IntKind):Nat:=IntKind.rec (motive:=λ _=>Nat) 0 1 2 3 4 5 6 7 k
def N1 (a b:IntKind):Bool:=Nat.beq (kN a) (kN b)
theorem KT (a b:IntKind):N1 a b=decide (a=b):=by cases a <;> cases b <;> rfl
def LL (a b:Int):Bool:=match a,b with
 | .ofNat m,.ofNat n=>Nat.blt m n
 | .negSucc _,.ofNat _=>true
 | .ofNat _,.negSucc _=>false
 | .negSucc m,.negSucc n=>Nat.blt n m
theorem Ag (m n:Nat):Nat.blt m n=decide (m < n):=by
 by_cases h:m < n
 ·simp [Nat.blt_eq,h]
 ·rw [decide_eq_false h]
  cases hb:Nat.blt m n
  ·rfl
  ·exact absurd (Eq.mp Nat.blt_eq hb) h
theorem Ff (a b:Int):LL a b=decide (a < b):=by
 cases a with
 | ofNat m=>cases b with
  | ofNat n =>
   simp only [LL,Ag]
   exact decide_eq_decide.2 (Int.ofNat_lt).symm
  | negSucc n=>exact (decide_eq_false (show ¬ ((m:Int) < Int.negSucc n) by omega)).symm
 | negSucc m=>cases b with
  | ofNat n=>exact (decide_eq_true (show Int.negSucc m < (n:Int) by omega)).symm
  | negSucc n =>
   simp only [LL,Ag]
   exact decide_eq_decide.2 (by omega)
def KU (b:Bool):Bool:=match b with
 | true=>false
 | false=>true
theorem Ah (b:Bool):KU b=!b:=by cases b <;> rfl
def Nr (a b:Int):Bool:=KU (LL b a)
theorem KV (a b:Int):Nr a b=decide (a <= b):=by
 rw [Nr,Ah,Ff]
 by_cases h:b < a
 ·rw [decide_eq_true h,decide_eq_false (by omega)];rfl
 ·rw [decide_eq_false h,decide_eq_true (by omega)];rfl
def My (a b:Int):Bool:=match a,b with
 | .ofNat m,.ofNat n=>Nat.beq m n
 | .negSucc m,.negSucc n=>Nat.beq m n
 | _,_=>false
theorem Ai (m n:Nat):Nat.beq m n=decide (m=n):=by
 by_cases h:m=n
 ·rw [decide_eq_true h];exact Eq.mpr Nat.beq_eq h
 ·rw [decide_eq_false h]
  cases hb:Nat.beq m n
  ·rfl
  ·exact absurd (Eq.mp Nat.beq_eq hb) h
theorem KW (a b:Int):My a b=(a == b):=by
 have e:(a == b)=decide (a=b):=rfl
 rw [e]
 cases a with
 | ofNat m=>cases b with
  | ofNat n =>
   simp only [My,Ai]
   exact decide_eq_decide.2 (Int.ofNat_inj (m:=m) (n:=n)).symm
  | negSucc n=>rfl
 | negSucc m=>cases b with
  | ofNat n=>rfl
  | negSucc n =>
   simp only [My,Ai]
   exact decide_eq_decide.2 (by simp)
def Il:BinOp -> Option (Int -> Int -> Bool)
 | .lss=>some λ a b=>LL a b
 | .leq=>some λ a b=>Nr a b
 | .gtr=>some λ a b=>LL b a
 | .geq=>some λ a b=>Nr b a
 | .eql=>some λ a b=>My a b
 | .neq=>some λ a b=>KU (My a b)
 | _=>none
theorem Im {op:BinOp} {q} (h:Il op=some q) (a b:Int):Ey op a b=some (q a b):=by
 cases op <;> simp only [Il,Option.some.injEq,reduceCtorEq] at h <;> subst h <;> simp only [Ey,Ff,KV,KW,Ah] <;> rfl
section
variable (P:Program) (G N:Nat) (ops:Array Oper) (o:Oper) (k:Kt) (g:Value -> Tr Value -> Tr Value)
def Ns (f:Tr Value -> Value) (ih:Ih) (r:Option Nat) (T:Tr Value) (D:List Deferred) (H:AH) (n:Nat):Option St:=eA (f T) λ v=>k ih r (g v T) D H n
def Mz (u:Value) (x y:Option St):Option St:=match u with
 | .bool b=>match b with
  | true=>x
  | false=>y
 | _=>none
def Fg (f fa fb:Tr Value -> Value) (ih:Ih) (r:Option Nat) (T:Tr Value) (D:List Deferred) (H:AH) (n:Nat):Option St:=Mz (f T) (eA (fa T) λ v=>k ih r (g v T) D H n) (eA (fb T) λ v=>k ih r (g v T) D H n)
def MA (u:Value) (x y:Option St):Option St:=match u with
 | .pointer p=>match p with
  | some _=>x
  | none=>y
 | _=>y
def KX (f:Tr Value -> Value) (ih:Ih) (r:Option Nat) (T:Tr Value) (D:List Deferred) (H:AH) (n:Nat):Option St:=MA (f T) (eA (f T) λ v=>k ih r (g v T) D H n) (cP P G N ops o k ih r T D H n)
def MB (q:Int -> Int -> Bool) (u v:Value) (x:Bool -> Option St) (y:Option St):Option St:=match u with
 | .int ka a=>match v with
  | .int kb b=>match N1 ka kb with
   | true=>match q a b with
    | true=>x true
    | false=>x false
   | false=>y
  | _=>y
 | _=>y
def KY (q:Int -> Int -> Bool) (f1 f2:Tr Value -> Value) (ih:Ih) (r:Option Nat) (T:Tr Value) (D:List Deferred) (H:AH) (n:Nat):Option St:=MB q (f1 T) (f2 T) (λ b=>k ih r (g (.bool b) T) D H n) (cP P G N ops o k ih r T D H n)
def N3 (c:Nat) (u:Value) (x:Value -> Option St):Option St:=match u with
 | .pointer p=>match p with
  | some a=>match a with
   | ⟨b,off,s⟩=>match c with
    | 0=>x (.pointer (some ⟨b,off,s⟩))
    | c+1=>x (.pointer (some ⟨b,off+(c+1),none⟩))
  | none=>none
 | _=>none
def KZ (c:Nat) (f:Tr Value -> Value) (ih:Ih) (r:Option Nat) (T:Tr Value) (D:List Deferred) (H:AH) (n:Nat):Option St:=N3 c (f T) λ v=>k ih r (g v T) D H n
def ldB (off:Nat) (s:Option Nat) (b:Option AB) (x:Value -> Option St):Option St:=match s with
 | none=>match b with
  | some c=>match c with
   | .cells n tr _ _ _=>match Nat.blt off n with
    | true=>eA (cN tr off) x
    | false=>none
   | _=>none
  | none=>none
 | some _=>none
def ldR (H:AH) (u:Value) (x:Value -> Option St):Option St:=match u with
 | .pointer p=>match p with
  | some a=>match a with
   | ⟨b,off,s⟩=>ldB off s (bu H b) x
  | none=>none
 | _=>none
def N4 (f:Tr Value -> Value) (ih:Ih) (r:Option Nat) (T:Tr Value) (D:List Deferred) (H:AH) (n:Nat):Option St:=ldR H (f T) λ v=>k ih r (g v T) D H n
def laB (off c:Nat) (s:Option Nat) (b:Option AB) (x:Value -> Option St):Option St:=match s with
 | none=>match b with
  | some ab=>match ab with
   | .cells n tr _ _ _=>match Nat.ble (off+c) n with
    | true=>yH (gw tr off c) λ l=>x (.agg ⟨l⟩)
    | false=>none
   | _=>none
  | none=>none
 | some _=>none
def laR (c:Nat) (H:AH) (u:Value) (x:Value -> Option St):Option St:=match u with
 | .pointer p=>match p with
  | some a=>match a with
   | ⟨b,off,s⟩=>laB off c s (bu H b) x
  | none=>none
 | _=>none
def N5 (c:Nat) (f:Tr Value -> Value) (ih:Ih) (r:Option Nat) (T:Tr Value) (D:List Deferred) (H:AH) (n:Nat):Option St:=laR c H (f T) λ v=>k ih r (g v T) D H n
def alF (b:AB) (ih:Ih) (r:Option Nat) (T:Tr Value) (D:List Deferred) (H:AH) (n:Nat):Option St:=k ih r (g (.pointer (some ⟨n,0,none⟩)) T) D (cM H n (some b)) (n+1)
def ixR (c:Nat) (u i:Value) (x:Value -> Option St):Option St:=match u with
 | .slice p m _=>match p with
  | some a=>match i with
   | .int _ i=>match i with
    | .ofNat i=>match Nat.blt i m with
     | true=>match a with
      | ⟨b,off,s⟩=>match i * c with
       | 0=>x (.pointer (some ⟨b,off,s⟩))
       | j+1=>x (.pointer (some ⟨b,off+(j+1),none⟩))
     | false=>none
    | _=>none
   | _=>none
  | none=>none
 | _=>none
def N6 (c:Nat) (f1 f2:Tr Value -> Value) (ih:Ih) (r:Option Nat) (T:Tr Value) (D:List Deferred) (H:AH) (n:Nat):Option St:=ixR c (f1 T) (f2 T) λ v=>k ih r (g v T) D H n
def stB (off:Nat) (s:Option Nat) (v:Value) (b:Option AB) (x:AB -> Option St) (y:Option St):Option St:=match s with
 | none=>match b with
  | some c=>match c with
   | .cells n tr ty w ro=>match ro with
    | false=>match Nat.blt off n with
     | true=>x (.cells n (rI tr off v) ty w false)
     | false=>y
    | true=>y
   | _=>y
  | none=>y
 | some _=>y
def Aj (v:Value):Bool:=match v with
 | .agg _=>false
 | .tuple _=>false
 | _=>true
def stR (H:AH) (u v:Value) (x:Nat -> AB -> Option St) (y:Option St):Option St:=match Aj v with
 | true=>match u with
  | .pointer p=>match p with
   | some a=>match a with
    | ⟨b,off,s⟩=>eA v λ v=>stB off s v (bu H b) (x b) y
   | none=>y
  | _=>y
 | false=>y
def N7 (f1 f2:Tr Value -> Value) (ih:Ih) (r:Option Nat) (T:Tr Value) (D:List Deferred) (H:AH) (n:Nat):Option St:=stR H (f1 T) (f2 T) (λ b ab=>k ih r T D (cM H b (some ab)) n) (cP P G N ops o k ih r T D H n)
def Nt (x:Option Rs) (y:Value -> AH -> Nat -> Option St):Option St:=match x with
 | some x=>match x with
  | .fn v H n=>eA v λ v=>y v H n
  | .cd _ _=>none
 | none=>none
def N8 (f:FuncId) (as:Tr Value -> List Value) (ih:Ih) (r:Option Nat) (T:Tr Value) (D:List Deferred) (H:AH) (n:Nat):Option St:=Nt (ih (.fn f (as T) H n)) λ v H n=>k ih r (g v T) D H n
def N9 (f:FuncId) (as:Tr Value -> List Value) (ih:Ih) (r:Option Nat) (T:Tr Value) (D:List Deferred) (H:AH) (n:Nat):Option St:=Nt (ih (.fn f (as T) H n)) λ v H n=>k ih r T D H n
end
section
variable {P:Program} {G N:Nat} {ops:Array Oper} {o:Oper} {k:Kt} {g:Value -> Tr Value -> Tr Value}
theorem fm (hd:gV N o.dst=.ok g) (ih:Ih) (r:Option Nat) (T:Tr Value) (D:List Deferred) (v:Value) (H:AH) (n:Nat):nh N o k ih r T D v H n=k ih r (g v T) D H n:=by
 rw [nh,Ad hd]
theorem Ak (hd:gV N o.dst=.no) (ih:Ih) (r:Option Nat) (T:Tr Value) (D:List Deferred) (v:Value) (H:AH) (n:Nat):nh N o k ih r T D v H n=k ih r T D H n:=by
 rw [nh,Ae hd]
theorem JI (hg:o.guard=none) (ho:mD G o=true) (hd:gV N o.dst=.ok g) {x:Operand} (hx:o.op=.move x \/ o.op=.assign x) {f} (hf:∀ T,f T=ael T x) (ih r T D H n):Ns k g f ih r T D H n=cP P G N ops o k ih r T D H n:=by
 have hc:rp P o.op=.pu:=by cases hx with | inl h=>rw [h];rfl | inr h=>rw [h];rfl
 have hp:gv P o T=some (ael T x):=by unfold gv;cases hx with | inl h=>rw [h] | inr h=>rw [h]
 rw [nZ hg ho hc,hp,Ns,hf,cC]
 exact (fm hd ..).symm
theorem Io (hg:o.guard=none) (ho:mD G o=true) (hd:gV N o.dst=.ok g) {c a b:Operand} (hx:o.op=.pick c a b) {f fa fb} (hf:∀ T,f T=ael T c) (hfa:∀ T,fa T=ael T a) (hfb:∀ T,fb T=ael T b) (ih r T D H n):Fg k g f fa fb ih r T D H n=cP P G N ops o k ih r T D H n:=by
 rw [nZ hg ho (by rw [hx];rfl)]
 unfold gv
 rw [hx]
 simp only [Fg,hf,hfa,hfb,cC]
 cases ael T c with
 | bool q=>cases q <;> exact (fm hd ..).symm
 | _=>rfl
theorem K3 (hg:o.guard=none) (ho:mD G o=true) (hd:gV N o.dst=.ok g) {x:Operand} (hx:o.op=.nilCheck x) {f} (hf:∀ T,f T=ael T x) (ih r T D H n):KX P G N ops o k g f ih r T D H n=cP P G N ops o k ih r T D H n:=by
 simp only [KX,hf]
 cases he:ael T x with
 | pointer p=>cases p with
  | none=>rfl
  | some a =>
   rw [nZ hg ho (by rw [hx];rfl)]
   unfold gv
   rw [hx]
   simp only [he,MA,cC]
   exact (fm hd ..).symm
 | _=>rfl
theorem K4 (hg:o.guard=none) (ho:mD G o=true) (hd:gV N o.dst=.ok g) {op t x y z} (hx:o.op=.binOp op t x y z) {q} (hq:Il op=some q) {f1 f2} (hf1:∀ T,f1 T=ael T x) (hf2:∀ T,f2 T=ael T y) (ih r T D H n):KY P G N ops o k g q f1 f2 ih r T D H n=cP P G N ops o k ih r T D H n:=by
 simp only [KY,hf1,hf2]
 cases he:ael T x with
 | int ka a=>cases he2:ael T y with
  | int kb b =>
   simp only [MB]
   cases hk:N1 ka kb with
   | false=>rfl
   | true =>
    rw [nZ hg ho (by rw [hx];rfl)]
    unfold gv
    rw [hx]
    rw [KT] at hk
    simp only [he,he2,Im hq,hk]
    cases q a b <;> exact (fm hd ..).symm
  | _=>rfl
 | _=>rfl
theorem K5 (hg:o.guard=none) (ho:mD G o=true) (hd:gV N o.dst=.ok g) {t x j} (hx:o.op=.fieldAddr t x j) {c ft} (hc:wi P t j=some (c,ft)) {f} (hf:∀ T,f T=ael T x) (ih r T D H n):KZ k g c f ih r T D H n=cP P G N ops o k ih r T D H n:=by
 rw [nZ hg ho (by rw [hx];rfl)]
 unfold gv
 rw [hx]
 simp only [KZ,hf,hc]
 cases he:ael T x with
 | pointer p=>cases p with
  | none=>rfl
  | some a=>cases a with
   | mk b off s=>cases c with
    | zero=>exact (fm hd ..).symm
    | succ c=>exact (fm hd ..).symm
 | _=>rfl
theorem MC (hg:o.guard=none) (ho:mD G o=true) (hd:gV N o.dst=.ok g) {t x} (hx:o.op=.load t x) (hc:wh P t=true) {f} (hf:∀ T,f T=ael T x) (ih r T D H n):N4 k g f ih r T D H n=cP P G N ops o k ih r T D H n:=by
 rw [Fd hg ho (by rw [hx];rfl)]
 unfold iZ
 rw [hx]
 simp only [N4,hf]
 cases he:ael T x with
 | pointer p=>cases p with
  | none=>rfl
  | some a=>cases a with
   | mk b off s =>
    cases s with
    | some s=>rfl
    | none =>
     simp only [ldR,sI]
     cases bu H b with
     | none=>rfl
     | some c=>cases c with
      | cells nn tr ty w ro =>
       simp only [ldB,hc]
       cases Nat.blt off nn
       ·rfl
       ·simp only [cC];exact (fm hd ..).symm
      | _=>rfl
 | _=>rfl
theorem MD (hg:o.guard=none) (ho:mD G o=true) (hd:gV N o.dst=.ok g) {t x} (hx:o.op=.load t x) (hc:wh P t=false) {c} (ha:yj P t=some c) {f} (hf:∀ T,f T=ael T x) (ih r T D H n):N5 k g c f ih r T D H n=cP P G N ops o k ih r T D H n:=by
 rw [Fd hg ho (by rw [hx];rfl)]
 unfold iZ
 rw [hx]
 simp only [N5,hf]
 cases he:ael T x with
 | pointer p=>cases p with
  | none=>rfl
  | some a=>cases a with
   | mk b off s =>
    cases s with
    | some s=>rfl
    | none =>
     simp only [laR,sI]
     cases bu H b with
     | none=>rfl
     | some ab=>cases ab with
      | cells nn tr ty w ro =>
       simp only [laB,hc,ha]
       cases Nat.ble (off+c) nn
       ·rfl
       ·simp only [s8];exact (fm hd ..).symm
      | _=>rfl
 | _=>rfl
theorem ME (hg:o.guard=none) (ho:mD G o=true) (hd:gV N o.dst=.ok g) {t} (hx:o.op=.alloc t) {z} (hz:kg P t=some z) {b} (hb:je z t=b) (ih r T D H n):alF k g b ih r T D H n=cP P G N ops o k ih r T D H n:=by
 rw [KR hg ho (by rw [hx];rfl)]
 unfold rK
 rw [hx]
 simp only [hz,hb]
 exact (fm hd ..).symm
theorem MF (hg:o.guard=none) (ho:mD G o=true) (hd:gV N o.dst=.ok g) {t x i} (hx:o.op=.indexAddr t x i) {el c} (ht:P.underlying t=some (.slice el)) (hc:eM P el=some c) {f1 f2} (hf1:∀ T,f1 T=ael T x) (hf2:∀ T,f2 T=ael T i) (ih r T D H n):N6 k g c f1 f2 ih r T D H n=cP P G N ops o k ih r T D H n:=by
 rw [nZ hg ho (by rw [hx];rfl)]
 unfold gv
 rw [hx]
 simp only [N6,hf1,hf2,ht]
 cases he:ael T x with
 | slice p m cc=>cases p with
  | none=>rfl
  | some a=>cases a with
   | mk b off s=>cases he2:ael T i with
    | int ki i=>cases i with
     | ofNat i =>
      simp only [ixR,GV,hc]
      cases Nat.blt i m with
      | false=>rfl
      | true =>
       simp only [ym]
       cases i * c with
       | zero=>exact (fm hd ..).symm
       | succ j=>exact (fm hd ..).symm
     | negSucc i=>rfl
    | _=>rfl
 | _=>cases he2:ael T i <;> rfl
theorem MG (hg:o.guard=none) (ho:mD G o=true) (hd:gV N o.dst=.no) {t x y} (hx:o.op=.store t x y) (ht:eM P t=some 1) {f1 f2} (hf1:∀ T,f1 T=ael T x) (hf2:∀ T,f2 T=ael T y) (ih r T D H n):N7 P G N ops o k f1 f2 ih r T D H n=cP P G N ops o k ih r T D H n:=by
 simp only [N7,hf1,hf2]
 unfold stR
 cases hfl:Aj (ael T y) with
 | false=>rfl
 | true =>
  cases he:ael T x with
  | pointer p=>cases p with
   | none=>rfl
   | some a=>cases a with
    | mk b off s=>cases s with
     | some s=>simp only [cC];rfl
     | none =>
      simp only [cC]
      cases hb:bu H b with
      | none=>rfl
      | some c=>cases c with
       | cells nn tr ty w ro=>cases ro with
        | true=>rfl
        | false =>
         simp only [stB]
         cases hlt:Nat.blt off nn with
         | false=>rfl
         | true =>
          have hcl:gF (ael T y)=[ael T y]:=by
           cases hv:ael T y <;> first | rfl | (rw [hv] at hfl;simp [Aj] at hfl)
          have hff:jy [ael T y]=true:=by
           cases hv:ael T y <;> first | rfl | (rw [hv] at hfl;simp [Aj] at hfl)
          have hle:Nat.ble (off+1) nn=true:=hlt
          have he':ml P o T H n=some (.val undef (cM H b (some (.cells nn (rI tr off (ael T y)) ty w false))) n):=by
           unfold ml
           rw [hx]
           simp only [he,ud,ht,hcl,fZ,nQ,hb,hle,hff]
           rfl
          rw [KS hg ho (by rw [hx];rfl) ih r T D H n he']
          exact (Ak hd ..).symm
       | _=>rfl
  | _=>rfl
theorem Fh {f:FuncId} {c:Call} (hx:o.op=.call c) (hc:c.callee=.value (.func f)) (hb:qt P f=true) (T H n):ml P o T H n=some (.ent f (mj T c.args.toList)):=by
 unfold ml
 rw [hx]
 simp only [hc,ael,pz,hb]
 simp
theorem Fi {f:FuncId} {c:Call} (hx:o.op=.call c) (hc:c.callee=.value (.func f)):rp P o.op=.ef:=by
 rw [hx]
 obtain ⟨ce,a,t⟩:=c
 simp only at hc
 subst hc
 rfl
theorem MH (hg:o.guard=none) (ho:mD G o=true) (hd:gV N o.dst=.ok g) {f:FuncId} {c:Call} (hx:o.op=.call c) (hc:c.callee=.value (.func f)) (hb:qt P f=true) {as} (ha:∀ T,as T=mj T c.args.toList) (ih r T D H n):N8 k g f as ih r T D H n=cP P G N ops o k ih r T D H n:=by
 rw [Af hg ho (Fi hx hc) ih r T D H n (Fh hx hc hb T H n),N8,ha]
 cases ih (.fn f (mj T c.args.toList) H n) with
 | none=>rfl
 | some x=>cases x with
  | cd _ _=>rfl
  | fn v H n=>simp only [Nt,cC];exact (fm hd ..).symm
theorem K6 (hg:o.guard=none) (ho:mD G o=true) (hd:gV N o.dst=.no) {f:FuncId} {c:Call} (hx:o.op=.call c) (hc:c.callee=.value (.func f)) (hb:qt P f=true) {as} (ha:∀ T,as T=mj T c.args.toList) (ih r T D H n):N9 k f as ih r T D H n=cP P G N ops o k ih r T D H n:=by
 rw [Af hg ho (Fi hx hc) ih r T D H n (Fh hx hc hb T H n),N9,ha]
 cases ih (.fn f (mj T c.args.toList) H n) with
 | none=>rfl
 | some x=>cases x with
  | cd _ _=>rfl
  | fn v H n=>simp only [Nt,cC];exact (Ak hd ..).symm
end
end
end Go.Proofs.YtghjbimijeinfaaGreatDoor
