import Derived.Test.YtgdcbiiopbpgaaaGreatDoorY34
set_option maxHeartbeats 4000000
set_option maxRecDepth 100000
set_option linter.unusedSimpArgs false
set_option linter.unusedVariables false
namespace Go.Proofs.YtgdcbiiopbpgaaaGreatDoor
open Go.RowKit
noncomputable section
def OG (P:Program) (G N:Nat) (ops:Array Oper) (o:Oper) (k:Kt) (g:Value -> Tr Value -> Tr Value):CzR:=match o.op with
 | .move x=>match cv x with
  | .mk f=>.mk (NV k g f)
 | .assign x=>match cv x with
  | .mk f=>.mk (NV k g f)
 | .pick c a b=>match cv c with
  | .mk f=>match cv a with
   | .mk fa=>match cv b with
    | .mk fb=>.mk (FN k g f fa fb)
 | .nilCheck x=>match cv x with
  | .mk f=>.mk (K4 P G N ops o k g f)
 | .binOp op _ x y _=>match II op with
  | some q=>match cv x with
   | .mk f1=>match cv y with
    | .mk f2=>.mk (K5 P G N ops o k g q f1 f2)
  | none=>.mk (cS P G N ops o k)
 | .fieldAddr t x j=>match wm P t j with
  | some (c,_)=>match cv x with
   | .mk f=>.mk (K6 k g c f)
  | none=>.mk (cS P G N ops o k)
 | .load t x=>match wl P t with
  | true=>match cv x with
   | .mk f=>.mk (Oz k g f)
  | false=>match yw P t with
   | some c=>match cv x with
    | .mk f=>.mk (OA k g c f)
   | none=>.mk (cS P G N ops o k)
 | .alloc t=>match kr P t with
  | some z=>match jn z t with
   | .cells a b c d e=>.mk (alF k g (.cells a b c d e))
   | _=>.mk (cS P G N ops o k)
  | none=>.mk (cS P G N ops o k)
 | .indexAddr t x i=>match P.underlying t with
  | some (.slice el)=>match eR P el with
   | some c=>match cv x with
    | .mk f1=>match cv i with
     | .mk f2=>.mk (OB k g c f1 f2)
   | none=>.mk (cS P G N ops o k)
  | _=>.mk (cS P G N ops o k)
 | .call c=>match c.callee with
  | .value (.func f)=>match qD P f with
   | true=>match ca c.args.toList with
    | .mk as=>.mk (OD k g f as)
   | false=>.mk (cS P G N ops o k)
  | _=>.mk (cS P G N ops o k)
 | _=>.mk (cS P G N ops o k)
def OH (P:Program) (G N:Nat) (ops:Array Oper) (o:Oper) (k:Kt):CzR:=match o.op with
 | .store t x y=>match eR P t with
  | some 1=>match cv x with
   | .mk f1=>match cv y with
    | .mk f2=>.mk (OC P G N ops o k f1 f2)
  | _=>.mk (cS P G N ops o k)
 | .call c=>match c.callee with
  | .value (.func f)=>match qD P f with
   | true=>match ca c.args.toList with
    | .mk as=>.mk (OE k f as)
   | false=>.mk (cS P G N ops o k)
  | _=>.mk (cS P G N ops o k)
 | _=>.mk (cS P G N ops o k)
def FQ (P:Program) (G N:Nat) (ops:Array Oper) (o:Oper) (k:Kt):CzR:=match mP G o with
 | true=>match gW N o.dst with
  | .ok g=>OG P G N ops o k g
  | .no=>OH P G N ops o k
  | .bad=>.mk (cS P G N ops o k)
 | false=>.mk (cS P G N ops o k)
def C8 (o:Oper):Oper:=⟨o.dst,o.op,o.type,o.pos,o.after,none⟩
def OI (want:Bool) (u:Value) (x y:Option St):Option St:=match u with
 | .bool b=>match b with
  | true=>match want with
   | true=>x
   | false=>y
  | false=>match want with
   | true=>y
   | false=>x
 | .tuple _=>y
 | _=>none
def guF (want:Bool) (f:Tr Value -> Value) (h:Kt) (k:Kt) (g:Value -> Tr Value -> Tr Value) (ih:Ih) (r:Option Nat) (T:Tr Value) (D:List Deferred) (H:AH) (n:Nat):Option St:=OI want (f T) (h ih r T D H n) (k ih r (g undef T) D H n)
def guN (want:Bool) (f:Tr Value -> Value) (h:Kt) (k:Kt) (ih:Ih) (r:Option Nat) (T:Tr Value) (D:List Deferred) (H:AH) (n:Nat):Option St:=OI want (f T) (h ih r T D H n) (k ih r T D H n)
def Lc (P:Program) (G N:Nat) (ops:Array Oper) (o:Oper) (nx:CzR):CzR:=match nx with
 | .mk k=>match o.guard with
  | none=>FQ P G N ops o k
  | some (j,want)=>match (ops[j]?).bind (·.dst) with
   | some d=>match ut (pth d) with
    | .mk f=>match FQ P G N ops (C8 o) k with
     | .mk h=>match gW N o.dst with
      | .ok g=>.mk (guF want f h k g)
      | .no=>.mk (guN want f h k)
      | .bad=>.mk (cS P G N ops o k)
   | none=>.mk (cS P G N ops o k)
def Cy (P:Program) (G N:Nat) (ops:Array Oper):List Oper -> CzR
 | []=>.mk λ _ _ T D H n=>some ⟨T,D,H,n⟩
 | o :: l=>Lc P G N ops o (Cy P G N ops l)
def FR (P:Program) (G N:Nat) (ops:Array Oper) (o:Oper) (k:Kt) (c:CzR):Prop:=∀ ih r T D H n,c.f ih r T D H n=cS P G N ops o k ih r T D H n
theorem dt {P:Program} {G N:Nat} {ops:Array Oper} {o:Oper} {k:Kt}:FR P G N ops o k (.mk (cS P G N ops o k)):=λ _ _ _ _ _ _=>rfl
theorem xA {x:Operand} {f} (h:cv x=.mk f) (T:Tr Value):f T=ael T x:=by
 have:=JO x T;rw [h] at this;exact this
theorem cam {x:List Operand} {f} (h:ca x=.mk f) (T:Tr Value):f T=mA T x:=by
 have:=JP x T;rw [h] at this;exact this
theorem Ld {P:Program} {G N:Nat} {ops:Array Oper} {o:Oper} {k:Kt} {g} (hg:o.guard=none) (ho:mP G o=true) (hd:gW N o.dst=.ok g):FR P G N ops o k (OG P G N ops o k g):=by
 unfold OG
 split
 ·rename_i x hx
  split;rename_i f hf
  exact λ ih r T D H n=>JQ hg ho hd (.inl hx) (xA hf) ih r T D H n
 ·rename_i x hx
  split;rename_i f hf
  exact λ ih r T D H n=>JQ hg ho hd (.inr hx) (xA hf) ih r T D H n
 ·rename_i c a b hx
  split;rename_i f hf
  split;rename_i fa hfa
  split;rename_i fb hfb
  exact λ ih r T D H n=>IK hg ho hd hx (xA hf) (xA hfa) (xA hfb) ih r T D H n
 ·rename_i x hx
  split;rename_i f hf
  exact λ ih r T D H n=>K7 hg ho hd hx (xA hf) ih r T D H n
 ·rename_i op t x y z hx
  split
  ·rename_i q hq
   split;rename_i f hf
   split;rename_i f2 hf2
   exact λ ih r T D H n=>K8 hg ho hd hx hq (xA hf) (xA hf2) ih r T D H n
  ·exact dt
 ·rename_i t x j hx
  split
  ·rename_i c ft hc
   split;rename_i f hf
   exact λ ih r T D H n=>K9 hg ho hd hx hc (xA hf) ih r T D H n
  ·exact dt
 ·rename_i t x hx
  split
  ·rename_i hc
   split;rename_i f hf
   exact λ ih r T D H n=>MG hg ho hd hx hc (xA hf) ih r T D H n
  ·rename_i hc
   split
   ·rename_i c ha
    split;rename_i f hf
    exact λ ih r T D H n=>MH hg ho hd hx hc ha (xA hf) ih r T D H n
   ·exact dt
 ·rename_i t hx
  split
  ·rename_i z hz
   split
   ·rename_i a b c d e hb
    exact λ ih r T D H n=>MI hg ho hd hx hz hb ih r T D H n
   ·exact dt
  ·exact dt
 ·rename_i t x i hx
  split
  ·rename_i el ht
   split
   ·rename_i c hc
    split;rename_i f hf
    split;rename_i f2 hf2
    exact λ ih r T D H n=>MJ hg ho hd hx ht hc (xA hf) (xA hf2) ih r T D H n
   ·exact dt
  ·exact dt
 ·rename_i c hx
  split
  ·rename_i f hc
   split
   ·rename_i hb
    split;rename_i as ha
    exact λ ih r T D H n=>ML hg ho hd hx hc hb (cam ha) ih r T D H n
   ·exact dt
  ·exact dt
 ·exact dt
theorem Lf {P:Program} {G N:Nat} {ops:Array Oper} {o:Oper} {k:Kt} (hg:o.guard=none) (ho:mP G o=true) (hd:gW N o.dst=.no):FR P G N ops o k (OH P G N ops o k):=by
 unfold OH
 split
 ·rename_i t x y hx
  split
  ·rename_i hc
   split;rename_i f hf
   split;rename_i f2 hf2
   exact λ ih r T D H n=>MK hg ho hd hx hc (xA hf) (xA hf2) ih r T D H n
  ·exact dt
 ·rename_i c hx
  split
  ·rename_i f hc
   split
   ·rename_i hb
    split;rename_i as ha
    exact λ ih r T D H n=>Lb hg ho hd hx hc hb (cam ha) ih r T D H n
   ·exact dt
  ·exact dt
 ·exact dt
theorem Ar {P:Program} {G N:Nat} {ops:Array Oper} {o:Oper} {k:Kt} (hg:o.guard=none):FR P G N ops o k (FQ P G N ops o k):=by
 unfold FQ
 split
 ·rename_i ho
  split
  ·rename_i g hd
   exact Ld hg ho hd
  ·rename_i hd
   exact Lf hg ho hd
  ·exact dt
 ·exact dt
theorem mH (P:Program) (T:Tr Value) (o:Oper):fY P T (C8 o)=fY P T o:=by
 have e:execOp (ael T) (C8 o)=execOp (ael T) o:=by
  obtain ⟨dst,op,type,pos,after,guard⟩:=o
  cases op <;> rfl
 unfold fY
 rw [e]
 rfl
theorem Cz (P:Program) (T:Tr Value) (o:Oper):gx P (C8 o) T=gx P o T:=by
 unfold gx
 simp only [mH]
 rfl
theorem CA (P:Program) (T:Tr Value) (H:AH) (o:Oper):jb P (C8 o) T H=jb P o T H:=by
 unfold jb
 simp only [mH]
 rfl
theorem FS (P:Program) (T:Tr Value) (H:AH) (n:Nat) (o:Oper):mB P (C8 o) T H n=mB P o T H n:=by
 unfold mB
 simp only [mH]
 rfl
theorem FT (P:Program) (G:Nat) (ih:Ih) (r:Option Nat) (T:Tr Value) (H:AH) (n:Nat) (o:Oper):jH P G ih r (C8 o) T H n=jH P G ih r o T H n:=by
 unfold jH z0
 simp only [Cz,CA,FS]
 rfl
theorem qX {P:Program} {G N:Nat} {ops:Array Oper} {o:Oper} {k:Kt} {j:Nat} {want:Bool} (hg:o.guard=some (j,want)) {d:Tmp} (hd:(ops[j]?).bind (·.dst)=some d) {f:Tr Value -> Value} (hf:∀ T,f T=cQ T d) {h:Kt} (hh:∀ ih r T D H n,h ih r T D H n=cS P G N ops (C8 o) k ih r T D H n) (ih r T D H n) :
  cS P G N ops o k ih r T D H n=OI want (f T) (h ih r T D H n) (match eZ N o.dst undef T with | some T=>k ih r T D H n | none=>none):=by
 rw [hh,hf]
 have e:cS P G N ops (C8 o) k ih r T D H n=match jH P G ih r o T H n with
  | none=>none
  | some (.val v H n)=>eF v λ v=>match eZ N o.dst v T with
   | some T=>k ih r T D H n
   | none=>none
  | some (.dfr d)=>match eZ N o.dst undef T with
   | some T=>k ih r T (d :: D) H n
   | none=>none:=by
  simp only [cS,ez,C8]
  rw [<- FT P G ih r T H n o]
  rfl
 rw [e]
 simp only [cS,ez,hg,hd]
 cases cQ T d with
 | bool b=>cases b <;> cases want <;> rfl
 | _=>rfl
theorem Lg {P:Program} {G N:Nat} {ops:Array Oper} {o:Oper} {k:Kt}:FR P G N ops o k (Lc P G N ops o (.mk k)):=by
 cases hg:o.guard with
 | none=>simp only [Lc,hg];exact Ar hg
 | some jw =>
  obtain ⟨j,want⟩:=jw
  cases hd:(ops[j]?).bind (·.dst) with
  | none=>simp only [Lc,hg,hd];exact dt
  | some d =>
   cases hf:ut (pth d) with
   | mk f=>cases hh:FQ P G N ops (C8 o) k with
    | mk h =>
     have hf':∀ T,f T=cQ T d:=λ T=>by have:=pP (pth d) T;rw [hf] at this;exact this
     have hh':=Ar (P:=P) (G:=G) (N:=N) (ops:=ops) (o:=C8 o) (k:=k) rfl
     rw [hh] at hh'
     cases hdk:gW N o.dst with
     | ok g =>
      simp only [Lc,hg,hd,hf,hh,hdk]
      intro ih r T D H n
      rw [qX hg hd hf' hh',Aj hdk]
      rfl
     | no =>
      simp only [Lc,hg,hd,hf,hh,hdk]
      intro ih r T D H n
      rw [qX hg hd hf' hh',Ak hdk]
      rfl
     | bad=>simp only [Lc,hg,hd,hf,hh,hdk];exact dt
theorem Au (P:Program) (G N:Nat) (ops:Array Oper):∀ l,CzR.okL P G N ops l (Cy P G N ops l).f
 | []=>λ ih r T D H n=>rfl
 | o :: l=>by
  have h:=Au P G N ops l
  cases hk:Cy P G N ops l with
  | mk k =>
   rw [hk] at h
   intro ih r T D H n
   simp only [Cy,hk]
   rw [Lg]
   exact IH h o ih r T D H n
def NX (P:Program) (G N:Nat) (c:Code) (ih:Ih) (r:Option Nat) (T:Tr Value) (D:List Deferred) (H:AH) (n:Nat):Option (Ex × St):=iQ P G ih r N c ⟨T,D,H,n⟩
def MM (k:Kt) (ih:Ih) (r:Option Nat) (T:Tr Value) (D:List Deferred) (H:AH) (n:Nat):Option (Ex × St):=match k ih r T D H n with
 | some s=>some (.normal,s)
 | none=>none
abbrev Kc:=Ih -> Option Nat -> Tr Value -> List Deferred -> AH -> Nat -> Option (Ex × St)
def OJ (x:Option (Ex × St)) (y:Tr Value -> List Deferred -> AH -> Nat -> Option (Ex × St)):Option (Ex × St):=match x with
 | some p=>match p with
  | (e,s)=>match e with
   | .normal=>match s with
    | ⟨T,D,H,n⟩=>y T D H n
   | .exit id=>some (.exit id,s)
   | .ret=>some (.ret,s)
 | none=>none
def MN (a b:Kc) (ih:Ih) (r:Option Nat) (T:Tr Value) (D:List Deferred) (H:AH) (n:Nat):Option (Ex × St):=OJ (a ih r T D H n) λ T D H n=>b ih r T D H n
def MO (u:Value) (x y:Option (Ex × St)):Option (Ex × St):=match u with
 | .bool b=>match b with
  | true=>x
  | false=>y
 | _=>none
def JR (f:Tr Value -> Value) (a b:Kc) (ih:Ih) (r:Option Nat) (T:Tr Value) (D:List Deferred) (H:AH) (n:Nat):Option (Ex × St):=MO (f T) (a ih r T D H n) (b ih r T D H n)
def MP (id:Nat) (x:Option (Ex × St)):Option (Ex × St):=match x with
 | some p=>match p with
  | (e,s)=>match e with
   | .exit id'=>match Nat.beq id' id with
    | true=>some (.normal,s)
    | false=>some (.exit id',s)
   | .normal=>some (.normal,s)
   | .ret=>some (.ret,s)
 | none=>none
def MQ (id:Nat) (a:Kc) (ih:Ih) (r:Option Nat) (T:Tr Value) (D:List Deferred) (H:AH) (n:Nat):Option (Ex × St):=MP id (a ih r T D H n)
def MR (x:Option (Ex × St)) (y:St -> Option Rs):Option (Ex × St):=match x with
 | some p=>match p with
  | (e,s)=>match e with
   | .normal=>match y s with
    | some q=>match q with
     | .cd e s=>some (e,s)
     | .fn _ _ _=>none
    | none=>none
   | .exit id=>some (.exit id,s)
   | .ret=>some (.ret,s)
 | none=>none
def MS (N:Nat) (c:Code) (a:Kc) (ih:Ih) (r:Option Nat) (T:Tr Value) (D:List Deferred) (H:AH) (n:Nat):Option (Ex × St):=MR (a ih r T D H n) λ s=>ih (.loop r N c s)
def gX (P:Program) (G N:Nat):Code -> CzC
 | .skip=>.mk λ _ _ T D H n=>some (.normal,⟨T,D,H,n⟩)
 | .label _=>.mk λ _ _ T D H n=>some (.normal,⟨T,D,H,n⟩)
 | .region id ops draw=>match draw with
  | false=>match Cy P G N ops ops.toList with
   | .mk k=>.mk (MM k)
  | true=>.mk (NX P G N (.region id ops true))
 | .seq a b=>match gX P G N a with
  | .mk fa=>match gX P G N b with
   | .mk fb=>.mk (MN fa fb)
 | .cond c a b=>match cv c with
  | .mk f=>match gX P G N a with
   | .mk fa=>match gX P G N b with
    | .mk fb=>.mk (JR f fa fb)
 | .block id c=>match gX P G N c with
  | .mk fa=>.mk (MQ id fa)
 | .loop c=>match gX P G N c with
  | .mk fa=>.mk (MS N c fa)
 | .rangeFunc g ps assign body=>.mk (NX P G N (.rangeFunc g ps assign body))
 | .exit id=>.mk λ _ _ T D H n=>some (.exit id,⟨T,D,H,n⟩)
 | .scope c=>gX P G N c
 | .goto l=>.mk (NX P G N (.goto l))
 | .ret=>.mk λ _ _ T D H n=>some (.ret,⟨T,D,H,n⟩)
 | .refuse x=>.mk (NX P G N (.refuse x))
def MT (P:Program) (G N:Nat) (c:Code) (f:Kc):Prop:=∀ ih r T D H n,f ih r T D H n=iQ P G ih r N c ⟨T,D,H,n⟩
theorem gY (P:Program) (G N:Nat):∀ c,MT P G N c (gX P G N c).f
 | .skip=>λ _ _ _ _ _ _=>rfl
 | .label _=>λ _ _ _ _ _ _=>rfl
 | .region id ops draw=>by
  cases draw with
  | true=>exact λ _ _ _ _ _ _=>rfl
  | false =>
   have h:=Au P G N ops ops.toList
   cases hk:Cy P G N ops ops.toList with
   | mk k =>
    rw [hk] at h
    intro ih r T D H n
    simp only [gX,hk,CzC.f,MM,iQ]
    have:=h ih r T D H n
    simp only [CzR.f] at this
    rw [this]
    cases lZ P G ih r N ops ops.toList ⟨T,D,H,n⟩ <;> rfl
 | .seq a b=>by
  have h1:=gY P G N a
  have h2:=gY P G N b
  cases ha:gX P G N a with
  | mk fa=>cases hb:gX P G N b with
   | mk fb =>
    rw [ha] at h1;rw [hb] at h2
    intro ih r T D H n
    have e1:=h1 ih r T D H n
    simp only [CzC.f] at e1
    simp only [gX,ha,hb,CzC.f,MN,iQ,e1]
    cases iQ P G ih r N a ⟨T,D,H,n⟩ with
    | none=>rfl
    | some p=>obtain ⟨e,s⟩:=p;cases e with
     | normal=>obtain ⟨T,D,H,n⟩:=s;exact h2 ih r T D H n
     | exit id=>rfl
     | ret=>rfl
 | .cond c a b=>by
  have h1:=gY P G N a
  have h2:=gY P G N b
  cases hc:cv c with
  | mk f=>cases ha:gX P G N a with
   | mk fa=>cases hb:gX P G N b with
    | mk fb =>
     rw [ha] at h1;rw [hb] at h2
     intro ih r T D H n
     simp only [gX,hc,ha,hb,CzC.f,JR,iQ,xA hc]
     cases ael T c with
     | bool q=>cases q with
      | true=>exact h1 ih r T D H n
      | false=>exact h2 ih r T D H n
     | _=>rfl
 | .block id c=>by
  have h1:=gY P G N c
  cases ha:gX P G N c with
  | mk fa =>
   rw [ha] at h1
   intro ih r T D H n
   have e1:=h1 ih r T D H n
   simp only [CzC.f] at e1
   simp only [gX,ha,CzC.f,MQ,iQ,e1]
   cases iQ P G ih r N c ⟨T,D,H,n⟩ with
   | none=>rfl
   | some p=>obtain ⟨e,s⟩:=p;cases e with
    | normal=>rfl
    | exit id'=>simp only [MP];cases Nat.beq id' id <;> rfl
    | ret=>rfl
 | .loop c=>by
  have h1:=gY P G N c
  cases ha:gX P G N c with
  | mk fa =>
   rw [ha] at h1
   intro ih r T D H n
   have e1:=h1 ih r T D H n
   simp only [CzC.f] at e1
   simp only [gX,ha,CzC.f,MS,iQ,e1]
   cases iQ P G ih r N c ⟨T,D,H,n⟩ with
   | none=>rfl
   | some p=>obtain ⟨e,s⟩:=p;cases e with
    | normal =>
     simp only [MR]
     cases ih (.loop r N c s) with
     | none=>rfl
     | some q=>cases q <;> rfl
    | exit id'=>rfl
    | ret=>rfl
 | .rangeFunc g ps assign body=>λ _ _ _ _ _ _=>rfl
 | .exit id=>λ _ _ _ _ _ _=>rfl
 | .scope c=>by
  intro ih r T D H n
  simp only [gX,iQ]
  exact gY P G N c ih r T D H n
 | .goto l=>λ _ _ _ _ _ _=>rfl
 | .ret=>λ _ _ _ _ _ _=>rfl
 | .refuse x=>λ _ _ _ _ _ _=>rfl
def IL:List ResultVar -> Option CzA
 | []=>some (.mk λ _=>[])
 | x :: l=>match x with
  | .tmp t=>match ut (pth t) with
   | .mk f=>match IL l with
    | some c=>match c with
     | .mk h=>some (.mk λ T=>f T :: h T)
    | none=>none
  | .cell _ _=>none
theorem FU (P:Program) (H:AH) (T:Tr Value):∀ {l:List ResultVar} {h},IL l=some (.mk h) -> ou P T H l=some (h T)
 | [],h,e=>by simp only [IL,Option.some.injEq,CzA.mk.injEq] at e;subst e;rfl
 | .cell _ _ :: l,h,e=>by simp [IL] at e
 | .tmp t :: l,h,e=>by
  simp only [IL] at e
  cases hf:ut (pth t) with
  | mk f =>
   rw [hf] at e
   simp only at e
   cases hl:IL l with
   | none=>rw [hl] at e;simp at e
   | some c=>cases c with
    | mk h' =>
     rw [hl] at e
     simp only [Option.some.injEq,CzA.mk.injEq] at e
     subst e
     have:=pP (pth t) T
     rw [hf] at this
     simp only [CzV.f] at this
     simp only [ou,FU P H T hl,this]
     rfl
def Lh (l:List Value):Nat -> Tr Value -> Tr Value:=List.rec (motive:=λ _=>Nat -> Tr Value -> Tr Value) (λ _ t=>t) (λ x _ ih i t=>eF x λ x=>ih (i+1) (dH undef x (pth i) t)) l
theorem Aw:∀ (l:List Value) (i:Nat) (t:Tr Value),Lh l i t=dC undef l i t
 | [],i,t=>rfl
 | x :: l,i,t=>by
  have:=Aw l (i+1) (dH undef x (pth i) t)
  show (eF x λ x=>Lh l (i+1) (dH undef x (pth i) t))=_
  rw [cz,this,dC]
  have e:Tr.set undef x t i=dH undef x (pth i) t:=rfl
  rw [e]
  cases dH undef x (pth i) t <;> rfl
def MU (h:List Value):Value:=match h with
 | []=>.tuple ⟨[]⟩
 | v :: l=>match l with
  | []=>v
  | w :: l=>.tuple ⟨v :: w :: l⟩
theorem IM (h:List Value):MU h=wx h:=by
 cases h with
 | nil=>rfl
 | cons v l=>cases l <;> rfl
def MW (P:Program) (fn:Func) (ih:Ih) (s:St):Option Rs:=match jX P ih s.D s.H s.n with
 | some (H,n)=>match ou P s.T H fn.results.toList with
  | some vs=>some (.fn (wx vs) H n)
  | none=>none
 | none=>none
def OL (P:Program) (fn:Func) (h:Tr Value -> List Value) (ih:Ih) (s:St):Option Rs:=match s with
 | ⟨T,D,H,n⟩=>match D with
  | []=>some (.fn (MU (h T)) H n)
  | d :: D=>MW P fn ih ⟨T,d :: D,H,n⟩
def fnR (x:Option (Ex × St)) (y:St -> Option Rs):Option Rs:=match x with
 | some p=>match p with
  | (e,s)=>match e with
   | .exit _=>none
   | .normal=>y s
   | .ret=>y s
 | none=>none
def NY (N:Nat) (k:Kc) (y:Ih -> St -> Option Rs) (ih:Ih) (args:List Value) (H:AH) (n:Nat):Option Rs:=match Nat.ble (fX args) N with
 | true=>fnR (k ih none (Lh args 0 .lf) [] H n) (y ih)
 | false=>none
def CB (P:Program) (G:Nat) (f:FuncId):CzF:=match qH P f with
 | some (fn,c)=>match gX P G fn.ntmps c with
  | .mk k=>match IL fn.results.toList with
   | some h=>match h with
    | .mk h=>.mk (NY fn.ntmps k (OL P fn h))
   | none=>.mk (NY fn.ntmps k (MW P fn))
 | none=>.mk λ _ _ _ _=>none
theorem Li {P:Program} {fn:Func} {h} (e:IL fn.results.toList=some (.mk h)) (ih:Ih) (s:St):OL P fn h ih s=MW P fn ih s:=by
 obtain ⟨T,D,H,n⟩:=s
 cases D with
 | cons d D=>rfl
 | nil=>simp only [OL,MW,jX,FU P H T e,IM]
theorem FV {P:Program} {G:Nat} {fn:Func} {c:Code} {f:FuncId} (hb:qH P f=some (fn,c)) {k:Kc} (hk:MT P G fn.ntmps c k) {y:Ih -> St -> Option Rs} (hy:∀ ih s,y ih s=MW P fn ih s) (ih:Ih) (args:List Value) (H:AH) (n:Nat):NY fn.ntmps k y ih args H n=gz P G ih (.fn f args H n):=by
 simp only [NY,gz,hb]
 cases Nat.ble (fX args) fn.ntmps with
 | false=>rfl
 | true =>
  simp only [hk ih,Aw]
  rw [show dC undef args 0 .lf=l7 args from rfl]
  cases iQ P G ih none fn.ntmps c ⟨l7 args,[],H,n⟩ with
  | none=>rfl
  | some p=>obtain ⟨e,s⟩:=p;cases e with
   | exit _=>rfl
   | normal=>exact hy ih s
   | ret=>exact hy ih s
theorem IO (P:Program) (G:Nat) (f:FuncId) (ih:Ih) (args:List Value) (H:AH) (n:Nat):(CB P G f).f ih args H n=gz P G ih (.fn f args H n):=by
 cases hb:qH P f with
 | none=>simp only [CB,hb,CzF.f,gz]
 | some p =>
  obtain ⟨fn,c⟩:=p
  have h1:=gY P G fn.ntmps c
  cases hk:gX P G fn.ntmps c with
  | mk k =>
   rw [hk] at h1
   cases hr:IL fn.results.toList with
   | none =>
    simp only [CB,hb,hk,hr,CzF.f]
    exact FV hb h1 (λ _ _=>rfl) ih args H n
   | some h=>cases h with
    | mk h =>
     simp only [CB,hb,hk,hr,CzF.f]
     exact FV hb h1 (λ ih s=>Li hr ih s) ih args H n
def wY (P:Program) (G:Nat) (ih:Ih) (t:Task):Option Rs:=match t with
 | .loop r N c s=>match gX P G N (.loop c) with
  | .mk k=>match s with
   | ⟨T,D,H,n⟩=>match k ih r T D H n with
    | some p=>match p with
     | (e,s)=>some (.cd e s)
    | none=>none
 | .fn f args H n=>match CB P G f with
  | .mk k=>k ih args H n
 | t=>gz P G ih t
theorem FW (P:Program) (G:Nat) (ih:Ih) (t:Task):wY P G ih t=gz P G ih t:=by
 cases t with
 | loop r N c s =>
  obtain ⟨T,D,H,n⟩:=s
  have h1:=gY P G N (.loop c)
  cases hk:gX P G N (.loop c) with
  | mk k =>
   rw [hk] at h1
   have:=h1 ih r T D H n
   simp only [CzC.f] at this
   simp only [wY,hk,gz,this]
   cases iQ P G ih r N (.loop c) ⟨T,D,H,n⟩ with
   | none=>rfl
   | some p=>rfl
 | fn f args H n =>
  have:=IO P G f ih args H n
  cases hk:CB P G f with
  | mk k =>
   rw [hk] at this
   simp only [wY,hk]
   exact this
 | _=>rfl
def FX (P:Program) (G:Nat) (k:Nat):Ih:=Nat.rec (motive:=λ _=>Ih) (λ _=>none) (λ _ ih t=>wY P G ih t) k
theorem Ay (P:Program) (G:Nat):∀ k,FX P G k=Fd P G k
 | 0=>rfl
 | k+1=>by
  funext t
  show wY P G (FX P G k) t=_
  rw [FW,Ay P G k]
  rfl
end
end Go.Proofs.YtgdcbiiopbpgaaaGreatDoor
