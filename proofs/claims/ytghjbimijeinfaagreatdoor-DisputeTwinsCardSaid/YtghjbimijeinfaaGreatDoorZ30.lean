import Derived.Test.YtghjbimijeinfaaGreatDoorZ29
import Derived.Test.YtghjbimijeinfaaGreatDoorZ28
set_option maxHeartbeats 4000000
set_option maxRecDepth 100000
set_option linter.unusedSimpArgs false
set_option linter.unusedVariables false
namespace Go.Proofs.YtghjbimijeinfaaGreatDoor
open Go.RowKit
noncomputable section
def NU (P:Program) (G N:Nat) (ops:Array Oper) (o:Oper) (k:Kt) (g:Value -> Tr Value -> Tr Value):CzR:=match o.op with
 | .move x=>match cv x with
  | .mk f=>.mk (Nb k g f)
 | .assign x=>match cv x with
  | .mk f=>.mk (Nb k g f)
 | .pick c a b=>match cv c with
  | .mk f=>match cv a with
   | .mk fa=>match cv b with
    | .mk fb=>.mk (E8 k g f fa fb)
 | .nilCheck x=>match cv x with
  | .mk f=>.mk (KF P G N ops o k g f)
 | .binOp op _ x y _=>match HW op with
  | some q=>match cv x with
   | .mk f1=>match cv y with
    | .mk f2=>.mk (KG P G N ops o k g q f1 f2)
  | none=>.mk (cL P G N ops o k)
 | .fieldAddr t x j=>match vO P t j with
  | some (c,_)=>match cv x with
   | .mk f=>.mk (KH k g c f)
  | none=>.mk (cL P G N ops o k)
 | .load t x=>match vN P t with
  | true=>match cv x with
   | .mk f=>.mk (NO k g f)
  | false=>match xW P t with
   | some c=>match cv x with
    | .mk f=>.mk (NP k g c f)
   | none=>.mk (cL P G N ops o k)
 | .alloc t=>match j8 P t with
  | some z=>match i8 z t with
   | .cells a b c d e=>.mk (alF k g (.cells a b c d e))
   | _=>.mk (cL P G N ops o k)
  | none=>.mk (cL P G N ops o k)
 | .indexAddr t x i=>match P.underlying t with
  | some (.slice el)=>match eK P el with
   | some c=>match cv x with
    | .mk f1=>match cv i with
     | .mk f2=>.mk (NQ k g c f1 f2)
   | none=>.mk (cL P G N ops o k)
  | _=>.mk (cL P G N ops o k)
 | .call c=>match c.callee with
  | .value (.func f)=>match qg P f with
   | true=>match ca c.args.toList with
    | .mk as=>.mk (NS k g f as)
   | false=>.mk (cL P G N ops o k)
  | _=>.mk (cL P G N ops o k)
 | _=>.mk (cL P G N ops o k)
def NV (P:Program) (G N:Nat) (ops:Array Oper) (o:Oper) (k:Kt):CzR:=match o.op with
 | .store t x y=>match eK P t with
  | some 1=>match cv x with
   | .mk f1=>match cv y with
    | .mk f2=>.mk (NR P G N ops o k f1 f2)
  | _=>.mk (cL P G N ops o k)
 | .call c=>match c.callee with
  | .value (.func f)=>match qg P f with
   | true=>match ca c.args.toList with
    | .mk as=>.mk (NT k f as)
   | false=>.mk (cL P G N ops o k)
  | _=>.mk (cL P G N ops o k)
 | _=>.mk (cL P G N ops o k)
def Fb (P:Program) (G N:Nat) (ops:Array Oper) (o:Oper) (k:Kt):CzR:=match my G o with
 | true=>match gQ N o.dst with
  | .ok g=>NU P G N ops o k g
  | .no=>NV P G N ops o k
  | .bad=>.mk (cL P G N ops o k)
 | false=>.mk (cL P G N ops o k)
def CI (o:Oper):Oper:=⟨o.dst,o.op,o.type,o.pos,o.after,none⟩
def NW (want:Bool) (u:Value) (x y:Option St):Option St:=match u with
 | .bool b=>match b with
  | true=>match want with
   | true=>x
   | false=>y
  | false=>match want with
   | true=>y
   | false=>x
 | .tuple _=>y
 | _=>none
def guF (want:Bool) (f:Tr Value -> Value) (h:Kt) (k:Kt) (g:Value -> Tr Value -> Tr Value) (ih:Ih) (r:Option Nat) (T:Tr Value) (D:List Deferred) (H:AH) (n:Nat):Option St:=NW want (f T) (h ih r T D H n) (k ih r (g undef T) D H n)
def guN (want:Bool) (f:Tr Value -> Value) (h:Kt) (k:Kt) (ih:Ih) (r:Option Nat) (T:Tr Value) (D:List Deferred) (H:AH) (n:Nat):Option St:=NW want (f T) (h ih r T D H n) (k ih r T D H n)
def KO (P:Program) (G N:Nat) (ops:Array Oper) (o:Oper) (nx:CzR):CzR:=match nx with
 | .mk k=>match o.guard with
  | none=>Fb P G N ops o k
  | some (j,want)=>match (ops[j]?).bind (·.dst) with
   | some d=>match tY (pth d) with
    | .mk f=>match Fb P G N ops (CI o) k with
     | .mk h=>match gQ N o.dst with
      | .ok g=>.mk (guF want f h k g)
      | .no=>.mk (guN want f h k)
      | .bad=>.mk (cL P G N ops o k)
   | none=>.mk (cL P G N ops o k)
def B9 (P:Program) (G N:Nat) (ops:Array Oper):List Oper -> CzR
 | []=>.mk λ _ _ T D H n=>some ⟨T,D,H,n⟩
 | o :: l=>KO P G N ops o (B9 P G N ops l)
def Fc (P:Program) (G N:Nat) (ops:Array Oper) (o:Oper) (k:Kt) (c:CzR):Prop:=∀ ih r T D H n,c.f ih r T D H n=cL P G N ops o k ih r T D H n
theorem di {P:Program} {G N:Nat} {ops:Array Oper} {o:Oper} {k:Kt}:Fc P G N ops o k (.mk (cL P G N ops o k)):=λ _ _ _ _ _ _=>rfl
theorem wY {x:Operand} {f} (h:cv x=.mk f) (T:Tr Value):f T=ael T x:=by
 have:=Jn x T;rw [h] at this;exact this
theorem cam {x:List Operand} {f} (h:ca x=.mk f) (T:Tr Value):f T=md T x:=by
 have:=Jo x T;rw [h] at this;exact this
theorem KP {P:Program} {G N:Nat} {ops:Array Oper} {o:Oper} {k:Kt} {g} (hg:o.guard=none) (ho:my G o=true) (hd:gQ N o.dst=.ok g):Fc P G N ops o k (NU P G N ops o k g):=by
 unfold NU
 split
 ·rename_i x hx
  split;rename_i f hf
  exact λ ih r T D H n=>Jp hg ho hd (.inl hx) (wY hf) ih r T D H n
 ·rename_i x hx
  split;rename_i f hf
  exact λ ih r T D H n=>Jp hg ho hd (.inr hx) (wY hf) ih r T D H n
 ·rename_i c a b hx
  split;rename_i f hf
  split;rename_i fa hfa
  split;rename_i fb hfb
  exact λ ih r T D H n=>HY hg ho hd hx (wY hf) (wY hfa) (wY hfb) ih r T D H n
 ·rename_i x hx
  split;rename_i f hf
  exact λ ih r T D H n=>KJ hg ho hd hx (wY hf) ih r T D H n
 ·rename_i op t x y z hx
  split
  ·rename_i q hq
   split;rename_i f hf
   split;rename_i f2 hf2
   exact λ ih r T D H n=>KL hg ho hd hx hq (wY hf) (wY hf2) ih r T D H n
  ·exact di
 ·rename_i t x j hx
  split
  ·rename_i c ft hc
   split;rename_i f hf
   exact λ ih r T D H n=>KM hg ho hd hx hc (wY hf) ih r T D H n
  ·exact di
 ·rename_i t x hx
  split
  ·rename_i hc
   split;rename_i f hf
   exact λ ih r T D H n=>Mo hg ho hd hx hc (wY hf) ih r T D H n
  ·rename_i hc
   split
   ·rename_i c ha
    split;rename_i f hf
    exact λ ih r T D H n=>Mp hg ho hd hx hc ha (wY hf) ih r T D H n
   ·exact di
 ·rename_i t hx
  split
  ·rename_i z hz
   split
   ·rename_i a b c d e hb
    exact λ ih r T D H n=>Mq hg ho hd hx hz hb ih r T D H n
   ·exact di
  ·exact di
 ·rename_i t x i hx
  split
  ·rename_i el ht
   split
   ·rename_i c hc
    split;rename_i f hf
    split;rename_i f2 hf2
    exact λ ih r T D H n=>Mr hg ho hd hx ht hc (wY hf) (wY hf2) ih r T D H n
   ·exact di
  ·exact di
 ·rename_i c hx
  split
  ·rename_i f hc
   split
   ·rename_i hb
    split;rename_i as ha
    exact λ ih r T D H n=>Mt hg ho hd hx hc hb (cam ha) ih r T D H n
   ·exact di
  ·exact di
 ·exact di
theorem KQ {P:Program} {G N:Nat} {ops:Array Oper} {o:Oper} {k:Kt} (hg:o.guard=none) (ho:my G o=true) (hd:gQ N o.dst=.no):Fc P G N ops o k (NV P G N ops o k):=by
 unfold NV
 split
 ·rename_i t x y hx
  split
  ·rename_i hc
   split;rename_i f hf
   split;rename_i f2 hf2
   exact λ ih r T D H n=>Ms hg ho hd hx hc (wY hf) (wY hf2) ih r T D H n
  ·exact di
 ·rename_i c hx
  split
  ·rename_i f hc
   split
   ·rename_i hb
    split;rename_i as ha
    exact λ ih r T D H n=>KN hg ho hd hx hc hb (cam ha) ih r T D H n
   ·exact di
  ·exact di
 ·exact di
theorem z7 {P:Program} {G N:Nat} {ops:Array Oper} {o:Oper} {k:Kt} (hg:o.guard=none):Fc P G N ops o k (Fb P G N ops o k):=by
 unfold Fb
 split
 ·rename_i ho
  split
  ·rename_i g hd
   exact KP hg ho hd
  ·rename_i hd
   exact KQ hg ho hd
  ·exact di
 ·exact di
theorem ml (P:Program) (T:Tr Value) (o:Oper):fU P T (CI o)=fU P T o:=by
 have e:execOp (ael T) (CI o)=execOp (ael T) o:=by
  obtain ⟨dst,op,type,pos,after,guard⟩:=o
  cases op <;> rfl
 unfold fU
 rw [e]
 rfl
theorem Ca (P:Program) (T:Tr Value) (o:Oper):gj P (CI o) T=gj P o T:=by
 unfold gj
 simp only [ml]
 rfl
theorem Cb (P:Program) (T:Tr Value) (H:AH) (o:Oper):iU P (CI o) T H=iU P o T H:=by
 unfold iU
 simp only [ml]
 rfl
theorem Fd (P:Program) (T:Tr Value) (H:AH) (n:Nat) (o:Oper):me P (CI o) T H n=me P o T H n:=by
 unfold me
 simp only [ml]
 rfl
theorem Ff (P:Program) (G:Nat) (ih:Ih) (r:Option Nat) (T:Tr Value) (H:AH) (n:Nat) (o:Oper):js P G ih r (CI o) T H n=js P G ih r o T H n:=by
 unfold js zK
 simp only [Ca,Cb,Fd]
 rfl
theorem qE {P:Program} {G N:Nat} {ops:Array Oper} {o:Oper} {k:Kt} {j:Nat} {want:Bool} (hg:o.guard=some (j,want)) {d:Tmp} (hd:(ops[j]?).bind (·.dst)=some d) {f:Tr Value -> Value} (hf:∀ T,f T=cJ T d) {h:Kt} (hh:∀ ih r T D H n,h ih r T D H n=cL P G N ops (CI o) k ih r T D H n) (ih r T D H n) :
  cL P G N ops o k ih r T D H n=NW want (f T) (h ih r T D H n) (match eV N o.dst undef T with | some T=>k ih r T D H n | none=>none):=by
 rw [hh,hf]
 have e:cL P G N ops (CI o) k ih r T D H n=match js P G ih r o T H n with
  | none=>none
  | some (.val v H n)=>ep v λ v=>match eV N o.dst v T with
   | some T=>k ih r T D H n
   | none=>none
  | some (.dfr d)=>match eV N o.dst undef T with
   | some T=>k ih r T (d :: D) H n
   | none=>none:=by
  simp only [cL,d8,CI]
  rw [<- Ff P G ih r T H n o]
  rfl
 rw [e]
 simp only [cL,d8,hg,hd]
 cases cJ T d with
 | bool b=>cases b <;> cases want <;> rfl
 | _=>rfl
theorem KR {P:Program} {G N:Nat} {ops:Array Oper} {o:Oper} {k:Kt}:Fc P G N ops o k (KO P G N ops o (.mk k)):=by
 cases hg:o.guard with
 | none=>simp only [KO,hg];exact z7 hg
 | some jw =>
  obtain ⟨j,want⟩:=jw
  cases hd:(ops[j]?).bind (·.dst) with
  | none=>simp only [KO,hg,hd];exact di
  | some d =>
   cases hf:tY (pth d) with
   | mk f=>cases hh:Fb P G N ops (CI o) k with
    | mk h =>
     have hf':∀ T,f T=cJ T d:=λ T=>by have:=pp (pth d) T;rw [hf] at this;exact this
     have hh':=z7 (P:=P) (G:=G) (N:=N) (ops:=ops) (o:=CI o) (k:=k) rfl
     rw [hh] at hh'
     cases hdk:gQ N o.dst with
     | ok g =>
      simp only [KO,hg,hd,hf,hh,hdk]
      intro ih r T D H n
      rw [qE hg hd hf' hh',zU hdk]
      rfl
     | no =>
      simp only [KO,hg,hd,hf,hh,hdk]
      intro ih r T D H n
      rw [qE hg hd hf' hh',zV hdk]
      rfl
     | bad=>simp only [KO,hg,hd,hf,hh,hdk];exact di
theorem z8 (P:Program) (G N:Nat) (ops:Array Oper):∀ l,CzR.okL P G N ops l (B9 P G N ops l).f
 | []=>λ ih r T D H n=>rfl
 | o :: l=>by
  have h:=z8 P G N ops l
  cases hk:B9 P G N ops l with
  | mk k =>
   rw [hk] at h
   intro ih r T D H n
   simp only [B9,hk]
   rw [KR]
   exact HV h o ih r T D H n
def Nd (P:Program) (G N:Nat) (c:Code) (ih:Ih) (r:Option Nat) (T:Tr Value) (D:List Deferred) (H:AH) (n:Nat):Option (Ex × St):=iE P G ih r N c ⟨T,D,H,n⟩
def Mu (k:Kt) (ih:Ih) (r:Option Nat) (T:Tr Value) (D:List Deferred) (H:AH) (n:Nat):Option (Ex × St):=match k ih r T D H n with
 | some s=>some (.normal,s)
 | none=>none
abbrev Kc:=Ih -> Option Nat -> Tr Value -> List Deferred -> AH -> Nat -> Option (Ex × St)
def NX (x:Option (Ex × St)) (y:Tr Value -> List Deferred -> AH -> Nat -> Option (Ex × St)):Option (Ex × St):=match x with
 | some p=>match p with
  | (e,s)=>match e with
   | .normal=>match s with
    | ⟨T,D,H,n⟩=>y T D H n
   | .exit id=>some (.exit id,s)
   | .ret=>some (.ret,s)
 | none=>none
def Mv (a b:Kc) (ih:Ih) (r:Option Nat) (T:Tr Value) (D:List Deferred) (H:AH) (n:Nat):Option (Ex × St):=NX (a ih r T D H n) λ T D H n=>b ih r T D H n
def Mw (u:Value) (x y:Option (Ex × St)):Option (Ex × St):=match u with
 | .bool b=>match b with
  | true=>x
  | false=>y
 | _=>none
def Jq (f:Tr Value -> Value) (a b:Kc) (ih:Ih) (r:Option Nat) (T:Tr Value) (D:List Deferred) (H:AH) (n:Nat):Option (Ex × St):=Mw (f T) (a ih r T D H n) (b ih r T D H n)
def Mx (id:Nat) (x:Option (Ex × St)):Option (Ex × St):=match x with
 | some p=>match p with
  | (e,s)=>match e with
   | .exit id'=>match Nat.beq id' id with
    | true=>some (.normal,s)
    | false=>some (.exit id',s)
   | .normal=>some (.normal,s)
   | .ret=>some (.ret,s)
 | none=>none
def My (id:Nat) (a:Kc) (ih:Ih) (r:Option Nat) (T:Tr Value) (D:List Deferred) (H:AH) (n:Nat):Option (Ex × St):=Mx id (a ih r T D H n)
def Mz (x:Option (Ex × St)) (y:St -> Option Rs):Option (Ex × St):=match x with
 | some p=>match p with
  | (e,s)=>match e with
   | .normal=>match y s with
    | some q=>match q with
     | .cd e s=>some (e,s)
     | .fn _ _ _=>none
    | none=>none
   | .exit id=>some (.exit id,s)
   | .ret=>some (.ret,s)
 | none=>none
def MA (N:Nat) (c:Code) (a:Kc) (ih:Ih) (r:Option Nat) (T:Tr Value) (D:List Deferred) (H:AH) (n:Nat):Option (Ex × St):=Mz (a ih r T D H n) λ s=>ih (.loop r N c s)
def gR (P:Program) (G N:Nat):Code -> CzC
 | .skip=>.mk λ _ _ T D H n=>some (.normal,⟨T,D,H,n⟩)
 | .label _=>.mk λ _ _ T D H n=>some (.normal,⟨T,D,H,n⟩)
 | .region id ops draw=>match draw with
  | false=>match B9 P G N ops ops.toList with
   | .mk k=>.mk (Mu k)
  | true=>.mk (Nd P G N (.region id ops true))
 | .seq a b=>match gR P G N a with
  | .mk fa=>match gR P G N b with
   | .mk fb=>.mk (Mv fa fb)
 | .cond c a b=>match cv c with
  | .mk f=>match gR P G N a with
   | .mk fa=>match gR P G N b with
    | .mk fb=>.mk (Jq f fa fb)
 | .block id c=>match gR P G N c with
  | .mk fa=>.mk (My id fa)
 | .loop c=>match gR P G N c with
  | .mk fa=>.mk (MA N c fa)
 | .rangeFunc g ps assign body=>.mk (Nd P G N (.rangeFunc g ps assign body))
 | .exit id=>.mk λ _ _ T D H n=>some (.exit id,⟨T,D,H,n⟩)
 | .scope c=>gR P G N c
 | .goto l=>.mk (Nd P G N (.goto l))
 | .ret=>.mk λ _ _ T D H n=>some (.ret,⟨T,D,H,n⟩)
 | .refuse x=>.mk (Nd P G N (.refuse x))
def MB (P:Program) (G N:Nat) (c:Code) (f:Kc):Prop:=∀ ih r T D H n,f ih r T D H n=iE P G ih r N c ⟨T,D,H,n⟩
theorem gS (P:Program) (G N:Nat):∀ c,MB P G N c (gR P G N c).f
 | .skip=>λ _ _ _ _ _ _=>rfl
 | .label _=>λ _ _ _ _ _ _=>rfl
 | .region id ops draw=>by
  cases draw with
  | true=>exact λ _ _ _ _ _ _=>rfl
  | false =>
   have h:=z8 P G N ops ops.toList
   cases hk:B9 P G N ops ops.toList with
   | mk k =>
    rw [hk] at h
    intro ih r T D H n
    simp only [gR,hk,CzC.f,Mu,iE]
    have:=h ih r T D H n
    simp only [CzR.f] at this
    rw [this]
    cases lL P G ih r N ops ops.toList ⟨T,D,H,n⟩ <;> rfl
 | .seq a b=>by
  have h1:=gS P G N a
  have h2:=gS P G N b
  cases ha:gR P G N a with
  | mk fa=>cases hb:gR P G N b with
   | mk fb =>
    rw [ha] at h1;rw [hb] at h2
    intro ih r T D H n
    have e1:=h1 ih r T D H n
    simp only [CzC.f] at e1
    simp only [gR,ha,hb,CzC.f,Mv,iE,e1]
    cases iE P G ih r N a ⟨T,D,H,n⟩ with
    | none=>rfl
    | some p=>obtain ⟨e,s⟩:=p;cases e with
     | normal=>obtain ⟨T,D,H,n⟩:=s;exact h2 ih r T D H n
     | exit id=>rfl
     | ret=>rfl
 | .cond c a b=>by
  have h1:=gS P G N a
  have h2:=gS P G N b
  cases hc:cv c with
  | mk f=>cases ha:gR P G N a with
   | mk fa=>cases hb:gR P G N b with
    | mk fb =>
     rw [ha] at h1;rw [hb] at h2
     intro ih r T D H n
     simp only [gR,hc,ha,hb,CzC.f,Jq,iE,wY hc]
     cases ael T c with
     | bool q=>cases q with
      | true=>exact h1 ih r T D H n
      | false=>exact h2 ih r T D H n
     | _=>rfl
 | .block id c=>by
  have h1:=gS P G N c
  cases ha:gR P G N c with
  | mk fa =>
   rw [ha] at h1
   intro ih r T D H n
   have e1:=h1 ih r T D H n
   simp only [CzC.f] at e1
   simp only [gR,ha,CzC.f,My,iE,e1]
   cases iE P G ih r N c ⟨T,D,H,n⟩ with
   | none=>rfl
   | some p=>obtain ⟨e,s⟩:=p;cases e with
    | normal=>rfl
    | exit id'=>simp only [Mx];cases Nat.beq id' id <;> rfl
    | ret=>rfl
 | .loop c=>by
  have h1:=gS P G N c
  cases ha:gR P G N c with
  | mk fa =>
   rw [ha] at h1
   intro ih r T D H n
   have e1:=h1 ih r T D H n
   simp only [CzC.f] at e1
   simp only [gR,ha,CzC.f,MA,iE,e1]
   cases iE P G ih r N c ⟨T,D,H,n⟩ with
   | none=>rfl
   | some p=>obtain ⟨e,s⟩:=p;cases e with
    | normal =>
     simp only [Mz]
     cases ih (.loop r N c s) with
     | none=>rfl
     | some q=>cases q <;> rfl
    | exit id'=>rfl
    | ret=>rfl
 | .rangeFunc g ps assign body=>λ _ _ _ _ _ _=>rfl
 | .exit id=>λ _ _ _ _ _ _=>rfl
 | .scope c=>by
  intro ih r T D H n
  simp only [gR,iE]
  exact gS P G N c ih r T D H n
 | .goto l=>λ _ _ _ _ _ _=>rfl
 | .ret=>λ _ _ _ _ _ _=>rfl
 | .refuse x=>λ _ _ _ _ _ _=>rfl
def HZ:List ResultVar -> Option CzA
 | []=>some (.mk λ _=>[])
 | x :: l=>match x with
  | .tmp t=>match tY (pth t) with
   | .mk f=>match HZ l with
    | some c=>match c with
     | .mk h=>some (.mk λ T=>f T :: h T)
    | none=>none
  | .cell _ _=>none
theorem Fg (P:Program) (H:AH) (T:Tr Value):∀ {l:List ResultVar} {h},HZ l=some (.mk h) -> nL P T H l=some (h T)
 | [],h,e=>by simp only [HZ,Option.some.injEq,CzA.mk.injEq] at e;subst e;rfl
 | .cell _ _ :: l,h,e=>by simp [HZ] at e
 | .tmp t :: l,h,e=>by
  simp only [HZ] at e
  cases hf:tY (pth t) with
  | mk f =>
   rw [hf] at e
   simp only at e
   cases hl:HZ l with
   | none=>rw [hl] at e;simp at e
   | some c=>cases c with
    | mk h' =>
     rw [hl] at e
     simp only [Option.some.injEq,CzA.mk.injEq] at e
     subst e
     have:=pp (pth t) T
     rw [hf] at this
     simp only [CzV.f] at this
     simp only [nL,Fg P H T hl,this]
     rfl
def KS (l:List Value):Nat -> Tr Value -> Tr Value:=List.rec (motive:=λ _=>Nat -> Tr Value -> Tr Value) (λ _ t=>t) (λ x _ ih i t=>ep x λ x=>ih (i+1) (dE undef x (pth i) t)) l
theorem Ac:∀ (l:List Value) (i:Nat) (t:Tr Value),KS l i t=dt undef l i t
 | [],i,t=>rfl
 | x :: l,i,t=>by
  have:=Ac l (i+1) (dE undef x (pth i) t)
  show (ep x λ x=>KS l (i+1) (dE undef x (pth i) t))=_
  rw [cw,this,dt]
  have e:Tr.set undef x t i=dE undef x (pth i) t:=rfl
  rw [e]
  cases dE undef x (pth i) t <;> rfl
def MC (h:List Value):Value:=match h with
 | []=>.tuple ⟨[]⟩
 | v :: l=>match l with
  | []=>v
  | w :: l=>.tuple ⟨v :: w :: l⟩
theorem H4 (h:List Value):MC h=vX h:=by
 cases h with
 | nil=>rfl
 | cons v l=>cases l <;> rfl
def MD (P:Program) (fn:Func) (ih:Ih) (s:St):Option Rs:=match jO P ih s.D s.H s.n with
 | some (H,n)=>match nL P s.T H fn.results.toList with
  | some vs=>some (.fn (vX vs) H n)
  | none=>none
 | none=>none
def NY (P:Program) (fn:Func) (h:Tr Value -> List Value) (ih:Ih) (s:St):Option Rs:=match s with
 | ⟨T,D,H,n⟩=>match D with
  | []=>some (.fn (MC (h T)) H n)
  | d :: D=>MD P fn ih ⟨T,d :: D,H,n⟩
def fnR (x:Option (Ex × St)) (y:St -> Option Rs):Option Rs:=match x with
 | some p=>match p with
  | (e,s)=>match e with
   | .exit _=>none
   | .normal=>y s
   | .ret=>y s
 | none=>none
def Nf (N:Nat) (k:Kc) (y:Ih -> St -> Option Rs) (ih:Ih) (args:List Value) (H:AH) (n:Nat):Option Rs:=match Nat.ble (fT args) N with
 | true=>fnR (k ih none (KS args 0 .lf) [] H n) (y ih)
 | false=>none
def Cc (P:Program) (G:Nat) (f:FuncId):CzF:=match qk P f with
 | some (fn,c)=>match gR P G fn.ntmps c with
  | .mk k=>match HZ fn.results.toList with
   | some h=>match h with
    | .mk h=>.mk (Nf fn.ntmps k (NY P fn h))
   | none=>.mk (Nf fn.ntmps k (MD P fn))
 | none=>.mk λ _ _ _ _=>none
theorem KT {P:Program} {fn:Func} {h} (e:HZ fn.results.toList=some (.mk h)) (ih:Ih) (s:St):NY P fn h ih s=MD P fn ih s:=by
 obtain ⟨T,D,H,n⟩:=s
 cases D with
 | cons d D=>rfl
 | nil=>simp only [NY,MD,jO,Fg P H T e,H4]
theorem Fh {P:Program} {G:Nat} {fn:Func} {c:Code} {f:FuncId} (hb:qk P f=some (fn,c)) {k:Kc} (hk:MB P G fn.ntmps c k) {y:Ih -> St -> Option Rs} (hy:∀ ih s,y ih s=MD P fn ih s) (ih:Ih) (args:List Value) (H:AH) (n:Nat):Nf fn.ntmps k y ih args H n=gm P G ih (.fn f args H n):=by
 simp only [Nf,gm,hb]
 cases Nat.ble (fT args) fn.ntmps with
 | false=>rfl
 | true =>
  simp only [hk ih,Ac]
  rw [show dt undef args 0 .lf=lM args from rfl]
  cases iE P G ih none fn.ntmps c ⟨lM args,[],H,n⟩ with
  | none=>rfl
  | some p=>obtain ⟨e,s⟩:=p;cases e with
   | exit _=>rfl
   | normal=>exact hy ih s
   | ret=>exact hy ih s
theorem H5 (P:Program) (G:Nat) (f:FuncId) (ih:Ih) (args:List Value) (H:AH) (n:Nat):(Cc P G f).f ih args H n=gm P G ih (.fn f args H n):=by
 cases hb:qk P f with
 | none=>simp only [Cc,hb,CzF.f,gm]
 | some p =>
  obtain ⟨fn,c⟩:=p
  have h1:=gS P G fn.ntmps c
  cases hk:gR P G fn.ntmps c with
  | mk k =>
   rw [hk] at h1
   cases hr:HZ fn.results.toList with
   | none =>
    simp only [Cc,hb,hk,hr,CzF.f]
    exact Fh hb h1 (λ _ _=>rfl) ih args H n
   | some h=>cases h with
    | mk h =>
     simp only [Cc,hb,hk,hr,CzF.f]
     exact Fh hb h1 (λ ih s=>KT hr ih s) ih args H n
def wE (P:Program) (G:Nat) (ih:Ih) (t:Task):Option Rs:=match t with
 | .loop r N c s=>match gR P G N (.loop c) with
  | .mk k=>match s with
   | ⟨T,D,H,n⟩=>match k ih r T D H n with
    | some p=>match p with
     | (e,s)=>some (.cd e s)
    | none=>none
 | .fn f args H n=>match Cc P G f with
  | .mk k=>k ih args H n
 | t=>gm P G ih t
theorem Fi (P:Program) (G:Nat) (ih:Ih) (t:Task):wE P G ih t=gm P G ih t:=by
 cases t with
 | loop r N c s =>
  obtain ⟨T,D,H,n⟩:=s
  have h1:=gS P G N (.loop c)
  cases hk:gR P G N (.loop c) with
  | mk k =>
   rw [hk] at h1
   have:=h1 ih r T D H n
   simp only [CzC.f] at this
   simp only [wE,hk,gm,this]
   cases iE P G ih r N (.loop c) ⟨T,D,H,n⟩ with
   | none=>rfl
   | some p=>rfl
 | fn f args H n =>
  have:=H5 P G f ih args H n
  cases hk:Cc P G f with
  | mk k =>
   rw [hk] at this
   simp only [wE,hk]
   exact this
 | _=>rfl
def oV (P:Program) (G:Nat) (k:Nat):Ih:=Nat.rec (motive:=λ _=>Ih) (λ _=>none) (λ _ ih t=>wE P G ih t) k
theorem pq (P:Program) (G:Nat):∀ k,oV P G k=EE P G k
 | 0=>rfl
 | k+1=>by
  funext t
  show wE P G (oV P G k) t=_
  rw [Fi,pq P G k]
  rfl
end
noncomputable section
def ls (ν:Nu) (h:Nat):Nat:=match ν h with
 | some (b,_)=>b
 | none=>0
def NZ (ν:Nu) (h c:Nat):Nat:=match Nat.blt c kZ with
 | true=>c
 | false=>match ν h with
  | some (_,K)=>K - (c - kZ)
  | none=>0
mutual
def kh (ν:Nu):Value -> Value
 | .pointer (some a)=>.pointer (some ⟨ls ν a.block,a.off,none⟩)
 | .slice (some a) n c=>.slice (some ⟨ls ν a.block,a.off,none⟩) n (NZ ν a.block c)
 | .map (some h)=>.map (some (ls ν h))
 | .iface t v=>.iface t (kh ν v)
 | .agg c=>.agg (Fj ν c)
 | .tuple c=>.tuple (Fj ν c)
 | v=>v
def Fj (ν:Nu):Array Value -> Array Value
 | ⟨l⟩=>⟨qF ν l⟩
def qF (ν:Nu):List Value -> List Value
 | []=>[]
 | v :: l=>kh ν v :: qF ν l
end
mutual
def kO:Value -> Bool
 | .iface _ v=>kO v
 | .func f a c=>pl (.func f a c)
 | .agg c=>Jr c
 | .tuple c=>Jr c
 | .chan _=>false
 | _=>true
def Jr:Array Value -> Bool
 | ⟨l⟩=>Cd l
def Cd:List Value -> Bool
 | []=>true
 | v :: l=>match kO v with
  | true=>Cd l
  | false=>false
end
theorem tZ {ν:Nu}:∀ {l l':List Value},l.length=l'.length -> (∀ (i:Nat) (v v':Value),l[i]?=some v -> l'[i]?=some v' -> kO v=true -> v'=kh ν v) -> Cd l=true -> l'=qF ν l
 | [],[],_,_,_=>rfl
 | [],_ :: _,e,_,_=>by simp at e
 | _ :: _,[],e,_,_=>by simp at e
 | v :: l,v' :: l',e,h,ho=>by
  rw [Cd] at ho
  cases hv:kO v with
  | false=>rw [hv] at ho;cases ho
  | true =>
   rw [hv] at ho
   have a1:=h 0 v v' rfl rfl hv
   have a2:=tZ (l:=l) (l':=l') (by simpa using e) (λ i a b h1 h2=>h (i+1) a b (by simpa using h1) (by simpa using h2)) ho
   rw [qF,<- a1,<- a2]
theorem pr {ν:Nu} {v v':Value} (h:VRi ν v v'):kO v=true -> v'=kh ν v:=by
 induction h with
 | atom v h =>
  intro _
  cases v with
  | pointer a=>cases a with
   | none=>rfl
   | some a=>simp [cg] at h
  | slice a n c=>cases a with
   | none=>rfl
   | some a=>simp [cg] at h
  | map r=>cases r with
   | none=>rfl
   | some r=>simp [cg] at h
  | iface t v=>simp [cg] at h
  | agg c=>simp [cg] at h
  | tuple c=>simp [cg] at h
  | _=>rfl
 | ptr o h=>intro _;simp [kh,ls,h]
 | @slice hd b K c c' o n h hc =>
  intro _
  simp only [kh,ls,NZ,h]
  congr 1
  cases hb:Nat.blt c kZ with
  | true=>exact hc.1 (Eq.mp Nat.blt_eq hb)
  | false =>
   have h2:=hc.2 (j9 hb)
   simp only
   omega
 | map h=>intro _;simp [kh,ls,h]
 | func hf e1 h1 e2 h2 _ _ =>
  intro ho
  have:=VRi.plain_eq (VRi.func hf e1 h1 e2 h2) (by simpa only [kO] using ho)
  rw [this];rfl
 | iface t _ ih=>intro ho;rw [kh,<- ih (by simpa only [kO] using ho)]
 | @agg c c' e _ ih =>
  intro ho
  obtain ⟨l⟩:=c
  obtain ⟨l'⟩:=c'
  simp only [List.getElem?_toArray] at ih
  rw [kh,Fj,tZ (l:=l) (l':=l') e ih (by simpa only [kO,Jr] using ho)]
 | @tuple c c' e _ ih =>
  intro ho
  obtain ⟨l⟩:=c
  obtain ⟨l'⟩:=c'
  simp only [List.getElem?_toArray] at ih
  rw [kh,Fj,tZ (l:=l) (l':=l') e ih (by simpa only [kO,Jr] using ho)]
theorem H6 {ν:Nu} {l l':List Value} (h:LR ν l l'):Cd l=true -> l'=l.map (kh ν):=by
 induction h with
 | nil=>intro _;rfl
 | @cons v v' l l' h _ ih =>
  intro ho
  rw [Cd] at ho
  cases hv:kO v with
  | false=>rw [hv] at ho;cases ho
  | true =>
   rw [hv] at ho
   rw [List.map_cons,pr h hv,ih ho]
abbrev PB:=Nat × List Value × TypeId
def H7 (H:AH) (p:PB):Bool:=match br H p.1 with
 | some (.cells n t ty _ _)=>match Nat.beq n (fT p.2.1),Nat.beq ty p.2.2 with
  | true,true=>match oU (gl t 0 n) p.2.1 with
   | true=>Cd p.2.1
   | false=>false
  | _,_=>false
 | _=>false
def Ad (H:AH):List PB -> Bool
 | []=>true
 | p :: l=>match H7 H p with
  | true=>Ad H l
  | false=>false
def nU (ν:Nu) (w:World) (p:PB):List Value:=match w.heap[ls ν p.1]? with
 | some (.cells c _ _)=>c.toList.drop p.2.1.length
 | _=>[]
def qG (ν:Nu) (rest:PB -> List Value) (p:PB):Nat × Blk:=(ls ν p.1,.lit (p.2.1.map (kh ν)++rest p) p.2.2 (0,0))
theorem Ae (l l':List Value) (h:oU l l'=true):l=l':=by
 induction l generalizing l' with
 | nil=>cases l' with
  | nil=>rfl
  | cons v l'=>simp [oU] at h
 | cons v l ih=>cases l' with
  | nil=>simp [oU] at h
  | cons v' l' =>
   rw [oU] at h
   cases hv:qY v v' with
   | false=>rw [hv] at h;cases h
   | true=>rw [hv] at h;rw [yp _ _ hv,ih _ h]
theorem Fk {ν:Nu} {H:AH} {F:HL} {w:World} (hH:HR ν H F w) {p:PB} (hc:H7 H p=true) :
  (∃ K,ν p.1=some (ls ν p.1,K)) /\ (∃ b,br H p.1=some b) /\ w.heap[ls ν p.1]?=some (qG ν (nU ν w) p).2.den:=by
 unfold H7 at hc
 split at hc
 case h_2=>cases hc
 rename_i n t ty ww ro hb
 split at hc
 case h_2=>cases hc
 rename_i e1 e2
 have e1:=Nat.eq_of_beq_eq_true e1
 have e2:=Nat.eq_of_beq_eq_true e2
 split at hc
 case h_2=>cases hc
 rename_i e3
 have e3:=Ae _ _ e3
 obtain ⟨r,K,o,h1,h2,h3⟩:=hH.blk _ _ hb
 have hn:ls ν p.1=r:=by simp [ls,h1]
 have hcc:=hH.cells hb h1
 obtain ⟨c,ty',fz,g1,g2⟩:=hcc
 refine ⟨⟨K,by rw [hn];exact h1⟩,⟨_,hb⟩,?_⟩
 rw [hn,g1]
 have hr:=jy g2.le g2.get n 0 (by omega)
 rw [e3] at hr
 have hl:=H6 hr hc
 rw [dP] at e1
 simp only [qG,Blk.den,nU,hn,g1,g2.ty,g2.fz,<- e2]
 congr 2
 apply Array.ext'
 simp only
 rw [<- hl,List.drop_zero,<- e1,List.take_append_drop]
def nV:List PB -> AH
 | []=>.lf
 | p :: l=>cH (nV l) p.1 (some (.cells (fT p.2.1) (dt undef p.2.1 0 .lf) p.2.2 1 true))
def nW (tabs:List PB) (G:Nat):Nu:=λ h=>if h < G then some (h,match tabs.find? (λ p=>p.1 == h) with | some p=>p.2.1.length | none=>0) else none
def fN (p:PB):Nat × Blk:=(p.1,.lit p.2.1 p.2.2 (0,0))
def oG (G:Nat):List PB -> Bool
 | []=>true
 | p :: l=>match Nat.blt p.1 G,rp p.2.1,l.any (λ q=>q.1 == p.1) with
  | true,true,false=>oG G l
  | _,_,_=>false
end
noncomputable section
theorem Af:∀ (tabs:List PB) (h:Nat),br (nV tabs) h=match tabs.find? (λ p=>p.1 == h) with
  | some p=>some (.cells (fT p.2.1) (dt undef p.2.1 0 .lf) p.2.2 1 true)
  | none=>none
 | [],h=>yd _
 | p :: l,h=>by
  rw [nV,dg,Af l h]
  by_cases e:p.1=h
  ·rw [if_pos e,List.find?_cons_of_pos (by simpa using e)]
  ·rw [if_neg e,List.find?_cons_of_neg (by simpa using e)]
theorem eY {G:Nat}:∀ {tabs:List PB},oG G tabs=true -> ∀ p ∈ tabs,p.1 < G /\ rp p.2.1=true
 | [],_,p,hp=>by simp at hp
 | q :: l,h,p,hp=>by
  rw [oG] at h
  split at h
  ·rename_i h1 h2 h3
   rcases List.mem_cons.1 hp with rfl | hp
   ·exact ⟨Eq.mp Nat.blt_eq h1,h2⟩
   ·exact eY h p hp
  ·cases h
theorem Ag:∀ {l:List Value},rp l=true -> ∀ {i:Nat} {v:Value},l[i]?=some v -> pl v=true
 | [],_,i,v,h=>by simp at h
 | x :: l,hp,i,v,h=>by
  rw [rp] at hp
  split at hp
  ·rename_i hx
   cases i with
   | zero=>simp at h;rw [<- h];exact hx
   | succ i=>exact Ag hp (by simpa using h)
  ·cases hp
theorem lu {tabs:List PB} {h:Nat} {p:PB} (e:tabs.find? (λ p=>p.1 == h)=some p):p ∈ tabs /\ p.1=h :=
 ⟨List.mem_of_find?_eq_some e,by simpa using List.find?_some e⟩
section
variable {tabs picks:List PB} {G:Nat} {F:HL} {w:World}
theorem Fl (ht:oG G tabs=true) (hR:Rel (tabs.map fN++F) w):HR (nW tabs G) (nV tabs) F w:=by
 have key:∀ h b,br (nV tabs) h=some b -> ∃ p,tabs.find? (λ p=>p.1 == h)=some p /\ b=.cells (fT p.2.1) (dt undef p.2.1 0 .lf) p.2.2 1 true:=λ h b hb=>by
  rw [Af] at hb
  split at hb
  ·rename_i p hp;cases hb;exact ⟨p,hp,rfl⟩
  ·cases hb
 refine ⟨λ h b hb=>?_,λ h₁ h₂ b₁ b₂ r K₁ K₂ _ _ e1 e2=>?_,λ x hx=>hR.holds x (List.mem_append_right _ hx),λ h b r K hb e1 x hx=>?_⟩
 ·obtain ⟨p,hp,rfl⟩:=key h b hb
  obtain ⟨hm,rfl⟩:=lu hp
  obtain ⟨hlt,hpl⟩:=eY ht p hm
  refine ⟨p.1,p.2.1.length,.cells ⟨p.2.1⟩ p.2.2 (0,0),by simp only [nW,if_pos hlt,hp],?_,?_⟩
  ·exact hR.holds (fN p) (List.mem_append_left _ (List.mem_map.2 ⟨p,hm,rfl⟩))
  ·refine ⟨rfl,by rw [dP];exact Nat.le_refl _,rfl,λ i hi=>?_,λ _=>by simp⟩
   rw [dP] at hi
   refine ⟨p.2.1[i],by simp [hi],?_⟩
   rw [kJ hi]
   exact VRi.plain_refl _ (Ag hpl (List.getElem?_eq_getElem hi))
 ·unfold nW at e1 e2
  split at e1
  ·split at e2
   ·simp only [Option.some.injEq,Prod.mk.injEq] at e1 e2
    rw [e1.1,e2.1]
   ·cases e2
  ·cases e1
 ·obtain ⟨p,hp,rfl⟩:=key h b hb
  obtain ⟨hm,rfl⟩:=lu hp
  have hr:r=p.1:=by
   unfold nW at e1
   split at e1
   ·simp only [Option.some.injEq,Prod.mk.injEq] at e1;exact e1.1.symm
   ·cases e1
  intro e
  have hn:=hR.nodup
  rw [List.map_append,List.nodup_append] at hn
  exact hn.2.2 p.1 (by rw [List.map_map];exact List.mem_map.2 ⟨p,hm,rfl⟩) x.1 (List.mem_map.2 ⟨x,hx,rfl⟩) (by rw [e,hr])
def H8 (H:AH) (p:PB):Bool:=match br H p.1 with
 | some (.cells n t ty ww _)=>match Nat.beq n (fT p.2.1),Nat.beq ty p.2.2,Nat.beq ww 1 with
  | true,true,true=>oU (gl t 0 n) p.2.1
  | _,_,_=>false
 | _=>false
def qH (H:AH):List PB -> Bool
 | []=>true
 | p :: l=>match H8 H p with
  | true=>qH H l
  | false=>false
theorem lw {H:AH}:∀ {l:List PB},qH H l=true -> ∀ p ∈ l,H8 H p=true
 | [],_,p,hp=>by simp at hp
 | q :: l,h,p,hp=>by
  rw [qH] at h
  split at h
  ·rename_i h1
   rcases List.mem_cons.1 hp with rfl | hp
   ·exact h1
   ·exact lw h p hp
  ·cases h
theorem sP {H:AH}:∀ {l:List PB},Ad H l=true -> ∀ p ∈ l,H7 H p=true
 | [],_,p,hp=>by simp at hp
 | q :: l,h,p,hp=>by
  rw [Ad] at h
  split at h
  ·rename_i h1
   rcases List.mem_cons.1 hp with rfl | hp
   ·exact h1
   ·exact sP h p hp
  ·cases h
theorem LR.plain_eq {ν:Nu} {l l':List Value} (h:LR ν l l'):rp l=true -> l'=l:=by
 induction h with
 | nil=>intro _;rfl
 | @cons v v' l l' h _ ih =>
  intro hp
  rw [rp] at hp
  split at hp
  ·rename_i hv;rw [VRi.plain_eq h hv,ih hp]
  ·cases hp
theorem t2 {ν:Nu} {H:AH} (hH:HR ν H F w) {p:PB} (hc:H8 H p=true) (hp:rp p.2.1=true) (hν:ν p.1=some (p.1,p.2.1.length)):w.heap[p.1]?=some (fN p).2.den /\ ∃ b,br H p.1=some b:=by
 unfold H8 at hc
 split at hc
 case h_2=>cases hc
 rename_i n t ty ww ro hb
 split at hc
 case h_2=>cases hc
 rename_i e1 e2 e3
 have e1:=Nat.eq_of_beq_eq_true e1
 have e2:=Nat.eq_of_beq_eq_true e2
 have e3:=Nat.eq_of_beq_eq_true e3
 have e4:=Ae _ _ hc
 obtain ⟨c,ty',fz,g1,g2⟩:=hH.cells hb hν
 refine ⟨?_,_,hb⟩
 have hr:=jy g2.le g2.get n 0 (by omega)
 rw [e4] at hr
 have hl:=hr.plain_eq hp
 have hsz:=g2.gr (by omega)
 rw [e3,Nat.mul_one] at hsz
 rw [dP] at e1
 rw [g1,g2.ty,g2.fz,e2]
 simp only [fN,Blk.den]
 congr 2
 apply Array.ext'
 rw [List.drop_zero] at hl
 rw [<- hl,List.take_of_length_le]
 have:c.toList.length=c.size:=rfl
 omega
theorem mm:∀ {l:List PB},(l.map (·.1)).Nodup -> ∀ {p q:PB},p ∈ l -> q ∈ l -> q.1=p.1 -> q=p
 | [],_,p,q,hp,_,_=>by simp at hp
 | x :: l,hd,p,q,hp,hq,e=>by
  simp only [List.map_cons,List.nodup_cons] at hd
  rcases List.mem_cons.1 hp with h1 | h1 <;> rcases List.mem_cons.1 hq with h2 | h2
  ·rw [h1,h2]
  ·exact absurd (List.mem_map.2 ⟨q,h2,by rw [e,h1]⟩) hd.1
  ·exact absurd (List.mem_map.2 ⟨p,h1,by rw [<- e,h2]⟩) hd.1
  ·exact mm hd.2 h1 h2 e
def KU (tabs picks:List PB) (v0:Value):Option Rs -> Bool
 | some (.fn v H _)=>match qY v v0,kO v0,qH H tabs with
  | true,true,true=>Ad H picks
  | _,_,_=>false
 | _=>false
theorem LR.plain_refl {ν:Nu}:∀ {l:List Value},rp l=true -> LR ν l l
 | [],_=>.nil
 | v :: l,h=>by
  rw [rp] at h
  split at h
  ·rename_i hv;exact .cons (VRi.plain_refl v hv) (LR.plain_refl h)
  ·cases h
theorem sQ {P:Program} (hm:P.follows .mixedOrders=true) {k n0:Nat} {f:FuncId} {args:List Value} {v0:Value} (hG:Nat.ble G n0=true) (ht:oG G tabs=true) (ha:rp args=true)
  (hnd:(tabs.map (·.1)++picks.map (·.1)).Nodup) (hrun:KU tabs picks v0 (oV P G k (.fn f args (nV tabs) n0))=true) :
  Sp P f ⟨args⟩ (tabs.map fN) F λ v' H'=>∃ ν rest,v'=kh ν v0 /\ H'=tabs.map fN++picks.map (qG ν rest):=by
 intro w hR
 have hG:=bA hG
 cases hres:oV P G k (.fn f args (nV tabs) n0) with
 | none=>rw [hres] at hrun;cases hrun
 | some res=>cases res with
  | cd e s=>rw [hres] at hrun;cases hrun
  | fn v H n' =>
   rw [hres] at hrun
   simp only [KU] at hrun
   split at hrun
   case h_2=>cases hrun
   rename_i q1 q2 q3
   rw [pq] at hres
   obtain ⟨hn,hcall⟩:=po hm k _ _ hres
   have hlt:∀ p ∈ tabs,p.1 < G:=λ p hp=>(eY ht p hp).1
   refine (hcall (nW tabs G) F w args (λ k hk=>⟨_,if_pos hk⟩) (λ h h1 h2=>by simp only [nW];rw [if_neg (by omega)]) (Fl ht hR) (LR.plain_refl ha)).mono ?_
   rintro e w' ⟨ν,v',rfl,hv,hext,hH,hbel⟩
   rw [yp _ _ q1] at hv
   have hνt:∀ p ∈ tabs,ν p.1=nW tabs G p.1:=λ p hp=>hext.out _ (.inl (by have:=hlt p hp;omega))
   have hfind:∀ p ∈ tabs,ν p.1=some (p.1,p.2.1.length):=λ p hp=>by
    rw [hνt p hp]
    simp only [nW,if_pos (hlt p hp)]
    congr 2
    have hd:(tabs.map (·.1)).Nodup:=(List.nodup_append.1 hnd).1
    cases hf:tabs.find? (λ q=>q.1 == p.1) with
    | none=>exact absurd (List.find?_eq_none.1 hf p hp) (by simp)
    | some q =>
     obtain ⟨hq,hq2⟩:=lu hf
     have:q=p:=mm hd hp hq hq2
     simp [this]
   have htab:∀ p ∈ tabs,w'.heap[p.1]?=some (fN p).2.den /\ ∃ b,br H p.1=some b:=λ p hp=>t2 hH (lw q3 p hp) (eY ht p hp).2 (hfind p hp)
   have hpk:∀ p ∈ picks,(∃ K,ν p.1=some (ls ν p.1,K)) /\ (∃ b,br H p.1=some b) /\ w'.heap[ls ν p.1]?=some (qG ν (nU ν w') p).2.den:=λ p hp=>Fk hH (sP hrun p hp)
   refine ⟨v',tabs.map fN++picks.map (qG ν (nU ν w')),rfl,⟨ν,nU ν w',pr hv q2,rfl⟩,⟨?_,?_⟩,hbel⟩
   ·intro x hx
    rcases List.mem_append.1 hx with hx | hx
    ·rcases List.mem_append.1 hx with hx | hx
     ·obtain ⟨p,hp,rfl⟩:=List.mem_map.1 hx
      exact (htab p hp).1
     ·obtain ⟨p,hp,rfl⟩:=List.mem_map.1 hx
      exact (hpk p hp).2.2
    ·exact hH.frm x hx
   ·-- the handles' blocks
    have hall:∀ h ∈ tabs.map (·.1)++picks.map (·.1),∃ K b,ν h=some (ls ν h,K) /\ br H h=some b:=λ h hh=>by
     rcases List.mem_append.1 hh with hh | hh
     ·obtain ⟨p,hp,rfl⟩:=List.mem_map.1 hh
      obtain ⟨b,hb⟩:=(htab p hp).2
      exact ⟨p.2.1.length,b,by simp [ls,hfind p hp],hb⟩
     ·obtain ⟨p,hp,rfl⟩:=List.mem_map.1 hh
      obtain ⟨⟨K,h1⟩,⟨b,hb⟩,-⟩:=hpk p hp
      exact ⟨K,b,h1,hb⟩
    have e1:(tabs.map fN++picks.map (qG ν (nU ν w'))).map (·.1)=(tabs.map (·.1)++picks.map (·.1)).map (ls ν):=by
     simp only [List.map_append,List.map_map]
     congr 1
     apply List.map_congr_left
     intro p hp
     simp [fN,ls,hfind p hp]
    rw [List.map_append,List.nodup_append,e1]
    refine ⟨?_,?_,λ a ha b hb=>?_⟩
    ·rw [List.Nodup,List.pairwise_map]
     refine (List.pairwise_iff_forall_sublist.2 λ {a b} hs=>?_)
     have ha':=hall a (hs.subset (by simp))
     have hb':=hall b (hs.subset (by simp))
     obtain ⟨K1,b1,x1,x2⟩:=ha'
     obtain ⟨K2,b2,y1,y2⟩:=hb'
     intro e
     have hab:a=b:=hH.inj _ _ _ _ _ _ _ x2 y2 x1 (by rw [e];exact y1)
     have:=hnd.sublist hs
     simp [hab] at this
    ·have:=hR.nodup
     rw [List.map_append,List.nodup_append] at this
     exact this.2.1
    ·obtain ⟨h,hh,rfl⟩:=List.mem_map.1 ha
     obtain ⟨x,hx,rfl⟩:=List.mem_map.1 hb
     obtain ⟨K,b,g1,g2⟩:=hall h hh
     exact (hH.apt _ _ _ _ g2 g1 x hx).symm
end
end
theorem wF {P:Program} {f:FuncId} {args:Array Value} {x:Nat × Blk} {F:HL} {Q:Value -> HL -> Prop} (hx:x ∈ F) (h:∀ F0,Sp P f args [x] F0 λ u H'=>∃ Hp,Q u Hp /\ H'=[x]++Hp):Sp P f args [] F Q:=by
 obtain ⟨l1,l2,rfl⟩:=List.append_of_mem hx
 have hp:∀ H:HL,([x]++H++(l1++l2)).Perm (H++(l1++x :: l2)):=λ H=>by
  refine List.Perm.trans ?_ (List.Perm.append_left H List.perm_middle.symm)
  show (x :: (H++(l1++l2))).Perm (H++x :: (l1++l2))
  exact List.perm_middle.symm
 intro w hR
 have hR1:Rel ([x]++(l1++l2)) w:=hR.perm (by have:=hp [];simpa using this)
 refine (h (l1++l2) w hR1).mono ?_
 rintro e w' ⟨v,H',he,⟨Hp,hq,rfl⟩,hR',hb⟩
 exact ⟨v,Hp,he,hq,hR'.perm (hp Hp).symm,hb⟩
end Go.Proofs.YtghjbimijeinfaaGreatDoor
