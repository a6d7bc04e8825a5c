import Derived.Test.YtcfajdgeejeieaaGreatDoorY35
set_option maxHeartbeats 4000000
set_option maxRecDepth 100000
set_option linter.unusedSimpArgs false
set_option linter.unusedVariables false
namespace Go.Proofs.YtcfajdgeejeieaaGreatDoor
open Go.RowKit
noncomputable section
def NH (P:Program) (G N:Nat) (ops:Array Oper) (o:Oper) (k:Kt) (g:Value -> Tr Value -> Tr Value):CzR:=match o.op with
 | .move x=>match cv x with
  | .mk f=>.mk (MT k g f)
 | .assign x=>match cv x with
  | .mk f=>.mk (MT k g f)
 | .pick c a b=>match cv c with
  | .mk f=>match cv a with
   | .mk fa=>match cv b with
    | .mk fb=>.mk (Fb k g f fa fb)
 | .nilCheck x=>match cv x with
  | .mk f=>.mk (Kl P G N ops o k g f)
 | .binOp op _ x y _=>match HT op with
  | some q=>match cv x with
   | .mk f1=>match cv y with
    | .mk f2=>.mk (Km P G N ops o k g q f1 f2)
  | none=>.mk (cS P G N ops o k)
 | .fieldAddr t x j=>match vL P t j with
  | some (c,_)=>match cv x with
   | .mk f=>.mk (Kn k g c f)
  | none=>.mk (cS P G N ops o k)
 | .load t x=>match vK P t with
  | true=>match cv x with
   | .mk f=>.mk (NB k g f)
  | false=>match xV P t with
   | some c=>match cv x with
    | .mk f=>.mk (NC k g c f)
   | none=>.mk (cS P G N ops o k)
 | .alloc t=>match ke P t with
  | some z=>match i9 z t with
   | .cells a b c d e=>.mk (alF k g (.cells a b c d e))
   | _=>.mk (cS P G N ops o k)
  | none=>.mk (cS P G N ops o k)
 | .indexAddr t x i=>match P.underlying t with
  | some (.slice el)=>match eL P el with
   | some c=>match cv x with
    | .mk f1=>match cv i with
     | .mk f2=>.mk (ND k g c f1 f2)
   | none=>.mk (cS P G N ops o k)
  | _=>.mk (cS P G N ops o k)
 | .call c=>match c.callee with
  | .value (.func f)=>match qf P f with
   | true=>match ca c.args.toList with
    | .mk as=>.mk (NF k g f as)
   | false=>.mk (cS P G N ops o k)
  | _=>.mk (cS P G N ops o k)
 | _=>.mk (cS P G N ops o k)
def NI (P:Program) (G N:Nat) (ops:Array Oper) (o:Oper) (k:Kt):CzR:=match o.op with
 | .store t x y=>match eL P t with
  | some 1=>match cv x with
   | .mk f1=>match cv y with
    | .mk f2=>.mk (NE P G N ops o k f1 f2)
  | _=>.mk (cS P G N ops o k)
 | .call c=>match c.callee with
  | .value (.func f)=>match qf P f with
   | true=>match ca c.args.toList with
    | .mk as=>.mk (NG k f as)
   | false=>.mk (cS P G N ops o k)
  | _=>.mk (cS P G N ops o k)
 | _=>.mk (cS P G N ops o k)
def Ff (P:Program) (G N:Nat) (ops:Array Oper) (o:Oper) (k:Kt):CzR:=match mv G o with
 | true=>match gO N o.dst with
  | .ok g=>NH P G N ops o k g
  | .no=>NI P G N ops o k
  | .bad=>.mk (cS P G N ops o k)
 | false=>.mk (cS P G N ops o k)
def CE (o:Oper):Oper:=⟨o.dst,o.op,o.type,o.pos,o.after,none⟩
def NJ (want:Bool) (u:Value) (x y:Option St):Option St:=match u with
 | .bool b=>match b with
  | true=>match want with
   | true=>x
   | false=>y
  | false=>match want with
   | true=>y
   | false=>x
 | .tuple _=>y
 | _=>none
def guF (want:Bool) (f:Tr Value -> Value) (h:Kt) (k:Kt) (g:Value -> Tr Value -> Tr Value) (ih:Ih) (r:Option Nat) (T:Tr Value) (D:List Deferred) (H:AH) (n:Nat):Option St:=NJ want (f T) (h ih r T D H n) (k ih r (g undef T) D H n)
def guN (want:Bool) (f:Tr Value -> Value) (h:Kt) (k:Kt) (ih:Ih) (r:Option Nat) (T:Tr Value) (D:List Deferred) (H:AH) (n:Nat):Option St:=NJ want (f T) (h ih r T D H n) (k ih r T D H n)
def Ku (P:Program) (G N:Nat) (ops:Array Oper) (o:Oper) (nx:CzR):CzR:=match nx with
 | .mk k=>match o.guard with
  | none=>Ff P G N ops o k
  | some (j,want)=>match (ops[j]?).bind (·.dst) with
   | some d=>match tU (pth d) with
    | .mk f=>match Ff P G N ops (CE o) k with
     | .mk h=>match gO N o.dst with
      | .ok g=>.mk (guF want f h k g)
      | .no=>.mk (guN want f h k)
      | .bad=>.mk (cS P G N ops o k)
   | none=>.mk (cS P G N ops o k)
def B7 (P:Program) (G N:Nat) (ops:Array Oper):List Oper -> CzR
 | []=>.mk λ _ _ T D H n=>some ⟨T,D,H,n⟩
 | o :: l=>Ku P G N ops o (B7 P G N ops l)
def Fg (P:Program) (G N:Nat) (ops:Array Oper) (o:Oper) (k:Kt) (c:CzR):Prop:=∀ ih r T D H n,c.f ih r T D H n=cS P G N ops o k ih r T D H n
theorem dm {P:Program} {G N:Nat} {ops:Array Oper} {o:Oper} {k:Kt}:Fg P G N ops o k (.mk (cS P G N ops o k)):=λ _ _ _ _ _ _=>rfl
theorem wY {x:Operand} {f} (h:cv x=.mk f) (T:Tr Value):f T=ael T x:=by
 have:=Jb x T;rw [h] at this;exact this
theorem cam {x:List Operand} {f} (h:ca x=.mk f) (T:Tr Value):f T=l9 T x:=by
 have:=Jc x T;rw [h] at this;exact this
theorem Kv {P:Program} {G N:Nat} {ops:Array Oper} {o:Oper} {k:Kt} {g} (hg:o.guard=none) (ho:mv G o=true) (hd:gO N o.dst=.ok g):Fg P G N ops o k (NH P G N ops o k g):=by
 unfold NH
 split
 ·rename_i x hx
  split;rename_i f hf
  exact λ ih r T D H n=>Jd hg ho hd (.inl hx) (wY hf) ih r T D H n
 ·rename_i x hx
  split;rename_i f hf
  exact λ ih r T D H n=>Jd hg ho hd (.inr hx) (wY hf) ih r T D H n
 ·rename_i c a b hx
  split;rename_i f hf
  split;rename_i fa hfa
  split;rename_i fb hfb
  exact λ ih r T D H n=>HV hg ho hd hx (wY hf) (wY hfa) (wY hfb) ih r T D H n
 ·rename_i x hx
  split;rename_i f hf
  exact λ ih r T D H n=>Ko hg ho hd hx (wY hf) ih r T D H n
 ·rename_i op t x y z hx
  split
  ·rename_i q hq
   split;rename_i f hf
   split;rename_i f2 hf2
   exact λ ih r T D H n=>Kq hg ho hd hx hq (wY hf) (wY hf2) ih r T D H n
  ·exact dm
 ·rename_i t x j hx
  split
  ·rename_i c ft hc
   split;rename_i f hf
   exact λ ih r T D H n=>Kr hg ho hd hx hc (wY hf) ih r T D H n
  ·exact dm
 ·rename_i t x hx
  split
  ·rename_i hc
   split;rename_i f hf
   exact λ ih r T D H n=>LU hg ho hd hx hc (wY hf) ih r T D H n
  ·rename_i hc
   split
   ·rename_i c ha
    split;rename_i f hf
    exact λ ih r T D H n=>LW hg ho hd hx hc ha (wY hf) ih r T D H n
   ·exact dm
 ·rename_i t hx
  split
  ·rename_i z hz
   split
   ·rename_i a b c d e hb
    exact λ ih r T D H n=>LX hg ho hd hx hz hb ih r T D H n
   ·exact dm
  ·exact dm
 ·rename_i t x i hx
  split
  ·rename_i el ht
   split
   ·rename_i c hc
    split;rename_i f hf
    split;rename_i f2 hf2
    exact λ ih r T D H n=>LY hg ho hd hx ht hc (wY hf) (wY hf2) ih r T D H n
   ·exact dm
  ·exact dm
 ·rename_i c hx
  split
  ·rename_i f hc
   split
   ·rename_i hb
    split;rename_i as ha
    exact λ ih r T D H n=>L0 hg ho hd hx hc hb (cam ha) ih r T D H n
   ·exact dm
  ·exact dm
 ·exact dm
theorem Kw {P:Program} {G N:Nat} {ops:Array Oper} {o:Oper} {k:Kt} (hg:o.guard=none) (ho:mv G o=true) (hd:gO N o.dst=.no):Fg P G N ops o k (NI P G N ops o k):=by
 unfold NI
 split
 ·rename_i t x y hx
  split
  ·rename_i hc
   split;rename_i f hf
   split;rename_i f2 hf2
   exact λ ih r T D H n=>LZ hg ho hd hx hc (wY hf) (wY hf2) ih r T D H n
  ·exact dm
 ·rename_i c hx
  split
  ·rename_i f hc
   split
   ·rename_i hb
    split;rename_i as ha
    exact λ ih r T D H n=>Ks hg ho hd hx hc hb (cam ha) ih r T D H n
   ·exact dm
  ·exact dm
 ·exact dm
theorem zT {P:Program} {G N:Nat} {ops:Array Oper} {o:Oper} {k:Kt} (hg:o.guard=none):Fg P G N ops o k (Ff P G N ops o k):=by
 unfold Ff
 split
 ·rename_i ho
  split
  ·rename_i g hd
   exact Kv hg ho hd
  ·rename_i hd
   exact Kw hg ho hd
  ·exact dm
 ·exact dm
theorem mi (P:Program) (T:Tr Value) (o:Oper):fS P T (CE o)=fS P T o:=by
 have e:execOp (ael T) (CE o)=execOp (ael T) o:=by
  obtain ⟨dst,op,type,pos,after,guard⟩:=o
  cases op <;> rfl
 unfold fS
 rw [e]
 rfl
theorem B8 (P:Program) (T:Tr Value) (o:Oper):gq P (CE o) T=gq P o T:=by
 unfold gq
 simp only [mi]
 rfl
theorem B9 (P:Program) (T:Tr Value) (H:AH) (o:Oper):iP P (CE o) T H=iP P o T H:=by
 unfold iP
 simp only [mi]
 rfl
theorem Fh (P:Program) (T:Tr Value) (H:AH) (n:Nat) (o:Oper):ma P (CE o) T H n=ma P o T H n:=by
 unfold ma
 simp only [mi]
 rfl
theorem Fi (P:Program) (G:Nat) (ih:Ih) (r:Option Nat) (T:Tr Value) (H:AH) (n:Nat) (o:Oper):ju P G ih r (CE o) T H n=ju P G ih r o T H n:=by
 unfold ju zA
 simp only [B8,B9,Fh]
 rfl
theorem qD {P:Program} {G N:Nat} {ops:Array Oper} {o:Oper} {k:Kt} {j:Nat} {want:Bool} (hg:o.guard=some (j,want)) {d:Tmp} (hd:(ops[j]?).bind (·.dst)=some d) {f:Tr Value -> Value} (hf:∀ T,f T=cQ T d) {h:Kt} (hh:∀ ih r T D H n,h ih r T D H n=cS P G N ops (CE o) k ih r T D H n) (ih r T D H n) :
  cS P G N ops o k ih r T D H n=NJ want (f T) (h ih r T D H n) (match eX N o.dst undef T with | some T=>k ih r T D H n | none=>none):=by
 rw [hh,hf]
 have e:cS P G N ops (CE o) k ih r T D H n=match ju P G ih r o T H n with
  | none=>none
  | some (.val v H n)=>eA v λ v=>match eX N o.dst v T with
   | some T=>k ih r T D H n
   | none=>none
  | some (.dfr d)=>match eX N o.dst undef T with
   | some T=>k ih r T (d :: D) H n
   | none=>none:=by
  simp only [cS,eh,CE]
  rw [<- Fi P G ih r T H n o]
  rfl
 rw [e]
 simp only [cS,eh,hg,hd]
 cases cQ T d with
 | bool b=>cases b <;> cases want <;> rfl
 | _=>rfl
theorem Kx {P:Program} {G N:Nat} {ops:Array Oper} {o:Oper} {k:Kt}:Fg P G N ops o k (Ku P G N ops o (.mk k)):=by
 cases hg:o.guard with
 | none=>simp only [Ku,hg];exact zT hg
 | some jw =>
  obtain ⟨j,want⟩:=jw
  cases hd:(ops[j]?).bind (·.dst) with
  | none=>simp only [Ku,hg,hd];exact dm
  | some d =>
   cases hf:tU (pth d) with
   | mk f=>cases hh:Ff P G N ops (CE o) k with
    | mk h =>
     have hf':∀ T,f T=cQ T d:=λ T=>by have:=pn (pth d) T;rw [hf] at this;exact this
     have hh':=zT (P:=P) (G:=G) (N:=N) (ops:=ops) (o:=CE o) (k:=k) rfl
     rw [hh] at hh'
     cases hdk:gO N o.dst with
     | ok g =>
      simp only [Ku,hg,hd,hf,hh,hdk]
      intro ih r T D H n
      rw [qD hg hd hf' hh',zL hdk]
      rfl
     | no =>
      simp only [Ku,hg,hd,hf,hh,hdk]
      intro ih r T D H n
      rw [qD hg hd hf' hh',zM hdk]
      rfl
     | bad=>simp only [Ku,hg,hd,hf,hh,hdk];exact dm
theorem zU (P:Program) (G N:Nat) (ops:Array Oper):∀ l,CzR.okL P G N ops l (B7 P G N ops l).f
 | []=>λ ih r T D H n=>rfl
 | o :: l=>by
  have h:=zU P G N ops l
  cases hk:B7 P G N ops l with
  | mk k =>
   rw [hk] at h
   intro ih r T D H n
   simp only [B7,hk]
   rw [Kx]
   exact HS h o ih r T D H n
def MW (P:Program) (G N:Nat) (c:Code) (ih:Ih) (r:Option Nat) (T:Tr Value) (D:List Deferred) (H:AH) (n:Nat):Option (Ex × St):=iu P G ih r N c ⟨T,D,H,n⟩
def L2 (k:Kt) (ih:Ih) (r:Option Nat) (T:Tr Value) (D:List Deferred) (H:AH) (n:Nat):Option (Ex × St):=match k ih r T D H n with
 | some s=>some (.normal,s)
 | none=>none
abbrev Kc:=Ih -> Option Nat -> Tr Value -> List Deferred -> AH -> Nat -> Option (Ex × St)
def NK (x:Option (Ex × St)) (y:Tr Value -> List Deferred -> AH -> Nat -> Option (Ex × St)):Option (Ex × St):=match x with
 | some p=>match p with
  | (e,s)=>match e with
   | .normal=>match s with
    | ⟨T,D,H,n⟩=>y T D H n
   | .exit id=>some (.exit id,s)
   | .ret=>some (.ret,s)
 | none=>none
def L3 (a b:Kc) (ih:Ih) (r:Option Nat) (T:Tr Value) (D:List Deferred) (H:AH) (n:Nat):Option (Ex × St):=NK (a ih r T D H n) λ T D H n=>b ih r T D H n
def L4 (u:Value) (x y:Option (Ex × St)):Option (Ex × St):=match u with
 | .bool b=>match b with
  | true=>x
  | false=>y
 | _=>none
def Je (f:Tr Value -> Value) (a b:Kc) (ih:Ih) (r:Option Nat) (T:Tr Value) (D:List Deferred) (H:AH) (n:Nat):Option (Ex × St):=L4 (f T) (a ih r T D H n) (b ih r T D H n)
def L5 (id:Nat) (x:Option (Ex × St)):Option (Ex × St):=match x with
 | some p=>match p with
  | (e,s)=>match e with
   | .exit id'=>match Nat.beq id' id with
    | true=>some (.normal,s)
    | false=>some (.exit id',s)
   | .normal=>some (.normal,s)
   | .ret=>some (.ret,s)
 | none=>none
def L6 (id:Nat) (a:Kc) (ih:Ih) (r:Option Nat) (T:Tr Value) (D:List Deferred) (H:AH) (n:Nat):Option (Ex × St):=L5 id (a ih r T D H n)
def L7 (x:Option (Ex × St)) (y:St -> Option Rs):Option (Ex × St):=match x with
 | some p=>match p with
  | (e,s)=>match e with
   | .normal=>match y s with
    | some q=>match q with
     | .cd e s=>some (e,s)
     | .fn _ _ _=>none
    | none=>none
   | .exit id=>some (.exit id,s)
   | .ret=>some (.ret,s)
 | none=>none
def L8 (N:Nat) (c:Code) (a:Kc) (ih:Ih) (r:Option Nat) (T:Tr Value) (D:List Deferred) (H:AH) (n:Nat):Option (Ex × St):=L7 (a ih r T D H n) λ s=>ih (.loop r N c s)
def gP (P:Program) (G N:Nat):Code -> CzC
 | .skip=>.mk λ _ _ T D H n=>some (.normal,⟨T,D,H,n⟩)
 | .label _=>.mk λ _ _ T D H n=>some (.normal,⟨T,D,H,n⟩)
 | .region id ops draw=>match draw with
  | false=>match B7 P G N ops ops.toList with
   | .mk k=>.mk (L2 k)
  | true=>.mk (MW P G N (.region id ops true))
 | .seq a b=>match gP P G N a with
  | .mk fa=>match gP P G N b with
   | .mk fb=>.mk (L3 fa fb)
 | .cond c a b=>match cv c with
  | .mk f=>match gP P G N a with
   | .mk fa=>match gP P G N b with
    | .mk fb=>.mk (Je f fa fb)
 | .block id c=>match gP P G N c with
  | .mk fa=>.mk (L6 id fa)
 | .loop c=>match gP P G N c with
  | .mk fa=>.mk (L8 N c fa)
 | .rangeFunc g ps assign body=>.mk (MW P G N (.rangeFunc g ps assign body))
 | .exit id=>.mk λ _ _ T D H n=>some (.exit id,⟨T,D,H,n⟩)
 | .scope c=>gP P G N c
 | .goto l=>.mk (MW P G N (.goto l))
 | .ret=>.mk λ _ _ T D H n=>some (.ret,⟨T,D,H,n⟩)
 | .refuse x=>.mk (MW P G N (.refuse x))
def L9 (P:Program) (G N:Nat) (c:Code) (f:Kc):Prop:=∀ ih r T D H n,f ih r T D H n=iu P G ih r N c ⟨T,D,H,n⟩
theorem gQ (P:Program) (G N:Nat):∀ c,L9 P G N c (gP P G N c).f
 | .skip=>λ _ _ _ _ _ _=>rfl
 | .label _=>λ _ _ _ _ _ _=>rfl
 | .region id ops draw=>by
  cases draw with
  | true=>exact λ _ _ _ _ _ _=>rfl
  | false =>
   have h:=zU P G N ops ops.toList
   cases hk:B7 P G N ops ops.toList with
   | mk k =>
    rw [hk] at h
    intro ih r T D H n
    simp only [gP,hk,CzC.f,L2,iu]
    have:=h ih r T D H n
    simp only [CzR.f] at this
    rw [this]
    cases lF P G ih r N ops ops.toList ⟨T,D,H,n⟩ <;> rfl
 | .seq a b=>by
  have h1:=gQ P G N a
  have h2:=gQ P G N b
  cases ha:gP P G N a with
  | mk fa=>cases hb:gP P G N b with
   | mk fb =>
    rw [ha] at h1;rw [hb] at h2
    intro ih r T D H n
    have e1:=h1 ih r T D H n
    simp only [CzC.f] at e1
    simp only [gP,ha,hb,CzC.f,L3,iu,e1]
    cases iu P G ih r N a ⟨T,D,H,n⟩ with
    | none=>rfl
    | some p=>obtain ⟨e,s⟩:=p;cases e with
     | normal=>obtain ⟨T,D,H,n⟩:=s;exact h2 ih r T D H n
     | exit id=>rfl
     | ret=>rfl
 | .cond c a b=>by
  have h1:=gQ P G N a
  have h2:=gQ P G N b
  cases hc:cv c with
  | mk f=>cases ha:gP P G N a with
   | mk fa=>cases hb:gP P G N b with
    | mk fb =>
     rw [ha] at h1;rw [hb] at h2
     intro ih r T D H n
     simp only [gP,hc,ha,hb,CzC.f,Je,iu,wY hc]
     cases ael T c with
     | bool q=>cases q with
      | true=>exact h1 ih r T D H n
      | false=>exact h2 ih r T D H n
     | _=>rfl
 | .block id c=>by
  have h1:=gQ P G N c
  cases ha:gP P G N c with
  | mk fa =>
   rw [ha] at h1
   intro ih r T D H n
   have e1:=h1 ih r T D H n
   simp only [CzC.f] at e1
   simp only [gP,ha,CzC.f,L6,iu,e1]
   cases iu P G ih r N c ⟨T,D,H,n⟩ with
   | none=>rfl
   | some p=>obtain ⟨e,s⟩:=p;cases e with
    | normal=>rfl
    | exit id'=>simp only [L5];cases Nat.beq id' id <;> rfl
    | ret=>rfl
 | .loop c=>by
  have h1:=gQ P G N c
  cases ha:gP P G N c with
  | mk fa =>
   rw [ha] at h1
   intro ih r T D H n
   have e1:=h1 ih r T D H n
   simp only [CzC.f] at e1
   simp only [gP,ha,CzC.f,L8,iu,e1]
   cases iu P G ih r N c ⟨T,D,H,n⟩ with
   | none=>rfl
   | some p=>obtain ⟨e,s⟩:=p;cases e with
    | normal =>
     simp only [L7]
     cases ih (.loop r N c s) with
     | none=>rfl
     | some q=>cases q <;> rfl
    | exit id'=>rfl
    | ret=>rfl
 | .rangeFunc g ps assign body=>λ _ _ _ _ _ _=>rfl
 | .exit id=>λ _ _ _ _ _ _=>rfl
 | .scope c=>by
  intro ih r T D H n
  simp only [gP,iu]
  exact gQ P G N c ih r T D H n
 | .goto l=>λ _ _ _ _ _ _=>rfl
 | .ret=>λ _ _ _ _ _ _=>rfl
 | .refuse x=>λ _ _ _ _ _ _=>rfl
def HW:List ResultVar -> Option CzA
 | []=>some (.mk λ _=>[])
 | x :: l=>match x with
  | .tmp t=>match tU (pth t) with
   | .mk f=>match HW l with
    | some c=>match c with
     | .mk h=>some (.mk λ T=>f T :: h T)
    | none=>none
  | .cell _ _=>none
theorem Fj (P:Program) (H:AH) (T:Tr Value):∀ {l:List ResultVar} {h},HW l=some (.mk h) -> nN P T H l=some (h T)
 | [],h,e=>by simp only [HW,Option.some.injEq,CzA.mk.injEq] at e;subst e;rfl
 | .cell _ _ :: l,h,e=>by simp [HW] at e
 | .tmp t :: l,h,e=>by
  simp only [HW] at e
  cases hf:tU (pth t) with
  | mk f =>
   rw [hf] at e
   simp only at e
   cases hl:HW l with
   | none=>rw [hl] at e;simp at e
   | some c=>cases c with
    | mk h' =>
     rw [hl] at e
     simp only [Option.some.injEq,CzA.mk.injEq] at e
     subst e
     have:=pn (pth t) T
     rw [hf] at this
     simp only [CzV.f] at this
     simp only [nN,Fj P H T hl,this]
     rfl
def Ky (l:List Value):Nat -> Tr Value -> Tr Value:=List.rec (motive:=λ _=>Nat -> Tr Value -> Tr Value) (λ _ t=>t) (λ x _ ih i t=>eA x λ x=>ih (i+1) (dF undef x (pth i) t)) l
theorem zV:∀ (l:List Value) (i:Nat) (t:Tr Value),Ky l i t=du undef l i t
 | [],i,t=>rfl
 | x :: l,i,t=>by
  have:=zV l (i+1) (dF undef x (pth i) t)
  show (eA x λ x=>Ky l (i+1) (dF undef x (pth i) t))=_
  rw [cz,this,du]
  have e:Tr.set undef x t i=dF undef x (pth i) t:=rfl
  rw [e]
  cases dF undef x (pth i) t <;> rfl
def Ma (h:List Value):Value:=match h with
 | []=>.tuple ⟨[]⟩
 | v :: l=>match l with
  | []=>v
  | w :: l=>.tuple ⟨v :: w :: l⟩
theorem HX (h:List Value):Ma h=vU h:=by
 cases h with
 | nil=>rfl
 | cons v l=>cases l <;> rfl
def Mb (P:Program) (fn:Func) (ih:Ih) (s:St):Option Rs:=match jO P ih s.D s.H s.n with
 | some (H,n)=>match nN P s.T H fn.results.toList with
  | some vs=>some (.fn (vU vs) H n)
  | none=>none
 | none=>none
def NL (P:Program) (fn:Func) (h:Tr Value -> List Value) (ih:Ih) (s:St):Option Rs:=match s with
 | ⟨T,D,H,n⟩=>match D with
  | []=>some (.fn (Ma (h T)) H n)
  | d :: D=>Mb P fn ih ⟨T,d :: D,H,n⟩
def fnR (x:Option (Ex × St)) (y:St -> Option Rs):Option Rs:=match x with
 | some p=>match p with
  | (e,s)=>match e with
   | .exit _=>none
   | .normal=>y s
   | .ret=>y s
 | none=>none
def MX (N:Nat) (k:Kc) (y:Ih -> St -> Option Rs) (ih:Ih) (args:List Value) (H:AH) (n:Nat):Option Rs:=match Nat.ble (fR args) N with
 | true=>fnR (k ih none (Ky args 0 .lf) [] H n) (y ih)
 | false=>none
def Ca (P:Program) (G:Nat) (f:FuncId):CzF:=match qj P f with
 | some (fn,c)=>match gP P G fn.ntmps c with
  | .mk k=>match HW fn.results.toList with
   | some h=>match h with
    | .mk h=>.mk (MX fn.ntmps k (NL P fn h))
   | none=>.mk (MX fn.ntmps k (Mb P fn))
 | none=>.mk λ _ _ _ _=>none
theorem Kz {P:Program} {fn:Func} {h} (e:HW fn.results.toList=some (.mk h)) (ih:Ih) (s:St):NL P fn h ih s=Mb P fn ih s:=by
 obtain ⟨T,D,H,n⟩:=s
 cases D with
 | cons d D=>rfl
 | nil=>simp only [NL,Mb,jO,Fj P H T e,HX]
theorem Fk {P:Program} {G:Nat} {fn:Func} {c:Code} {f:FuncId} (hb:qj P f=some (fn,c)) {k:Kc} (hk:L9 P G fn.ntmps c k) {y:Ih -> St -> Option Rs} (hy:∀ ih s,y ih s=Mb P fn ih s) (ih:Ih) (args:List Value) (H:AH) (n:Nat):MX fn.ntmps k y ih args H n=gu P G ih (.fn f args H n):=by
 simp only [MX,gu,hb]
 cases Nat.ble (fR args) fn.ntmps with
 | false=>rfl
 | true =>
  simp only [hk ih,zV]
  rw [show du undef args 0 .lf=lG args from rfl]
  cases iu P G ih none fn.ntmps c ⟨lG args,[],H,n⟩ with
  | none=>rfl
  | some p=>obtain ⟨e,s⟩:=p;cases e with
   | exit _=>rfl
   | normal=>exact hy ih s
   | ret=>exact hy ih s
theorem HY (P:Program) (G:Nat) (f:FuncId) (ih:Ih) (args:List Value) (H:AH) (n:Nat):(Ca P G f).f ih args H n=gu P G ih (.fn f args H n):=by
 cases hb:qj P f with
 | none=>simp only [Ca,hb,CzF.f,gu]
 | some p =>
  obtain ⟨fn,c⟩:=p
  have h1:=gQ P G fn.ntmps c
  cases hk:gP P G fn.ntmps c with
  | mk k =>
   rw [hk] at h1
   cases hr:HW fn.results.toList with
   | none =>
    simp only [Ca,hb,hk,hr,CzF.f]
    exact Fk hb h1 (λ _ _=>rfl) ih args H n
   | some h=>cases h with
    | mk h =>
     simp only [Ca,hb,hk,hr,CzF.f]
     exact Fk hb h1 (λ ih s=>Kz hr ih s) ih args H n
def wA (P:Program) (G:Nat) (ih:Ih) (t:Task):Option Rs:=match t with
 | .loop r N c s=>match gP P G N (.loop c) with
  | .mk k=>match s with
   | ⟨T,D,H,n⟩=>match k ih r T D H n with
    | some p=>match p with
     | (e,s)=>some (.cd e s)
    | none=>none
 | .fn f args H n=>match Ca P G f with
  | .mk k=>k ih args H n
 | t=>gu P G ih t
theorem Fl (P:Program) (G:Nat) (ih:Ih) (t:Task):wA P G ih t=gu P G ih t:=by
 cases t with
 | loop r N c s =>
  obtain ⟨T,D,H,n⟩:=s
  have h1:=gQ P G N (.loop c)
  cases hk:gP P G N (.loop c) with
  | mk k =>
   rw [hk] at h1
   have:=h1 ih r T D H n
   simp only [CzC.f] at this
   simp only [wA,hk,gu,this]
   cases iu P G ih r N (.loop c) ⟨T,D,H,n⟩ with
   | none=>rfl
   | some p=>rfl
 | fn f args H n =>
  have:=HY P G f ih args H n
  cases hk:Ca P G f with
  | mk k =>
   rw [hk] at this
   simp only [wA,hk]
   exact this
 | _=>rfl
def Fp (P:Program) (G:Nat) (k:Nat):Ih:=Nat.rec (motive:=λ _=>Ih) (λ _=>none) (λ _ ih t=>wA P G ih t) k
theorem zW (P:Program) (G:Nat):∀ k,Fp P G k=EF P G k
 | 0=>rfl
 | k+1=>by
  funext t
  show wA P G (Fp P G k) t=_
  rw [Fl,zW P G k]
  rfl
end
end Go.Proofs.YtcfajdgeejeieaaGreatDoor
