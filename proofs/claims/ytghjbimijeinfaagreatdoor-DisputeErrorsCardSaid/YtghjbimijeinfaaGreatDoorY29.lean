import Derived.Test.YtghjbimijeinfaaGreatDoorY28
import Derived.Test.YtghjbimijeinfaaGreatDoorY27
set_option maxHeartbeats 4000000
set_option maxRecDepth 100000
set_option linter.unusedSimpArgs false
set_option linter.unusedVariables false
namespace Go.Proofs.YtghjbimijeinfaaGreatDoor
open Go.RowKit
noncomputable section
def Oa (P:Program) (G N:Nat) (ops:Array Oper) (o:Oper) (k:Kt) (g:Value -> Tr Value -> Tr Value):CzR:=match o.op with
 | .move x=>match cv x with
  | .mk f=>.mk (Ns k g f)
 | .assign x=>match cv x with
  | .mk f=>.mk (Ns k g f)
 | .pick c a b=>match cv c with
  | .mk f=>match cv a with
   | .mk fa=>match cv b with
    | .mk fb=>.mk (Fg k g f fa fb)
 | .nilCheck x=>match cv x with
  | .mk f=>.mk (KX P G N ops o k g f)
 | .binOp op _ x y _=>match Il op with
  | some q=>match cv x with
   | .mk f1=>match cv y with
    | .mk f2=>.mk (KY P G N ops o k g q f1 f2)
  | none=>.mk (cP P G N ops o k)
 | .fieldAddr t x j=>match wi P t j with
  | some (c,_)=>match cv x with
   | .mk f=>.mk (KZ k g c f)
  | none=>.mk (cP P G N ops o k)
 | .load t x=>match wh P t with
  | true=>match cv x with
   | .mk f=>.mk (N4 k g f)
  | false=>match yj P t with
   | some c=>match cv x with
    | .mk f=>.mk (N5 k g c f)
   | none=>.mk (cP P G N ops o k)
 | .alloc t=>match kg P t with
  | some z=>match je z t with
   | .cells a b c d e=>.mk (alF k g (.cells a b c d e))
   | _=>.mk (cP P G N ops o k)
  | none=>.mk (cP P G N ops o k)
 | .indexAddr t x i=>match P.underlying t with
  | some (.slice el)=>match eM P el with
   | some c=>match cv x with
    | .mk f1=>match cv i with
     | .mk f2=>.mk (N6 k g c f1 f2)
   | none=>.mk (cP P G N ops o k)
  | _=>.mk (cP P G N ops o k)
 | .call c=>match c.callee with
  | .value (.func f)=>match qt P f with
   | true=>match ca c.args.toList with
    | .mk as=>.mk (N8 k g f as)
   | false=>.mk (cP P G N ops o k)
  | _=>.mk (cP P G N ops o k)
 | _=>.mk (cP P G N ops o k)
def Oc (P:Program) (G N:Nat) (ops:Array Oper) (o:Oper) (k:Kt):CzR:=match o.op with
 | .store t x y=>match eM P t with
  | some 1=>match cv x with
   | .mk f1=>match cv y with
    | .mk f2=>.mk (N7 P G N ops o k f1 f2)
  | _=>.mk (cP P G N ops o k)
 | .call c=>match c.callee with
  | .value (.func f)=>match qt P f with
   | true=>match ca c.args.toList with
    | .mk as=>.mk (N9 k f as)
   | false=>.mk (cP P G N ops o k)
  | _=>.mk (cP P G N ops o k)
 | _=>.mk (cP P G N ops o k)
def Fj (P:Program) (G N:Nat) (ops:Array Oper) (o:Oper) (k:Kt):CzR:=match mD G o with
 | true=>match gV N o.dst with
  | .ok g=>Oa P G N ops o k g
  | .no=>Oc P G N ops o k
  | .bad=>.mk (cP P G N ops o k)
 | false=>.mk (cP P G N ops o k)
def CP (o:Oper):Oper:=⟨o.dst,o.op,o.type,o.pos,o.after,none⟩
def Od (want:Bool) (u:Value) (x y:Option St):Option St:=match u with
 | .bool b=>match b with
  | true=>match want with
   | true=>x
   | false=>y
  | false=>match want with
   | true=>y
   | false=>x
 | .tuple _=>y
 | _=>none
def guF (want:Bool) (f:Tr Value -> Value) (h:Kt) (k:Kt) (g:Value -> Tr Value -> Tr Value) (ih:Ih) (r:Option Nat) (T:Tr Value) (D:List Deferred) (H:AH) (n:Nat):Option St:=Od want (f T) (h ih r T D H n) (k ih r (g undef T) D H n)
def guN (want:Bool) (f:Tr Value -> Value) (h:Kt) (k:Kt) (ih:Ih) (r:Option Nat) (T:Tr Value) (D:List Deferred) (H:AH) (n:Nat):Option St:=Od want (f T) (h ih r T D H n) (k ih r T D H n)
def K7 (P:Program) (G N:Nat) (ops:Array Oper) (o:Oper) (nx:CzR):CzR:=match nx with
 | .mk k=>match o.guard with
  | none=>Fj P G N ops o k
  | some (j,want)=>match (ops[j]?).bind (·.dst) with
   | some d=>match ul (pth d) with
    | .mk f=>match Fj P G N ops (CP o) k with
     | .mk h=>match gV N o.dst with
      | .ok g=>.mk (guF want f h k g)
      | .no=>.mk (guN want f h k)
      | .bad=>.mk (cP P G N ops o k)
   | none=>.mk (cP P G N ops o k)
def Cj (P:Program) (G N:Nat) (ops:Array Oper):List Oper -> CzR
 | []=>.mk λ _ _ T D H n=>some ⟨T,D,H,n⟩
 | o :: l=>K7 P G N ops o (Cj P G N ops l)
def Fk (P:Program) (G N:Nat) (ops:Array Oper) (o:Oper) (k:Kt) (c:CzR):Prop:=∀ ih r T D H n,c.f ih r T D H n=cP P G N ops o k ih r T D H n
theorem dm {P:Program} {G N:Nat} {ops:Array Oper} {o:Oper} {k:Kt}:Fk P G N ops o k (.mk (cP P G N ops o k)):=λ _ _ _ _ _ _=>rfl
theorem xk {x:Operand} {f} (h:cv x=.mk f) (T:Tr Value):f T=ael T x:=by
 have:=JG x T;rw [h] at this;exact this
theorem cam {x:List Operand} {f} (h:ca x=.mk f) (T:Tr Value):f T=mj T x:=by
 have:=JH x T;rw [h] at this;exact this
theorem K8 {P:Program} {G N:Nat} {ops:Array Oper} {o:Oper} {k:Kt} {g} (hg:o.guard=none) (ho:mD G o=true) (hd:gV N o.dst=.ok g):Fk P G N ops o k (Oa P G N ops o k g):=by
 unfold Oa
 split
 ·rename_i x hx
  split;rename_i f hf
  exact λ ih r T D H n=>JI hg ho hd (.inl hx) (xk hf) ih r T D H n
 ·rename_i x hx
  split;rename_i f hf
  exact λ ih r T D H n=>JI hg ho hd (.inr hx) (xk hf) ih r T D H n
 ·rename_i c a b hx
  split;rename_i f hf
  split;rename_i fa hfa
  split;rename_i fb hfb
  exact λ ih r T D H n=>Io hg ho hd hx (xk hf) (xk hfa) (xk hfb) ih r T D H n
 ·rename_i x hx
  split;rename_i f hf
  exact λ ih r T D H n=>K3 hg ho hd hx (xk hf) ih r T D H n
 ·rename_i op t x y z hx
  split
  ·rename_i q hq
   split;rename_i f hf
   split;rename_i f2 hf2
   exact λ ih r T D H n=>K4 hg ho hd hx hq (xk hf) (xk hf2) ih r T D H n
  ·exact dm
 ·rename_i t x j hx
  split
  ·rename_i c ft hc
   split;rename_i f hf
   exact λ ih r T D H n=>K5 hg ho hd hx hc (xk hf) ih r T D H n
  ·exact dm
 ·rename_i t x hx
  split
  ·rename_i hc
   split;rename_i f hf
   exact λ ih r T D H n=>MC hg ho hd hx hc (xk hf) ih r T D H n
  ·rename_i hc
   split
   ·rename_i c ha
    split;rename_i f hf
    exact λ ih r T D H n=>MD hg ho hd hx hc ha (xk hf) ih r T D H n
   ·exact dm
 ·rename_i t hx
  split
  ·rename_i z hz
   split
   ·rename_i a b c d e hb
    exact λ ih r T D H n=>ME hg ho hd hx hz hb ih r T D H n
   ·exact dm
  ·exact dm
 ·rename_i t x i hx
  split
  ·rename_i el ht
   split
   ·rename_i c hc
    split;rename_i f hf
    split;rename_i f2 hf2
    exact λ ih r T D H n=>MF hg ho hd hx ht hc (xk hf) (xk hf2) ih r T D H n
   ·exact dm
  ·exact dm
 ·rename_i c hx
  split
  ·rename_i f hc
   split
   ·rename_i hb
    split;rename_i as ha
    exact λ ih r T D H n=>MH hg ho hd hx hc hb (cam ha) ih r T D H n
   ·exact dm
  ·exact dm
 ·exact dm
theorem K9 {P:Program} {G N:Nat} {ops:Array Oper} {o:Oper} {k:Kt} (hg:o.guard=none) (ho:mD G o=true) (hd:gV N o.dst=.no):Fk P G N ops o k (Oc P G N ops o k):=by
 unfold Oc
 split
 ·rename_i t x y hx
  split
  ·rename_i hc
   split;rename_i f hf
   split;rename_i f2 hf2
   exact λ ih r T D H n=>MG hg ho hd hx hc (xk hf) (xk hf2) ih r T D H n
  ·exact dm
 ·rename_i c hx
  split
  ·rename_i f hc
   split
   ·rename_i hb
    split;rename_i as ha
    exact λ ih r T D H n=>K6 hg ho hd hx hc hb (cam ha) ih r T D H n
   ·exact dm
  ·exact dm
 ·exact dm
theorem Al {P:Program} {G N:Nat} {ops:Array Oper} {o:Oper} {k:Kt} (hg:o.guard=none):Fk P G N ops o k (Fj P G N ops o k):=by
 unfold Fj
 split
 ·rename_i ho
  split
  ·rename_i g hd
   exact K8 hg ho hd
  ·rename_i hd
   exact K9 hg ho hd
  ·exact dm
 ·exact dm
theorem mw (P:Program) (T:Tr Value) (o:Oper):f6 P T (CP o)=f6 P T o:=by
 have e:execOp (ael T) (CP o)=execOp (ael T) o:=by
  obtain ⟨dst,op,type,pos,after,guard⟩:=o
  cases op <;> rfl
 unfold f6
 rw [e]
 rfl
theorem Ck (P:Program) (T:Tr Value) (o:Oper):gv P (CP o) T=gv P o T:=by
 unfold gv
 simp only [mw]
 rfl
theorem Cm (P:Program) (T:Tr Value) (H:AH) (o:Oper):iZ P (CP o) T H=iZ P o T H:=by
 unfold iZ
 simp only [mw]
 rfl
theorem Fl (P:Program) (T:Tr Value) (H:AH) (n:Nat) (o:Oper):ml P (CP o) T H n=ml P o T H n:=by
 unfold ml
 simp only [mw]
 rfl
theorem Fp (P:Program) (G:Nat) (ih:Ih) (r:Option Nat) (T:Tr Value) (H:AH) (n:Nat) (o:Oper):jz P G ih r (CP o) T H n=jz P G ih r o T H n:=by
 unfold jz zV
 simp only [Ck,Cm,Fl]
 rfl
theorem qP {P:Program} {G N:Nat} {ops:Array Oper} {o:Oper} {k:Kt} {j:Nat} {want:Bool} (hg:o.guard=some (j,want)) {d:Tmp} (hd:(ops[j]?).bind (·.dst)=some d) {f:Tr Value -> Value} (hf:∀ T,f T=cN T d) {h:Kt} (hh:∀ ih r T D H n,h ih r T D H n=cP P G N ops (CP o) k ih r T D H n) (ih r T D H n) :
  cP P G N ops o k ih r T D H n=Od want (f T) (h ih r T D H n) (match eZ N o.dst undef T with | some T=>k ih r T D H n | none=>none):=by
 rw [hh,hf]
 have e:cP P G N ops (CP o) k ih r T D H n=match jz P G ih r o T H n with
  | none=>none
  | some (.val v H n)=>eA v λ v=>match eZ N o.dst v T with
   | some T=>k ih r T D H n
   | none=>none
  | some (.dfr d)=>match eZ N o.dst undef T with
   | some T=>k ih r T (d :: D) H n
   | none=>none:=by
  simp only [cP,d9,CP]
  rw [<- Fp P G ih r T H n o]
  rfl
 rw [e]
 simp only [cP,d9,hg,hd]
 cases cN T d with
 | bool b=>cases b <;> cases want <;> rfl
 | _=>rfl
theorem Lb {P:Program} {G N:Nat} {ops:Array Oper} {o:Oper} {k:Kt}:Fk P G N ops o k (K7 P G N ops o (.mk k)):=by
 cases hg:o.guard with
 | none=>simp only [K7,hg];exact Al hg
 | some jw =>
  obtain ⟨j,want⟩:=jw
  cases hd:(ops[j]?).bind (·.dst) with
  | none=>simp only [K7,hg,hd];exact dm
  | some d =>
   cases hf:ul (pth d) with
   | mk f=>cases hh:Fj P G N ops (CP o) k with
    | mk h =>
     have hf':∀ T,f T=cN T d:=λ T=>by have:=pD (pth d) T;rw [hf] at this;exact this
     have hh':=Al (P:=P) (G:=G) (N:=N) (ops:=ops) (o:=CP o) (k:=k) rfl
     rw [hh] at hh'
     cases hdk:gV N o.dst with
     | ok g =>
      simp only [K7,hg,hd,hf,hh,hdk]
      intro ih r T D H n
      rw [qP hg hd hf' hh',Ad hdk]
      rfl
     | no =>
      simp only [K7,hg,hd,hf,hh,hdk]
      intro ih r T D H n
      rw [qP hg hd hf' hh',Ae hdk]
      rfl
     | bad=>simp only [K7,hg,hd,hf,hh,hdk];exact dm
theorem Am (P:Program) (G N:Nat) (ops:Array Oper):∀ l,CzR.okL P G N ops l (Cj P G N ops l).f
 | []=>λ ih r T D H n=>rfl
 | o :: l=>by
  have h:=Am P G N ops l
  cases hk:Cj P G N ops l with
  | mk k =>
   rw [hk] at h
   intro ih r T D H n
   simp only [Cj,hk]
   rw [Lb]
   exact Ik h o ih r T D H n
def Nv (P:Program) (G N:Nat) (c:Code) (ih:Ih) (r:Option Nat) (T:Tr Value) (D:List Deferred) (H:AH) (n:Nat):Option (Ex × St):=iK P G ih r N c ⟨T,D,H,n⟩
def MI (k:Kt) (ih:Ih) (r:Option Nat) (T:Tr Value) (D:List Deferred) (H:AH) (n:Nat):Option (Ex × St):=match k ih r T D H n with
 | some s=>some (.normal,s)
 | none=>none
abbrev Kc:=Ih -> Option Nat -> Tr Value -> List Deferred -> AH -> Nat -> Option (Ex × St)
def Oe (x:Option (Ex × St)) (y:Tr Value -> List Deferred -> AH -> Nat -> Option (Ex × St)):Option (Ex × St):=match x with
 | some p=>match p with
  | (e,s)=>match e with
   | .normal=>match s with
    | ⟨T,D,H,n⟩=>y T D H n
   | .exit id=>some (.exit id,s)
   | .ret=>some (.ret,s)
 | none=>none
def MJ (a b:Kc) (ih:Ih) (r:Option Nat) (T:Tr Value) (D:List Deferred) (H:AH) (n:Nat):Option (Ex × St):=Oe (a ih r T D H n) λ T D H n=>b ih r T D H n
def MK (u:Value) (x y:Option (Ex × St)):Option (Ex × St):=match u with
 | .bool b=>match b with
  | true=>x
  | false=>y
 | _=>none
def JK (f:Tr Value -> Value) (a b:Kc) (ih:Ih) (r:Option Nat) (T:Tr Value) (D:List Deferred) (H:AH) (n:Nat):Option (Ex × St):=MK (f T) (a ih r T D H n) (b ih r T D H n)
def ML (id:Nat) (x:Option (Ex × St)):Option (Ex × St):=match x with
 | some p=>match p with
  | (e,s)=>match e with
   | .exit id'=>match Nat.beq id' id with
    | true=>some (.normal,s)
    | false=>some (.exit id',s)
   | .normal=>some (.normal,s)
   | .ret=>some (.ret,s)
 | none=>none
def MM (id:Nat) (a:Kc) (ih:Ih) (r:Option Nat) (T:Tr Value) (D:List Deferred) (H:AH) (n:Nat):Option (Ex × St):=ML id (a ih r T D H n)
def MN (x:Option (Ex × St)) (y:St -> Option Rs):Option (Ex × St):=match x with
 | some p=>match p with
  | (e,s)=>match e with
   | .normal=>match y s with
    | some q=>match q with
     | .cd e s=>some (e,s)
     | .fn _ _ _=>none
    | none=>none
   | .exit id=>some (.exit id,s)
   | .ret=>some (.ret,s)
 | none=>none
def MO (N:Nat) (c:Code) (a:Kc) (ih:Ih) (r:Option Nat) (T:Tr Value) (D:List Deferred) (H:AH) (n:Nat):Option (Ex × St):=MN (a ih r T D H n) λ s=>ih (.loop r N c s)
def gW (P:Program) (G N:Nat):Code -> CzC
 | .skip=>.mk λ _ _ T D H n=>some (.normal,⟨T,D,H,n⟩)
 | .label _=>.mk λ _ _ T D H n=>some (.normal,⟨T,D,H,n⟩)
 | .region id ops draw=>match draw with
  | false=>match Cj P G N ops ops.toList with
   | .mk k=>.mk (MI k)
  | true=>.mk (Nv P G N (.region id ops true))
 | .seq a b=>match gW P G N a with
  | .mk fa=>match gW P G N b with
   | .mk fb=>.mk (MJ fa fb)
 | .cond c a b=>match cv c with
  | .mk f=>match gW P G N a with
   | .mk fa=>match gW P G N b with
    | .mk fb=>.mk (JK f fa fb)
 | .block id c=>match gW P G N c with
  | .mk fa=>.mk (MM id fa)
 | .loop c=>match gW P G N c with
  | .mk fa=>.mk (MO N c fa)
 | .rangeFunc g ps assign body=>.mk (Nv P G N (.rangeFunc g ps assign body))
 | .exit id=>.mk λ _ _ T D H n=>some (.exit id,⟨T,D,H,n⟩)
 | .scope c=>gW P G N c
 | .goto l=>.mk (Nv P G N (.goto l))
 | .ret=>.mk λ _ _ T D H n=>some (.ret,⟨T,D,H,n⟩)
 | .refuse x=>.mk (Nv P G N (.refuse x))
def MP (P:Program) (G N:Nat) (c:Code) (f:Kc):Prop:=∀ ih r T D H n,f ih r T D H n=iK P G ih r N c ⟨T,D,H,n⟩
theorem gX (P:Program) (G N:Nat):∀ c,MP P G N c (gW P G N c).f
 | .skip=>λ _ _ _ _ _ _=>rfl
 | .label _=>λ _ _ _ _ _ _=>rfl
 | .region id ops draw=>by
  cases draw with
  | true=>exact λ _ _ _ _ _ _=>rfl
  | false =>
   have h:=Am P G N ops ops.toList
   cases hk:Cj P G N ops ops.toList with
   | mk k =>
    rw [hk] at h
    intro ih r T D H n
    simp only [gW,hk,CzC.f,MI,iK]
    have:=h ih r T D H n
    simp only [CzR.f] at this
    rw [this]
    cases lS P G ih r N ops ops.toList ⟨T,D,H,n⟩ <;> rfl
 | .seq a b=>by
  have h1:=gX P G N a
  have h2:=gX P G N b
  cases ha:gW P G N a with
  | mk fa=>cases hb:gW P G N b with
   | mk fb =>
    rw [ha] at h1;rw [hb] at h2
    intro ih r T D H n
    have e1:=h1 ih r T D H n
    simp only [CzC.f] at e1
    simp only [gW,ha,hb,CzC.f,MJ,iK,e1]
    cases iK P G ih r N a ⟨T,D,H,n⟩ with
    | none=>rfl
    | some p=>obtain ⟨e,s⟩:=p;cases e with
     | normal=>obtain ⟨T,D,H,n⟩:=s;exact h2 ih r T D H n
     | exit id=>rfl
     | ret=>rfl
 | .cond c a b=>by
  have h1:=gX P G N a
  have h2:=gX P G N b
  cases hc:cv c with
  | mk f=>cases ha:gW P G N a with
   | mk fa=>cases hb:gW P G N b with
    | mk fb =>
     rw [ha] at h1;rw [hb] at h2
     intro ih r T D H n
     simp only [gW,hc,ha,hb,CzC.f,JK,iK,xk hc]
     cases ael T c with
     | bool q=>cases q with
      | true=>exact h1 ih r T D H n
      | false=>exact h2 ih r T D H n
     | _=>rfl
 | .block id c=>by
  have h1:=gX P G N c
  cases ha:gW P G N c with
  | mk fa =>
   rw [ha] at h1
   intro ih r T D H n
   have e1:=h1 ih r T D H n
   simp only [CzC.f] at e1
   simp only [gW,ha,CzC.f,MM,iK,e1]
   cases iK P G ih r N c ⟨T,D,H,n⟩ with
   | none=>rfl
   | some p=>obtain ⟨e,s⟩:=p;cases e with
    | normal=>rfl
    | exit id'=>simp only [ML];cases Nat.beq id' id <;> rfl
    | ret=>rfl
 | .loop c=>by
  have h1:=gX P G N c
  cases ha:gW P G N c with
  | mk fa =>
   rw [ha] at h1
   intro ih r T D H n
   have e1:=h1 ih r T D H n
   simp only [CzC.f] at e1
   simp only [gW,ha,CzC.f,MO,iK,e1]
   cases iK P G ih r N c ⟨T,D,H,n⟩ with
   | none=>rfl
   | some p=>obtain ⟨e,s⟩:=p;cases e with
    | normal =>
     simp only [MN]
     cases ih (.loop r N c s) with
     | none=>rfl
     | some q=>cases q <;> rfl
    | exit id'=>rfl
    | ret=>rfl
 | .rangeFunc g ps assign body=>λ _ _ _ _ _ _=>rfl
 | .exit id=>λ _ _ _ _ _ _=>rfl
 | .scope c=>by
  intro ih r T D H n
  simp only [gW,iK]
  exact gX P G N c ih r T D H n
 | .goto l=>λ _ _ _ _ _ _=>rfl
 | .ret=>λ _ _ _ _ _ _=>rfl
 | .refuse x=>λ _ _ _ _ _ _=>rfl
def Ip:List ResultVar -> Option CzA
 | []=>some (.mk λ _=>[])
 | x :: l=>match x with
  | .tmp t=>match ul (pth t) with
   | .mk f=>match Ip l with
    | some c=>match c with
     | .mk h=>some (.mk λ T=>f T :: h T)
    | none=>none
  | .cell _ _=>none
theorem Fq (P:Program) (H:AH) (T:Tr Value):∀ {l:List ResultVar} {h},Ip l=some (.mk h) -> nR P T H l=some (h T)
 | [],h,e=>by simp only [Ip,Option.some.injEq,CzA.mk.injEq] at e;subst e;rfl
 | .cell _ _ :: l,h,e=>by simp [Ip] at e
 | .tmp t :: l,h,e=>by
  simp only [Ip] at e
  cases hf:ul (pth t) with
  | mk f =>
   rw [hf] at e
   simp only at e
   cases hl:Ip l with
   | none=>rw [hl] at e;simp at e
   | some c=>cases c with
    | mk h' =>
     rw [hl] at e
     simp only [Option.some.injEq,CzA.mk.injEq] at e
     subst e
     have:=pD (pth t) T
     rw [hf] at this
     simp only [CzV.f] at this
     simp only [nR,Fq P H T hl,this]
     rfl
def Lc (l:List Value):Nat -> Tr Value -> Tr Value:=List.rec (motive:=λ _=>Nat -> Tr Value -> Tr Value) (λ _ t=>t) (λ x _ ih i t=>eA x λ x=>ih (i+1) (dF undef x (pth i) t)) l
theorem An:∀ (l:List Value) (i:Nat) (t:Tr Value),Lc l i t=dw undef l i t
 | [],i,t=>rfl
 | x :: l,i,t=>by
  have:=An l (i+1) (dF undef x (pth i) t)
  show (eA x λ x=>Lc l (i+1) (dF undef x (pth i) t))=_
  rw [cC,this,dw]
  have e:Tr.set undef x t i=dF undef x (pth i) t:=rfl
  rw [e]
  cases dF undef x (pth i) t <;> rfl
def MQ (h:List Value):Value:=match h with
 | []=>.tuple ⟨[]⟩
 | v :: l=>match l with
  | []=>v
  | w :: l=>.tuple ⟨v :: w :: l⟩
theorem Iq (h:List Value):MQ h=ws h:=by
 cases h with
 | nil=>rfl
 | cons v l=>cases l <;> rfl
def MR (P:Program) (fn:Func) (ih:Ih) (s:St):Option Rs:=match jR P ih s.D s.H s.n with
 | some (H,n)=>match nR P s.T H fn.results.toList with
  | some vs=>some (.fn (ws vs) H n)
  | none=>none
 | none=>none
def Og (P:Program) (fn:Func) (h:Tr Value -> List Value) (ih:Ih) (s:St):Option Rs:=match s with
 | ⟨T,D,H,n⟩=>match D with
  | []=>some (.fn (MQ (h T)) H n)
  | d :: D=>MR P fn ih ⟨T,d :: D,H,n⟩
def fnR (x:Option (Ex × St)) (y:St -> Option Rs):Option Rs:=match x with
 | some p=>match p with
  | (e,s)=>match e with
   | .exit _=>none
   | .normal=>y s
   | .ret=>y s
 | none=>none
def Nw (N:Nat) (k:Kc) (y:Ih -> St -> Option Rs) (ih:Ih) (args:List Value) (H:AH) (n:Nat):Option Rs:=match Nat.ble (fZ args) N with
 | true=>fnR (k ih none (Lc args 0 .lf) [] H n) (y ih)
 | false=>none
def Cn (P:Program) (G:Nat) (f:FuncId):CzF:=match qz P f with
 | some (fn,c)=>match gW P G fn.ntmps c with
  | .mk k=>match Ip fn.results.toList with
   | some h=>match h with
    | .mk h=>.mk (Nw fn.ntmps k (Og P fn h))
   | none=>.mk (Nw fn.ntmps k (MR P fn))
 | none=>.mk λ _ _ _ _=>none
theorem Ld {P:Program} {fn:Func} {h} (e:Ip fn.results.toList=some (.mk h)) (ih:Ih) (s:St):Og P fn h ih s=MR P fn ih s:=by
 obtain ⟨T,D,H,n⟩:=s
 cases D with
 | cons d D=>rfl
 | nil=>simp only [Og,MR,jR,Fq P H T e,Iq]
theorem Fs {P:Program} {G:Nat} {fn:Func} {c:Code} {f:FuncId} (hb:qz P f=some (fn,c)) {k:Kc} (hk:MP P G fn.ntmps c k) {y:Ih -> St -> Option Rs} (hy:∀ ih s,y ih s=MR P fn ih s) (ih:Ih) (args:List Value) (H:AH) (n:Nat):Nw fn.ntmps k y ih args H n=gx P G ih (.fn f args H n):=by
 simp only [Nw,gx,hb]
 cases Nat.ble (fZ args) fn.ntmps with
 | false=>rfl
 | true =>
  simp only [hk ih,An]
  rw [show dw undef args 0 .lf=lT args from rfl]
  cases iK P G ih none fn.ntmps c ⟨lT args,[],H,n⟩ with
  | none=>rfl
  | some p=>obtain ⟨e,s⟩:=p;cases e with
   | exit _=>rfl
   | normal=>exact hy ih s
   | ret=>exact hy ih s
theorem Ir (P:Program) (G:Nat) (f:FuncId) (ih:Ih) (args:List Value) (H:AH) (n:Nat):(Cn P G f).f ih args H n=gx P G ih (.fn f args H n):=by
 cases hb:qz P f with
 | none=>simp only [Cn,hb,CzF.f,gx]
 | some p =>
  obtain ⟨fn,c⟩:=p
  have h1:=gX P G fn.ntmps c
  cases hk:gW P G fn.ntmps c with
  | mk k =>
   rw [hk] at h1
   cases hr:Ip fn.results.toList with
   | none =>
    simp only [Cn,hb,hk,hr,CzF.f]
    exact Fs hb h1 (λ _ _=>rfl) ih args H n
   | some h=>cases h with
    | mk h =>
     simp only [Cn,hb,hk,hr,CzF.f]
     exact Fs hb h1 (λ ih s=>Ld hr ih s) ih args H n
def wU (P:Program) (G:Nat) (ih:Ih) (t:Task):Option Rs:=match t with
 | .loop r N c s=>match gW P G N (.loop c) with
  | .mk k=>match s with
   | ⟨T,D,H,n⟩=>match k ih r T D H n with
    | some p=>match p with
     | (e,s)=>some (.cd e s)
    | none=>none
 | .fn f args H n=>match Cn P G f with
  | .mk k=>k ih args H n
 | t=>gx P G ih t
theorem Ft (P:Program) (G:Nat) (ih:Ih) (t:Task):wU P G ih t=gx P G ih t:=by
 cases t with
 | loop r N c s =>
  obtain ⟨T,D,H,n⟩:=s
  have h1:=gX P G N (.loop c)
  cases hk:gW P G N (.loop c) with
  | mk k =>
   rw [hk] at h1
   have:=h1 ih r T D H n
   simp only [CzC.f] at this
   simp only [wU,hk,gx,this]
   cases iK P G ih r N (.loop c) ⟨T,D,H,n⟩ with
   | none=>rfl
   | some p=>rfl
 | fn f args H n =>
  have:=Ir P G f ih args H n
  cases hk:Cn P G f with
  | mk k =>
   rw [hk] at this
   simp only [wU,hk]
   exact this
 | _=>rfl
def pg (P:Program) (G:Nat) (k:Nat):Ih:=Nat.rec (motive:=λ _=>Ih) (λ _=>none) (λ _ ih t=>wU P G ih t) k
theorem pE (P:Program) (G:Nat):∀ k,pg P G k=EL P G k
 | 0=>rfl
 | k+1=>by
  funext t
  show wU P G (pg P G k) t=_
  rw [Ft,pE P G k]
  rfl
end
noncomputable section
def lB (ν:Nu) (h:Nat):Nat:=match ν h with
 | some (b,_)=>b
 | none=>0
def Oh (ν:Nu) (h c:Nat):Nat:=match Nat.blt c ln with
 | true=>c
 | false=>match ν h with
  | some (_,K)=>K - (c - ln)
  | none=>0
mutual
def kr (ν:Nu):Value -> Value
 | .pointer (some a)=>.pointer (some ⟨lB ν a.block,a.off,none⟩)
 | .slice (some a) n c=>.slice (some ⟨lB ν a.block,a.off,none⟩) n (Oh ν a.block c)
 | .map (some h)=>.map (some (lB ν h))
 | .iface t v=>.iface t (kr ν v)
 | .agg c=>.agg (Fu ν c)
 | .tuple c=>.tuple (Fu ν c)
 | v=>v
def Fu (ν:Nu):Array Value -> Array Value
 | ⟨l⟩=>⟨qQ ν l⟩
def qQ (ν:Nu):List Value -> List Value
 | []=>[]
 | v :: l=>kr ν v :: qQ ν l
end
mutual
def kS:Value -> Bool
 | .iface _ v=>kS v
 | .func f a c=>pl (.func f a c)
 | .agg c=>JL c
 | .tuple c=>JL c
 | .chan _=>false
 | _=>true
def JL:Array Value -> Bool
 | ⟨l⟩=>Co l
def Co:List Value -> Bool
 | []=>true
 | v :: l=>match kS v with
  | true=>Co l
  | false=>false
end
theorem um {ν:Nu}:∀ {l l':List Value},l.length=l'.length -> (∀ (i:Nat) (v v':Value),l[i]?=some v -> l'[i]?=some v' -> kS v=true -> v'=kr ν v) -> Co l=true -> l'=qQ ν l
 | [],[],_,_,_=>rfl
 | [],_ :: _,e,_,_=>by simp at e
 | _ :: _,[],e,_,_=>by simp at e
 | v :: l,v' :: l',e,h,ho=>by
  rw [Co] at ho
  cases hv:kS v with
  | false=>rw [hv] at ho;cases ho
  | true =>
   rw [hv] at ho
   have a1:=h 0 v v' rfl rfl hv
   have a2:=um (l:=l) (l':=l') (by simpa using e) (λ i a b h1 h2=>h (i+1) a b (by simpa using h1) (by simpa using h2)) ho
   rw [qQ,<- a1,<- a2]
theorem pF {ν:Nu} {v v':Value} (h:VRi ν v v'):kS v=true -> v'=kr ν v:=by
 induction h with
 | atom v h =>
  intro _
  cases v with
  | pointer a=>cases a with
   | none=>rfl
   | some a=>simp [cj] at h
  | slice a n c=>cases a with
   | none=>rfl
   | some a=>simp [cj] at h
  | map r=>cases r with
   | none=>rfl
   | some r=>simp [cj] at h
  | iface t v=>simp [cj] at h
  | agg c=>simp [cj] at h
  | tuple c=>simp [cj] at h
  | _=>rfl
 | ptr o h=>intro _;simp [kr,lB,h]
 | @slice hd b K c c' o n h hc =>
  intro _
  simp only [kr,lB,Oh,h]
  congr 1
  cases hb:Nat.blt c ln with
  | true=>exact hc.1 (Eq.mp Nat.blt_eq hb)
  | false =>
   have h2:=hc.2 (kh hb)
   simp only
   omega
 | map h=>intro _;simp [kr,lB,h]
 | func hf e1 h1 e2 h2 _ _ =>
  intro ho
  have:=VRi.plain_eq (VRi.func hf e1 h1 e2 h2) (by simpa only [kS] using ho)
  rw [this];rfl
 | iface t _ ih=>intro ho;rw [kr,<- ih (by simpa only [kS] using ho)]
 | @agg c c' e _ ih =>
  intro ho
  obtain ⟨l⟩:=c
  obtain ⟨l'⟩:=c'
  simp only [List.getElem?_toArray] at ih
  rw [kr,Fu,um (l:=l) (l':=l') e ih (by simpa only [kS,JL] using ho)]
 | @tuple c c' e _ ih =>
  intro ho
  obtain ⟨l⟩:=c
  obtain ⟨l'⟩:=c'
  simp only [List.getElem?_toArray] at ih
  rw [kr,Fu,um (l:=l) (l':=l') e ih (by simpa only [kS,JL] using ho)]
theorem Iu {ν:Nu} {l l':List Value} (h:LR ν l l'):Co l=true -> l'=l.map (kr ν):=by
 induction h with
 | nil=>intro _;rfl
 | @cons v v' l l' h _ ih =>
  intro ho
  rw [Co] at ho
  cases hv:kS v with
  | false=>rw [hv] at ho;cases ho
  | true =>
   rw [hv] at ho
   rw [List.map_cons,pF h hv,ih ho]
abbrev PB:=Nat × List Value × TypeId
def Iv (H:AH) (p:PB):Bool:=match bu H p.1 with
 | some (.cells n t ty _ _)=>match Nat.beq n (fZ p.2.1),Nat.beq ty p.2.2 with
  | true,true=>match pf (gw t 0 n) p.2.1 with
   | true=>Co p.2.1
   | false=>false
  | _,_=>false
 | _=>false
def Ao (H:AH):List PB -> Bool
 | []=>true
 | p :: l=>match Iv H p with
  | true=>Ao H l
  | false=>false
def oa (ν:Nu) (w:World) (p:PB):List Value:=match w.heap[lB ν p.1]? with
 | some (.cells c _ _)=>c.toList.drop p.2.1.length
 | _=>[]
def qR (ν:Nu) (rest:PB -> List Value) (p:PB):Nat × Blk:=(lB ν p.1,.lit (p.2.1.map (kr ν)++rest p) p.2.2 (0,0))
theorem Ap (l l':List Value) (h:pf l l'=true):l=l':=by
 induction l generalizing l' with
 | nil=>cases l' with
  | nil=>rfl
  | cons v l'=>simp [pf] at h
 | cons v l ih=>cases l' with
  | nil=>simp [pf] at h
  | cons v' l' =>
   rw [pf] at h
   cases hv:rq v v' with
   | false=>rw [hv] at h;cases h
   | true=>rw [hv] at h;rw [yE _ _ hv,ih _ h]
theorem Fv {ν:Nu} {H:AH} {F:HL} {w:World} (hH:HR ν H F w) {p:PB} (hc:Iv H p=true) :
  (∃ K,ν p.1=some (lB ν p.1,K)) /\ (∃ b,bu H p.1=some b) /\ w.heap[lB ν p.1]?=some (qR ν (oa ν w) p).2.den:=by
 unfold Iv at hc
 split at hc
 case h_2=>cases hc
 rename_i n t ty ww ro hb
 split at hc
 case h_2=>cases hc
 rename_i e1 e2
 have e1:=Nat.eq_of_beq_eq_true e1
 have e2:=Nat.eq_of_beq_eq_true e2
 split at hc
 case h_2=>cases hc
 rename_i e3
 have e3:=Ap _ _ e3
 obtain ⟨r,K,o,h1,h2,h3⟩:=hH.blk _ _ hb
 have hn:lB ν p.1=r:=by simp [lB,h1]
 have hcc:=hH.cells hb h1
 obtain ⟨c,ty',fz,g1,g2⟩:=hcc
 refine ⟨⟨K,by rw [hn];exact h1⟩,⟨_,hb⟩,?_⟩
 rw [hn,g1]
 have hr:=jD g2.le g2.get n 0 (by omega)
 rw [e3] at hr
 have hl:=Iu hr hc
 rw [dR] at e1
 simp only [qR,Blk.den,oa,hn,g1,g2.ty,g2.fz,<- e2]
 congr 2
 apply Array.ext'
 simp only
 rw [<- hl,List.drop_zero,<- e1,List.take_append_drop]
def oc:List PB -> AH
 | []=>.lf
 | p :: l=>cM (oc l) p.1 (some (.cells (fZ p.2.1) (dw undef p.2.1 0 .lf) p.2.2 1 true))
def od (tabs:List PB) (G:Nat):Nu:=λ h=>if h < G then some (h,match tabs.find? (λ p=>p.1 == h) with | some p=>p.2.1.length | none=>0) else none
def fS (p:PB):Nat × Blk:=(p.1,.lit p.2.1 p.2.2 (0,0))
def oQ (G:Nat):List PB -> Bool
 | []=>true
 | p :: l=>match Nat.blt p.1 G,rH p.2.1,l.any (λ q=>q.1 == p.1) with
  | true,true,false=>oQ G l
  | _,_,_=>false
end
noncomputable section
theorem Aq:∀ (tabs:List PB) (h:Nat),bu (oc tabs) h=match tabs.find? (λ p=>p.1 == h) with
  | some p=>some (.cells (fZ p.2.1) (dw undef p.2.1 0 .lf) p.2.2 1 true)
  | none=>none
 | [],h=>yr _
 | p :: l,h=>by
  rw [oc,dj,Aq l h]
  by_cases e:p.1=h
  ·rw [if_pos e,List.find?_cons_of_pos (by simpa using e)]
  ·rw [if_neg e,List.find?_cons_of_neg (by simpa using e)]
theorem fd {G:Nat}:∀ {tabs:List PB},oQ G tabs=true -> ∀ p ∈ tabs,p.1 < G /\ rH p.2.1=true
 | [],_,p,hp=>by simp at hp
 | q :: l,h,p,hp=>by
  rw [oQ] at h
  split at h
  ·rename_i h1 h2 h3
   rcases List.mem_cons.1 hp with rfl | hp
   ·exact ⟨Eq.mp Nat.blt_eq h1,h2⟩
   ·exact fd h p hp
  ·cases h
theorem Ar:∀ {l:List Value},rH l=true -> ∀ {i:Nat} {v:Value},l[i]?=some v -> pl v=true
 | [],_,i,v,h=>by simp at h
 | x :: l,hp,i,v,h=>by
  rw [rH] at hp
  split at hp
  ·rename_i hx
   cases i with
   | zero=>simp at h;rw [<- h];exact hx
   | succ i=>exact Ar hp (by simpa using h)
  ·cases hp
theorem lC {tabs:List PB} {h:Nat} {p:PB} (e:tabs.find? (λ p=>p.1 == h)=some p):p ∈ tabs /\ p.1=h :=
 ⟨List.mem_of_find?_eq_some e,by simpa using List.find?_some e⟩
section
variable {tabs picks:List PB} {G:Nat} {F:HL} {w:World}
theorem Fw (ht:oQ G tabs=true) (hR:Rel (tabs.map fS++F) w):HR (od tabs G) (oc tabs) F w:=by
 have key:∀ h b,bu (oc tabs) h=some b -> ∃ p,tabs.find? (λ p=>p.1 == h)=some p /\ b=.cells (fZ p.2.1) (dw undef p.2.1 0 .lf) p.2.2 1 true:=λ h b hb=>by
  rw [Aq] at hb
  split at hb
  ·rename_i p hp;cases hb;exact ⟨p,hp,rfl⟩
  ·cases hb
 refine ⟨λ h b hb=>?_,λ h₁ h₂ b₁ b₂ r K₁ K₂ _ _ e1 e2=>?_,λ x hx=>hR.holds x (List.mem_append_right _ hx),λ h b r K hb e1 x hx=>?_⟩
 ·obtain ⟨p,hp,rfl⟩:=key h b hb
  obtain ⟨hm,rfl⟩:=lC hp
  obtain ⟨hlt,hpl⟩:=fd ht p hm
  refine ⟨p.1,p.2.1.length,.cells ⟨p.2.1⟩ p.2.2 (0,0),by simp only [od,if_pos hlt,hp],?_,?_⟩
  ·exact hR.holds (fS p) (List.mem_append_left _ (List.mem_map.2 ⟨p,hm,rfl⟩))
  ·refine ⟨rfl,by rw [dR];exact Nat.le_refl _,rfl,λ i hi=>?_,λ _=>by simp⟩
   rw [dR] at hi
   refine ⟨p.2.1[i],by simp [hi],?_⟩
   rw [kO hi]
   exact VRi.plain_refl _ (Ar hpl (List.getElem?_eq_getElem hi))
 ·unfold od at e1 e2
  split at e1
  ·split at e2
   ·simp only [Option.some.injEq,Prod.mk.injEq] at e1 e2
    rw [e1.1,e2.1]
   ·cases e2
  ·cases e1
 ·obtain ⟨p,hp,rfl⟩:=key h b hb
  obtain ⟨hm,rfl⟩:=lC hp
  have hr:r=p.1:=by
   unfold od at e1
   split at e1
   ·simp only [Option.some.injEq,Prod.mk.injEq] at e1;exact e1.1.symm
   ·cases e1
  intro e
  have hn:=hR.nodup
  rw [List.map_append,List.nodup_append] at hn
  exact hn.2.2 p.1 (by rw [List.map_map];exact List.mem_map.2 ⟨p,hm,rfl⟩) x.1 (List.mem_map.2 ⟨x,hx,rfl⟩) (by rw [e,hr])
def Iw (H:AH) (p:PB):Bool:=match bu H p.1 with
 | some (.cells n t ty ww _)=>match Nat.beq n (fZ p.2.1),Nat.beq ty p.2.2,Nat.beq ww 1 with
  | true,true,true=>pf (gw t 0 n) p.2.1
  | _,_,_=>false
 | _=>false
def qS (H:AH):List PB -> Bool
 | []=>true
 | p :: l=>match Iw H p with
  | true=>qS H l
  | false=>false
theorem lD {H:AH}:∀ {l:List PB},qS H l=true -> ∀ p ∈ l,Iw H p=true
 | [],_,p,hp=>by simp at hp
 | q :: l,h,p,hp=>by
  rw [qS] at h
  split at h
  ·rename_i h1
   rcases List.mem_cons.1 hp with rfl | hp
   ·exact h1
   ·exact lD h p hp
  ·cases h
theorem s9 {H:AH}:∀ {l:List PB},Ao H l=true -> ∀ p ∈ l,Iv H p=true
 | [],_,p,hp=>by simp at hp
 | q :: l,h,p,hp=>by
  rw [Ao] at h
  split at h
  ·rename_i h1
   rcases List.mem_cons.1 hp with rfl | hp
   ·exact h1
   ·exact s9 h p hp
  ·cases h
theorem LR.plain_eq {ν:Nu} {l l':List Value} (h:LR ν l l'):rH l=true -> l'=l:=by
 induction h with
 | nil=>intro _;rfl
 | @cons v v' l l' h _ ih =>
  intro hp
  rw [rH] at hp
  split at hp
  ·rename_i hv;rw [VRi.plain_eq h hv,ih hp]
  ·cases hp
theorem un {ν:Nu} {H:AH} (hH:HR ν H F w) {p:PB} (hc:Iw H p=true) (hp:rH p.2.1=true) (hν:ν p.1=some (p.1,p.2.1.length)):w.heap[p.1]?=some (fS p).2.den /\ ∃ b,bu H p.1=some b:=by
 unfold Iw at hc
 split at hc
 case h_2=>cases hc
 rename_i n t ty ww ro hb
 split at hc
 case h_2=>cases hc
 rename_i e1 e2 e3
 have e1:=Nat.eq_of_beq_eq_true e1
 have e2:=Nat.eq_of_beq_eq_true e2
 have e3:=Nat.eq_of_beq_eq_true e3
 have e4:=Ap _ _ hc
 obtain ⟨c,ty',fz,g1,g2⟩:=hH.cells hb hν
 refine ⟨?_,_,hb⟩
 have hr:=jD g2.le g2.get n 0 (by omega)
 rw [e4] at hr
 have hl:=hr.plain_eq hp
 have hsz:=g2.gr (by omega)
 rw [e3,Nat.mul_one] at hsz
 rw [dR] at e1
 rw [g1,g2.ty,g2.fz,e2]
 simp only [fS,Blk.den]
 congr 2
 apply Array.ext'
 rw [List.drop_zero] at hl
 rw [<- hl,List.take_of_length_le]
 have:c.toList.length=c.size:=rfl
 omega
theorem my:∀ {l:List PB},(l.map (·.1)).Nodup -> ∀ {p q:PB},p ∈ l -> q ∈ l -> q.1=p.1 -> q=p
 | [],_,p,q,hp,_,_=>by simp at hp
 | x :: l,hd,p,q,hp,hq,e=>by
  simp only [List.map_cons,List.nodup_cons] at hd
  rcases List.mem_cons.1 hp with h1 | h1 <;> rcases List.mem_cons.1 hq with h2 | h2
  ·rw [h1,h2]
  ·exact absurd (List.mem_map.2 ⟨q,h2,by rw [e,h1]⟩) hd.1
  ·exact absurd (List.mem_map.2 ⟨p,h1,by rw [<- e,h2]⟩) hd.1
  ·exact my hd.2 h1 h2 e
def Lf (tabs picks:List PB) (v0:Value):Option Rs -> Bool
 | some (.fn v H _)=>match rq v v0,kS v0,qS H tabs with
  | true,true,true=>Ao H picks
  | _,_,_=>false
 | _=>false
theorem LR.plain_refl {ν:Nu}:∀ {l:List Value},rH l=true -> LR ν l l
 | [],_=>.nil
 | v :: l,h=>by
  rw [rH] at h
  split at h
  ·rename_i hv;exact .cons (VRi.plain_refl v hv) (LR.plain_refl h)
  ·cases h
theorem ta {P:Program} (hm:P.follows .mixedOrders=true) {k n0:Nat} {f:FuncId} {args:List Value} {v0:Value} (hG:Nat.ble G n0=true) (ht:oQ G tabs=true) (ha:rH args=true)
  (hnd:(tabs.map (·.1)++picks.map (·.1)).Nodup) (hrun:Lf tabs picks v0 (pg P G k (.fn f args (oc tabs) n0))=true) :
  Sp P f ⟨args⟩ (tabs.map fS) F λ v' H'=>∃ ν rest,v'=kr ν v0 /\ H'=tabs.map fS++picks.map (qR ν rest):=by
 intro w hR
 have hG:=bB hG
 cases hres:pg P G k (.fn f args (oc tabs) n0) with
 | none=>rw [hres] at hrun;cases hrun
 | some res=>cases res with
  | cd e s=>rw [hres] at hrun;cases hrun
  | fn v H n' =>
   rw [hres] at hrun
   simp only [Lf] at hrun
   split at hrun
   case h_2=>cases hrun
   rename_i q1 q2 q3
   rw [pE] at hres
   obtain ⟨hn,hcall⟩:=pC hm k _ _ hres
   have hlt:∀ p ∈ tabs,p.1 < G:=λ p hp=>(fd ht p hp).1
   refine (hcall (od tabs G) F w args (λ k hk=>⟨_,if_pos hk⟩) (λ h h1 h2=>by simp only [od];rw [if_neg (by omega)]) (Fw ht hR) (LR.plain_refl ha)).mono ?_
   rintro e w' ⟨ν,v',rfl,hv,hext,hH,hbel⟩
   rw [yE _ _ q1] at hv
   have hνt:∀ p ∈ tabs,ν p.1=od tabs G p.1:=λ p hp=>hext.out _ (.inl (by have:=hlt p hp;omega))
   have hfind:∀ p ∈ tabs,ν p.1=some (p.1,p.2.1.length):=λ p hp=>by
    rw [hνt p hp]
    simp only [od,if_pos (hlt p hp)]
    congr 2
    have hd:(tabs.map (·.1)).Nodup:=(List.nodup_append.1 hnd).1
    cases hf:tabs.find? (λ q=>q.1 == p.1) with
    | none=>exact absurd (List.find?_eq_none.1 hf p hp) (by simp)
    | some q =>
     obtain ⟨hq,hq2⟩:=lC hf
     have:q=p:=my hd hp hq hq2
     simp [this]
   have htab:∀ p ∈ tabs,w'.heap[p.1]?=some (fS p).2.den /\ ∃ b,bu H p.1=some b:=λ p hp=>un hH (lD q3 p hp) (fd ht p hp).2 (hfind p hp)
   have hpk:∀ p ∈ picks,(∃ K,ν p.1=some (lB ν p.1,K)) /\ (∃ b,bu H p.1=some b) /\ w'.heap[lB ν p.1]?=some (qR ν (oa ν w') p).2.den:=λ p hp=>Fv hH (s9 hrun p hp)
   refine ⟨v',tabs.map fS++picks.map (qR ν (oa ν w')),rfl,⟨ν,oa ν w',pF hv q2,rfl⟩,⟨?_,?_⟩,hbel⟩
   ·intro x hx
    rcases List.mem_append.1 hx with hx | hx
    ·rcases List.mem_append.1 hx with hx | hx
     ·obtain ⟨p,hp,rfl⟩:=List.mem_map.1 hx
      exact (htab p hp).1
     ·obtain ⟨p,hp,rfl⟩:=List.mem_map.1 hx
      exact (hpk p hp).2.2
    ·exact hH.frm x hx
   ·-- the handles' blocks
    have hall:∀ h ∈ tabs.map (·.1)++picks.map (·.1),∃ K b,ν h=some (lB ν h,K) /\ bu H h=some b:=λ h hh=>by
     rcases List.mem_append.1 hh with hh | hh
     ·obtain ⟨p,hp,rfl⟩:=List.mem_map.1 hh
      obtain ⟨b,hb⟩:=(htab p hp).2
      exact ⟨p.2.1.length,b,by simp [lB,hfind p hp],hb⟩
     ·obtain ⟨p,hp,rfl⟩:=List.mem_map.1 hh
      obtain ⟨⟨K,h1⟩,⟨b,hb⟩,-⟩:=hpk p hp
      exact ⟨K,b,h1,hb⟩
    have e1:(tabs.map fS++picks.map (qR ν (oa ν w'))).map (·.1)=(tabs.map (·.1)++picks.map (·.1)).map (lB ν):=by
     simp only [List.map_append,List.map_map]
     congr 1
     apply List.map_congr_left
     intro p hp
     simp [fS,lB,hfind p hp]
    rw [List.map_append,List.nodup_append,e1]
    refine ⟨?_,?_,λ a ha b hb=>?_⟩
    ·rw [List.Nodup,List.pairwise_map]
     refine (List.pairwise_iff_forall_sublist.2 λ {a b} hs=>?_)
     have ha':=hall a (hs.subset (by simp))
     have hb':=hall b (hs.subset (by simp))
     obtain ⟨K1,b1,x1,x2⟩:=ha'
     obtain ⟨K2,b2,y1,y2⟩:=hb'
     intro e
     have hab:a=b:=hH.inj _ _ _ _ _ _ _ x2 y2 x1 (by rw [e];exact y1)
     have:=hnd.sublist hs
     simp [hab] at this
    ·have:=hR.nodup
     rw [List.map_append,List.nodup_append] at this
     exact this.2.1
    ·obtain ⟨h,hh,rfl⟩:=List.mem_map.1 ha
     obtain ⟨x,hx,rfl⟩:=List.mem_map.1 hb
     obtain ⟨K,b,g1,g2⟩:=hall h hh
     exact (hH.apt _ _ _ _ g2 g1 x hx).symm
end
end
theorem wV {P:Program} {f:FuncId} {args:Array Value} {x:Nat × Blk} {F:HL} {Q:Value -> HL -> Prop} (hx:x ∈ F) (h:∀ F0,Sp P f args [x] F0 λ u H'=>∃ Hp,Q u Hp /\ H'=[x]++Hp):Sp P f args [] F Q:=by
 obtain ⟨l1,l2,rfl⟩:=List.append_of_mem hx
 have hp:∀ H:HL,([x]++H++(l1++l2)).Perm (H++(l1++x :: l2)):=λ H=>by
  refine List.Perm.trans ?_ (List.Perm.append_left H List.perm_middle.symm)
  show (x :: (H++(l1++l2))).Perm (H++x :: (l1++l2))
  exact List.perm_middle.symm
 intro w hR
 have hR1:Rel ([x]++(l1++l2)) w:=hR.perm (by have:=hp [];simpa using this)
 refine (h (l1++l2) w hR1).mono ?_
 rintro e w' ⟨v,H',he,⟨Hp,hq,rfl⟩,hR',hb⟩
 exact ⟨v,Hp,he,hq,hR'.perm (hp Hp).symm,hb⟩
end Go.Proofs.YtghjbimijeinfaaGreatDoor
