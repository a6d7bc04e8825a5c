import Derived.Test.YtghjbimijeinfaaGreatDoorW31
import Derived.Test.YtghjbimijeinfaaGreatDoorW30
set_option maxHeartbeats 4000000
set_option maxRecDepth 100000
set_option linter.unusedSimpArgs false
set_option linter.unusedVariables false
namespace Go.Proofs.YtghjbimijeinfaaGreatDoor
open Go.RowKit
noncomputable section
def opD (P:Program) (G N:Nat) (ops:Array Oper) (o:Oper) (k:Kt) (g:Value -> Tr Value -> Tr Value):CzR:=match o.op with
  | .move x=>match cv x with
    | .mk f=>.mk (mvF k g f)
  | .assign x=>match cv x with
    | .mk f=>.mk (mvF k g f)
  | .pick c a b=>match cv c with
    | .mk f=>match cv a with
      | .mk fa=>match cv b with
        | .mk fb=>.mk (pickF k g f fa fb)
  | .nilCheck x=>match cv x with
    | .mk f=>.mk (nilF P G N ops o k g f)
  | .binOp op _ x y _=>match cmpQ op with
    | some q=>match cv x with
      | .mk f1=>match cv y with
        | .mk f2=>.mk (cmpF P G N ops o k g q f1 f2)
    | none=>.mk (genF P G N ops o k)
  | .fieldAddr t x j=>match fldO P t j with
    | some (c,_)=>match cv x with
      | .mk f=>.mk (fldF k g c f)
    | none=>.mk (genF P G N ops o k)
  | .load t x=>match oneC P t with
    | true=>match cv x with
      | .mk f=>.mk (ldF k g f)
    | false=>match aggC P t with
      | some c=>match cv x with
        | .mk f=>.mk (laF k g c f)
      | none=>.mk (genF P G N ops o k)
  | .alloc t=>match zeroT P t with
    | some z=>match cellsB z t with
      | .cells a b c d e=>.mk (alF k g (.cells a b c d e))
      | _=>.mk (genF P G N ops o k)
    | none=>.mk (genF P G N ops o k)
  | .indexAddr t x i=>match P.underlying t with
    | some (.slice el)=>match sizeT P el with
      | some c=>match cv x with
        | .mk f1=>match cv i with
          | .mk f2=>.mk (ixF k g c f1 f2)
      | none=>.mk (genF P G N ops o k)
    | _=>.mk (genF P G N ops o k)
  | .call c=>match c.callee with
    | .value (.func f)=>match hasB P f with
      | true=>match ca c.args.toList with
        | .mk as=>.mk (enF k g f as)
      | false=>.mk (genF P G N ops o k)
    | _=>.mk (genF P G N ops o k)
  | _=>.mk (genF P G N ops o k)
def opN (P:Program) (G N:Nat) (ops:Array Oper) (o:Oper) (k:Kt):CzR:=match o.op with
  | .store t x y=>match sizeT P t with
    | some 1=>match cv x with
      | .mk f1=>match cv y with
        | .mk f2=>.mk (stF P G N ops o k f1 f2)
    | _=>.mk (genF P G N ops o k)
  | .call c=>match c.callee with
    | .value (.func f)=>match hasB P f with
      | true=>match ca c.args.toList with
        | .mk as=>.mk (enN k f as)
      | false=>.mk (genF P G N ops o k)
    | _=>.mk (genF P G N ops o k)
  | _=>.mk (genF P G N ops o k)
def opK0 (P:Program) (G N:Nat) (ops:Array Oper) (o:Oper) (k:Kt):CzR:=match okO G o with
  | true=>match dstK N o.dst with
    | .ok g=>opD P G N ops o k g
    | .no=>opN P G N ops o k
    | .bad=>.mk (genF P G N ops o k)
  | false=>.mk (genF P G N ops o k)
def noG (o:Oper):Oper:=⟨o.dst,o.op,o.type,o.pos,o.after,none⟩
def guR (want:Bool) (u:Value) (x y:Option St):Option St:=match u with
  | .bool b=>match b with
    | true=>match want with
      | true=>x
      | false=>y
    | false=>match want with
      | true=>y
      | false=>x
  | .tuple _=>y
  | _=>none
def guF (want:Bool) (f:Tr Value -> Value) (h:Kt) (k:Kt) (g:Value -> Tr Value -> Tr Value) (ih:Ih) (r:Option Nat) (T:Tr Value) (D:List Deferred) (H:AH) (n:Nat):Option St:=guR want (f T) (h ih r T D H n) (k ih r (g undef T) D H n)
def guN (want:Bool) (f:Tr Value -> Value) (h:Kt) (k:Kt) (ih:Ih) (r:Option Nat) (T:Tr Value) (D:List Deferred) (H:AH) (n:Nat):Option St:=guR want (f T) (h ih r T D H n) (k ih r T D H n)
def opK (P:Program) (G N:Nat) (ops:Array Oper) (o:Oper) (nx:CzR):CzR:=match nx with
  | .mk k=>match o.guard with
    | none=>opK0 P G N ops o k
    | some (j,want)=>match (ops[j]?).bind (·.dst) with
      | some d=>match getK (pth d) with
        | .mk f=>match opK0 P G N ops (noG o) k with
          | .mk h=>match dstK N o.dst with
            | .ok g=>.mk (guF want f h k g)
            | .no=>.mk (guN want f h k)
            | .bad=>.mk (genF P G N ops o k)
      | none=>.mk (genF P G N ops o k)
def opsK (P:Program) (G N:Nat) (ops:Array Oper):List Oper -> CzR
  | []=>.mk λ _ _ T D H n=>some ⟨T,D,H,n⟩
  | o :: l=>opK P G N ops o (opsK P G N ops l)
def isGz (P:Program) (G N:Nat) (ops:Array Oper) (o:Oper) (k:Kt) (c:CzR):Prop:=∀ ih r T D H n,c.f ih r T D H n=genF P G N ops o k ih r T D H n
theorem isG_gen {P:Program} {G N:Nat} {ops:Array Oper} {o:Oper} {k:Kt}:isGz P G N ops o k (.mk (genF P G N ops o k)):=λ _ _ _ _ _ _=>rfl
theorem cvm {x:Operand} {f} (h:cv x=.mk f) (T:Tr Value):f T=ael T x:=by
  have:=cv_eq x T;rw [h] at this;exact this
theorem cam {x:List Operand} {f} (h:ca x=.mk f) (T:Tr Value):f T=mapE T x:=by
  have:=ca_eq x T;rw [h] at this;exact this
theorem opD_eq {P:Program} {G N:Nat} {ops:Array Oper} {o:Oper} {k:Kt} {g} (hg:o.guard=none) (ho:okO G o=true) (hd:dstK N o.dst=.ok g):isGz P G N ops o k (opD P G N ops o k g):=by
  unfold opD
  split
  · rename_i x hx
    split;rename_i f hf
    exact λ ih r T D H n=>mv_eq hg ho hd (.inl hx) (cvm hf) ih r T D H n
  · rename_i x hx
    split;rename_i f hf
    exact λ ih r T D H n=>mv_eq hg ho hd (.inr hx) (cvm hf) ih r T D H n
  · rename_i c a b hx
    split;rename_i f hf
    split;rename_i fa hfa
    split;rename_i fb hfb
    exact λ ih r T D H n=>pick_eq hg ho hd hx (cvm hf) (cvm hfa) (cvm hfb) ih r T D H n
  · rename_i x hx
    split;rename_i f hf
    exact λ ih r T D H n=>nil_eq hg ho hd hx (cvm hf) ih r T D H n
  · rename_i op t x y z hx
    split
    · rename_i q hq
      split;rename_i f hf
      split;rename_i f2 hf2
      exact λ ih r T D H n=>cmp_eq hg ho hd hx hq (cvm hf) (cvm hf2) ih r T D H n
    · exact isG_gen
  · rename_i t x j hx
    split
    · rename_i c ft hc
      split;rename_i f hf
      exact λ ih r T D H n=>fld_eq hg ho hd hx hc (cvm hf) ih r T D H n
    · exact isG_gen
  · rename_i t x hx
    split
    · rename_i hc
      split;rename_i f hf
      exact λ ih r T D H n=>ld_eq hg ho hd hx hc (cvm hf) ih r T D H n
    · rename_i hc
      split
      · rename_i c ha
        split;rename_i f hf
        exact λ ih r T D H n=>la_eq hg ho hd hx hc ha (cvm hf) ih r T D H n
      · exact isG_gen
  · rename_i t hx
    split
    · rename_i z hz
      split
      · rename_i a b c d e hb
        exact λ ih r T D H n=>al_eq hg ho hd hx hz hb ih r T D H n
      · exact isG_gen
    · exact isG_gen
  · rename_i t x i hx
    split
    · rename_i el ht
      split
      · rename_i c hc
        split;rename_i f hf
        split;rename_i f2 hf2
        exact λ ih r T D H n=>ix_eq hg ho hd hx ht hc (cvm hf) (cvm hf2) ih r T D H n
      · exact isG_gen
    · exact isG_gen
  · rename_i c hx
    split
    · rename_i f hc
      split
      · rename_i hb
        split;rename_i as ha
        exact λ ih r T D H n=>en_eq hg ho hd hx hc hb (cam ha) ih r T D H n
      · exact isG_gen
    · exact isG_gen
  · exact isG_gen
theorem opN_eq {P:Program} {G N:Nat} {ops:Array Oper} {o:Oper} {k:Kt} (hg:o.guard=none) (ho:okO G o=true) (hd:dstK N o.dst=.no):isGz P G N ops o k (opN P G N ops o k):=by
  unfold opN
  split
  · rename_i t x y hx
    split
    · rename_i hc
      split;rename_i f hf
      split;rename_i f2 hf2
      exact λ ih r T D H n=>st_eq hg ho hd hx hc (cvm hf) (cvm hf2) ih r T D H n
    · exact isG_gen
  · rename_i c hx
    split
    · rename_i f hc
      split
      · rename_i hb
        split;rename_i as ha
        exact λ ih r T D H n=>en_neq hg ho hd hx hc hb (cam ha) ih r T D H n
      · exact isG_gen
    · exact isG_gen
  · exact isG_gen
theorem opK0_eq {P:Program} {G N:Nat} {ops:Array Oper} {o:Oper} {k:Kt} (hg:o.guard=none):isGz P G N ops o k (opK0 P G N ops o k):=by
  unfold opK0
  split
  · rename_i ho
    split
    · rename_i g hd
      exact opD_eq hg ho hd
    · rename_i hd
      exact opN_eq hg ho hd
    · exact isG_gen
  · exact isG_gen
theorem plainV_noG (P:Program) (T:Tr Value) (o:Oper):plainV P T (noG o)=plainV P T o:=by
  have e:execOp (ael T) (noG o)=execOp (ael T) o:=by
    obtain ⟨dst,op,type,pos,after,guard⟩:=o
    cases op <;> rfl
  unfold plainV
  rw [e]
  rfl
theorem pureV_noG (P:Program) (T:Tr Value) (o:Oper):pureV P (noG o) T=pureV P o T:=by
  unfold pureV
  simp only [plainV_noG]
  rfl
theorem loadV_noG (P:Program) (T:Tr Value) (H:AH) (o:Oper):loadV P (noG o) T H=loadV P o T H:=by
  unfold loadV
  simp only [plainV_noG]
  rfl
theorem effV_noG (P:Program) (T:Tr Value) (H:AH) (n:Nat) (o:Oper):effV P (noG o) T H n=effV P o T H n:=by
  unfold effV
  simp only [plainV_noG]
  rfl
theorem stOp_noG (P:Program) (G:Nat) (ih:Ih) (r:Option Nat) (T:Tr Value) (H:AH) (n:Nat) (o:Oper):stOp P G ih r (noG o) T H n=stOp P G ih r o T H n:=by
  unfold stOp aop
  simp only [pureV_noG,loadV_noG,effV_noG]
  rfl
theorem genF_guard {P:Program} {G N:Nat} {ops:Array Oper} {o:Oper} {k:Kt} {j:Nat} {want:Bool} (hg:o.guard=some (j,want)) {d:Tmp} (hd:(ops[j]?).bind (·.dst)=some d) {f:Tr Value -> Value} (hf:∀ T,f T=tget T d) {h:Kt} (hh:∀ ih r T D H n,h ih r T D H n=genF P G N ops (noG o) k ih r T D H n) (ih r T D H n) :
    genF P G N ops o k ih r T D H n=guR want (f T) (h ih r T D H n) (match putT N o.dst undef T with | some T=>k ih r T D H n | none=>none):=by
  rw [hh,hf]
  have e:genF P G N ops (noG o) k ih r T D H n=match stOp P G ih r o T H n with
    | none=>none
    | some (.val v H n)=>forceVi v λ v=>match putT N o.dst v T with
      | some T=>k ih r T D H n
      | none=>none
    | some (.dfr d)=>match putT N o.dst undef T with
      | some T=>k ih r T (d :: D) H n
      | none=>none:=by
    simp only [genF,wantA,noG]
    rw [<- stOp_noG P G ih r T H n o]
    rfl
  rw [e]
  simp only [genF,wantA,hg,hd]
  cases tget T d with
  | bool b=>cases b <;> cases want <;> rfl
  | _=>rfl
theorem opK_eq {P:Program} {G N:Nat} {ops:Array Oper} {o:Oper} {k:Kt}:isGz P G N ops o k (opK P G N ops o (.mk k)):=by
  cases hg:o.guard with
  | none=>simp only [opK,hg];exact opK0_eq hg
  | some jw =>
    obtain ⟨j,want⟩:=jw
    cases hd:(ops[j]?).bind (·.dst) with
    | none=>simp only [opK,hg,hd];exact isG_gen
    | some d =>
      cases hf:getK (pth d) with
      | mk f=>cases hh:opK0 P G N ops (noG o) k with
        | mk h =>
          have hf':∀ T,f T=tget T d:=λ T=>by have:=getK_eq (pth d) T;rw [hf] at this;exact this
          have hh':=opK0_eq (P:=P) (G:=G) (N:=N) (ops:=ops) (o:=noG o) (k:=k) rfl
          rw [hh] at hh'
          cases hdk:dstK N o.dst with
          | ok g =>
            simp only [opK,hg,hd,hf,hh,hdk]
            intro ih r T D H n
            rw [genF_guard hg hd hf' hh',dstK_ok hdk]
            rfl
          | no =>
            simp only [opK,hg,hd,hf,hh,hdk]
            intro ih r T D H n
            rw [genF_guard hg hd hf' hh',dstK_no hdk]
            rfl
          | bad=>simp only [opK,hg,hd,hf,hh,hdk];exact isG_gen
theorem opsK_eq (P:Program) (G N:Nat) (ops:Array Oper):∀ l,CzR.okL P G N ops l (opsK P G N ops l).f
  | []=>λ ih r T D H n=>rfl
  | o :: l=>by
    have h:=opsK_eq P G N ops l
    cases hk:opsK P G N ops l with
    | mk k =>
      rw [hk] at h
      intro ih r T D H n
      simp only [opsK,hk]
      rw [opK_eq]
      exact genF_eq h o ih r T D H n
def cgF (P:Program) (G N:Nat) (c:Code) (ih:Ih) (r:Option Nat) (T:Tr Value) (D:List Deferred) (H:AH) (n:Nat):Option (Ex × St):=evC P G ih r N c ⟨T,D,H,n⟩
def regF (k:Kt) (ih:Ih) (r:Option Nat) (T:Tr Value) (D:List Deferred) (H:AH) (n:Nat):Option (Ex × St):=match k ih r T D H n with
  | some s=>some (.normal,s)
  | none=>none
abbrev Kc:=Ih -> Option Nat -> Tr Value -> List Deferred -> AH -> Nat -> Option (Ex × St)
def seqR (x:Option (Ex × St)) (y:Tr Value -> List Deferred -> AH -> Nat -> Option (Ex × St)):Option (Ex × St):=match x with
  | some p=>match p with
    | (e,s)=>match e with
      | .normal=>match s with
        | ⟨T,D,H,n⟩=>y T D H n
      | .exit id=>some (.exit id,s)
      | .ret=>some (.ret,s)
  | none=>none
def seqF (a b:Kc) (ih:Ih) (r:Option Nat) (T:Tr Value) (D:List Deferred) (H:AH) (n:Nat):Option (Ex × St):=seqR (a ih r T D H n) λ T D H n=>b ih r T D H n
def condR (u:Value) (x y:Option (Ex × St)):Option (Ex × St):=match u with
  | .bool b=>match b with
    | true=>x
    | false=>y
  | _=>none
def condF (f:Tr Value -> Value) (a b:Kc) (ih:Ih) (r:Option Nat) (T:Tr Value) (D:List Deferred) (H:AH) (n:Nat):Option (Ex × St):=condR (f T) (a ih r T D H n) (b ih r T D H n)
def blkR (id:Nat) (x:Option (Ex × St)):Option (Ex × St):=match x with
  | some p=>match p with
    | (e,s)=>match e with
      | .exit id'=>match Nat.beq id' id with
        | true=>some (.normal,s)
        | false=>some (.exit id',s)
      | .normal=>some (.normal,s)
      | .ret=>some (.ret,s)
  | none=>none
def blkF (id:Nat) (a:Kc) (ih:Ih) (r:Option Nat) (T:Tr Value) (D:List Deferred) (H:AH) (n:Nat):Option (Ex × St):=blkR id (a ih r T D H n)
def lopR (x:Option (Ex × St)) (y:St -> Option Rs):Option (Ex × St):=match x with
  | some p=>match p with
    | (e,s)=>match e with
      | .normal=>match y s with
        | some q=>match q with
          | .cd e s=>some (e,s)
          | .fn _ _ _=>none
        | none=>none
      | .exit id=>some (.exit id,s)
      | .ret=>some (.ret,s)
  | none=>none
def lopF (N:Nat) (c:Code) (a:Kc) (ih:Ih) (r:Option Nat) (T:Tr Value) (D:List Deferred) (H:AH) (n:Nat):Option (Ex × St):=lopR (a ih r T D H n) λ s=>ih (.loop r N c s)
def codK (P:Program) (G N:Nat):Code -> CzC
  | .skip=>.mk λ _ _ T D H n=>some (.normal,⟨T,D,H,n⟩)
  | .label _=>.mk λ _ _ T D H n=>some (.normal,⟨T,D,H,n⟩)
  | .region id ops draw=>match draw with
    | false=>match opsK P G N ops ops.toList with
      | .mk k=>.mk (regF k)
    | true=>.mk (cgF P G N (.region id ops true))
  | .seq a b=>match codK P G N a with
    | .mk fa=>match codK P G N b with
      | .mk fb=>.mk (seqF fa fb)
  | .cond c a b=>match cv c with
    | .mk f=>match codK P G N a with
      | .mk fa=>match codK P G N b with
        | .mk fb=>.mk (condF f fa fb)
  | .block id c=>match codK P G N c with
    | .mk fa=>.mk (blkF id fa)
  | .loop c=>match codK P G N c with
    | .mk fa=>.mk (lopF N c fa)
  | .rangeFunc g ps assign body=>.mk (cgF P G N (.rangeFunc g ps assign body))
  | .exit id=>.mk λ _ _ T D H n=>some (.exit id,⟨T,D,H,n⟩)
  | .scope c=>codK P G N c
  | .goto l=>.mk (cgF P G N (.goto l))
  | .ret=>.mk λ _ _ T D H n=>some (.ret,⟨T,D,H,n⟩)
  | .refuse x=>.mk (cgF P G N (.refuse x))
def isCz (P:Program) (G N:Nat) (c:Code) (f:Kc):Prop:=∀ ih r T D H n,f ih r T D H n=evC P G ih r N c ⟨T,D,H,n⟩
theorem codK_eq (P:Program) (G N:Nat):∀ c,isCz P G N c (codK P G N c).f
  | .skip=>λ _ _ _ _ _ _=>rfl
  | .label _=>λ _ _ _ _ _ _=>rfl
  | .region id ops draw=>by
    cases draw with
    | true=>exact λ _ _ _ _ _ _=>rfl
    | false =>
      have h:=opsK_eq P G N ops ops.toList
      cases hk:opsK P G N ops ops.toList with
      | mk k =>
        rw [hk] at h
        intro ih r T D H n
        simp only [codK,hk,CzC.f,regF,evC]
        have:=h ih r T D H n
        simp only [CzR.f] at this
        rw [this]
        cases evOps P G ih r N ops ops.toList ⟨T,D,H,n⟩ <;> rfl
  | .seq a b=>by
    have h1:=codK_eq P G N a
    have h2:=codK_eq P G N b
    cases ha:codK P G N a with
    | mk fa=>cases hb:codK P G N b with
      | mk fb =>
        rw [ha] at h1;rw [hb] at h2
        intro ih r T D H n
        have e1:=h1 ih r T D H n
        simp only [CzC.f] at e1
        simp only [codK,ha,hb,CzC.f,seqF,evC,e1]
        cases evC P G ih r N a ⟨T,D,H,n⟩ with
        | none=>rfl
        | some p=>obtain ⟨e,s⟩:=p;cases e with
          | normal=>obtain ⟨T,D,H,n⟩:=s;exact h2 ih r T D H n
          | exit id=>rfl
          | ret=>rfl
  | .cond c a b=>by
    have h1:=codK_eq P G N a
    have h2:=codK_eq P G N b
    cases hc:cv c with
    | mk f=>cases ha:codK P G N a with
      | mk fa=>cases hb:codK P G N b with
        | mk fb =>
          rw [ha] at h1;rw [hb] at h2
          intro ih r T D H n
          simp only [codK,hc,ha,hb,CzC.f,condF,evC,cvm hc]
          cases ael T c with
          | bool q=>cases q with
            | true=>exact h1 ih r T D H n
            | false=>exact h2 ih r T D H n
          | _=>rfl
  | .block id c=>by
    have h1:=codK_eq P G N c
    cases ha:codK P G N c with
    | mk fa =>
      rw [ha] at h1
      intro ih r T D H n
      have e1:=h1 ih r T D H n
      simp only [CzC.f] at e1
      simp only [codK,ha,CzC.f,blkF,evC,e1]
      cases evC P G ih r N c ⟨T,D,H,n⟩ with
      | none=>rfl
      | some p=>obtain ⟨e,s⟩:=p;cases e with
        | normal=>rfl
        | exit id'=>simp only [blkR];cases Nat.beq id' id <;> rfl
        | ret=>rfl
  | .loop c=>by
    have h1:=codK_eq P G N c
    cases ha:codK P G N c with
    | mk fa =>
      rw [ha] at h1
      intro ih r T D H n
      have e1:=h1 ih r T D H n
      simp only [CzC.f] at e1
      simp only [codK,ha,CzC.f,lopF,evC,e1]
      cases evC P G ih r N c ⟨T,D,H,n⟩ with
      | none=>rfl
      | some p=>obtain ⟨e,s⟩:=p;cases e with
        | normal =>
          simp only [lopR]
          cases ih (.loop r N c s) with
          | none=>rfl
          | some q=>cases q <;> rfl
        | exit id'=>rfl
        | ret=>rfl
  | .rangeFunc g ps assign body=>λ _ _ _ _ _ _=>rfl
  | .exit id=>λ _ _ _ _ _ _=>rfl
  | .scope c=>by
    intro ih r T D H n
    simp only [codK,evC]
    exact codK_eq P G N c ih r T D H n
  | .goto l=>λ _ _ _ _ _ _=>rfl
  | .ret=>λ _ _ _ _ _ _=>rfl
  | .refuse x=>λ _ _ _ _ _ _=>rfl
def rsK:List ResultVar -> Option CzA
  | []=>some (.mk λ _=>[])
  | x :: l=>match x with
    | .tmp t=>match getK (pth t) with
      | .mk f=>match rsK l with
        | some c=>match c with
          | .mk h=>some (.mk λ T=>f T :: h T)
        | none=>none
    | .cell _ _=>none
theorem rsK_eq (P:Program) (H:AH) (T:Tr Value):∀ {l:List ResultVar} {h},rsK l=some (.mk h) -> resA P T H l=some (h T)
  | [],h,e=>by simp only [rsK,Option.some.injEq,CzA.mk.injEq] at e;subst e;rfl
  | .cell _ _ :: l,h,e=>by simp [rsK] at e
  | .tmp t :: l,h,e=>by
    simp only [rsK] at e
    cases hf:getK (pth t) with
    | mk f =>
      rw [hf] at e
      simp only at e
      cases hl:rsK l with
      | none=>rw [hl] at e;simp at e
      | some c=>cases c with
        | mk h' =>
          rw [hl] at e
          simp only [Option.some.injEq,CzA.mk.injEq] at e
          subst e
          have:=getK_eq (pth t) T
          rw [hf] at this
          simp only [CzV.f] at this
          simp only [resA,rsK_eq P H T hl,this]
          rfl
def ofLF (l:List Value):Nat -> Tr Value -> Tr Value:=List.rec (motive:=λ _=>Nat -> Tr Value -> Tr Value) (λ _ t=>t) (λ x _ ih i t=>forceVi x λ x=>ih (i+1) (Tr.setP undef x (pth i) t)) l
theorem ofLF_eq:∀ (l:List Value) (i:Nat) (t:Tr Value),ofLF l i t=Tr.ofL undef l i t
  | [],i,t=>rfl
  | x :: l,i,t=>by
    have:=ofLF_eq l (i+1) (Tr.setP undef x (pth i) t)
    show (forceVi x λ x=>ofLF l (i+1) (Tr.setP undef x (pth i) t))=_
    rw [forceV_eq,this,Tr.ofL]
    have e:Tr.set undef x t i=Tr.setP undef x (pth i) t:=rfl
    rw [e]
    cases Tr.setP undef x (pth i) t <;> rfl
def oneF (h:List Value):Value:=match h with
  | []=>.tuple ⟨[]⟩
  | v :: l=>match l with
    | []=>v
    | w :: l=>.tuple ⟨v :: w :: l⟩
theorem oneF_eq (h:List Value):oneF h=oneV h:=by
  cases h with
  | nil=>rfl
  | cons v l=>cases l <;> rfl
def lvG (P:Program) (fn:Func) (ih:Ih) (s:St):Option Rs:=match leaveA P ih s.D s.H s.n with
  | some (H,n)=>match resA P s.T H fn.results.toList with
    | some vs=>some (.fn (oneV vs) H n)
    | none=>none
  | none=>none
def lvS (P:Program) (fn:Func) (h:Tr Value -> List Value) (ih:Ih) (s:St):Option Rs:=match s with
  | ⟨T,D,H,n⟩=>match D with
    | []=>some (.fn (oneF (h T)) H n)
    | d :: D=>lvG P fn ih ⟨T,d :: D,H,n⟩
def fnR (x:Option (Ex × St)) (y:St -> Option Rs):Option Rs:=match x with
  | some p=>match p with
    | (e,s)=>match e with
      | .exit _=>none
      | .normal=>y s
      | .ret=>y s
  | none=>none
def fnF (N:Nat) (k:Kc) (y:Ih -> St -> Option Rs) (ih:Ih) (args:List Value) (H:AH) (n:Nat):Option Rs:=match Nat.ble (lenL args) N with
  | true=>fnR (k ih none (ofLF args 0 .lf) [] H n) (y ih)
  | false=>none
def funK (P:Program) (G:Nat) (f:FuncId):CzF:=match body? P f with
  | some (fn,c)=>match codK P G fn.ntmps c with
    | .mk k=>match rsK fn.results.toList with
      | some h=>match h with
        | .mk h=>.mk (fnF fn.ntmps k (lvS P fn h))
      | none=>.mk (fnF fn.ntmps k (lvG P fn))
  | none=>.mk λ _ _ _ _=>none
theorem lvS_eq {P:Program} {fn:Func} {h} (e:rsK fn.results.toList=some (.mk h)) (ih:Ih) (s:St):lvS P fn h ih s=lvG P fn ih s:=by
  obtain ⟨T,D,H,n⟩:=s
  cases D with
  | cons d D=>rfl
  | nil=>simp only [lvS,lvG,leaveA,rsK_eq P H T e,oneF_eq]
theorem fnF_eq {P:Program} {G:Nat} {fn:Func} {c:Code} {f:FuncId} (hb:body? P f=some (fn,c)) {k:Kc} (hk:isCz P G fn.ntmps c k) {y:Ih -> St -> Option Rs} (hy:∀ ih s,y ih s=lvG P fn ih s) (ih:Ih) (args:List Value) (H:AH) (n:Nat):fnF fn.ntmps k y ih args H n=stepT P G ih (.fn f args H n):=by
  simp only [fnF,stepT,hb]
  cases Nat.ble (lenL args) fn.ntmps with
  | false=>rfl
  | true =>
    simp only [hk ih,ofLF_eq]
    rw [show Tr.ofL undef args 0 .lf=argsT args from rfl]
    cases evC P G ih none fn.ntmps c ⟨argsT args,[],H,n⟩ with
    | none=>rfl
    | some p=>obtain ⟨e,s⟩:=p;cases e with
      | exit _=>rfl
      | normal=>exact hy ih s
      | ret=>exact hy ih s
theorem funK_eq (P:Program) (G:Nat) (f:FuncId) (ih:Ih) (args:List Value) (H:AH) (n:Nat):(funK P G f).f ih args H n=stepT P G ih (.fn f args H n):=by
  cases hb:body? P f with
  | none=>simp only [funK,hb,CzF.f,stepT]
  | some p =>
    obtain ⟨fn,c⟩:=p
    have h1:=codK_eq P G fn.ntmps c
    cases hk:codK P G fn.ntmps c with
    | mk k =>
      rw [hk] at h1
      cases hr:rsK fn.results.toList with
      | none =>
        simp only [funK,hb,hk,hr,CzF.f]
        exact fnF_eq hb h1 (λ _ _=>rfl) ih args H n
      | some h=>cases h with
        | mk h =>
          simp only [funK,hb,hk,hr,CzF.f]
          exact fnF_eq hb h1 (λ ih s=>lvS_eq hr ih s) ih args H n
def taskK (P:Program) (G:Nat) (ih:Ih) (t:Task):Option Rs:=match t with
  | .loop r N c s=>match codK P G N (.loop c) with
    | .mk k=>match s with
      | ⟨T,D,H,n⟩=>match k ih r T D H n with
        | some p=>match p with
          | (e,s)=>some (.cd e s)
        | none=>none
  | .fn f args H n=>match funK P G f with
    | .mk k=>k ih args H n
  | t=>stepT P G ih t
theorem taskK_eq (P:Program) (G:Nat) (ih:Ih) (t:Task):taskK P G ih t=stepT P G ih t:=by
  cases t with
  | loop r N c s =>
    obtain ⟨T,D,H,n⟩:=s
    have h1:=codK_eq P G N (.loop c)
    cases hk:codK P G N (.loop c) with
    | mk k =>
      rw [hk] at h1
      have:=h1 ih r T D H n
      simp only [CzC.f] at this
      simp only [taskK,hk,stepT,this]
      cases evC P G ih r N (.loop c) ⟨T,D,H,n⟩ with
      | none=>rfl
      | some p=>rfl
  | fn f args H n =>
    have:=funK_eq P G f ih args H n
    cases hk:funK P G f with
    | mk k =>
      rw [hk] at this
      simp only [taskK,hk]
      exact this
  | _=>rfl
def runK (P:Program) (G:Nat) (k:Nat):Ih:=Nat.rec (motive:=λ _=>Ih) (λ _=>none) (λ _ ih t=>taskK P G ih t) k
theorem runK_eq (P:Program) (G:Nat):∀ k,runK P G k=runA P G k
  | 0=>rfl
  | k+1=>by
    funext t
    show taskK P G (runK P G k) t=_
    rw [taskK_eq,runK_eq P G k]
    rfl
end
noncomputable section
def nub (ν:Nu) (h:Nat):Nat:=match ν h with
  | some (b,_)=>b
  | none=>0
def kap (ν:Nu) (h c:Nat):Nat:=match Nat.blt c unk with
  | true=>c
  | false=>match ν h with
    | some (_,K)=>K - (c - unk)
    | none=>0
mutual
def outV (ν:Nu):Value -> Value
  | .pointer (some a)=>.pointer (some ⟨nub ν a.block,a.off,none⟩)
  | .slice (some a) n c=>.slice (some ⟨nub ν a.block,a.off,none⟩) n (kap ν a.block c)
  | .map (some h)=>.map (some (nub ν h))
  | .iface t v=>.iface t (outV ν v)
  | .agg c=>.agg (outA ν c)
  | .tuple c=>.tuple (outA ν c)
  | v=>v
def outA (ν:Nu):Array Value -> Array Value
  | ⟨l⟩=>⟨outL ν l⟩
def outL (ν:Nu):List Value -> List Value
  | []=>[]
  | v :: l=>outV ν v :: outL ν l
end
mutual
def okVi:Value -> Bool
  | .iface _ v=>okVi v
  | .func f a c=>pl (.func f a c)
  | .agg c=>okA c
  | .tuple c=>okA c
  | .chan _=>false
  | _=>true
def okA:Array Value -> Bool
  | ⟨l⟩=>okL l
def okL:List Value -> Bool
  | []=>true
  | v :: l=>match okVi v with
    | true=>okL l
    | false=>false
end
theorem outL_pt {ν:Nu}:∀ {l l':List Value},l.length=l'.length -> (∀ (i:Nat) (v v':Value),l[i]?=some v -> l'[i]?=some v' -> okVi v=true -> v'=outV ν v) -> okL l=true -> l'=outL ν l
  | [],[],_,_,_=>rfl
  | [],_ :: _,e,_,_=>by simp at e
  | _ :: _,[],e,_,_=>by simp at e
  | v :: l,v' :: l',e,h,ho=>by
    rw [okL] at ho
    cases hv:okVi v with
    | false=>rw [hv] at ho;cases ho
    | true =>
      rw [hv] at ho
      have a1:=h 0 v v' rfl rfl hv
      have a2:=outL_pt (l:=l) (l':=l') (by simpa using e) (λ i a b h1 h2=>h (i+1) a b (by simpa using h1) (by simpa using h2)) ho
      rw [outL,<- a1,<- a2]
theorem outV_eq {ν:Nu} {v v':Value} (h:VRi ν v v'):okVi v=true -> v'=outV ν v:=by
  induction h with
  | atom v h =>
    intro _
    cases v with
    | pointer a=>cases a with
      | none=>rfl
      | some a=>simp [atomV] at h
    | slice a n c=>cases a with
      | none=>rfl
      | some a=>simp [atomV] at h
    | map r=>cases r with
      | none=>rfl
      | some r=>simp [atomV] at h
    | iface t v=>simp [atomV] at h
    | agg c=>simp [atomV] at h
    | tuple c=>simp [atomV] at h
    | _=>rfl
  | ptr o h=>intro _;simp [outV,nub,h]
  | @slice hd b K c c' o n h hc =>
    intro _
    simp only [outV,nub,kap,h]
    congr 1
    cases hb:Nat.blt c unk with
    | true=>exact hc.1 (Eq.mp Nat.blt_eq hb)
    | false =>
      have h2:=hc.2 (le_of_blt_false hb)
      simp only
      omega
  | map h=>intro _;simp [outV,nub,h]
  | func hf e1 h1 e2 h2 _ _ =>
    intro ho
    have:=VRi.plain_eq (VRi.func hf e1 h1 e2 h2) (by simpa only [okVi] using ho)
    rw [this];rfl
  | iface t _ ih=>intro ho;rw [outV,<- ih (by simpa only [okVi] using ho)]
  | @agg c c' e _ ih =>
    intro ho
    obtain ⟨l⟩:=c
    obtain ⟨l'⟩:=c'
    simp only [List.getElem?_toArray] at ih
    rw [outV,outA,outL_pt (l:=l) (l':=l') e ih (by simpa only [okVi,okA] using ho)]
  | @tuple c c' e _ ih =>
    intro ho
    obtain ⟨l⟩:=c
    obtain ⟨l'⟩:=c'
    simp only [List.getElem?_toArray] at ih
    rw [outV,outA,outL_pt (l:=l) (l':=l') e ih (by simpa only [okVi,okA] using ho)]
theorem outL_eq {ν:Nu} {l l':List Value} (h:LR ν l l'):okL l=true -> l'=l.map (outV ν):=by
  induction h with
  | nil=>intro _;rfl
  | @cons v v' l l' h _ ih =>
    intro ho
    rw [okL] at ho
    cases hv:okVi v with
    | false=>rw [hv] at ho;cases ho
    | true =>
      rw [hv] at ho
      rw [List.map_cons,outV_eq h hv,ih ho]
abbrev PB:=Nat × List Value × TypeId
def chkB (H:AH) (p:PB):Bool:=match hget H p.1 with
  | some (.cells n t ty _ _)=>match Nat.beq n (lenL p.2.1),Nat.beq ty p.2.2 with
    | true,true=>match veqL (readN t 0 n) p.2.1 with
      | true=>okL p.2.1
      | false=>false
    | _,_=>false
  | _=>false
def chkBs (H:AH):List PB -> Bool
  | []=>true
  | p :: l=>match chkB H p with
    | true=>chkBs H l
    | false=>false
def restBi (ν:Nu) (w:World) (p:PB):List Value:=match w.heap[nub ν p.1]? with
  | some (.cells c _ _)=>c.toList.drop p.2.1.length
  | _=>[]
def pickB (ν:Nu) (rest:PB -> List Value) (p:PB):Nat × Blk:=(nub ν p.1,.lit (p.2.1.map (outV ν)++rest p) p.2.2 (0,0))
theorem veqL_eq (l l':List Value) (h:veqL l l'=true):l=l':=by
  induction l generalizing l' with
  | nil=>cases l' with
    | nil=>rfl
    | cons v l'=>simp [veqL] at h
  | cons v l ih=>cases l' with
    | nil=>simp [veqL] at h
    | cons v' l' =>
      rw [veqL] at h
      cases hv:veq v v' with
      | false=>rw [hv] at h;cases h
      | true=>rw [hv] at h;rw [veq_eq _ _ hv,ih _ h]
theorem pick_out {ν:Nu} {H:AH} {F:HL} {w:World} (hH:HR ν H F w) {p:PB} (hc:chkB H p=true) :
    (∃ K,ν p.1=some (nub ν p.1,K)) /\ (∃ b,hget H p.1=some b) /\ w.heap[nub ν p.1]?=some (pickB ν (restBi ν w) p).2.den:=by
  unfold chkB at hc
  split at hc
  case h_2=>cases hc
  rename_i n t ty ww ro hb
  split at hc
  case h_2=>cases hc
  rename_i e1 e2
  have e1:=Nat.eq_of_beq_eq_true e1
  have e2:=Nat.eq_of_beq_eq_true e2
  split at hc
  case h_2=>cases hc
  rename_i e3
  have e3:=veqL_eq _ _ e3
  obtain ⟨r,K,o,h1,h2,h3⟩:=hH.blk _ _ hb
  have hn:nub ν p.1=r:=by simp [nub,h1]
  have hcc:=hH.cells hb h1
  obtain ⟨c,ty',fz,g1,g2⟩:=hcc
  refine ⟨⟨K,by rw [hn];exact h1⟩,⟨_,hb⟩,?_⟩
  rw [hn,g1]
  have hr:=readN_rel g2.le g2.get n 0 (by omega)
  rw [e3] at hr
  have hl:=outL_eq hr hc
  rw [lenL_eq] at e1
  simp only [pickB,Blk.den,restBi,hn,g1,g2.ty,g2.fz,<- e2]
  congr 2
  apply Array.ext'
  simp only
  rw [<- hl,List.drop_zero,<- e1,List.take_append_drop]
def tabH:List PB -> AH
  | []=>.lf
  | p :: l=>hset (tabH l) p.1 (some (.cells (lenL p.2.1) (Tr.ofL undef p.2.1 0 .lf) p.2.2 1 true))
def tabN (tabs:List PB) (G:Nat):Nu:=λ h=>if h < G then some (h,match tabs.find? (λ p=>p.1 == h) with | some p=>p.2.1.length | none=>0) else none
def tabB (p:PB):Nat × Blk:=(p.1,.lit p.2.1 p.2.2 (0,0))
def tabOk (G:Nat):List PB -> Bool
  | []=>true
  | p :: l=>match Nat.blt p.1 G,plL p.2.1,l.any (λ q=>q.1 == p.1) with
    | true,true,false=>tabOk G l
    | _,_,_=>false
end
noncomputable section
theorem tab_get:∀ (tabs:List PB) (h:Nat),hget (tabH tabs) h=match tabs.find? (λ p=>p.1 == h) with
    | some p=>some (.cells (lenL p.2.1) (Tr.ofL undef p.2.1 0 .lf) p.2.2 1 true)
    | none=>none
  | [],h=>get_lf _
  | p :: l,h=>by
    rw [tabH,hget_set,tab_get l h]
    by_cases e:p.1=h
    · rw [if_pos e,List.find?_cons_of_pos (by simpa using e)]
    · rw [if_neg e,List.find?_cons_of_neg (by simpa using e)]
theorem tabOk_mem {G:Nat}:∀ {tabs:List PB},tabOk G tabs=true -> ∀ p ∈ tabs,p.1 < G /\ plL p.2.1=true
  | [],_,p,hp=>by simp at hp
  | q :: l,h,p,hp=>by
    rw [tabOk] at h
    split at h
    · rename_i h1 h2 h3
      rcases List.mem_cons.1 hp with rfl | hp
      · exact ⟨Eq.mp Nat.blt_eq h1,h2⟩
      · exact tabOk_mem h p hp
    · cases h
theorem plL_get:∀ {l:List Value},plL l=true -> ∀ {i:Nat} {v:Value},l[i]?=some v -> pl v=true
  | [],_,i,v,h=>by simp at h
  | x :: l,hp,i,v,h=>by
    rw [plL] at hp
    split at hp
    · rename_i hx
      cases i with
      | zero=>simp at h;rw [<- h];exact hx
      | succ i=>exact plL_get hp (by simpa using h)
    · cases hp
theorem find_some {tabs:List PB} {h:Nat} {p:PB} (e:tabs.find? (λ p=>p.1 == h)=some p):p ∈ tabs /\ p.1=h :=
  ⟨List.mem_of_find?_eq_some e,by simpa using List.find?_some e⟩
section
variable {tabs picks:List PB} {G:Nat} {F:HL} {w:World}
theorem tab_HR (ht:tabOk G tabs=true) (hR:Rel (tabs.map tabB++F) w):HR (tabN tabs G) (tabH tabs) F w:=by
  have key:∀ h b,hget (tabH tabs) h=some b -> ∃ p,tabs.find? (λ p=>p.1 == h)=some p /\ b=.cells (lenL p.2.1) (Tr.ofL undef p.2.1 0 .lf) p.2.2 1 true:=λ h b hb=>by
    rw [tab_get] at hb
    split at hb
    · rename_i p hp;cases hb;exact ⟨p,hp,rfl⟩
    · cases hb
  refine ⟨λ h b hb=>?_,λ h₁ h₂ b₁ b₂ r K₁ K₂ _ _ e1 e2=>?_,λ x hx=>hR.holds x (List.mem_append_right _ hx),λ h b r K hb e1 x hx=>?_⟩
  · obtain ⟨p,hp,rfl⟩:=key h b hb
    obtain ⟨hm,rfl⟩:=find_some hp
    obtain ⟨hlt,hpl⟩:=tabOk_mem ht p hm
    refine ⟨p.1,p.2.1.length,.cells ⟨p.2.1⟩ p.2.2 (0,0),by simp only [tabN,if_pos hlt,hp],?_,?_⟩
    · exact hR.holds (tabB p) (List.mem_append_left _ (List.mem_map.2 ⟨p,hm,rfl⟩))
    · refine ⟨rfl,by rw [lenL_eq];exact Nat.le_refl _,rfl,λ i hi=>?_,λ _=>by simp⟩
      rw [lenL_eq] at hi
      refine ⟨p.2.1[i],by simp [hi],?_⟩
      rw [ofL_get0 hi]
      exact VRi.plain_refl _ (plL_get hpl (List.getElem?_eq_getElem hi))
  · unfold tabN at e1 e2
    split at e1
    · split at e2
      · simp only [Option.some.injEq,Prod.mk.injEq] at e1 e2
        rw [e1.1,e2.1]
      · cases e2
    · cases e1
  · obtain ⟨p,hp,rfl⟩:=key h b hb
    obtain ⟨hm,rfl⟩:=find_some hp
    have hr:r=p.1:=by
      unfold tabN at e1
      split at e1
      · simp only [Option.some.injEq,Prod.mk.injEq] at e1;exact e1.1.symm
      · cases e1
    intro e
    have hn:=hR.nodup
    rw [List.map_append,List.nodup_append] at hn
    exact hn.2.2 p.1 (by rw [List.map_map];exact List.mem_map.2 ⟨p,hm,rfl⟩) x.1 (List.mem_map.2 ⟨x,hx,rfl⟩) (by rw [e,hr])
def chkT (H:AH) (p:PB):Bool:=match hget H p.1 with
  | some (.cells n t ty ww _)=>match Nat.beq n (lenL p.2.1),Nat.beq ty p.2.2,Nat.beq ww 1 with
    | true,true,true=>veqL (readN t 0 n) p.2.1
    | _,_,_=>false
  | _=>false
def chkTs (H:AH):List PB -> Bool
  | []=>true
  | p :: l=>match chkT H p with
    | true=>chkTs H l
    | false=>false
theorem chkTs_mem {H:AH}:∀ {l:List PB},chkTs H l=true -> ∀ p ∈ l,chkT H p=true
  | [],_,p,hp=>by simp at hp
  | q :: l,h,p,hp=>by
    rw [chkTs] at h
    split at h
    · rename_i h1
      rcases List.mem_cons.1 hp with rfl | hp
      · exact h1
      · exact chkTs_mem h p hp
    · cases h
theorem chkBs_mem {H:AH}:∀ {l:List PB},chkBs H l=true -> ∀ p ∈ l,chkB H p=true
  | [],_,p,hp=>by simp at hp
  | q :: l,h,p,hp=>by
    rw [chkBs] at h
    split at h
    · rename_i h1
      rcases List.mem_cons.1 hp with rfl | hp
      · exact h1
      · exact chkBs_mem h p hp
    · cases h
theorem LR.plain_eq {ν:Nu} {l l':List Value} (h:LR ν l l'):plL l=true -> l'=l:=by
  induction h with
  | nil=>intro _;rfl
  | @cons v v' l l' h _ ih =>
    intro hp
    rw [plL] at hp
    split at hp
    · rename_i hv;rw [VRi.plain_eq h hv,ih hp]
    · cases hp
theorem tab_out {ν:Nu} {H:AH} (hH:HR ν H F w) {p:PB} (hc:chkT H p=true) (hp:plL p.2.1=true) (hν:ν p.1=some (p.1,p.2.1.length)):w.heap[p.1]?=some (tabB p).2.den /\ ∃ b,hget H p.1=some b:=by
  unfold chkT at hc
  split at hc
  case h_2=>cases hc
  rename_i n t ty ww ro hb
  split at hc
  case h_2=>cases hc
  rename_i e1 e2 e3
  have e1:=Nat.eq_of_beq_eq_true e1
  have e2:=Nat.eq_of_beq_eq_true e2
  have e3:=Nat.eq_of_beq_eq_true e3
  have e4:=veqL_eq _ _ hc
  obtain ⟨c,ty',fz,g1,g2⟩:=hH.cells hb hν
  refine ⟨?_,_,hb⟩
  have hr:=readN_rel g2.le g2.get n 0 (by omega)
  rw [e4] at hr
  have hl:=hr.plain_eq hp
  have hsz:=g2.gr (by omega)
  rw [e3,Nat.mul_one] at hsz
  rw [lenL_eq] at e1
  rw [g1,g2.ty,g2.fz,e2]
  simp only [tabB,Blk.den]
  congr 2
  apply Array.ext'
  rw [List.drop_zero] at hl
  rw [<- hl,List.take_of_length_le]
  have:c.toList.length=c.size:=rfl
  omega
theorem nodup_uniq:∀ {l:List PB},(l.map (·.1)).Nodup -> ∀ {p q:PB},p ∈ l -> q ∈ l -> q.1=p.1 -> q=p
  | [],_,p,q,hp,_,_=>by simp at hp
  | x :: l,hd,p,q,hp,hq,e=>by
    simp only [List.map_cons,List.nodup_cons] at hd
    rcases List.mem_cons.1 hp with h1 | h1 <;> rcases List.mem_cons.1 hq with h2 | h2
    · rw [h1,h2]
    · exact absurd (List.mem_map.2 ⟨q,h2,by rw [e,h1]⟩) hd.1
    · exact absurd (List.mem_map.2 ⟨p,h1,by rw [<- e,h2]⟩) hd.1
    · exact nodup_uniq hd.2 h1 h2 e
def resQ (tabs picks:List PB) (v0:Value):Option Rs -> Bool
  | some (.fn v H _)=>match veq v v0,okVi v0,chkTs H tabs with
    | true,true,true=>chkBs H picks
    | _,_,_=>false
  | _=>false
theorem LR.plain_refl {ν:Nu}:∀ {l:List Value},plL l=true -> LR ν l l
  | [],_=>.nil
  | v :: l,h=>by
    rw [plL] at h
    split at h
    · rename_i hv;exact .cons (VRi.plain_refl v hv) (LR.plain_refl h)
    · cases h
theorem closed_sp {P:Program} (hm:P.follows .mixedOrders=true) {k n0:Nat} {f:FuncId} {args:List Value} {v0:Value} (hG:Nat.ble G n0=true) (ht:tabOk G tabs=true) (ha:plL args=true)
    (hnd:(tabs.map (·.1)++picks.map (·.1)).Nodup) (hrun:resQ tabs picks v0 (runK P G k (.fn f args (tabH tabs) n0))=true) :
    Sp P f ⟨args⟩ (tabs.map tabB) F λ v' H'=>∃ ν rest,v'=outV ν v0 /\ H'=tabs.map tabB++picks.map (pickB ν rest):=by
  intro w hR
  have hG:=le_of_ble hG
  cases hres:runK P G k (.fn f args (tabH tabs) n0) with
  | none=>rw [hres] at hrun;cases hrun
  | some res=>cases res with
    | cd e s=>rw [hres] at hrun;cases hrun
    | fn v H n' =>
      rw [hres] at hrun
      simp only [resQ] at hrun
      split at hrun
      case h_2=>cases hrun
      rename_i q1 q2 q3
      rw [runK_eq] at hres
      obtain ⟨hn,hcall⟩:=runA_ok hm k _ _ hres
      have hlt:∀ p ∈ tabs,p.1 < G:=λ p hp=>(tabOk_mem ht p hp).1
      refine (hcall (tabN tabs G) F w args (λ k hk=>⟨_,if_pos hk⟩) (λ h h1 h2=>by simp only [tabN];rw [if_neg (by omega)]) (tab_HR ht hR) (LR.plain_refl ha)).mono ?_
      rintro e w' ⟨ν,v',rfl,hv,hext,hH,hbel⟩
      rw [veq_eq _ _ q1] at hv
      have hνt:∀ p ∈ tabs,ν p.1=tabN tabs G p.1:=λ p hp=>hext.out _ (.inl (by have:=hlt p hp;omega))
      have hfind:∀ p ∈ tabs,ν p.1=some (p.1,p.2.1.length):=λ p hp=>by
        rw [hνt p hp]
        simp only [tabN,if_pos (hlt p hp)]
        congr 2
        have hd:(tabs.map (·.1)).Nodup:=(List.nodup_append.1 hnd).1
        cases hf:tabs.find? (λ q=>q.1 == p.1) with
        | none=>exact absurd (List.find?_eq_none.1 hf p hp) (by simp)
        | some q =>
          obtain ⟨hq,hq2⟩:=find_some hf
          have:q=p:=nodup_uniq hd hp hq hq2
          simp [this]
      have htab:∀ p ∈ tabs,w'.heap[p.1]?=some (tabB p).2.den /\ ∃ b,hget H p.1=some b:=λ p hp=>tab_out hH (chkTs_mem q3 p hp) (tabOk_mem ht p hp).2 (hfind p hp)
      have hpk:∀ p ∈ picks,(∃ K,ν p.1=some (nub ν p.1,K)) /\ (∃ b,hget H p.1=some b) /\ w'.heap[nub ν p.1]?=some (pickB ν (restBi ν w') p).2.den:=λ p hp=>pick_out hH (chkBs_mem hrun p hp)
      refine ⟨v',tabs.map tabB++picks.map (pickB ν (restBi ν w')),rfl,⟨ν,restBi ν w',outV_eq hv q2,rfl⟩,⟨?_,?_⟩,hbel⟩
      · intro x hx
        rcases List.mem_append.1 hx with hx | hx
        · rcases List.mem_append.1 hx with hx | hx
          · obtain ⟨p,hp,rfl⟩:=List.mem_map.1 hx
            exact (htab p hp).1
          · obtain ⟨p,hp,rfl⟩:=List.mem_map.1 hx
            exact (hpk p hp).2.2
        · exact hH.frm x hx
      · -- the handles' blocks
        have hall:∀ h ∈ tabs.map (·.1)++picks.map (·.1),∃ K b,ν h=some (nub ν h,K) /\ hget H h=some b:=λ h hh=>by
          rcases List.mem_append.1 hh with hh | hh
          · obtain ⟨p,hp,rfl⟩:=List.mem_map.1 hh
            obtain ⟨b,hb⟩:=(htab p hp).2
            exact ⟨p.2.1.length,b,by simp [nub,hfind p hp],hb⟩
          · obtain ⟨p,hp,rfl⟩:=List.mem_map.1 hh
            obtain ⟨⟨K,h1⟩,⟨b,hb⟩,-⟩:=hpk p hp
            exact ⟨K,b,h1,hb⟩
        have e1:(tabs.map tabB++picks.map (pickB ν (restBi ν w'))).map (·.1)=(tabs.map (·.1)++picks.map (·.1)).map (nub ν):=by
          simp only [List.map_append,List.map_map]
          congr 1
          apply List.map_congr_left
          intro p hp
          simp [tabB,nub,hfind p hp]
        rw [List.map_append,List.nodup_append,e1]
        refine ⟨?_,?_,λ a ha b hb=>?_⟩
        · rw [List.Nodup,List.pairwise_map]
          refine (List.pairwise_iff_forall_sublist.2 λ {a b} hs=>?_)
          have ha':=hall a (hs.subset (by simp))
          have hb':=hall b (hs.subset (by simp))
          obtain ⟨K1,b1,x1,x2⟩:=ha'
          obtain ⟨K2,b2,y1,y2⟩:=hb'
          intro e
          have hab:a=b:=hH.inj _ _ _ _ _ _ _ x2 y2 x1 (by rw [e];exact y1)
          have:=hnd.sublist hs
          simp [hab] at this
        · have:=hR.nodup
          rw [List.map_append,List.nodup_append] at this
          exact this.2.1
        · obtain ⟨h,hh,rfl⟩:=List.mem_map.1 ha
          obtain ⟨x,hx,rfl⟩:=List.mem_map.1 hb
          obtain ⟨K,b,g1,g2⟩:=hall h hh
          exact (hH.apt _ _ _ _ g2 g1 x hx).symm
end
end
theorem Sp.table {P:Program} {f:FuncId} {args:Array Value} {x:Nat × Blk} {F:HL} {Q:Value -> HL -> Prop} (hx:x ∈ F) (h:∀ F0,Sp P f args [x] F0 λ u H'=>∃ Hp,Q u Hp /\ H'=[x]++Hp):Sp P f args [] F Q:=by
  obtain ⟨l1,l2,rfl⟩:=List.append_of_mem hx
  have hp:∀ H:HL,([x]++H++(l1++l2)).Perm (H++(l1++x :: l2)):=λ H=>by
    refine List.Perm.trans ?_ (List.Perm.append_left H List.perm_middle.symm)
    show (x :: (H++(l1++l2))).Perm (H++x :: (l1++l2))
    exact List.perm_middle.symm
  intro w hR
  have hR1:Rel ([x]++(l1++l2)) w:=hR.perm (by have:=hp [];simpa using this)
  refine (h (l1++l2) w hR1).mono ?_
  rintro e w' ⟨v,H',he,⟨Hp,hq,rfl⟩,hR',hb⟩
  exact ⟨v,Hp,he,hq,hR'.perm (hp Hp).symm,hb⟩
end Go.Proofs.YtghjbimijeinfaaGreatDoor
