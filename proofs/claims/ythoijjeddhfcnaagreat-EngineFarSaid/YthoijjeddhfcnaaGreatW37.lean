import Derived.Test.YthoijjeddhfcnaaGreatW36
set_option maxHeartbeats 4000000
set_option maxRecDepth 100000
set_option linter.unusedSimpArgs false
set_option linter.unusedVariables false
namespace Go.Proofs.YthoijjeddhfcnaaGreat
open Go.RowKit
noncomputable section
def opD (P:Program) (G N:Nat) (ops:Array Oper) (o:Oper) (k:Kt) (g:Value -> Tr Value -> Tr Value):CzR:=match o.op with
  | .move x=>match cv x with
    | .mk f=>.mk (mvF k g f)
  | .assign x=>match cv x with
    | .mk f=>.mk (mvF k g f)
  | .pick c a b=>match cv c with
    | .mk f=>match cv a with
      | .mk fa=>match cv b with
        | .mk fb=>.mk (pickF k g f fa fb)
  | .nilCheck x=>match cv x with
    | .mk f=>.mk (nilF P G N ops o k g f)
  | .binOp op _ x y _=>match cmpQ op with
    | some q=>match cv x with
      | .mk f1=>match cv y with
        | .mk f2=>.mk (cmpF P G N ops o k g q f1 f2)
    | none=>.mk (genF P G N ops o k)
  | .fieldAddr t x j=>match fldO P t j with
    | some (c,_)=>match cv x with
      | .mk f=>.mk (fldF k g c f)
    | none=>.mk (genF P G N ops o k)
  | .load t x=>match oneC P t with
    | true=>match cv x with
      | .mk f=>.mk (ldF k g f)
    | false=>match aggC P t with
      | some c=>match cv x with
        | .mk f=>.mk (laF k g c f)
      | none=>.mk (genF P G N ops o k)
  | .alloc t=>match zeroT P t with
    | some z=>match cellsB z t with
      | .cells a b c d e=>.mk (alF k g (.cells a b c d e))
      | _=>.mk (genF P G N ops o k)
    | none=>.mk (genF P G N ops o k)
  | .indexAddr t x i=>match P.underlying t with
    | some (.slice el)=>match sizeT P el with
      | some c=>match cv x with
        | .mk f1=>match cv i with
          | .mk f2=>.mk (ixF k g c f1 f2)
      | none=>.mk (genF P G N ops o k)
    | _=>.mk (genF P G N ops o k)
  | .call c=>match c.callee with
    | .value (.func f)=>match hasB P f with
      | true=>match ca c.args.toList with
        | .mk as=>.mk (enF k g f as)
      | false=>.mk (genF P G N ops o k)
    | _=>.mk (genF P G N ops o k)
  | _=>.mk (genF P G N ops o k)
def opN (P:Program) (G N:Nat) (ops:Array Oper) (o:Oper) (k:Kt):CzR:=match o.op with
  | .store t x y=>match sizeT P t with
    | some 1=>match cv x with
      | .mk f1=>match cv y with
        | .mk f2=>.mk (stF P G N ops o k f1 f2)
    | _=>.mk (genF P G N ops o k)
  | .call c=>match c.callee with
    | .value (.func f)=>match hasB P f with
      | true=>match ca c.args.toList with
        | .mk as=>.mk (enN k f as)
      | false=>.mk (genF P G N ops o k)
    | _=>.mk (genF P G N ops o k)
  | _=>.mk (genF P G N ops o k)
def opK0 (P:Program) (G N:Nat) (ops:Array Oper) (o:Oper) (k:Kt):CzR:=match okO G o with
  | true=>match dstK N o.dst with
    | .ok g=>opD P G N ops o k g
    | .no=>opN P G N ops o k
    | .bad=>.mk (genF P G N ops o k)
  | false=>.mk (genF P G N ops o k)
def noG (o:Oper):Oper:=⟨o.dst,o.op,o.type,o.pos,o.after,none⟩
def guR (want:Bool) (u:Value) (x y:Option St):Option St:=match u with
  | .bool b=>match b with
    | true=>match want with
      | true=>x
      | false=>y
    | false=>match want with
      | true=>y
      | false=>x
  | .tuple _=>y
  | _=>none
def guF (want:Bool) (f:Tr Value -> Value) (h:Kt) (k:Kt) (g:Value -> Tr Value -> Tr Value) (ih:Ih) (r:Option Nat) (T:Tr Value) (D:List Deferred) (H:AH) (n:Nat):Option St:=guR want (f T) (h ih r T D H n) (k ih r (g undef T) D H n)
def guN (want:Bool) (f:Tr Value -> Value) (h:Kt) (k:Kt) (ih:Ih) (r:Option Nat) (T:Tr Value) (D:List Deferred) (H:AH) (n:Nat):Option St:=guR want (f T) (h ih r T D H n) (k ih r T D H n)
def opK (P:Program) (G N:Nat) (ops:Array Oper) (o:Oper) (nx:CzR):CzR:=match nx with
  | .mk k=>match o.guard with
    | none=>opK0 P G N ops o k
    | some (j,want)=>match (ops[j]?).bind (·.dst) with
      | some d=>match getK (pth d) with
        | .mk f=>match opK0 P G N ops (noG o) k with
          | .mk h=>match dstK N o.dst with
            | .ok g=>.mk (guF want f h k g)
            | .no=>.mk (guN want f h k)
            | .bad=>.mk (genF P G N ops o k)
      | none=>.mk (genF P G N ops o k)
def opsK (P:Program) (G N:Nat) (ops:Array Oper):List Oper -> CzR
  | []=>.mk λ _ _ T D H n=>some ⟨T,D,H,n⟩
  | o :: l=>opK P G N ops o (opsK P G N ops l)
def isGz (P:Program) (G N:Nat) (ops:Array Oper) (o:Oper) (k:Kt) (c:CzR):Prop:=∀ ih r T D H n,c.f ih r T D H n=genF P G N ops o k ih r T D H n
theorem isG_gen {P:Program} {G N:Nat} {ops:Array Oper} {o:Oper} {k:Kt}:isGz P G N ops o k (.mk (genF P G N ops o k)):=λ _ _ _ _ _ _=>rfl
theorem cvm {x:Operand} {f} (h:cv x=.mk f) (T:Tr Value):f T=ael T x:=by
  have:=cv_eq x T;rw [h] at this;exact this
theorem cam {x:List Operand} {f} (h:ca x=.mk f) (T:Tr Value):f T=mapE T x:=by
  have:=ca_eq x T;rw [h] at this;exact this
theorem opD_eq {P:Program} {G N:Nat} {ops:Array Oper} {o:Oper} {k:Kt} {g} (hg:o.guard=none) (ho:okO G o=true) (hd:dstK N o.dst=.ok g):isGz P G N ops o k (opD P G N ops o k g):=by
  unfold opD
  split
  · rename_i x hx
    split;rename_i f hf
    exact λ ih r T D H n=>mv_eq hg ho hd (.inl hx) (cvm hf) ih r T D H n
  · rename_i x hx
    split;rename_i f hf
    exact λ ih r T D H n=>mv_eq hg ho hd (.inr hx) (cvm hf) ih r T D H n
  · rename_i c a b hx
    split;rename_i f hf
    split;rename_i fa hfa
    split;rename_i fb hfb
    exact λ ih r T D H n=>pick_eq hg ho hd hx (cvm hf) (cvm hfa) (cvm hfb) ih r T D H n
  · rename_i x hx
    split;rename_i f hf
    exact λ ih r T D H n=>nil_eq hg ho hd hx (cvm hf) ih r T D H n
  · rename_i op t x y z hx
    split
    · rename_i q hq
      split;rename_i f hf
      split;rename_i f2 hf2
      exact λ ih r T D H n=>cmp_eq hg ho hd hx hq (cvm hf) (cvm hf2) ih r T D H n
    · exact isG_gen
  · rename_i t x j hx
    split
    · rename_i c ft hc
      split;rename_i f hf
      exact λ ih r T D H n=>fld_eq hg ho hd hx hc (cvm hf) ih r T D H n
    · exact isG_gen
  · rename_i t x hx
    split
    · rename_i hc
      split;rename_i f hf
      exact λ ih r T D H n=>ld_eq hg ho hd hx hc (cvm hf) ih r T D H n
    · rename_i hc
      split
      · rename_i c ha
        split;rename_i f hf
        exact λ ih r T D H n=>la_eq hg ho hd hx hc ha (cvm hf) ih r T D H n
      · exact isG_gen
  · rename_i t hx
    split
    · rename_i z hz
      split
      · rename_i a b c d e hb
        exact λ ih r T D H n=>al_eq hg ho hd hx hz hb ih r T D H n
      · exact isG_gen
    · exact isG_gen
  · rename_i t x i hx
    split
    · rename_i el ht
      split
      · rename_i c hc
        split;rename_i f hf
        split;rename_i f2 hf2
        exact λ ih r T D H n=>ix_eq hg ho hd hx ht hc (cvm hf) (cvm hf2) ih r T D H n
      · exact isG_gen
    · exact isG_gen
  · rename_i c hx
    split
    · rename_i f hc
      split
      · rename_i hb
        split;rename_i as ha
        exact λ ih r T D H n=>en_eq hg ho hd hx hc hb (cam ha) ih r T D H n
      · exact isG_gen
    · exact isG_gen
  · exact isG_gen
theorem opN_eq {P:Program} {G N:Nat} {ops:Array Oper} {o:Oper} {k:Kt} (hg:o.guard=none) (ho:okO G o=true) (hd:dstK N o.dst=.no):isGz P G N ops o k (opN P G N ops o k):=by
  unfold opN
  split
  · rename_i t x y hx
    split
    · rename_i hc
      split;rename_i f hf
      split;rename_i f2 hf2
      exact λ ih r T D H n=>st_eq hg ho hd hx hc (cvm hf) (cvm hf2) ih r T D H n
    · exact isG_gen
  · rename_i c hx
    split
    · rename_i f hc
      split
      · rename_i hb
        split;rename_i as ha
        exact λ ih r T D H n=>en_neq hg ho hd hx hc hb (cam ha) ih r T D H n
      · exact isG_gen
    · exact isG_gen
  · exact isG_gen
theorem opK0_eq {P:Program} {G N:Nat} {ops:Array Oper} {o:Oper} {k:Kt} (hg:o.guard=none):isGz P G N ops o k (opK0 P G N ops o k):=by
  unfold opK0
  split
  · rename_i ho
    split
    · rename_i g hd
      exact opD_eq hg ho hd
    · rename_i hd
      exact opN_eq hg ho hd
    · exact isG_gen
  · exact isG_gen
theorem plainV_noG (P:Program) (T:Tr Value) (o:Oper):plainV P T (noG o)=plainV P T o:=by
  have e:execOp (ael T) (noG o)=execOp (ael T) o:=by
    obtain ⟨dst,op,type,pos,after,guard⟩:=o
    cases op <;> rfl
  unfold plainV
  rw [e]
  rfl
theorem pureV_noG (P:Program) (T:Tr Value) (o:Oper):pureV P (noG o) T=pureV P o T:=by
  unfold pureV
  simp only [plainV_noG]
  rfl
theorem loadV_noG (P:Program) (T:Tr Value) (H:AH) (o:Oper):loadV P (noG o) T H=loadV P o T H:=by
  unfold loadV
  simp only [plainV_noG]
  rfl
theorem effV_noG (P:Program) (T:Tr Value) (H:AH) (n:Nat) (o:Oper):effV P (noG o) T H n=effV P o T H n:=by
  unfold effV
  simp only [plainV_noG]
  rfl
theorem stOp_noG (P:Program) (G:Nat) (ih:Ih) (r:Option Nat) (T:Tr Value) (H:AH) (n:Nat) (o:Oper):stOp P G ih r (noG o) T H n=stOp P G ih r o T H n:=by
  unfold stOp aop
  simp only [pureV_noG,loadV_noG,effV_noG]
  rfl
theorem genF_guard {P:Program} {G N:Nat} {ops:Array Oper} {o:Oper} {k:Kt} {j:Nat} {want:Bool} (hg:o.guard=some (j,want)) {d:Tmp} (hd:(ops[j]?).bind (·.dst)=some d) {f:Tr Value -> Value} (hf:∀ T,f T=tget T d) {h:Kt} (hh:∀ ih r T D H n,h ih r T D H n=genF P G N ops (noG o) k ih r T D H n) (ih r T D H n) :
    genF P G N ops o k ih r T D H n=guR want (f T) (h ih r T D H n) (match putT N o.dst undef T with | some T=>k ih r T D H n | none=>none):=by
  rw [hh,hf]
  have e:genF P G N ops (noG o) k ih r T D H n=match stOp P G ih r o T H n with
    | none=>none
    | some (.val v H n)=>forceVi v λ v=>match putT N o.dst v T with
      | some T=>k ih r T D H n
      | none=>none
    | some (.dfr d)=>match putT N o.dst undef T with
      | some T=>k ih r T (d :: D) H n
      | none=>none:=by
    simp only [genF,wantA,noG]
    rw [<- stOp_noG P G ih r T H n o]
    rfl
  rw [e]
  simp only [genF,wantA,hg,hd]
  cases tget T d with
  | bool b=>cases b <;> cases want <;> rfl
  | _=>rfl
theorem opK_eq {P:Program} {G N:Nat} {ops:Array Oper} {o:Oper} {k:Kt}:isGz P G N ops o k (opK P G N ops o (.mk k)):=by
  cases hg:o.guard with
  | none=>simp only [opK,hg];exact opK0_eq hg
  | some jw =>
    obtain ⟨j,want⟩:=jw
    cases hd:(ops[j]?).bind (·.dst) with
    | none=>simp only [opK,hg,hd];exact isG_gen
    | some d =>
      cases hf:getK (pth d) with
      | mk f=>cases hh:opK0 P G N ops (noG o) k with
        | mk h =>
          have hf':∀ T,f T=tget T d:=λ T=>by have:=getK_eq (pth d) T;rw [hf] at this;exact this
          have hh':=opK0_eq (P:=P) (G:=G) (N:=N) (ops:=ops) (o:=noG o) (k:=k) rfl
          rw [hh] at hh'
          cases hdk:dstK N o.dst with
          | ok g =>
            simp only [opK,hg,hd,hf,hh,hdk]
            intro ih r T D H n
            rw [genF_guard hg hd hf' hh',dstK_ok hdk]
            rfl
          | no =>
            simp only [opK,hg,hd,hf,hh,hdk]
            intro ih r T D H n
            rw [genF_guard hg hd hf' hh',dstK_no hdk]
            rfl
          | bad=>simp only [opK,hg,hd,hf,hh,hdk];exact isG_gen
theorem opsK_eq (P:Program) (G N:Nat) (ops:Array Oper):∀ l,CzR.okL P G N ops l (opsK P G N ops l).f
  | []=>λ ih r T D H n=>rfl
  | o :: l=>by
    have h:=opsK_eq P G N ops l
    cases hk:opsK P G N ops l with
    | mk k =>
      rw [hk] at h
      intro ih r T D H n
      simp only [opsK,hk]
      rw [opK_eq]
      exact genF_eq h o ih r T D H n
def cgF (P:Program) (G N:Nat) (c:Code) (ih:Ih) (r:Option Nat) (T:Tr Value) (D:List Deferred) (H:AH) (n:Nat):Option (Ex × St):=evC P G ih r N c ⟨T,D,H,n⟩
def regF (k:Kt) (ih:Ih) (r:Option Nat) (T:Tr Value) (D:List Deferred) (H:AH) (n:Nat):Option (Ex × St):=match k ih r T D H n with
  | some s=>some (.normal,s)
  | none=>none
abbrev Kc:=Ih -> Option Nat -> Tr Value -> List Deferred -> AH -> Nat -> Option (Ex × St)
def seqR (x:Option (Ex × St)) (y:Tr Value -> List Deferred -> AH -> Nat -> Option (Ex × St)):Option (Ex × St):=match x with
  | some p=>match p with
    | (e,s)=>match e with
      | .normal=>match s with
        | ⟨T,D,H,n⟩=>y T D H n
      | .exit id=>some (.exit id,s)
      | .ret=>some (.ret,s)
  | none=>none
def seqF (a b:Kc) (ih:Ih) (r:Option Nat) (T:Tr Value) (D:List Deferred) (H:AH) (n:Nat):Option (Ex × St):=seqR (a ih r T D H n) λ T D H n=>b ih r T D H n
def condR (u:Value) (x y:Option (Ex × St)):Option (Ex × St):=match u with
  | .bool b=>match b with
    | true=>x
    | false=>y
  | _=>none
def condF (f:Tr Value -> Value) (a b:Kc) (ih:Ih) (r:Option Nat) (T:Tr Value) (D:List Deferred) (H:AH) (n:Nat):Option (Ex × St):=condR (f T) (a ih r T D H n) (b ih r T D H n)
def blkR (id:Nat) (x:Option (Ex × St)):Option (Ex × St):=match x with
  | some p=>match p with
    | (e,s)=>match e with
      | .exit id'=>match Nat.beq id' id with
        | true=>some (.normal,s)
        | false=>some (.exit id',s)
      | .normal=>some (.normal,s)
      | .ret=>some (.ret,s)
  | none=>none
def blkF (id:Nat) (a:Kc) (ih:Ih) (r:Option Nat) (T:Tr Value) (D:List Deferred) (H:AH) (n:Nat):Option (Ex × St):=blkR id (a ih r T D H n)
def lopR (x:Option (Ex × St)) (y:St -> Option Rs):Option (Ex × St):=match x with
  | some p=>match p with
    | (e,s)=>match e with
      | .normal=>match y s with
        | some q=>match q with
          | .cd e s=>some (e,s)
          | .fn _ _ _=>none
        | none=>none
      | .exit id=>some (.exit id,s)
      | .ret=>some (.ret,s)
  | none=>none
def lopF (N:Nat) (c:Code) (a:Kc) (ih:Ih) (r:Option Nat) (T:Tr Value) (D:List Deferred) (H:AH) (n:Nat):Option (Ex × St):=lopR (a ih r T D H n) λ s=>ih (.loop r N c s)
def codK (P:Program) (G N:Nat):Code -> CzC
  | .skip=>.mk λ _ _ T D H n=>some (.normal,⟨T,D,H,n⟩)
  | .label _=>.mk λ _ _ T D H n=>some (.normal,⟨T,D,H,n⟩)
  | .region id ops draw=>match draw with
    | false=>match opsK P G N ops ops.toList with
      | .mk k=>.mk (regF k)
    | true=>.mk (cgF P G N (.region id ops true))
  | .seq a b=>match codK P G N a with
    | .mk fa=>match codK P G N b with
      | .mk fb=>.mk (seqF fa fb)
  | .cond c a b=>match cv c with
    | .mk f=>match codK P G N a with
      | .mk fa=>match codK P G N b with
        | .mk fb=>.mk (condF f fa fb)
  | .block id c=>match codK P G N c with
    | .mk fa=>.mk (blkF id fa)
  | .loop c=>match codK P G N c with
    | .mk fa=>.mk (lopF N c fa)
  | .rangeFunc g ps assign body=>.mk (cgF P G N (.rangeFunc g ps assign body))
  | .exit id=>.mk λ _ _ T D H n=>some (.exit id,⟨T,D,H,n⟩)
  | .scope c=>codK P G N c
  | .goto l=>.mk (cgF P G N (.goto l))
  | .ret=>.mk λ _ _ T D H n=>some (.ret,⟨T,D,H,n⟩)
  | .refuse x=>.mk (cgF P G N (.refuse x))
def isCz (P:Program) (G N:Nat) (c:Code) (f:Kc):Prop:=∀ ih r T D H n,f ih r T D H n=evC P G ih r N c ⟨T,D,H,n⟩
theorem codK_eq (P:Program) (G N:Nat):∀ c,isCz P G N c (codK P G N c).f
  | .skip=>λ _ _ _ _ _ _=>rfl
  | .label _=>λ _ _ _ _ _ _=>rfl
  | .region id ops draw=>by
    cases draw with
    | true=>exact λ _ _ _ _ _ _=>rfl
    | false =>
      have h:=opsK_eq P G N ops ops.toList
      cases hk:opsK P G N ops ops.toList with
      | mk k =>
        rw [hk] at h
        intro ih r T D H n
        simp only [codK,hk,CzC.f,regF,evC]
        have:=h ih r T D H n
        simp only [CzR.f] at this
        rw [this]
        cases evOps P G ih r N ops ops.toList ⟨T,D,H,n⟩ <;> rfl
  | .seq a b=>by
    have h1:=codK_eq P G N a
    have h2:=codK_eq P G N b
    cases ha:codK P G N a with
    | mk fa=>cases hb:codK P G N b with
      | mk fb =>
        rw [ha] at h1;rw [hb] at h2
        intro ih r T D H n
        have e1:=h1 ih r T D H n
        simp only [CzC.f] at e1
        simp only [codK,ha,hb,CzC.f,seqF,evC,e1]
        cases evC P G ih r N a ⟨T,D,H,n⟩ with
        | none=>rfl
        | some p=>obtain ⟨e,s⟩:=p;cases e with
          | normal=>obtain ⟨T,D,H,n⟩:=s;exact h2 ih r T D H n
          | exit id=>rfl
          | ret=>rfl
  | .cond c a b=>by
    have h1:=codK_eq P G N a
    have h2:=codK_eq P G N b
    cases hc:cv c with
    | mk f=>cases ha:codK P G N a with
      | mk fa=>cases hb:codK P G N b with
        | mk fb =>
          rw [ha] at h1;rw [hb] at h2
          intro ih r T D H n
          simp only [codK,hc,ha,hb,CzC.f,condF,evC,cvm hc]
          cases ael T c with
          | bool q=>cases q with
            | true=>exact h1 ih r T D H n
            | false=>exact h2 ih r T D H n
          | _=>rfl
  | .block id c=>by
    have h1:=codK_eq P G N c
    cases ha:codK P G N c with
    | mk fa =>
      rw [ha] at h1
      intro ih r T D H n
      have e1:=h1 ih r T D H n
      simp only [CzC.f] at e1
      simp only [codK,ha,CzC.f,blkF,evC,e1]
      cases evC P G ih r N c ⟨T,D,H,n⟩ with
      | none=>rfl
      | some p=>obtain ⟨e,s⟩:=p;cases e with
        | normal=>rfl
        | exit id'=>simp only [blkR];cases Nat.beq id' id <;> rfl
        | ret=>rfl
  | .loop c=>by
    have h1:=codK_eq P G N c
    cases ha:codK P G N c with
    | mk fa =>
      rw [ha] at h1
      intro ih r T D H n
      have e1:=h1 ih r T D H n
      simp only [CzC.f] at e1
      simp only [codK,ha,CzC.f,lopF,evC,e1]
      cases evC P G ih r N c ⟨T,D,H,n⟩ with
      | none=>rfl
      | some p=>obtain ⟨e,s⟩:=p;cases e with
        | normal =>
          simp only [lopR]
          cases ih (.loop r N c s) with
          | none=>rfl
          | some q=>cases q <;> rfl
        | exit id'=>rfl
        | ret=>rfl
  | .rangeFunc g ps assign body=>λ _ _ _ _ _ _=>rfl
  | .exit id=>λ _ _ _ _ _ _=>rfl
  | .scope c=>by
    intro ih r T D H n
    simp only [codK,evC]
    exact codK_eq P G N c ih r T D H n
  | .goto l=>λ _ _ _ _ _ _=>rfl
  | .ret=>λ _ _ _ _ _ _=>rfl
  | .refuse x=>λ _ _ _ _ _ _=>rfl
def rsK:List ResultVar -> Option CzA
  | []=>some (.mk λ _=>[])
  | x :: l=>match x with
    | .tmp t=>match getK (pth t) with
      | .mk f=>match rsK l with
        | some c=>match c with
          | .mk h=>some (.mk λ T=>f T :: h T)
        | none=>none
    | .cell _ _=>none
theorem rsK_eq (P:Program) (H:AH) (T:Tr Value):∀ {l:List ResultVar} {h},rsK l=some (.mk h) -> resA P T H l=some (h T)
  | [],h,e=>by simp only [rsK,Option.some.injEq,CzA.mk.injEq] at e;subst e;rfl
  | .cell _ _ :: l,h,e=>by simp [rsK] at e
  | .tmp t :: l,h,e=>by
    simp only [rsK] at e
    cases hf:getK (pth t) with
    | mk f =>
      rw [hf] at e
      simp only at e
      cases hl:rsK l with
      | none=>rw [hl] at e;simp at e
      | some c=>cases c with
        | mk h' =>
          rw [hl] at e
          simp only [Option.some.injEq,CzA.mk.injEq] at e
          subst e
          have:=getK_eq (pth t) T
          rw [hf] at this
          simp only [CzV.f] at this
          simp only [resA,rsK_eq P H T hl,this]
          rfl
def ofLF (l:List Value):Nat -> Tr Value -> Tr Value:=List.rec (motive:=λ _=>Nat -> Tr Value -> Tr Value) (λ _ t=>t) (λ x _ ih i t=>forceVi x λ x=>ih (i+1) (Tr.setP undef x (pth i) t)) l
theorem ofLF_eq:∀ (l:List Value) (i:Nat) (t:Tr Value),ofLF l i t=Tr.ofL undef l i t
  | [],i,t=>rfl
  | x :: l,i,t=>by
    have:=ofLF_eq l (i+1) (Tr.setP undef x (pth i) t)
    show (forceVi x λ x=>ofLF l (i+1) (Tr.setP undef x (pth i) t))=_
    rw [forceV_eq,this,Tr.ofL]
    have e:Tr.set undef x t i=Tr.setP undef x (pth i) t:=rfl
    rw [e]
    cases Tr.setP undef x (pth i) t <;> rfl
def oneF (h:List Value):Value:=match h with
  | []=>.tuple ⟨[]⟩
  | v :: l=>match l with
    | []=>v
    | w :: l=>.tuple ⟨v :: w :: l⟩
theorem oneF_eq (h:List Value):oneF h=oneV h:=by
  cases h with
  | nil=>rfl
  | cons v l=>cases l <;> rfl
def lvG (P:Program) (fn:Func) (ih:Ih) (s:St):Option Rs:=match leaveA P ih s.D s.H s.n with
  | some (H,n)=>match resA P s.T H fn.results.toList with
    | some vs=>some (.fn (oneV vs) H n)
    | none=>none
  | none=>none
def lvS (P:Program) (fn:Func) (h:Tr Value -> List Value) (ih:Ih) (s:St):Option Rs:=match s with
  | ⟨T,D,H,n⟩=>match D with
    | []=>some (.fn (oneF (h T)) H n)
    | d :: D=>lvG P fn ih ⟨T,d :: D,H,n⟩
def fnR (x:Option (Ex × St)) (y:St -> Option Rs):Option Rs:=match x with
  | some p=>match p with
    | (e,s)=>match e with
      | .exit _=>none
      | .normal=>y s
      | .ret=>y s
  | none=>none
def fnF (N:Nat) (k:Kc) (y:Ih -> St -> Option Rs) (ih:Ih) (args:List Value) (H:AH) (n:Nat):Option Rs:=match Nat.ble (lenL args) N with
  | true=>fnR (k ih none (ofLF args 0 .lf) [] H n) (y ih)
  | false=>none
def funK (P:Program) (G:Nat) (f:FuncId):CzF:=match body? P f with
  | some (fn,c)=>match codK P G fn.ntmps c with
    | .mk k=>match rsK fn.results.toList with
      | some h=>match h with
        | .mk h=>.mk (fnF fn.ntmps k (lvS P fn h))
      | none=>.mk (fnF fn.ntmps k (lvG P fn))
  | none=>.mk λ _ _ _ _=>none
theorem lvS_eq {P:Program} {fn:Func} {h} (e:rsK fn.results.toList=some (.mk h)) (ih:Ih) (s:St):lvS P fn h ih s=lvG P fn ih s:=by
  obtain ⟨T,D,H,n⟩:=s
  cases D with
  | cons d D=>rfl
  | nil=>simp only [lvS,lvG,leaveA,rsK_eq P H T e,oneF_eq]
theorem fnF_eq {P:Program} {G:Nat} {fn:Func} {c:Code} {f:FuncId} (hb:body? P f=some (fn,c)) {k:Kc} (hk:isCz P G fn.ntmps c k) {y:Ih -> St -> Option Rs} (hy:∀ ih s,y ih s=lvG P fn ih s) (ih:Ih) (args:List Value) (H:AH) (n:Nat):fnF fn.ntmps k y ih args H n=stepT P G ih (.fn f args H n):=by
  simp only [fnF,stepT,hb]
  cases Nat.ble (lenL args) fn.ntmps with
  | false=>rfl
  | true =>
    simp only [hk ih,ofLF_eq]
    rw [show Tr.ofL undef args 0 .lf=argsT args from rfl]
    cases evC P G ih none fn.ntmps c ⟨argsT args,[],H,n⟩ with
    | none=>rfl
    | some p=>obtain ⟨e,s⟩:=p;cases e with
      | exit _=>rfl
      | normal=>exact hy ih s
      | ret=>exact hy ih s
theorem funK_eq (P:Program) (G:Nat) (f:FuncId) (ih:Ih) (args:List Value) (H:AH) (n:Nat):(funK P G f).f ih args H n=stepT P G ih (.fn f args H n):=by
  cases hb:body? P f with
  | none=>simp only [funK,hb,CzF.f,stepT]
  | some p =>
    obtain ⟨fn,c⟩:=p
    have h1:=codK_eq P G fn.ntmps c
    cases hk:codK P G fn.ntmps c with
    | mk k =>
      rw [hk] at h1
      cases hr:rsK fn.results.toList with
      | none =>
        simp only [funK,hb,hk,hr,CzF.f]
        exact fnF_eq hb h1 (λ _ _=>rfl) ih args H n
      | some h=>cases h with
        | mk h =>
          simp only [funK,hb,hk,hr,CzF.f]
          exact fnF_eq hb h1 (λ ih s=>lvS_eq hr ih s) ih args H n
def taskK (P:Program) (G:Nat) (ih:Ih) (t:Task):Option Rs:=match t with
  | .loop r N c s=>match codK P G N (.loop c) with
    | .mk k=>match s with
      | ⟨T,D,H,n⟩=>match k ih r T D H n with
        | some p=>match p with
          | (e,s)=>some (.cd e s)
        | none=>none
  | .fn f args H n=>match funK P G f with
    | .mk k=>k ih args H n
  | t=>stepT P G ih t
theorem taskK_eq (P:Program) (G:Nat) (ih:Ih) (t:Task):taskK P G ih t=stepT P G ih t:=by
  cases t with
  | loop r N c s =>
    obtain ⟨T,D,H,n⟩:=s
    have h1:=codK_eq P G N (.loop c)
    cases hk:codK P G N (.loop c) with
    | mk k =>
      rw [hk] at h1
      have:=h1 ih r T D H n
      simp only [CzC.f] at this
      simp only [taskK,hk,stepT,this]
      cases evC P G ih r N (.loop c) ⟨T,D,H,n⟩ with
      | none=>rfl
      | some p=>rfl
  | fn f args H n =>
    have:=funK_eq P G f ih args H n
    cases hk:funK P G f with
    | mk k =>
      rw [hk] at this
      simp only [taskK,hk]
      exact this
  | _=>rfl
def runK (P:Program) (G:Nat) (k:Nat):Ih:=Nat.rec (motive:=λ _=>Ih) (λ _=>none) (λ _ ih t=>taskK P G ih t) k
theorem runK_eq (P:Program) (G:Nat):∀ k,runK P G k=runA P G k
  | 0=>rfl
  | k+1=>by
    funext t
    show taskK P G (runK P G k) t=_
    rw [taskK_eq,runK_eq P G k]
    rfl
end
end Go.Proofs.YthoijjeddhfcnaaGreat
