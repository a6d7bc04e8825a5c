import Derived.Test.YthoijjeddhfcnaaGreatDoorZ27
import Derived.Test.YthoijjeddhfcnaaGreatDoorZ26
set_option maxHeartbeats 4000000
set_option maxRecDepth 100000
set_option linter.unusedSimpArgs false
set_option linter.unusedVariables false
namespace Go.Proofs.YthoijjeddhfcnaaGreatDoor
open Go.RowKit
noncomputable section
def Pa(P:Program)(G N:Nat)(ops:Array Oper)(o:Oper)(k:Kt)(g:Value -> Tr Value -> Tr Value):CzR:=match o.op with
 | .move x=>match cv x with
  | .mk f=>.mk (Oj k g f)
 | .assign x=>match cv x with
  | .mk f=>.mk (Oj k g f)
 | .pick c a b=>match cv c with
  | .mk f=>match cv a with
   | .mk fa=>match cv b with
    | .mk fb=>.mk (FP k g f fa fb)
 | .nilCheck x=>match cv x with
  | .mk f=>.mk (LB P G N ops o k g f)
 | .binOp op _ x y _=>match IR op with
  | some q=>match cv x with
   | .mk f1=>match cv y with
    | .mk f2=>.mk (LC P G N ops o k g q f1 f2)
  | none=>.mk (dj P G N ops o k)
 | .fieldAddr t x j=>match vM P t j with
  | some (c,_)=>match cv x with
   | .mk f=>.mk (LD k g c f)
  | none=>.mk (dj P G N ops o k)
 | .load t x=>match vL P t with
  | true=>match cv x with
   | .mk f=>.mk (O4 k g f)
  | false=>match yj P t with
   | some c=>match cv x with
    | .mk f=>.mk (O5 k g c f)
   | none=>.mk (dj P G N ops o k)
 | .alloc t=>match kj P t with
  | some z=>match ja z t with
   | .cells a b c d e=>.mk (alF k g (.cells a b c d e))
   | _=>.mk (dj P G N ops o k)
  | none=>.mk (dj P G N ops o k)
 | .indexAddr t x i=>match P.underlying t with
  | some (.slice el)=>match fe P el with
   | some c=>match cv x with
    | .mk f1=>match cv i with
     | .mk f2=>.mk (O6 k g c f1 f2)
   | none=>.mk (dj P G N ops o k)
  | _=>.mk (dj P G N ops o k)
 | .call c=>match c.callee with
  | .value (.func f)=>match pS P f with
   | true=>match ca c.args.toList with
    | .mk as=>.mk (O8 k g f as)
   | false=>.mk (dj P G N ops o k)
  | _=>.mk (dj P G N ops o k)
 | _=>.mk (dj P G N ops o k)
def Pb(P:Program)(G N:Nat)(ops:Array Oper)(o:Oper)(k:Kt):CzR:=match o.op with
 | .store t x y=>match fe P t with
  | some 1=>match cv x with
   | .mk f1=>match cv y with
    | .mk f2=>.mk (O7 P G N ops o k f1 f2)
  | _=>.mk (dj P G N ops o k)
 | .call c=>match c.callee with
  | .value (.func f)=>match pS P f with
   | true=>match ca c.args.toList with
    | .mk as=>.mk (O9 k f as)
   | false=>.mk (dj P G N ops o k)
  | _=>.mk (dj P G N ops o k)
 | _=>.mk (dj P G N ops o k)
def FS(P:Program)(G N:Nat)(ops:Array Oper)(o:Oper)(k:Kt):CzR:=match mB G o with
 | true=>match gO N o.dst with
  | .ok g=>Pa P G N ops o k g
  | .no=>Pb P G N ops o k
  | .bad=>.mk (dj P G N ops o k)
 | false=>.mk (dj P G N ops o k)
def C9(o:Oper):Oper:=⟨o.dst,o.op,o.type,o.pos,o.after,none⟩
def Pc(want:Bool)(u:Value)(x y:Option St):Option St:=match u with
 | .bool b=>match b with
  | true=>match want with
   | true=>x
   | false=>y
  | false=>match want with
   | true=>y
   | false=>x
 | .tuple _=>y
 | _=>none
def guF(want:Bool)(f:Tr Value -> Value)(h:Kt)(k:Kt)(g:Value -> Tr Value -> Tr Value)(ih:Ih)(r:Option Nat)(T:Tr Value)(D:List Deferred)(H:AH)(n:Nat):Option St:=Pc want (f T) (h ih r T D H n) (k ih r (g undef T) D H n)
def guN(want:Bool)(f:Tr Value -> Value)(h:Kt)(k:Kt)(ih:Ih)(r:Option Nat)(T:Tr Value)(D:List Deferred)(H:AH)(n:Nat):Option St:=Pc want (f T) (h ih r T D H n) (k ih r T D H n)
def LI(P:Program)(G N:Nat)(ops:Array Oper)(o:Oper)(nx:CzR):CzR:=match nx with
 | .mk k=>match o.guard with
  | none=>FS P G N ops o k
  | some (j,want)=>match (ops[j]?).bind (·.dst) with
   | some d=>match tS (pth d) with
    | .mk f=>match FS P G N ops (C9 o) k with
     | .mk h=>match gO N o.dst with
      | .ok g=>.mk (guF want f h k g)
      | .no=>.mk (guN want f h k)
      | .bad=>.mk (dj P G N ops o k)
   | none=>.mk (dj P G N ops o k)
def Cv(P:Program)(G N:Nat)(ops:Array Oper):List Oper -> CzR
 | []=>.mk λ _ _ T D H n=>some ⟨T,D,H,n⟩
 | o::l=>LI P G N ops o (Cv P G N ops l)
def FT(P:Program)(G N:Nat)(ops:Array Oper)(o:Oper)(k:Kt)(c:CzR):Prop:=∀ih r T D H n,c.f ih r T D H n=dj P G N ops o k ih r T D H n
theorem dP{P:Program}{G N:Nat}{ops:Array Oper}{o:Oper}{k:Kt}:FT P G N ops o k (.mk (dj P G N ops o k)):=λ _ _ _ _ _ _=>rfl
theorem xi{x:Operand}{f}(h:cv x=.mk f)(T:Tr Value):f T=ael T x:=by
 have:=Kh x T;rw[h] at this;exact this
theorem cam{x:List Operand}{f}(h:ca x=.mk f)(T:Tr Value):f T=mg T x:=by
 have:=Ki x T;rw[h] at this;exact this
theorem LJ{P:Program}{G N:Nat}{ops:Array Oper}{o:Oper}{k:Kt}{g}(hg:o.guard=none)(ho:mB G o=true)(hd:gO N o.dst=.ok g):FT P G N ops o k (Pa P G N ops o k g):=by
 unfold Pa
 split
 ·rename_i x hx
  split;rename_i f hf
  exact λ ih r T D H n=>Kj hg ho hd (.inl hx) (xi hf) ih r T D H n
 ·rename_i x hx
  split;rename_i f hf
  exact λ ih r T D H n=>Kj hg ho hd (.inr hx) (xi hf) ih r T D H n
 ·rename_i c a b hx
  split;rename_i f hf
  split;rename_i fa hfa
  split;rename_i fb WC
  exact λ ih r T D H n=>IV hg ho hd hx (xi hf) (xi hfa) (xi WC) ih r T D H n
 ·rename_i x hx
  split;rename_i f hf
  exact λ ih r T D H n=>LE hg ho hd hx (xi hf) ih r T D H n
 ·rename_i op t x y z hx
  split
  ·rename_i q hq
   split;rename_i f hf
   split;rename_i f2 QK
   exact λ ih r T D H n=>LF hg ho hd hx hq (xi hf) (xi QK) ih r T D H n
  ·exact dP
 ·rename_i t x j hx
  split
  ·rename_i c ft hc
   split;rename_i f hf
   exact λ ih r T D H n=>LG hg ho hd hx hc (xi hf) ih r T D H n
  ·exact dP
 ·rename_i t x hx
  split
  ·rename_i hc
   split;rename_i f hf
   exact λ ih r T D H n=>Np hg ho hd hx hc (xi hf) ih r T D H n
  ·rename_i hc
   split
   ·rename_i c ha
    split;rename_i f hf
    exact λ ih r T D H n=>Nq hg ho hd hx hc ha (xi hf) ih r T D H n
   ·exact dP
 ·rename_i t hx
  split
  ·rename_i z hz
   split
   ·rename_i a b c d e hb
    exact λ ih r T D H n=>Nr hg ho hd hx hz hb ih r T D H n
   ·exact dP
  ·exact dP
 ·rename_i t x i hx
  split
  ·rename_i el ht
   split
   ·rename_i c hc
    split;rename_i f hf
    split;rename_i f2 QK
    exact λ ih r T D H n=>Ns hg ho hd hx ht hc (xi hf) (xi QK) ih r T D H n
   ·exact dP
  ·exact dP
 ·rename_i c hx
  split
  ·rename_i f hc
   split
   ·rename_i hb
    split;rename_i as ha
    exact λ ih r T D H n=>Nv hg ho hd hx hc hb (cam ha) ih r T D H n
   ·exact dP
  ·exact dP
 ·exact dP
theorem LK{P:Program}{G N:Nat}{ops:Array Oper}{o:Oper}{k:Kt}(hg:o.guard=none)(ho:mB G o=true)(hd:gO N o.dst=.no):FT P G N ops o k (Pb P G N ops o k):=by
 unfold Pb
 split
 ·rename_i t x y hx
  split
  ·rename_i hc
   split;rename_i f hf
   split;rename_i f2 QK
   exact λ ih r T D H n=>Nt hg ho hd hx hc (xi hf) (xi QK) ih r T D H n
  ·exact dP
 ·rename_i c hx
  split
  ·rename_i f hc
   split
   ·rename_i hb
    split;rename_i as ha
    exact λ ih r T D H n=>LH hg ho hd hx hc hb (cam ha) ih r T D H n
   ·exact dP
  ·exact dP
 ·exact dP
theorem Aj{P:Program}{G N:Nat}{ops:Array Oper}{o:Oper}{k:Kt}(hg:o.guard=none):FT P G N ops o k (FS P G N ops o k):=by
 unfold FS
 split
 ·rename_i ho
  split
  ·rename_i g hd
   exact LJ hg ho hd
  ·rename_i hd
   exact LK hg ho hd
  ·exact dP
 ·exact dP
theorem ms(P:Program)(T:Tr Value)(o:Oper):f6 P T (C9 o)=f6 P T o:=by
 have e:execOp (ael T) (C9 o)=execOp (ael T) o:=by
  obtain⟨dst,op,type,pos,after,guard⟩:=o
  cases op <;> rfl
 unfold f6
 rw[e]
 rfl
theorem Cw(P:Program)(T:Tr Value)(o:Oper):gq P (C9 o) T=gq P o T:=by
 unfold gq
 simp only[ms]
 rfl
theorem Cx(P:Program)(T:Tr Value)(H:AH)(o:Oper):iW P (C9 o) T H=iW P o T H:=by
 unfold iW
 simp only[ms]
 rfl
theorem FU(P:Program)(T:Tr Value)(H:AH)(n:Nat)(o:Oper):mh P (C9 o) T H n=mh P o T H n:=by
 unfold mh
 simp only[ms]
 rfl
theorem FV(P:Program)(G:Nat)(ih:Ih)(r:Option Nat)(T:Tr Value)(H:AH)(n:Nat)(o:Oper):jx P G ih r (C9 o) T H n=jx P G ih r o T H n:=by
 unfold jx zQ
 simp only[Cw,Cx,FU]
 rfl
theorem qk{P:Program}{G N:Nat}{ops:Array Oper}{o:Oper}{k:Kt}{j:Nat}{want:Bool}(hg:o.guard=some (j,want)){d:Tmp}(hd:(ops[j]?).bind (·.dst)=some d){f:Tr Value -> Value}(hf:∀T,f T=da T d){h:Kt}(hh:∀ih r T D H n,h ih r T D H n=dj P G N ops (C9 o) k ih r T D H n)(ih r T D H n) :
  dj P G N ops o k ih r T D H n=Pc want (f T) (h ih r T D H n) (match fm N o.dst undef T with|some T=>k ih r T D H n|none=>none):=by
 rw[hh,hf]
 have e:dj P G N ops (C9 o) k ih r T D H n=match jx P G ih r o T H n with
  | none=>none
  | some (.val v H n)=>eM v λ v=>match fm N o.dst v T with
   | some T=>k ih r T D H n
   | none=>none
  | some (.dfr d)=>match fm N o.dst undef T with
   | some T=>k ih r T (d::D) H n
   | none=>none:=by
  simp only[dj,eI,C9]
  rw[<- FV P G ih r T H n o]
  rfl
 rw[e]
 simp only[dj,eI,hg,hd]
 cases da T d with
 | bool b=>cases b <;> cases want <;> rfl
 | _=>rfl
theorem LL{P:Program}{G N:Nat}{ops:Array Oper}{o:Oper}{k:Kt}:FT P G N ops o k (LI P G N ops o (.mk k)):=by
 cases hg:o.guard with
 | none=>simp only[LI,hg];exact Aj hg
 | some jw =>
  obtain⟨j,want⟩:=jw
  cases hd:(ops[j]?).bind (·.dst) with
  | none=>simp only[LI,hg,hd];exact dP
  | some d =>
   cases hf:tS (pth d) with
   | mk f=>cases hh:FS P G N ops (C9 o) k with
    | mk h =>
     have YQ:∀T,f T=da T d:=λ T=>by have:=oZ (pth d) T;rw[hf] at this;exact this
     have YP:=Aj (P:=P) (G:=G) (N:=N) (ops:=ops) (o:=C9 o) (k:=k) rfl
     rw[hh] at YP
     cases XH:gO N o.dst with
     | ok g =>
      simp only[LI,hg,hd,hf,hh,XH]
      intro ih r T D H n
      rw[qk hg hd YQ YP,z7 XH]
      rfl
     | no =>
      simp only[LI,hg,hd,hf,hh,XH]
      intro ih r T D H n
      rw[qk hg hd YQ YP,z8 XH]
      rfl
     | bad=>simp only[LI,hg,hd,hf,hh,XH];exact dP
theorem Ak(P:Program)(G N:Nat)(ops:Array Oper):∀l,CzR.okL P G N ops l (Cv P G N ops l).f
 | []=>λ ih r T D H n=>rfl
 | o::l=>by
  have h:=Ak P G N ops l
  cases hk:Cv P G N ops l with
  | mk k =>
   rw[hk] at h
   intro ih r T D H n
   simp only[Cv,hk]
   rw[LL]
   exact IQ h o ih r T D H n
def Ol(P:Program)(G N:Nat)(c:Code)(ih:Ih)(r:Option Nat)(T:Tr Value)(D:List Deferred)(H:AH)(n:Nat):Option (Ex × St):=iA P G ih r N c ⟨T,D,H,n⟩
def Nw(k:Kt)(ih:Ih)(r:Option Nat)(T:Tr Value)(D:List Deferred)(H:AH)(n:Nat):Option (Ex × St):=match k ih r T D H n with
 | some s=>some (.normal,s)
 | none=>none
abbrev Kc:=Ih -> Option Nat -> Tr Value -> List Deferred -> AH -> Nat -> Option (Ex × St)
def Pd(x:Option (Ex × St))(y:Tr Value -> List Deferred -> AH -> Nat -> Option (Ex × St)):Option (Ex × St):=match x with
 | some p=>match p with
  | (e,s)=>match e with
   | .normal=>match s with
    | ⟨T,D,H,n⟩=>y T D H n
   | .exit id=>some (.exit id,s)
   | .ret=>some (.ret,s)
 | none=>none
def Ny(a b:Kc)(ih:Ih)(r:Option Nat)(T:Tr Value)(D:List Deferred)(H:AH)(n:Nat):Option (Ex × St):=Pd (a ih r T D H n) λ T D H n=>b ih r T D H n
def Nz(u:Value)(x y:Option (Ex × St)):Option (Ex × St):=match u with
 | .bool b=>match b with
  | true=>x
  | false=>y
 | _=>none
def Kk(f:Tr Value -> Value)(a b:Kc)(ih:Ih)(r:Option Nat)(T:Tr Value)(D:List Deferred)(H:AH)(n:Nat):Option (Ex × St):=Nz (f T) (a ih r T D H n) (b ih r T D H n)
def NA(id:Nat)(x:Option (Ex × St)):Option (Ex × St):=match x with
 | some p=>match p with
  | (e,s)=>match e with
   | .exit Rl=>match Nat.beq Rl id with
    | true=>some (.normal,s)
    | false=>some (.exit Rl,s)
   | .normal=>some (.normal,s)
   | .ret=>some (.ret,s)
 | none=>none
def NB(id:Nat)(a:Kc)(ih:Ih)(r:Option Nat)(T:Tr Value)(D:List Deferred)(H:AH)(n:Nat):Option (Ex × St):=NA id (a ih r T D H n)
def NC(x:Option (Ex × St))(y:St -> Option Rs):Option (Ex × St):=match x with
 | some p=>match p with
  | (e,s)=>match e with
   | .normal=>match y s with
    | some q=>match q with
     | .cd e s=>some (e,s)
     | .fn _ _ _=>none
    | none=>none
   | .exit id=>some (.exit id,s)
   | .ret=>some (.ret,s)
 | none=>none
def ND(N:Nat)(c:Code)(a:Kc)(ih:Ih)(r:Option Nat)(T:Tr Value)(D:List Deferred)(H:AH)(n:Nat):Option (Ex × St):=NC (a ih r T D H n) λ s=>ih (.loop r N c s)
def gP(P:Program)(G N:Nat):Code -> CzC
 | .skip=>.mk λ _ _ T D H n=>some (.normal,⟨T,D,H,n⟩)
 | .label _=>.mk λ _ _ T D H n=>some (.normal,⟨T,D,H,n⟩)
 | .region id ops draw=>match draw with
  | false=>match Cv P G N ops ops.toList with
   | .mk k=>.mk (Nw k)
  | true=>.mk (Ol P G N (.region id ops true))
 | .seq a b=>match gP P G N a with
  | .mk fa=>match gP P G N b with
   | .mk fb=>.mk (Ny fa fb)
 | .cond c a b=>match cv c with
  | .mk f=>match gP P G N a with
   | .mk fa=>match gP P G N b with
    | .mk fb=>.mk (Kk f fa fb)
 | .block id c=>match gP P G N c with
  | .mk fa=>.mk (NB id fa)
 | .loop c=>match gP P G N c with
  | .mk fa=>.mk (ND N c fa)
 | .rangeFunc g ps assign body=>.mk (Ol P G N (.rangeFunc g ps assign body))
 | .exit id=>.mk λ _ _ T D H n=>some (.exit id,⟨T,D,H,n⟩)
 | .scope c=>gP P G N c
 | .goto l=>.mk (Ol P G N (.goto l))
 | .ret=>.mk λ _ _ T D H n=>some (.ret,⟨T,D,H,n⟩)
 | .refuse x=>.mk (Ol P G N (.refuse x))
def NE(P:Program)(G N:Nat)(c:Code)(f:Kc):Prop:=∀ih r T D H n,f ih r T D H n=iA P G ih r N c ⟨T,D,H,n⟩
theorem gQ(P:Program)(G N:Nat):∀c,NE P G N c (gP P G N c).f
 | .skip=>λ _ _ _ _ _ _=>rfl
 | .label _=>λ _ _ _ _ _ _=>rfl
 | .region id ops draw=>by
  cases draw with
  | true=>exact λ _ _ _ _ _ _=>rfl
  | false =>
   have h:=Ak P G N ops ops.toList
   cases hk:Cv P G N ops ops.toList with
   | mk k =>
    rw[hk] at h
    intro ih r T D H n
    simp only[gP,hk,CzC.f,Nw,iA]
    have:=h ih r T D H n
    simp only[CzR.f] at this
    rw[this]
    cases lN P G ih r N ops ops.toList ⟨T,D,H,n⟩ <;> rfl
 | .seq a b=>by
  have h1:=gQ P G N a
  have h2:=gQ P G N b
  cases ha:gP P G N a with
  | mk fa=>cases hb:gP P G N b with
   | mk fb =>
    rw[ha] at h1;rw[hb] at h2
    intro ih r T D H n
    have e1:=h1 ih r T D H n
    simp only[CzC.f] at e1
    simp only[gP,ha,hb,CzC.f,Ny,iA,e1]
    cases iA P G ih r N a ⟨T,D,H,n⟩ with
    | none=>rfl
    | some p=>obtain⟨e,s⟩:=p;cases e with
     | normal=>obtain⟨T,D,H,n⟩:=s;exact h2 ih r T D H n
     | exit id=>rfl
     | ret=>rfl
 | .cond c a b=>by
  have h1:=gQ P G N a
  have h2:=gQ P G N b
  cases hc:cv c with
  | mk f=>cases ha:gP P G N a with
   | mk fa=>cases hb:gP P G N b with
    | mk fb =>
     rw[ha] at h1;rw[hb] at h2
     intro ih r T D H n
     simp only[gP,hc,ha,hb,CzC.f,Kk,iA,xi hc]
     cases ael T c with
     | bool q=>cases q with
      | true=>exact h1 ih r T D H n
      | false=>exact h2 ih r T D H n
     | _=>rfl
 | .block id c=>by
  have h1:=gQ P G N c
  cases ha:gP P G N c with
  | mk fa =>
   rw[ha] at h1
   intro ih r T D H n
   have e1:=h1 ih r T D H n
   simp only[CzC.f] at e1
   simp only[gP,ha,CzC.f,NB,iA,e1]
   cases iA P G ih r N c ⟨T,D,H,n⟩ with
   | none=>rfl
   | some p=>obtain⟨e,s⟩:=p;cases e with
    | normal=>rfl
    | exit Rl=>simp only[NA];cases Nat.beq Rl id <;> rfl
    | ret=>rfl
 | .loop c=>by
  have h1:=gQ P G N c
  cases ha:gP P G N c with
  | mk fa =>
   rw[ha] at h1
   intro ih r T D H n
   have e1:=h1 ih r T D H n
   simp only[CzC.f] at e1
   simp only[gP,ha,CzC.f,ND,iA,e1]
   cases iA P G ih r N c ⟨T,D,H,n⟩ with
   | none=>rfl
   | some p=>obtain⟨e,s⟩:=p;cases e with
    | normal =>
     simp only[NC]
     cases ih (.loop r N c s) with
     | none=>rfl
     | some q=>cases q <;> rfl
    | exit Rl=>rfl
    | ret=>rfl
 | .rangeFunc g ps assign body=>λ _ _ _ _ _ _=>rfl
 | .exit id=>λ _ _ _ _ _ _=>rfl
 | .scope c=>by
  intro ih r T D H n
  simp only[gP,iA]
  exact gQ P G N c ih r T D H n
 | .goto l=>λ _ _ _ _ _ _=>rfl
 | .ret=>λ _ _ _ _ _ _=>rfl
 | .refuse x=>λ _ _ _ _ _ _=>rfl
def IW:List ResultVar -> Option CzA
 | []=>some (.mk λ _=>[])
 | x::l=>match x with
  | .tmp t=>match tS (pth t) with
   | .mk f=>match IW l with
    | some c=>match c with
     | .mk h=>some (.mk λ T=>f T::h T)
    | none=>none
  | .cell _ _=>none
theorem FW(P:Program)(H:AH)(T:Tr Value):∀ {l:List ResultVar} {h},IW l=some (.mk h) -> nG P T H l=some (h T)
 | [],h,e=>by simp only[IW,Option.some.injEq,CzA.mk.injEq] at e;subst e;rfl
 | .cell _ _::l,h,e=>by simp[IW] at e
 | .tmp t::l,h,e=>by
  simp only[IW] at e
  cases hf:tS (pth t) with
  | mk f =>
   rw[hf] at e
   simp only at e
   cases hl:IW l with
   | none=>rw[hl] at e;simp at e
   | some c=>cases c with
    | mk h' =>
     rw[hl] at e
     simp only[Option.some.injEq,CzA.mk.injEq] at e
     subst e
     have:=oZ (pth t) T
     rw[hf] at this
     simp only[CzV.f] at this
     simp only[nG,FW P H T hl,this]
     rfl
def LM(l:List Value):Nat -> Tr Value -> Tr Value:=List.rec (motive:=λ _=>Nat -> Tr Value -> Tr Value) (λ _ t=>t) (λ x _ ih i t=>eM x λ x=>ih (i+1) (dZ undef x (pth i) t)) l
theorem Al:∀ (l:List Value) (i:Nat) (t:Tr Value),LM l i t=dT undef l i t
 | [],i,t=>rfl
 | x::l,i,t=>by
  have:=Al l (i+1) (dZ undef x (pth i) t)
  show (eM x λ x=>LM l (i+1) (dZ undef x (pth i) t))=_
  rw[cR,this,dT]
  have e:Tr.set undef x t i=dZ undef x (pth i) t:=rfl
  rw[e]
  cases dZ undef x (pth i) t <;> rfl
def NF(h:List Value):Value:=match h with
 | []=>.tuple ⟨[]⟩
 | v::l=>match l with
  | []=>v
  | w::l=>.tuple ⟨v::w::l⟩
theorem IX(h:List Value):NF h=vV h:=by
 cases h with
 | nil=>rfl
 | cons v l=>cases l <;> rfl
def NG(P:Program)(fn:Func)(ih:Ih)(s:St):Option Rs:=match jS P ih s.D s.H s.n with
 | some (H,n)=>match nG P s.T H fn.results.toList with
  | some vs=>some (.fn (vV vs) H n)
  | none=>none
 | none=>none
def Pe(P:Program)(fn:Func)(h:Tr Value -> List Value)(ih:Ih)(s:St):Option Rs:=match s with
 | ⟨T,D,H,n⟩=>match D with
  | []=>some (.fn (NF (h T)) H n)
  | d::D=>NG P fn ih ⟨T,d::D,H,n⟩
def fnR(x:Option (Ex × St))(y:St -> Option Rs):Option Rs:=match x with
 | some p=>match p with
  | (e,s)=>match e with
   | .exit _=>none
   | .normal=>y s
   | .ret=>y s
 | none=>none
def Om(N:Nat)(k:Kc)(y:Ih -> St -> Option Rs)(ih:Ih)(args:List Value)(H:AH)(n:Nat):Option Rs:=match Nat.ble (f5 args) N with
 | true=>fnR (k ih none (LM args 0 .lf) [] H n) (y ih)
 | false=>none
def Cy(P:Program)(G:Nat)(f:FuncId):CzF:=match pW P f with
 | some (fn,c)=>match gP P G fn.ntmps c with
  | .mk k=>match IW fn.results.toList with
   | some h=>match h with
    | .mk h=>.mk (Om fn.ntmps k (Pe P fn h))
   | none=>.mk (Om fn.ntmps k (NG P fn))
 | none=>.mk λ _ _ _ _=>none
theorem LN{P:Program}{fn:Func}{h}(e:IW fn.results.toList=some (.mk h))(ih:Ih)(s:St):Pe P fn h ih s=NG P fn ih s:=by
 obtain⟨T,D,H,n⟩:=s
 cases D with
 | cons d D=>rfl
 | nil=>simp only[Pe,NG,jS,FW P H T e,IX]
theorem FX{P:Program}{G:Nat}{fn:Func}{c:Code}{f:FuncId}(hb:pW P f=some (fn,c)){k:Kc}(hk:NE P G fn.ntmps c k){y:Ih -> St -> Option Rs}(hy:∀ih s,y ih s=NG P fn ih s)(ih:Ih)(args:List Value)(H:AH)(n:Nat):Om fn.ntmps k y ih args H n=gu P G ih (.fn f args H n):=by
 simp only[Om,gu,hb]
 cases Nat.ble (f5 args) fn.ntmps with
 | false=>rfl
 | true =>
  simp only[hk ih,Al]
  rw[show dT undef args 0 .lf=lO args from rfl]
  cases iA P G ih none fn.ntmps c ⟨lO args,[],H,n⟩ with
  | none=>rfl
  | some p=>obtain⟨e,s⟩:=p;cases e with
   | exit _=>rfl
   | normal=>exact hy ih s
   | ret=>exact hy ih s
theorem IY(P:Program)(G:Nat)(f:FuncId)(ih:Ih)(args:List Value)(H:AH)(n:Nat):(Cy P G f).f ih args H n=gu P G ih (.fn f args H n):=by
 cases hb:pW P f with
 | none=>simp only[Cy,hb,CzF.f,gu]
 | some p =>
  obtain⟨fn,c⟩:=p
  have h1:=gQ P G fn.ntmps c
  cases hk:gP P G fn.ntmps c with
  | mk k =>
   rw[hk] at h1
   cases hr:IW fn.results.toList with
   | none =>
    simp only[Cy,hb,hk,hr,CzF.f]
    exact FX hb h1 (λ _ _=>rfl) ih args H n
   | some h=>cases h with
    | mk h =>
     simp only[Cy,hb,hk,hr,CzF.f]
     exact FX hb h1 (λ ih s=>LN hr ih s) ih args H n
def wA(P:Program)(G:Nat)(ih:Ih)(t:Task):Option Rs:=match t with
 | .loop r N c s=>match gP P G N (.loop c) with
  | .mk k=>match s with
   | ⟨T,D,H,n⟩=>match k ih r T D H n with
    | some p=>match p with
     | (e,s)=>some (.cd e s)
    | none=>none
 | .fn f args H n=>match Cy P G f with
  | .mk k=>k ih args H n
 | t=>gu P G ih t
theorem FY(P:Program)(G:Nat)(ih:Ih)(t:Task):wA P G ih t=gu P G ih t:=by
 cases t with
 | loop r N c s =>
  obtain⟨T,D,H,n⟩:=s
  have h1:=gQ P G N (.loop c)
  cases hk:gP P G N (.loop c) with
  | mk k =>
   rw[hk] at h1
   have:=h1 ih r T D H n
   simp only[CzC.f] at this
   simp only[wA,hk,gu,this]
   cases iA P G ih r N (.loop c) ⟨T,D,H,n⟩ with
   | none=>rfl
   | some p=>rfl
 | fn f args H n =>
  have:=IY P G f ih args H n
  cases hk:Cy P G f with
  | mk k =>
   rw[hk] at this
   simp only[wA,hk]
   exact this
 | _=>rfl
def Cz(P:Program)(G:Nat)(k:Nat):Ih:=Nat.rec (motive:=λ _=>Ih) (λ _=>none) (λ _ ih t=>wA P G ih t) k
theorem Am(P:Program)(G:Nat):∀k,Cz P G k=Fg P G k
 | 0=>rfl
 | k+1=>by
  funext t
  show wA P G (Cz P G k) t=_
  rw[FY,Am P G k]
  rfl
end
noncomputable section
def tT(ν:Nu)(h:Nat):Nat:=match ν h with
 | some (b,_)=>b
 | none=>0
def Pf(ν:Nu)(h c:Nat):Nat:=match Nat.blt c lm with
 | true=>c
 | false=>match ν h with
  | some (_,K)=>K-(c-lm)
  | none=>0
mutual
def lK(ν:Nu):Value -> Value
 | .pointer (some a)=>.pointer (some ⟨tT ν a.block,a.off,none⟩)
 | .slice (some a) n c=>.slice (some ⟨tT ν a.block,a.off,none⟩) n (Pf ν a.block c)
 | .map (some h)=>.map (some (tT ν h))
 | .iface t v=>.iface t (lK ν v)
 | .agg c=>.agg (FZ ν c)
 | .tuple c=>.tuple (FZ ν c)
 | v=>v
def FZ(ν:Nu):Array Value -> Array Value
 | ⟨l⟩=>⟨F3 ν l⟩
def F3(ν:Nu):List Value -> List Value
 | []=>[]
 | v::l=>lK ν v::F3 ν l
end
mutual
def ql:Value -> Bool
 | .iface _ v=>ql v
 | .func f a c=>pl (.func f a c)
 | .agg c=>On c
 | .tuple c=>On c
 | .chan _=>false
 | _=>true
def On:Array Value -> Bool
 | ⟨l⟩=>LO l
def LO:List Value -> Bool
 | []=>true
 | v::l=>match ql v with
  | true=>LO l
  | false=>false
end
theorem tU{ν:Nu}:∀ {l l':List Value},l.length=l'.length -> (∀ (i:Nat) (v v':Value),l[i]?=some v -> l'[i]?=some v' -> ql v=true -> v'=lK ν v) -> LO l=true -> l'=F3 ν l
 | [],[],_,_,_=>rfl
 | [],_::_,e,_,_=>by simp at e
 | _::_,[],e,_,_=>by simp at e
 | v::l,v'::l',e,h,ho=>by
  rw[LO] at ho
  cases hv:ql v with
  | false=>rw[hv] at ho;cases ho
  | true =>
   rw[hv] at ho
   have a1:=h 0 v v' rfl rfl hv
   have a2:=tU (l:=l) (l':=l') (by simpa using e) (λ i a b h1 h2=>h (i+1) a b (by simpa using h1) (by simpa using h2)) ho
   rw[F3,<- a1,<- a2]
theorem An{ν:Nu}{v v':Value}(h:VRi ν v v'):ql v=true -> v'=lK ν v:=by
 induction h with
 | atom v h =>
  intro _
  cases v with
  | pointer a=>cases a with
   | none=>rfl
   | some a=>simp[cQ] at h
  | slice a n c=>cases a with
   | none=>rfl
   | some a=>simp[cQ] at h
  | map r=>cases r with
   | none=>rfl
   | some r=>simp[cQ] at h
  | iface t v=>simp[cQ] at h
  | agg c=>simp[cQ] at h
  | tuple c=>simp[cQ] at h
  | _=>rfl
 | ptr o h=>intro _;simp[lK,tT,h]
 | @slice hd b K c c' o n h hc =>
  intro _
  simp only[lK,tT,Pf,h]
  congr 1
  cases hb:Nat.blt c lm with
  | true=>exact hc.1 (Eq.mp Nat.blt_eq hb)
  | false =>
   have h2:=hc.2 (kl hb)
   simp only
   omega
 | map h=>intro _;simp[lK,tT,h]
 | func hf e1 h1 e2 h2 _ _ =>
  intro ho
  have:=VRi.plain_eq (VRi.func hf e1 h1 e2 h2) (by simpa only[ql] using ho)
  rw[this];rfl
 | iface t _ ih=>intro ho;rw[lK,<- ih (by simpa only[ql] using ho)]
 | @agg c c' e _ ih =>
  intro ho
  obtain⟨l⟩:=c
  obtain⟨l'⟩:=c'
  simp only[List.getElem?_toArray] at ih
  rw[lK,FZ,tU (l:=l) (l':=l') e ih (by simpa only[ql,On] using ho)]
 | @tuple c c' e _ ih =>
  intro ho
  obtain⟨l⟩:=c
  obtain⟨l'⟩:=c'
  simp only[List.getElem?_toArray] at ih
  rw[lK,FZ,tU (l:=l) (l':=l') e ih (by simpa only[ql,On] using ho)]
theorem IZ{ν:Nu}{l l':List Value}(h:LR ν l l'):LO l=true -> l'=l.map (lK ν):=by
 induction h with
 | nil=>intro _;rfl
 | @cons v v' l l' h _ ih =>
  intro ho
  rw[LO] at ho
  cases hv:ql v with
  | false=>rw[hv] at ho;cases ho
  | true =>
   rw[hv] at ho
   rw[List.map_cons,An h hv,ih ho]
abbrev PB:=Nat × List Value × TypeId
def I0(H:AH)(p:PB):Bool:=match cr H p.1 with
 | some (.cells n t ty _ _)=>match Nat.beq n (f5 p.2.1),Nat.beq ty p.2.2 with
  | true,true=>match oJ (gt t 0 n) p.2.1 with
   | true=>LO p.2.1
   | false=>false
  | _,_=>false
 | _=>false
def Ao(H:AH):List PB -> Bool
 | []=>true
 | p::l=>match I0 H p with
  | true=>Ao H l
  | false=>false
def nQ(ν:Nu)(w:World)(p:PB):List Value:=match w.heap[tT ν p.1]? with
 | some (.cells c _ _)=>c.toList.drop p.2.1.length
 | _=>[]
def qm(ν:Nu)(rest:PB -> List Value)(p:PB):Nat × Blk:=(tT ν p.1,.lit (p.2.1.map (lK ν)++rest p) p.2.2 (0,0))
theorem Ap(l l':List Value)(h:oJ l l'=true):l=l':=by
 induction l generalizing l' with
 | nil=>cases l' with
  | nil=>rfl
  | cons v l'=>simp[oJ] at h
 | cons v l ih=>cases l' with
  | nil=>simp[oJ] at h
  | cons v' l' =>
   rw[oJ] at h
   cases hv:qM v v' with
   | false=>rw[hv] at h;cases h
   | true=>rw[hv] at h;rw[yE _ _ hv,ih _ h]
theorem F4{ν:Nu}{H:AH}{F:HL}{w:World}(hH:HR ν H F w){p:PB}(hc:I0 H p=true) :
  (∃K,ν p.1=some (tT ν p.1,K)) /\ (∃b,cr H p.1=some b) /\ w.heap[tT ν p.1]?=some (qm ν (nQ ν w) p).2.den:=by
 unfold I0 at hc
 split at hc
 case h_2=>cases hc
 rename_i n t ty ww ro hb
 split at hc
 case h_2=>cases hc
 rename_i e1 e2
 have e1:=Nat.eq_of_beq_eq_true e1
 have e2:=Nat.eq_of_beq_eq_true e2
 split at hc
 case h_2=>cases hc
 rename_i e3
 have e3:=Ap _ _ e3
 obtain⟨r,K,o,h1,h2,h3⟩:=hH.blk _ _ hb
 have hn:tT ν p.1=r:=by simp[tT,h1]
 have hcc:=hH.cells hb h1
 obtain⟨c,ty',fz,g1,g2⟩:=hcc
 refine⟨⟨K,by rw[hn];exact h1⟩,⟨_,hb⟩,?_⟩
 rw[hn,g1]
 have hr:=jB g2.le g2.get n 0 (by omega)
 rw[e3] at hr
 have hl:=IZ hr hc
 rw[eo] at e1
 simp only[qm,Blk.den,nQ,hn,g1,g2.ty,g2.fz,<- e2]
 congr 2
 apply Array.ext'
 simp only
 rw[<- hl,List.drop_zero,<- e1,List.take_append_drop]
def tV:List PB -> AH
 | []=>.lf
 | p::l=>c9 (tV l) p.1 (some (.cells (f5 p.2.1) (dT undef p.2.1 0 .lf) p.2.2 1 true))
def wB(tabs:List PB)(G:Nat):Nu:=λ h=>if h<G then some (h,match tabs.find? (λ p=>p.1 == h) with|some p=>p.2.1.length|none=>0) else none
def ne(p:PB):Nat × Blk:=(p.1,.lit p.2.1 p.2.2 (0,0))
def wC(G:Nat):List PB -> Bool
 | []=>true
 | p::l=>match Nat.blt p.1 G,vJ p.2.1,l.any (λ q=>q.1 == p.1) with
  | true,true,false=>wC G l
  | _,_,_=>false
end
noncomputable section
theorem Aq:∀ (tabs:List PB) (h:Nat),cr (tV tabs) h=match tabs.find? (λ p=>p.1 == h) with
  | some p=>some (.cells (f5 p.2.1) (dT undef p.2.1 0 .lf) p.2.2 1 true)
  | none=>none
 | [],h=>yr _
 | p::l,h=>by
  rw[tV,dN,Aq l h]
  by_cases e:p.1=h
  ·rw[if_pos e,List.find?_cons_of_pos (by simpa using e)]
  ·rw[if_neg e,List.find?_cons_of_neg (by simpa using e)]
theorem lA{G:Nat}:∀ {tabs:List PB},wC G tabs=true -> ∀p∈tabs,p.1<G /\ vJ p.2.1=true
 | [],_,p,hp=>by simp at hp
 | q::l,h,p,hp=>by
  rw[wC] at h
  split at h
  ·rename_i h1 h2 h3
   rcases List.mem_cons.1 hp with rfl|hp
   ·exact⟨Eq.mp Nat.blt_eq h1,h2⟩
   ·exact lA h p hp
  ·cases h
theorem Ar:∀ {l:List Value},vJ l=true -> ∀ {i:Nat} {v:Value},l[i]?=some v -> pl v=true
 | [],_,i,v,h=>by simp at h
 | x::l,hp,i,v,h=>by
  rw[vJ] at hp
  split at hp
  ·rename_i hx
   cases i with
   | zero=>simp at h;rw[<- h];exact hx
   | succ i=>exact Ar hp (by simpa using h)
  ·cases hp
theorem nR{tabs:List PB}{h:Nat}{p:PB}(e:tabs.find? (λ p=>p.1 == h)=some p):p∈tabs /\ p.1=h :=
 ⟨List.mem_of_find?_eq_some e,by simpa using List.find?_some e⟩
section
variable {tabs picks:List PB} {G:Nat} {F:HL} {w:World}
theorem LP(ht:wC G tabs=true)(hR:Rel (tabs.map ne++F) w):HR (wB tabs G) (tV tabs) F w:=by
 have key:∀h b,cr (tV tabs) h=some b -> ∃p,tabs.find? (λ p=>p.1 == h)=some p /\ b=.cells (f5 p.2.1) (dT undef p.2.1 0 .lf) p.2.2 1 true:=λ h b hb=>by
  rw[Aq] at hb
  split at hb
  ·rename_i p hp;cases hb;exact⟨p,hp,rfl⟩
  ·cases hb
 refine⟨λ h b hb=>?_,λ h₁ h₂ b₁ b₂ r K₁ K₂ _ _ e1 e2=>?_,λ x hx=>hR.holds x (List.mem_append_right _ hx),λ h b r K hb e1 x hx=>?_⟩
 ·obtain⟨p,hp,rfl⟩:=key h b hb
  obtain⟨hm,rfl⟩:=nR hp
  obtain⟨iN,DO⟩:=lA ht p hm
  refine⟨p.1,p.2.1.length,.cells ⟨p.2.1⟩ p.2.2 (0,0),by simp only[wB,if_pos iN,hp],?_,?_⟩
  ·exact hR.holds (ne p) (List.mem_append_left _ (List.mem_map.2 ⟨p,hm,rfl⟩))
  ·refine⟨rfl,by rw[eo];exact Nat.le_refl _,rfl,λ i hi=>?_,λ _=>by simp⟩
   rw[eo] at hi
   refine⟨p.2.1[i],by simp[hi],?_⟩
   rw[kO hi]
   exact VRi.plain_refl _ (Ar DO (List.getElem?_eq_getElem hi))
 ·unfold wB at e1 e2
  split at e1
  ·split at e2
   ·simp only[Option.some.injEq,Prod.mk.injEq] at e1 e2
    rw[e1.1,e2.1]
   ·cases e2
  ·cases e1
 ·obtain⟨p,hp,rfl⟩:=key h b hb
  obtain⟨hm,rfl⟩:=nR hp
  have hr:r=p.1:=by
   unfold wB at e1
   split at e1
   ·simp only[Option.some.injEq,Prod.mk.injEq] at e1;exact e1.1.symm
   ·cases e1
  intro e
  have hn:=hR.nodup
  rw[List.map_append,List.nodup_append] at hn
  exact hn.2.2 p.1 (by rw[List.map_map];exact List.mem_map.2 ⟨p,hm,rfl⟩) x.1 (List.mem_map.2 ⟨x,hx,rfl⟩) (by rw[e,hr])
def I1(H:AH)(p:PB):Bool:=match cr H p.1 with
 | some (.cells n t ty ww _)=>match Nat.beq n (f5 p.2.1),Nat.beq ty p.2.2,Nat.beq ww 1 with
  | true,true,true=>oJ (gt t 0 n) p.2.1
  | _,_,_=>false
 | _=>false
def Au(H:AH):List PB -> Bool
 | []=>true
 | p::l=>match I1 H p with
  | true=>Au H l
  | false=>false
theorem sE{H:AH}:∀ {l:List PB},Au H l=true -> ∀p∈l,I1 H p=true
 | [],_,p,hp=>by simp at hp
 | q::l,h,p,hp=>by
  rw[Au] at h
  split at h
  ·rename_i h1
   rcases List.mem_cons.1 hp with rfl|hp
   ·exact h1
   ·exact sE h p hp
  ·cases h
theorem sF{H:AH}:∀ {l:List PB},Ao H l=true -> ∀p∈l,I0 H p=true
 | [],_,p,hp=>by simp at hp
 | q::l,h,p,hp=>by
  rw[Ao] at h
  split at h
  ·rename_i h1
   rcases List.mem_cons.1 hp with rfl|hp
   ·exact h1
   ·exact sF h p hp
  ·cases h
theorem LR.plain_eq{ν:Nu}{l l':List Value}(h:LR ν l l'):vJ l=true -> l'=l:=by
 induction h with
 | nil=>intro _;rfl
 | @cons v v' l l' h _ ih =>
  intro hp
  rw[vJ] at hp
  split at hp
  ·rename_i hv;rw[VRi.plain_eq h hv,ih hp]
  ·cases hp
theorem I2{ν:Nu}{H:AH}(hH:HR ν H F w){p:PB}(hc:I1 H p=true)(hp:vJ p.2.1=true)(hν:ν p.1=some (p.1,p.2.1.length)):w.heap[p.1]?=some (ne p).2.den /\ ∃b,cr H p.1=some b:=by
 unfold I1 at hc
 split at hc
 case h_2=>cases hc
 rename_i n t ty ww ro hb
 split at hc
 case h_2=>cases hc
 rename_i e1 e2 e3
 have e1:=Nat.eq_of_beq_eq_true e1
 have e2:=Nat.eq_of_beq_eq_true e2
 have e3:=Nat.eq_of_beq_eq_true e3
 have e4:=Ap _ _ hc
 obtain⟨c,ty',fz,g1,g2⟩:=hH.cells hb hν
 refine⟨?_,_,hb⟩
 have hr:=jB g2.le g2.get n 0 (by omega)
 rw[e4] at hr
 have hl:=hr.plain_eq hp
 have Pz:=g2.gr (by omega)
 rw[e3,Nat.mul_one] at Pz
 rw[eo] at e1
 rw[g1,g2.ty,g2.fz,e2]
 simp only[ne,Blk.den]
 congr 2
 apply Array.ext'
 rw[List.drop_zero] at hl
 rw[<- hl,List.take_of_length_le]
 have:c.toList.length=c.size:=rfl
 omega
theorem qn:∀ {l:List PB},(l.map (·.1)).Nodup -> ∀ {p q:PB},p∈l -> q∈l -> q.1=p.1 -> q=p
 | [],_,p,q,hp,_,_=>by simp at hp
 | x::l,hd,p,q,hp,hq,e=>by
  simp only[List.map_cons,List.nodup_cons] at hd
  rcases List.mem_cons.1 hp with h1|h1 <;> rcases List.mem_cons.1 hq with h2|h2
  ·rw[h1,h2]
  ·exact absurd (List.mem_map.2 ⟨q,h2,by rw[e,h1]⟩) hd.1
  ·exact absurd (List.mem_map.2 ⟨p,h1,by rw[<- e,h2]⟩) hd.1
  ·exact qn hd.2 h1 h2 e
def I3(tabs picks:List PB)(v0:Value):Option Rs -> Bool
 | some (.fn v H _)=>match qM v v0,ql v0,Au H tabs with
  | true,true,true=>Ao H picks
  | _,_,_=>false
 | _=>false
theorem LR.plain_refl{ν:Nu}:∀ {l:List Value},vJ l=true -> LR ν l l
 | [],_=>.nil
 | v::l,h=>by
  rw[vJ] at h
  split at h
  ·rename_i hv;exact .cons (VRi.plain_refl v hv) (LR.plain_refl h)
  ·cases h
theorem nS{P:Program}(hm:P.follows .mixedOrders=true){k n0:Nat}{f:FuncId}{args:List Value}{v0:Value}(hG:Nat.ble G n0=true)(ht:wC G tabs=true)(ha:vJ args=true)
  (Rf:(tabs.map (·.1)++picks.map (·.1)).Nodup) (dO:I3 tabs picks v0 (Cz P G k (.fn f args (tV tabs) n0))=true) :
  Sp P f ⟨args⟩ (tabs.map ne) F λ v' H'=>∃ν rest,v'=lK ν v0 /\ H'=tabs.map ne++picks.map (qm ν rest):=by
 intro w hR
 have hG:=cg hG
 cases QH:Cz P G k (.fn f args (tV tabs) n0) with
 | none=>rw[QH] at dO;cases dO
 | some res=>cases res with
  | cd e s=>rw[QH] at dO;cases dO
  | fn v H n' =>
   rw[QH] at dO
   simp only[I3] at dO
   split at dO
   case h_2=>cases dO
   rename_i q1 q2 q3
   rw[Am] at QH
   obtain⟨hn,Qk⟩:=zZ hm k _ _ QH
   have iN:∀p∈tabs,p.1<G:=λ p hp=>(lA ht p hp).1
   refine(Qk (wB tabs G) F w args (λ k hk=>⟨_,if_pos hk⟩) (λ h h1 h2=>by simp only[wB];rw[if_neg (by omega)]) (LP ht hR) (LR.plain_refl ha)).mono ?_
   rintro e w' ⟨ν,v',rfl,hv,hext,hH,hbel⟩
   rw[yE _ _ q1] at hv
   have Zr:∀p∈tabs,ν p.1=wB tabs G p.1:=λ p hp=>hext.out _ (.inl (by have:=iN p hp;omega))
   have SQ:∀p∈tabs,ν p.1=some (p.1,p.2.1.length):=λ p hp=>by
    rw[Zr p hp]
    simp only[wB,if_pos (iN p hp)]
    congr 2
    have hd:(tabs.map (·.1)).Nodup:=(List.nodup_append.1 Rf).1
    cases hf:tabs.find? (λ q=>q.1 == p.1) with
    | none=>exact absurd (List.find?_eq_none.1 hf p hp) (by simp)
    | some q =>
     obtain⟨hq,PA⟩:=nR hf
     have:q=p:=qn hd hp hq PA
     simp[this]
   have Xb:∀p∈tabs,w'.heap[p.1]?=some (ne p).2.den /\ ∃b,cr H p.1=some b:=λ p hp=>I2 hH (sE q3 p hp) (lA ht p hp).2 (SQ p hp)
   have hpk:∀p∈picks,(∃K,ν p.1=some (tT ν p.1,K)) /\ (∃b,cr H p.1=some b) /\ w'.heap[tT ν p.1]?=some (qm ν (nQ ν w') p).2.den:=λ p hp=>F4 hH (sF dO p hp)
   refine⟨v',tabs.map ne++picks.map (qm ν (nQ ν w')),rfl,⟨ν,nQ ν w',An hv q2,rfl⟩,⟨?_,?_⟩,hbel⟩
   ·intro x hx
    rcases List.mem_append.1 hx with hx|hx
    ·rcases List.mem_append.1 hx with hx|hx
     ·obtain⟨p,hp,rfl⟩:=List.mem_map.1 hx
      exact(Xb p hp).1
     ·obtain⟨p,hp,rfl⟩:=List.mem_map.1 hx
      exact(hpk p hp).2.2
    ·exact hH.frm x hx
   ·-- the XZ blocks
    have ID:∀h∈tabs.map (·.1)++picks.map (·.1),∃K b,ν h=some (tT ν h,K) /\ cr H h=some b:=λ h hh=>by
     rcases List.mem_append.1 hh with hh|hh
     ·obtain⟨p,hp,rfl⟩:=List.mem_map.1 hh
      obtain⟨b,hb⟩:=(Xb p hp).2
      exact⟨p.2.1.length,b,by simp[tT,SQ p hp],hb⟩
     ·obtain⟨p,hp,rfl⟩:=List.mem_map.1 hh
      obtain⟨⟨K,h1⟩,⟨b,hb⟩,-⟩:=hpk p hp
      exact⟨K,b,h1,hb⟩
    have e1:(tabs.map ne++picks.map (qm ν (nQ ν w'))).map (·.1)=(tabs.map (·.1)++picks.map (·.1)).map (tT ν):=by
     simp only[List.map_append,List.map_map]
     congr 1
     apply List.map_congr_left
     intro p hp
     simp[ne,tT,SQ p hp]
    rw[List.map_append,List.nodup_append,e1]
    refine⟨?_,?_,λ a ha b hb=>?_⟩
    ·rw[List.Nodup,List.pairwise_map]
     refine(List.pairwise_iff_forall_sublist.2 λ {a b} hs=>?_)
     have ha':=ID a (hs.subset (by simp))
     have PX:=ID b (hs.subset (by simp))
     obtain⟨K1,b1,x1,x2⟩:=ha'
     obtain⟨K2,b2,y1,y2⟩:=PX
     intro e
     have hab:a=b:=hH.inj _ _ _ _ _ _ _ x2 y2 x1 (by rw[e];exact y1)
     have:=Rf.sublist hs
     simp[hab] at this
    ·have:=hR.nodup
     rw[List.map_append,List.nodup_append] at this
     exact this.2.1
    ·obtain⟨h,hh,rfl⟩:=List.mem_map.1 ha
     obtain⟨x,hx,rfl⟩:=List.mem_map.1 hb
     obtain⟨K,b,g1,g2⟩:=ID h hh
     exact(hH.apt _ _ _ _ g2 g1 x hx).symm
end
end
theorem F5{P:Program}{f:FuncId}{args:Array Value}{x:Nat × Blk}{F:HL}{Q:Value -> HL -> Prop}(hx:x∈F)(h:∀F0,Sp P f args [x] F0 λ u H'=>∃Hp,Q u Hp /\ H'=[x]++Hp):Sp P f args [] F Q:=by
 obtain⟨l1,l2,rfl⟩:=List.append_of_mem hx
 have hp:∀H:HL,([x]++H++(l1++l2)).Perm (H++(l1++x::l2)):=λ H=>by
  refine List.Perm.trans ?_ (List.Perm.append_left H List.perm_middle.symm)
  show (x::(H++(l1++l2))).Perm (H++x::(l1++l2))
  exact List.perm_middle.symm
 intro w hR
 have Ui:Rel ([x]++(l1++l2)) w:=hR.perm (by have:=hp [];simpa using this)
 refine(h (l1++l2) w Ui).mono ?_
 rintro e w' ⟨v,H',he,⟨Hp,hq,rfl⟩,Py,hb⟩
 exact⟨v,Hp,he,hq,Py.perm (hp Hp).symm,hb⟩
end Go.Proofs.YthoijjeddhfcnaaGreatDoor
