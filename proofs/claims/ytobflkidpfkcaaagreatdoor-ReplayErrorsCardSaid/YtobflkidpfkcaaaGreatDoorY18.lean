import Derived.Test.YtobflkidpfkcaaaGreatDoorY17
import Derived.Deep.AppendSrc
import Derived.Laws.AppendOwn
set_option maxHeartbeats 4000000
set_option maxRecDepth 100000
set_option linter.unusedSimpArgs false
set_option linter.unusedVariables false
namespace Go.Proofs.YtobflkidpfkcaaaGreatDoor
open Go.RowKit
section fr
variable {ν ν':Nu} {P:Program} {G N:Nat} {T T':Tr Value} {a:Act}
theorem Fx {t:TypeId} {u v u' v':Value} {r:Bool} (h:Fc u v=some r) (ht:IE P t u=true) (hu:VRi ν u u') (hv:VRi ν v v') (w:World):(Op.equal t u' v').run P w=.ok r w:=by
 show (Op.equalIn 10000 t u' v').run P w=_
 rw [show (10000:Nat)=9999+1 from rfl,Op.equalIn.eq_def]
 simp only
 unfold Fc at h
 split at h <;> first | (cases h;done) | skip
 all_goals
  cases h
  unfold IE at ht
  split at ht <;> first | (cases ht;done) | skip
  rename_i hd
  rw [Sem.run_bind,aP hd]
  simp only [Result.andThen_ok]
  cases hu <;> cases hv <;> first | rfl | (rename_i e;cases e;done) | (rename_i e1 e2;cases e1;done) | (rename_i e1 e2;cases e2;done)
theorem ui {w:World} {ρ:Operand -> Value} {o:Oper} {t el:TypeId} {x i:Operand} {b off n c j sz:Nat} {k:IntKind} (ho:o.op=.indexAddr t x i) (hx:ρ x=.slice (some ⟨b,off,none⟩) n c) (hi:ρ i=.int k (j:Int)) (ht:P.underlying t=some (.slice el)) (hj:j < n) (hs:eM P el=some sz) :
  (execOp ρ o).run P w=.ok (.value (.pointer (some ⟨b,off+j * sz,none⟩))) w:=by
 have h1:=λ W=>aP ht W
 have h2:=λ W=>d6 hs W
 have h3:(0:Int) <= (j:Int) /\ (j:Int) < (n:Int):=⟨by omega,by omega⟩
 simp [execOp,ho,Instr.indexAt,hx,hi,asIntOf,Sem.run_bind,h1,h2,hj,mz]
theorem yL {w:World} {ρ:Operand -> Value} {o:Oper} {t el:TypeId} {x i:Operand} {b off n j sz:Nat} {k:IntKind} (ho:o.op=.indexAddr t x i) (hx:ρ x=.pointer (some ⟨b,off,none⟩)) (hi:ρ i=.int k (j:Int)) (ht:P.underlying t=some (.array n el)) (hj:j < n) (hs:eM P el=some sz) :
  (execOp ρ o).run P w=.ok (.value (.pointer (some ⟨b,off+j * sz,none⟩))) w:=by
 have h1:=λ W=>aP ht W
 have h2:=λ W=>d6 hs W
 simp [execOp,ho,Instr.indexAt,Instr.sureAddr,hx,hi,asIntOf,Sem.run_bind,h1,h2,hj,mz]
theorem yM {w:World} {ρ:Operand -> Value} {o:Oper} {t el:TypeId} {x i:Operand} {cs:Array Value} {n j sz:Nat} {k:IntKind} {v:Value} (ho:o.op=.index t x i) (hx:ρ x=.agg cs) (hi:ρ i=.int k (j:Int)) (ht:P.underlying t=some (.array n el)) (hj:j < n) (hs:eM P el=some sz) (hp:nv P el cs.toList (j * sz)=some v) :
  (execOp ρ o).run P w=.ok (.value v) w:=by
 have h1:=λ W=>aP ht W
 have h2:=λ W=>d6 hs W
 have h3:=sS hp
 simp [execOp,ho,Instr.index,hx,hi,asIntOf,Sem.run_bind,h1,h2,h3,hj]
theorem Fy {w:World} {ρ:Operand -> Value} {o:Oper} {t:TypeId} {x:Operand} {n:Nat} (ho:o.op=.call { callee:=.builtin .len,args:=#[x],argTypes:=#[t] }) (hl:yC P t (ρ x)=some n):(execOp ρ o).run P w=.ok (.value (.int .i64 (n:Int))) w:=by
 unfold yC at hl
 split at hl
 case h_3=>cases hl
 all_goals
  rename_i hu hx
  cases hl
  have h1:=λ W=>aP hu W
  simp [execOp,ho,resolve,invoke,builtin,Builtin.len_,hx,Sem.run_bind,h1,goInt]
theorem Fz {t:TypeId} {v v':Value} {n:Nat} (hr:VRi ν v v') (h:yC P t v=some n):yC P t v'=some n:=by
 cases hr with
 | atom v _=>exact h
 | slice o n h1 c =>
  unfold yC at h ⊢
  cases hu:P.underlying t with
  | none=>simp [hu] at h
  | some d=>rw [hu] at h;cases d <;> simp at h ⊢;exact h
 | _ =>
  unfold yC at h
  cases hu:P.underlying t with
  | none=>simp [hu] at h
  | some d=>rw [hu] at h;cases d <;> simp at h
theorem wC {w:World} {ρ:Operand -> Value} {o:Oper} {op:BinOp} {t ty:TypeId} {x y:Operand} {u v:Value} {r:Bool} (ho:o.op=.binOp op t x y ty) (hx:VRi ν u (ρ x)) (hy:VRi ν v (ρ y)) (hr:Fc u v=some r) (ht:IE P t u=true) :
  (op=.eql -> (execOp ρ o).run P w=.ok (.value (.bool r)) w) /\ (op=.neq -> (execOp ρ o).run P w=.ok (.value (.bool (!r))) w):=by
 have q:=Fx hr ht hx hy w
 generalize hu:ρ x=u' at *
 generalize hv:ρ y=v' at *
 unfold Fc at hr
 split at hr <;> first | (cases hr;done) | skip
 all_goals
  cases hx <;> cases hy <;> refine ⟨λ e=>?_,λ e=>?_⟩ <;> subst e <;> simp [execOp,ho,hu,hv,eqGuard,Go.binOp,Sem.run_bind,q,cE,Result.andThen]
theorem wD {o:Oper} {v:Value} (h:gw P o T=some v) {l:List Operand} (hl:cf o.op=some l) (hok:OK ν T a l):∃ v',VRi ν v v' /\ ∀ w,(execOp a.eval o).run P w=.ok (.value v') w:=by
 have hpl:fX P T o=some v -> ∃ v',VRi ν v v' /\ ∀ w,(execOp a.eval o).run P w=.ok (.value v') w:=λ h=>od h hl hok
 unfold gw at h
 split at h
 ·rename_i x ho
  rw [ho] at hl;simp only [cf,Option.some.injEq] at hl;subst hl
  cases h
  exact ⟨_,hok x (by simp),λ w=>by simp [execOp,ho,pure,Sem.run]⟩
 ·rename_i x ho
  rw [ho] at hl;simp only [cf,Option.some.injEq] at hl;subst hl
  cases h
  exact ⟨_,hok x (by simp),λ w=>by simp [execOp,ho,pure,Sem.run]⟩
 ·rename_i c x y ho
  rw [ho] at hl;simp only [cf,Option.some.injEq] at hl;subst hl
  have hc:=hok c (by simp)
  split at h
  ·rename_i e
   cases h
   rw [e] at hc
   have e':=hc.plain_eq rfl
   exact ⟨_,hok x (by simp),λ w=>by simp [execOp,ho,e',asBool,Sem.run_bind,pure,Sem.run,Result.andThen]⟩
  ·rename_i e
   cases h
   rw [e] at hc
   have e':=hc.plain_eq rfl
   exact ⟨_,hok y (by simp),λ w=>by simp [execOp,ho,e',asBool,Sem.run_bind,pure,Sem.run,Result.andThen]⟩
  ·cases h
 ·rename_i t parts ho
  rw [ho] at hl;simp only [cf,Option.some.injEq] at hl;subst hl
  obtain ⟨v',r,e⟩:=CB h (qM hok)
  refine ⟨v',r,λ w=>?_⟩
  have:=e w
  have e2:(parts.map λ (p:Nat × Operand)=>(p.1,a.eval p.2))=⟨parts.toList.map λ p=>(p.1,a.eval p.2)⟩:=by apply Array.ext';simp
  simp only [execOp,ho,Sem.run_bind]
  rw [e2,this]
  rfl
 ·rename_i x ho
  rw [ho] at hl;simp only [cf,Option.some.injEq] at hl;subst hl
  have hx:=hok x (by simp)
  split at h
  ·rename_i ad e
   cases h
   rw [e] at hx
   refine ⟨_,hx,λ w=>?_⟩
   generalize hu:a.eval x=u at hx
   cases hx with
   | atom _ h=>simp [cz] at h
   | ptr o h=>simp [execOp,ho,hu,pure,Sem.run,bind,Sem.bind]
  ·rename_i f first captured e
   cases h
   rw [e] at hx
   refine ⟨_,hx,λ w=>?_⟩
   generalize hu:a.eval x=u at hx
   cases hx with
   | atom _ h=>simp [cz] at h
   | func hf _ _ _ _=>cases hf;simp [execOp,ho,hu,pure,Sem.run,bind,Sem.bind]
  ·rename_i t v e
   cases h
   rw [e] at hx
   refine ⟨_,hx,λ w=>?_⟩
   generalize hu:a.eval x=u at hx
   cases hx with
   | atom _ h=>simp [cz] at h
   | iface t hf=>simp [execOp,ho,hu,pure,Sem.run,bind,Sem.bind]
  ·cases h
 ·rename_i op t x y ty ho
  have hx:=hok x (by rw [ho] at hl;simp only [cf,Option.some.injEq] at hl;subst hl;simp)
  have hy:=hok y (by rw [ho] at hl;simp only [cf,Option.some.injEq] at hl;subst hl;simp)
  split at h
  ·rename_i k m k' n ex ey
   rw [ex] at hx;rw [ey] at hy
   have ex':=hx.plain_eq rfl
   have ey':=hy.plain_eq rfl
   split at h
   ·rename_i r hr
    split at h
    ·rename_i hk
     cases h
     have hk':k=k':=of_decide_eq_true hk
     subst hk'
     exact ⟨_,.atom _ rfl,λ w=>Fw ho ex' ey' hr⟩
    ·cases h
   ·exact hpl h
  ·split at h
   ·rename_i r hr
    split at h
    ·rename_i ht
     cases h
     exact ⟨_,.atom _ rfl,λ w=>(wC ho hx hy hr ht).1 rfl⟩
    ·rename_i ht
     cases h
     exact ⟨_,.atom _ rfl,λ w=>(wC ho hx hy hr ht).2 rfl⟩
    ·cases h
   ·exact hpl h
 ·rename_i t x ho
  rw [ho] at hl;simp only [cf,Option.some.injEq] at hl;subst hl
  have hx:=hok x (by simp)
  split at h
  ·cases h
  ·rename_i d hd hu
   cases h
   refine ⟨_,.iface t hx,λ w=>?_⟩
   simp only [execOp,ho,Instr.makeInterface,Sem.run_bind,aP hu,Result.andThen_ok]
   cases d <;> first | rfl | exact (hd _ hu).elim
  ·cases h
 ·rename_i fn first captured ho
  rw [ho] at hl;simp only [cf,Option.some.injEq] at hl;subst hl
  split at h
  ·rename_i f
   cases h
   have h1:=kS (ν:=ν) (T:=T) (a:=a) (l:=first.toList) (λ x hx=>hok x (List.mem_append_left _ hx))
   have h2:=kS (ν:=ν) (T:=T) (a:=a) (l:=captured.toList) (λ x hx=>hok x (List.mem_append_right _ hx))
   have e1:first.map a.eval=⟨first.toList.map a.eval⟩:=by apply Array.ext';simp
   have e2:captured.map a.eval=⟨captured.toList.map a.eval⟩:=by apply Array.ext';simp
   refine ⟨.func (.func f) (first.map a.eval) (captured.map a.eval),by rw [e1,e2];exact .func_of (.func f) h1 h2,λ w=>?_⟩
   simp [execOp,ho,Instr.makeFunc,pure,Sem.run,bind,Sem.bind]
  ·cases h
 ·rename_i t x j ho
  rw [ho] at hl;simp only [cf,Option.some.injEq] at hl;subst hl
  have hx:=hok x (by simp)
  split at h
  ·rename_i ad k ft e hf
   cases h
   rw [e] at hx
   generalize hu:a.eval x=u at hx
   cases hx with
   | atom _ h=>simp [cz] at h
   | ptr o h =>
    refine ⟨_,?_,λ w=>yJ ho hu hf⟩
    rw [nA,mz]
    exact .ptr _ h
  ·cases h
 ·rename_i t x j ho
  rw [ho] at hl;simp only [cf,Option.some.injEq] at hl;subst hl
  have hx:=hok x (by simp)
  split at h
  ·rename_i cs k ft e hf
   rw [e] at hx
   generalize hu:a.eval x=u at hx
   cases hx with
   | atom _ h=>simp [cz] at h
   | agg he hg =>
    obtain ⟨v',e1,r⟩:=sT (LR.of_arr he hg) h
    exact ⟨v',r,λ w=>yK ho hu hf e1⟩
  ·cases h
 ·rename_i t x i ho
  rw [ho] at hl;simp only [cf,Option.some.injEq] at hl;subst hl
  have hx:=hok x (by simp)
  have hi:=hok i (by simp)
  split at h
  ·rename_i el ad n c j ht e ei
   split at h
   ·rename_i k hj hs
    cases h
    rw [e] at hx
    obtain ⟨kk,ej⟩:=mA ei hi
    generalize hu:a.eval x=u at hx
    cases hx with
    | atom _ h=>simp [cz] at h
    | slice o n h hc =>
     refine ⟨_,?_,λ w=>ui ho hu ej ht (dE hj) hs⟩
     rw [nA]
     exact .ptr _ h
   ·cases h
  ·rename_i n el ad j ht e ei
   split at h
   ·rename_i k hj hs
    cases h
    rw [e] at hx
    obtain ⟨kk,ej⟩:=mA ei hi
    generalize hu:a.eval x=u at hx
    cases hx with
    | atom _ h=>simp [cz] at h
    | ptr o h =>
     refine ⟨_,?_,λ w=>yL ho hu ej ht (dE hj) hs⟩
     rw [nA]
     exact .ptr _ h
   ·cases h
  ·cases h
 ·rename_i t x i ho
  have hx:=hok x (by rw [ho] at hl;simp only [cf,Option.some.injEq] at hl;subst hl;simp)
  have hi:=hok i (by rw [ho] at hl;simp only [cf,Option.some.injEq] at hl;subst hl;simp)
  split at h
  ·rename_i n el cs j ht e ei
   split at h
   ·rename_i k hj hs
    rw [e] at hx
    obtain ⟨kk,ej⟩:=mA ei hi
    generalize hu:a.eval x=u at hx
    cases hx with
    | atom _ h=>simp [cz] at h
    | agg he hg =>
     obtain ⟨v',e1,r⟩:=sT (LR.of_arr he hg) h
     exact ⟨v',r,λ w=>yM ho hu ej ht (dE hj) hs e1⟩
   ·cases h
  ·exact hpl h
 ·rename_i x i ho
  rw [ho] at hl;simp only [cf,Option.some.injEq] at hl;subst hl
  have hx:=hok x (by simp)
  split at h
  ·rename_i cs e
   rw [e] at hx
   generalize hu:a.eval x=u at hx
   cases hx with
   | atom _ h=>simp [cz] at h
   | @tuple _ c' he hg =>
    rw [j7] at h
    obtain ⟨v',e1,r⟩:=(LR.of_arr he hg).get h
    refine ⟨v',r,λ w=>?_⟩
    have e2:c'[i]?=some v':=by simpa using e1
    simp [execOp,ho,hu,Instr.extract,e2,Sem.run_bind,cE,Result.andThen]
  ·cases h
 ·rename_i c ho
  split at h
  ·rename_i x t hq
   unfold KZ at hq
   split at hq
   case h_2=>cases hq
   rename_i y u
   have hyx:y=x /\ u=t:=by
    split at hq <;> first | (cases hq;exact ⟨rfl,rfl⟩) | cases hq
   obtain ⟨rfl,rfl⟩:=hyx
   have hx:=hok y (by rw [ho] at hl;simp only [cf,Option.some.injEq] at hl;subst hl;simp)
   split at h
   ·rename_i n hn
    cases h
    exact ⟨_,.atom _ rfl,λ w=>Fy ho (Fz hx hn)⟩
   ·cases h
  ·exact hpl h
 ·exact hpl h
end fr
inductive ER (ν:Nu):List (Value × Value × Nat) -> List MapEntry -> Prop
 | nil:ER ν [] []
 | cons {v v':Value} {l:List (Value × Value × Nat)} {l':List MapEntry} (k:Value) (b:Nat):VRi ν v v' -> ER ν l l' -> ER ν ((k,v,b) :: l) (⟨k,v',b⟩ :: l')
structure CR (ν:Nu) (K n:Nat) (t:Tr Value) (ty:TypeId) (w:Nat) (c:Array Value) (ty':TypeId) (fz:Nat × Nat):Prop where
 ty:ty'=ty
 le:n <= c.size
 fz:fz=(0,0)
 get:∀ i,i < n -> ∃ v',c[i]?=some v' /\ VRi ν (cQ t i) v'
 gr:w ≠ 0 -> c.size=K * w
def OR (ν:Nu) (K:Nat):AB -> Obj -> Prop
 | .cells n t ty w _,.cells c ty' fz=>CR ν K n t ty w c ty' fz
 | .map es clock,.map es' clock'=>clock'=clock /\ ER ν es es'.toList
 | .loop st pend T N ps as bo d,.loop r=>r.state=st /\ r.pending=pend /\ TRel ν N T r.tmps /\ r.params=ps /\ r.assign=as /\ r.body=bo /\ ∃ K',ν d=some (r.defers,K')
 | .dfr shut,.deferred c=>c=(match shut with | true=>none | false=>some [])
 | _,_=>False
def FB:AB -> Bool
 | .cells _ _ _ _ ro=>!ro
 | _=>true
structure HR (ν:Nu) (H:AH) (F:HL) (w:World):Prop where
 blk:∀ h b,bO H h=some b -> ∃ r K o,ν h=some (r,K) /\ w.heap[r]?=some o /\ OR ν K b o
 inj:∀ h₁ h₂ b₁ b₂ r K₁ K₂,bO H h₁=some b₁ -> bO H h₂=some b₂ -> ν h₁=some (r,K₁) -> ν h₂=some (r,K₂) -> h₁=h₂
 frm:∀ x ∈ F,w.heap[x.1]?=some x.2.den
 apt:∀ h b r K,bO H h=some b -> ν h=some (r,K) -> ∀ x ∈ F,x.1 ≠ r
section hp
variable {ν ν':Nu} {P:Program} {G N:Nat} {T T':Tr Value} {a:Act} {H:AH} {F:HL} {w:World}
theorem ER.mono {l:List (Value × Value × Nat)} {l':List MapEntry} (h:ER ν l l') (hl:ν.Le ν'):ER ν' l l':=by
 induction h with
 | nil=>exact .nil
 | cons k b hv _ ih=>exact .cons k b (hv.mono hl) ih
theorem OR.mono {K:Nat} {b:AB} {o:Obj} (h:OR ν K b o) (hl:ν.Le ν'):OR ν' K b o:=by
 unfold OR at h ⊢
 split at h
 ·exact ⟨h.ty,h.le,h.fz,λ i hi=>let ⟨v',e,r⟩:=h.get i hi;⟨v',e,r.mono hl⟩,h.gr⟩
 ·exact ⟨h.1,h.2.mono hl⟩
 ·obtain ⟨h1,h2,h3,h4,h5,h6,K',h7⟩:=h
  exact ⟨h1,h2,h3.mono hl,h4,h5,h6,K',hl _ _ h7⟩
 ·exact h
 ·exact h.elim
theorem HR.lt (h:HR ν H F w) {k r K:Nat} {b:AB} (hk:bO H k=some b) (hr:ν k=some (r,K)):r < w.heap.size:=by
 obtain ⟨r',K',o,h1,h2,-⟩:=h.blk k b hk
 rw [hr] at h1
 cases h1
 exact de h2
theorem HR.cells (h:HR ν H F w) {k n ww:Nat} {t:Tr Value} {ty:TypeId} {ro:Bool} {r K:Nat} (hk:bO H k=some (.cells n t ty ww ro)) (hr:ν k=some (r,K)):∃ c ty' fz,w.heap[r]?=some (.cells c ty' fz) /\ CR ν K n t ty ww c ty' fz:=by
 obtain ⟨r',K',o,h1,h2,h3⟩:=h.blk _ _ hk
 rw [hr] at h1
 cases h1
 unfold OR at h3
 split at h3
 ·rename_i e1;cases e1;exact ⟨_,_,_,h2,h3⟩
 ·rename_i e1;cases e1
 ·rename_i e1;cases e1
 ·rename_i e1;cases e1
 ·exact h3.elim
theorem HR.map (h:HR ν H F w) {k cl:Nat} {es:List (Value × Value × Nat)} {r K:Nat} (hk:bO H k=some (.map es cl)) (hr:ν k=some (r,K)):∃ es',w.heap[r]?=some (.map es' cl) /\ ER ν es es'.toList:=by
 obtain ⟨r',K',o,h1,h2,h3⟩:=h.blk _ _ hk
 rw [hr] at h1
 cases h1
 unfold OR at h3
 split at h3
 ·rename_i e1;cases e1
 ·rename_i e1;cases e1;obtain ⟨e,h4⟩:=h3;subst e;exact ⟨_,h2,h4⟩
 ·rename_i e1;cases e1
 ·rename_i e1;cases e1
 ·exact h3.elim
theorem ln {c:Array Value} {ty:TypeId} {fz:Nat × Nat} {b i:Nat} (h:w.heap[b]?=some (.cells c ty fz)):w.cell? ⟨b,i,none⟩=c[i]?:=by
 simp [World.cell?,h]
theorem jL {c:Array Value} {n:Nat} {t:Tr Value} (hle:n <= c.size) (hg:∀ i,i < n -> ∃ v',c[i]?=some v' /\ VRi ν (cQ t i) v'):∀ (k i:Nat),i+k <= n -> LR ν (gx t i k) ((c.toList.drop i).take k)
 | 0,i,_=>by simp only [gx,List.take_zero];exact .nil
 | k+1,i,h=>by
  obtain ⟨v',e,r⟩:=hg i (by omega)
  have hlt:i < c.toList.length:=by simp;omega
  rw [List.drop_eq_getElem_cons hlt,List.take_succ_cons]
  have:c.toList[i]=v':=by
   have:=(Array.getElem?_eq_some_iff.1 e).2
   simpa using this
  rw [this]
  exact .cons r (jL hle hg k (i+1) (by omega))
theorem lX {b off:Nat}:∀ (vs:List Value) (i:Nat) (acc:Array Value),(∀ j (hj:j < vs.length),w.cell? ⟨b,off+(i+j),none⟩=some vs[j]) -> (loadCellsFrom ⟨b,off,none⟩ i vs.length acc).run P w=.ok (acc++⟨vs⟩) w
 | [],i,acc,_=>by simp [loadCellsFrom,cE]
 | v :: vs,i,acc,h=>by
  rw [List.length_cons,loadCellsFrom,Sem.run_bind]
  have h0:=h 0 (by simp)
  simp only [Nat.add_zero,List.getElem_cons_zero] at h0
  have h1:(load ((⟨b,off,none⟩:Addr).add i)).run P w=.ok v w:=by
   rw [mz]
   unfold load
   rw [Sem.run,h0]
   rfl
  rw [h1]
  simp only [Result.andThen_ok]
  rw [lX vs (i+1) _ (λ j hj=>by
   have:=h (j+1) (by simp;omega)
   simp only [List.getElem_cons_succ] at this
   rw [<- this];congr 2;omega)]
  simp
theorem wE {t:TypeId} {b off n:Nat} {c:Array Value} {ty:TypeId} {fz:Nat × Nat} {tr:Tr Value} {v:Value} (hw:w.heap[b]?=some (.cells c ty fz)) (hle:n <= c.size) (hg:∀ i,i < n -> ∃ v',c[i]?=some v' /\ VRi ν (cQ tr i) v')
  (h:(match wc P t with
   | true=>match Nat.blt off n with
    | true=>some (cQ tr off)
    | false=>none
   | false=>match yz P t with
    | some k=>match Nat.ble (off+k) n with
     | true=>some (.agg ⟨gx tr off k⟩)
     | false=>none
    | none=>none)=some v):∃ v',VRi ν v v' /\ (loadVar t ⟨b,off,none⟩).run P w=.ok v' w:=by
 split at h
 ·rename_i h1
  split at h
  ·rename_i hlt
   cases h
   obtain ⟨v',e,r⟩:=hg off (dE hlt)
   refine ⟨v',r,?_⟩
   unfold loadVar
   rw [Sem.run_bind,wA h1]
   simp only [Result.andThen_ok,Bool.false_eq_true,if_false]
   unfold load
   rw [Sem.run,ln hw,e]
   rfl
  ·cases h
 ·split at h
  ·rename_i k hk
   split at h
   ·rename_i hlt
    cases h
    obtain ⟨h1,h2,h3⟩:=wB hk
    have hle2:=Nat.le_of_ble_eq_true hlt
    have hl:=jL hle hg k off hle2
    refine ⟨.agg ⟨(c.toList.drop off).take k⟩,.agg_of hl,?_⟩
    have hlen:((c.toList.drop off).take k).length=k:=by simp;omega
    unfold loadVar
    rw [Sem.run_bind,h1]
    simp only [Result.andThen_ok,if_true]
    rw [Sem.run_bind,h2]
    simp only [Result.andThen_ok]
    rw [Sem.run_bind]
    unfold loadCells
    have:=lX (P:=P) (w:=w) (b:=b) (off:=off) ((c.toList.drop off).take k) 0 #[] (λ j hj=>by
     rw [ln hw]
     have hj2:off+(0+j) < c.size:=by rw [hlen] at hj;omega
     rw [Array.getElem?_eq_getElem hj2]
     simp)
    rw [hlen] at this
    rw [this]
    simp [Result.andThen,cE]
   ·cases h
  ·cases h
theorem wF {t:TypeId} {ad ad':Addr} {v:Value} (hH:HR ν H F w) (hp:VRi ν (.pointer (some ad)) (.pointer (some ad'))) (h:sL P t H ad=some v):∃ v',VRi ν v v' /\ (loadVar t ad').run P w=.ok v' w:=by
 cases hp with
 | atom _ h=>simp [cz] at h
 | @ptr hd b K o hν =>
  unfold sL at h
  split at h
  case h_2=>cases h
  rename_i n tr ty ww ro hs hb
  simp only at hb h
  obtain ⟨c,ty',fz,hw,hc⟩:=hH.cells hb hν
  exact wE hw hc.le hc.get h
def uj:TypeDesc -> Value -> Bool
 | .int _,.int _ _=>true
 | .string,.string _=>true
 | .bool,.bool _=>true
 | _,_=>false
theorem yN {t:TypeId} {k:Value} (h:Ff P t k=true):∃ d,P.underlying t=some d /\ uj d k=true:=by
 unfold Ff at h
 split at h <;> first | (cases h;done) | (rename_i e;exact ⟨_,e,rfl⟩)
theorem qN {d:TypeDesc} {k:Value} (h:uj d k=true):pl k=true /\ cz k=true:=by
 unfold uj at h
 split at h <;> first | (cases h;done) | exact ⟨rfl,rfl⟩
theorem fZ {d:TypeDesc} {k k':Value} {r:Bool} (h:kR k k'=some r) (hk:uj d k=true):Instr.sameNow d k k'=some r:=by
 unfold uj at hk
 split at hk <;> first | (cases hk;done) | skip
 ·rename_i k1 k2 n1
  cases k' with
  | int k3 n2 =>
   unfold kR at h
   by_cases e:k2=k3
   ·simp only [e,decide_true] at h
    cases h
    simp [Instr.sameNow,e]
   ·simp [e] at h
  | _=>simp [kR] at h
 ·cases k' with
  | string s2=>unfold kR at h;cases h;rfl
  | _=>simp [kR] at h
 ·cases k' with
  | bool s2=>unfold kR at h;cases h;rfl
  | _=>simp [kR] at h
theorem fK {t:TypeId} {k:Value} (h:Ff P t k=true) (e:Bool) (w:World):(Instr.checkKey e 10000 t k).run P w=.ok () w:=by
 obtain ⟨d,hd,hk⟩:=yN h
 rw [show (10000:Nat)=9999+1 from rfl,Instr.checkKey.eq_def]
 simp only
 rw [Sem.run_bind,aP hd]
 unfold uj at hk
 split at hk <;> first | (cases hk;done) | rfl
theorem sU {d:TypeDesc} {k:Value} (hk:uj d k=true) {es:List (Value × Value × Nat)} {es':List MapEntry} (h:ER ν es es'):∀ {r:Option Value} (i:Nat),wh k es=some r ->
  (r=none /\ Instr.findNow d k es' i=some none) \/ (∃ v v' j,r=some v /\ VRi ν v v' /\ Instr.findNow d k es' i=some (some (j,v'))):=by
 induction h with
 | nil=>intro r i h;rw [wh] at h;cases h;exact .inl ⟨rfl,rfl⟩
 | cons k' b hv _ ih =>
  intro r i h
  rw [wh] at h
  split at h
  ·rename_i e
   cases h
   exact .inr ⟨_,_,i,rfl,hv,by rw [Instr.findNow];simp only [fZ e hk]⟩
  ·rename_i e
   rcases ih (i+1) h with ⟨h1,h2⟩ | ⟨v,v',j,h1,h2,h3⟩
   ·exact .inl ⟨h1,by rw [Instr.findNow];simp only [fZ e hk];exact h2⟩
   ·exact .inr ⟨v,v',j,h1,h2,by rw [Instr.findNow];simp only [fZ e hk];exact h3⟩
  ·cases h
theorem sV {t:TypeId} {z:Value} (h:Ad P t=some z) (w:World):(zeroValue t).run P w=.ok z w /\ pl z=true:=by
 unfold Ad at h
 split at h
 case h_2=>cases h
 rename_i i hi
 split at h
 case h_2=>cases h
 rename_i zv hz
 split at h
 case h_2=>cases h
 rename_i hp
 cases h
 refine ⟨?_,hp⟩
 unfold zeroValue
 rw [Sem.run_bind,dX hi]
 simp only [Result.andThen_ok,hz]
 rfl
theorem og {ok b:Bool} {v v':Value} (h:VRi ν v v'):VRi ν (Ae ok v b) (if ok=true then .tuple #[v',.bool b] else v'):=by
 cases ok with
 | true=>exact .tuple_of (.cons h (.cons (.atom _ rfl) .nil))
 | false=>exact h
theorem FC {t:TypeId} {m m' k:Value} {ok:Bool} {v:Value} (hH:HR ν H F w) (hm:VRi ν m m') (h:Fg P t H m k ok=some v):pl k=true /\ ∃ v',VRi ν v v' /\ (Instr.lookup t m' k ok).run P w=.ok v' w:=by
 unfold Fg at h
 split at h
 case h_2=>cases h
 rename_i kt et hu
 split at h
 case h_2=>cases h
 rename_i hk
 obtain ⟨d,hd,hkd⟩:=yN hk
 have hf:∀ es,(∀ r,Instr.findNow d k es 0=some r -> (Instr.findKey kt k es).run P w=.ok r w):=λ es r hr=>by
  unfold Instr.findKey
  rw [Sem.run_bind,aP hd]
  simp only [Result.andThen_ok,hr]
  rfl
 refine ⟨(qN hkd).1,?_⟩
 split at h
 ·split at h
  ·rename_i z hz
   cases h
   cases hm
   obtain ⟨h1,h2⟩:=sV hz w
   refine ⟨_,og (.plain_refl _ h2),?_⟩
   unfold Instr.lookup
   rw [Sem.run_bind,aP hu]
   simp only [Result.andThen_ok,Sem.run_bind,cE,fK hk,hf [] none rfl,h1]
   try (cases ok <;> rfl)
  ·cases h
 ·rename_i r
  split at h
  ·rename_i es cl hb
   cases hm with
   | atom _ h=>simp [cz] at h
   | @map _ b K hν =>
   obtain ⟨es',hw,hE⟩:=hH.map hb hν
   have hg:(getObj b).run P w=.ok (.map es' cl) w:=me hw
   split at h
   ·rename_i v0 hfi
    cases h
    rcases sU hkd hE 0 hfi with ⟨h1,h2⟩ | ⟨v1,v',j,h1,h2,h3⟩
    ·cases h1
    ·cases h1
     refine ⟨_,og h2,?_⟩
     unfold Instr.lookup
     rw [Sem.run_bind,aP hu]
     simp only [Result.andThen_ok,Sem.run_bind,hg,cE,fK hk,hf _ _ h3]
     try (cases ok <;> rfl)
   ·rename_i hfi
    split at h
    ·rename_i z hz
     cases h
     obtain ⟨h1,h2⟩:=sV hz w
     rcases sU hkd hE 0 hfi with ⟨h3,h4⟩ | ⟨v1,v',j,h3,h4,h5⟩
     ·refine ⟨_,og (.plain_refl _ h2),?_⟩
      unfold Instr.lookup
      rw [Sem.run_bind,aP hu]
      simp only [Result.andThen_ok,Sem.run_bind,hg,cE,fK hk,hf _ _ h4,h1]
      try (cases ok <;> rfl)
     ·cases h3
    ·cases h
   ·cases h
  ·cases h
 ·cases h
end hp
section sl
variable {ν ν':Nu} {P:Program} {G N:Nat} {T T':Tr Value} {a:Act} {H:AH} {F:HL} {w:World}
def K6 (x:Option Value) (n d:Nat):Prop:=(x=none /\ n=d) \/ ∃ k,x=some (.int k (n:Int))
theorem qO {k:IntKind} {n y:Nat} {c:BoundsCode} (h:n <= y) (w:World):(Instr.sliceBound (.int k (n:Int)) y c).run P w=.ok n w:=by
 simp [Instr.sliceBound,asIntOf,h,go_sem]
theorem mB {b:Bool} {len cap l h m:Nat} {lo hi mx:Option Value} (o1:K6 lo l 0) (o2:K6 hi h len) (o3:K6 mx m cap) (hm:mx=none \/ hi ≠ none) (h1:l <= h) (h2:h <= m) (h3:m <= cap) (w:World) :
  (Instr.sliceBounds b len cap lo hi mx).run P w=.ok (l,h,m) w:=by
 unfold Instr.sliceBounds
 rcases o1 with ⟨rfl,rfl⟩ | ⟨k1,rfl⟩ <;> rcases o2 with ⟨rfl,rfl⟩ | ⟨k2,rfl⟩ <;> rcases o3 with ⟨rfl,rfl⟩ | ⟨k3,rfl⟩ <;>
  first
   | (rcases hm with e | e <;> first | (cases e;done) | exact (e rfl).elim)
   | simp [Sem.run_bind,qO,h1,h2,h3]
theorem jM {d n:Nat} {x:Option Operand} (hok:∀ y,x=some y -> VRi ν (ael T y) (a.eval y)) (h:ue T d x=some n):K6 (x.map a.eval) n d:=by
 cases x with
 | none=>rw [ue] at h;cases h;exact .inl ⟨rfl,rfl⟩
 | some y =>
  rw [ue] at h
  obtain ⟨k,e⟩:=mA h (hok y rfl)
  exact .inr ⟨k,by simp [e]⟩
theorem wG (h o m l k:Nat):Af ⟨h,o,none⟩ m l k=⟨h,if m=l then o else o+l * k,none⟩:=by
 unfold Af
 split
 ·rename_i e;rw [if_pos (Nat.eq_of_beq_eq_true e)]
 ·rename_i e
  rw [if_neg (λ e'=>by subst e';simp at e),nA]
theorem wH (b o m l k:Nat):(if m=l then (⟨b,o,none⟩:Addr) else (⟨b,o,none⟩:Addr).add (l * k))=⟨b,if m=l then o else o+l * k,none⟩:=by
 split
 ·rfl
 ·rw [mz]
theorem bP {a b:Nat} (h:Nat.ble a b=true):a <= b:=Nat.le_of_ble_eq_true h
theorem qP {k l h m c c':Nat} {base base':Option Addr} {n n':Nat} {v:Value} (hr:VRi ν (.slice base n c) (.slice base' n' c')) (hc:c < lm) (hv:uf k base l h m c=some v) :
  l <= h /\ h <= m /\ m <= c /\ VRi ν v (.slice (if m=l then base' else base'.map (·.add (l * k))) (h - l) (m - l)):=by
 unfold uf at hv
 split at hv
 case h_2=>cases hv
 rename_i h1 h2 h3
 refine ⟨bP h1,bP h2,bP h3,?_⟩
 have h3':=bP h3
 split at hv
 ·cases hv
  cases hr
  split <;> exact .atom _ rfl
 ·split at hv
  ·cases hv
   cases hr with
   | atom _ h=>simp [cz] at h
   | @slice _ b _ _ _ o n hν hcap =>
    rw [wG]
    have:(if m=l then (some ⟨b,o,none⟩:Option Addr) else (some ⟨b,o,none⟩:Option Addr).map (·.add (l * k)))=some ⟨b,if m=l then o else o+l * k,none⟩:=by
     rw [<- wH];split <;> rfl
    rw [this]
    exact .slice _ _ hν ⟨λ _=>rfl,λ e=>by omega⟩
  ·cases hv
theorem CC {t:TypeId} {x:Value} {ρx:Value} {lo hi mx:Option Operand} {v:Value} (hH:HR ν H F w) (hx:VRi ν x ρx) (hlo:∀ y,lo=some y -> VRi ν (ael T y) (a.eval y)) (hhi:∀ y,hi=some y -> VRi ν (ael T y) (a.eval y)) (hmx:∀ y,mx=some y -> VRi ν (ael T y) (a.eval y))
  (h:yD P t H T x lo hi mx=some v):∃ v',VRi ν v v' /\ (Instr.sliceAt t ρx (lo.map a.eval) (hi.map a.eval) (mx.map a.eval)).run P w=.ok v' w:=by
 unfold yD at h
 split at h
 ·cases h
 rename_i hmo
 have hmo':(mx.map a.eval=none \/ hi.map a.eval ≠ none):=by
  unfold MS at hmo
  split at hmo
  ·cases hmo
  ·rename_i e
   cases mx with
   | none=>exact .inl rfl
   | some m=>cases hi with
    | none=>exact (e _ rfl rfl).elim
    | some hh=>exact .inr (by simp)
 split at h
 ·rename_i el hu
  split at h
  case h_2=>cases h
  rename_i base n c
  split at h
  case h_2=>cases h
  rename_i k l hh hs hl hhn
  have hs':=d6 hs w
  have b1:=jM hlo hl
  have b2:=jM hhi hhn
  split at h
  ·rename_i hc
   have hc':=dE hc
   split at h
   case h_2=>cases h
   rename_i m hm
   have b3:=jM hmx hm
   have hreal:∃ base',ρx=.slice base' n c /\ VRi ν (.slice base n c) (.slice base' n c):=by
    cases hx with
    | atom _ h=>exact ⟨_,rfl,.atom _ h⟩
    | slice o n hν hcap=>obtain rfl:=hcap.1 hc';exact ⟨_,rfl,.slice o n hν hcap⟩
   obtain ⟨base',rfl,hr⟩:=hreal
   obtain ⟨g1,g2,g3,g4⟩:=qP hr hc' h
   refine ⟨_,g4,?_⟩
   unfold Instr.sliceAt
   rw [Sem.run_bind,aP hu]
   simp only [Result.andThen_ok]
   unfold Instr.slice
   rw [Sem.run_bind,aP hu]
   simp only [Result.andThen_ok]
   rw [Sem.run_bind,mB b1 b2 b3 hmo' g1 g2 g3]
   simp only [Result.andThen_ok]
   rw [Sem.run_bind,hs']
   rfl
  ·rename_i hc
   have hc':lm <= c:=by
    rcases Nat.lt_or_ge c lm with e | e
    ·have:Nat.blt c lm=true:=Nat.ble_eq_true_of_le e
     rw [this] at hc;cases hc
    ·exact e
   split at h
   case h_2=>cases h
   rename_i ad mo hmo2
   cases hx with
   | atom _ h=>simp [cz] at h
   | @slice hd b K _ c' o n hν hcap =>
   have hcap2:=hcap.2 hc'
   unfold Fh at h
   split at h
   case h_2=>cases h
   rename_i nn tr ty ww ro hsp hb
   split at h
   case h_2=>cases h
   rename_i e1 e2 e3 e4
   simp only at hb
   obtain ⟨cc,ty',fz,hw,hcr⟩:=hH.cells hb hν
   have e1':ww=k:=Nat.eq_of_beq_eq_true e1
   have e2':=dE e2
   have e3':=bP e3
   have e4':=bP e4
   have hsz:=hcr.gr (by omega)
   have hle:=hcr.le
   have hcle:∀ q,(c - lm+q) * ww <= nn -> q <= c':=λ q hq=>by
    have:(c - lm+q) * ww <= K * ww:=by omega
    have:=Nat.le_of_mul_le_mul_right this e2'
    omega
   have hrun:∀ (m:Nat),K6 (mx.map a.eval) m c' -> hh <= m -> m <= c' -> (Instr.sliceAt t (.slice (some ⟨b,o,none⟩) n c') (lo.map a.eval) (hi.map a.eval) (mx.map a.eval)).run P w=.ok (.slice (some ⟨b,if m=l then o else o+l * k,none⟩) (hh - l) (m - l)) w:=λ m b3 g2 g3=>by
    unfold Instr.sliceAt
    rw [Sem.run_bind,aP hu]
    simp only [Result.andThen_ok]
    unfold Instr.slice
    rw [Sem.run_bind,aP hu]
    simp only [Result.andThen_ok]
    rw [Sem.run_bind,mB b1 b2 b3 hmo' e3' g2 g3]
    simp only [Result.andThen_ok]
    rw [Sem.run_bind,hs']
    have:(if m=l then (some ⟨b,o,none⟩:Option Addr) else (some ⟨b,o,none⟩:Option Addr).map (·.add (l * k)))=some ⟨b,if m=l then o else o+l * k,none⟩:=by
     rw [<- wH];split <;> rfl
    simp only [Result.andThen_ok,this,cE]
   split at h
   ·have hmn:mx=none:=by
     unfold K3 at hmo2
     split at hmo2
     ·rfl
     ·split at hmo2 <;> cases hmo2
    subst hmn
    have b3:K6 ((none:Option Operand).map a.eval) c' c':=.inl ⟨rfl,rfl⟩
    split at h
    ·rename_i hlt
     have hlt':=dE hlt
     cases h
     have g:=hcle _ e4'
     refine ⟨_,?_,hrun c' b3 g (Nat.le_refl _)⟩
     rw [nA,if_neg (by omega)]
     exact .slice _ _ hν ⟨λ e=>by omega,λ e=>by omega⟩
    ·rename_i hnl
     split at h
     ·cases h
      have g:=hcle _ e4'
      have hh0:hh=0:=by
       rcases Nat.eq_zero_or_pos hh with e | e
       ·exact e
       ·have:Nat.blt 0 hh=true:=Nat.ble_eq_true_of_le e
        rw [this] at hnl;cases hnl
      subst hh0
      refine ⟨_,?_,hrun c' b3 g (Nat.le_refl _)⟩
      simp only [Nat.zero_mul,Nat.add_zero,ite_self,Nat.sub_zero]
      exact .slice _ _ hν hcap
     ·cases h
   ·rename_i m
    split at h
    case h_2=>cases h
    rename_i q1 q2 q3
    cases h
    have hmn:∃ y,mx=some y /\ Hz (ael T y)=some m:=by
     unfold K3 at hmo2
     split at hmo2
     ·cases hmo2
     ·rename_i y
      split at hmo2
      ·rename_i n' e';cases hmo2;exact ⟨y,rfl,e'⟩
      ·cases hmo2
    obtain ⟨y,rfl,ey⟩:=hmn
    obtain ⟨kk,ey'⟩:=mA ey (hmx y rfl)
    have b3:K6 ((some y:Option Operand).map a.eval) m c':=.inr ⟨kk,by simp [ey']⟩
    refine ⟨_,?_,hrun m b3 (bP q1) (hcle _ (bP q2))⟩
    rw [wG]
    have:=dE q3
    exact .slice _ _ hν ⟨λ _=>rfl,λ e=>by omega⟩
 ·rename_i n el hu
  split at h
  case h_2=>cases h
  rename_i ad
  split at h
  case h_2=>cases h
  rename_i k l hh m hs hl hhn hm
  have hs':=d6 hs w
  have b1:=jM hlo hl
  have b2:=jM hhi hhn
  have b3:=jM hmx hm
  split at h
  case h_2=>cases h
  rename_i hn
  cases hx with
  | atom _ h=>simp [cz] at h
  | @ptr hd b K o hν =>
  obtain ⟨g1,g2,g3,g4⟩:=qP (n:=0) (n':=0) (c':=n) (.slice o 0 hν ⟨λ _=>rfl,λ e=>by have:=dE hn;omega⟩:VRi ν (.slice (some ⟨hd,o,none⟩) 0 n) (.slice (some ⟨b,o,none⟩) 0 n)) (dE hn) h
  refine ⟨_,g4,?_⟩
  unfold Instr.sliceAt
  rw [Sem.run_bind,aP hu]
  simp only [Result.andThen_ok]
  rw [Sem.run_bind]
  simp only [Instr.sureAddr,cE,Result.andThen_ok]
  rw [Sem.run_bind,mB b1 b2 b3 hmo' g1 g2 g3]
  simp only [Result.andThen_ok]
  rw [Sem.run_bind,hs']
  have:(if m=l then (some ⟨b,o,none⟩:Option Addr) else (some ⟨b,o,none⟩:Option Addr).map (·.add (l * k)))=some (if m=l then ⟨b,o,none⟩ else (⟨b,o,none⟩:Addr).add (l * k)):=by split <;> rfl
  rw [this]
  rfl
 ·cases h
theorem wI {o:Oper} {v:Value} (hH:HR ν H F w) (h:ja P o T H=some v) {l:List Operand} (hl:cf o.op=some l) (hok:OK ν T a l):∃ v',VRi ν v v' /\ (execOp a.eval o).run P w=.ok (.value v') w:=by
 have hl0:=hl
 unfold ja at h
 split at h
 ·rename_i t x ho
  rw [ho] at hl;simp only [cf,Option.some.injEq] at hl;subst hl
  have hx:=hok x (by simp)
  split at h
  ·rename_i ad e
   rw [e] at hx
   generalize hu:a.eval x=u at hx
   have hx2:=hx
   cases hx with
   | atom _ h=>simp [cz] at h
   | ptr o hν =>
    obtain ⟨v',r,e2⟩:=wF hH hx2 h
    refine ⟨v',r,?_⟩
    simp [execOp,ho,Instr.loadAt,Instr.sureAddr,hu,Sem.run_bind,e2]
  ·cases h
 ·rename_i t m k ok ho
  rw [ho] at hl;simp only [cf,Option.some.injEq] at hl;subst hl
  obtain ⟨hp,v',r,e⟩:=FC hH (hok m (by simp)) h
  have hk:=(hok k (by simp)).plain_eq hp
  refine ⟨v',r,?_⟩
  simp [execOp,ho,hk,Sem.run_bind,e]
 ·rename_i t x lo hi mx ho
  split at h
  ·obtain ⟨v',r,e⟩:=od h hl0 hok
   exact ⟨v',r,e w⟩
  ·rw [ho] at hl;simp only [cf,Option.some.injEq] at hl;subst hl
   obtain ⟨v',r,e⟩:=CC (a:=a) hH (hok x (by simp)) (λ y hy=>hok y (by subst hy;simp)) (λ y hy=>hok y (by subst hy;simp)) (λ y hy=>hok y (by subst hy;simp)) h
   refine ⟨v',r,?_⟩
   simp [execOp,ho,Sem.run_bind,e]
 ·cases h
end sl
section wr
variable {ν ν':Nu} {P:Program} {G N:Nat} {T T':Tr Value} {a:Act} {H H':AH} {F:HL} {w w':World}
theorem dq (H:AH) (h k:Nat) (b:Option AB):bO (cP H h b) k=if h=k then b else bO H k:=iI _ _ _
theorem HR.upd (hH:HR ν H F w) {h r K:Nat} {b0 b1:AB} {o':Obj} (hb:bO H h=some b0) (hw0:FB b0=true) (hw1:FB b1=true) (hν:ν h=some (r,K)) (hr:w'.heap[r]?=some o') (ho:OR ν K b1 o') (hs:∀ k,k ≠ r -> w'.heap[k]?=w.heap[k]?):HR ν (cP H h (some b1)) F w':=by
 have old:∀ k b,bO (cP H h (some b1)) k=some b -> k ≠ h -> bO H k=some b:=λ k b hk hne=>by
  rw [dq,if_neg (Ne.symm hne)] at hk;exact hk
 have ex:∀ k b,bO (cP H h (some b1)) k=some b -> ∃ b',bO H k=some b' /\ (FB b=true -> FB b'=true):=λ k b hk=>by
  by_cases e:k=h
  ·subst e;exact ⟨b0,hb,λ _=>hw0⟩
  ·exact ⟨b,old k b hk e,λ e=>e⟩
 refine ⟨λ k b hk=>?_,λ k1 k2 b1' b2' q K1 K2 h1 h2 h3 h4=>?_,λ x hx=>?_,λ k b q K' hk hq x hx=>?_⟩
 ·by_cases e:k=h
  ·subst e
   rw [dq,if_pos rfl] at hk
   cases hk
   exact ⟨r,K,o',hν,hr,ho⟩
  ·have hk':=old k b hk e
   obtain ⟨q,K',o,h1,h2,h3⟩:=hH.blk k b hk'
   refine ⟨q,K',o,h1,?_,h3⟩
   rw [hs q,h2]
   intro e'
   subst e'
   exact e (hH.inj _ _ _ _ _ _ _ hk' hb h1 hν)
 ·obtain ⟨c1,d1,-⟩:=ex _ _ h1
  obtain ⟨c2,d2,-⟩:=ex _ _ h2
  exact hH.inj _ _ _ _ _ _ _ d1 d2 h3 h4
 ·rw [hs _ (hH.apt _ _ _ _ hb hν x hx)]
  exact hH.frm x hx
 ·obtain ⟨c1,d1,d2⟩:=ex _ _ hk
  exact hH.apt _ _ _ _ d1 hq x hx
theorem HR.del (hH:HR ν H F w) (h:Nat):HR ν (cP H h none) F w:=by
 have old:∀ k b,bO (cP H h none) k=some b -> bO H k=some b:=λ k b hk=>by
  rw [dq] at hk
  split at hk
  ·cases hk
  ·exact hk
 exact ⟨λ k b hk=>hH.blk k b (old k b hk),λ k1 k2 b1 b2 q K1 K2 h1 h2 h3 h4=>hH.inj _ _ _ _ _ _ _ (old _ _ h1) (old _ _ h2) h3 h4,hH.frm,λ k b q K hk=>hH.apt k b q K (old k b hk)⟩
theorem HR.add (hH:HR ν H F w) {n r K:Nat} {b:AB} {o:Obj} (hn:ν n=none) (hr:w.heap[r]?=some o) (ho:OR ν K b o) (hwb:FB b=true) (hF:∀ x ∈ F,x.1 ≠ r) (hfr:∀ k b' K',bO H k=some b' -> ν k ≠ some (r,K')):HR (ν.upd n r K) (cP H n (some b)) F w:=by
 have hle:ν.Le (ν.upd n r K):=jJ hn
 have hno:bO H n=none:=by
  cases e:bO H n with
  | none=>rfl
  | some b'=>obtain ⟨q,K',o',h1,-⟩:=hH.blk n b' e;rw [hn] at h1;cases h1
 have old:∀ k b',bO (cP H n (some b)) k=some b' -> k ≠ n -> bO H k=some b':=λ k b' hk hne=>by
  rw [dq,if_neg (Ne.symm hne)] at hk;exact hk
 refine ⟨λ k b' hk=>?_,λ k1 k2 b1 b2 q K1 K2 h1 h2 h3 h4=>?_,hH.frm,λ k b' q K' hk hq x hx=>?_⟩
 ·by_cases e:k=n
  ·subst e
   rw [dq,if_pos rfl] at hk
   cases hk
   exact ⟨r,K,o,cm,hr,ho.mono hle⟩
  ·obtain ⟨q,K',o',h1,h2,h3⟩:=hH.blk k b' (old k b' hk e)
   exact ⟨q,K',o',hle _ _ h1,h2,h3.mono hle⟩
 ·by_cases e1:k1=n
  ·by_cases e2:k2=n
   ·rw [e1,e2]
   ·subst e1
    rw [cm] at h3
    rw [ez e2] at h4
    cases h3
    exact (hfr _ _ _ (old _ _ h2 e2) h4).elim
  ·by_cases e2:k2=n
   ·subst e2
    rw [cm] at h4
    rw [ez e1] at h3
    cases h4
    exact (hfr _ _ _ (old _ _ h1 e1) h3).elim
   ·rw [ez e1] at h3
    rw [ez e2] at h4
    exact hH.inj _ _ _ _ _ _ _ (old _ _ h1 e1) (old _ _ h2 e2) h3 h4
 ·by_cases e:k=n
  ·subst e
   rw [cm] at hq
   cases hq
   exact hF x hx
  ·rw [ez e] at hq
   exact hH.apt _ _ _ _ (old _ _ hk e) hq x hx
theorem HR.world (hH:HR ν H F w) (hs:∀ k,k < w.heap.size -> w'.heap[k]?=w.heap[k]?):HR ν H F w':=by
 refine ⟨λ k b hk=>?_,hH.inj,λ x hx=>?_,hH.apt⟩
 ·obtain ⟨q,K',o',h1,h2,h3⟩:=hH.blk k b hk
  exact ⟨q,K',o',h1,by rw [hs _ (de h2)];exact h2,h3⟩
 ·have:=hH.frm x hx
  rw [hs _ (de this)]
  exact this
theorem HR.new (hH:HR ν H F w) {n K:Nat} {b:AB} {o:Obj} (hn:ν n=none) (ho:OR ν K b o) (hwb:FB b=true) (hw:w'.heap=w.heap.push o):HR (ν.upd n w.heap.size K) (cP H n (some b)) F w':=by
 have h1:HR ν H F w':=hH.world (λ k hk=>by rw [hw,Array.getElem?_push,if_neg (by omega)])
 refine h1.add hn (by rw [hw];simp) ho hwb (λ x hx e=>?_) (λ k b' K' hk e=>?_)
 ·have:=de (hH.frm x hx)
  omega
 ·have:=hH.lt hk e
  omega
theorem kT {l:List Value} {i:Nat} (h:i < l.length):cQ (dD undef l 0 .lf) i=l[i]:=by
 unfold cQ
 rw [pM]
 simp [h]
theorem sW (l:List Value) (ty:TypeId):jo l ty=.cells l.length (dD undef l 0 .lf) ty 0 false:=by
 unfold jo
 split <;> rename_i h <;> rw [h,dW]
theorem jN (l:List Value) (ty:TypeId) (k:Nat):uh l ty k=.cells l.length (dD undef l 0 .lf) ty k false:=by
 unfold uh
 split <;> rename_i h <;> rw [h,dW]
theorem J0 {l l' rest:List Value} {ty:TypeId} {ww K:Nat} (h:LR ν l l') (hk:ww ≠ 0 -> (l'++rest).length=K * ww):CR ν K l.length (dD undef l 0 .lf) ty ww ⟨l'++rest⟩ ty (0,0):=by
 refine ⟨rfl,by simp [h.length],rfl,λ i hi=>?_,λ e=>by simpa using hk e⟩
 obtain ⟨v',e,r⟩:=h.get (List.getElem?_eq_getElem hi)
 refine ⟨v',?_,by rw [kT hi];exact r⟩
 have:(l'++rest)[i]?=some v':=by rw [List.getElem?_append_left (by rw [h.length];exact hi)];exact e
 simpa using this
theorem OR.cellsB {l l':List Value} {ty:TypeId} {K:Nat} (h:LR ν l l'):OR ν K (jo l ty) (.cells ⟨l'⟩ ty (0,0)):=by
 rw [sW]
 have:=J0 (ty:=ty) (ww:=0) (K:=K) (rest:=[]) h (λ e=>(e rfl).elim)
 have h2:CR ν K l.length (dD undef l 0 .lf) ty 0 ⟨l'⟩ ty (0,0):=by simpa using this
 exact h2
theorem j9 (l:List Value) (ty:TypeId):FB (jo l ty)=true:=by rw [sW];rfl
theorem qQ (t:Tr Value):∀ (vs:List Value) (i j:Nat),cQ (jZ t i vs) j=if h:i <= j /\ j - i < vs.length then vs[j - i] else cQ t j:=by
 intro vs
 induction vs generalizing t with
 | nil=>intro i j;simp [jZ]
 | cons v vs ih =>
  intro i j
  rw [jZ,ih]
  have cP:cQ (rQ t i v) j=if i=j then v else cQ t j:=iI _ _ _
  by_cases h1:i=j
  ·subst h1
   have:¬ (i+1 <= i /\ i - (i+1) < vs.length):=by omega
   rw [dif_neg this,cP,if_pos rfl]
   simp
  ·by_cases h2:i <= j
   ·have h4:j - i=(j - (i+1))+1:=by omega
    by_cases h3:j - (i+1) < vs.length
    ·rw [dif_pos ⟨by omega,h3⟩,dif_pos ⟨h2,by rw [List.length_cons];omega⟩]
     simp only [h4,List.getElem_cons_succ]
    ·rw [dif_neg (by omega),dif_neg (by rw [List.length_cons];omega),cP,if_neg h1]
   ·rw [dif_neg (by omega),dif_neg (by omega),cP,if_neg h1]
theorem gH (b:Nat):∀ (vs:List Value) (o:Nat) (w:World) (k:Nat),k ≠ b -> (w.setCells b o vs).heap[k]?=w.heap[k]?
 | [],_,_,_,_=>rfl
 | v :: vs,o,w,k,h=>by rw [World.setCells,gH b vs _ _ _ h,Below.heap_setCell _ _ _ _ h]
theorem gI (b:Nat):∀ (vs:List Value) (o:Nat) (w:World),Below 0 w (w.setCells b o vs)
 | [],_,w=>Below.refl 0 w
 | v :: vs,o,w=>by
  rw [World.setCells]
  exact ((Below.refl 0 w).setCell (Nat.zero_le _) v).trans (gI b vs (o+1) _)
theorem kU (b:Nat):∀ (vs:List Value) (o:Nat) (w:World) {c:Array Value} {ty:TypeId} {fz:Nat × Nat},w.heap[b]?=some (.cells c ty fz) -> ∃ c',(w.setCells b o vs).heap[b]?=some (.cells c' ty fz) /\ c'.size=c.size /\ ∀ j,j < c.size -> c'[j]?=if h:o <= j /\ j - o < vs.length then some vs[j - o] else c[j]?
 | [],o,w,c,ty,fz,h=>⟨c,h,rfl,λ j _=>by simp⟩
 | v :: vs,o,w,c,ty,fz,h=>by
  have h1:(w.setCell ⟨b,o,none⟩ v).heap[b]?=some (.cells (c.setIfInBounds o v) ty fz):=by
   simp [World.setCell,Array.getElem?_modify,h]
  obtain ⟨c',e1,e2,e3⟩:=kU b vs (o+1) _ h1
  refine ⟨c',e1,by simpa using e2,λ j hj=>?_⟩
  rw [e3 j (by simpa using hj)]
  by_cases h2:o=j
  ·subst h2
   rw [dif_neg (by omega),dif_pos ⟨Nat.le_refl _,by simp⟩,Array.getElem?_setIfInBounds_self_of_lt hj]
   simp
  ·rw [Array.getElem?_setIfInBounds_ne h2]
   by_cases h3:o <= j
   ·have h4:j - o=(j - (o+1))+1:=by omega
    by_cases h5:j - (o+1) < vs.length
    ·rw [dif_pos ⟨by omega,h5⟩,dif_pos ⟨h3,by rw [List.length_cons];omega⟩]
     simp only [h4,List.getElem_cons_succ]
    ·rw [dif_neg (by omega),dif_neg (by rw [List.length_cons];omega)]
   ·rw [dif_neg (by omega),dif_neg (by omega)]
theorem yO {v:Value} {l:List Value} (hf:jG (v :: l)=true):(∀ cs,v ≠ Value.agg cs) /\ (∀ cs,v ≠ Value.tuple cs) /\ jG l=true:=by
 cases v <;> simp [jG] at hf <;> simp [hf]
theorem sX {vs vs':List Value} (h:LR ν vs vs') (hf:jG vs=true):∀ u ∈ vs',u.oneCell'=true:=by
 induction h with
 | nil=>intro u hu;cases hu
 | cons hv _ ih =>
  intro u hu
  obtain ⟨h1,h2,h3⟩:=yO hf
  rcases List.mem_cons.1 hu with rfl | hu
  ·cases hv <;> first | rfl | exact (h1 _ rfl).elim | exact (h2 _ rfl).elim | skip
   rename_i v0 _ _ _ e
   cases v0 <;> first | rfl | simp [cz] at e
  ·exact ih h3 u hu
theorem oh {h o b K:Nat} {vs vs':List Value} (hH:HR ν H F w) (hν:ν h=some (b,K)) (hl:LR ν vs vs') (hp:nZ H ⟨h,o,none⟩ vs=some H') :
  (∀ j,j < vs'.length -> (w.cell? ⟨b,o+j,none⟩).isSome=true) /\ (∀ j,j < vs'.length -> w.frozen? ⟨b,o+j,none⟩=false) /\ (∀ u ∈ vs',u.oneCell'=true) /\ HR ν H' F (w.setCells b o vs') /\ Below 0 w (w.setCells b o vs'):=by
 unfold nZ at hp
 split at hp
 case h_2=>cases hp
 rename_i n tr ty ww hs hb
 split at hp
 case h_2=>cases hp
 rename_i hle hf
 cases hp
 simp only at hb
 obtain ⟨c,ty',fz,hw,hc⟩:=hH.cells hb hν
 have hle':=bP hle
 rw [dW] at hle'
 simp only at hle'
 have hlen:=hl.length
 have hcs:=hc.le
 refine ⟨λ j hj=>?_,λ j hj=>?_,sX hl hf,?_,gI _ _ _ _⟩
 ·rw [ln hw,Array.getElem?_eq_getElem (by omega)];rfl
 ·obtain ⟨lo,hi⟩:=fz
  have:=hc.fz
  cases this
  simp [World.frozen?,hw]
 ·obtain ⟨c',e1,e2,e3⟩:=kU b vs' o w hw
  refine hH.upd (b1:=.cells n (jZ tr o vs) ty ww false) hb rfl rfl hν e1 ?_ (λ k hk=>gH b vs' o w k hk)
  refine ⟨hc.ty,by rw [e2];exact hcs,hc.fz,λ i hi=>?_,λ e=>by rw [e2];exact hc.gr e⟩
  rw [e3 i (by omega),qQ]
  by_cases h1:o <= i /\ i - o < vs.length
  ·obtain ⟨v',g1,g2⟩:=hl.get (List.getElem?_eq_getElem h1.2)
   rw [dif_pos h1,dif_pos ⟨h1.1,by rw [hlen];exact h1.2⟩]
   refine ⟨v',?_,g2⟩
   rw [<- g1,List.getElem?_eq_getElem]
  ·rw [dif_neg h1,dif_neg (by rw [hlen];exact h1)]
   exact hc.get i hi
theorem CD {t:TypeId} {ad ad':Addr} {v v':Value} (hH:HR ν H F w) (hp:VRi ν (.pointer (some ad)) (.pointer (some ad'))) (hv:VRi ν v v') (h:ug P t H ad v=some H'):∃ w',(storeVar t ad' v').run P w=.ok () w' /\ HR ν H' F w' /\ Below 0 w w':=by
 cases hp with
 | atom _ h=>simp [cz] at h
 | @ptr hd b K o hν =>
  unfold ug at h
  split at h
  case h_2=>cases h
  rename_i k hk
  split at h
  case h_2=>cases h
  rename_i hl
  have hcr:=j6 hv
  obtain ⟨h1,h2,h3,h4,h5⟩:=oh hH hν hcr h
  refine ⟨_,?_,h4,h5⟩
  have hsz:v'.cells.size=k:=by
   have e1:=Nat.eq_of_beq_eq_true hl
   rw [dW,<- hcr.length,fY] at e1
   simpa using e1
  unfold storeVar
  rw [Sem.run_bind,d6 hk]
  simp only [Result.andThen_ok,hsz,ne_eq,not_true_eq_false,if_false]
  have:=run_storeCells_cells (P:=P) b o (gF v') 0 w (by simpa using h1) (by simpa using h2) h3
  rw [fY] at this
  rw [<- fY] at *
  simpa [Sem.run_bind,cE] using this
end wr
end Go.Proofs.YtobflkidpfkcaaaGreatDoor
