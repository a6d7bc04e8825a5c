import Derived.Test.YthoijjeddhfcnaaGreatW29
set_option maxHeartbeats 4000000
set_option maxRecDepth 100000
set_option linter.unusedSimpArgs false
set_option linter.unusedVariables false
namespace Go.Proofs.YthoijjeddhfcnaaGreat
open Go.RowKit
section fr
variable {ν ν':Nu} {P:Program} {G N:Nat} {T T':Tr Value} {a:Act}
theorem nilQ_run {t:TypeId} {u v u' v':Value} {r:Bool} (h:nilQ u v=some r) (ht:nilT P t u=true) (hu:VRi ν u u') (hv:VRi ν v v') (w:World):(Op.equal t u' v').run P w=.ok r w:=by
  show (Op.equalIn 10000 t u' v').run P w=_
  rw [show (10000:Nat)=9999+1 from rfl,Op.equalIn.eq_def]
  simp only
  unfold nilQ at h
  split at h <;> first | (cases h;done) | skip
  all_goals
    cases h
    unfold nilT at ht
    split at ht <;> first | (cases ht;done) | skip
    rename_i hd
    rw [Sem.run_bind,und_run hd]
    simp only [Result.andThen_ok]
    cases hu <;> cases hv <;> first | rfl | (rename_i e;cases e;done) | (rename_i e1 e2;cases e1;done) | (rename_i e1 e2;cases e2;done)
theorem indexA_slice {w:World} {ρ:Operand -> Value} {o:Oper} {t el:TypeId} {x i:Operand} {b off n c j sz:Nat} {k:IntKind} (ho:o.op=.indexAddr t x i) (hx:ρ x=.slice (some ⟨b,off,none⟩) n c) (hi:ρ i=.int k (j:Int)) (ht:P.underlying t=some (.slice el)) (hj:j < n) (hs:sizeT P el=some sz) :
    (execOp ρ o).run P w=.ok (.value (.pointer (some ⟨b,off+j * sz,none⟩))) w:=by
  have h1:=λ W=>und_run ht W
  have h2:=λ W=>sizeT_run hs W
  have h3:(0:Int) <= (j:Int) /\ (j:Int) < (n:Int):=⟨by omega,by omega⟩
  simp [execOp,ho,Instr.indexAt,hx,hi,asIntOf,Sem.run_bind,h1,h2,hj,add_eq]
theorem indexA_arr {w:World} {ρ:Operand -> Value} {o:Oper} {t el:TypeId} {x i:Operand} {b off n j sz:Nat} {k:IntKind} (ho:o.op=.indexAddr t x i) (hx:ρ x=.pointer (some ⟨b,off,none⟩)) (hi:ρ i=.int k (j:Int)) (ht:P.underlying t=some (.array n el)) (hj:j < n) (hs:sizeT P el=some sz) :
    (execOp ρ o).run P w=.ok (.value (.pointer (some ⟨b,off+j * sz,none⟩))) w:=by
  have h1:=λ W=>und_run ht W
  have h2:=λ W=>sizeT_run hs W
  simp [execOp,ho,Instr.indexAt,Instr.sureAddr,hx,hi,asIntOf,Sem.run_bind,h1,h2,hj,add_eq]
theorem indexV_run {w:World} {ρ:Operand -> Value} {o:Oper} {t el:TypeId} {x i:Operand} {cs:Array Value} {n j sz:Nat} {k:IntKind} {v:Value} (ho:o.op=.index t x i) (hx:ρ x=.agg cs) (hi:ρ i=.int k (j:Int)) (ht:P.underlying t=some (.array n el)) (hj:j < n) (hs:sizeT P el=some sz) (hp:partA P el cs.toList (j * sz)=some v) :
    (execOp ρ o).run P w=.ok (.value v) w:=by
  have h1:=λ W=>und_run ht W
  have h2:=λ W=>sizeT_run hs W
  have h3:=partA_run hp
  simp [execOp,ho,Instr.index,hx,hi,asIntOf,Sem.run_bind,h1,h2,h3,hj]
theorem lenA_run {w:World} {ρ:Operand -> Value} {o:Oper} {t:TypeId} {x:Operand} {n:Nat} (ho:o.op=.call { callee:=.builtin .len,args:=#[x],argTypes:=#[t] }) (hl:lenA P t (ρ x)=some n):(execOp ρ o).run P w=.ok (.value (.int .i64 (n:Int))) w:=by
  unfold lenA at hl
  split at hl
  case h_3=>cases hl
  all_goals
    rename_i hu hx
    cases hl
    have h1:=λ W=>und_run hu W
    simp [execOp,ho,resolve,invoke,builtin,Builtin.len_,hx,Sem.run_bind,h1,goInt]
theorem lenA_rel {t:TypeId} {v v':Value} {n:Nat} (hr:VRi ν v v') (h:lenA P t v=some n):lenA P t v'=some n:=by
  cases hr with
  | atom v _=>exact h
  | slice o n h1 c =>
    unfold lenA at h ⊢
    cases hu:P.underlying t with
    | none=>simp [hu] at h
    | some d=>rw [hu] at h;cases d <;> simp at h ⊢;exact h
  | _ =>
    unfold lenA at h
    cases hu:P.underlying t with
    | none=>simp [hu] at h
    | some d=>rw [hu] at h;cases d <;> simp at h
theorem nilB_run {w:World} {ρ:Operand -> Value} {o:Oper} {op:BinOp} {t ty:TypeId} {x y:Operand} {u v:Value} {r:Bool} (ho:o.op=.binOp op t x y ty) (hx:VRi ν u (ρ x)) (hy:VRi ν v (ρ y)) (hr:nilQ u v=some r) (ht:nilT P t u=true) :
    (op=.eql -> (execOp ρ o).run P w=.ok (.value (.bool r)) w) /\ (op=.neq -> (execOp ρ o).run P w=.ok (.value (.bool (!r))) w):=by
  have q:=nilQ_run hr ht hx hy w
  generalize hu:ρ x=u' at *
  generalize hv:ρ y=v' at *
  unfold nilQ at hr
  split at hr <;> first | (cases hr;done) | skip
  all_goals
    cases hx <;> cases hy <;> refine ⟨λ e=>?_,λ e=>?_⟩ <;> subst e <;> simp [execOp,ho,hu,hv,eqGuard,Go.binOp,Sem.run_bind,q,run_pu,Result.andThen]
theorem pureV_ok {o:Oper} {v:Value} (h:pureV P o T=some v) {l:List Operand} (hl:opsOf o.op=some l) (hok:OK ν T a l):∃ v',VRi ν v v' /\ ∀ w,(execOp a.eval o).run P w=.ok (.value v') w:=by
  have hpl:plainV P T o=some v -> ∃ v',VRi ν v v' /\ ∀ w,(execOp a.eval o).run P w=.ok (.value v') w:=λ h=>plainV_ok h hl hok
  unfold pureV at h
  split at h
  · rename_i x ho
    rw [ho] at hl;simp only [opsOf,Option.some.injEq] at hl;subst hl
    cases h
    exact ⟨_,hok x (by simp),λ w=>by simp [execOp,ho,pure,Sem.run]⟩
  · rename_i x ho
    rw [ho] at hl;simp only [opsOf,Option.some.injEq] at hl;subst hl
    cases h
    exact ⟨_,hok x (by simp),λ w=>by simp [execOp,ho,pure,Sem.run]⟩
  · rename_i c x y ho
    rw [ho] at hl;simp only [opsOf,Option.some.injEq] at hl;subst hl
    have hc:=hok c (by simp)
    split at h
    · rename_i e
      cases h
      rw [e] at hc
      have e':=hc.plain_eq rfl
      exact ⟨_,hok x (by simp),λ w=>by simp [execOp,ho,e',asBool,Sem.run_bind,pure,Sem.run,Result.andThen]⟩
    · rename_i e
      cases h
      rw [e] at hc
      have e':=hc.plain_eq rfl
      exact ⟨_,hok y (by simp),λ w=>by simp [execOp,ho,e',asBool,Sem.run_bind,pure,Sem.run,Result.andThen]⟩
    · cases h
  · rename_i t parts ho
    rw [ho] at hl;simp only [opsOf,Option.some.injEq] at hl;subst hl
    obtain ⟨v',r,e⟩:=buildA_ok h (partsA_rel hok)
    refine ⟨v',r,λ w=>?_⟩
    have:=e w
    have e2:(parts.map λ (p:Nat × Operand)=>(p.1,a.eval p.2))=⟨parts.toList.map λ p=>(p.1,a.eval p.2)⟩:=by apply Array.ext';simp
    simp only [execOp,ho,Sem.run_bind]
    rw [e2,this]
    rfl
  · rename_i x ho
    rw [ho] at hl;simp only [opsOf,Option.some.injEq] at hl;subst hl
    have hx:=hok x (by simp)
    split at h
    · rename_i ad e
      cases h
      rw [e] at hx
      refine ⟨_,hx,λ w=>?_⟩
      generalize hu:a.eval x=u at hx
      cases hx with
      | atom _ h=>simp [atomV] at h
      | ptr o h=>simp [execOp,ho,hu,pure,Sem.run,bind,Sem.bind]
    · rename_i f first captured e
      cases h
      rw [e] at hx
      refine ⟨_,hx,λ w=>?_⟩
      generalize hu:a.eval x=u at hx
      cases hx with
      | atom _ h=>simp [atomV] at h
      | func hf _ _ _ _=>cases hf;simp [execOp,ho,hu,pure,Sem.run,bind,Sem.bind]
    · rename_i t v e
      cases h
      rw [e] at hx
      refine ⟨_,hx,λ w=>?_⟩
      generalize hu:a.eval x=u at hx
      cases hx with
      | atom _ h=>simp [atomV] at h
      | iface t hf=>simp [execOp,ho,hu,pure,Sem.run,bind,Sem.bind]
    · cases h
  · rename_i op t x y ty ho
    have hx:=hok x (by rw [ho] at hl;simp only [opsOf,Option.some.injEq] at hl;subst hl;simp)
    have hy:=hok y (by rw [ho] at hl;simp only [opsOf,Option.some.injEq] at hl;subst hl;simp)
    split at h
    · rename_i k m k' n ex ey
      rw [ex] at hx;rw [ey] at hy
      have ex':=hx.plain_eq rfl
      have ey':=hy.plain_eq rfl
      split at h
      · rename_i r hr
        split at h
        · rename_i hk
          cases h
          have hk':k=k':=of_decide_eq_true hk
          subst hk'
          exact ⟨_,.atom _ rfl,λ w=>cmpI_run ho ex' ey' hr⟩
        · cases h
      · exact hpl h
    · split at h
      · rename_i r hr
        split at h
        · rename_i ht
          cases h
          exact ⟨_,.atom _ rfl,λ w=>(nilB_run ho hx hy hr ht).1 rfl⟩
        · rename_i ht
          cases h
          exact ⟨_,.atom _ rfl,λ w=>(nilB_run ho hx hy hr ht).2 rfl⟩
        · cases h
      · exact hpl h
  · rename_i t x ho
    rw [ho] at hl;simp only [opsOf,Option.some.injEq] at hl;subst hl
    have hx:=hok x (by simp)
    split at h
    · cases h
    · rename_i d hd hu
      cases h
      refine ⟨_,.iface t hx,λ w=>?_⟩
      simp only [execOp,ho,Instr.makeInterface,Sem.run_bind,und_run hu,Result.andThen_ok]
      cases d <;> first | rfl | exact (hd _ hu).elim
    · cases h
  · rename_i fn first captured ho
    rw [ho] at hl;simp only [opsOf,Option.some.injEq] at hl;subst hl
    split at h
    · rename_i f
      cases h
      have h1:=mapE_rel (ν:=ν) (T:=T) (a:=a) (l:=first.toList) (λ x hx=>hok x (List.mem_append_left _ hx))
      have h2:=mapE_rel (ν:=ν) (T:=T) (a:=a) (l:=captured.toList) (λ x hx=>hok x (List.mem_append_right _ hx))
      have e1:first.map a.eval=⟨first.toList.map a.eval⟩:=by apply Array.ext';simp
      have e2:captured.map a.eval=⟨captured.toList.map a.eval⟩:=by apply Array.ext';simp
      refine ⟨.func (.func f) (first.map a.eval) (captured.map a.eval),by rw [e1,e2];exact .func_of (.func f) h1 h2,λ w=>?_⟩
      simp [execOp,ho,Instr.makeFunc,pure,Sem.run,bind,Sem.bind]
    · cases h
  · rename_i t x j ho
    rw [ho] at hl;simp only [opsOf,Option.some.injEq] at hl;subst hl
    have hx:=hok x (by simp)
    split at h
    · rename_i ad k ft e hf
      cases h
      rw [e] at hx
      generalize hu:a.eval x=u at hx
      cases hx with
      | atom _ h=>simp [atomV] at h
      | ptr o h =>
        refine ⟨_,?_,λ w=>fieldA_run ho hu hf⟩
        rw [addA_eq,add_eq]
        exact .ptr _ h
    · cases h
  · rename_i t x j ho
    rw [ho] at hl;simp only [opsOf,Option.some.injEq] at hl;subst hl
    have hx:=hok x (by simp)
    split at h
    · rename_i cs k ft e hf
      rw [e] at hx
      generalize hu:a.eval x=u at hx
      cases hx with
      | atom _ h=>simp [atomV] at h
      | agg he hg =>
        obtain ⟨v',e1,r⟩:=partA_rel (LR.of_arr he hg) h
        exact ⟨v',r,λ w=>fieldV_run ho hu hf e1⟩
    · cases h
  · rename_i t x i ho
    rw [ho] at hl;simp only [opsOf,Option.some.injEq] at hl;subst hl
    have hx:=hok x (by simp)
    have hi:=hok i (by simp)
    split at h
    · rename_i el ad n c j ht e ei
      split at h
      · rename_i k hj hs
        cases h
        rw [e] at hx
        obtain ⟨kk,ej⟩:=asN_eq ei hi
        generalize hu:a.eval x=u at hx
        cases hx with
        | atom _ h=>simp [atomV] at h
        | slice o n h hc =>
          refine ⟨_,?_,λ w=>indexA_slice ho hu ej ht (blt_lt hj) hs⟩
          rw [addA_eq]
          exact .ptr _ h
      · cases h
    · rename_i n el ad j ht e ei
      split at h
      · rename_i k hj hs
        cases h
        rw [e] at hx
        obtain ⟨kk,ej⟩:=asN_eq ei hi
        generalize hu:a.eval x=u at hx
        cases hx with
        | atom _ h=>simp [atomV] at h
        | ptr o h =>
          refine ⟨_,?_,λ w=>indexA_arr ho hu ej ht (blt_lt hj) hs⟩
          rw [addA_eq]
          exact .ptr _ h
      · cases h
    · cases h
  · rename_i t x i ho
    have hx:=hok x (by rw [ho] at hl;simp only [opsOf,Option.some.injEq] at hl;subst hl;simp)
    have hi:=hok i (by rw [ho] at hl;simp only [opsOf,Option.some.injEq] at hl;subst hl;simp)
    split at h
    · rename_i n el cs j ht e ei
      split at h
      · rename_i k hj hs
        rw [e] at hx
        obtain ⟨kk,ej⟩:=asN_eq ei hi
        generalize hu:a.eval x=u at hx
        cases hx with
        | atom _ h=>simp [atomV] at h
        | agg he hg =>
          obtain ⟨v',e1,r⟩:=partA_rel (LR.of_arr he hg) h
          exact ⟨v',r,λ w=>indexV_run ho hu ej ht (blt_lt hj) hs e1⟩
      · cases h
    · exact hpl h
  · rename_i x i ho
    rw [ho] at hl;simp only [opsOf,Option.some.injEq] at hl;subst hl
    have hx:=hok x (by simp)
    split at h
    · rename_i cs e
      rw [e] at hx
      generalize hu:a.eval x=u at hx
      cases hx with
      | atom _ h=>simp [atomV] at h
      | @tuple _ c' he hg =>
        rw [listGet_eq] at h
        obtain ⟨v',e1,r⟩:=(LR.of_arr he hg).get h
        refine ⟨v',r,λ w=>?_⟩
        have e2:c'[i]?=some v':=by simpa using e1
        simp [execOp,ho,hu,Instr.extract,e2,Sem.run_bind,run_pu,Result.andThen]
    · cases h
  · rename_i c ho
    split at h
    · rename_i x t hq
      unfold lenQ at hq
      split at hq
      case h_2=>cases hq
      rename_i y u
      have hyx:y=x /\ u=t:=by
        split at hq <;> first | (cases hq;exact ⟨rfl,rfl⟩) | cases hq
      obtain ⟨rfl,rfl⟩:=hyx
      have hx:=hok y (by rw [ho] at hl;simp only [opsOf,Option.some.injEq] at hl;subst hl;simp)
      split at h
      · rename_i n hn
        cases h
        exact ⟨_,.atom _ rfl,λ w=>lenA_run ho (lenA_rel hx hn)⟩
      · cases h
    · exact hpl h
  · exact hpl h
end fr
inductive ER (ν:Nu):List (Value × Value × Nat) -> List MapEntry -> Prop
  | nil:ER ν [] []
  | cons {v v':Value} {l:List (Value × Value × Nat)} {l':List MapEntry} (k:Value) (b:Nat):VRi ν v v' -> ER ν l l' -> ER ν ((k,v,b) :: l) (⟨k,v',b⟩ :: l')
structure CR (ν:Nu) (K n:Nat) (t:Tr Value) (ty:TypeId) (w:Nat) (c:Array Value) (ty':TypeId) (fz:Nat × Nat):Prop where
  ty:ty'=ty
  le:n <= c.size
  fz:fz=(0,0)
  get:∀ i,i < n -> ∃ v',c[i]?=some v' /\ VRi ν (tget t i) v'
  gr:w ≠ 0 -> c.size=K * w
def OR (ν:Nu) (K:Nat):AB -> Obj -> Prop
  | .cells n t ty w _,.cells c ty' fz=>CR ν K n t ty w c ty' fz
  | .map es clock,.map es' clock'=>clock'=clock /\ ER ν es es'.toList
  | .loop st pend T N ps as bo d,.loop r=>r.state=st /\ r.pending=pend /\ TRel ν N T r.tmps /\ r.params=ps /\ r.assign=as /\ r.body=bo /\ ∃ K',ν d=some (r.defers,K')
  | .dfr shut,.deferred c=>c=(match shut with | true=>none | false=>some [])
  | _,_=>False
def wrb:AB -> Bool
  | .cells _ _ _ _ ro=>!ro
  | _=>true
structure HR (ν:Nu) (H:AH) (F:HL) (w:World):Prop where
  blk:∀ h b,hget H h=some b -> ∃ r K o,ν h=some (r,K) /\ w.heap[r]?=some o /\ OR ν K b o
  inj:∀ h₁ h₂ b₁ b₂ r K₁ K₂,hget H h₁=some b₁ -> hget H h₂=some b₂ -> ν h₁=some (r,K₁) -> ν h₂=some (r,K₂) -> h₁=h₂
  frm:∀ x ∈ F,w.heap[x.1]?=some x.2.den
  apt:∀ h b r K,hget H h=some b -> ν h=some (r,K) -> ∀ x ∈ F,x.1 ≠ r
section hp
variable {ν ν':Nu} {P:Program} {G N:Nat} {T T':Tr Value} {a:Act} {H:AH} {F:HL} {w:World}
theorem ER.mono {l:List (Value × Value × Nat)} {l':List MapEntry} (h:ER ν l l') (hl:ν.Le ν'):ER ν' l l':=by
  induction h with
  | nil=>exact .nil
  | cons k b hv _ ih=>exact .cons k b (hv.mono hl) ih
theorem OR.mono {K:Nat} {b:AB} {o:Obj} (h:OR ν K b o) (hl:ν.Le ν'):OR ν' K b o:=by
  unfold OR at h ⊢
  split at h
  · exact ⟨h.ty,h.le,h.fz,λ i hi=>let ⟨v',e,r⟩:=h.get i hi;⟨v',e,r.mono hl⟩,h.gr⟩
  · exact ⟨h.1,h.2.mono hl⟩
  · obtain ⟨h1,h2,h3,h4,h5,h6,K',h7⟩:=h
    exact ⟨h1,h2,h3.mono hl,h4,h5,h6,K',hl _ _ h7⟩
  · exact h
  · exact h.elim
theorem HR.lt (h:HR ν H F w) {k r K:Nat} {b:AB} (hk:hget H k=some b) (hr:ν k=some (r,K)):r < w.heap.size:=by
  obtain ⟨r',K',o,h1,h2,-⟩:=h.blk k b hk
  rw [hr] at h1
  cases h1
  exact lt_of_heap' h2
theorem HR.cells (h:HR ν H F w) {k n ww:Nat} {t:Tr Value} {ty:TypeId} {ro:Bool} {r K:Nat} (hk:hget H k=some (.cells n t ty ww ro)) (hr:ν k=some (r,K)):∃ c ty' fz,w.heap[r]?=some (.cells c ty' fz) /\ CR ν K n t ty ww c ty' fz:=by
  obtain ⟨r',K',o,h1,h2,h3⟩:=h.blk _ _ hk
  rw [hr] at h1
  cases h1
  unfold OR at h3
  split at h3
  · rename_i e1;cases e1;exact ⟨_,_,_,h2,h3⟩
  · rename_i e1;cases e1
  · rename_i e1;cases e1
  · rename_i e1;cases e1
  · exact h3.elim
theorem HR.map (h:HR ν H F w) {k cl:Nat} {es:List (Value × Value × Nat)} {r K:Nat} (hk:hget H k=some (.map es cl)) (hr:ν k=some (r,K)):∃ es',w.heap[r]?=some (.map es' cl) /\ ER ν es es'.toList:=by
  obtain ⟨r',K',o,h1,h2,h3⟩:=h.blk _ _ hk
  rw [hr] at h1
  cases h1
  unfold OR at h3
  split at h3
  · rename_i e1;cases e1
  · rename_i e1;cases e1;obtain ⟨e,h4⟩:=h3;subst e;exact ⟨_,h2,h4⟩
  · rename_i e1;cases e1
  · rename_i e1;cases e1
  · exact h3.elim
theorem cell_of {c:Array Value} {ty:TypeId} {fz:Nat × Nat} {b i:Nat} (h:w.heap[b]?=some (.cells c ty fz)):w.cell? ⟨b,i,none⟩=c[i]?:=by
  simp [World.cell?,h]
theorem readN_rel {c:Array Value} {n:Nat} {t:Tr Value} (hle:n <= c.size) (hg:∀ i,i < n -> ∃ v',c[i]?=some v' /\ VRi ν (tget t i) v'):∀ (k i:Nat),i+k <= n -> LR ν (readN t i k) ((c.toList.drop i).take k)
  | 0,i,_=>by simp only [readN,List.take_zero];exact .nil
  | k+1,i,h=>by
    obtain ⟨v',e,r⟩:=hg i (by omega)
    have hlt:i < c.toList.length:=by simp;omega
    rw [List.drop_eq_getElem_cons hlt,List.take_succ_cons]
    have:c.toList[i]=v':=by
      have:=(Array.getElem?_eq_some_iff.1 e).2
      simpa using this
    rw [this]
    exact .cons r (readN_rel hle hg k (i+1) (by omega))
theorem loadCells_run {b off:Nat}:∀ (vs:List Value) (i:Nat) (acc:Array Value),(∀ j (hj:j < vs.length),w.cell? ⟨b,off+(i+j),none⟩=some vs[j]) -> (loadCellsFrom ⟨b,off,none⟩ i vs.length acc).run P w=.ok (acc++⟨vs⟩) w
  | [],i,acc,_=>by simp [loadCellsFrom,run_pu]
  | v :: vs,i,acc,h=>by
    rw [List.length_cons,loadCellsFrom,Sem.run_bind]
    have h0:=h 0 (by simp)
    simp only [Nat.add_zero,List.getElem_cons_zero] at h0
    have h1:(load ((⟨b,off,none⟩:Addr).add i)).run P w=.ok v w:=by
      rw [add_eq]
      unfold load
      rw [Sem.run,h0]
      rfl
    rw [h1]
    simp only [Result.andThen_ok]
    rw [loadCells_run vs (i+1) _ (λ j hj=>by
      have:=h (j+1) (by simp;omega)
      simp only [List.getElem_cons_succ] at this
      rw [<- this];congr 2;omega)]
    simp
theorem loadVar_run {t:TypeId} {b off n:Nat} {c:Array Value} {ty:TypeId} {fz:Nat × Nat} {tr:Tr Value} {v:Value} (hw:w.heap[b]?=some (.cells c ty fz)) (hle:n <= c.size) (hg:∀ i,i < n -> ∃ v',c[i]?=some v' /\ VRi ν (tget tr i) v')
    (h:(match oneC P t with
      | true=>match Nat.blt off n with
        | true=>some (tget tr off)
        | false=>none
      | false=>match aggC P t with
        | some k=>match Nat.ble (off+k) n with
          | true=>some (.agg ⟨readN tr off k⟩)
          | false=>none
        | none=>none)=some v):∃ v',VRi ν v v' /\ (loadVar t ⟨b,off,none⟩).run P w=.ok v' w:=by
  split at h
  · rename_i h1
    split at h
    · rename_i hlt
      cases h
      obtain ⟨v',e,r⟩:=hg off (blt_lt hlt)
      refine ⟨v',r,?_⟩
      unfold loadVar
      rw [Sem.run_bind,oneC_run h1]
      simp only [Result.andThen_ok,Bool.false_eq_true,if_false]
      unfold load
      rw [Sem.run,cell_of hw,e]
      rfl
    · cases h
  · split at h
    · rename_i k hk
      split at h
      · rename_i hlt
        cases h
        obtain ⟨h1,h2,h3⟩:=aggC_run hk
        have hle2:=Nat.le_of_ble_eq_true hlt
        have hl:=readN_rel hle hg k off hle2
        refine ⟨.agg ⟨(c.toList.drop off).take k⟩,.agg_of hl,?_⟩
        have hlen:((c.toList.drop off).take k).length=k:=by simp;omega
        unfold loadVar
        rw [Sem.run_bind,h1]
        simp only [Result.andThen_ok,if_true]
        rw [Sem.run_bind,h2]
        simp only [Result.andThen_ok]
        rw [Sem.run_bind]
        unfold loadCells
        have:=loadCells_run (P:=P) (w:=w) (b:=b) (off:=off) ((c.toList.drop off).take k) 0 #[] (λ j hj=>by
          rw [cell_of hw]
          have hj2:off+(0+j) < c.size:=by rw [hlen] at hj;omega
          rw [Array.getElem?_eq_getElem hj2]
          simp)
        rw [hlen] at this
        rw [this]
        simp [Result.andThen,run_pu]
      · cases h
    · cases h
theorem loadA_ok {t:TypeId} {ad ad':Addr} {v:Value} (hH:HR ν H F w) (hp:VRi ν (.pointer (some ad)) (.pointer (some ad'))) (h:loadA P t H ad=some v):∃ v',VRi ν v v' /\ (loadVar t ad').run P w=.ok v' w:=by
  cases hp with
  | atom _ h=>simp [atomV] at h
  | @ptr hd b K o hν =>
    unfold loadA at h
    split at h
    case h_2=>cases h
    rename_i n tr ty ww ro hs hb
    simp only at hb h
    obtain ⟨c,ty',fz,hw,hc⟩:=hH.cells hb hν
    exact loadVar_run hw hc.le hc.get h
def keyD:TypeDesc -> Value -> Bool
  | .int _,.int _ _=>true
  | .string,.string _=>true
  | .bool,.bool _=>true
  | _,_=>false
theorem keyT_d {t:TypeId} {k:Value} (h:keyT P t k=true):∃ d,P.underlying t=some d /\ keyD d k=true:=by
  unfold keyT at h
  split at h <;> first | (cases h;done) | (rename_i e;exact ⟨_,e,rfl⟩)
theorem keyD_plain {d:TypeDesc} {k:Value} (h:keyD d k=true):pl k=true /\ atomV k=true:=by
  unfold keyD at h
  split at h <;> first | (cases h;done) | exact ⟨rfl,rfl⟩
theorem eqKey_same {d:TypeDesc} {k k':Value} {r:Bool} (h:eqKey k k'=some r) (hk:keyD d k=true):Instr.sameNow d k k'=some r:=by
  unfold keyD at hk
  split at hk <;> first | (cases hk;done) | skip
  · rename_i k1 k2 n1
    cases k' with
    | int k3 n2 =>
      unfold eqKey at h
      by_cases e:k2=k3
      · simp only [e,decide_true] at h
        cases h
        simp [Instr.sameNow,e]
      · simp [e] at h
    | _=>simp [eqKey] at h
  · cases k' with
    | string s2=>unfold eqKey at h;cases h;rfl
    | _=>simp [eqKey] at h
  · cases k' with
    | bool s2=>unfold eqKey at h;cases h;rfl
    | _=>simp [eqKey] at h
theorem checkKey_run {t:TypeId} {k:Value} (h:keyT P t k=true) (e:Bool) (w:World):(Instr.checkKey e 10000 t k).run P w=.ok () w:=by
  obtain ⟨d,hd,hk⟩:=keyT_d h
  rw [show (10000:Nat)=9999+1 from rfl,Instr.checkKey.eq_def]
  simp only
  rw [Sem.run_bind,und_run hd]
  unfold keyD at hk
  split at hk <;> first | (cases hk;done) | rfl
theorem findA_now {d:TypeDesc} {k:Value} (hk:keyD d k=true) {es:List (Value × Value × Nat)} {es':List MapEntry} (h:ER ν es es'):∀ {r:Option Value} (i:Nat),findA k es=some r ->
    (r=none /\ Instr.findNow d k es' i=some none) \/ (∃ v v' j,r=some v /\ VRi ν v v' /\ Instr.findNow d k es' i=some (some (j,v'))):=by
  induction h with
  | nil=>intro r i h;rw [findA] at h;cases h;exact .inl ⟨rfl,rfl⟩
  | cons k' b hv _ ih =>
    intro r i h
    rw [findA] at h
    split at h
    · rename_i e
      cases h
      exact .inr ⟨_,_,i,rfl,hv,by rw [Instr.findNow];simp only [eqKey_same e hk]⟩
    · rename_i e
      rcases ih (i+1) h with ⟨h1,h2⟩ | ⟨v,v',j,h1,h2,h3⟩
      · exact .inl ⟨h1,by rw [Instr.findNow];simp only [eqKey_same e hk];exact h2⟩
      · exact .inr ⟨v,v',j,h1,h2,by rw [Instr.findNow];simp only [eqKey_same e hk];exact h3⟩
    · cases h
theorem zeroV_run {t:TypeId} {z:Value} (h:zeroV P t=some z) (w:World):(zeroValue t).run P w=.ok z w /\ pl z=true:=by
  unfold zeroV at h
  split at h
  case h_2=>cases h
  rename_i i hi
  split at h
  case h_2=>cases h
  rename_i zv hz
  split at h
  case h_2=>cases h
  rename_i hp
  cases h
  refine ⟨?_,hp⟩
  unfold zeroValue
  rw [Sem.run_bind,info_run hi]
  simp only [Result.andThen_ok,hz]
  rfl
theorem okTup_rel {ok b:Bool} {v v':Value} (h:VRi ν v v'):VRi ν (okTup ok v b) (if ok=true then .tuple #[v',.bool b] else v'):=by
  cases ok with
  | true=>exact .tuple_of (.cons h (.cons (.atom _ rfl) .nil))
  | false=>exact h
theorem lookA_ok {t:TypeId} {m m' k:Value} {ok:Bool} {v:Value} (hH:HR ν H F w) (hm:VRi ν m m') (h:lookA P t H m k ok=some v):pl k=true /\ ∃ v',VRi ν v v' /\ (Instr.lookup t m' k ok).run P w=.ok v' w:=by
  unfold lookA at h
  split at h
  case h_2=>cases h
  rename_i kt et hu
  split at h
  case h_2=>cases h
  rename_i hk
  obtain ⟨d,hd,hkd⟩:=keyT_d hk
  have hf:∀ es,(∀ r,Instr.findNow d k es 0=some r -> (Instr.findKey kt k es).run P w=.ok r w):=λ es r hr=>by
    unfold Instr.findKey
    rw [Sem.run_bind,und_run hd]
    simp only [Result.andThen_ok,hr]
    rfl
  refine ⟨(keyD_plain hkd).1,?_⟩
  split at h
  · split at h
    · rename_i z hz
      cases h
      cases hm
      obtain ⟨h1,h2⟩:=zeroV_run hz w
      refine ⟨_,okTup_rel (.plain_refl _ h2),?_⟩
      unfold Instr.lookup
      rw [Sem.run_bind,und_run hu]
      simp only [Result.andThen_ok,Sem.run_bind,run_pu,checkKey_run hk,hf [] none rfl,h1]
      try (cases ok <;> rfl)
    · cases h
  · rename_i r
    split at h
    · rename_i es cl hb
      cases hm with
      | atom _ h=>simp [atomV] at h
      | @map _ b K hν =>
      obtain ⟨es',hw,hE⟩:=hH.map hb hν
      have hg:(getObj b).run P w=.ok (.map es' cl) w:=getObj_run hw
      split at h
      · rename_i v0 hfi
        cases h
        rcases findA_now hkd hE 0 hfi with ⟨h1,h2⟩ | ⟨v1,v',j,h1,h2,h3⟩
        · cases h1
        · cases h1
          refine ⟨_,okTup_rel h2,?_⟩
          unfold Instr.lookup
          rw [Sem.run_bind,und_run hu]
          simp only [Result.andThen_ok,Sem.run_bind,hg,run_pu,checkKey_run hk,hf _ _ h3]
          try (cases ok <;> rfl)
      · rename_i hfi
        split at h
        · rename_i z hz
          cases h
          obtain ⟨h1,h2⟩:=zeroV_run hz w
          rcases findA_now hkd hE 0 hfi with ⟨h3,h4⟩ | ⟨v1,v',j,h3,h4,h5⟩
          · refine ⟨_,okTup_rel (.plain_refl _ h2),?_⟩
            unfold Instr.lookup
            rw [Sem.run_bind,und_run hu]
            simp only [Result.andThen_ok,Sem.run_bind,hg,run_pu,checkKey_run hk,hf _ _ h4,h1]
            try (cases ok <;> rfl)
          · cases h3
        · cases h
      · cases h
    · cases h
  · cases h
end hp
end Go.Proofs.YthoijjeddhfcnaaGreat
