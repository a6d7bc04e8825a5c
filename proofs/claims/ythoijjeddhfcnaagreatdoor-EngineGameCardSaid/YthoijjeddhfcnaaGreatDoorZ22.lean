import Derived.Test.YthoijjeddhfcnaaGreatDoorZ21
import Derived.Deep.AppendSrc
import Derived.Laws.AppendOwn
set_option maxHeartbeats 4000000
set_option maxRecDepth 100000
set_option linter.unusedSimpArgs false
set_option linter.unusedVariables false
namespace Go.Proofs.YthoijjeddhfcnaaGreatDoor
open Go.RowKit
section fr
variable {ν ν':Nu} {P:Program} {G N:Nat} {T T':Tr Value} {a:Act}
theorem Fk{t:TypeId}{u v u' v':Value}{r:Bool}(h:E3 u v=some r)(ht:Iy P t u=true)(hu:VRi ν u u')(hv:VRi ν v v')(w:World):(Op.equal t u' v').run P w=.ok r w:=by
 show (Op.equalIn 10000 t u' v').run P w=_
 rw[show (10000:Nat)=9999+1 from rfl,Op.equalIn.eq_def]
 simp only
 unfold E3 at h
 split at h <;> first|(cases h;done)|skip
 all_goals
  cases h
  unfold Iy at ht
  split at ht <;> first|(cases ht;done)|skip
  rename_i hd
  rw[Sem.run_bind,bg hd]
  simp only[Result.andThen_ok]
  cases hu <;> cases hv <;> first|rfl|(rename_i e;cases e;done)|(rename_i e1 e2;cases e1;done)|(rename_i e1 e2;cases e2;done)
theorem tL{w:World}{ρ:Operand -> Value}{o:Oper}{t el:TypeId}{x i:Operand}{b off n c j sz:Nat}{k:IntKind}(ho:o.op=.indexAddr t x i)(hx:ρ x=.slice (some ⟨b,off,none⟩) n c)(hi:ρ i=.int k (j:Int))(ht:P.underlying t=some (.slice el))(hj:j<n)(hs:fe P el=some sz) :
  (execOp ρ o).run P w=.ok (.value (.pointer (some ⟨b,off+j*sz,none⟩))) w:=by
 have h1:=λ W=>bg ht W
 have h2:=λ W=>ez hs W
 have h3:(0:Int) <= (j:Int) /\ (j:Int)<(n:Int):=⟨by omega,by omega⟩
 simp[execOp,ho,Instr.indexAt,hx,hi,asIntOf,Sem.run_bind,h1,h2,hj,mj]
theorem yx{w:World}{ρ:Operand -> Value}{o:Oper}{t el:TypeId}{x i:Operand}{b off n j sz:Nat}{k:IntKind}(ho:o.op=.indexAddr t x i)(hx:ρ x=.pointer (some ⟨b,off,none⟩))(hi:ρ i=.int k (j:Int))(ht:P.underlying t=some (.array n el))(hj:j<n)(hs:fe P el=some sz) :
  (execOp ρ o).run P w=.ok (.value (.pointer (some ⟨b,off+j*sz,none⟩))) w:=by
 have h1:=λ W=>bg ht W
 have h2:=λ W=>ez hs W
 simp[execOp,ho,Instr.indexAt,Instr.sureAddr,hx,hi,asIntOf,Sem.run_bind,h1,h2,hj,mj]
theorem yz{w:World}{ρ:Operand -> Value}{o:Oper}{t el:TypeId}{x i:Operand}{cs:Array Value}{n j sz:Nat}{k:IntKind}{v:Value}(ho:o.op=.index t x i)(hx:ρ x=.agg cs)(hi:ρ i=.int k (j:Int))(ht:P.underlying t=some (.array n el))(hj:j<n)(hs:fe P el=some sz)(hp:mZ P el cs.toList (j*sz)=some v) :
  (execOp ρ o).run P w=.ok (.value v) w:=by
 have h1:=λ W=>bg ht W
 have h2:=λ W=>ez hs W
 have h3:=si hp
 simp[execOp,ho,Instr.index,hx,hi,asIntOf,Sem.run_bind,h1,h2,h3,hj]
theorem Fl{w:World}{ρ:Operand -> Value}{o:Oper}{t:TypeId}{x:Operand}{n:Nat}(ho:o.op=.call { callee:=.builtin .len,args:=#[x],argTypes:=#[t] })(hl:yn P t (ρ x)=some n):(execOp ρ o).run P w=.ok (.value (.int .i64 (n:Int))) w:=by
 unfold yn at hl
 split at hl
 case h_3=>cases hl
 all_goals
  rename_i hu hx
  cases hl
  have h1:=λ W=>bg hu W
  simp[execOp,ho,resolve,invoke,builtin,Builtin.len_,hx,Sem.run_bind,h1,goInt]
theorem Fp{t:TypeId}{v v':Value}{n:Nat}(hr:VRi ν v v')(h:yn P t v=some n):yn P t v'=some n:=by
 cases hr with
 | atom v _=>exact h
 | slice o n h1 c =>
  unfold yn at h ⊢
  cases hu:P.underlying t with
  | none=>simp[hu] at h
  | some d=>rw[hu] at h;cases d <;> simp at h ⊢;exact h
 | _ =>
  unfold yn at h
  cases hu:P.underlying t with
  | none=>simp[hu] at h
  | some d=>rw[hu] at h;cases d <;> simp at h
theorem wc{w:World}{ρ:Operand -> Value}{o:Oper}{op:BinOp}{t ty:TypeId}{x y:Operand}{u v:Value}{r:Bool}(ho:o.op=.binOp op t x y ty)(hx:VRi ν u (ρ x))(hy:VRi ν v (ρ y))(hr:E3 u v=some r)(ht:Iy P t u=true) :
  (op=.eql -> (execOp ρ o).run P w=.ok (.value (.bool r)) w) /\ (op=.neq -> (execOp ρ o).run P w=.ok (.value (.bool (!r))) w):=by
 have q:=Fk hr ht hx hy w
 generalize hu:ρ x=u' at *
 generalize hv:ρ y=v' at *
 unfold E3 at hr
 split at hr <;> first|(cases hr;done)|skip
 all_goals
  cases hx <;> cases hy <;> refine⟨λ e=>?_,λ e=>?_⟩ <;> subst e <;> simp[execOp,ho,hu,hv,eqGuard,Go.binOp,Sem.run_bind,q,cT,Result.andThen]
theorem we{o:Oper}{v:Value}(h:gq P o T=some v){l:List Operand}(hl:cD o.op=some l)(aT:OK ν T a l):∃v',VRi ν v v' /\ ∀w,(execOp a.eval o).run P w=.ok (.value v') w:=by
 have DO:f6 P T o=some v -> ∃v',VRi ν v v' /\ ∀w,(execOp a.eval o).run P w=.ok (.value v') w:=λ h=>nJ h hl aT
 unfold gq at h
 split at h
 ·rename_i x ho
  rw[ho] at hl;simp only[cD,Option.some.injEq] at hl;subst hl
  cases h
  exact⟨_,aT x (by simp),λ w=>by simp[execOp,ho,pure,Sem.run]⟩
 ·rename_i x ho
  rw[ho] at hl;simp only[cD,Option.some.injEq] at hl;subst hl
  cases h
  exact⟨_,aT x (by simp),λ w=>by simp[execOp,ho,pure,Sem.run]⟩
 ·rename_i c x y ho
  rw[ho] at hl;simp only[cD,Option.some.injEq] at hl;subst hl
  have hc:=aT c (by simp)
  split at h
  ·rename_i e
   cases h
   rw[e] at hc
   have e':=hc.plain_eq rfl
   exact⟨_,aT x (by simp),λ w=>by simp[execOp,ho,e',asBool,Sem.run_bind,pure,Sem.run,Result.andThen]⟩
  ·rename_i e
   cases h
   rw[e] at hc
   have e':=hc.plain_eq rfl
   exact⟨_,aT y (by simp),λ w=>by simp[execOp,ho,e',asBool,Sem.run_bind,pure,Sem.run,Result.andThen]⟩
  ·cases h
 ·rename_i t parts ho
  rw[ho] at hl;simp only[cD,Option.some.injEq] at hl;subst hl
  obtain⟨v',r,e⟩:=Ci h (p5 aT)
  refine⟨v',r,λ w=>?_⟩
  have:=e w
  have e2:(parts.map λ (p:Nat × Operand)=>(p.1,a.eval p.2))=⟨parts.toList.map λ p=>(p.1,a.eval p.2)⟩:=by apply Array.ext';simp
  simp only[execOp,ho,Sem.run_bind]
  rw[e2,this]
  rfl
 ·rename_i x ho
  rw[ho] at hl;simp only[cD,Option.some.injEq] at hl;subst hl
  have hx:=aT x (by simp)
  split at h
  ·rename_i ad e
   cases h
   rw[e] at hx
   refine⟨_,hx,λ w=>?_⟩
   generalize hu:a.eval x=u at hx
   cases hx with
   | atom _ h=>simp[cQ] at h
   | ptr o h=>simp[execOp,ho,hu,pure,Sem.run,bind,Sem.bind]
  ·rename_i f first captured e
   cases h
   rw[e] at hx
   refine⟨_,hx,λ w=>?_⟩
   generalize hu:a.eval x=u at hx
   cases hx with
   | atom _ h=>simp[cQ] at h
   | func hf _ _ _ _=>cases hf;simp[execOp,ho,hu,pure,Sem.run,bind,Sem.bind]
  ·rename_i t v e
   cases h
   rw[e] at hx
   refine⟨_,hx,λ w=>?_⟩
   generalize hu:a.eval x=u at hx
   cases hx with
   | atom _ h=>simp[cQ] at h
   | iface t hf=>simp[execOp,ho,hu,pure,Sem.run,bind,Sem.bind]
  ·cases h
 ·rename_i op t x y ty ho
  have hx:=aT x (by rw[ho] at hl;simp only[cD,Option.some.injEq] at hl;subst hl;simp)
  have hy:=aT y (by rw[ho] at hl;simp only[cD,Option.some.injEq] at hl;subst hl;simp)
  split at h
  ·rename_i k m k' n ex ey
   rw[ex] at hx;rw[ey] at hy
   have ex':=hx.plain_eq rfl
   have ey':=hy.plain_eq rfl
   split at h
   ·rename_i r hr
    split at h
    ·rename_i hk
     cases h
     have Tu:k=k':=of_decide_eq_true hk
     subst Tu
     exact⟨_,.atom _ rfl,λ w=>Fj ho ex' ey' hr⟩
    ·cases h
   ·exact DO h
  ·split at h
   ·rename_i r hr
    split at h
    ·rename_i ht
     cases h
     exact⟨_,.atom _ rfl,λ w=>(wc ho hx hy hr ht).1 rfl⟩
    ·rename_i ht
     cases h
     exact⟨_,.atom _ rfl,λ w=>(wc ho hx hy hr ht).2 rfl⟩
    ·cases h
   ·exact DO h
 ·rename_i t x ho
  rw[ho] at hl;simp only[cD,Option.some.injEq] at hl;subst hl
  have hx:=aT x (by simp)
  split at h
  ·cases h
  ·rename_i d hd hu
   cases h
   refine⟨_,.iface t hx,λ w=>?_⟩
   simp only[execOp,ho,Instr.makeInterface,Sem.run_bind,bg hu,Result.andThen_ok]
   cases d <;> first|rfl|exact(hd _ hu).elim
  ·cases h
 ·rename_i fn first captured ho
  rw[ho] at hl;simp only[cD,Option.some.injEq] at hl;subst hl
  split at h
  ·rename_i f
   cases h
   have h1:=kM (ν:=ν) (T:=T) (a:=a) (l:=first.toList) (λ x hx=>aT x (List.mem_append_left _ hx))
   have h2:=kM (ν:=ν) (T:=T) (a:=a) (l:=captured.toList) (λ x hx=>aT x (List.mem_append_right _ hx))
   have e1:first.map a.eval=⟨first.toList.map a.eval⟩:=by apply Array.ext';simp
   have e2:captured.map a.eval=⟨captured.toList.map a.eval⟩:=by apply Array.ext';simp
   refine⟨.func (.func f) (first.map a.eval) (captured.map a.eval),by rw[e1,e2];exact .func_of (.func f) h1 h2,λ w=>?_⟩
   simp[execOp,ho,Instr.makeFunc,pure,Sem.run,bind,Sem.bind]
  ·cases h
 ·rename_i t x j ho
  rw[ho] at hl;simp only[cD,Option.some.injEq] at hl;subst hl
  have hx:=aT x (by simp)
  split at h
  ·rename_i ad k ft e hf
   cases h
   rw[e] at hx
   generalize hu:a.eval x=u at hx
   cases hx with
   | atom _ h=>simp[cQ] at h
   | ptr o h =>
    refine⟨_,?_,λ w=>yv ho hu hf⟩
    rw[m6,mj]
    exact .ptr _ h
  ·cases h
 ·rename_i t x j ho
  rw[ho] at hl;simp only[cD,Option.some.injEq] at hl;subst hl
  have hx:=aT x (by simp)
  split at h
  ·rename_i cs k ft e hf
   rw[e] at hx
   generalize hu:a.eval x=u at hx
   cases hx with
   | atom _ h=>simp[cQ] at h
   | agg he hg =>
    obtain⟨v',e1,r⟩:=sj (LR.of_arr he hg) h
    exact⟨v',r,λ w=>yw ho hu hf e1⟩
  ·cases h
 ·rename_i t x i ho
  rw[ho] at hl;simp only[cD,Option.some.injEq] at hl;subst hl
  have hx:=aT x (by simp)
  have hi:=aT i (by simp)
  split at h
  ·rename_i el ad n c j ht e ei
   split at h
   ·rename_i k hj hs
    cases h
    rw[e] at hx
    obtain⟨kk,ej⟩:=ml ei hi
    generalize hu:a.eval x=u at hx
    cases hx with
    | atom _ h=>simp[cQ] at h
    | slice o n h hc =>
     refine⟨_,?_,λ w=>tL ho hu ej ht (dU hj) hs⟩
     rw[m6]
     exact .ptr _ h
   ·cases h
  ·rename_i n el ad j ht e ei
   split at h
   ·rename_i k hj hs
    cases h
    rw[e] at hx
    obtain⟨kk,ej⟩:=ml ei hi
    generalize hu:a.eval x=u at hx
    cases hx with
    | atom _ h=>simp[cQ] at h
    | ptr o h =>
     refine⟨_,?_,λ w=>yx ho hu ej ht (dU hj) hs⟩
     rw[m6]
     exact .ptr _ h
   ·cases h
  ·cases h
 ·rename_i t x i ho
  have hx:=aT x (by rw[ho] at hl;simp only[cD,Option.some.injEq] at hl;subst hl;simp)
  have hi:=aT i (by rw[ho] at hl;simp only[cD,Option.some.injEq] at hl;subst hl;simp)
  split at h
  ·rename_i n el cs j ht e ei
   split at h
   ·rename_i k hj hs
    rw[e] at hx
    obtain⟨kk,ej⟩:=ml ei hi
    generalize hu:a.eval x=u at hx
    cases hx with
    | atom _ h=>simp[cQ] at h
    | agg he hg =>
     obtain⟨v',e1,r⟩:=sj (LR.of_arr he hg) h
     exact⟨v',r,λ w=>yz ho hu ej ht (dU hj) hs e1⟩
   ·cases h
  ·exact DO h
 ·rename_i x i ho
  rw[ho] at hl;simp only[cD,Option.some.injEq] at hl;subst hl
  have hx:=aT x (by simp)
  split at h
  ·rename_i cs e
   rw[e] at hx
   generalize hu:a.eval x=u at hx
   cases hx with
   | atom _ h=>simp[cQ] at h
   | @tuple _ c' he hg =>
    rw[jW] at h
    obtain⟨v',e1,r⟩:=(LR.of_arr he hg).get h
    refine⟨v',r,λ w=>?_⟩
    have e2:c'[i]?=some v':=by simpa using e1
    simp[execOp,ho,hu,Instr.extract,e2,Sem.run_bind,cT,Result.andThen]
  ·cases h
 ·rename_i c ho
  split at h
  ·rename_i x t hq
   unfold Ll at hq
   split at hq
   case h_2=>cases hq
   rename_i y u
   have hyx:y=x /\ u=t:=by
    split at hq <;> first|(cases hq;exact⟨rfl,rfl⟩)|cases hq
   obtain⟨rfl,rfl⟩:=hyx
   have hx:=aT y (by rw[ho] at hl;simp only[cD,Option.some.injEq] at hl;subst hl;simp)
   split at h
   ·rename_i n hn
    cases h
    exact⟨_,.atom _ rfl,λ w=>Fl ho (Fp hx hn)⟩
   ·cases h
  ·exact DO h
 ·exact DO h
end fr
inductive ER(ν:Nu):List (Value × Value × Nat) -> List MapEntry -> Prop
 | nil:ER ν [] []
 | cons {v v':Value} {l:List (Value × Value × Nat)} {l':List MapEntry} (k:Value) (b:Nat):VRi ν v v' -> ER ν l l' -> ER ν ((k,v,b)::l) (⟨k,v',b⟩::l')
structure CR(ν:Nu)(K n:Nat)(t:Tr Value)(ty:TypeId)(w:Nat)(c:Array Value)(ty':TypeId)(fz:Nat × Nat):Prop where
 ty:ty'=ty
 le:n <= c.size
 fz:fz=(0,0)
 get:∀i,i<n -> ∃v',c[i]?=some v' /\ VRi ν (da t i) v'
 gr:w≠0 -> c.size=K*w
def OR(ν:Nu)(K:Nat):AB -> Obj -> Prop
 | .cells n t ty w _,.cells c ty' fz=>CR ν K n t ty w c ty' fz
 | .map es clock,.map Qf Wm=>Wm=clock /\ ER ν es Qf.toList
 | .loop st pend T N ps as bo d,.loop r=>r.state=st /\ r.pending=pend /\ TRel ν N T r.tmps /\ r.params=ps /\ r.assign=as /\ r.body=bo /\ ∃K',ν d=some (r.defers,K')
 | .dfr shut,.deferred c=>c=(match shut with|true=>none|false=>some [])
 | _,_=>False
def Fq:AB -> Bool
 | .cells _ _ _ _ ro=>!ro
 | _=>true
structure HR(ν:Nu)(H:AH)(F:HL)(w:World):Prop where
 blk:∀h b,cr H h=some b -> ∃r K o,ν h=some (r,K) /\ w.heap[r]?=some o /\ OR ν K b o
 inj:∀h₁ h₂ b₁ b₂ r K₁ K₂,cr H h₁=some b₁ -> cr H h₂=some b₂ -> ν h₁=some (r,K₁) -> ν h₂=some (r,K₂) -> h₁=h₂
 frm:∀x∈F,w.heap[x.1]?=some x.2.den
 apt:∀h b r K,cr H h=some b -> ν h=some (r,K) -> ∀x∈F,x.1≠r
section hp
variable {ν ν':Nu} {P:Program} {G N:Nat} {T T':Tr Value} {a:Act} {H:AH} {F:HL} {w:World}
theorem ER.mono{l:List (Value × Value × Nat)}{l':List MapEntry}(h:ER ν l l')(hl:ν.Le ν'):ER ν' l l':=by
 induction h with
 | nil=>exact .nil
 | cons k b hv _ ih=>exact .cons k b (hv.mono hl) ih
theorem OR.mono{K:Nat}{b:AB}{o:Obj}(h:OR ν K b o)(hl:ν.Le ν'):OR ν' K b o:=by
 unfold OR at h ⊢
 split at h
 ·exact⟨h.ty,h.le,h.fz,λ i hi=>let ⟨v',e,r⟩:=h.get i hi;⟨v',e,r.mono hl⟩,h.gr⟩
 ·exact⟨h.1,h.2.mono hl⟩
 ·obtain⟨h1,h2,h3,h4,h5,h6,K',h7⟩:=h
  exact⟨h1,h2,h3.mono hl,h4,h5,h6,K',hl _ _ h7⟩
 ·exact h
 ·exact h.elim
theorem HR.lt(h:HR ν H F w){k r K:Nat}{b:AB}(hk:cr H k=some b)(hr:ν k=some (r,K)):r<w.heap.size:=by
 obtain⟨r',K',o,h1,h2,-⟩:=h.blk k b hk
 rw[hr] at h1
 cases h1
 exact dG h2
theorem HR.cells(h:HR ν H F w){k n ww:Nat}{t:Tr Value}{ty:TypeId}{ro:Bool}{r K:Nat}(hk:cr H k=some (.cells n t ty ww ro))(hr:ν k=some (r,K)):∃c ty' fz,w.heap[r]?=some (.cells c ty' fz) /\ CR ν K n t ty ww c ty' fz:=by
 obtain⟨r',K',o,h1,h2,h3⟩:=h.blk _ _ hk
 rw[hr] at h1
 cases h1
 unfold OR at h3
 split at h3
 ·rename_i e1;cases e1;exact⟨_,_,_,h2,h3⟩
 ·rename_i e1;cases e1
 ·rename_i e1;cases e1
 ·rename_i e1;cases e1
 ·exact h3.elim
theorem HR.map(h:HR ν H F w){k cl:Nat}{es:List (Value × Value × Nat)}{r K:Nat}(hk:cr H k=some (.map es cl))(hr:ν k=some (r,K)):∃Qf,w.heap[r]?=some (.map Qf cl) /\ ER ν es Qf.toList:=by
 obtain⟨r',K',o,h1,h2,h3⟩:=h.blk _ _ hk
 rw[hr] at h1
 cases h1
 unfold OR at h3
 split at h3
 ·rename_i e1;cases e1
 ·rename_i e1;cases e1;obtain⟨e,h4⟩:=h3;subst e;exact⟨_,h2,h4⟩
 ·rename_i e1;cases e1
 ·rename_i e1;cases e1
 ·exact h3.elim
theorem ln{c:Array Value}{ty:TypeId}{fz:Nat × Nat}{b i:Nat}(h:w.heap[b]?=some (.cells c ty fz)):w.cell? ⟨b,i,none⟩=c[i]?:=by
 simp[World.cell?,h]
theorem jB{c:Array Value}{n:Nat}{t:Tr Value}(hle:n <= c.size)(hg:∀i,i<n -> ∃v',c[i]?=some v' /\ VRi ν (da t i) v'):∀ (k i:Nat),i+k <= n -> LR ν (gt t i k) ((c.toList.drop i).take k)
 | 0,i,_=>by simp only[gt,List.take_zero];exact .nil
 | k+1,i,h=>by
  obtain⟨v',e,r⟩:=hg i (by omega)
  have iN:i<c.toList.length:=by simp;omega
  rw[List.drop_eq_getElem_cons iN,List.take_succ_cons]
  have:c.toList[i]=v':=by
   have:=(Array.getElem?_eq_some_iff.1 e).2
   simpa using this
  rw[this]
  exact .cons r (jB hle hg k (i+1) (by omega))
theorem lQ{b off:Nat}:∀ (vs:List Value) (i:Nat) (acc:Array Value),(∀j (hj:j<vs.length),w.cell? ⟨b,off+(i+j),none⟩=some vs[j]) -> (loadCellsFrom ⟨b,off,none⟩ i vs.length acc).run P w=.ok (acc++⟨vs⟩) w
 | [],i,acc,_=>by simp[loadCellsFrom,cT]
 | v::vs,i,acc,h=>by
  rw[List.length_cons,loadCellsFrom,Sem.run_bind]
  have h0:=h 0 (by simp)
  simp only[Nat.add_zero,List.getElem_cons_zero] at h0
  have h1:(load ((⟨b,off,none⟩:Addr).add i)).run P w=.ok v w:=by
   rw[mj]
   unfold load
   rw[Sem.run,h0]
   rfl
  rw[h1]
  simp only[Result.andThen_ok]
  rw[lQ vs (i+1) _ (λ j hj=>by
   have:=h (j+1) (by simp;omega)
   simp only[List.getElem_cons_succ] at this
   rw[<- this];congr 2;omega)]
  simp
theorem wg{t:TypeId}{b off n:Nat}{c:Array Value}{ty:TypeId}{fz:Nat × Nat}{tr:Tr Value}{v:Value}(hw:w.heap[b]?=some (.cells c ty fz))(hle:n <= c.size)(hg:∀i,i<n -> ∃v',c[i]?=some v' /\ VRi ν (da tr i) v')
  (h:(match vL P t with
   | true=>match Nat.blt off n with
    | true=>some (da tr off)
    | false=>none
   | false=>match yj P t with
    | some k=>match Nat.ble (off+k) n with
     | true=>some (.agg ⟨gt tr off k⟩)
     | false=>none
    | none=>none)=some v):∃v',VRi ν v v' /\ (loadVar t ⟨b,off,none⟩).run P w=.ok v' w:=by
 split at h
 ·rename_i h1
  split at h
  ·rename_i iN
   cases h
   obtain⟨v',e,r⟩:=hg off (dU iN)
   refine⟨v',r,?_⟩
   unfold loadVar
   rw[Sem.run_bind,wa h1]
   simp only[Result.andThen_ok,Bool.false_eq_true,if_false]
   unfold load
   rw[Sem.run,ln hw,e]
   rfl
  ·cases h
 ·split at h
  ·rename_i k hk
   split at h
   ·rename_i iN
    cases h
    obtain⟨h1,h2,h3⟩:=wb hk
    have SL:=Nat.le_of_ble_eq_true iN
    have hl:=jB hle hg k off SL
    refine⟨.agg ⟨(c.toList.drop off).take k⟩,.agg_of hl,?_⟩
    have hlen:((c.toList.drop off).take k).length=k:=by simp;omega
    unfold loadVar
    rw[Sem.run_bind,h1]
    simp only[Result.andThen_ok,if_true]
    rw[Sem.run_bind,h2]
    simp only[Result.andThen_ok]
    rw[Sem.run_bind]
    unfold loadCells
    have:=lQ (P:=P) (w:=w) (b:=b) (off:=off) ((c.toList.drop off).take k) 0 #[] (λ j hj=>by
     rw[ln hw]
     have hj2:off+(0+j)<c.size:=by rw[hlen] at hj;omega
     rw[Array.getElem?_eq_getElem hj2]
     simp)
    rw[hlen] at this
    rw[this]
    simp[Result.andThen,cT]
   ·cases h
  ·cases h
theorem wh{t:TypeId}{ad WN:Addr}{v:Value}(hH:HR ν H F w)(hp:VRi ν (.pointer (some ad)) (.pointer (some WN)))(h:r8 P t H ad=some v):∃v',VRi ν v v' /\ (loadVar t WN).run P w=.ok v' w:=by
 cases hp with
 | atom _ h=>simp[cQ] at h
 | @ptr hd b K o hν =>
  unfold r8 at h
  split at h
  case h_2=>cases h
  rename_i n tr ty ww ro hs hb
  simp only at hb h
  obtain⟨c,ty',fz,hw,hc⟩:=hH.cells hb hν
  exact wg hw hc.le hc.get h
def tM:TypeDesc -> Value -> Bool
 | .int _,.int _ _=>true
 | .string,.string _=>true
 | .bool,.bool _=>true
 | _,_=>false
theorem yA{t:TypeId}{k:Value}(h:E5 P t k=true):∃d,P.underlying t=some d /\ tM d k=true:=by
 unfold E5 at h
 split at h <;> first|(cases h;done)|(rename_i e;exact⟨_,e,rfl⟩)
theorem p6{d:TypeDesc}{k:Value}(h:tM d k=true):pl k=true /\ cQ k=true:=by
 unfold tM at h
 split at h <;> first|(cases h;done)|exact⟨rfl,rfl⟩
theorem f8{d:TypeDesc}{k k':Value}{r:Bool}(h:kL k k'=some r)(hk:tM d k=true):Instr.sameNow d k k'=some r:=by
 unfold tM at hk
 split at hk <;> first|(cases hk;done)|skip
 ·rename_i k1 k2 n1
  cases k' with
  | int k3 n2 =>
   unfold kL at h
   by_cases e:k2=k3
   ·simp only[e,decide_true] at h
    cases h
    simp[Instr.sameNow,e]
   ·simp[e] at h
  | _=>simp[kL] at h
 ·cases k' with
  | string s2=>unfold kL at h;cases h;rfl
  | _=>simp[kL] at h
 ·cases k' with
  | bool s2=>unfold kL at h;cases h;rfl
  | _=>simp[kL] at h
theorem fO{t:TypeId}{k:Value}(h:E5 P t k=true)(e:Bool)(w:World):(Instr.checkKey e 10000 t k).run P w=.ok () w:=by
 obtain⟨d,hd,hk⟩:=yA h
 rw[show (10000:Nat)=9999+1 from rfl,Instr.checkKey.eq_def]
 simp only
 rw[Sem.run_bind,bg hd]
 unfold tM at hk
 split at hk <;> first|(cases hk;done)|rfl
theorem sk{d:TypeDesc}{k:Value}(hk:tM d k=true){es:List (Value × Value × Nat)}{Qf:List MapEntry}(h:ER ν es Qf):∀ {r:Option Value} (i:Nat),vN k es=some r ->
  (r=none /\ Instr.findNow d k Qf i=some none) \/ (∃v v' j,r=some v /\ VRi ν v v' /\ Instr.findNow d k Qf i=some (some (j,v'))):=by
 induction h with
 | nil=>intro r i h;rw[vN] at h;cases h;exact .inl ⟨rfl,rfl⟩
 | cons k' b hv _ ih =>
  intro r i h
  rw[vN] at h
  split at h
  ·rename_i e
   cases h
   exact .inr ⟨_,_,i,rfl,hv,by rw[Instr.findNow];simp only[f8 e hk]⟩
  ·rename_i e
   rcases ih (i+1) h with ⟨h1,h2⟩|⟨v,v',j,h1,h2,h3⟩
   ·exact .inl ⟨h1,by rw[Instr.findNow];simp only[f8 e hk];exact h2⟩
   ·exact .inr ⟨v,v',j,h1,h2,by rw[Instr.findNow];simp only[f8 e hk];exact h3⟩
  ·cases h
theorem sn{t:TypeId}{z:Value}(h:zM P t=some z)(w:World):(zeroValue t).run P w=.ok z w /\ pl z=true:=by
 unfold zM at h
 split at h
 case h_2=>cases h
 rename_i i hi
 split at h
 case h_2=>cases h
 rename_i zv hz
 split at h
 case h_2=>cases h
 rename_i hp
 cases h
 refine⟨?_,hp⟩
 unfold zeroValue
 rw[Sem.run_bind,ep hi]
 simp only[Result.andThen_ok,hz]
 rfl
theorem nK{ok b:Bool}{v v':Value}(h:VRi ν v v'):VRi ν (zO ok v b) (if ok=true then .tuple #[v',.bool b] else v'):=by
 cases ok with
 | true=>exact .tuple_of (.cons h (.cons (.atom _ rfl) .nil))
 | false=>exact h
theorem Fs{t:TypeId}{m m' k:Value}{ok:Bool}{v:Value}(hH:HR ν H F w)(hm:VRi ν m m')(h:E6 P t H m k ok=some v):pl k=true /\ ∃v',VRi ν v v' /\ (Instr.lookup t m' k ok).run P w=.ok v' w:=by
 unfold E6 at h
 split at h
 case h_2=>cases h
 rename_i kt et hu
 split at h
 case h_2=>cases h
 rename_i hk
 obtain⟨d,hd,Tt⟩:=yA hk
 have hf:∀es,(∀r,Instr.findNow d k es 0=some r -> (Instr.findKey kt k es).run P w=.ok r w):=λ es r hr=>by
  unfold Instr.findKey
  rw[Sem.run_bind,bg hd]
  simp only[Result.andThen_ok,hr]
  rfl
 refine⟨(p6 Tt).1,?_⟩
 split at h
 ·split at h
  ·rename_i z hz
   cases h
   cases hm
   obtain⟨h1,h2⟩:=sn hz w
   refine⟨_,nK (.plain_refl _ h2),?_⟩
   unfold Instr.lookup
   rw[Sem.run_bind,bg hu]
   simp only[Result.andThen_ok,Sem.run_bind,cT,fO hk,hf [] none rfl,h1]
   try (cases ok <;> rfl)
  ·cases h
 ·rename_i r
  split at h
  ·rename_i es cl hb
   cases hm with
   | atom _ h=>simp[cQ] at h
   | @map _ b K hν =>
   obtain⟨Qf,hw,hE⟩:=hH.map hb hν
   have hg:(getObj b).run P w=.ok (.map Qf cl) w:=lW hw
   split at h
   ·rename_i v0 UU
    cases h
    rcases sk Tt hE 0 UU with ⟨h1,h2⟩|⟨v1,v',j,h1,h2,h3⟩
    ·cases h1
    ·cases h1
     refine⟨_,nK h2,?_⟩
     unfold Instr.lookup
     rw[Sem.run_bind,bg hu]
     simp only[Result.andThen_ok,Sem.run_bind,hg,cT,fO hk,hf _ _ h3]
     try (cases ok <;> rfl)
   ·rename_i UU
    split at h
    ·rename_i z hz
     cases h
     obtain⟨h1,h2⟩:=sn hz w
     rcases sk Tt hE 0 UU with ⟨h3,h4⟩|⟨v1,v',j,h3,h4,h5⟩
     ·refine⟨_,nK (.plain_refl _ h2),?_⟩
      unfold Instr.lookup
      rw[Sem.run_bind,bg hu]
      simp only[Result.andThen_ok,Sem.run_bind,hg,cT,fO hk,hf _ _ h4,h1]
      try (cases ok <;> rfl)
     ·cases h3
    ·cases h
   ·cases h
  ·cases h
 ·cases h
end hp
section sl
variable {ν ν':Nu} {P:Program} {G N:Nat} {T T':Tr Value} {a:Act} {H:AH} {F:HL} {w:World}
def Lp(x:Option Value)(n d:Nat):Prop:=(x=none /\ n=d) \/ ∃k,x=some (.int k (n:Int))
theorem p7{k:IntKind}{n y:Nat}{c:BoundsCode}(h:n <= y)(w:World):(Instr.sliceBound (.int k (n:Int)) y c).run P w=.ok n w:=by
 simp[Instr.sliceBound,asIntOf,h,go_sem]
theorem mm{b:Bool}{len cap l h m:Nat}{lo hi mx:Option Value}(o1:Lp lo l 0)(o2:Lp hi h len)(o3:Lp mx m cap)(hm:mx=none \/ hi≠none)(h1:l <= h)(h2:h <= m)(h3:m <= cap)(w:World) :
  (Instr.sliceBounds b len cap lo hi mx).run P w=.ok (l,h,m) w:=by
 unfold Instr.sliceBounds
 rcases o1 with ⟨rfl,rfl⟩|⟨k1,rfl⟩ <;> rcases o2 with ⟨rfl,rfl⟩|⟨k2,rfl⟩ <;> rcases o3 with ⟨rfl,rfl⟩|⟨k3,rfl⟩ <;>
  first
   | (rcases hm with e|e <;> first|(cases e;done)|exact(e rfl).elim)
   | simp[Sem.run_bind,p7,h1,h2,h3]
theorem jC{d n:Nat}{x:Option Operand}(aT:∀y,x=some y -> VRi ν (ael T y) (a.eval y))(h:tH T d x=some n):Lp (x.map a.eval) n d:=by
 cases x with
 | none=>rw[tH] at h;cases h;exact .inl ⟨rfl,rfl⟩
 | some y =>
  rw[tH] at h
  obtain⟨k,e⟩:=ml h (aT y rfl)
  exact .inr ⟨k,by simp[e]⟩
theorem wi(h o m l k:Nat):zP ⟨h,o,none⟩ m l k=⟨h,if m=l then o else o+l*k,none⟩:=by
 unfold zP
 split
 ·rename_i e;rw[if_pos (Nat.eq_of_beq_eq_true e)]
 ·rename_i e
  rw[if_neg (λ e'=>by subst e';simp at e),m6]
theorem wj(b o m l k:Nat):(if m=l then (⟨b,o,none⟩:Addr) else (⟨b,o,none⟩:Addr).add (l*k))=⟨b,if m=l then o else o+l*k,none⟩:=by
 split
 ·rfl
 ·rw[mj]
theorem cg{a b:Nat}(h:Nat.ble a b=true):a <= b:=Nat.le_of_ble_eq_true h
theorem p8{k l h m c c':Nat}{base u_:Option Addr}{n n':Nat}{v:Value}(hr:VRi ν (.slice base n c) (.slice u_ n' c'))(hc:c<lm)(hv:tI k base l h m c=some v) :
  l <= h /\ h <= m /\ m <= c /\ VRi ν v (.slice (if m=l then u_ else u_.map (·.add (l*k))) (h-l) (m-l)):=by
 unfold tI at hv
 split at hv
 case h_2=>cases hv
 rename_i h1 h2 h3
 refine⟨cg h1,cg h2,cg h3,?_⟩
 have h3':=cg h3
 split at hv
 ·cases hv
  cases hr
  split <;> exact .atom _ rfl
 ·split at hv
  ·cases hv
   cases hr with
   | atom _ h=>simp[cQ] at h
   | @slice _ b _ _ _ o n hν hcap =>
    rw[wi]
    have:(if m=l then (some ⟨b,o,none⟩:Option Addr) else (some ⟨b,o,none⟩:Option Addr).map (·.add (l*k)))=some ⟨b,if m=l then o else o+l*k,none⟩:=by
     rw[<- wj];split <;> rfl
    rw[this]
    exact .slice _ _ hν ⟨λ _=>rfl,λ e=>by omega⟩
  ·cases hv
theorem Cj{t:TypeId}{x:Value}{ρx:Value}{lo hi mx:Option Operand}{v:Value}(hH:HR ν H F w)(hx:VRi ν x ρx)(VH:∀y,lo=some y -> VRi ν (ael T y) (a.eval y))(hhi:∀y,hi=some y -> VRi ν (ael T y) (a.eval y))(Z9:∀y,mx=some y -> VRi ν (ael T y) (a.eval y))
  (h:yo P t H T x lo hi mx=some v):∃v',VRi ν v v' /\ (Instr.sliceAt t ρx (lo.map a.eval) (hi.map a.eval) (mx.map a.eval)).run P w=.ok v' w:=by
 unfold yo at h
 split at h
 ·cases h
 rename_i hmo
 have VF:(mx.map a.eval=none \/ hi.map a.eval≠none):=by
  unfold Nh at hmo
  split at hmo
  ·cases hmo
  ·rename_i e
   cases mx with
   | none=>exact .inl rfl
   | some m=>cases hi with
    | none=>exact(e _ rfl rfl).elim
    | some hh=>exact .inr (by simp)
 split at h
 ·rename_i el hu
  split at h
  case h_2=>cases h
  rename_i base n c
  split at h
  case h_2=>cases h
  rename_i k l hh hs hl hhn
  have Of:=ez hs w
  have b1:=jC VH hl
  have b2:=jC hhi hhn
  split at h
  ·rename_i hc
   have Qa:=dU hc
   split at h
   case h_2=>cases h
   rename_i m hm
   have b3:=jC Z9 hm
   have SF:∃u_,ρx=.slice u_ n c /\ VRi ν (.slice base n c) (.slice u_ n c):=by
    cases hx with
    | atom _ h=>exact⟨_,rfl,.atom _ h⟩
    | slice o n hν hcap=>obtain rfl:=hcap.1 Qa;exact⟨_,rfl,.slice o n hν hcap⟩
   obtain⟨u_,rfl,hr⟩:=SF
   obtain⟨g1,g2,g3,g4⟩:=p8 hr Qa h
   refine⟨_,g4,?_⟩
   unfold Instr.sliceAt
   rw[Sem.run_bind,bg hu]
   simp only[Result.andThen_ok]
   unfold Instr.slice
   rw[Sem.run_bind,bg hu]
   simp only[Result.andThen_ok]
   rw[Sem.run_bind,mm b1 b2 b3 VF g1 g2 g3]
   simp only[Result.andThen_ok]
   rw[Sem.run_bind,Of]
   rfl
  ·rename_i hc
   have Qa:lm <= c:=by
    rcases Nat.lt_or_ge c lm with e|e
    ·have:Nat.blt c lm=true:=Nat.ble_eq_true_of_le e
     rw[this] at hc;cases hc
    ·exact e
   split at h
   case h_2=>cases h
   rename_i ad mo Qq
   cases hx with
   | atom _ h=>simp[cQ] at h
   | @slice hd b K _ c' o n hν hcap =>
   have Qj:=hcap.2 Qa
   unfold E7 at h
   split at h
   case h_2=>cases h
   rename_i nn tr ty ww ro Rb hb
   split at h
   case h_2=>cases h
   rename_i e1 e2 e3 e4
   simp only at hb
   obtain⟨cc,ty',fz,hw,R1⟩:=hH.cells hb hν
   have e1':ww=k:=Nat.eq_of_beq_eq_true e1
   have YZ:=dU e2
   have e3':=cg e3
   have e4':=cg e4
   have Pz:=R1.gr (by omega)
   have hle:=R1.le
   have VY:∀q,(c-lm+q)*ww <= nn -> q <= c':=λ q hq=>by
    have:(c-lm+q)*ww <= K*ww:=by omega
    have:=Nat.le_of_mul_le_mul_right this YZ
    omega
   have dO:∀ (m:Nat),Lp (mx.map a.eval) m c' -> hh <= m -> m <= c' -> (Instr.sliceAt t (.slice (some ⟨b,o,none⟩) n c') (lo.map a.eval) (hi.map a.eval) (mx.map a.eval)).run P w=.ok (.slice (some ⟨b,if m=l then o else o+l*k,none⟩) (hh-l) (m-l)) w:=λ m b3 g2 g3=>by
    unfold Instr.sliceAt
    rw[Sem.run_bind,bg hu]
    simp only[Result.andThen_ok]
    unfold Instr.slice
    rw[Sem.run_bind,bg hu]
    simp only[Result.andThen_ok]
    rw[Sem.run_bind,mm b1 b2 b3 VF e3' g2 g3]
    simp only[Result.andThen_ok]
    rw[Sem.run_bind,Of]
    have:(if m=l then (some ⟨b,o,none⟩:Option Addr) else (some ⟨b,o,none⟩:Option Addr).map (·.add (l*k)))=some ⟨b,if m=l then o else o+l*k,none⟩:=by
     rw[<- wj];split <;> rfl
    simp only[Result.andThen_ok,this,cT]
   split at h
   ·have hmn:mx=none:=by
     unfold Lm at Qq
     split at Qq
     ·rfl
     ·split at Qq <;> cases Qq
    subst hmn
    have b3:Lp ((none:Option Operand).map a.eval) c' c':=.inl ⟨rfl,rfl⟩
    split at h
    ·rename_i iN
     have TZ:=dU iN
     cases h
     have g:=VY _ e4'
     refine⟨_,?_,dO c' b3 g (Nat.le_refl _)⟩
     rw[m6,if_neg (by omega)]
     exact .slice _ _ hν ⟨λ e=>by omega,λ e=>by omega⟩
    ·rename_i Xs
     split at h
     ·cases h
      have g:=VY _ e4'
      have hh0:hh=0:=by
       rcases Nat.eq_zero_or_pos hh with e|e
       ·exact e
       ·have:Nat.blt 0 hh=true:=Nat.ble_eq_true_of_le e
        rw[this] at Xs;cases Xs
      subst hh0
      refine⟨_,?_,dO c' b3 g (Nat.le_refl _)⟩
      simp only[Nat.zero_mul,Nat.add_zero,ite_self,Nat.sub_zero]
      exact .slice _ _ hν hcap
     ·cases h
   ·rename_i m
    split at h
    case h_2=>cases h
    rename_i q1 q2 q3
    cases h
    have hmn:∃y,mx=some y /\ Hu (ael T y)=some m:=by
     unfold Lm at Qq
     split at Qq
     ·cases Qq
     ·rename_i y
      split at Qq
      ·rename_i n' e';cases Qq;exact⟨y,rfl,e'⟩
      ·cases Qq
    obtain⟨y,rfl,ey⟩:=hmn
    obtain⟨kk,ey'⟩:=ml ey (Z9 y rfl)
    have b3:Lp ((some y:Option Operand).map a.eval) m c':=.inr ⟨kk,by simp[ey']⟩
    refine⟨_,?_,dO m b3 (cg q1) (VY _ (cg q2))⟩
    rw[wi]
    have:=dU q3
    exact .slice _ _ hν ⟨λ _=>rfl,λ e=>by omega⟩
 ·rename_i n el hu
  split at h
  case h_2=>cases h
  rename_i ad
  split at h
  case h_2=>cases h
  rename_i k l hh m hs hl hhn hm
  have Of:=ez hs w
  have b1:=jC VH hl
  have b2:=jC hhi hhn
  have b3:=jC Z9 hm
  split at h
  case h_2=>cases h
  rename_i hn
  cases hx with
  | atom _ h=>simp[cQ] at h
  | @ptr hd b K o hν =>
  obtain⟨g1,g2,g3,g4⟩:=p8 (n:=0) (n':=0) (c':=n) (.slice o 0 hν ⟨λ _=>rfl,λ e=>by have:=dU hn;omega⟩:VRi ν (.slice (some ⟨hd,o,none⟩) 0 n) (.slice (some ⟨b,o,none⟩) 0 n)) (dU hn) h
  refine⟨_,g4,?_⟩
  unfold Instr.sliceAt
  rw[Sem.run_bind,bg hu]
  simp only[Result.andThen_ok]
  rw[Sem.run_bind]
  simp only[Instr.sureAddr,cT,Result.andThen_ok]
  rw[Sem.run_bind,mm b1 b2 b3 VF g1 g2 g3]
  simp only[Result.andThen_ok]
  rw[Sem.run_bind,Of]
  have:(if m=l then (some ⟨b,o,none⟩:Option Addr) else (some ⟨b,o,none⟩:Option Addr).map (·.add (l*k)))=some (if m=l then ⟨b,o,none⟩ else (⟨b,o,none⟩:Addr).add (l*k)):=by split <;> rfl
  rw[this]
  rfl
 ·cases h
theorem wl{o:Oper}{v:Value}(hH:HR ν H F w)(h:iW P o T H=some v){l:List Operand}(hl:cD o.op=some l)(aT:OK ν T a l):∃v',VRi ν v v' /\ (execOp a.eval o).run P w=.ok (.value v') w:=by
 have Sf:=hl
 unfold iW at h
 split at h
 ·rename_i t x ho
  rw[ho] at hl;simp only[cD,Option.some.injEq] at hl;subst hl
  have hx:=aT x (by simp)
  split at h
  ·rename_i ad e
   rw[e] at hx
   generalize hu:a.eval x=u at hx
   have ZB:=hx
   cases hx with
   | atom _ h=>simp[cQ] at h
   | ptr o hν =>
    obtain⟨v',r,e2⟩:=wh hH ZB h
    refine⟨v',r,?_⟩
    simp[execOp,ho,Instr.loadAt,Instr.sureAddr,hu,Sem.run_bind,e2]
  ·cases h
 ·rename_i t m k ok ho
  rw[ho] at hl;simp only[cD,Option.some.injEq] at hl;subst hl
  obtain⟨hp,v',r,e⟩:=Fs hH (aT m (by simp)) h
  have hk:=(aT k (by simp)).plain_eq hp
  refine⟨v',r,?_⟩
  simp[execOp,ho,hk,Sem.run_bind,e]
 ·rename_i t x lo hi mx ho
  split at h
  ·obtain⟨v',r,e⟩:=nJ h Sf aT
   exact⟨v',r,e w⟩
  ·rw[ho] at hl;simp only[cD,Option.some.injEq] at hl;subst hl
   obtain⟨v',r,e⟩:=Cj (a:=a) hH (aT x (by simp)) (λ y hy=>aT y (by subst hy;simp)) (λ y hy=>aT y (by subst hy;simp)) (λ y hy=>aT y (by subst hy;simp)) h
   refine⟨v',r,?_⟩
   simp[execOp,ho,Sem.run_bind,e]
 ·cases h
end sl
section wr
variable {ν ν':Nu} {P:Program} {G N:Nat} {T T':Tr Value} {a:Act} {H H':AH} {F:HL} {w w':World}
theorem dN(H:AH)(h k:Nat)(b:Option AB):cr (c9 H h b) k=if h=k then b else cr H k:=im _ _ _
theorem HR.upd(hH:HR ν H F w){h r K:Nat}{b0 b1:AB}{o':Obj}(hb:cr H h=some b0)(Yz:Fq b0=true)(hw1:Fq b1=true)(hν:ν h=some (r,K))(hr:w'.heap[r]?=some o')(ho:OR ν K b1 o')(hs:∀k,k≠r -> w'.heap[k]?=w.heap[k]?):HR ν (c9 H h (some b1)) F w':=by
 have o_:∀k b,cr (c9 H h (some b1)) k=some b -> k≠h -> cr H k=some b:=λ k b hk AT=>by
  rw[dN,if_neg (Ne.symm AT)] at hk;exact hk
 have ex:∀k b,cr (c9 H h (some b1)) k=some b -> ∃b',cr H k=some b' /\ (Fq b=true -> Fq b'=true):=λ k b hk=>by
  by_cases e:k=h
  ·subst e;exact⟨b0,hb,λ _=>Yz⟩
  ·exact⟨b,o_ k b hk e,λ e=>e⟩
 refine⟨λ k b hk=>?_,λ k1 k2 b1' b2' q K1 K2 h1 h2 h3 h4=>?_,λ x hx=>?_,λ k b q K' hk hq x hx=>?_⟩
 ·by_cases e:k=h
  ·subst e
   rw[dN,if_pos rfl] at hk
   cases hk
   exact⟨r,K,o',hν,hr,ho⟩
  ·have Tu:=o_ k b hk e
   obtain⟨q,K',o,h1,h2,h3⟩:=hH.blk k b Tu
   refine⟨q,K',o,h1,?_,h3⟩
   rw[hs q,h2]
   intro e'
   subst e'
   exact e (hH.inj _ _ _ _ _ _ _ Tu hb h1 hν)
 ·obtain⟨c1,d1,-⟩:=ex _ _ h1
  obtain⟨c2,d2,-⟩:=ex _ _ h2
  exact hH.inj _ _ _ _ _ _ _ d1 d2 h3 h4
 ·rw[hs _ (hH.apt _ _ _ _ hb hν x hx)]
  exact hH.frm x hx
 ·obtain⟨c1,d1,d2⟩:=ex _ _ hk
  exact hH.apt _ _ _ _ d1 hq x hx
theorem HR.del(hH:HR ν H F w)(h:Nat):HR ν (c9 H h none) F w:=by
 have o_:∀k b,cr (c9 H h none) k=some b -> cr H k=some b:=λ k b hk=>by
  rw[dN] at hk
  split at hk
  ·cases hk
  ·exact hk
 exact⟨λ k b hk=>hH.blk k b (o_ k b hk),λ k1 k2 b1 b2 q K1 K2 h1 h2 h3 h4=>hH.inj _ _ _ _ _ _ _ (o_ _ _ h1) (o_ _ _ h2) h3 h4,hH.frm,λ k b q K hk=>hH.apt k b q K (o_ k b hk)⟩
theorem HR.add(hH:HR ν H F w){n r K:Nat}{b:AB}{o:Obj}(hn:ν n=none)(hr:w.heap[r]?=some o)(ho:OR ν K b o)(hwb:Fq b=true)(hF:∀x∈F,x.1≠r)(Rx:∀k b' K',cr H k=some b' -> ν k≠some (r,K')):HR (ν.upd n r K) (c9 H n (some b)) F w:=by
 have hle:ν.Le (ν.upd n r K):=jz hn
 have Qp:cr H n=none:=by
  cases e:cr H n with
  | none=>rfl
  | some b'=>obtain⟨q,K',o',h1,-⟩:=hH.blk n b' e;rw[hn] at h1;cases h1
 have o_:∀k b',cr (c9 H n (some b)) k=some b' -> k≠n -> cr H k=some b':=λ k b' hk AT=>by
  rw[dN,if_neg (Ne.symm AT)] at hk;exact hk
 refine⟨λ k b' hk=>?_,λ k1 k2 b1 b2 q K1 K2 h1 h2 h3 h4=>?_,hH.frm,λ k b' q K' hk hq x hx=>?_⟩
 ·by_cases e:k=n
  ·subst e
   rw[dN,if_pos rfl] at hk
   cases hk
   exact⟨r,K,o,cL,hr,ho.mono hle⟩
  ·obtain⟨q,K',o',h1,h2,h3⟩:=hH.blk k b' (o_ k b' hk e)
   exact⟨q,K',o',hle _ _ h1,h2,h3.mono hle⟩
 ·by_cases e1:k1=n
  ·by_cases e2:k2=n
   ·rw[e1,e2]
   ·subst e1
    rw[cL] at h3
    rw[eK e2] at h4
    cases h3
    exact(Rx _ _ _ (o_ _ _ h2 e2) h4).elim
  ·by_cases e2:k2=n
   ·subst e2
    rw[cL] at h4
    rw[eK e1] at h3
    cases h4
    exact(Rx _ _ _ (o_ _ _ h1 e1) h3).elim
   ·rw[eK e1] at h3
    rw[eK e2] at h4
    exact hH.inj _ _ _ _ _ _ _ (o_ _ _ h1 e1) (o_ _ _ h2 e2) h3 h4
 ·by_cases e:k=n
  ·subst e
   rw[cL] at hq
   cases hq
   exact hF x hx
  ·rw[eK e] at hq
   exact hH.apt _ _ _ _ (o_ _ _ hk e) hq x hx
theorem HR.world(hH:HR ν H F w)(hs:∀k,k<w.heap.size -> w'.heap[k]?=w.heap[k]?):HR ν H F w':=by
 refine⟨λ k b hk=>?_,hH.inj,λ x hx=>?_,hH.apt⟩
 ·obtain⟨q,K',o',h1,h2,h3⟩:=hH.blk k b hk
  exact⟨q,K',o',h1,by rw[hs _ (dG h2)];exact h2,h3⟩
 ·have:=hH.frm x hx
  rw[hs _ (dG this)]
  exact this
theorem HR.new(hH:HR ν H F w){n K:Nat}{b:AB}{o:Obj}(hn:ν n=none)(ho:OR ν K b o)(hwb:Fq b=true)(hw:w'.heap=w.heap.push o):HR (ν.upd n w.heap.size K) (c9 H n (some b)) F w':=by
 have h1:HR ν H F w':=hH.world (λ k hk=>by rw[hw,Array.getElem?_push,if_neg (by omega)])
 refine h1.add hn (by rw[hw];simp) ho hwb (λ x hx e=>?_) (λ k b' K' hk e=>?_)
 ·have:=dG (hH.frm x hx)
  omega
 ·have:=hH.lt hk e
  omega
theorem kO{l:List Value}{i:Nat}(h:i<l.length):da (dT undef l 0 .lf) i=l[i]:=by
 unfold da
 rw[oY]
 simp[h]
theorem so(l:List Value)(ty:TypeId):ja l ty=.cells l.length (dT undef l 0 .lf) ty 0 false:=by
 unfold ja
 split <;> rename_i h <;> rw[h,eo]
theorem jD(l:List Value)(ty:TypeId)(k:Nat):tK l ty k=.cells l.length (dT undef l 0 .lf) ty k false:=by
 unfold tK
 split <;> rename_i h <;> rw[h,eo]
theorem CR.of{l l' rest:List Value}{ty:TypeId}{ww K:Nat}(h:LR ν l l')(hk:ww≠0 -> (l'++rest).length=K*ww):CR ν K l.length (dT undef l 0 .lf) ty ww ⟨l'++rest⟩ ty (0,0):=by
 refine⟨rfl,by simp[h.length],rfl,λ i hi=>?_,λ e=>by simpa using hk e⟩
 obtain⟨v',e,r⟩:=h.get (List.getElem?_eq_getElem hi)
 refine⟨v',?_,by rw[kO hi];exact r⟩
 have:(l'++rest)[i]?=some v':=by rw[List.getElem?_append_left (by rw[h.length];exact hi)];exact e
 simpa using this
theorem OR.cellsB{l l':List Value}{ty:TypeId}{K:Nat}(h:LR ν l l'):OR ν K (ja l ty) (.cells ⟨l'⟩ ty (0,0)):=by
 rw[so]
 have:=CR.of (ty:=ty) (ww:=0) (K:=K) (rest:=[]) h (λ e=>(e rfl).elim)
 have h2:CR ν K l.length (dT undef l 0 .lf) ty 0 ⟨l'⟩ ty (0,0):=by simpa using this
 exact h2
theorem jY(l:List Value)(ty:TypeId):Fq (ja l ty)=true:=by rw[so];rfl
theorem p9(t:Tr Value):∀ (vs:List Value) (i j:Nat),da (jR t i vs) j=if h:i <= j /\ j-i<vs.length then vs[j-i] else da t j:=by
 intro vs
 induction vs generalizing t with
 | nil=>intro i j;simp[jR]
 | cons v vs ih =>
  intro i j
  rw[jR,ih]
  have c9:da (qY t i v) j=if i=j then v else da t j:=im _ _ _
  by_cases h1:i=j
  ·subst h1
   have:¬ (i+1 <= i /\ i-(i+1)<vs.length):=by omega
   rw[dif_neg this,c9,if_pos rfl]
   simp
  ·by_cases h2:i <= j
   ·have h4:j-i=(j-(i+1))+1:=by omega
    by_cases h3:j-(i+1)<vs.length
    ·rw[dif_pos ⟨by omega,h3⟩,dif_pos ⟨h2,by rw[List.length_cons];omega⟩]
     simp only[h4,List.getElem_cons_succ]
    ·rw[dif_neg (by omega),dif_neg (by rw[List.length_cons];omega),c9,if_neg h1]
   ·rw[dif_neg (by omega),dif_neg (by omega),c9,if_neg h1]
theorem gD(b:Nat):∀ (vs:List Value) (o:Nat) (w:World) (k:Nat),k≠b -> (w.setCells b o vs).heap[k]?=w.heap[k]?
 | [],_,_,_,_=>rfl
 | v::vs,o,w,k,h=>by rw[World.setCells,gD b vs _ _ _ h,Below.heap_setCell _ _ _ _ h]
theorem gE(b:Nat):∀ (vs:List Value) (o:Nat) (w:World),Below 0 w (w.setCells b o vs)
 | [],_,w=>Below.refl 0 w
 | v::vs,o,w=>by
  rw[World.setCells]
  exact((Below.refl 0 w).setCell (Nat.zero_le _) v).trans (gE b vs (o+1) _)
theorem kP(b:Nat):∀ (vs:List Value) (o:Nat) (w:World) {c:Array Value} {ty:TypeId} {fz:Nat × Nat},w.heap[b]?=some (.cells c ty fz) -> ∃c',(w.setCells b o vs).heap[b]?=some (.cells c' ty fz) /\ c'.size=c.size /\ ∀j,j<c.size -> c'[j]?=if h:o <= j /\ j-o<vs.length then some vs[j-o] else c[j]?
 | [],o,w,c,ty,fz,h=>⟨c,h,rfl,λ j _=>by simp⟩
 | v::vs,o,w,c,ty,fz,h=>by
  have h1:(w.setCell ⟨b,o,none⟩ v).heap[b]?=some (.cells (c.setIfInBounds o v) ty fz):=by
   simp[World.setCell,Array.getElem?_modify,h]
  obtain⟨c',e1,e2,e3⟩:=kP b vs (o+1) _ h1
  refine⟨c',e1,by simpa using e2,λ j hj=>?_⟩
  rw[e3 j (by simpa using hj)]
  by_cases h2:o=j
  ·subst h2
   rw[dif_neg (by omega),dif_pos ⟨Nat.le_refl _,by simp⟩,Array.getElem?_setIfInBounds_self_of_lt hj]
   simp
  ·rw[Array.getElem?_setIfInBounds_ne h2]
   by_cases h3:o <= j
   ·have h4:j-o=(j-(o+1))+1:=by omega
    by_cases h5:j-(o+1)<vs.length
    ·rw[dif_pos ⟨by omega,h5⟩,dif_pos ⟨h3,by rw[List.length_cons];omega⟩]
     simp only[h4,List.getElem_cons_succ]
    ·rw[dif_neg (by omega),dif_neg (by rw[List.length_cons];omega)]
   ·rw[dif_neg (by omega),dif_neg (by omega)]
theorem yB{v:Value}{l:List Value}(hf:jv (v::l)=true):(∀cs,v≠Value.agg cs) /\ (∀cs,v≠Value.tuple cs) /\ jv l=true:=by
 cases v <;> simp[jv] at hf <;> simp[hf]
theorem sr{vs D_:List Value}(h:LR ν vs D_)(hf:jv vs=true):∀u∈D_,u.oneCell'=true:=by
 induction h with
 | nil=>intro u hu;cases hu
 | cons hv _ ih =>
  intro u hu
  obtain⟨h1,h2,h3⟩:=yB hf
  rcases List.mem_cons.1 hu with rfl|hu
  ·cases hv <;> first|rfl|exact(h1 _ rfl).elim|exact(h2 _ rfl).elim|skip
   rename_i v0 _ _ _ e
   cases v0 <;> first|rfl|simp[cQ] at e
  ·exact ih h3 u hu
theorem nL{h o b K:Nat}{vs D_:List Value}(hH:HR ν H F w)(hν:ν h=some (b,K))(hl:LR ν vs D_)(hp:nF H ⟨h,o,none⟩ vs=some H') :
  (∀j,j<D_.length -> (w.cell? ⟨b,o+j,none⟩).isSome=true) /\ (∀j,j<D_.length -> w.frozen? ⟨b,o+j,none⟩=false) /\ (∀u∈D_,u.oneCell'=true) /\ HR ν H' F (w.setCells b o D_) /\ Below 0 w (w.setCells b o D_):=by
 unfold nF at hp
 split at hp
 case h_2=>cases hp
 rename_i n tr ty ww hs hb
 split at hp
 case h_2=>cases hp
 rename_i hle hf
 cases hp
 simp only at hb
 obtain⟨c,ty',fz,hw,hc⟩:=hH.cells hb hν
 have Ua:=cg hle
 rw[eo] at Ua
 simp only at Ua
 have hlen:=hl.length
 have Sg:=hc.le
 refine⟨λ j hj=>?_,λ j hj=>?_,sr hl hf,?_,gE _ _ _ _⟩
 ·rw[ln hw,Array.getElem?_eq_getElem (by omega)];rfl
 ·obtain⟨lo,hi⟩:=fz
  have:=hc.fz
  cases this
  simp[World.frozen?,hw]
 ·obtain⟨c',e1,e2,e3⟩:=kP b D_ o w hw
  refine hH.upd (b1:=.cells n (jR tr o vs) ty ww false) hb rfl rfl hν e1 ?_ (λ k hk=>gD b D_ o w k hk)
  refine⟨hc.ty,by rw[e2];exact Sg,hc.fz,λ i hi=>?_,λ e=>by rw[e2];exact hc.gr e⟩
  rw[e3 i (by omega),p9]
  by_cases h1:o <= i /\ i-o<vs.length
  ·obtain⟨v',g1,g2⟩:=hl.get (List.getElem?_eq_getElem h1.2)
   rw[dif_pos h1,dif_pos ⟨h1.1,by rw[hlen];exact h1.2⟩]
   refine⟨v',?_,g2⟩
   rw[<- g1,List.getElem?_eq_getElem]
  ·rw[dif_neg h1,dif_neg (by rw[hlen];exact h1)]
   exact hc.get i hi
theorem Ck{t:TypeId}{ad WN:Addr}{v v':Value}(hH:HR ν H F w)(hp:VRi ν (.pointer (some ad)) (.pointer (some WN)))(hv:VRi ν v v')(h:tJ P t H ad v=some H'):∃w',(storeVar t WN v').run P w=.ok () w' /\ HR ν H' F w' /\ Below 0 w w':=by
 cases hp with
 | atom _ h=>simp[cQ] at h
 | @ptr hd b K o hν =>
  unfold tJ at h
  split at h
  case h_2=>cases h
  rename_i k hk
  split at h
  case h_2=>cases h
  rename_i hl
  have R1:=jV hv
  obtain⟨h1,h2,h3,h4,h5⟩:=nL hH hν R1 h
  refine⟨_,?_,h4,h5⟩
  have Pz:v'.cells.size=k:=by
   have e1:=Nat.eq_of_beq_eq_true hl
   rw[eo,<- R1.length,f7] at e1
   simpa using e1
  unfold storeVar
  rw[Sem.run_bind,ez hk]
  simp only[Result.andThen_ok,Pz,ne_eq,not_true_eq_false,if_false]
  have:=run_storeCells_cells (P:=P) b o (gB v') 0 w (by simpa using h1) (by simpa using h2) h3
  rw[f7] at this
  rw[<- f7] at *
  simpa [Sem.run_bind,cT] using this
end wr
end Go.Proofs.YthoijjeddhfcnaaGreatDoor
