import Derived.Deep.AppendSrc
import Derived.Laws.AppendOwn
import Derived.Test.YtdppjkjbghbnjaaGreatDoorY08
set_option maxHeartbeats 4000000
set_option maxRecDepth 100000
set_option linter.all false
namespace Go.Proofs.YtdppjkjbghbnjaaGreatDoor
open IntKind
open Go.RowKit
section fr
variable {ν ν':Nu} {P:Program} {G N:Nat} {T T':Tr Value} {a:Act}
theorem J7{t:TypeId}{u v u' v':Value}{r:Bool}(h:JQ u v=some r)(ht:MF P t u=true)(hu:VRi ν u u')(hv:VRi ν v v')(w:World):(Op.equal t u' v').run P w=.ok r w:=by
 show (Op.equalIn 10000 t u' v').run P w=_;rw[show (10000:Nat)=9999+1 from rfl,Op.equalIn.eq_def];simp only;unfold JQ at h;split at h <;> first|(cases h;done)|skip
 all_goals
  cases h;unfold MF at ht;split at ht <;> first|(cases ht;done)|skip
  rename_i hd;rw[Sem.run_bind,aN hd];simp only[Result.andThen_ok];cases hu <;> cases hv <;> first|rfl|(rename_i e;cases e;done)|(rename_i e1 e2;cases e1;done)|(rename_i e1 e2;cases e2;done)
theorem yd{w:World}{ρ:Operand -> Value}{o:Oper}{t el:TypeId}{x i:Operand}{b off n c j sz:Nat}{k:IntKind}(ho:o.op=.indexAddr t x i)(hx:ρ x=.slice (some ⟨b,off,none⟩) n c)(hi:ρ i=.int k (j:Int))(ht:P.underlying t=some (.slice el))(hj:j<n)(hs:fW P el=some sz) :
  (execOp ρ o).run P w=.ok (.value (.pointer (some ⟨b,off+j*sz,none⟩))) w:=by
 have h1:=λ W=>aN ht W;have h2:=λ W=>fi hs W;have h3:(0:Int) <= (j:Int) /\ (j:Int)<(n:Int):=⟨by omega,by omega⟩;simp[execOp,ho,Instr.indexAt,hx,hi,asIntOf,Sem.run_bind,h1,h2,hj,pm]
theorem Da{w:World}{ρ:Operand -> Value}{o:Oper}{t el:TypeId}{x i:Operand}{b off n j sz:Nat}{k:IntKind}(ho:o.op=.indexAddr t x i)(hx:ρ x=.pointer (some ⟨b,off,none⟩))(hi:ρ i=.int k (j:Int))(ht:P.underlying t=some (.array n el))(hj:j<n)(hs:fW P el=some sz) :
  (execOp ρ o).run P w=.ok (.value (.pointer (some ⟨b,off+j*sz,none⟩))) w:=by
 have h1:=λ W=>aN ht W;have h2:=λ W=>fi hs W;simp[execOp,ho,Instr.indexAt,Instr.sureAddr,hx,hi,asIntOf,Sem.run_bind,h1,h2,hj,pm]
theorem Db{w:World}{ρ:Operand -> Value}{o:Oper}{t el:TypeId}{x i:Operand}{cs:Array Value}{n j sz:Nat}{k:IntKind}{v:Value}(ho:o.op=.index t x i)(hx:ρ x=.agg cs)(hi:ρ i=.int k (j:Int))(ht:P.underlying t=some (.array n el))(hj:j<n)(hs:fW P el=some sz)(hp:qm P el cs.toList (j*sz)=some v) :
  (execOp ρ o).run P w=.ok (.value v) w:=by
 have h1:=λ W=>aN ht W;have h2:=λ W=>fi hs W;have h3:=wN hp;simp[execOp,ho,Instr.index,hx,hi,asIntOf,Sem.run_bind,h1,h2,h3,hj]
theorem J8{w:World}{ρ:Operand -> Value}{o:Oper}{t:TypeId}{x:Operand}{n:Nat}(ho:o.op=.call { callee:=.builtin .len,args:=#[x],argTypes:=#[t] })(hl:C1 P t (ρ x)=some n):(execOp ρ o).run P w=.ok (.value (.int .i64 (n:Int))) w:=by
 unfold C1 at hl;split at hl
 case h_3=>cases hl
 all_goals
  rename_i hu hx;cases hl;have h1:=λ W=>aN hu W;simp[execOp,ho,resolve,invoke,builtin,Builtin.len_,hx,Sem.run_bind,h1,goInt]
theorem J9{t:TypeId}{v v':Value}{n:Nat}(hr:VRi ν v v')(h:C1 P t v=some n):C1 P t v'=some n:=by
 cases hr with
 | atom v _=>exact h
 | slice o n h1 c =>
  unfold C1 at h ⊢;cases hu:P.underlying t with
  | none=>simp[hu] at h
  | some d=>rw[hu] at h;cases d <;> simp at h ⊢;exact h
 | _ =>
  unfold C1 at h;cases hu:P.underlying t with
  | none=>simp[hu] at h
  | some d=>rw[hu] at h;cases d <;> simp at h
theorem AO{w:World}{ρ:Operand -> Value}{o:Oper}{op:BinOp}{t ty:TypeId}{x y:Operand}{u v:Value}{r:Bool}(ho:o.op=.binOp op t x y ty)(hx:VRi ν u (ρ x))(hy:VRi ν v (ρ y))(hr:JQ u v=some r)(ht:MF P t u=true) :
  (op=.eql -> (execOp ρ o).run P w=.ok (.value (.bool r)) w) /\ (op=.neq -> (execOp ρ o).run P w=.ok (.value (.bool (!r))) w):=by
 have q:=J7 hr ht hx hy w;generalize hu:ρ x=u' at *;generalize hv:ρ y=v' at *;unfold JQ at hr;split at hr <;> first|(cases hr;done)|skip
 all_goals
  cases hx <;> cases hy <;> refine⟨λ e=>?_,λ e=>?_⟩ <;> subst e <;> simp[execOp,ho,hu,hv,eqGuard,Go.binOp,Sem.run_bind,q,cP,Result.andThen]
theorem AP{o:Oper}{v:Value}(h:je P o T=some v){l:List Operand}(hl:cG o.op=some l)(iD:OK ν T a l):∃v',VRi ν v v' /\ ∀w,(execOp a.eval o).run P w=.ok (.value v') w:=by
 have hpl:iE P T o=some v -> ∃v',VRi ν v v' /\ ∀w,(execOp a.eval o).run P w=.ok (.value v') w:=λ h=>re h hl iD;unfold je at h;split at h
 ·rename_i x ho;rw[ho] at hl;simp only[cG,Option.some.injEq] at hl;subst hl;cases h;exact⟨_,iD x (by simp),λ w=>by simp[execOp,ho,pure,Sem.run]⟩
 ·rename_i x ho;rw[ho] at hl;simp only[cG,Option.some.injEq] at hl;subst hl;cases h;exact⟨_,iD x (by simp),λ w=>by simp[execOp,ho,pure,Sem.run]⟩
 ·rename_i c x y ho;rw[ho] at hl;simp only[cG,Option.some.injEq] at hl;subst hl;have hc:=iD c (by simp);split at h
  ·rename_i e;cases h;rw[e] at hc;have e':=hc.plain_eq rfl;exact⟨_,iD x (by simp),λ w=>by simp[execOp,ho,e',asBool,Sem.run_bind,pure,Sem.run,Result.andThen]⟩
  ·rename_i e;cases h;rw[e] at hc;have e':=hc.plain_eq rfl;exact⟨_,iD y (by simp),λ w=>by simp[execOp,ho,e',asBool,Sem.run_bind,pure,Sem.run,Result.andThen]⟩
  ·cases h
 ·rename_i t parts ho;rw[ho] at hl;simp only[cG,Option.some.injEq] at hl;subst hl;obtain⟨v',r,e⟩:=GQ h (uk iD);refine⟨v',r,λ w=>?_⟩;have:=e w;have e2:(parts.map λ (p:Nat × Operand)=>(p.1,a.eval p.2))=⟨parts.toList.map λ p=>(p.1,a.eval p.2)⟩:=by apply Array.ext';simp
  simp only[execOp,ho,Sem.run_bind];rw[e2,this];rfl
 ·rename_i x ho;rw[ho] at hl;simp only[cG,Option.some.injEq] at hl;subst hl;have hx:=iD x (by simp);split at h
  ·rename_i ad e;cases h;rw[e] at hx;refine⟨_,hx,λ w=>?_⟩;generalize hu:a.eval x=u at hx;cases hx with
   | atom _ h=>simp[cV] at h
   | ptr o h=>simp[execOp,ho,hu,pure,Sem.run,bind,Sem.bind]
  ·rename_i f first captured e
   cases h;rw[e] at hx;refine⟨_,hx,λ w=>?_⟩;generalize hu:a.eval x=u at hx;cases hx with
   | atom _ h=>simp[cV] at h
   | func hf _ _ _ _=>cases hf;simp[execOp,ho,hu,pure,Sem.run,bind,Sem.bind]
  ·rename_i t v e;cases h;rw[e] at hx;refine⟨_,hx,λ w=>?_⟩;generalize hu:a.eval x=u at hx;cases hx with
   | atom _ h=>simp[cV] at h
   | iface t hf=>simp[execOp,ho,hu,pure,Sem.run,bind,Sem.bind]
  ·cases h
 ·rename_i op t x y ty ho;have hx:=iD x (by rw[ho] at hl;simp only[cG,Option.some.injEq] at hl;subst hl;simp);have hy:=iD y (by rw[ho] at hl;simp only[cG,Option.some.injEq] at hl;subst hl;simp);split at h
  ·rename_i k m k' n ex ey;rw[ex] at hx;rw[ey] at hy;have ex':=hx.plain_eq rfl;have ey':=hy.plain_eq rfl;split at h
   ·rename_i r hr;split at h
    ·rename_i hk;cases h;have XE:k=k':=of_decide_eq_true hk;subst XE;exact⟨_,.atom _ rfl,λ w=>J6 ho ex' ey' hr⟩
    ·cases h
   ·exact hpl h
  ·split at h
   ·rename_i r hr;split at h
    ·rename_i ht;cases h;exact⟨_,.atom _ rfl,λ w=>(AO ho hx hy hr ht).1 rfl⟩
    ·rename_i ht;cases h;exact⟨_,.atom _ rfl,λ w=>(AO ho hx hy hr ht).2 rfl⟩
    ·cases h
   ·exact hpl h
 ·rename_i t x ho;rw[ho] at hl;simp only[cG,Option.some.injEq] at hl;subst hl;have hx:=iD x (by simp);split at h
  ·cases h
  ·rename_i d hd hu;cases h;refine⟨_,.iface t hx,λ w=>?_⟩;simp only[execOp,ho,Instr.makeInterface,Sem.run_bind,aN hu,Result.andThen_ok];cases d <;> first|rfl|exact(hd _ hu).elim
  ·cases h
 ·rename_i fn first captured ho
  rw[ho] at hl;simp only[cG,Option.some.injEq] at hl;subst hl;split at h
  ·rename_i f;cases h;have h1:=m6 (ν:=ν) (T:=T) (a:=a) (l:=first.toList) (λ x hx=>iD x (List.mem_append_left _ hx));have h2:=m6 (ν:=ν) (T:=T) (a:=a) (l:=captured.toList) (λ x hx=>iD x (List.mem_append_right _ hx));have e1:first.map a.eval=⟨first.toList.map a.eval⟩:=by apply Array.ext';simp
   have e2:captured.map a.eval=⟨captured.toList.map a.eval⟩:=by apply Array.ext';simp
   refine⟨.func (.func f) (first.map a.eval) (captured.map a.eval),by rw[e1,e2];exact .func_of (.func f) h1 h2,λ w=>?_⟩;simp[execOp,ho,Instr.makeFunc,pure,Sem.run,bind,Sem.bind]
  ·cases h
 ·rename_i t x j ho;rw[ho] at hl;simp only[cG,Option.some.injEq] at hl;subst hl;have hx:=iD x (by simp);split at h
  ·rename_i ad k ft e hf;cases h;rw[e] at hx;generalize hu:a.eval x=u at hx;cases hx with
   | atom _ h=>simp[cV] at h
   | ptr o h =>
    refine⟨_,?_,λ w=>C8 ho hu hf⟩;rw[qo,pm];exact .ptr _ h
  ·cases h
 ·rename_i t x j ho;rw[ho] at hl;simp only[cG,Option.some.injEq] at hl;subst hl;have hx:=iD x (by simp);split at h
  ·rename_i cs k ft e hf;rw[e] at hx;generalize hu:a.eval x=u at hx;cases hx with
   | atom _ h=>simp[cV] at h
   | agg he hg =>
    obtain⟨v',e1,r⟩:=wO (LR.of_arr he hg) h;exact⟨v',r,λ w=>C9 ho hu hf e1⟩
  ·cases h
 ·rename_i t x i ho;rw[ho] at hl;simp only[cG,Option.some.injEq] at hl;subst hl;have hx:=iD x (by simp);have hi:=iD i (by simp);split at h
  ·rename_i el ad n c j ht e ei;split at h
   ·rename_i k hj hs;cases h;rw[e] at hx;obtain⟨kk,ej⟩:=pn ei hi;generalize hu:a.eval x=u at hx;cases hx with
    | atom _ h=>simp[cV] at h
    | slice o n h hc =>
     refine⟨_,?_,λ w=>yd ho hu ej ht (eH hj) hs⟩;rw[qo];exact .ptr _ h
   ·cases h
  ·rename_i n el ad j ht e ei;split at h
   ·rename_i k hj hs;cases h;rw[e] at hx;obtain⟨kk,ej⟩:=pn ei hi;generalize hu:a.eval x=u at hx;cases hx with
    | atom _ h=>simp[cV] at h
    | ptr o h =>
     refine⟨_,?_,λ w=>Da ho hu ej ht (eH hj) hs⟩;rw[qo];exact .ptr _ h
   ·cases h
  ·cases h
 ·rename_i t x i ho;have hx:=iD x (by rw[ho] at hl;simp only[cG,Option.some.injEq] at hl;subst hl;simp);have hi:=iD i (by rw[ho] at hl;simp only[cG,Option.some.injEq] at hl;subst hl;simp);split at h
  ·rename_i n el cs j ht e ei;split at h
   ·rename_i k hj hs;rw[e] at hx;obtain⟨kk,ej⟩:=pn ei hi;generalize hu:a.eval x=u at hx;cases hx with
    | atom _ h=>simp[cV] at h
    | agg he hg =>
     obtain⟨v',e1,r⟩:=wO (LR.of_arr he hg) h;exact⟨v',r,λ w=>Db ho hu ej ht (eH hj) hs e1⟩
   ·cases h
  ·exact hpl h
 ·rename_i x i ho;rw[ho] at hl;simp only[cG,Option.some.injEq] at hl;subst hl;have hx:=iD x (by simp);split at h
  ·rename_i cs e;rw[e] at hx;generalize hu:a.eval x=u at hx;cases hx with
   | atom _ h=>simp[cV] at h
   | @tuple _ c' he hg =>
    rw[l8] at h;obtain⟨v',e1,r⟩:=(LR.of_arr he hg).get h;refine⟨v',r,λ w=>?_⟩;have e2:c'[i]?=some v':=by simpa using e1
    simp[execOp,ho,hu,Instr.extract,e2,Sem.run_bind,cP,Result.andThen]
  ·cases h
 ·rename_i c ho;split at h
  ·rename_i x t hq;unfold Pc at hq;split at hq
   case h_2=>cases hq
   rename_i y u;have hyx:y=x /\ u=t:=by
    split at hq <;> first|(cases hq;exact⟨rfl,rfl⟩)|cases hq
   obtain⟨rfl,rfl⟩:=hyx;have hx:=iD y (by rw[ho] at hl;simp only[cG,Option.some.injEq] at hl;subst hl;simp);split at h
   ·rename_i n hn;cases h;exact⟨_,.atom _ rfl,λ w=>J8 ho (J9 hx hn)⟩
   ·cases h
  ·exact hpl h
 ·exact hpl h
end fr
inductive ER(ν:Nu):List (Value × Value × Nat) -> List MapEntry -> Prop
 | nil:ER ν [] []
 | cons {v v':Value} {l:List (Value × Value × Nat)} {l':List MapEntry} (k:Value) (b:Nat):VRi ν v v' -> ER ν l l' -> ER ν ((k,v,b)::l) (⟨k,v',b⟩::l')
structure CR(ν:Nu)(K n:Nat)(t:Tr Value)(ty:TypeId)(w:Nat)(c:Array Value)(ty':TypeId)(fz:Nat × Nat):Prop where
 ty:ty'=ty
 le:n <= c.size
 fz:fz=(0,0)
 get:∀i,i<n -> ∃v',c[i]?=some v' /\ VRi ν (dz t i) v'
 gr:w≠0 -> c.size=K*w
def OR(ν:Nu)(K:Nat):AB -> Obj -> Prop
 | .cells n t ty w _,.cells c ty' fz=>CR ν K n t ty w c ty' fz
 | .map es clock,.map Vg afx=>afx=clock /\ ER ν es Vg.toList
 | .loop st pend T N ps as bo d,.loop r=>r.state=st /\ r.pending=pend /\ TRel ν N T r.tmps /\ r.params=ps /\ r.assign=as /\ r.body=bo /\ ∃K',ν d=some (r.defers,K')
 | .dfr shut,.deferred c=>c=(match shut with|true=>none|false=>some [])
 | _,_=>False
def Ka:AB -> Bool
 | .cells _ _ _ _ ro=>!ro
 | _=>true
structure HR(ν:Nu)(H:AH)(F:HL)(w:World):Prop where
 blk:∀h b,cw H h=some b -> ∃r K o,ν h=some (r,K) /\ w.heap[r]?=some o /\ OR ν K b o
 inj:∀h₁ h₂ b₁ b₂ r K₁ K₂,cw H h₁=some b₁ -> cw H h₂=some b₂ -> ν h₁=some (r,K₁) -> ν h₂=some (r,K₂) -> h₁=h₂
 frm:∀x∈F,w.heap[x.1]?=some x.2.den
 apt:∀h b r K,cw H h=some b -> ν h=some (r,K) -> ∀x∈F,x.1≠r
section hp
variable {ν ν':Nu} {P:Program} {G N:Nat} {T T':Tr Value} {a:Act} {H:AH} {F:HL} {w:World}
theorem ER.mono{l:List (Value × Value × Nat)}{l':List MapEntry}(h:ER ν l l')(hl:ν.Le ν'):ER ν' l l':=by
 induction h with
 | nil=>exact .nil
 | cons k b hv _ ih=>exact .cons k b (hv.mono hl) ih
theorem OR.mono{K:Nat}{b:AB}{o:Obj}(h:OR ν K b o)(hl:ν.Le ν'):OR ν' K b o:=by
 unfold OR at h ⊢;split at h
 ·exact⟨h.ty,h.le,h.fz,λ i hi=>let ⟨v',e,r⟩:=h.get i hi;⟨v',e,r.mono hl⟩,h.gr⟩
 ·exact⟨h.1,h.2.mono hl⟩
 ·obtain⟨h1,h2,h3,h4,h5,h6,K',h7⟩:=h;exact⟨h1,h2,h3.mono hl,h4,h5,h6,K',hl _ _ h7⟩
 ·exact h
 ·exact h.elim
theorem HR.lt(h:HR ν H F w){k r K:Nat}{b:AB}(hk:cw H k=some b)(hr:ν k=some (r,K)):r<w.heap.size:=by
 obtain⟨r',K',o,h1,h2,-⟩:=h.blk k b hk;rw[hr] at h1;cases h1;exact cK h2
theorem HR.cells(h:HR ν H F w){k n ww:Nat}{t:Tr Value}{ty:TypeId}{ro:Bool}{r K:Nat}(hk:cw H k=some (.cells n t ty ww ro))(hr:ν k=some (r,K)):∃c ty' fz,w.heap[r]?=some (.cells c ty' fz) /\ CR ν K n t ty ww c ty' fz:=by
 obtain⟨r',K',o,h1,h2,h3⟩:=h.blk _ _ hk;rw[hr] at h1;cases h1;unfold OR at h3;split at h3
 ·rename_i e1;cases e1;exact⟨_,_,_,h2,h3⟩
 ·rename_i e1;cases e1
 ·rename_i e1;cases e1
 ·rename_i e1;cases e1
 ·exact h3.elim
theorem HR.map(h:HR ν H F w){k cl:Nat}{es:List (Value × Value × Nat)}{r K:Nat}(hk:cw H k=some (.map es cl))(hr:ν k=some (r,K)):∃Vg,w.heap[r]?=some (.map Vg cl) /\ ER ν es Vg.toList:=by
 obtain⟨r',K',o,h1,h2,h3⟩:=h.blk _ _ hk;rw[hr] at h1;cases h1;unfold OR at h3;split at h3
 ·rename_i e1;cases e1
 ·rename_i e1;cases e1;obtain⟨e,h4⟩:=h3;subst e;exact⟨_,h2,h4⟩
 ·rename_i e1;cases e1
 ·rename_i e1;cases e1
 ·exact h3.elim
theorem nU{c:Array Value}{ty:TypeId}{fz:Nat × Nat}{b i:Nat}(h:w.heap[b]?=some (.cells c ty fz)):w.cell? ⟨b,i,none⟩=c[i]?:=by
 simp[World.cell?,h]
theorem lE{c:Array Value}{n:Nat}{t:Tr Value}(hle:n <= c.size)(hg:∀i,i<n -> ∃v',c[i]?=some v' /\ VRi ν (dz t i) v'):∀ (k i:Nat),i+k <= n -> LR ν (jf t i k) ((c.toList.drop i).take k)
 | 0,i,_=>by simp only[jf,List.take_zero];exact .nil
 | k+1,i,h=>by
  obtain⟨v',e,r⟩:=hg i (by omega);have iS:i<c.toList.length:=by simp;omega
  rw[List.drop_eq_getElem_cons iS,List.take_succ_cons];have:c.toList[i]=v':=by
   have:=(Array.getElem?_eq_some_iff.1 e).2;simpa using this
  rw[this];exact .cons r (lE hle hg k (i+1) (by omega))
theorem oP{b off:Nat}:∀ (vs:List Value) (i:Nat) (acc:Array Value),(∀j (hj:j<vs.length),w.cell? ⟨b,off+(i+j),none⟩=some vs[j]) -> (loadCellsFrom ⟨b,off,none⟩ i vs.length acc).run P w=.ok (acc++⟨vs⟩) w
 | [],i,acc,_=>by simp[loadCellsFrom,cP]
 | v::vs,i,acc,h=>by
  rw[List.length_cons,loadCellsFrom,Sem.run_bind];have h0:=h 0 (by simp);simp only[Nat.add_zero,List.getElem_cons_zero] at h0;have h1:(load ((⟨b,off,none⟩:Addr).add i)).run P w=.ok v w:=by
   rw[pm];unfold load;rw[Sem.run,h0];rfl
  rw[h1];simp only[Result.andThen_ok];rw[oP vs (i+1) _ (λ j hj=>by
   have:=h (j+1) (by simp;omega);simp only[List.getElem_cons_succ] at this;rw[<- this];congr 2;omega)]
  simp
theorem AQ{t:TypeId}{b off n:Nat}{c:Array Value}{ty:TypeId}{fz:Nat × Nat}{tr:Tr Value}{v:Value}(hw:w.heap[b]?=some (.cells c ty fz))(hle:n <= c.size)(hg:∀i,i<n -> ∃v',c[i]?=some v' /\ VRi ν (dz tr i) v')
  (h:(match Ap P t with
   | true=>match Nat.blt off n with
    | true=>some (dz tr off)
    | false=>none
   | false=>match CY P t with
    | some k=>match Nat.ble (off+k) n with
     | true=>some (.agg ⟨jf tr off k⟩)
     | false=>none
    | none=>none)=some v):∃v',VRi ν v v' /\ (loadVar t ⟨b,off,none⟩).run P w=.ok v' w:=by
 split at h
 ·rename_i h1;split at h
  ·rename_i iS;cases h;obtain⟨v',e,r⟩:=hg off (eH iS);refine⟨v',r,?_⟩;unfold loadVar;rw[Sem.run_bind,AL h1];simp only[Result.andThen_ok,Bool.false_eq_true,if_false];unfold load;rw[Sem.run,nU hw,e];rfl
  ·cases h
 ·split at h
  ·rename_i k hk;split at h
   ·rename_i iS;cases h;obtain⟨h1,h2,h3⟩:=AM hk;have ZY:=Nat.le_of_ble_eq_true iS;have hl:=lE hle hg k off ZY;refine⟨.agg ⟨(c.toList.drop off).take k⟩,.agg_of hl,?_⟩;have hlen:((c.toList.drop off).take k).length=k:=by simp;omega
    unfold loadVar;rw[Sem.run_bind,h1];simp only[Result.andThen_ok,if_true];rw[Sem.run_bind,h2];simp only[Result.andThen_ok];rw[Sem.run_bind];unfold loadCells;have:=oP (P:=P) (w:=w) (b:=b) (off:=off) ((c.toList.drop off).take k) 0 #[] (λ j hj=>by
     rw[nU hw];have Za:off+(0+j)<c.size:=by rw[hlen] at hj;omega
     rw[Array.getElem?_eq_getElem Za];simp)
    rw[hlen] at this;rw[this];simp[Result.andThen,cP]
   ·cases h
  ·cases h
theorem AR{t:TypeId}{ad ad':Addr}{v:Value}(hH:HR ν H F w)(hp:VRi ν (.pointer (some ad)) (.pointer (some ad')))(h:wG P t H ad=some v):∃v',VRi ν v v' /\ (loadVar t ad').run P w=.ok v' w:=by
 cases hp with
 | atom _ h=>simp[cV] at h
 | @ptr hd b K o hν =>
  unfold wG at h;split at h
  case h_2=>cases h
  rename_i n tr ty ww ro hs hb;simp only at hb h;obtain⟨c,ty',fz,hw,hc⟩:=hH.cells hb hν;exact AQ hw hc.le hc.get h
def ye:TypeDesc -> Value -> Bool
 | .int _,.int _ _=>true
 | .string,.string _=>true
 | .bool,.bool _=>true
 | _,_=>false
theorem Dc{t:TypeId}{k:Value}(h:JS P t k=true):∃d,P.underlying t=some d /\ ye d k=true:=by
 unfold JS at h;split at h <;> first|(cases h;done)|(rename_i e;exact⟨_,e,rfl⟩)
theorem um{d:TypeDesc}{k:Value}(h:ye d k=true):pl k=true /\ cV k=true:=by
 unfold ye at h;split at h <;> first|(cases h;done)|exact⟨rfl,rfl⟩
theorem iH{d:TypeDesc}{k k':Value}{r:Bool}(h:m5 k k'=some r)(hk:ye d k=true):Instr.sameNow d k k'=some r:=by
 unfold ye at hk;split at hk <;> first|(cases hk;done)|skip
 ·rename_i k1 k2 n1;cases k' with
  | int k3 n2 =>
   unfold m5 at h
   by_cases e:k2=k3
   ·simp only[e,decide_true] at h;cases h;simp[Instr.sameNow,e]
   ·simp[e] at h
  | _=>simp[m5] at h
 ·cases k' with
  | string s2=>unfold m5 at h;cases h;rfl
  | _=>simp[m5] at h
 ·cases k' with
  | bool s2=>unfold m5 at h;cases h;rfl
  | _=>simp[m5] at h
theorem gX{t:TypeId}{k:Value}(h:JS P t k=true)(e:Bool)(w:World):(Instr.checkKey e 10000 t k).run P w=.ok () w:=by
 obtain⟨d,hd,hk⟩:=Dc h;rw[show (10000:Nat)=9999+1 from rfl,Instr.checkKey.eq_def];simp only;rw[Sem.run_bind,aN hd];unfold ye at hk;split at hk <;> first|(cases hk;done)|rfl
theorem wP{d:TypeDesc}{k:Value}(hk:ye d k=true){es:List (Value × Value × Nat)}{Vg:List MapEntry}(h:ER ν es Vg):∀ {r:Option Value} (i:Nat),Ar k es=some r ->
  (r=none /\ Instr.findNow d k Vg i=some none) \/ (∃v v' j,r=some v /\ VRi ν v v' /\ Instr.findNow d k Vg i=some (some (j,v'))):=by
 induction h with
 | nil=>intro r i h;rw[Ar] at h;cases h;exact .inl ⟨rfl,rfl⟩
 | cons k' b hv _ ih =>
  intro r i h;rw[Ar] at h;split at h
  ·rename_i e;cases h;exact .inr ⟨_,_,i,rfl,hv,by rw[Instr.findNow];simp only[iH e hk]⟩
  ·rename_i e;rcases ih (i+1) h with ⟨h1,h2⟩|⟨v,v',j,h1,h2,h3⟩
   ·exact .inl ⟨h1,by rw[Instr.findNow];simp only[iH e hk];exact h2⟩
   ·exact .inr ⟨v,v',j,h1,h2,by rw[Instr.findNow];simp only[iH e hk];exact h3⟩
  ·cases h
theorem wQ{t:TypeId}{z:Value}(h:El P t=some z)(w:World):(zeroValue t).run P w=.ok z w /\ pl z=true:=by
 unfold El at h;split at h
 case h_2=>cases h
 rename_i i hi;split at h
 case h_2=>cases h
 rename_i zv hz;split at h
 case h_2=>cases h
 rename_i hp;cases h;refine⟨?_,hp⟩;unfold zeroValue;rw[Sem.run_bind,dC hi];simp only[Result.andThen_ok,hz];rfl
theorem rg{ok b:Bool}{v v':Value}(h:VRi ν v v'):VRi ν (Em ok v b) (if ok=true then .tuple #[v',.bool b] else v'):=by
 cases ok with
 | true=>exact .tuple_of (.cons h (.cons (.atom _ rfl) .nil))
 | false=>exact h
theorem Kb{t:TypeId}{m m' k:Value}{ok:Bool}{v:Value}(hH:HR ν H F w)(hm:VRi ν m m')(h:JT P t H m k ok=some v):pl k=true /\ ∃v',VRi ν v v' /\ (Instr.lookup t m' k ok).run P w=.ok v' w:=by
 unfold JT at h;split at h
 case h_2=>cases h
 rename_i kt et hu;split at h
 case h_2=>cases h
 rename_i hk;obtain⟨d,hd,hkd⟩:=Dc hk;have hf:∀es,(∀r,Instr.findNow d k es 0=some r -> (Instr.findKey kt k es).run P w=.ok r w):=λ es r hr=>by
  unfold Instr.findKey;rw[Sem.run_bind,aN hd];simp only[Result.andThen_ok,hr];rfl
 refine⟨(um hkd).1,?_⟩;split at h
 ·split at h
  ·rename_i z hz;cases h;cases hm;obtain⟨h1,h2⟩:=wQ hz w;refine⟨_,rg (.plain_refl _ h2),?_⟩;unfold Instr.lookup;rw[Sem.run_bind,aN hu];simp only[Result.andThen_ok,Sem.run_bind,cP,gX hk,hf [] none rfl,h1]
   try (cases ok <;> rfl)
  ·cases h
 ·rename_i r;split at h
  ·rename_i es cl hb;cases hm with
   | atom _ h=>simp[cV] at h
   | @map _ b K hν =>
   obtain⟨Vg,hw,hE⟩:=hH.map hb hν;have hg:(getObj b).run P w=.ok (.map Vg cl) w:=iq hw;split at h
   ·rename_i v0 hfi;cases h;rcases wP hkd hE 0 hfi with ⟨h1,h2⟩|⟨v1,v',j,h1,h2,h3⟩
    ·cases h1
    ·cases h1;refine⟨_,rg h2,?_⟩;unfold Instr.lookup;rw[Sem.run_bind,aN hu];simp only[Result.andThen_ok,Sem.run_bind,hg,cP,gX hk,hf _ _ h3]
     try (cases ok <;> rfl)
   ·rename_i hfi;split at h
    ·rename_i z hz;cases h;obtain⟨h1,h2⟩:=wQ hz w;rcases wP hkd hE 0 hfi with ⟨h3,h4⟩|⟨v1,v',j,h3,h4,h5⟩
     ·refine⟨_,rg (.plain_refl _ h2),?_⟩;unfold Instr.lookup;rw[Sem.run_bind,aN hu];simp only[Result.andThen_ok,Sem.run_bind,hg,cP,gX hk,hf _ _ h4,h1]
      try (cases ok <;> rfl)
     ·cases h3
    ·cases h
   ·cases h
  ·cases h
 ·cases h
end hp
section sl
variable {ν ν':Nu} {P:Program} {G N:Nat} {T T':Tr Value} {a:Act} {H:AH} {F:HL} {w:World}
def Pg(x:Option Value)(n d:Nat):Prop:=(x=none /\ n=d) \/ ∃k,x=some (.int k (n:Int))
theorem uo{k:IntKind}{n y:Nat}{c:BoundsCode}(h:n <= y)(w:World):(Instr.sliceBound (.int k (n:Int)) y c).run P w=.ok n w:=by
 simp[Instr.sliceBound,asIntOf,h,go_sem]
theorem po{b:Bool}{len cap l h m:Nat}{lo hi mx:Option Value}(o1:Pg lo l 0)(o2:Pg hi h len)(o3:Pg mx m cap)(hm:mx=none \/ hi≠none)(h1:l <= h)(h2:h <= m)(h3:m <= cap)(w:World) :
  (Instr.sliceBounds b len cap lo hi mx).run P w=.ok (l,h,m) w:=by
 unfold Instr.sliceBounds;rcases o1 with ⟨rfl,rfl⟩|⟨k1,rfl⟩ <;> rcases o2 with ⟨rfl,rfl⟩|⟨k2,rfl⟩ <;> rcases o3 with ⟨rfl,rfl⟩|⟨k3,rfl⟩ <;>
  first
   | (rcases hm with e|e <;> first|(cases e;done)|exact(e rfl).elim)
   | simp[Sem.run_bind,uo,h1,h2,h3]
theorem lF{d n:Nat}{x:Option Operand}(iD:∀y,x=some y -> VRi ν (ael T y) (a.eval y))(h:xZ T d x=some n):Pg (x.map a.eval) n d:=by
 cases x with
 | none=>rw[xZ] at h;cases h;exact .inl ⟨rfl,rfl⟩
 | some y =>
  rw[xZ] at h;obtain⟨k,e⟩:=pn h (iD y rfl);exact .inr ⟨k,by simp[e]⟩
theorem AU(h o m l k:Nat):Eo ⟨h,o,none⟩ m l k=⟨h,if m=l then o else o+l*k,none⟩:=by
 unfold Eo;split
 ·rename_i e;rw[if_pos (Nat.eq_of_beq_eq_true e)]
 ·rename_i e;rw[if_neg (λ e'=>by subst e';simp at e),qo]
theorem AV(b o m l k:Nat):(if m=l then (⟨b,o,none⟩:Addr) else (⟨b,o,none⟩:Addr).add (l*k))=⟨b,if m=l then o else o+l*k,none⟩:=by
 split
 ·rfl
 ·rw[pm]
theorem cj{a b:Nat}(h:Nat.ble a b=true):a <= b:=Nat.le_of_ble_eq_true h
theorem uq{k l h m c c':Nat}{base Of:Option Addr}{n n':Nat}{v:Value}(hr:VRi ν (.slice base n c) (.slice Of n' c'))(hc:c<nT)(hv:ya k base l h m c=some v) :
  l <= h /\ h <= m /\ m <= c /\ VRi ν v (.slice (if m=l then Of else Of.map (·.add (l*k))) (h-l) (m-l)):=by
 unfold ya at hv;split at hv
 case h_2=>cases hv
 rename_i h1 h2 h3;refine⟨cj h1,cj h2,cj h3,?_⟩;have h3':=cj h3;split at hv
 ·cases hv;cases hr;split <;> exact .atom _ rfl
 ·split at hv
  ·cases hv;cases hr with
   | atom _ h=>simp[cV] at h
   | @slice _ b _ _ _ o n hν hcap =>
    rw[AU];have:(if m=l then (some ⟨b,o,none⟩:Option Addr) else (some ⟨b,o,none⟩:Option Addr).map (·.add (l*k)))=some ⟨b,if m=l then o else o+l*k,none⟩:=by
     rw[<- AV];split <;> rfl
    rw[this];exact .slice _ _ hν ⟨λ _=>rfl,λ e=>by omega⟩
  ·cases hv
theorem GR{t:TypeId}{x:Value}{ρx:Value}{lo hi mx:Option Operand}{v:Value}(hH:HR ν H F w)(hx:VRi ν x ρx)(hlo:∀y,lo=some y -> VRi ν (ael T y) (a.eval y))(hhi:∀y,hi=some y -> VRi ν (ael T y) (a.eval y))(hmx:∀y,mx=some y -> VRi ν (ael T y) (a.eval y))
  (h:C2 P t H T x lo hi mx=some v):∃v',VRi ν v v' /\ (Instr.sliceAt t ρx (lo.map a.eval) (hi.map a.eval) (mx.map a.eval)).run P w=.ok v' w:=by
 unfold C2 at h;split at h
 ·cases h
 rename_i hmo;have aeC:(mx.map a.eval=none \/ hi.map a.eval≠none):=by
  unfold QW at hmo;split at hmo
  ·cases hmo
  ·rename_i e;cases mx with
   | none=>exact .inl rfl
   | some m=>cases hi with
    | none=>exact(e _ rfl rfl).elim
    | some hh=>exact .inr (by simp)
 split at h
 ·rename_i el hu;split at h
  case h_2=>cases h
  rename_i base n c;split at h
  case h_2=>cases h
  rename_i k l hh hs hl hhn;have TU:=fi hs w;have b1:=lF hlo hl;have b2:=lF hhi hhn;split at h
  ·rename_i hc;have Vf:=eH hc;split at h
   case h_2=>cases h
   rename_i m hm;have b3:=lF hmx hm;have ZN:∃Of,ρx=.slice Of n c /\ VRi ν (.slice base n c) (.slice Of n c):=by
    cases hx with
    | atom _ h=>exact⟨_,rfl,.atom _ h⟩
    | slice o n hν hcap=>obtain rfl:=hcap.1 Vf;exact⟨_,rfl,.slice o n hν hcap⟩
   obtain⟨Of,rfl,hr⟩:=ZN;obtain⟨g1,g2,g3,g4⟩:=uq hr Vf h;refine⟨_,g4,?_⟩;unfold Instr.sliceAt;rw[Sem.run_bind,aN hu];simp only[Result.andThen_ok];unfold Instr.slice;rw[Sem.run_bind,aN hu];simp only[Result.andThen_ok];rw[Sem.run_bind,po b1 b2 b3 aeC g1 g2 g3];simp only[Result.andThen_ok];rw[Sem.run_bind,TU];rfl
  ·rename_i hc;have Vf:nT <= c:=by
    rcases Nat.lt_or_ge c nT with e|e
    ·have:Nat.blt c nT=true:=Nat.ble_eq_true_of_le e;rw[this] at hc;cases hc
    ·exact e
   split at h
   case h_2=>cases h
   rename_i ad mo VZ;cases hx with
   | atom _ h=>simp[cV] at h
   | @slice hd b K _ c' o n hν hcap =>
   have Vx:=hcap.2 Vf;unfold JU at h;split at h
   case h_2=>cases h
   rename_i nn tr ty ww ro Yw hb;split at h
   case h_2=>cases h
   rename_i e1 e2 e3 e4;simp only at hb;obtain⟨cc,ty',fz,hw,YV⟩:=hH.cells hb hν;have e1':ww=k:=Nat.eq_of_beq_eq_true e1;have e2':=eH e2;have e3':=cj e3;have e4':=cj e4;have S4:=YV.gr (by omega);have hle:=YV.le;have aeY:∀q,(c-nT+q)*ww <= nn -> q <= c':=λ q hq=>by
    have:(c-nT+q)*ww <= K*ww:=by omega
    have:=Nat.le_of_mul_le_mul_right this e2';omega
   have iN:∀ (m:Nat),Pg (mx.map a.eval) m c' -> hh <= m -> m <= c' -> (Instr.sliceAt t (.slice (some ⟨b,o,none⟩) n c') (lo.map a.eval) (hi.map a.eval) (mx.map a.eval)).run P w=.ok (.slice (some ⟨b,if m=l then o else o+l*k,none⟩) (hh-l) (m-l)) w:=λ m b3 g2 g3=>by
    unfold Instr.sliceAt;rw[Sem.run_bind,aN hu];simp only[Result.andThen_ok];unfold Instr.slice;rw[Sem.run_bind,aN hu];simp only[Result.andThen_ok];rw[Sem.run_bind,po b1 b2 b3 aeC e3' g2 g3];simp only[Result.andThen_ok];rw[Sem.run_bind,TU];have:(if m=l then (some ⟨b,o,none⟩:Option Addr) else (some ⟨b,o,none⟩:Option Addr).map (·.add (l*k)))=some ⟨b,if m=l then o else o+l*k,none⟩:=by
     rw[<- AV];split <;> rfl
    simp only[Result.andThen_ok,this,cP]
   split at h
   ·have hmn:mx=none:=by
     unfold Pd at VZ;split at VZ
     ·rfl
     ·split at VZ <;> cases VZ
    subst hmn;have b3:Pg ((none:Option Operand).map a.eval) c' c':=.inl ⟨rfl,rfl⟩;split at h
    ·rename_i iS;have ace:=eH iS;cases h;have g:=aeY _ e4';refine⟨_,?_,iN c' b3 g (Nat.le_refl _)⟩;rw[qo,if_neg (by omega)];exact .slice _ _ hν ⟨λ e=>by omega,λ e=>by omega⟩
    ·rename_i hnl;split at h
     ·cases h;have g:=aeY _ e4';have hh0:hh=0:=by
       rcases Nat.eq_zero_or_pos hh with e|e
       ·exact e
       ·have:Nat.blt 0 hh=true:=Nat.ble_eq_true_of_le e;rw[this] at hnl;cases hnl
      subst hh0;refine⟨_,?_,iN c' b3 g (Nat.le_refl _)⟩;simp only[Nat.zero_mul,Nat.add_zero,ite_self,Nat.sub_zero];exact .slice _ _ hν hcap
     ·cases h
   ·rename_i m;split at h
    case h_2=>cases h
    rename_i q1 q2 q3;cases h;have hmn:∃y,mx=some y /\ LN (ael T y)=some m:=by
     unfold Pd at VZ;split at VZ
     ·cases VZ
     ·rename_i y;split at VZ
      ·rename_i n' e';cases VZ;exact⟨y,rfl,e'⟩
      ·cases VZ
    obtain⟨y,rfl,ey⟩:=hmn;obtain⟨kk,ey'⟩:=pn ey (hmx y rfl);have b3:Pg ((some y:Option Operand).map a.eval) m c':=.inr ⟨kk,by simp[ey']⟩;refine⟨_,?_,iN m b3 (cj q1) (aeY _ (cj q2))⟩;rw[AU];have:=eH q3;exact .slice _ _ hν ⟨λ _=>rfl,λ e=>by omega⟩
 ·rename_i n el hu;split at h
  case h_2=>cases h
  rename_i ad;split at h
  case h_2=>cases h
  rename_i k l hh m hs hl hhn hm;have TU:=fi hs w;have b1:=lF hlo hl;have b2:=lF hhi hhn;have b3:=lF hmx hm;split at h
  case h_2=>cases h
  rename_i hn;cases hx with
  | atom _ h=>simp[cV] at h
  | @ptr hd b K o hν =>
  obtain⟨g1,g2,g3,g4⟩:=uq (n:=0) (n':=0) (c':=n) (.slice o 0 hν ⟨λ _=>rfl,λ e=>by have:=eH hn;omega⟩:VRi ν (.slice (some ⟨hd,o,none⟩) 0 n) (.slice (some ⟨b,o,none⟩) 0 n)) (eH hn) h;refine⟨_,g4,?_⟩;unfold Instr.sliceAt;rw[Sem.run_bind,aN hu];simp only[Result.andThen_ok];rw[Sem.run_bind];simp only[Instr.sureAddr,cP,Result.andThen_ok];rw[Sem.run_bind,po b1 b2 b3 aeC g1 g2 g3];simp only[Result.andThen_ok];rw[Sem.run_bind,TU];have:(if m=l then (some ⟨b,o,none⟩:Option Addr) else (some ⟨b,o,none⟩:Option Addr).map (·.add (l*k)))=some (if m=l then ⟨b,o,none⟩ else (⟨b,o,none⟩:Addr).add (l*k)):=by split <;> rfl
  rw[this];rfl
 ·cases h
theorem AW{o:Oper}{v:Value}(hH:HR ν H F w)(h:kM P o T H=some v){l:List Operand}(hl:cG o.op=some l)(iD:OK ν T a l):∃v',VRi ν v v' /\ (execOp a.eval o).run P w=.ok (.value v') w:=by
 have Uu:=hl;unfold kM at h;split at h
 ·rename_i t x ho;rw[ho] at hl;simp only[cG,Option.some.injEq] at hl;subst hl;have hx:=iD x (by simp);split at h
  ·rename_i ad e;rw[e] at hx;generalize hu:a.eval x=u at hx;have hx2:=hx;cases hx with
   | atom _ h=>simp[cV] at h
   | ptr o hν =>
    obtain⟨v',r,e2⟩:=AR hH hx2 h;refine⟨v',r,?_⟩;simp[execOp,ho,Instr.loadAt,Instr.sureAddr,hu,Sem.run_bind,e2]
  ·cases h
 ·rename_i t m k ok ho;rw[ho] at hl;simp only[cG,Option.some.injEq] at hl;subst hl;obtain⟨hp,v',r,e⟩:=Kb hH (iD m (by simp)) h;have hk:=(iD k (by simp)).plain_eq hp;refine⟨v',r,?_⟩;simp[execOp,ho,hk,Sem.run_bind,e]
 ·rename_i t x lo hi mx ho;split at h
  ·obtain⟨v',r,e⟩:=re h Uu iD;exact⟨v',r,e w⟩
  ·rw[ho] at hl;simp only[cG,Option.some.injEq] at hl;subst hl;obtain⟨v',r,e⟩:=GR (a:=a) hH (iD x (by simp)) (λ y hy=>iD y (by subst hy;simp)) (λ y hy=>iD y (by subst hy;simp)) (λ y hy=>iD y (by subst hy;simp)) h;refine⟨v',r,?_⟩;simp[execOp,ho,Sem.run_bind,e]
 ·cases h
end sl
section wr
variable {ν ν':Nu} {P:Program} {G N:Nat} {T T':Tr Value} {a:Act} {H H':AH} {F:HL} {w w':World}
theorem ee(H:AH)(h k:Nat)(b:Option AB):cw (dw H h b) k=if h=k then b else cw H k:=ke _ _ _
theorem HR.upd(hH:HR ν H F w){h r K:Nat}{b0 b1:AB}{o':Obj}(hb:cw H h=some b0)(hw0:Ka b0=true)(hw1:Ka b1=true)(hν:ν h=some (r,K))(hr:w'.heap[r]?=some o')(ho:OR ν K b1 o')(hs:∀k,k≠r -> w'.heap[k]?=w.heap[k]?):HR ν (dw H h (some b1)) F w':=by
 have ID:∀k b,cw (dw H h (some b1)) k=some b -> k≠h -> cw H k=some b:=λ k b hk IF=>by
  rw[ee,if_neg (Ne.symm IF)] at hk;exact hk
 have ex:∀k b,cw (dw H h (some b1)) k=some b -> ∃b',cw H k=some b' /\ (Ka b=true -> Ka b'=true):=λ k b hk=>by
  by_cases e:k=h
  ·subst e;exact⟨b0,hb,λ _=>hw0⟩
  ·exact⟨b,ID k b hk e,λ e=>e⟩
 refine⟨λ k b hk=>?_,λ k1 k2 b1' b2' q K1 K2 h1 h2 h3 h4=>?_,λ x hx=>?_,λ k b q K' hk hq x hx=>?_⟩
 ·by_cases e:k=h
  ·subst e;rw[ee,if_pos rfl] at hk;cases hk;exact⟨r,K,o',hν,hr,ho⟩
  ·have XE:=ID k b hk e;obtain⟨q,K',o,h1,h2,h3⟩:=hH.blk k b XE;refine⟨q,K',o,h1,?_,h3⟩;rw[hs q,h2];intro e';subst e';exact e (hH.inj _ _ _ _ _ _ _ XE hb h1 hν)
 ·obtain⟨c1,d1,-⟩:=ex _ _ h1;obtain⟨c2,d2,-⟩:=ex _ _ h2;exact hH.inj _ _ _ _ _ _ _ d1 d2 h3 h4
 ·rw[hs _ (hH.apt _ _ _ _ hb hν x hx)];exact hH.frm x hx
 ·obtain⟨c1,d1,d2⟩:=ex _ _ hk;exact hH.apt _ _ _ _ d1 hq x hx
theorem HR.del(hH:HR ν H F w)(h:Nat):HR ν (dw H h none) F w:=by
 have ID:∀k b,cw (dw H h none) k=some b -> cw H k=some b:=λ k b hk=>by
  rw[ee] at hk;split at hk
  ·cases hk
  ·exact hk
 exact⟨λ k b hk=>hH.blk k b (ID k b hk),λ k1 k2 b1 b2 q K1 K2 h1 h2 h3 h4=>hH.inj _ _ _ _ _ _ _ (ID _ _ h1) (ID _ _ h2) h3 h4,hH.frm,λ k b q K hk=>hH.apt k b q K (ID k b hk)⟩
theorem HR.add(hH:HR ν H F w){n r K:Nat}{b:AB}{o:Obj}(hn:ν n=none)(hr:w.heap[r]?=some o)(ho:OR ν K b o)(hwb:Ka b=true)(hF:∀x∈F,x.1≠r)(Yb:∀k b' K',cw H k=some b' -> ν k≠some (r,K')):HR (ν.upd n r K) (dw H n (some b)) F w:=by
 have hle:ν.Le (ν.upd n r K):=lC hn;have VL:cw H n=none:=by
  cases e:cw H n with
  | none=>rfl
  | some b'=>obtain⟨q,K',o',h1,-⟩:=hH.blk n b' e;rw[hn] at h1;cases h1
 have ID:∀k b',cw (dw H n (some b)) k=some b' -> k≠n -> cw H k=some b':=λ k b' hk IF=>by
  rw[ee,if_neg (Ne.symm IF)] at hk;exact hk
 refine⟨λ k b' hk=>?_,λ k1 k2 b1 b2 q K1 K2 h1 h2 h3 h4=>?_,hH.frm,λ k b' q K' hk hq x hx=>?_⟩
 ·by_cases e:k=n
  ·subst e;rw[ee,if_pos rfl] at hk;cases hk;exact⟨r,K,o,cN,hr,ho.mono hle⟩
  ·obtain⟨q,K',o',h1,h2,h3⟩:=hH.blk k b' (ID k b' hk e);exact⟨q,K',o',hle _ _ h1,h2,h3.mono hle⟩
 ·by_cases e1:k1=n
  ·by_cases e2:k2=n
   ·rw[e1,e2]
   ·subst e1;rw[cN] at h3;rw[fF e2] at h4;cases h3;exact(Yb _ _ _ (ID _ _ h2 e2) h4).elim
  ·by_cases e2:k2=n
   ·subst e2;rw[cN] at h4;rw[fF e1] at h3;cases h4;exact(Yb _ _ _ (ID _ _ h1 e1) h3).elim
   ·rw[fF e1] at h3;rw[fF e2] at h4;exact hH.inj _ _ _ _ _ _ _ (ID _ _ h1 e1) (ID _ _ h2 e2) h3 h4
 ·by_cases e:k=n
  ·subst e;rw[cN] at hq;cases hq;exact hF x hx
  ·rw[fF e] at hq;exact hH.apt _ _ _ _ (ID _ _ hk e) hq x hx
theorem HR.world(hH:HR ν H F w)(hs:∀k,k<w.heap.size -> w'.heap[k]?=w.heap[k]?):HR ν H F w':=by
 refine⟨λ k b hk=>?_,hH.inj,λ x hx=>?_,hH.apt⟩
 ·obtain⟨q,K',o',h1,h2,h3⟩:=hH.blk k b hk;exact⟨q,K',o',h1,by rw[hs _ (cK h2)];exact h2,h3⟩
 ·have:=hH.frm x hx;rw[hs _ (cK this)];exact this
theorem HR.new(hH:HR ν H F w){n K:Nat}{b:AB}{o:Obj}(hn:ν n=none)(ho:OR ν K b o)(hwb:Ka b=true)(hw:w'.heap=w.heap.push o):HR (ν.upd n w.heap.size K) (dw H n (some b)) F w':=by
 have h1:HR ν H F w':=hH.world (λ k hk=>by rw[hw,Array.getElem?_push,if_neg (by omega)]);refine h1.add hn (by rw[hw];simp) ho hwb (λ x hx e=>?_) (λ k b' K' hk e=>?_)
 ·have:=cK (hH.frm x hx);omega
 ·have:=hH.lt hk e;omega
theorem m8{l:List Value}{i:Nat}(h:i<l.length):dz (eF undef l 0 .lf) i=l[i]:=by
 unfold dz;rw[s8];simp[h]
theorem wR(l:List Value)(ty:TypeId):kZ l ty=.cells l.length (eF undef l 0 .lf) ty 0 false:=by
 unfold kZ;split <;> rename_i h <;> rw[h,fg]
theorem lG(l:List Value)(ty:TypeId)(k:Nat):yc l ty k=.cells l.length (eF undef l 0 .lf) ty k false:=by
 unfold yc;split <;> rename_i h <;> rw[h,fg]
theorem N9{l l' rest:List Value}{ty:TypeId}{ww K:Nat}(h:LR ν l l')(hk:ww≠0 -> (l'++rest).length=K*ww):CR ν K l.length (eF undef l 0 .lf) ty ww ⟨l'++rest⟩ ty (0,0):=by
 refine⟨rfl,by simp[h.length],rfl,λ i hi=>?_,λ e=>by simpa using hk e⟩;obtain⟨v',e,r⟩:=h.get (List.getElem?_eq_getElem hi);refine⟨v',?_,by rw[m8 hi];exact r⟩;have:(l'++rest)[i]?=some v':=by rw[List.getElem?_append_left (by rw[h.length];exact hi)];exact e
 simpa using this
theorem OR.cellsB{l l':List Value}{ty:TypeId}{K:Nat}(h:LR ν l l'):OR ν K (kZ l ty) (.cells ⟨l'⟩ ty (0,0)):=by
 rw[wR];have:=N9 (ty:=ty) (ww:=0) (K:=K) (rest:=[]) h (λ e=>(e rfl).elim);have h2:CR ν K l.length (eF undef l 0 .lf) ty 0 ⟨l'⟩ ty (0,0):=by simpa using this
 exact h2
theorem ma(l:List Value)(ty:TypeId):Ka (kZ l ty)=true:=by rw[wR];rfl
theorem ur(t:Tr Value):∀ (vs:List Value) (i j:Nat),dz (lW t i vs) j=if h:i <= j /\ j-i<vs.length then vs[j-i] else dz t j:=by
 intro vs
 induction vs generalizing t with
 | nil=>intro i j;simp[lW]
 | cons v vs ih =>
  intro i j;rw[lW,ih];have dw:dz (vw t i v) j=if i=j then v else dz t j:=ke _ _ _
  by_cases h1:i=j
  ·subst h1;have:¬ (i+1 <= i /\ i-(i+1)<vs.length):=by omega
   rw[dif_neg this,dw,if_pos rfl];simp
  ·by_cases h2:i <= j
   ·have h4:j-i=(j-(i+1))+1:=by omega
    by_cases h3:j-(i+1)<vs.length
    ·rw[dif_pos ⟨by omega,h3⟩,dif_pos ⟨h2,by rw[List.length_cons];omega⟩];simp only[h4,List.getElem_cons_succ]
    ·rw[dif_neg (by omega),dif_neg (by rw[List.length_cons];omega),dw,if_neg h1]
   ·rw[dif_neg (by omega),dif_neg (by omega),dw,if_neg h1]
theorem ju(b:Nat):∀ (vs:List Value) (o:Nat) (w:World) (k:Nat),k≠b -> (w.setCells b o vs).heap[k]?=w.heap[k]?
 | [],_,_,_,_=>rfl
 | v::vs,o,w,k,h=>by rw[World.setCells,ju b vs _ _ _ h,Below.heap_setCell _ _ _ _ h]
theorem jv(b:Nat):∀ (vs:List Value) (o:Nat) (w:World),Below 0 w (w.setCells b o vs)
 | [],_,w=>Below.refl 0 w
 | v::vs,o,w=>by
  rw[World.setCells];exact((Below.refl 0 w).setCell (Nat.zero_le _) v).trans (jv b vs (o+1) _)
theorem m9(b:Nat):∀ (vs:List Value) (o:Nat) (w:World) {c:Array Value} {ty:TypeId} {fz:Nat × Nat},w.heap[b]?=some (.cells c ty fz) -> ∃c',(w.setCells b o vs).heap[b]?=some (.cells c' ty fz) /\ c'.size=c.size /\ ∀j,j<c.size -> c'[j]?=if h:o <= j /\ j-o<vs.length then some vs[j-o] else c[j]?
 | [],o,w,c,ty,fz,h=>⟨c,h,rfl,λ j _=>by simp⟩
 | v::vs,o,w,c,ty,fz,h=>by
  have h1:(w.setCell ⟨b,o,none⟩ v).heap[b]?=some (.cells (c.setIfInBounds o v) ty fz):=by
   simp[World.setCell,Array.getElem?_modify,h]
  obtain⟨c',e1,e2,e3⟩:=m9 b vs (o+1) _ h1;refine⟨c',e1,by simpa using e2,λ j hj=>?_⟩;rw[e3 j (by simpa using hj)]
  by_cases h2:o=j
  ·subst h2;rw[dif_neg (by omega),dif_pos ⟨Nat.le_refl _,by simp⟩,Array.getElem?_setIfInBounds_self_of_lt hj];simp
  ·rw[Array.getElem?_setIfInBounds_ne h2]
   by_cases h3:o <= j
   ·have h4:j-o=(j-(o+1))+1:=by omega
    by_cases h5:j-(o+1)<vs.length
    ·rw[dif_pos ⟨by omega,h5⟩,dif_pos ⟨h3,by rw[List.length_cons];omega⟩];simp only[h4,List.getElem_cons_succ]
    ·rw[dif_neg (by omega),dif_neg (by rw[List.length_cons];omega)]
   ·rw[dif_neg (by omega),dif_neg (by omega)]
theorem Dd{v:Value}{l:List Value}(hf:lz (v::l)=true):(∀cs,v≠Value.agg cs) /\ (∀cs,v≠Value.tuple cs) /\ lz l=true:=by
 cases v <;> simp[lz] at hf <;> simp[hf]
theorem wS{vs Tv:List Value}(h:LR ν vs Tv)(hf:lz vs=true):∀u∈Tv,u.oneCell'=true:=by
 induction h with
 | nil=>intro u hu;cases hu
 | cons hv _ ih =>
  intro u hu;obtain⟨h1,h2,h3⟩:=Dd hf;rcases List.mem_cons.1 hu with rfl|hu
  ·cases hv <;> first|rfl|exact(h1 _ rfl).elim|exact(h2 _ rfl).elim|skip
   rename_i v0 _ _ _ e;cases v0 <;> first|rfl|simp[cV] at e
  ·exact ih h3 u hu
theorem rh{h o b K:Nat}{vs Tv:List Value}(hH:HR ν H F w)(hν:ν h=some (b,K))(hl:LR ν vs Tv)(hp:qY H ⟨h,o,none⟩ vs=some H') :
  (∀j,j<Tv.length -> (w.cell? ⟨b,o+j,none⟩).isSome=true) /\ (∀j,j<Tv.length -> w.frozen? ⟨b,o+j,none⟩=false) /\ (∀u∈Tv,u.oneCell'=true) /\ HR ν H' F (w.setCells b o Tv) /\ Below 0 w (w.setCells b o Tv):=by
 unfold qY at hp;split at hp
 case h_2=>cases hp
 rename_i n tr ty ww hs hb;split at hp
 case h_2=>cases hp
 rename_i hle hf;cases hp;simp only at hb;obtain⟨c,ty',fz,hw,hc⟩:=hH.cells hb hν;have acf:=cj hle;rw[fg] at acf;simp only at acf;have hlen:=hl.length;have Zb:=hc.le;refine⟨λ j hj=>?_,λ j hj=>?_,wS hl hf,?_,jv _ _ _ _⟩
 ·rw[nU hw,Array.getElem?_eq_getElem (by omega)];rfl
 ·obtain⟨lo,hi⟩:=fz;have:=hc.fz;cases this;simp[World.frozen?,hw]
 ·obtain⟨c',e1,e2,e3⟩:=m9 b Tv o w hw;refine hH.upd (b1:=.cells n (lW tr o vs) ty ww false) hb rfl rfl hν e1 ?_ (λ k hk=>ju b Tv o w k hk);refine⟨hc.ty,by rw[e2];exact Zb,hc.fz,λ i hi=>?_,λ e=>by rw[e2];exact hc.gr e⟩;rw[e3 i (by omega),ur]
  by_cases h1:o <= i /\ i-o<vs.length
  ·obtain⟨v',g1,g2⟩:=hl.get (List.getElem?_eq_getElem h1.2);rw[dif_pos h1,dif_pos ⟨h1.1,by rw[hlen];exact h1.2⟩];refine⟨v',?_,g2⟩;rw[<- g1,List.getElem?_eq_getElem]
  ·rw[dif_neg h1,dif_neg (by rw[hlen];exact h1)];exact hc.get i hi
theorem GS{t:TypeId}{ad ad':Addr}{v v':Value}(hH:HR ν H F w)(hp:VRi ν (.pointer (some ad)) (.pointer (some ad')))(hv:VRi ν v v')(h:yb P t H ad v=some H'):∃w',(storeVar t ad' v').run P w=.ok () w' /\ HR ν H' F w' /\ Below 0 w w':=by
 cases hp with
 | atom _ h=>simp[cV] at h
 | @ptr hd b K o hν =>
  unfold yb at h;split at h
  case h_2=>cases h
  rename_i k hk;split at h
  case h_2=>cases h
  rename_i hl;have YV:=l7 hv;obtain⟨h1,h2,h3,h4,h5⟩:=rh hH hν YV h;refine⟨_,?_,h4,h5⟩;have S4:v'.cells.size=k:=by
   have e1:=Nat.eq_of_beq_eq_true hl;rw[fg,<- YV.length,iG] at e1;simpa using e1
  unfold storeVar;rw[Sem.run_bind,fi hk];simp only[Result.andThen_ok,S4,ne_eq,not_true_eq_false,if_false];have:=run_storeCells_cells (P:=P) b o (jq v') 0 w (by simpa using h1) (by simpa using h2) h3;rw[iG] at this;rw[<- iG] at *;simpa [Sem.run_bind,cP] using this
end wr
section nw
variable {ν ν':Nu} {P:Program} {G N:Nat} {T T':Tr Value} {a:Act} {H H':AH} {F:HL} {w w':World}
theorem fY(o:Obj)(w:World):(newObj o).run P w=.ok w.heap.size { w with heap:=w.heap.push o }:=rfl
def Mk.ok:Mk -> Prop
 | .sl _ c=>c<nT
 | _=>True
theorem Kd{m:Mk}(h:m.ok){n r K:Nat}(hν:ν n=some (r,K)):VRi ν (m.val n) (m.val r):=by
 cases m with
 | ptr=>exact .ptr 0 hν
 | sl l c=>exact .slice 0 l hν ⟨λ _=>rfl,λ e=>by unfold Mk.ok at h;omega⟩
 | mp=>exact .map hν
theorem Ke(z:List Value)(n:Nat):(oD z n).length=n*z.length:=by
 induction n with
 | zero=>simp[oD]
 | succ n ih=>simp[oD,ih,Nat.succ_mul];omega
theorem AX(z:List Value):∀ (n i:Nat),i<n*z.length -> (oD z n)[i]?=z[i % z.length]?
 | 0,i,h=>by omega
 | n+1,i,h=>by
  rw[oD];rcases Nat.lt_or_ge i z.length with h1|h1
  ·rw[List.getElem?_append_left h1,Nat.mod_eq_of_lt h1]
  ·rw[List.getElem?_append_right h1,AX z n _ (by rw[Nat.succ_mul] at h;omega),Nat.mod_eq_sub_mod h1]
theorem wT(z:List Value)(n:Nat)(hz:0<z.length):(Array.range (n*z.length)).map (λ i=>(⟨z⟩:Array Value)[i % (⟨z⟩:Array Value).size]!)=⟨oD z n⟩:=by
 apply Array.ext';apply List.ext_getElem?;intro i;rcases Nat.lt_or_ge i (n*z.length) with h|h
 ·have h2:i % z.length<z.length:=Nat.mod_lt _ hz;simp only[Array.toList_map,Array.toList_range,List.getElem?_map,List.getElem?_range h,Option.map_some];rw[AX z n i h];simp[h2]
 ·rw[List.getElem?_eq_none (by simp;exact h),List.getElem?_eq_none (by rw[Ke];exact h)]
theorem us{z:List Value}(h:LR ν z z):∀n,LR ν (oD z n) (oD z n)
 | 0=>.nil
 | n+1=>h.append (us h n)
theorem nV{t el:TypeId}(h:wH P t=some el):P.underlying t=some (.slice el):=by
 unfold wH at h;split at h
 ·rename_i e;cases h;exact e
 ·cases h
theorem Ev{o:Oper}{b:AB}{m:Mk}(h:vA P o T=some (b,m)){l:List Operand}(hl:cG o.op=some l)(iD:OK ν T a l) :
  Ka b=true /\ m.ok /\ ∃o',(∀K,OR ν K b o') /\ ∀w,(execOp a.eval o).run P w=.ok (.value (m.val w.heap.size)) { w with heap:=w.heap.push o' }:=by
 unfold vA at h;split at h
 ·rename_i t ho;split at h
  ·rename_i z hz;cases h;obtain⟨zv,h1,h2,h3,-⟩:=lD (ν:=ν) hz;refine⟨ma _ _,trivial,_,λ K=>OR.cellsB h3,λ w=>?_⟩;simp[execOp,ho,Instr.alloc,Sem.run_bind,h1,newVar,newRow,h2,fY,cP,Result.andThen,Mk.val]
  ·cases h
 ·rename_i t x ho;rw[ho] at hl;simp only[cG,Option.some.injEq] at hl;subst hl;cases h;refine⟨ma _ _,trivial,_,λ K=>OR.cellsB (l7 (iD x (by simp))),λ w=>?_⟩;simp[execOp,ho,Instr.box,Sem.run_bind,newVar,newRow,fY,cP,Result.andThen,Mk.val,iG]
 ·rename_i t len parts ho;rw[ho] at hl;simp only[cG,Option.some.injEq] at hl;subst hl;split at h
  case h_2=>cases h
  rename_i el he;split at h
  case h_2=>cases h
  rename_i k z hk hz;split at h
  case h_2=>cases h
  rename_i g1 g2 g3;split at h
  case h_2=>cases h
  rename_i l hf;cases h;have hu:=nV he;have XT:z.length=k:=by rw[fg] at g2;exact Nat.eq_of_beq_eq_true g2
  have ZZ:=eH g3;have g1':=cj g1;obtain⟨zv,h1,h2,h3,-⟩:=lD (ν:=ν) hz;obtain⟨l',e1,e2⟩:=rd (uk iD) (us h3 len) hf;refine⟨ma _ _,?_,_,λ K=>OR.cellsB e2,λ w=>?_⟩
  ·have:len <= len*k:=Nat.le_mul_of_pos_right _ ZZ;show len<nT;unfold nT;omega
  have h6:=l9 e1;have h7:(parts.map λ (p:Nat × Operand)=>(p.1,a.eval p.2)).toList=parts.toList.map λ p=>(p.1,a.eval p.2):=by simp
  have h8:=wT z len (by omega);rw[XT] at h8;have hs:=fi hk w;unfold Go.execOp;rw[ho];simp only;rw[Sem.run_bind];have:(Instr.buildSlice t len (parts.map λ (p:Nat × Operand)=>(p.1,a.eval p.2))).run P w=.ok (.slice (some ⟨w.heap.size,0,none⟩) len len) { w with heap:=w.heap.push (.cells ⟨l'⟩ el (0,0)) }:=by
   unfold Instr.buildSlice;rw[Sem.run_bind,aN hu];simp only[Result.andThen_ok];rw[Sem.run_bind,hs];simp only[Result.andThen_ok];rw[if_neg (by simp;omega)]
   by_cases Uu:len*k=0
   ·have hlen:len=0:=by
     rcases Nat.eq_zero_or_pos len with e|e
     ·exact e
     ·have:=Nat.mul_pos e ZZ;omega
    subst hlen;simp only[Nat.zero_mul,if_true];rw[Sem.run_bind];simp only[cP,Result.andThen_ok];have h9:(Array.range 0).map (λ i=>(#[]:Array Value)[i % (#[]:Array Value).size]!)=⟨oD z 0⟩:=by simp[oD]
    rw[h9,h7,h6];simp only[Sem.run_bind,newRow,fY,Result.andThen_ok,cP]
   ·rw[if_neg Uu];rw[Sem.run_bind,h1];simp only[Result.andThen_ok];rw[Sem.run_bind];simp only[cP,Result.andThen_ok,h2];rw[h8,h7,h6];simp only[Sem.run_bind,newRow,fY,Result.andThen_ok,cP]
  rw[this];rfl
 ·rename_i t lo co ho;rw[ho] at hl;simp only[cG,Option.some.injEq] at hl;subst hl;split at h
  case h_2=>cases h
  rename_i el he;split at h
  case h_2=>cases h
  rename_i inf hi;split at h
  case h_2=>cases h
  rename_i z n m' hz hn hm;split at h
  case h_2=>cases h
  rename_i g1 g2 g3 g4 g5 g6;cases h;have hu:=nV he;have XT:z.length=inf.size:=by rw[fg] at g4;exact Nat.eq_of_beq_eq_true g4
  have ZZ:=eH g5;have g1':=cj g1;have g2':=cj g2;have g3':=eH g3;have g6':=eH g6;obtain⟨zv,h1,h2,h3,-⟩:=lD (ν:=ν) hz;obtain⟨kn,en⟩:=pn hn (iD lo (by simp));obtain⟨km,em⟩:=pn hm (iD co (by simp));refine⟨ma _ _,g3',_,λ K=>OR.cellsB (us h3 m'),λ w=>?_⟩;have h8:=wT z m' (by omega);rw[XT] at h8;unfold nT at g3';have w1:i64.wrap (n:Int)=(n:Int):=IntWalk.i64_in _ (by omega);have w2:i64.wrap (m':Int)=(m':Int):=IntWalk.i64_in _ (by omega);have S4:fW P el=some inf.size:=by unfold fW;rw[hi];rfl
  have hs:=fi S4;have hti:=λ W=>dC hi W;have q1:¬ ((281474976710656:Int)<(inf.bytes:Int)*(m':Int)):=by
   have:(inf.bytes:Int)*(m':Int)=((inf.bytes*m':Nat):Int):=by simp
   omega
  have q2:¬ ((m':Int)<0):=by omega
  have q3:¬ ((n:Int)<0):=by omega
  have q4:¬ ((m':Int)<(n:Int)):=by omega
  have L_:∀x W,(askRoom x).run P W=.ok () W:=λ x W=>by unfold askRoom;split <;> rfl
  unfold Go.execOp;rw[ho];simp only;rw[Sem.run_bind];have:(Instr.makeSlice t (a.eval lo) (a.eval co)).run P w=.ok (.slice (some ⟨w.heap.size,0,none⟩) n m') { w with heap:=w.heap.push (.cells ⟨oD z m'⟩ el (0,0)) }:=by
   unfold Instr.makeSlice;rw[Sem.run_bind,aN hu];simp only[Result.andThen_ok];rw[en,em];simp only[asInt,asIntOf,Sem.run_bind,cP,Result.andThen_ok,hti,w1,w2];rw[if_neg (by simp[q1,q2,q3,q4])];simp only[Sem.run_bind,L_,Result.andThen_ok,hs,Int.toNat_natCast]
   by_cases Uu:m'*inf.size=0
   ·have hlen:m'=0:=by
     rcases Nat.eq_zero_or_pos m' with e|e
     ·exact e
     ·have:=Nat.mul_pos e ZZ;omega
    subst hlen;simp only[Nat.zero_mul,if_true];rw[Sem.run_bind];simp only[cP,Result.andThen_ok];have h9:(Array.range 0).map (λ i=>(#[]:Array Value)[i % (#[]:Array Value).size]!)=⟨oD z 0⟩:=by simp[oD]
    rw[h9];simp only[Sem.run_bind,newRow,fY,Result.andThen_ok,cP]
   ·rw[if_neg Uu];simp only[Sem.run_bind,h1,cP,Result.andThen_ok,h2];rw[h8];simp only[Sem.run_bind,newRow,fY,Result.andThen_ok,cP]
  rw[this];rfl
 ·rename_i t r ho;have XC:∀W:World,(newObj (.map #[] 0)).run P W=.ok W.heap.size { W with heap:=W.heap.push (.map #[] 0) }:=λ W=>rfl;split at h
  ·cases h;refine⟨rfl,trivial,.map #[] 0,λ K=>⟨rfl,.nil⟩,λ w=>?_⟩;simp[execOp,ho,Instr.makeMap,Sem.run_bind,XC,cP,Result.andThen,Mk.val]
  ·rename_i r;rw[ho] at hl;simp only[cG,Option.some.injEq] at hl;subst hl;split at h
   ·rename_i kt et k n hu he;cases h;have hr:=iD r (by simp);rw[he] at hr;have er:=hr.plain_eq rfl;refine⟨rfl,trivial,.map #[] 0,λ K=>⟨rfl,.nil⟩,λ w=>?_⟩;simp[execOp,ho,Instr.makeMap,Sem.run_bind,aN hu,er,asInt,asIntOf,XC,cP,Result.andThen,Mk.val]
   ·cases h
 ·cases h
theorem Kf{d:TypeDesc}{k k':Value}(h:m5 k k'=some true)(hk:ye d k=true):k'=k /\ Instr.sameBits 10000 k' k=true:=by
 unfold m5 at h;split at h
 ·split at h
  ·rename_i e;have e':=of_decide_eq_true e;simp only[Option.some.injEq,beq_iff_eq] at h;subst e';subst h;exact⟨rfl,by simp[Instr.sameBits]⟩
  ·cases h
 ·simp only[Option.some.injEq] at h;have:=HP.1 h;subst this;exact⟨rfl,by simp[Instr.sameBits];exact LP _⟩
 ·simp only[Option.some.injEq,beq_iff_eq] at h;subst h;exact⟨rfl,by simp[Instr.sameBits]⟩
 ·cases h
theorem De{d:TypeDesc}{k v v':Value}(hk:ye d k=true)(hv:VRi ν v v'){es:List (Value × Value × Nat)}{Vg:List MapEntry}(h:ER ν es Vg):∀ {r:List (Value × Value × Nat)} {cl cl':Nat} (i:Nat),t7 k v cl es=some (r,cl') ->
  (Instr.findNow d k Vg i=some none /\ cl'=cl+1 /\ ER ν r (Vg++[⟨k,v',cl⟩])) \/ (∃j u,Instr.findNow d k Vg i=some (some (i+j,u)) /\ cl'=cl /\ (Vg[j]?).map (·.key)=some k /\ Instr.sameBits 10000 k k=true /\ ER ν r (Vg.modify j λ e=>{ e with key:=k,val:=v' })):=by
 induction h with
 | nil=>intro r cl cl' i h;rw[t7] at h;cases h;exact .inl ⟨rfl,rfl,.cons k cl hv .nil⟩
 | @cons u0 u0' l0 l0' k' b hv0 h0 ih =>
  intro r cl cl' i h;rw[t7] at h;split at h
  ·rename_i e;cases h;obtain⟨e1,e2⟩:=Kf e hk;subst e1;refine .inr ⟨0,u0',?_,rfl,rfl,e2,.cons k' b hv h0⟩;rw[Instr.findNow];simp only[iH e hk];rfl
  ·rename_i e;split at h
   ·rename_i l c hl;cases h;rcases ih (i+1) hl with ⟨h1,h2,h3⟩|⟨j,u,h1,h2,h3,h4,h5⟩
    ·exact .inl ⟨by rw[Instr.findNow];simp only[iH e hk];exact h1,h2,.cons k' b hv0 h3⟩
    ·refine .inr ⟨j+1,u,?_,h2,by simpa using h3,h4,by simpa using ER.cons k' b hv0 h5⟩;rw[Instr.findNow];simp only[iH e hk];rw[h1];congr 3;omega
   ·cases h
  ·cases h
theorem Ew{t:TypeId}{m m' k v v':Value}(hH:HR ν H F w)(hm:VRi ν m m')(hv:VRi ν v v')(h:MG P t H m k v=some H'):pl k=true /\ ∃w',(Instr.mapUpdate t m' k v').run P w=.ok () w' /\ HR ν H' F w' /\ Below 0 w w':=by
 unfold MG at h;split at h
 case h_2=>cases h
 rename_i kt et hu;split at h
 case h_2=>cases h
 rename_i r hk;split at h
 case h_2=>cases h
 rename_i es cl hb;split at h
 case h_2=>cases h
 rename_i es2 cl2 hp;cases h;obtain⟨d,hd,hkd⟩:=Dc hk;refine⟨(um hkd).1,?_⟩;cases hm with
 | atom _ h=>simp[cV] at h
 | @map _ b K hν =>
 obtain⟨Vg,hw,hE⟩:=hH.map hb hν;have hg:(getObj b).run P w=.ok (.map Vg cl) w:=iq hw;have hf:∀r,Instr.findNow d k Vg.toList 0=some r -> (Instr.findKey kt k Vg.toList).run P w=.ok r w:=λ r hr=>by
  unfold Instr.findKey;rw[Sem.run_bind,aN hd];simp only[Result.andThen_ok,hr];rfl
 have iS:=cK hw;have At:∀o:Obj,(∃es c,o=.map es c) -> (setObj b o).run P w=.ok () { w with heap:=w.heap.setIfInBounds b o }:=λ o ho=>by
  obtain⟨e1,c1,rfl⟩:=ho;unfold setObj;rw[Sem.run.eq_def];simp only[hw];rfl
 have hup:∀ (o:Obj),OR ν K (.map es2 cl2) o -> HR ν (dw H r (some (.map es2 cl2))) F { w with heap:=w.heap.setIfInBounds b o }:=λ o ho=>by
  refine hH.upd (r:=b) (K:=K) hb rfl rfl hν (o':=o) ?_ ho (λ k hk=>?_)
  ·show (w.heap.setIfInBounds b o)[b]?=_;rw[Array.getElem?_setIfInBounds_self_of_lt iS]
  ·show (w.heap.setIfInBounds b o)[k]?=_;rw[Array.getElem?_setIfInBounds_ne (Ne.symm hk)]
 have hB:∀o:Obj,Below 0 w { w with heap:=w.heap.setIfInBounds b o }:=λ o=>⟨rfl,rfl,rfl,by simp,λ k hk=>by omega⟩;rcases De hkd hv hE 0 hp with ⟨h1,h2,h3⟩|⟨j,u,h1,h2,h3,h4,h5⟩
 ·refine⟨_,?_,hup (.map (Vg.push ⟨k,v',cl⟩) (cl+1)) ⟨h2.symm,by simpa using h3⟩,hB _⟩;unfold Instr.mapUpdate;rw[Sem.run_bind,aN hu];simp only[Result.andThen_ok,Sem.run_bind,hg,gX hk,hf _ h1];exact At _ ⟨_,_,rfl⟩
 ·rw[Nat.zero_add] at h1;refine⟨_,?_,hup (.map (Vg.modify j λ e=>{ e with key:=k,val:=v' }) cl) ⟨h2.symm,by rw[Array.toList_modify];exact h5⟩,hB _⟩;unfold Instr.mapUpdate;rw[Sem.run_bind,aN hu];simp only[Result.andThen_ok,Sem.run_bind,hg,gX hk,hf _ h1];have h6:(Vg[j]?).map (·.key)=some k:=by simpa using h3
  rw[h6];have h7:(Instr.keyThatStays k k).run P w=.ok k w:=by
   unfold Instr.keyThatStays;rw[if_pos h4];rfl
  simp only[Option.getD_some,h7,Result.andThen_ok];exact At _ ⟨_,_,rfl⟩
end nw
structure Ext(ν ν':Nu)(n n':Nat):Prop where
 le:n <= n'
 out:∀h,(h<n \/ n' <= h) -> ν' h=ν h
def Fr(ν:Nu)(n n':Nat):Prop:=∀h,n <= h -> h<n' -> ν h=none
theorem Ext.sub{ν ν':Nu}{n n':Nat}(h:Ext ν ν' n n')(hf:Fr ν n n'):ν.Le ν':=λ k x hx=>by
 rw[h.out k];exact hx;rcases Nat.lt_or_ge k n with h1|h1
 ·exact .inl h1
 ·rcases Nat.lt_or_ge k n' with h2|h2
  ·rw[hf k h1 h2] at hx;cases hx
  ·exact .inr h2
theorem Ext.refl(ν:Nu)(n:Nat):Ext ν ν n n:=⟨Nat.le_refl _,λ _ _=>rfl⟩
theorem Ext.trans{a b c:Nu}{n m k:Nat}(h:Ext a b n m)(h':Ext b c m k):Ext a c n k :=
 ⟨Nat.le_trans h.le h'.le,λ i hi=>by
  have h1:=h.le;have h2:=h'.le;rw[h'.out i (by omega),h.out i (by omega)]⟩
theorem Ext.fr{a b:Nu}{n m k:Nat}(h:Ext a b n m)(hf:Fr a n k)(hm:m <= k):Fr b m k:=λ i h1 h2=>by
 have:=h.le;rw[h.out i (.inr h1)];exact hf i (by omega) h2
theorem Ext.upd{ν:Nu}{n r K:Nat}:Ext ν (ν.upd n r K) n (n+1):=⟨by omega,λ h hh=>fF (by omega)⟩
section ap
variable {ν ν':Nu} {P:Program} {G N:Nat} {T T':Tr Value} {a:Act} {H H':AH} {F:HL} {w w':World}
structure Effi(P:Program)(ν:Nu)(F:HL)(n:Nat)(s:Sem Value)(w:World)(v:Value)(H':AH)(n':Nat):Prop where
 h:∃ν' v' w',s.run P w=.ok v' w' /\ VRi ν' v v' /\ Ext ν ν' n n' /\ HR ν' H' F w' /\ Below 0 w w'
theorem nW{k:Nat}{u e':TypeId}{y y':Value}{new:List Value}(hH:HR ν H F w)(hu:P.underlying u=some (.slice e'))(hy:VRi ν y y')(h:sB H k y=some new) :
  ∃TJ,LR ν new TJ /\ TJ.length=eU y*k /\ (lz new=true -> Src P k u y' (eU y) TJ w) /\ (Builtin.firstCells k (eU y) y').run P w.drew=.ok TJ.toArray w.drew /\ (Builtin.firstCells k (eU y) y').run P w=.ok TJ.toArray w:=by
 unfold sB at h;split at h
 ·split at h
  ·cases h;rename_i c;cases hy;refine⟨[],.nil,by simp[eU],λ _=>Src.ofNil w hu _,?_,?_⟩
   ·exact run_firstCells_none _ _ _ _ _
   ·exact run_firstCells_none _ _ _ _ _
  ·cases h
 ·rename_i ad n c;cases hy with
  | atom _ h=>simp[cV] at h
  | @slice hd b K _ c' o _ hν hcap =>
  split at h
  case h_2=>cases h
  rename_i nn tr ty ww ro hs hb;split at h
  case h_2=>cases h
  rename_i hle;cases h;simp only at hb hle;obtain⟨cc,ty',fz,hw,hc⟩:=hH.cells hb hν;have acf:=cj hle;have hl:=lE hc.le hc.get (n*k) o acf;have Zb:=hc.le;have hlen:((cc.toList.drop o).take (n*k)).length=n*k:=by simp;omega
  have TI:∀ (W:World),W.heap=w.heap -> ∀ (j:Nat) (u:Value),((cc.toList.drop o).take (n*k))[j]?=some u -> W.cell? ((⟨b,o,none⟩:Addr).add j)=some u:=λ W hW j u hj=>by
   rw[pm,nU (by rw[hW];exact hw)];have XF:=(List.getElem?_eq_some_iff.1 hj).1;rw[hlen] at XF;rw[List.getElem?_take_of_lt XF,List.getElem?_drop] at hj;simpa using hj
  refine⟨_,hl,hlen,λ hf=>Src.ofSlice w hu _ _ _ _ hlen (TI w rfl) (wS hl hf),?_,?_⟩
  ·exact run_firstCells_some _ _ _ _ _ _ _ hlen (TI _ rfl)
  ·exact run_firstCells_some _ _ _ _ _ _ _ hlen (TI _ rfl)
 ·cases h
theorem HR.del'(hH:HR ν H F w){h r K:Nat}{b0:AB}(hb:cw H h=some b0)(hw0:Ka b0=true)(hν:ν h=some (r,K))(hs:∀k,k≠r -> w'.heap[k]?=w.heap[k]?):HR ν (dw H h none) F w':=by
 have ID:∀k b,cw (dw H h none) k=some b -> cw H k=some b /\ k≠h:=λ k b hk=>by
  rw[ee] at hk;split at hk
  ·cases hk
  ·rename_i e;exact⟨hk,Ne.symm e⟩
 refine⟨λ k b hk=>?_,λ k1 k2 b1 b2 q K1 K2 h1 h2 h3 h4=>hH.inj _ _ _ _ _ _ _ (ID _ _ h1).1 (ID _ _ h2).1 h3 h4,λ x hx=>?_,λ k b q K hk=>hH.apt k b q K (ID k b hk).1⟩
 ·obtain⟨h1,h2⟩:=ID k b hk;obtain⟨q,K',o,g1,g2,g3⟩:=hH.blk k b h1;refine⟨q,K',o,g1,?_,g3⟩;rw[hs q,g2];intro e;subst e;exact h2 (hH.inj _ _ _ _ _ _ _ h1 hb g1 hν)
 ·rw[hs _ (hH.apt _ _ _ _ hb hν x hx)];exact hH.frm x hx
theorem Ph(YI ID:Nat)(h:ID<YI):Builtin.nextslicecap YI ID <= 2*YI+192:=by
 unfold Builtin.nextslicecap;split
 ·omega
 ·split
  ·omega
  ·have:Builtin.growBy YI 4 ID <= YI+YI / 4+192:=by
    simp only[Builtin.growBy]
    repeat' split
    all_goals omega
   omega
theorem AY{t u ty el e':TypeId}{inf:TypeInfo}{n len cap c':Nat}{base Of:Option Addr}{y y':Value}{new:List Value}{v:Value}{n':Nat}(hH:HR ν H F w)(ht:P.underlying t=some (.slice el))(hu:P.underlying u=some (.slice e'))(hi:P.info? el=some inf)
  (hx:VRi ν (.slice base len cap) (.slice Of len c')) (hy:VRi ν y y') (Uf:sB H inf.size y=some new) (UQ:lz new=true) (L_:len+eU y <= c') (h:t8 H n inf.size len (eU y) cap base new=some (.val v H' n')) :
  Effi P ν F n (Builtin.append_ #[t,u] ty #[.slice Of len c',y']) w v H' n':=by
 obtain⟨TJ,hl,hlen,hS,-,-⟩:=nW hH hu hy Uf;have hS2:=hS UQ;unfold t8 at h;split at h
 ·rename_i ad;split at h
  ·rename_i Yw;split at h
   ·rename_i H2 hp;cases h;cases hx with
    | atom _ h=>simp[cV] at h
    | @slice hd b K _ _ o _ hν hcap =>
    obtain⟨q1,q2,q3,q4,q5⟩:=rh hH hν hl hp;have iN:=run_append_room_src (P:=P) w t u ty el inf ht hi b o len c' y' (eU y) TJ hS2 L_ q1 q2;exact⟨ν,_,_,iN,.slice _ _ hν hcap,.refl _ _,q4,q5⟩
   ·cases h
  ·cases h
 ·split at h
  ·cases h;cases hx with
   | atom _ _ =>
   cases hl;have hS3:=hS UQ;have hz:(Builtin.firstCells inf.size (eU y) y').run P w=.ok #[] w:=hS3.cells;refine⟨ν,.slice none (len+eU y) cap,w,?_,.atom _ rfl,.refl _ _,hH,Below.refl _ _⟩;rcases hS3.kind with ⟨e',hk⟩|hk <;> simp[Builtin.append_,run_underlying ht,run_underlying hk,sizeOf,typeInfo,hi,hS3.len,hz,L_]
  ·cases h
theorem wU{t u ty el e':TypeId}{inf:TypeInfo}{z:List Value}{n len cap c':Nat}{base Of:Option Addr}{y y':Value}{ID new:List Value}{v:Value}{n':Nat}(hH:HR ν H F w)(ht:P.underlying t=some (.slice el))(hu:P.underlying u=some (.slice e'))(hi:P.info? el=some inf)(hz:mC P el=some z)(XT:z.length=inf.size)(S4:0<inf.size)
  (hx:VRi ν (.slice base len cap) (.slice Of len c')) (hy:VRi ν y y') (Uf:sB H inf.size y=some new) (UQ:lz new=true) (hold:sB H inf.size (.slice base len cap)=some ID) (L_:c'<len+eU y) (V5:len+eU y<1000000) (hb2:inf.bytes<1000001) (hn:ν n=none)
  (Hd:AH) (hd:∀ν' w',HR ν' H F w' -> HR ν' Hd F w') (h:kc Hd n inf.size len (eU y) el ID new=.val v H' n') :
  Effi P ν F n (Builtin.append_ #[t,u] ty #[.slice Of len c',y']) w v H' n':=by
 obtain⟨TJ,hl,hlen,hS,-,-⟩:=nW hH hu hy Uf;obtain⟨XN,TM,Wl,-,Wk,-⟩:=nW hH ht hx hold;have hS:=hS UQ;obtain⟨zv,g1,g2,g3,i,g4,g5⟩:=lD (ν:=ν) hz;rw[hi] at g4;cases g4;have V0:Builtin.nextslicecap (len+eU y) c'*inf.bytes <= 281474976710656:=by
  have h1:=Ph (len+eU y) c' L_;have h2:Builtin.nextslicecap (len+eU y) c'*inf.bytes <= 2000192*1000000:=Nat.mul_le_mul (by omega) (by omega);omega
 have iN:=run_append_grow_src (P:=P) w t u ty el inf zv ht hi g5 Of len c' XN Wk y' (eU y) TJ hS L_ (by omega) V0;have WO:=grownCap_ge w (len+eU y) c' el;generalize grownCap w (len+eU y) c' el=K at *;unfold kc at h;cases h;refine⟨ν.upd n w.heap.size K,_,_,iN,?_,.upd,?_,⟨rfl,rfl,rfl,by simp,λ k hk=>by omega⟩⟩
 ·exact .slice _ _ cN ⟨λ e=>by unfold nT at e;omega,λ e=>by omega⟩
 ·have hd1:HR ν Hd F w:=hd _ _ hH;refine hd1.new hn (K:=K) ?_ (by rw[lG];rfl) (o:=.cells ((XN++TJ).toArray++Builtin.zeroCells zv.cells (K-(len+eU y))) el) rfl;rw[lG];have YV:=N9 (ty:=el) (ww:=inf.size) (K:=K) (rest:=(Builtin.zeroCells zv.cells (K-(len+eU y))).toList) (TM.append hl) (λ _=>by
   simp only[List.length_append,hlen,Wl,Builtin.zeroCells,Array.toList_map,List.length_map,Array.toList_range,List.length_range,g2];have ZW:eU (Value.slice base len cap)=len:=rfl;rw[ZW];have:(⟨z⟩:Array Value).size=inf.size:=by simpa using XT
   rw[this,<- Nat.add_mul,<- Nat.add_mul];congr 1;omega)
  have e:((XN++TJ).toArray++Builtin.zeroCells zv.cells (K-(len+eU y)))=⟨(XN++TJ)++(Builtin.zeroCells zv.cells (K-(len+eU y))).toList⟩:=by apply Array.ext';simp
  rw[e];exact YV
end ap
section ap
variable {ν ν':Nu} {P:Program} {G N:Nat} {T T':Tr Value} {a:Act} {H H':AH} {F:HL} {w w':World}
theorem mD{a b:Nat}(h:Nat.blt a b=false):b <= a:=by
 rcases Nat.lt_or_ge a b with e|e
 ·have:Nat.blt a b=true:=Nat.ble_eq_true_of_le e;rw[this] at h;cases h
 ·exact e
theorem mE{a b:Nat}(h:Nat.ble a b=false):b<a:=by
 rcases Nat.lt_or_ge b a with e|e
 ·exact e
 ·have:Nat.ble a b=true:=Nat.ble_eq_true_of_le e;rw[this] at h;cases h
theorem MM{t u ty el e':TypeId}{inf:TypeInfo}{z:List Value}{n len cap:Nat}{ad:Addr}{x' y y':Value}{new:List Value}{v:Value}{n':Nat}(hH:HR ν H F w)(ht:P.underlying t=some (.slice el))(hu:P.underlying u=some (.slice e'))(hi:P.info? el=some inf)(hz:mC P el=some z)(XT:z.length=inf.size)(S4:0<inf.size)
  (hx:VRi ν (.slice (some ad) len cap) x') (hy:VRi ν y y') (Uf:sB H inf.size y=some new) (UQ:lz new=true) (V5:len+eU y<1000000) (hb2:inf.bytes<1000001) (hcap:nT <= cap) (hn:Fr ν n n') (h:JV H n inf.size len (eU y) cap ad el new=some (.val v H' n')) :
  Effi P ν F n (Builtin.append_ #[t,u] ty #[x',y']) w v H' n':=by
 cases hx with
 | atom _ h=>simp[cV] at h
 | @slice hd b K _ c' o _ hν hc =>
 unfold JV at h;split at h
 case h_2=>cases h
 rename_i nn ww tyy Yw ho hcu WY;simp only at ho;subst ho;have Vx:cap=nT:=Nat.eq_of_beq_eq_true hcu;have Vf:=hc.2 hcap;rw[Vx,Nat.sub_self,Nat.add_zero] at Vf;unfold RV at WY;split at WY
 case h_2=>cases WY
 rename_i nn' tr ty' ww' hb;simp only[Option.some.injEq,Prod.mk.injEq] at WY;obtain⟨e1,e2,e3⟩:=WY;subst e1;subst e2;subst e3;simp only at hb;obtain⟨c,ty2,fz,hw,YV⟩:=hH.cells hb hν;split at h
 case h_2=>cases h
 rename_i hwk hlk hty;have akY:ty'=el:=Nat.eq_of_beq_eq_true hty;have akS:ww'=inf.size:=Nat.eq_of_beq_eq_true hwk;have arZ:=cj hlk;have ZG:=YV.gr (by omega);rw[akS] at ZG;have hle:=YV.le;split at h
 ·rename_i U8;have alS:=cj U8;have:(len+eU y)*inf.size <= K*inf.size:=by omega
  have L_:=Nat.le_of_mul_le_mul_right this S4;exact AY hH ht hu hi (.slice 0 len hν hc) hy Uf UQ (by omega) h
 ·rename_i U8;have alS:=mE U8;split at h
  case h_2=>cases h
  rename_i ID hold;have n_:kc (dw H hd none) n inf.size len (eU y) el ID new=.val v H' n':=by simpa using h
  have hn':ν n=none:=by
   unfold kc at n_;cases n_;exact hn n (Nat.le_refl _) (by omega)
  by_cases L_:len+eU y <= c'
  ·obtain⟨TJ,hl,hlen,hS,-,-⟩:=nW hH hu hy Uf;obtain⟨XN,TM,Wl,-,-,Wk⟩:=nW hH ht (.slice 0 len hν hc) hold;have hS:=hS UQ;have V0:(len+eU y)*inf.size <= c.size:=by
    rw[ZG];exact Nat.mul_le_mul_right _ (by omega)
   have TI:∀j,j<TJ.length -> (w.cell? ⟨b,0+len*inf.size+j,none⟩).isSome=true:=λ j hj=>by
    rw[nU hw,Array.getElem?_eq_getElem (by rw[hlen] at hj;rw[Nat.add_mul] at V0;omega)];rfl
   have Z4:∀j,j<TJ.length -> w.frozen? ⟨b,0+len*inf.size+j,none⟩=false:=λ j hj=>by
    obtain⟨lo,hi⟩:=fz;have:=YV.fz;cases this;simp[World.frozen?,hw]
   have iN:=run_append_room_src (P:=P) w t u ty el inf ht hi b 0 len c' y' (eU y) TJ hS L_ TI Z4;obtain⟨c2,e1,e2,e3⟩:=m9 b TJ (0+len*inf.size) w hw;unfold kc at n_;cases n_;have amd:HR ν (dw H hd none) F (w.setCells b (0+len*inf.size) TJ):=hH.del' hb rfl hν (λ k hk=>ju b _ _ _ _ hk);refine⟨ν.upd n b K,_,_,iN,?_,.upd,?_,jv _ _ _ _⟩
   ·exact .slice _ _ cN ⟨λ e=>by unfold nT at e;omega,λ e=>by omega⟩
   ·refine amd.add hn' e1 ?_ (by rw[lG];rfl) (λ x hx=>hH.apt _ _ _ _ hb hν x hx) (λ k b' K' hk e=>?_)
    ·rw[lG];have ahs:∀i,i<len*inf.size -> c[i]?=XN[i]?:=λ i hi=>by
      have ZW:eU (Value.slice (some ⟨hd,0,none⟩) len cap)=len:=rfl;rw[ZW] at Wl Wk;have Z8:((c.toList.drop 0).take (len*inf.size)).length=len*inf.size:=by simp;omega
      have h2:=run_firstCells_some (P:=P) w inf.size len ⟨b,0,none⟩ len c' ((c.toList.drop 0).take (len*inf.size)) Z8 (λ j u hj=>by
       rw[pm,nU hw];have XF:=(List.getElem?_eq_some_iff.1 hj).1;rw[Z8] at XF;rw[List.getElem?_take_of_lt XF,List.getElem?_drop] at hj;simpa using hj)
      rw[h2] at Wk;simp only[Result.ok.injEq,and_true] at Wk;have h3:XN=(c.toList.drop 0).take (len*inf.size):=by
       have:=congrArg Array.toList Wk;simpa using this.symm
      rw[h3,List.getElem?_take_of_lt hi];simp
     have ZW:eU (Value.slice (some ⟨hd,0,none⟩) len cap)=len:=rfl;rw[ZW] at Wl;have hlo:ID.length=len*inf.size:=by rw[<- Wl,TM.length]
     have hln:new.length=eU y*inf.size:=by rw[<- hlen,hl.length]
     refine⟨YV.ty.trans akY,?_,YV.fz,λ i hi=>?_,λ _=>by rw[e2,ZG]⟩
     ·rw[e2,List.length_append,hlo,hln,<- Nat.add_mul];exact V0
     ·have WN:i<(len+eU y)*inf.size:=by rw[List.length_append,hlo,hln,<- Nat.add_mul] at hi;exact hi
      obtain⟨v',g1,g2⟩:=(TM.append hl).get (List.getElem?_eq_getElem hi);refine⟨v',?_,by rw[m8 hi];exact g2⟩;rw[e3 i (by omega),<- g1]
      by_cases h1:i<len*inf.size
      ·rw[dif_neg (by omega),ahs i h1,List.getElem?_append_left (by omega)]
      ·rw[dif_pos ⟨by omega,by rw[hlen];rw[Nat.add_mul] at WN;omega⟩,List.getElem?_append_right (by omega),Wl];rw[<- List.getElem?_eq_getElem];congr 1;omega
    ·rw[ee] at hk;split at hk
     ·cases hk
     ·rename_i IF;exact IF (hH.inj _ _ _ _ _ _ _ hb hk hν e)
  ·exact wU hH ht hu hi hz XT S4 (.slice 0 len hν hc) hy Uf UQ hold (by omega) V5 hb2 hn' (dw H hd none) (λ ν' w' h'=>h'.del hd) n_
def HEq(H H':AH):Prop:=∀h,cw H' h=cw H h \/ ∃n t t' ty w ro,cw H h=some (.cells n t ty w ro) /\ cw H' h=some (.cells n t' ty w ro) /\ ∀i,i<n -> dz t' i=dz t i
theorem HR.heq(h:HR ν H F w)(e:HEq H H'):HR ν H' F w:=by
 have back:∀k b,cw H' k=some b -> ∃b0,cw H k=some b0 /\ ∀K o,OR ν K b0 o -> OR ν K b o:=λ k b hk=>by
  rcases e k with e1|⟨n,t,t',ty,wd,ro,e1,e2,e3⟩
  ·rw[e1] at hk;exact⟨b,hk,λ _ _ h=>h⟩
  ·rw[e2] at hk;cases hk;refine⟨_,e1,λ K o ho=>?_⟩;cases o with
   | cells c ty' fz =>
    have ho:CR ν K n t ty wd c ty' fz:=ho;exact(⟨ho.ty,ho.le,ho.fz,λ i hi=>by obtain⟨v',g1,g2⟩:=ho.get i hi;exact⟨v',g1,by rw[e3 i hi];exact g2⟩,ho.gr⟩:CR ν K n t' ty wd c ty' fz)
   | _=>exact ho
 refine⟨λ k b hk=>?_,λ h₁ h₂ b₁ b₂ r K₁ K₂ g1 g2=>?_,h.frm,λ k b r K hk=>?_⟩
 ·obtain⟨b0,g1,g2⟩:=back k b hk;obtain⟨r,K,o,g3,g4,g5⟩:=h.blk k b0 g1;exact⟨r,K,o,g3,g4,g2 K o g5⟩
 ·obtain⟨c1,d1,-⟩:=back _ _ g1;obtain⟨c2,d2,-⟩:=back _ _ g2;exact h.inj _ _ _ _ _ _ _ d1 d2
 ·obtain⟨b0,g1,g2⟩:=back k b hk;exact h.apt k b0 r K g1
theorem iI(t:Tr Value):∀ (k i:Nat),(jf t i k).length=k
 | 0,_=>rfl
 | k+1,i=>by simp[jf,iI t k]
theorem wV(t:Tr Value):∀ (k i j:Nat),j<k -> (jf t i k)[j]?=some (dz t (i+j))
 | 0,_,_,h=>absurd h (by omega)
 | k+1,i,j,h=>by
  cases j with
  | zero=>simp[jf]
  | succ j=>simp only[jf,List.getElem?_cons_succ];rw[wV t k (i+1) j (by omega)];congr 2;omega
theorem Kg(tr:Tr Value)(i:Nat)(new:List Value)(el:TypeId)(k:Nat):JW tr i new el k=.cells (i+new.length) (lW tr i new) el k false:=by
 unfold JW;split <;> rename_i h <;> rw[h,fg]
theorem GT{n k len add cap:Nat}{ad:Addr}{el:TypeId}{new:List Value}{v:Value}{n':Nat}(h:wI H n k len add cap ad el new=some (.val v H' n')):∃H0,JV H n k len add cap ad el new=some (.val v H0 n') /\ HEq H0 H':=by
 unfold wI at h;split at h
 case h_2=>cases h
 rename_i nn tr ty w Yw ho hcu hb;split at h
 case h_2=>cases h
 rename_i h1 h2 h3;have WY:RV H ad=some (nn,w,ty):=by unfold RV;rw[hb]
 split at h
 ·rename_i U8;refine⟨H',?_,λ h=>.inl rfl⟩;unfold JV;rw[Yw,ho,hcu,WY];simp only[h1,h2,h3,U8];exact h
 ·rename_i U8;cases h;refine⟨dw (dw H ad.block none) n (some (yc (jf tr 0 (len*k)++new) el k)),?_,λ h=>?_⟩
  ·unfold JV;rw[Yw,ho,hcu,WY];simp only[h1,h2,h3,U8,sB,Yw,hb,ho,Nat.zero_add];rfl
  ·by_cases hh:n=h
   ·refine .inr ⟨(jf tr 0 (len*k)++new).length,eF undef (jf tr 0 (len*k)++new) 0 .lf,lW tr (len*k) new,el,k,false,by rw[ee,if_pos hh,lG],?_,λ i hi=>?_⟩
    ·rw[ee,if_pos hh,Kg,List.length_append,iI]
    ·rw[m8 hi,ur];rw[List.length_append,iI] at hi;split
     ·rename_i hj;rw[List.getElem_append_right (by rw[iI];omega)];congr 1;rw[iI]
     ·rename_i hj;have WN:i<len*k:=by omega
      rw[List.getElem_append_left (by rw[iI];exact WN)];have:=wV tr (len*k) 0 i WN;rw[Nat.zero_add] at this;rw[List.getElem?_eq_getElem (by rw[iI];exact WN)] at this;exact(Option.some.inj this).symm
   ·exact .inl ((ee _ _ _ _).trans ((if_neg hh).trans ((if_neg hh).symm.trans (ee _ _ _ _).symm)))
theorem Kh{t u ty el e':TypeId}{inf:TypeInfo}{z:List Value}{n len cap:Nat}{ad:Addr}{x' y y':Value}{new:List Value}{v:Value}{n':Nat}(hH:HR ν H F w)(ht:P.underlying t=some (.slice el))(hu:P.underlying u=some (.slice e'))(hi:P.info? el=some inf)(hz:mC P el=some z)(XT:z.length=inf.size)(S4:0<inf.size)
  (hx:VRi ν (.slice (some ad) len cap) x') (hy:VRi ν y y') (Uf:sB H inf.size y=some new) (UQ:lz new=true) (V5:len+eU y<1000000) (hb2:inf.bytes<1000001) (hcap:nT <= cap) (hn:Fr ν n n') (h:wI H n inf.size len (eU y) cap ad el new=some (.val v H' n')) :
  Effi P ν F n (Builtin.append_ #[t,u] ty #[x',y']) w v H' n':=by
 obtain⟨H0,h1,h2⟩:=GT h;obtain⟨ν',a,b,g1,g2,g3,g4,g5⟩:=MM hH ht hu hi hz XT S4 hx hy Uf UQ V5 hb2 hcap hn h1;exact⟨ν',a,b,g1,g2,g3,g4.heq h2,g5⟩
theorem MN{t u ty el e':TypeId}{n:Nat}{x x' y y':Value}{v:Value}{n':Nat}(hH:HR ν H F w)(ht:P.underlying t=some (.slice el))(hu:P.underlying u=some (.slice e'))(hx:VRi ν x x')(hy:VRi ν y y')(hn:Fr ν n n')(h:Au P H n el x y=some (.val v H' n')) :
  Effi P ν F n (Builtin.append_ #[t,u] ty #[x',y']) w v H' n':=by
 unfold Au at h;split at h
 case h_2=>cases h
 rename_i inf z hi hz;split at h
 case h_2=>cases h
 rename_i k by_ base len cap hk hby;have hk:inf.size=k+1:=hk;have hby:inf.bytes=by_+1:=hby;split at h
 case h_2=>cases h
 rename_i new Uf XT V5 hb2;rw[<- hk] at Uf XT h;have agK:z.length=inf.size:=by rw[fg] at XT;exact Nat.eq_of_beq_eq_true XT
 have aic:=eH V5;have asF:=eH hb2;split at h
 ·rename_i UQ hcu;have amg:=eH hcu;have ZN:∃Of,x'=.slice Of len cap /\ VRi ν (.slice base len cap) (.slice Of len cap):=by
   cases hx with
   | atom _ h=>exact⟨_,rfl,.atom _ h⟩
   | slice o _ hν hc=>obtain rfl:=hc.1 amg;exact⟨_,rfl,.slice o _ hν hc⟩
  obtain⟨Of,rfl,hr⟩:=ZN;split at h
  ·rename_i U8;exact AY hH ht hu hi hr hy Uf UQ (cj U8) h
  ·rename_i U8;split at h
   ·rename_i ID hold;have n_:kc H n inf.size len (eU y) el ID new=.val v H' n':=by simpa using h
    have hn':ν n=none:=by
     have hv2:=n_;unfold kc at hv2;cases hv2;exact hn n (Nat.le_refl _) (by omega)
    exact wU hH ht hu hi hz agK (by omega) hr hy Uf UQ hold (mE U8) aic (by omega) hn' H (λ _ _ h=>h) n_
   ·cases h
 ·rename_i UQ hcu;split at h
  ·exact Kh hH ht hu hi hz agK (by omega) hx hy Uf UQ aic (by omega) (mD hcu) hn h
  ·cases h
 ·cases h
end ap
inductive TgR(ν:Nu):Target -> Target -> Prop
 | fn {f f':Fn} {c c':Array Value}:FnR ν f f' -> LR ν c.toList c'.toList -> TgR ν (.fn f c) (.fn f' c')
 | coll {h b K:Nat}:ν h=some (b,K) -> TgR ν (.collected h) (.collected b)
structure DR(ν:Nu)(d d':Deferred):Prop where
 t:TgR ν d.target d'.target
 a:LR ν d.args.toList d'.args.toList
def Sy(P:Program)(ν:Nu)(F:HL)(n:Nat)(s:Sem Next)(w:World):AN -> Prop
 | .val v H' n'=>∃ν' v' w' r,s.run P w=.ok r w' /\ (r=.value v' \/ (r=.skip /\ v'=undef)) /\ VRi ν' v v' /\ Ext ν ν' n n' /\ HR ν' H' F w' /\ Below 0 w w'
 | .ent f args=>∃z_,s.run P w=.ok (.enter f ⟨z_⟩) w /\ LR ν args z_
 | .rnd l args=>∃b K z_,ν l=some (b,K) /\ LR ν args z_ /\ s.run P w=(Instr.yield b ⟨z_⟩).run P w
 | .dfr d=>∃d',s.run P w=.ok (.defer d') w /\ DR ν d d'
 | .rcv=>s.run P w=.ok .recover w
section ap
variable {ν ν':Nu} {P:Program} {G N:Nat} {T T':Tr Value} {a:Act} {H H':AH} {F:HL} {w w':World}
theorem TgR.mono{t t':Target}(h:TgR ν t t')(hl:ν.Le ν'):TgR ν' t t':=by
 cases h with
 | fn h1 h2=>exact .fn (h1.mono hl) (h2.mono hl)
 | coll h=>exact .coll (hl _ _ h)
theorem DR.mono{d d':Deferred}(h:DR ν d d')(hl:ν.Le ν'):DR ν' d d':=⟨h.t.mono hl,h.a.mono hl⟩
theorem ut{fn:Fn}{f c:Array Value}{v':Value}(h:VRi ν (.func fn f c) v'):∃fn' f' c',v'=.func fn' f' c' /\ FnR ν fn fn' /\ LR ν f.toList f'.toList /\ LR ν c.toList c'.toList:=by
 cases h with
 | atom _ h=>simp[cV] at h
 | func h1 h2 h3 h4 h5=>exact⟨_,_,_,rfl,h1,.of_arr h2 h3,.of_arr h4 h5⟩
theorem Ki{t u ty el:TypeId}{n:Nat}{x x' y y':Value}{v:Value}{n':Nat}(hH:HR ν H F w)(ht:P.underlying t=some (.slice el))(hx:VRi ν x x')(hy:VRi ν y y')(h:Av P H n el x y=some (.val v H' n')) :
  Effi P ν F n (Builtin.copy_ #[t,u] ty #[x',y']) w v H' n':=by
 unfold Av at h;split at h
 case h_2=>cases h
 rename_i k hk;split at h
 case h_2=>cases h
 rename_i ad dl cx b sl cc;split at h
 case h_2=>cases h
 rename_i vs Yw Uf;split at h
 case h_2=>cases h
 rename_i H2 hp;cases h;cases hx with
 | atom _ h=>simp[cV] at h
 | @slice hd bb K _ c' o _ hν hc =>
 have hy2:∃b',y'=.slice b' sl (match y' with | .slice _ _ c=>c|_=>0) /\ ∀c,VRi ν (.slice b (Nat.min sl dl) c) (.slice b' (Nat.min sl dl) c) \/ b≠none:=by
  cases hy with
  | atom _ h=>cases b with
   | none=>exact⟨none,rfl,λ c=>.inl (.atom _ rfl)⟩
   | some _=>simp[cV] at h
  | slice o n hν hc=>exact⟨_,rfl,λ c=>.inr (by simp)⟩
 have hfc:∃Tv,LR ν vs Tv /\ (Builtin.firstCells k (Nat.min sl dl) y').run P w=.ok Tv.toArray w:=by
  have hyy:∃yy,VRi ν (.slice b (Nat.min sl dl) cc) yy /\ (Builtin.firstCells k (Nat.min sl dl) y').run P w=(Builtin.firstCells k (Nat.min sl dl) yy).run P w:=by
   cases hy with
   | atom _ h=>cases b with
    | none=>exact⟨.slice none (Nat.min sl dl) cc,.atom _ rfl,rfl⟩
    | some _=>simp[cV] at h
   | slice o n hν hc=>exact⟨_,.slice o _ hν hc,rfl⟩
  obtain⟨yy,h1,h2⟩:=hyy;obtain⟨Tv,q1,q2,q3,q4,q5⟩:=nW (u:=t) hH ht h1 Uf;exact⟨Tv,q1,by rw[h2];exact q5⟩
 obtain⟨Tv,hl,hfc⟩:=hfc;obtain⟨q1,q2,q3,q4,q5⟩:=rh hH hν hl hp;obtain⟨b',hy3,-⟩:=hy2;have At:=run_storeCells_cells (P:=P) bb o Tv 0 w (by simpa using q1) (by simpa using q2) q3;refine⟨ν,.int .i64 ((Nat.min sl dl:Nat):Int),_,?_,.atom _ rfl,.refl _ _,q4,q5⟩;have hlen:∀W,(Builtin.lenOf y').run P W=.ok sl W:=λ W=>by rw[hy3];rfl
 have hs:=fi hk w;unfold Builtin.copy_;simp only[List.getElem?_toArray,List.getElem?_cons_zero,List.getElem?_cons_succ];rw[Sem.run_bind,aN ht];simp only[Result.andThen_ok,Sem.run_bind,hlen,hs,hfc];simp only[Nat.add_zero] at At;rw[At];rfl
theorem jK{f:FuncId}{args:Array Value}(h:ua P f=true)(w:World):(callFunc f args).run P w=.ok (.enter f args) w:=by
 unfold ua at h;split at h
 ·rename_i fn hf;rw[Bool.and_eq_true] at h;obtain⟨h1,h2⟩:=h;unfold callFunc;rw[pL];simp only[hf];rw[if_neg (by simpa using h1),if_neg (by cases hb:fn.body <;> simp[hb] at h2 ⊢)];rfl
 ·cases h
theorem pq{c:Call}{f:Operand}{ty:TypeId}{fn:Fn}{f1 c1:Array Value}{ρ:Operand -> Value}(hc:c.callee=.value f)(hf:ρ f=.func fn f1 c1)(w:World):(resolve ρ c ty).run P w=.ok { target:=.fn fn c1,args:=f1++c.args.map ρ } w:=by
 unfold resolve;rw[hc];simp only[hf,Deferred.ofValue];rfl
theorem Kj{n:Nat}{c:Call}{x:AN}(h:JX P H n c T=some x):∃v H' n',x=.val v H' n':=by
 unfold JX Au wI t8 kc at h
 repeat' split at h
 all_goals first
  | (cases h;done)
  | (cases h;exact⟨_,_,_,rfl⟩)
theorem GU{n:Nat}{c:Call}{x:AN}(h:Aw P H n c T=some x):∃v H' n',x=.val v H' n':=by
 unfold Aw Av at h
 repeat' split at h
 all_goals first
  | (cases h;done)
  | (cases h;exact⟨_,_,_,rfl⟩)
theorem Ey{n n':Nat}{s:Sem Value}{s':Sem Next}{v:Value}(h:Effi P ν F n s w v H' n')(e:s'.run P w=(do pure (.value (<- s)):Sem Next).run P w):Sy P ν F n s' w (.val v H' n'):=by
 obtain⟨ν',v',w',h1,h2,h3,h4,h5⟩:=h;refine⟨ν',v',w',.value v',?_,.inl rfl,h2,h3,h4,h5⟩;rw[e,Sem.run_bind,h1];rfl
theorem GV{t:TypeId}{name:String}{f:FuncId}{v:Value}(h:JY P t name=some f)(w:World):(method (P.types.size+Made.depth) t v name).run P w=.ok (f,v) w:=by
 unfold JY at h;split at h
 case h_2=>cases h
 rename_i i hi aew;split at h
 case h_2=>cases h
 rename_i m hm;obtain⟨k,hk⟩:∃k,P.types.size+Made.depth=k+1:=⟨_,(Nat.succ_pred_eq_of_pos (eH aew)).symm⟩;rw[hk];have ahP:m.path.toList=[] -> (follow m.path.toList t (.val v)).run P w=.ok (t,.val v) w:=λ e=>by rw[e];rfl
 split at h
 ·rename_i g e hp hf hu;cases h;unfold method;rw[Sem.run_bind,dC hi];simp only[Result.andThen_ok,hm];rw[Sem.run_bind,ahP hp];simp only[Result.andThen_ok,hf];rw[Sem.run_bind];have:∀wr,(receiverAt t (.val v) true wr).run P w=.ok v w:=λ wr=>by
   unfold receiverAt;rw[Sem.run_bind,aN hu];rfl
  rw[this];rfl
 ·cases h
 ·rename_i g d hnp hp hf hu;cases h;unfold method;rw[Sem.run_bind,dC hi];simp only[Result.andThen_ok,hm];rw[Sem.run_bind,ahP hp];simp only[Result.andThen_ok,hf];rw[Sem.run_bind];have:∀wr,(receiverAt t (.val v) false wr).run P w=.ok v w:=λ wr=>by
   unfold receiverAt;rw[Sem.run_bind,aN hu];simp only[Result.andThen_ok];cases d <;> first|rfl|exact(hnp _ rfl).elim
  rw[this];rfl
 ·cases h
theorem MO{o:Oper}{n:Nat}{x:AN}(hH:HR ν H F w)(h:pj P o T H n=some x){l:List Operand}(hl:j9 o.op=some l)(iD:OK ν T a l)(hn:∀v H' n',x=.val v H' n' -> Fr ν n n'):Sy P ν F n (execOp a.eval o) w x:=by
 unfold pj at h;split at h
 ·rename_i t p y ho;rw[ho] at hl;simp only[j9,cG,Option.some.injEq] at hl;subst hl;have hp:=iD p (by simp);split at h
  ·rename_i ad e;split at h
   ·rename_i H2 hs;cases h;rw[e] at hp;generalize hu:a.eval p=u at hp;have hp2:=hp;cases hp with
    | atom _ h=>simp[cV] at h
    | ptr o h =>
     obtain⟨w',q1,q2,q3⟩:=GS hH hp2 (iD y (by simp)) hs;refine⟨ν,undef,w',.skip,?_,.inr ⟨rfl,rfl⟩,aaw,.refl _ _,q2,q3⟩;simp[execOp,ho,Instr.storeAt,Instr.sureAddr,hu,Sem.run_bind,q1]
   ·cases h
  ·cases h
 ·rename_i t m k y ho;rw[ho] at hl;simp only[j9,cG,Option.some.injEq] at hl;subst hl;split at h
  ·rename_i H2 hs;cases h;obtain⟨hp,w',q1,q2,q3⟩:=Ew hH (iD m (by simp)) (iD y (by simp)) hs;have hk:=(iD k (by simp)).plain_eq hp;refine⟨ν,undef,w',.skip,?_,.inr ⟨rfl,rfl⟩,aaw,.refl _ _,q2,q3⟩;simp[execOp,ho,hk,Sem.run_bind,q1]
  ·cases h
 ·rename_i t m k y ho;rw[ho] at hl;simp only[j9,cG,Option.some.injEq] at hl;subst hl;split at h
  ·rename_i H2 hs;cases h;obtain⟨hp,w',q1,q2,q3⟩:=Ew hH (iD m (by simp)) (iD y (by simp)) hs;have hk:=(iD k (by simp)).plain_eq hp;refine⟨ν,undef,w',.skip,?_,.inr ⟨rfl,rfl⟩,aaw,.refl _ _,q2,q3⟩;simp[execOp,ho,hk,Sem.run_bind,q1]
  ·cases h
 ·rename_i c ho;split at h
  case h_2=>cases h
  rename_i f hc;split at h
  case h_2=>cases h
  rename_i fn first captured e
  cases h;rw[ho] at hl;simp only[j9,hc,Option.some.injEq] at hl;subst hl;have hf:=iD f (by simp);rw[e] at hf;obtain⟨fn',f',c',e',r1,r2,r3⟩:=ut hf;have ha:=m6 (l:=c.args.toList) (λ x hx=>iD x (List.mem_cons_of_mem _ hx));refine⟨{ target:=.fn fn' c',args:=f'++c.args.map a.eval },?_,⟨.fn r1 r3,?_⟩⟩
  ·unfold Go.execOp;rw[ho];simp only;rw[Sem.run_bind,pq hc e'];rfl
  ·simpa using r2.append ha
 ·rename_i c ho;split at h
  ·rename_i f hc;have TM:l=f::c.args.toList:=by
    rw[ho] at hl;simp only[j9,cG,hc,Option.some.injEq] at hl;rw[<- hl];rfl
   split at h
   ·rename_i x' UR;cases h;subst TM;have hf:=iD f (by simp);have ha:=m6 (l:=c.args.toList) (λ x hx=>iD x (List.mem_cons_of_mem _ hx));have iN:∀fn' f' c',a.eval f=.func fn' f' c' -> (execOp a.eval o).run P w=(invoke (.fn fn' c') (f'++c.args.map a.eval)).run P w:=λ fn' f' c' e'=>by
     unfold Go.execOp;rw[ho];simp only;rw[Sem.run_bind,pq hc e'];rfl
    unfold s0 at UR;split at UR
    case h_2=>cases UR
    rename_i fn first captured e
    rw[e] at hf;obtain⟨fn',f',c',e',r1,r2,r3⟩:=ut hf;split at UR
    ·split at UR
     ·rename_i hb;cases UR;cases r1;refine⟨f'.toList++(c.args.toList.map a.eval++c'.toList),?_,r2.append (ha.append r3)⟩;rw[iN _ _ _ e'];show (callFunc _ (f'++c.args.map a.eval++c')).run P w=_;rw[jK hb];congr 2;apply Array.ext';simp
     ·cases UR
    ·rename_i lp;split at UR
     ·rename_i hfi;cases UR;cases r1 with
      | @yield _ b K hν =>
      rw[hfi] at r2;refine⟨b,K,_,hν,ha,?_⟩;rw[iN _ _ _ e'];have hf0:f'=#[]:=by
       apply Array.ext';generalize f'.toList=q at r2;cases r2;rfl
      subst hf0;show (Instr.yield b (#[]++c.args.map a.eval)).run P w=_;congr 2;apply Array.ext';simp
     ·cases UR
    ·cases UR
   ·split at h
    ·rename_i v hv;cases h;have YT:cG o.op=some l:=by
      rw[ho] at hl ⊢;exact hl
     obtain⟨v',r,e⟩:=re hv YT iD;exact⟨ν,v',w,_,e w,.inl rfl,r,.refl _ _,hH,Below.refl _ _⟩
    ·cases h
  ·rename_i b hc;split at h
   ·obtain⟨v,H2,n2,rfl⟩:=Kj h;have Yb:=hn v H2 n2 rfl;unfold JX at h;split at h
    case h_2=>cases h
    rename_i cl x y t u;simp only at hc;subst hc;split at h
    case h_2=>cases h
    rename_i el he hs;have TM:l=[x,y]:=by
     rw[ho] at hl;simp only[j9,cG,Option.some.injEq] at hl;rw[<- hl];rfl
    subst TM;have hu:∃e',P.underlying u=some (.slice e'):=by
     unfold QX at hs;split at hs
     ·rename_i e1;exact⟨_,e1⟩
     ·cases hs
    obtain⟨e',hu⟩:=hu;have hr:∃cs,(resolve a.eval ⟨.builtin .append,⟨[x,y]⟩,⟨[t,u]⟩⟩ o.type).run P w=.ok { target:=.builtin .append #[t,u] o.type cs,args:=#[a.eval x,a.eval y] } w:=by
     refine⟨(⟨[x,y]⟩:Array Operand).map (λ | .const _=>true|_=>false),?_⟩;unfold resolve;have e:(⟨[x,y]⟩:Array Operand).map a.eval=#[a.eval x,a.eval y]:=by simp
     simp only[e];rfl
    obtain⟨cs,hr⟩:=hr;refine Ey (MN (ty:=o.type) hH (nV he) hu (iD x (by simp)) (iD y (by simp)) Yb h) ?_;unfold Go.execOp;rw[ho];simp only;rw[Sem.run_bind,hr];rfl
   ·obtain⟨v,H2,n2,rfl⟩:=GU h;unfold Aw at h;split at h
    case h_2=>cases h
    rename_i cl x y t u;simp only at hc;subst hc;split at h
    case h_2=>cases h
    rename_i el he;have TM:l=[x,y]:=by
     rw[ho] at hl;simp only[j9,cG,Option.some.injEq] at hl;rw[<- hl];rfl
    subst TM;have hr:∃cs,(resolve a.eval ⟨.builtin .copy,⟨[x,y]⟩,⟨[t,u]⟩⟩ o.type).run P w=.ok { target:=.builtin .copy #[t,u] o.type cs,args:=#[a.eval x,a.eval y] } w:=by
     refine⟨(⟨[x,y]⟩:Array Operand).map (λ | .const _=>true|_=>false),?_⟩;unfold resolve;have e:(⟨[x,y]⟩:Array Operand).map a.eval=#[a.eval x,a.eval y]:=by simp
     simp only[e];rfl
    obtain⟨cs,hr⟩:=hr;refine Ey (Ki (u:=u) (ty:=o.type) hH (nV he) (iD x (by simp)) (iD y (by simp)) h) ?_;unfold Go.execOp;rw[ho];simp only;rw[Sem.run_bind,hr];rfl
   ·cases h;show (execOp a.eval o).run P w=_;unfold Go.execOp;rw[ho];simp only;rw[Sem.run_bind];unfold resolve;rw[hc];rfl
   ·cases h
  ·rename_i recv name hc;have TM:l=recv::c.args.toList:=by
    rw[ho] at hl;simp only[j9,cG,hc,Option.some.injEq] at hl;rw[<- hl];rfl
   subst TM;split at h
   case h_2=>cases h
   rename_i t v e;split at h
   case h_2=>cases h
   rename_i f hf;split at h
   case h_2=>cases h
   rename_i hB;cases h;have hr:=iD recv (by simp);rw[e] at hr;have ha:=m6 (l:=c.args.toList) (λ x hx=>iD x (List.mem_cons_of_mem _ hx));generalize hu:a.eval recv=u at hr;cases hr with
   | atom _ h=>simp[cV] at h
   | @iface _ v' _ hv =>
   refine⟨v'::c.args.toList.map a.eval,?_,.cons hv ha⟩;unfold Go.execOp;rw[ho];simp only;rw[Sem.run_bind];have h1:(resolve a.eval c o.type).run P w=.ok { target:=.fn (.method name) #[],args:=#[.iface t v']++c.args.map a.eval } w:=by
    unfold resolve;rw[hc];simp only[hu];rfl
   rw[h1];simp only[Result.andThen_ok];have h2:(invoke (.fn (.method name) #[]) (#[.iface t v']++c.args.map a.eval)).run P w=(callMethod (.iface t v') name (c.args.map a.eval)).run P w:=by
    unfold invoke;have e1:(#[Value.iface t v']++c.args.map a.eval)[0]?=some (.iface t v'):=by rw[Array.getElem?_append_left (by simp)];rfl
    have e2:(#[Value.iface t v']++c.args.map a.eval).extract 1 (#[Value.iface t v']++c.args.map a.eval).size=c.args.map a.eval:=by
     apply Array.ext';simp;rw[List.take_of_length_le (by simp)]
    simp only[e1,e2]
   rw[h2];unfold callMethod;simp only;rw[pL,Sem.run_bind,GV hf];simp only[Result.andThen_ok];rw[jK hB];congr 2;apply Array.ext';simp
 ·cases h
theorem nX{o:Op}{l:List Operand}(h:j9 o=some l)(hd:∀c,o ≠ .defer c):cG o=some l:=by
 cases o <;> first|exact h|exact(hd _ rfl).elim
end ap
def Glb(ν:Nu)(G:Nat):Prop:=∀k,k<G -> ∃K,ν k=some (k,K)
def Kk(ν:Nu)(v:Value)(n n':Nat)(H':AH)(F:HL)(w:World)(e:Ending)(w':World):Prop :=
 ∃ν' v',e=.returned v' /\ VRi ν' v v' /\ Ext ν ν' n n' /\ HR ν' H' F w' /\ Below 0 w w'
inductive DsR(ν:Nu):List Deferred -> List Deferred -> Prop
 | nil:DsR ν [] []
 | cons {d d':Deferred} {l l':List Deferred}:DR ν d d' -> DsR ν l l' -> DsR ν (d::l) (d'::l')
inductive RR(ν:Nu):Option Nat -> Option Nat -> Prop
 | none:RR ν none none
 | some {l b K:Nat}:ν l=some (b,K) -> RR ν (some l) (some b)
def Ex.out:Ex -> Exit
 | .normal=>.normal
 | .exit id=>.exit id
 | .ret=>.ret
structure SR(ν:Nu)(G N:Nat)(s:St)(F:HL)(a:Act)(w:World):Prop where
 g:Glb ν G
 t:TRel ν N s.T a.tmps
 d:DsR ν s.D a.defers
 h:HR ν s.H F w
def Ez(F:Fence)(n:Nat)(P:Program)(c:Code)(Q:Exit -> Act -> World -> Prop)(a:Act)(w:World):Prop :=
 ∀ (b:Frame) (k:List Item) (cs:List Frame),b.roundOf=F.round -> F.fn b.fn -> F.room (cs.length+1+n) ->
  ∃e a' w',Q e a' w' /\ ArrivesIn (Machine.fenced P F) P (lone (b.atR a (.code c :: .inLoop c::k)) cs w) b k cs e a' w'
theorem Df{F:Fence}{n:Nat}{P:Program}{c:Code}{Q:Exit -> Act -> World -> Prop}{a:Act}{w:World}(h:Ez F n P c Q a w):(Code.loop c).wpIn F n P Q a w:=by
 intro b k cs UM hb hr;obtain⟨e,a',w',hq,BY⟩:=h b k cs UM hb hr;exact⟨e,a',w',hq,.of_steps (.one (fenced_calm hb hr rfl) stepR_loop) BY⟩
theorem AZ{F:Fence}{n:Nat}{P:Program}{c:Code}{Q:Exit -> Act -> World -> Prop}{a:Act}{w:World}(h:c.wpIn F n P (Exit.then (Ez F n P c Q) Q) a w):Ez F n P c Q a w:=by
 intro b k cs UM hb hr;obtain⟨e,a₁,w₁,hq,BY⟩:=h b (.inLoop c::k) cs UM hb hr;cases e with
 | normal =>
  obtain⟨e₂,a₂,w₂,W9,UC⟩:=hq b k cs UM hb hr;exact⟨e₂,a₂,w₂,W9,.of_steps (StepsIn.trans BY (.one (fenced_calm hb hr rfl) stepR_inLoop)) UC⟩
 | exit id=>exact⟨_,a₁,w₁,hq,.pass (x:=.inLoop c) rfl (λ _ _=>.inl (by simp)) BY⟩
 | goto l=>exact⟨_,a₁,w₁,hq,.pass (x:=.inLoop c) rfl (λ _ _=>.inl (by simp)) BY⟩
 | ret=>exact⟨_,a₁,w₁,hq,.pass (x:=.inLoop c) rfl (λ _ _=>.inl (by simp)) BY⟩
 | panic ch=>exact⟨_,a₁,w₁,hq,.pass (x:=.inLoop c) rfl (λ _ _=>.inl (by simp)) BY⟩
 | outgrown=>exact⟨_,a₁,w₁,hq,.pass (x:=.inLoop c) rfl (λ _ _=>.inl (by simp)) BY⟩
def k8(P:Program)(G:Nat):Task -> Rs -> Prop
 | .fn f args H n,.fn v H' n'=>n <= n' /\ ∀ν F w z_,Glb ν G -> Fr ν n n' -> HR ν H F w -> LR ν args z_ -> Calls P f ⟨z_⟩ w (Kk ν v n n' H' F w)
 | .rnd l T N as bo H n,.fn v H' n'=>n <= n' /\ ∀ν F w b K tm f r',Glb ν G -> ν l=some (b,K) -> TRel ν N T tm -> Fr ν n n' -> HR ν H F w -> RoundIn (Wr r') 0 P b f tm as bo w (Kk ν v n n' H' F w)
 | .code r N c s,.cd e s'=>s.n <= s'.n /\ ∀ν F a w r' Q,RR ν r r' -> SR ν G N s F a w -> Fr ν s.n s'.n -> (∀ν' a' w',Ext ν ν' s.n s'.n -> SR ν' G N s' F a' w' -> Below 0 w w' -> Q e.out a' w') -> c.wpIn (Wr r') 0 P Q a w
 | .loop r N c s,.cd e s'=>s.n <= s'.n /\ ∀ν F a w r' Q,RR ν r r' -> SR ν G N s F a w -> Fr ν s.n s'.n -> (∀ν' a' w',Ext ν ν' s.n s'.n -> SR ν' G N s' F a' w' -> Below 0 w w' -> Q e.out a' w') -> Ez (Wr r') 0 P c Q a w
 | .dfn f args H n,.fn v H' n'=>n <= n' /\ ∀ν F w z_,Glb ν G -> Fr ν n n' -> HR ν H F w -> LR ν args z_ -> CallsDIn (Wr none) 0 P f ⟨z_⟩ .returning w (λ e u' w'=>u'=.returning /\ Kk ν v n n' H' F w e w')
 | _,_=>True
def md(P:Program)(G:Nat)(ih:Task -> Option Rs):Prop:=∀t res,ih t=some res -> k8 P G t res
section ops
variable {ν ν':Nu} {P:Program} {G N:Nat} {T T':Tr Value} {a:Act} {H H':AH} {F:HL} {w w':World} {r r':Option Nat} {ih:Task -> Option Rs}
theorem Glb.mono(h:Glb ν G)(hl:ν.Le ν'):Glb ν' G:=λ k hk=>let ⟨K,e⟩:=h k hk;⟨K,hl _ _ e⟩
theorem DsR.mono{l l':List Deferred}(h:DsR ν l l')(hl:ν.Le ν'):DsR ν' l l':=by
 induction h with
 | nil=>exact .nil
 | cons h _ ih=>exact .cons (h.mono hl) ih
theorem RR.mono(h:RR ν r r')(hl:ν.Le ν'):RR ν' r r':=by
 cases h with
 | none=>exact .none
 | some h=>exact .some (hl _ _ h)
theorem HR.loop(h:HR ν H F w){k:Nat}{st:LoopState}{pend:Option Code}{T:Tr Value}{N:Nat}{ps:Array Tmp}{as bo:Code}{d r K:Nat}(hk:cw H k=some (.loop st pend T N ps as bo d))(hr:ν k=some (r,K)) :
  ∃lp:Loop,w.heap[r]?=some (.loop lp) /\ lp.state=st /\ lp.pending=pend /\ TRel ν N T lp.tmps /\ lp.params=ps /\ lp.assign=as /\ lp.body=bo /\ ∃K',ν d=some (lp.defers,K'):=by
 obtain⟨r',K',o,h1,h2,h3⟩:=h.blk _ _ hk;rw[hr] at h1;cases h1;unfold OR at h3;split at h3
 ·rename_i e1;cases e1
 ·rename_i e1;cases e1
 ·rename_i e1;cases e1;exact⟨_,h2,h3⟩
 ·rename_i e1;cases e1
 ·exact h3.elim
theorem jh{l:Nat}{lp:Loop}(h:w.heap[l]?=some (.loop lp)):(Instr.getLoop l).run P w=.ok lp w:=by
 unfold Instr.getLoop;rw[Sem.run_bind];have:(getObj l).run P w=.ok (.loop lp) w:=by
  unfold getObj;rw[Sem.run.eq_def];simp only[h];rfl
 rw[this];rfl
theorem wW:∀ {ps:List Tmp} {vs Tv:List Value} {T:Tr Value} {tm:Array Value},LR ν vs Tv -> TRel ν N T tm -> Er N ps=true -> TRel ν N (JZ ps vs T) ((ps.zip Tv).foldl (λ tmps (p:Tmp × Value)=>tmps.setIfInBounds p.1 p.2) tm)
 | [],vs,Tv,T,tm,hl,ht,_=>by cases vs <;> exact ht
 | p::ps,[],Tv,T,tm,hl,ht,_=>by cases hl;exact ht
 | p::ps,v::vs,Tv,T,tm,hl,ht,iS=>by
  cases hl with
  | cons hv hl =>
   rw[Er] at iS;split at iS
   ·rename_i hp;have h2:=wW (ps:=ps) hl (ht.set (eH hp) hv) iS;exact h2
   ·cases iS
theorem GW{b:Nat}{lp:Loop}{args:List Value}(h:w.heap[b]?=some (.loop lp))(hs:args.length=lp.params.size) :
  (Instr.yield b ⟨args⟩).run P w=.ok (.round b lp.fn ((lp.params.toList.zip args).foldl (λ tmps (p:Tmp × Value)=>tmps.setIfInBounds p.1 p.2) lp.tmps) lp.assign lp.body) w:=by
 unfold Instr.yield;rw[Sem.run_bind,jh h];simp only[Result.andThen_ok];rw[if_neg (by simp[hs])];have:(Array.foldl (λ (tmps:Array Value) (x:Tmp × Value)=>tmps.setIfInBounds x.1 x.2) lp.tmps (lp.params.zip ⟨args⟩))=((lp.params.toList.zip args).foldl (λ tmps (p:Tmp × Value)=>tmps.setIfInBounds p.1 p.2) lp.tmps):=by
  rw[<- Array.foldl_toList,Array.toList_zip]
 rw[<- this];rfl
def Sz(P:Program)(ν:Nu)(F:HL)(n:Nat)(r r':Option Nat)(a:Act)(w:World)(o:Oper):OpR -> Prop
 | .val v H' n'=>Fr ν n n' -> ∀ (next:Act -> World -> Prop) (Q:Exit -> Act -> World -> Prop),(∀ν' v' w',VRi ν' v v' -> Ext ν ν' n n' -> HR ν' H' F w' -> Below 0 w w' -> next (a.put o.dst v') w') -> o.wpIn (Wr r') 0 P a w next Q
 | .dfr d=>r=none /\ ∀ (next:Act -> World -> Prop) (Q:Exit -> Act -> World -> Prop),(∀d',DR ν d d' -> next ({ a with defers:=d'::a.defers }.put o.dst undef) w) -> o.wpIn (Wr r') 0 P a w next Q
theorem Kl{o:Oper}{c:Call}{n:Nat}{x:AN}(ho:o.op=.defer c)(h:Ep P G o T H n=some x):∃d,x=.dfr d:=by
 unfold Ep at h;split at h
 ·cases h
 split at h
 ·cases h
 rw[ho] at h;simp only[vf,pj,ho] at h;split at h
 ·split at h
  ·cases h;exact⟨_,rfl⟩
  ·cases h
 ·cases h
theorem nY{o:Oper}{n:Nat}{x:AN}(iD:∀l,j9 o.op=some l -> vz G l=true -> OK ν T a l)(hH:HR ν H F w)(h:Ep P G o T H n=some x)(hn:∀v H' n',x=.val v H' n' -> Fr ν n n'):Sy P ν F n (execOp a.eval o) w x:=by
 unfold Ep at h;split at h
 ·cases h
 rename_i l hl;split at h
 ·cases h
 rename_i hk;have iD:=iD l hl hk;split at h
 ·rename_i hc;split at h
  ·rename_i v hv;cases h;have X7:=nX hl (λ c e=>by rw[e] at hc;cases hc);obtain⟨v',r,e⟩:=AP hv X7 iD;exact⟨ν,v',w,_,e w,.inl rfl,r,.refl _ _,hH,Below.refl _ _⟩
  ·cases h
 ·rename_i hc;split at h
  ·rename_i v hv;cases h;have X7:=nX hl (λ c e=>by rw[e] at hc;cases hc);obtain⟨v',r,e⟩:=AW hH hv X7 iD;exact⟨ν,v',w,_,e,.inl rfl,r,.refl _ _,hH,Below.refl _ _⟩
  ·cases h
 ·rename_i hc;split at h
  ·rename_i b m hv;cases h;have X7:=nX hl (λ c e=>by rw[e] at hc;cases hc);obtain⟨h1,h2,o',h3,h4⟩:=Ev hv X7 iD;have aht:ν n=none:=hn _ _ _ rfl n (Nat.le_refl _) (by omega);exact⟨ν.upd n w.heap.size 0,_,_,_,h4 w,.inl rfl,Kd h2 cN,.upd,hH.new aht (h3 0) h1 rfl,⟨rfl,rfl,rfl,by simp,λ k hk=>by omega⟩⟩
  ·cases h
 ·exact MO hH h hl iD hn
theorem yf{o:Oper}{n n':Nat}{v:Value}(h:Ep P G o T H n=some (.val v H' n')):n <= n':=by
 have key:pj P o T H n=some (.val v H' n') -> n <= n':=by
  intro h;unfold pj s0 JX Aw Au Av wI t8 kc at h
  repeat' split at h
  all_goals first
   | (cases h;done)
   | (cases h;omega)
   | (rename_i hx;simp only[Option.some.injEq] at h;subst h;(repeat' (split at hx)) <;> first|(cases hx;done)|(cases hx;omega))
 unfold Ep at h;split at h
 ·cases h
 split at h
 ·cases h
 split at h
 ·split at h
  ·cases h;omega
  ·cases h
 ·split at h
  ·cases h;omega
  ·cases h
 ·split at h
  ·unfold Pe at h;cases h;omega
  ·cases h
 ·exact key h
theorem yg(IN:md P G ih){o:Oper}{n:Nat}{x:OpR}(hg:Glb ν G)(hr:RR ν r r')(iD:∀l,j9 o.op=some l -> vz G l=true -> OK ν T a l)(hH:HR ν H F w)(h:lA P G ih r o T H n=some x):(∀v H' n',x=.val v H' n' -> n <= n') /\ Sz P ν F n r r' a w o x:=by
 have hA:∀f,o.about P w a.eval=some f -> (Wr r').fn f:=λ _ _=>trivial;unfold lA at h;split at h
 ·cases h
 rename_i y hy;have nd:(∀d,y ≠ .dfr d) -> o.semAt (Wr r').round a.eval=execOp a.eval o:=λ hd=>Oper.semAt_eq _ _ _ λ c e=>by
  obtain⟨d,WQ⟩:=Kl e hy;exact hd d WQ
 split at h
 ·rename_i v H1 n1;cases h;refine⟨λ v H' n' e=>by cases e;exact yf hy,λ Yb next Q hk=>⟨hA,?_⟩⟩;obtain⟨ν',v',w',q,h1,h2,h3,h4,h5,h6⟩:=nY iD hH hy (λ v H' n' e=>by cases e;exact Yb);rw[nd (λ d e=>by cases e),h1];rcases h2 with rfl|⟨rfl,rfl⟩
  ·rw[Oper.uponIn_value];exact hk _ _ _ h3 h4 h5 h6
  ·rw[Oper.uponIn_skip];exact hk _ _ _ h3 h4 h5 h6
 ·rename_i f args;split at h
  ·rename_i v H1 n1 hc;cases h;obtain⟨hle,Vy⟩:=IN _ _ hc;refine⟨λ v H' n' e=>by cases e;exact hle,λ Yb next Q hk=>⟨hA,?_⟩⟩;obtain⟨z_,h1,h2⟩:=nY iD hH hy (λ v H' n' e=>by cases e);rw[nd (λ d e=>by cases e),h1,Oper.uponIn_enter];refine⟨λ h=>(by cases h),?_⟩;refine lc ((Vy ν F w z_ hg Yb hH h2).mono ?_);rintro e w2 ⟨ν',v',rfl,k1,k2,k3,k4⟩;exact hk _ _ _ k1 k2 k3 k4
  ·cases h
 ·rename_i l args;split at h
  case h_2=>cases h
  rename_i st pend T2 N' ps as bo d hb;split at h
  case h_2=>cases h
  rename_i S4 iS;split at h
  case h_2=>cases h
  rename_i v H1 n1 hc;cases h;obtain⟨hle,Vy⟩:=IN _ _ hc;refine⟨λ v H' n' e=>by cases e;exact hle,λ Yb next Q hk=>⟨hA,?_⟩⟩;obtain⟨b,K,z_,hν,h1,h2⟩:=nY iD hH hy (λ v H' n' e=>by cases e);obtain⟨lp,g1,g2,g3,g4,g5,g6,g7,g8⟩:=hH.loop hb hν;have hlen:z_.length=lp.params.size:=by
   rw[g5,h1.length];rw[fg] at S4;exact Nat.eq_of_beq_eq_true S4
  rw[nd (λ d e=>by cases e),h2,GW g1 hlen,Oper.uponIn_round];refine⟨λ h=>(by cases h),?_⟩;rw[g6,g7,g5];refine(Vy ν F w b K _ lp.fn r' hg hν (wW h1 g4 iS) Yb hH).mono ?_;rintro e w2 ⟨ν',v',rfl,k1,k2,k3,k4⟩;exact hk _ _ _ k1 k2 k3 k4
 ·rename_i d;split at h
  ·cases h;cases hr;refine⟨λ v H' n' e=>(by cases e),rfl,λ next Q hk=>⟨hA,?_⟩⟩;obtain⟨d',h1,h2⟩:=nY iD hH hy (λ v H' n' e=>by cases e);have:o.semAt (Wr none).round a.eval=execOp a.eval o:=rfl;rw[this,h1,Oper.uponIn_defer];exact hk _ h2
  ·cases h
 ·cases h
theorem lH{ops:Array Oper}{o:Oper}{b:Bool}(hT:TRel ν N T a.tmps)(h:fD ops o T=some b):Region.wanted o (yielded ops a.tmps)=b:=by
 unfold fD at h;unfold Region.wanted;split at h
 ·rename_i hg;rw[hg];cases h;rfl
 ·rename_i j want hg;rw[hg];simp only;split at h
  case h_2=>cases h
  rename_i d hd;have hy:yielded ops a.tmps j=match a.tmps[d]? with|some (.bool b)=>some b|_=>none:=by
   unfold yielded;rw[hd];rfl
  have hv:(d<N /\ ∃v',a.tmps[d]?=some v' /\ VRi ν (dz T d) v') \/ (a.tmps[d]?=none /\ dz T d=undef):=by
   rcases Nat.lt_or_ge d N with h1|h1
   ·exact .inl ⟨h1,hT.get d h1⟩
   ·exact .inr ⟨Array.getElem?_eq_none (by rw[hT.size];exact h1),hT.out d h1⟩
  rw[hy];split at h
  ·rename_i b' hb;cases h;rcases hv with ⟨-,v',e1,e2⟩|⟨e1,e2⟩
   ·rw[hb] at e2;rw[e2.plain_eq rfl] at e1;rw[e1];simp
   ·rw[hb] at e2;cases e2
  ·rename_i vs hb;cases h;rcases hv with ⟨-,v',e1,e2⟩|⟨e1,e2⟩
   ·rw[hb] at e2;rw[e1];cases e2 with
    | atom _ h=>simp[cV] at h
    | tuple _ _=>rfl
   ·rw[e1];rfl
  ·cases h
theorem SR.op{s:St}(h:SR ν G N s F a w){o:Oper}:∀l,j9 o.op=some l -> vz G l=true -> OK ν s.T a l:=λ l _ hk =>
 (FE.mk h.t h.g).ok hk
theorem qp(IN:md P G ih){ops:Array Oper}:∀ (rest:List Oper) (s s':St),oM P G ih r N ops rest s=some s' -> s.n <= s'.n /\ ∀ν F a w r' (Q:Exit -> Act -> World -> Prop),RR ν r r' -> SR ν G N s F a w -> Fr ν s.n s'.n ->
  (∀ν' a' w',Ext ν ν' s.n s'.n -> SR ν' G N s' F a' w' -> Below 0 w w' -> Q .normal a' w') -> wpListIn (Wr r') 0 P ops Q rest a w
 | [],s,s',h=>by
  rw[oM] at h;cases h;exact⟨Nat.le_refl _,λ ν F a w r' Q hr hs hf hk=>hk ν a w (.refl _ _) hs (Below.refl _ _)⟩
 | o::rest,s,s',h=>by
  rw[oM] at h;split at h
  ·cases h
  ·rename_i hw;split at h
   case h_2=>cases h
   rename_i T1 hp;obtain⟨h1,h2⟩:=qp IN rest _ _ h;refine⟨h1,λ ν F a w r' Q hr hs hf hk=>?_⟩;rw[wpListIn,if_neg (by rw[lH hs.t hw];simp)];refine⟨λ _ _=>trivial,?_⟩;exact h2 ν F _ w r' Q hr ⟨hs.g,hs.t.put aaw hp,by rw[gE];exact hs.d,hs.h⟩ hf hk
  ·rename_i hw;split at h
   ·cases h
   ·rename_i v H1 n1 At;split at h
    case h_2=>cases h
    rename_i T1 hp;obtain⟨h1,h2⟩:=qp IN rest _ _ h;simp only at h1 h2;have hle:s.n <= n1:=by
     clear h2;unfold lA at At;split at At
     ·cases At
     rename_i y hy;split at At
     ·cases At;exact yf hy
     ·split at At
      ·rename_i hc;cases At;exact(IN _ _ hc).1
      ·cases At
     ·split at At
      case h_2=>cases At
      split at At
      case h_2=>cases At
      split at At
      ·rename_i hc;cases At;exact(IN _ _ hc).1
      ·cases At
     ·split at At <;> cases At
     ·cases At
    refine⟨by omega,λ ν F a w r' Q hr hs hf hk=>?_⟩;rw[wpListIn,if_pos (lH hs.t hw)];obtain⟨-,h4⟩:=yg IN hs.g hr hs.op hs.h At;refine h4 (λ i hi1 WN=>hf i hi1 (by omega)) _ _ (λ ν' v' w' k1 k2 k3 k4=>?_);have To:=k2.sub (λ i hi1 WN=>hf i hi1 (by omega));exact h2 ν' F _ w' r' Q (hr.mono To) ⟨hs.g.mono To,(hs.t.mono To).put k1 hp,by rw[gE];exact hs.d.mono To,k3⟩ (k2.fr hf h1) (λ ν2 a2 w2 q1 q2 q3=>hk ν2 a2 w2 (k2.trans q1) q2 (k4.trans q3))
   ·rename_i d At;split at h
    case h_2=>cases h
    rename_i T1 hp;obtain⟨h1,h2⟩:=qp IN rest _ _ h;refine⟨h1,λ ν F a w r' Q hr hs hf hk=>?_⟩;rw[wpListIn,if_pos (lH hs.t hw)];obtain⟨-,h3,h4⟩:=yg IN hs.g hr hs.op hs.h At;refine h4 _ _ (λ d' WQ=>?_);exact h2 ν F _ w r' Q hr ⟨hs.g,TRel.put (a:={ a with defers:=d'::a.defers }) hs.t aaw hp,by rw[gE];exact .cons WQ hs.d,hs.h⟩ hf hk
end ops
end Go.Proofs.YtdppjkjbghbnjaaGreatDoor
