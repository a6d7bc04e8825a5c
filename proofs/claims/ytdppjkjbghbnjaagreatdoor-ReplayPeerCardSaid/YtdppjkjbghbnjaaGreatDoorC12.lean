import Derived.Deep.AppendSrc
import Derived.Laws.AppendOwn
import Derived.Test.YtdppjkjbghbnjaaGreatDoorC11
set_option maxHeartbeats 4000000
set_option maxRecDepth 100000
set_option linter.all false
namespace Go.Proofs.YtdppjkjbghbnjaaGreatDoor
open Go.RowKit
section fr
variable {ν ν':Nu} {P:Program} {G N:Nat} {T T':Tr Value} {a:Act}
theorem H4{t:TypeId}{u v u' v':Value}{r:Bool}(h:HJ u v=some r)(ht:Ln P t u=true)(hu:VRi ν u u')(hv:VRi ν v v')(w:World):(Op.equal t u' v').run P w=.ok r w:=by
 show (Op.equalIn 10000 t u' v').run P w=_;rw[show (10000:Nat)=9999+1 from rfl,Op.equalIn.eq_def];simp only;unfold HJ at h;split at h <;> first|(cases h;done)|skip
 all_goals
  cases h;unfold Ln at ht;split at ht <;> first|(cases ht;done)|skip
  rename_i hd;rw[aa4,aG hd];simp only[aa3];cases hu <;> cases hv <;> first|rfl|(rename_i e;cases e;done)|(rename_i e1 e2;cases e1;done)|(rename_i e1 e2;cases e2;done)
theorem vE{w:World}{ρ:Operand -> Value}{o:Oper}{t el:TypeId}{x i:Operand}{b off n c j sz:Nat}{k:IntKind}(ho:o.op=.indexAddr t x i)(hx:ρ x=.slice (some ⟨b,off,none⟩) n c)(hi:ρ i=.int k (j:Int))(ht:P.underlying t=some (.slice el))(hj:j<n)(hs:fi P el=some sz) :
  (execOp ρ o).run P w=.ok (.value (.pointer (some ⟨b,off+j*sz,none⟩))) w:=by
 have h1:=λ W=>aG ht W;have h2:=λ W=>eC hs W;have h3:(0:Int) <= (j:Int) /\ (j:Int)<(n:Int):=⟨by omega,by omega⟩;simp[execOp,ho,Instr.indexAt,hx,hi,asIntOf,aa4,h1,h2,hj,m6]
theorem AM{w:World}{ρ:Operand -> Value}{o:Oper}{t el:TypeId}{x i:Operand}{b off n j sz:Nat}{k:IntKind}(ho:o.op=.indexAddr t x i)(hx:ρ x=.pointer (some ⟨b,off,none⟩))(hi:ρ i=.int k (j:Int))(ht:P.underlying t=some (.array n el))(hj:j<n)(hs:fi P el=some sz) :
  (execOp ρ o).run P w=.ok (.value (.pointer (some ⟨b,off+j*sz,none⟩))) w:=by
 have h1:=λ W=>aG ht W;have h2:=λ W=>eC hs W;simp[execOp,ho,Instr.indexAt,Instr.sureAddr,hx,hi,asIntOf,aa4,h1,h2,hj,m6]
theorem AO{w:World}{ρ:Operand -> Value}{o:Oper}{t el:TypeId}{x i:Operand}{cs:Array Value}{n j sz:Nat}{k:IntKind}{v:Value}(ho:o.op=.index t x i)(hx:ρ x=.agg cs)(hi:ρ i=.int k (j:Int))(ht:P.underlying t=some (.array n el))(hj:j<n)(hs:fi P el=some sz)(hp:oc P el cs.toList (j*sz)=some v) :
  (execOp ρ o).run P w=.ok (.value v) w:=by
 have h1:=λ W=>aG ht W;have h2:=λ W=>eC hs W;have h3:=tZ hp;simp[execOp,ho,Instr.index,hx,hi,asIntOf,aa4,h1,h2,h3,hj]
theorem H5{w:World}{ρ:Operand -> Value}{o:Oper}{t:TypeId}{x:Operand}{n:Nat}(ho:o.op=.call { callee:=.builtin .len,args:=#[x],argTypes:=#[t] })(hl:AA P t (ρ x)=some n):(execOp ρ o).run P w=.ok (.value (.int .i64 (n:Int))) w:=by
 unfold AA at hl;split at hl
 case h_3=>cases hl
 all_goals
  rename_i hu hx;cases hl;have h1:=λ W=>aG hu W;simp[execOp,ho,resolve,invoke,builtin,Builtin.len_,hx,aa4,h1,goInt]
theorem H6{t:TypeId}{v v':Value}{n:Nat}(hr:VRi ν v v')(h:AA P t v=some n):AA P t v'=some n:=by
 cases hr with
 | atom v _=>exact h
 | slice o n h1 c =>
  unfold AA at h ⊢;cases hu:P.underlying t with
  | none=>simp[hu] at h
  | some d=>rw[hu] at h;cases d <;> simp at h ⊢;exact h
 | _ =>
  unfold AA at h;cases hu:P.underlying t with
  | none=>simp[hu] at h
  | some d=>rw[hu] at h;cases d <;> simp at h
theorem yj{w:World}{ρ:Operand -> Value}{o:Oper}{op:BinOp}{t ty:TypeId}{x y:Operand}{u v:Value}{r:Bool}(ho:o.op=.binOp op t x y ty)(hx:VRi ν u (ρ x))(hy:VRi ν v (ρ y))(hr:HJ u v=some r)(ht:Ln P t u=true) :
  (op=.eql -> (execOp ρ o).run P w=.ok (.value (.bool r)) w) /\ (op=.neq -> (execOp ρ o).run P w=.ok (.value (.bool (!r))) w):=by
 have q:=H4 hr ht hx hy w;generalize hu:ρ x=u' at *;generalize hv:ρ y=v' at *;unfold HJ at hr;split at hr <;> first|(cases hr;done)|skip
 all_goals
  cases hx <;> cases hy <;> refine⟨λ e=>?_,λ e=>?_⟩ <;> subst e <;> simp[execOp,ho,hu,hv,eqGuard,Go.binOp,aa4,q,cq,Result.andThen]
theorem yl{o:Oper}{v:Value}(h:gS P o T=some v){l:List Operand}(hl:cf o.op=some l)(g_:OK ν T a l):∃v',VRi ν v v' /\ ∀w,(execOp a.eval o).run P w=.ok (.value v') w:=by
 have hpl:gz P T o=some v -> ∃v',VRi ν v v' /\ ∀w,(execOp a.eval o).run P w=.ok (.value v') w:=λ h=>o9 h hl g_;unfold gS at h;split at h
 ·rename_i x ho;rw[ho] at hl;simp only[cf,Option.some.injEq] at hl;subst hl;cases h;exact⟨_,g_ x (by simp),λ w=>by simp[execOp,ho,pure,Sem.run]⟩
 ·rename_i x ho;rw[ho] at hl;simp only[cf,Option.some.injEq] at hl;subst hl;cases h;exact⟨_,g_ x (by simp),λ w=>by simp[execOp,ho,pure,Sem.run]⟩
 ·rename_i c x y ho;rw[ho] at hl;simp only[cf,Option.some.injEq] at hl;subst hl;have hc:=g_ c (by simp);split at h
  ·rename_i e;cases h;rw[e] at hc;have e':=hc.plain_eq rfl;exact⟨_,g_ x (by simp),λ w=>by simp[execOp,ho,e',asBool,aa4,pure,Sem.run,Result.andThen]⟩
  ·rename_i e;cases h;rw[e] at hc;have e':=hc.plain_eq rfl;exact⟨_,g_ y (by simp),λ w=>by simp[execOp,ho,e',asBool,aa4,pure,Sem.run,Result.andThen]⟩
  ·cases h
 ·rename_i t parts ho;rw[ho] at hl;simp only[cf,Option.some.injEq] at hl;subst hl;obtain⟨v',r,e⟩:=EG h (rI g_);refine⟨v',r,λ w=>?_⟩;have:=e w;have e2:(parts.map λ (p:Nat × Operand)=>(p.1,a.eval p.2))=⟨parts.toList.map λ p=>(p.1,a.eval p.2)⟩:=by apply Array.ext';simp
  simp only[execOp,ho,aa4];rw[e2,this];rfl
 ·rename_i x ho;rw[ho] at hl;simp only[cf,Option.some.injEq] at hl;subst hl;have hx:=g_ x (by simp);split at h
  ·rename_i ad e;cases h;rw[e] at hx;refine⟨_,hx,λ w=>?_⟩;generalize hu:a.eval x=u at hx;cases hx with
   | atom _ h=>simp[cC] at h
   | ptr o h=>simp[execOp,ho,hu,pure,Sem.run,bind,Sem.bind]
  ·rename_i f first captured e
   cases h;rw[e] at hx;refine⟨_,hx,λ w=>?_⟩;generalize hu:a.eval x=u at hx;cases hx with
   | atom _ h=>simp[cC] at h
   | func hf _ _ _ _=>cases hf;simp[execOp,ho,hu,pure,Sem.run,bind,Sem.bind]
  ·rename_i t v e;cases h;rw[e] at hx;refine⟨_,hx,λ w=>?_⟩;generalize hu:a.eval x=u at hx;cases hx with
   | atom _ h=>simp[cC] at h
   | iface t hf=>simp[execOp,ho,hu,pure,Sem.run,bind,Sem.bind]
  ·cases h
 ·rename_i op t x y ty ho;have hx:=g_ x (by rw[ho] at hl;simp only[cf,Option.some.injEq] at hl;subst hl;simp);have hy:=g_ y (by rw[ho] at hl;simp only[cf,Option.some.injEq] at hl;subst hl;simp);split at h
  ·rename_i k m k' n ex ey;rw[ex] at hx;rw[ey] at hy;have ex':=hx.plain_eq rfl;have ey':=hy.plain_eq rfl;split at h
   ·rename_i r hr;split at h
    ·rename_i hk;cases h;have VJ:k=k':=aa5 hk;subst VJ;exact⟨_,.atom _ rfl,λ w=>H3 ho ex' ey' hr⟩
    ·cases h
   ·exact hpl h
  ·split at h
   ·rename_i r hr;split at h
    ·rename_i ht;cases h;exact⟨_,.atom _ rfl,λ w=>(yj ho hx hy hr ht).1 rfl⟩
    ·rename_i ht;cases h;exact⟨_,.atom _ rfl,λ w=>(yj ho hx hy hr ht).2 rfl⟩
    ·cases h
   ·exact hpl h
 ·rename_i t x ho;rw[ho] at hl;simp only[cf,Option.some.injEq] at hl;subst hl;have hx:=g_ x (by simp);split at h
  ·cases h
  ·rename_i d hd hu;cases h;refine⟨_,.iface t hx,λ w=>?_⟩;simp only[execOp,ho,Instr.makeInterface,aa4,aG hu,aa3];cases d <;> first|rfl|exact(hd _ hu).elim
  ·cases h
 ·rename_i fn first captured ho
  rw[ho] at hl;simp only[cf,Option.some.injEq] at hl;subst hl;split at h
  ·rename_i f;cases h;have h1:=lC (ν:=ν) (T:=T) (a:=a) (l:=first.toList) (λ x hx=>g_ x (aaA _ hx));have h2:=lC (ν:=ν) (T:=T) (a:=a) (l:=captured.toList) (λ x hx=>g_ x (aay _ hx));have e1:first.map a.eval=⟨first.toList.map a.eval⟩:=by apply Array.ext';simp
   have e2:captured.map a.eval=⟨captured.toList.map a.eval⟩:=by apply Array.ext';simp
   refine⟨.func (.func f) (first.map a.eval) (captured.map a.eval),by rw[e1,e2];exact .func_of (.func f) h1 h2,λ w=>?_⟩;simp[execOp,ho,Instr.makeFunc,pure,Sem.run,bind,Sem.bind]
  ·cases h
 ·rename_i t x j ho;rw[ho] at hl;simp only[cf,Option.some.injEq] at hl;subst hl;have hx:=g_ x (by simp);split at h
  ·rename_i ad k ft e hf;cases h;rw[e] at hx;generalize hu:a.eval x=u at hx;cases hx with
   | atom _ h=>simp[cC] at h
   | ptr o h =>
    refine⟨_,?_,λ w=>AK ho hu hf⟩;rw[og,m6];exact .ptr _ h
  ·cases h
 ·rename_i t x j ho;rw[ho] at hl;simp only[cf,Option.some.injEq] at hl;subst hl;have hx:=g_ x (by simp);split at h
  ·rename_i cs k ft e hf;rw[e] at hx;generalize hu:a.eval x=u at hx;cases hx with
   | atom _ h=>simp[cC] at h
   | agg he hg =>
    obtain⟨v',e1,r⟩:=t2 (LR.of_arr he hg) h;exact⟨v',r,λ w=>AL ho hu hf e1⟩
  ·cases h
 ·rename_i t x i ho;rw[ho] at hl;simp only[cf,Option.some.injEq] at hl;subst hl;have hx:=g_ x (by simp);have hi:=g_ i (by simp);split at h
  ·rename_i el ad n c j ht e ei;split at h
   ·rename_i k hj hs;cases h;rw[e] at hx;obtain⟨kk,ej⟩:=m8 ei hi;generalize hu:a.eval x=u at hx;cases hx with
    | atom _ h=>simp[cC] at h
    | slice o n h hc =>
     refine⟨_,?_,λ w=>vE ho hu ej ht (dT hj) hs⟩;rw[og];exact .ptr _ h
   ·cases h
  ·rename_i n el ad j ht e ei;split at h
   ·rename_i k hj hs;cases h;rw[e] at hx;obtain⟨kk,ej⟩:=m8 ei hi;generalize hu:a.eval x=u at hx;cases hx with
    | atom _ h=>simp[cC] at h
    | ptr o h =>
     refine⟨_,?_,λ w=>AM ho hu ej ht (dT hj) hs⟩;rw[og];exact .ptr _ h
   ·cases h
  ·cases h
 ·rename_i t x i ho;have hx:=g_ x (by rw[ho] at hl;simp only[cf,Option.some.injEq] at hl;subst hl;simp);have hi:=g_ i (by rw[ho] at hl;simp only[cf,Option.some.injEq] at hl;subst hl;simp);split at h
  ·rename_i n el cs j ht e ei;split at h
   ·rename_i k hj hs;rw[e] at hx;obtain⟨kk,ej⟩:=m8 ei hi;generalize hu:a.eval x=u at hx;cases hx with
    | atom _ h=>simp[cC] at h
    | agg he hg =>
     obtain⟨v',e1,r⟩:=t2 (LR.of_arr he hg) h;exact⟨v',r,λ w=>AO ho hu ej ht (dT hj) hs e1⟩
   ·cases h
  ·exact hpl h
 ·rename_i x i ho;rw[ho] at hl;simp only[cf,Option.some.injEq] at hl;subst hl;have hx:=g_ x (by simp);split at h
  ·rename_i cs e;rw[e] at hx;generalize hu:a.eval x=u at hx;cases hx with
   | atom _ h=>simp[cC] at h
   | @tuple _ c' he hg =>
    rw[kC] at h;obtain⟨v',e1,r⟩:=(LR.of_arr he hg).get h;refine⟨v',r,λ w=>?_⟩;have e2:c'[i]?=some v':=by simpa using e1
    simp[execOp,ho,hu,Instr.extract,e2,aa4,cq,Result.andThen]
  ·cases h
 ·rename_i c ho;split at h
  ·rename_i x t hq;unfold N3 at hq;split at hq
   case h_2=>cases hq
   rename_i y u;have hyx:y=x /\ u=t:=by
    split at hq <;> first|(cases hq;exact⟨rfl,rfl⟩)|cases hq
   obtain⟨rfl,rfl⟩:=hyx;have hx:=g_ y (by rw[ho] at hl;simp only[cf,Option.some.injEq] at hl;subst hl;simp);split at h
   ·rename_i n hn;cases h;exact⟨_,.atom _ rfl,λ w=>H5 ho (H6 hx hn)⟩
   ·cases h
  ·exact hpl h
 ·exact hpl h
end fr
inductive ER(ν:Nu):List (Value × Value × Nat) -> List MapEntry -> Prop
 | nil:ER ν [] []
 | cons {v v':Value} {l:List (Value × Value × Nat)} {l':List MapEntry} (k:Value) (b:Nat):VRi ν v v' -> ER ν l l' -> ER ν ((k,v,b)::l) (⟨k,v',b⟩::l')
structure CR(ν:Nu)(K n:Nat)(t:Tr Value)(ty:TypeId)(w:Nat)(c:Array Value)(ty':TypeId)(fz:Nat × Nat):Prop where
 ty:ty'=ty
 le:n <= c.size
 fz:fz=(0,0)
 get:∀i,i<n -> ∃v',c[i]?=some v' /\ VRi ν (cY t i) v'
 gr:w≠0 -> c.size=K*w
def OR(ν:Nu)(K:Nat):AB -> Obj -> Prop
 | .cells n t ty w _,.cells c ty' fz=>CR ν K n t ty w c ty' fz
 | .map es clock,.map Td aaG=>aaG=clock /\ ER ν es Td.toList
 | .loop st pend T N ps aZz bo d,.loop r=>r.state=st /\ r.pending=pend /\ TRel ν N T r.tmps /\ r.params=ps /\ r.assign=aZz /\ r.body=bo /\ ∃K',ν d=some (r.defers,K')
 | .dfr shut,.deferred c=>c=(match shut with|true=>none|false=>some [])
 | _,_=>False
def H7:AB -> Bool
 | .cells _ _ _ _ ro=>!ro
 | _=>true
structure HR(ν:Nu)(H:AH)(F:HL)(w:World):Prop where
 blk:∀h b,bX H h=some b -> ∃r K o,ν h=some (r,K) /\ w.heap[r]?=some o /\ OR ν K b o
 inj:∀h₁ h₂ b₁ b₂ r K₁ K₂,bX H h₁=some b₁ -> bX H h₂=some b₂ -> ν h₁=some (r,K₁) -> ν h₂=some (r,K₂) -> h₁=h₂
 frm:∀x∈F,w.heap[x.1]?=some x.2.den
 apt:∀h b r K,bX H h=some b -> ν h=some (r,K) -> ∀x∈F,x.1≠r
section hp
variable {ν ν':Nu} {P:Program} {G N:Nat} {T T':Tr Value} {a:Act} {H:AH} {F:HL} {w:World}
theorem ER.mono{l:List (Value × Value × Nat)}{l':List MapEntry}(h:ER ν l l')(hl:ν.Le ν'):ER ν' l l':=by
 induction h with
 | nil=>exact .nil
 | cons k b hv _ ih=>exact .cons k b (hv.mono hl) ih
theorem OR.mono{K:Nat}{b:AB}{o:Obj}(h:OR ν K b o)(hl:ν.Le ν'):OR ν' K b o:=by
 unfold OR at h ⊢;split at h
 ·exact⟨h.ty,h.le,h.fz,λ i hi=>let ⟨v',e,r⟩:=h.get i hi;⟨v',e,r.mono hl⟩,h.gr⟩
 ·exact⟨h.1,h.2.mono hl⟩
 ·obtain⟨h1,h2,h3,h4,h5,h6,K',h7⟩:=h;exact⟨h1,h2,h3.mono hl,h4,h5,h6,K',hl _ _ h7⟩
 ·exact h
 ·exact h.elim
theorem HR.lt(h:HR ν H F w){k r K:Nat}{b:AB}(hk:bX H k=some b)(hr:ν k=some (r,K)):r<w.heap.size:=by
 obtain⟨r',K',o,h1,h2,-⟩:=h.blk k b hk;rw[hr] at h1;cases h1;exact cF h2
theorem HR.cells(h:HR ν H F w){k n ww:Nat}{t:Tr Value}{ty:TypeId}{ro:Bool}{r K:Nat}(hk:bX H k=some (.cells n t ty ww ro))(hr:ν k=some (r,K)):∃c ty' fz,w.heap[r]?=some (.cells c ty' fz) /\ CR ν K n t ty ww c ty' fz:=by
 obtain⟨r',K',o,h1,h2,h3⟩:=h.blk _ _ hk;rw[hr] at h1;cases h1;unfold OR at h3;split at h3
 ·rename_i e1;cases e1;exact⟨_,_,_,h2,h3⟩
 ·rename_i e1;cases e1
 ·rename_i e1;cases e1
 ·rename_i e1;cases e1
 ·exact h3.elim
theorem HR.map(h:HR ν H F w){k cl:Nat}{es:List (Value × Value × Nat)}{r K:Nat}(hk:bX H k=some (.map es cl))(hr:ν k=some (r,K)):∃Td,w.heap[r]?=some (.map Td cl) /\ ER ν es Td.toList:=by
 obtain⟨r',K',o,h1,h2,h3⟩:=h.blk _ _ hk;rw[hr] at h1;cases h1;unfold OR at h3;split at h3
 ·rename_i e1;cases e1
 ·rename_i e1;cases e1;obtain⟨e,h4⟩:=h3;subst e;exact⟨_,h2,h4⟩
 ·rename_i e1;cases e1
 ·rename_i e1;cases e1
 ·exact h3.elim
theorem lW{c:Array Value}{ty:TypeId}{fz:Nat × Nat}{b i:Nat}(h:w.heap[b]?=some (.cells c ty fz)):w.cell? ⟨b,i,none⟩=c[i]?:=by
 simp[World.cell?,h]
theorem j8{c:Array Value}{n:Nat}{t:Tr Value}(hle:n <= c.size)(hg:∀i,i<n -> ∃v',c[i]?=some v' /\ VRi ν (cY t i) v'):∀ (k i:Nat),i+k <= n -> LR ν (gT t i k) ((c.toList.drop i).take k)
 | 0,i,_=>by simp only[gT,List.take_zero];exact .nil
 | k+1,i,h=>by
  obtain⟨v',e,r⟩:=hg i (by omega);have iF:i<c.toList.length:=by simp;omega
  rw[List.drop_eq_getElem_cons iF,List.take_succ_cons];have:c.toList[i]=v':=by
   have:=(Array.getElem?_eq_some_iff.1 e).2;simpa using this
  rw[this];exact .cons r (j8 hle hg k (i+1) (by omega))
theorem mI{b off:Nat}:∀ (vs:List Value) (i:Nat) (acc:Array Value),(∀j (hj:j<vs.length),w.cell? ⟨b,off+(i+j),none⟩=some vs[j]) -> (loadCellsFrom ⟨b,off,none⟩ i vs.length acc).run P w=.ok (acc++⟨vs⟩) w
 | [],i,acc,_=>by simp[loadCellsFrom,cq]
 | v::vs,i,acc,h=>by
  rw[aaS,loadCellsFrom,aa4];have h0:=h 0 (by simp);simp only[Nat.add_zero,List.getElem_cons_zero] at h0;have h1:(load ((⟨b,off,none⟩:Addr).add i)).run P w=.ok v w:=by
   rw[m6];unfold load;rw[Sem.run,h0];rfl
  rw[h1];simp only[aa3];rw[mI vs (i+1) _ (λ j hj=>by
   have:=h (j+1) (by simp;omega);simp only[List.getElem_cons_succ] at this;rw[<- this];congr 2;omega)]
  simp
theorem ym{t:TypeId}{b off n:Nat}{c:Array Value}{ty:TypeId}{fz:Nat × Nat}{tr:Tr Value}{v:Value}(hw:w.heap[b]?=some (.cells c ty fz))(hle:n <= c.size)(hg:∀i,i<n -> ∃v',c[i]?=some v' /\ VRi ν (cY tr i) v')
  (h:(match xR P t with
   | true=>match Nat.blt off n with
    | true=>some (cY tr off)
    | false=>none
   | false=>match Aw P t with
    | some k=>match Nat.ble (off+k) n with
     | true=>some (.agg ⟨gT tr off k⟩)
     | false=>none
    | none=>none)=some v):∃v',VRi ν v v' /\ (loadVar t ⟨b,off,none⟩).run P w=.ok v' w:=by
 split at h
 ·rename_i h1;split at h
  ·rename_i iF;cases h;obtain⟨v',e,r⟩:=hg off (dT iF);refine⟨v',r,?_⟩;unfold loadVar;rw[aa4,yh h1];simp only[aa3,Bool.false_eq_true,if_false];unfold load;rw[Sem.run,lW hw,e];rfl
  ·cases h
 ·split at h
  ·rename_i k hk;split at h
   ·rename_i iF;cases h;obtain⟨h1,h2,h3⟩:=yi hk;have WJ:=aaJ iF;have hl:=j8 hle hg k off WJ;refine⟨.agg ⟨(c.toList.drop off).take k⟩,.agg_of hl,?_⟩;have hlen:((c.toList.drop off).take k).length=k:=by simp;omega
    unfold loadVar;rw[aa4,h1];simp only[aa3,if_true];rw[aa4,h2];simp only[aa3];rw[aa4];unfold loadCells;have:=mI (P:=P) (w:=w) (b:=b) (off:=off) ((c.toList.drop off).take k) 0 #[] (λ j hj=>by
     rw[lW hw];have Ud:off+(0+j)<c.size:=by rw[hlen] at hj;omega
     rw[Array.getElem?_eq_getElem Ud];simp)
    rw[hlen] at this;rw[this];simp[Result.andThen,cq]
   ·cases h
  ·cases h
theorem yn{t:TypeId}{ad ad':Addr}{v:Value}(hH:HR ν H F w)(hp:VRi ν (.pointer (some ad)) (.pointer (some ad')))(h:tS P t H ad=some v):∃v',VRi ν v v' /\ (loadVar t ad').run P w=.ok v' w:=by
 cases hp with
 | atom _ h=>simp[cC] at h
 | @ptr hd b K o hν =>
  unfold tS at h;split at h
  case h_2=>cases h
  rename_i n tr ty ww ro hs hb;simp only at hb h;obtain⟨c,ty',fz,hw,hc⟩:=hH.cells hb hν;exact ym hw hc.le hc.get h
def vF:TypeDesc -> Value -> Bool
 | .int _,.int _ _=>true
 | .string,.string _=>true
 | .bool,.bool _=>true
 | _,_=>false
theorem AP{t:TypeId}{k:Value}(h:HM P t k=true):∃d,P.underlying t=some d /\ vF d k=true:=by
 unfold HM at h;split at h <;> first|(cases h;done)|(rename_i e;exact⟨_,e,rfl⟩)
theorem rJ{d:TypeDesc}{k:Value}(h:vF d k=true):pl k=true /\ cC k=true:=by
 unfold vF at h;split at h <;> first|(cases h;done)|exact⟨rfl,rfl⟩
theorem gB{d:TypeDesc}{k k':Value}{r:Bool}(h:lB k k'=some r)(hk:vF d k=true):Instr.sameNow d k k'=some r:=by
 unfold vF at hk;split at hk <;> first|(cases hk;done)|skip
 ·rename_i k1 k2 n1;cases k' with
  | int k3 n2 =>
   unfold lB at h
   by_cases e:k2=k3
   ·simp only[e,decide_true] at h;cases h;simp[Instr.sameNow,e]
   ·simp[e] at h
  | _=>simp[lB] at h
 ·cases k' with
  | string s2=>unfold lB at h;cases h;rfl
  | _=>simp[lB] at h
 ·cases k' with
  | bool s2=>unfold lB at h;cases h;rfl
  | _=>simp[lB] at h
theorem gc{t:TypeId}{k:Value}(h:HM P t k=true)(e:Bool)(w:World):(Instr.checkKey e 10000 t k).run P w=.ok () w:=by
 obtain⟨d,hd,hk⟩:=AP h;rw[show (10000:Nat)=9999+1 from rfl,Instr.checkKey.eq_def];simp only;rw[aa4,aG hd];unfold vF at hk;split at hk <;> first|(cases hk;done)|rfl
theorem t6{d:TypeDesc}{k:Value}(hk:vF d k=true){es:List (Value × Value × Nat)}{Td:List MapEntry}(h:ER ν es Td):∀ {r:Option Value} (i:Nat),xT k es=some r ->
  (r=none /\ Instr.findNow d k Td i=some none) \/ (∃v v' j,r=some v /\ VRi ν v v' /\ Instr.findNow d k Td i=some (some (j,v'))):=by
 induction h with
 | nil=>intro r i h;rw[xT] at h;cases h;exact .inl ⟨rfl,rfl⟩
 | cons k' b hv _ ih =>
  intro r i h;rw[xT] at h;split at h
  ·rename_i e;cases h;exact .inr ⟨_,_,i,rfl,hv,by rw[Instr.findNow];simp only[gB e hk]⟩
  ·rename_i e;rcases ih (i+1) h with ⟨h1,h2⟩|⟨v,v',j,h1,h2,h3⟩
   ·exact .inl ⟨h1,by rw[Instr.findNow];simp only[gB e hk];exact h2⟩
   ·exact .inr ⟨v,v',j,h1,h2,by rw[Instr.findNow];simp only[gB e hk];exact h3⟩
  ·cases h
theorem t7{t:TypeId}{z:Value}(h:Cg P t=some z)(w:World):(zeroValue t).run P w=.ok z w /\ pl z=true:=by
 unfold Cg at h;split at h
 case h_2=>cases h
 rename_i i hi;split at h
 case h_2=>cases h
 rename_i zv hz;split at h
 case h_2=>cases h
 rename_i hp;cases h;refine⟨?_,hp⟩;unfold zeroValue;rw[aa4,cZ hi];simp only[aa3,hz];rfl
theorem pd{ok b:Bool}{v v':Value}(h:VRi ν v v'):VRi ν (Ch ok v b) (if ok=true then .tuple #[v',.bool b] else v'):=by
 cases ok with
 | true=>exact .tuple_of (.cons h (.cons (.atom _ rfl) .nil))
 | false=>exact h
theorem H8{t:TypeId}{m m' k:Value}{ok:Bool}{v:Value}(hH:HR ν H F w)(hm:VRi ν m m')(h:HN P t H m k ok=some v):pl k=true /\ ∃v',VRi ν v v' /\ (Instr.lookup t m' k ok).run P w=.ok v' w:=by
 unfold HN at h;split at h
 case h_2=>cases h
 rename_i kt et hu;split at h
 case h_2=>cases h
 rename_i hk;obtain⟨d,hd,Xx⟩:=AP hk;have hf:∀es,(∀r,Instr.findNow d k es 0=some r -> (Instr.findKey kt k es).run P w=.ok r w):=λ es r hr=>by
  unfold Instr.findKey;rw[aa4,aG hd];simp only[aa3,hr];rfl
 refine⟨(rJ Xx).1,?_⟩;split at h
 ·split at h
  ·rename_i z hz;cases h;cases hm;obtain⟨h1,h2⟩:=t7 hz w;refine⟨_,pd (.plain_refl _ h2),?_⟩;unfold Instr.lookup;rw[aa4,aG hu];simp only[aa3,aa4,cq,gc hk,hf [] none rfl,h1]
   try (cases ok <;> rfl)
  ·cases h
 ·rename_i r;split at h
  ·rename_i es cl hb;cases hm with
   | atom _ h=>simp[cC] at h
   | @map _ b K hν =>
   obtain⟨Td,hw,hE⟩:=hH.map hb hν;have hg:(getObj b).run P w=.ok (.map Td cl) w:=gq hw;split at h
   ·rename_i v0 YJ;cases h;rcases t6 Xx hE 0 YJ with ⟨h1,h2⟩|⟨v1,v',j,h1,h2,h3⟩
    ·cases h1
    ·cases h1;refine⟨_,pd h2,?_⟩;unfold Instr.lookup;rw[aa4,aG hu];simp only[aa3,aa4,hg,cq,gc hk,hf _ _ h3]
     try (cases ok <;> rfl)
   ·rename_i YJ;split at h
    ·rename_i z hz;cases h;obtain⟨h1,h2⟩:=t7 hz w;rcases t6 Xx hE 0 YJ with ⟨h3,h4⟩|⟨v1,v',j,h3,h4,h5⟩
     ·refine⟨_,pd (.plain_refl _ h2),?_⟩;unfold Instr.lookup;rw[aa4,aG hu];simp only[aa3,aa4,hg,cq,gc hk,hf _ _ h4,h1]
      try (cases ok <;> rfl)
     ·cases h3
    ·cases h
   ·cases h
  ·cases h
 ·cases h
end hp
section sl
variable {ν ν':Nu} {P:Program} {G N:Nat} {T T':Tr Value} {a:Act} {H:AH} {F:HL} {w:World}
def N7(x:Option Value)(n d:Nat):Prop:=(x=none /\ n=d) \/ ∃k,x=some (.int k (n:Int))
theorem rK{k:IntKind}{n y:Nat}{c:BoundsCode}(h:n <= y)(w:World):(Instr.sliceBound (.int k (n:Int)) y c).run P w=.ok n w:=by
 simp[Instr.sliceBound,asIntOf,h,go_sem]
theorem m9{b:Bool}{len cap l h m:Nat}{lo hi mx:Option Value}(o1:N7 lo l 0)(o2:N7 hi h len)(o3:N7 mx m cap)(hm:mx=none \/ hi≠none)(h1:l <= h)(h2:h <= m)(h3:m <= cap)(w:World) :
  (Instr.sliceBounds b len cap lo hi mx).run P w=.ok (l,h,m) w:=by
 unfold Instr.sliceBounds;rcases o1 with ⟨rfl,rfl⟩|⟨k1,rfl⟩ <;> rcases o2 with ⟨rfl,rfl⟩|⟨k2,rfl⟩ <;> rcases o3 with ⟨rfl,rfl⟩|⟨k3,rfl⟩ <;>
  first
   | (rcases hm with e|e <;> first|(cases e;done)|exact(e rfl).elim)
   | simp[aa4,rK,h1,h2,h3]
theorem j9{d n:Nat}{x:Option Operand}(g_:∀y,x=some y -> VRi ν (ael T y) (a.eval y))(h:vA T d x=some n):N7 (x.map a.eval) n d:=by
 cases x with
 | none=>rw[vA] at h;cases h;exact .inl ⟨rfl,rfl⟩
 | some y =>
  rw[vA] at h;obtain⟨k,e⟩:=m8 h (g_ y rfl);exact .inr ⟨k,by simp[e]⟩
theorem yo(h o m l k:Nat):Ci ⟨h,o,none⟩ m l k=⟨h,if m=l then o else o+l*k,none⟩:=by
 unfold Ci;split
 ·rename_i e;rw[if_pos (aa1 e)]
 ·rename_i e;rw[if_neg (λ e'=>by subst e';simp at e),og]
theorem yp(b o m l k:Nat):(if m=l then (⟨b,o,none⟩:Addr) else (⟨b,o,none⟩:Addr).add (l*k))=⟨b,if m=l then o else o+l*k,none⟩:=by
 split
 ·rfl
 ·rw[m6]
theorem bT{a b:Nat}(h:Nat.ble a b=true):a <= b:=aaJ h
theorem rL{k l h m c c':Nat}{base At:Option Addr}{n n':Nat}{v:Value}(hr:VRi ν (.slice base n c) (.slice At n' c'))(hc:c<lU)(hv:vB k base l h m c=some v) :
  l <= h /\ h <= m /\ m <= c /\ VRi ν v (.slice (if m=l then At else At.map (·.add (l*k))) (h-l) (m-l)):=by
 unfold vB at hv;split at hv
 case h_2=>cases hv
 rename_i h1 h2 h3;refine⟨bT h1,bT h2,bT h3,?_⟩;have h3':=bT h3;split at hv
 ·cases hv;cases hr;split <;> exact .atom _ rfl
 ·split at hv
  ·cases hv;cases hr with
   | atom _ h=>simp[cC] at h
   | @slice _ b _ _ _ o n hν hcap =>
    rw[yo];have:(if m=l then (some ⟨b,o,none⟩:Option Addr) else (some ⟨b,o,none⟩:Option Addr).map (·.add (l*k)))=some ⟨b,if m=l then o else o+l*k,none⟩:=by
     rw[<- yp];split <;> rfl
    rw[this];exact .slice _ _ hν ⟨λ _=>rfl,λ e=>by omega⟩
  ·cases hv
theorem EH{t:TypeId}{x:Value}{ρx:Value}{lo hi mx:Option Operand}{v:Value}(hH:HR ν H F w)(hx:VRi ν x ρx)(ZI:∀y,lo=some y -> VRi ν (ael T y) (a.eval y))(hhi:∀y,hi=some y -> VRi ν (ael T y) (a.eval y))(ZE:∀y,mx=some y -> VRi ν (ael T y) (a.eval y))
  (h:AC P t H T x lo hi mx=some v):∃v',VRi ν v v' /\ (Instr.sliceAt t ρx (lo.map a.eval) (hi.map a.eval) (mx.map a.eval)).run P w=.ok v' w:=by
 unfold AC at h;split at h
 ·cases h
 rename_i hmo;have ZF:(mx.map a.eval=none \/ hi.map a.eval≠none):=by
  unfold P6 at hmo;split at hmo
  ·cases hmo
  ·rename_i e;cases mx with
   | none=>exact .inl rfl
   | some m=>cases hi with
    | none=>exact(e _ rfl rfl).elim
    | some hh=>exact .inr (by simp)
 split at h
 ·rename_i el hu;split at h
  case h_2=>cases h
  rename_i base n c;split at h
  case h_2=>cases h
  rename_i k l hh hs hl hhn;have Q_:=eC hs w;have b1:=j9 ZI hl;have b2:=j9 hhi hhn;split at h
  ·rename_i hc;have Tb:=dT hc;split at h
   case h_2=>cases h
   rename_i m hm;have b3:=j9 ZE hm;have WC:∃At,ρx=.slice At n c /\ VRi ν (.slice base n c) (.slice At n c):=by
    cases hx with
    | atom _ h=>exact⟨_,rfl,.atom _ h⟩
    | slice o n hν hcap=>obtain rfl:=hcap.1 Tb;exact⟨_,rfl,.slice o n hν hcap⟩
   obtain⟨At,rfl,hr⟩:=WC;obtain⟨g1,g2,g3,g4⟩:=rL hr Tb h;refine⟨_,g4,?_⟩;unfold Instr.sliceAt;rw[aa4,aG hu];simp only[aa3];unfold Instr.slice;rw[aa4,aG hu];simp only[aa3];rw[aa4,m9 b1 b2 b3 ZF g1 g2 g3];simp only[aa3];rw[aa4,Q_];rfl
  ·rename_i hc;have Tb:lU <= c:=by
    rcases aaZ c lU with e|e
    ·have:Nat.blt c lU=true:=Nat.ble_eq_true_of_le e;rw[this] at hc;cases hc
    ·exact e
   split at h
   case h_2=>cases h
   rename_i ad mo TJ;cases hx with
   | atom _ h=>simp[cC] at h
   | @slice hd b K _ c' o n hν hcap =>
   have Tm:=hcap.2 Tb;unfold HO at h;split at h
   case h_2=>cases h
   rename_i nn tr ty ww ro VE hb;split at h
   case h_2=>cases h
   rename_i e1 e2 e3 e4;simp only at hb;obtain⟨cc,ty',fz,hw,VZ⟩:=hH.cells hb hν;have e1':ww=k:=aa1 e1;have e2':=dT e2;have e3':=bT e3;have e4':=bT e4;have D_:=VZ.gr (by omega);have hle:=VZ.le;have ZU:∀q,(c-lU+q)*ww <= nn -> q <= c':=λ q hq=>by
    have:(c-lU+q)*ww <= K*ww:=by omega
    have:=Nat.le_of_mul_le_mul_right this e2';omega
   have iD:∀ (m:Nat),N7 (mx.map a.eval) m c' -> hh <= m -> m <= c' -> (Instr.sliceAt t (.slice (some ⟨b,o,none⟩) n c') (lo.map a.eval) (hi.map a.eval) (mx.map a.eval)).run P w=.ok (.slice (some ⟨b,if m=l then o else o+l*k,none⟩) (hh-l) (m-l)) w:=λ m b3 g2 g3=>by
    unfold Instr.sliceAt;rw[aa4,aG hu];simp only[aa3];unfold Instr.slice;rw[aa4,aG hu];simp only[aa3];rw[aa4,m9 b1 b2 b3 ZF e3' g2 g3];simp only[aa3];rw[aa4,Q_];have:(if m=l then (some ⟨b,o,none⟩:Option Addr) else (some ⟨b,o,none⟩:Option Addr).map (·.add (l*k)))=some ⟨b,if m=l then o else o+l*k,none⟩:=by
     rw[<- yp];split <;> rfl
    simp only[aa3,this,cq]
   split at h
   ·have hmn:mx=none:=by
     unfold N4 at TJ;split at TJ
     ·rfl
     ·split at TJ <;> cases TJ
    subst hmn;have b3:N7 ((none:Option Operand).map a.eval) c' c':=.inl ⟨rfl,rfl⟩;split at h
    ·rename_i iF;have XV:=dT iF;cases h;have g:=ZU _ e4';refine⟨_,?_,iD c' b3 g (aaK _)⟩;rw[og,if_neg (by omega)];exact .slice _ _ hν ⟨λ e=>by omega,λ e=>by omega⟩
    ·rename_i YG;split at h
     ·cases h;have g:=ZU _ e4';have hh0:hh=0:=by
       rcases Nat.eq_zero_or_pos hh with e|e
       ·exact e
       ·have:Nat.blt 0 hh=true:=Nat.ble_eq_true_of_le e;rw[this] at YG;cases YG
      subst hh0;refine⟨_,?_,iD c' b3 g (aaK _)⟩;simp only[Nat.zero_mul,Nat.add_zero,ite_self,Nat.sub_zero];exact .slice _ _ hν hcap
     ·cases h
   ·rename_i m;split at h
    case h_2=>cases h
    rename_i q1 q2 q3;cases h;have hmn:∃y,mx=some y /\ Ki (ael T y)=some m:=by
     unfold N4 at TJ;split at TJ
     ·cases TJ
     ·rename_i y;split at TJ
      ·rename_i n' e';cases TJ;exact⟨y,rfl,e'⟩
      ·cases TJ
    obtain⟨y,rfl,ey⟩:=hmn;obtain⟨kk,ey'⟩:=m8 ey (ZE y rfl);have b3:N7 ((some y:Option Operand).map a.eval) m c':=.inr ⟨kk,by simp[ey']⟩;refine⟨_,?_,iD m b3 (bT q1) (ZU _ (bT q2))⟩;rw[yo];have:=dT q3;exact .slice _ _ hν ⟨λ _=>rfl,λ e=>by omega⟩
 ·rename_i n el hu;split at h
  case h_2=>cases h
  rename_i ad;split at h
  case h_2=>cases h
  rename_i k l hh m hs hl hhn hm;have Q_:=eC hs w;have b1:=j9 ZI hl;have b2:=j9 hhi hhn;have b3:=j9 ZE hm;split at h
  case h_2=>cases h
  rename_i hn;cases hx with
  | atom _ h=>simp[cC] at h
  | @ptr hd b K o hν =>
  obtain⟨g1,g2,g3,g4⟩:=rL (n:=0) (n':=0) (c':=n) (.slice o 0 hν ⟨λ _=>rfl,λ e=>by have:=dT hn;omega⟩:VRi ν (.slice (some ⟨hd,o,none⟩) 0 n) (.slice (some ⟨b,o,none⟩) 0 n)) (dT hn) h;refine⟨_,g4,?_⟩;unfold Instr.sliceAt;rw[aa4,aG hu];simp only[aa3];rw[aa4];simp only[Instr.sureAddr,cq,aa3];rw[aa4,m9 b1 b2 b3 ZF g1 g2 g3];simp only[aa3];rw[aa4,Q_];have:(if m=l then (some ⟨b,o,none⟩:Option Addr) else (some ⟨b,o,none⟩:Option Addr).map (·.add (l*k)))=some (if m=l then ⟨b,o,none⟩ else (⟨b,o,none⟩:Addr).add (l*k)):=by split <;> rfl
  rw[this];rfl
 ·cases h
theorem yq{o:Oper}{v:Value}(hH:HR ν H F w)(h:jB P o T H=some v){l:List Operand}(hl:cf o.op=some l)(g_:OK ν T a l):∃v',VRi ν v v' /\ (execOp a.eval o).run P w=.ok (.value v') w:=by
 have VI:=hl;unfold jB at h;split at h
 ·rename_i t x ho;rw[ho] at hl;simp only[cf,Option.some.injEq] at hl;subst hl;have hx:=g_ x (by simp);split at h
  ·rename_i ad e;rw[e] at hx;generalize hu:a.eval x=u at hx;have hx2:=hx;cases hx with
   | atom _ h=>simp[cC] at h
   | ptr o hν =>
    obtain⟨v',r,e2⟩:=yn hH hx2 h;refine⟨v',r,?_⟩;simp[execOp,ho,Instr.loadAt,Instr.sureAddr,hu,aa4,e2]
  ·cases h
 ·rename_i t m k ok ho;rw[ho] at hl;simp only[cf,Option.some.injEq] at hl;subst hl;obtain⟨hp,v',r,e⟩:=H8 hH (g_ m (by simp)) h;have hk:=(g_ k (by simp)).plain_eq hp;refine⟨v',r,?_⟩;simp[execOp,ho,hk,aa4,e]
 ·rename_i t x lo hi mx ho;split at h
  ·obtain⟨v',r,e⟩:=o9 h VI g_;exact⟨v',r,e w⟩
  ·rw[ho] at hl;simp only[cf,Option.some.injEq] at hl;subst hl;obtain⟨v',r,e⟩:=EH (a:=a) hH (g_ x (by simp)) (λ y hy=>g_ y (by subst hy;simp)) (λ y hy=>g_ y (by subst hy;simp)) (λ y hy=>g_ y (by subst hy;simp)) h;refine⟨v',r,?_⟩;simp[execOp,ho,aa4,e]
 ·cases h
end sl
section wr
variable {ν ν':Nu} {P:Program} {G N:Nat} {T T':Tr Value} {a:Act} {H H':AH} {F:HL} {w w':World}
theorem dL(H:AH)(h k:Nat)(b:Option AB):bX (cX H h b) k=if h=k then b else bX H k:=jb _ _ _
theorem HR.upd(hH:HR ν H F w){h r K:Nat}{b0 b1:AB}{o':Obj}(hb:bX H h=some b0)(hw0:H7 b0=true)(hw1:H7 b1=true)(hν:ν h=some (r,K))(hr:w'.heap[r]?=some o')(ho:OR ν K b1 o')(hs:∀k,k≠r -> w'.heap[k]?=w.heap[k]?):HR ν (cX H h (some b1)) F w':=by
 have r_:∀k b,bX (cX H h (some b1)) k=some b -> k≠h -> bX H k=some b:=λ k b hk AS=>by
  rw[dL,if_neg (Ne.symm AS)] at hk;exact hk
 have ex:∀k b,bX (cX H h (some b1)) k=some b -> ∃b',bX H k=some b' /\ (H7 b=true -> H7 b'=true):=λ k b hk=>by
  by_cases e:k=h
  ·subst e;exact⟨b0,hb,λ _=>hw0⟩
  ·exact⟨b,r_ k b hk e,λ e=>e⟩
 refine⟨λ k b hk=>?_,λ k1 k2 b1' b2' q K1 K2 h1 h2 h3 h4=>?_,λ x hx=>?_,λ k b q K' hk hq x hx=>?_⟩
 ·by_cases e:k=h
  ·subst e;rw[dL,if_pos rfl] at hk;cases hk;exact⟨r,K,o',hν,hr,ho⟩
  ·have VJ:=r_ k b hk e;obtain⟨q,K',o,h1,h2,h3⟩:=hH.blk k b VJ;refine⟨q,K',o,h1,?_,h3⟩;rw[hs q,h2];intro e';subst e';exact e (hH.inj _ _ _ _ _ _ _ VJ hb h1 hν)
 ·obtain⟨c1,d1,-⟩:=ex _ _ h1;obtain⟨c2,d2,-⟩:=ex _ _ h2;exact hH.inj _ _ _ _ _ _ _ d1 d2 h3 h4
 ·rw[hs _ (hH.apt _ _ _ _ hb hν x hx)];exact hH.frm x hx
 ·obtain⟨c1,d1,d2⟩:=ex _ _ hk;exact hH.apt _ _ _ _ d1 hq x hx
theorem HR.del(hH:HR ν H F w)(h:Nat):HR ν (cX H h none) F w:=by
 have r_:∀k b,bX (cX H h none) k=some b -> bX H k=some b:=λ k b hk=>by
  rw[dL] at hk;split at hk
  ·cases hk
  ·exact hk
 exact⟨λ k b hk=>hH.blk k b (r_ k b hk),λ k1 k2 b1 b2 q K1 K2 h1 h2 h3 h4=>hH.inj _ _ _ _ _ _ _ (r_ _ _ h1) (r_ _ _ h2) h3 h4,hH.frm,λ k b q K hk=>hH.apt k b q K (r_ k b hk)⟩
theorem HR.add(hH:HR ν H F w){n r K:Nat}{b:AB}{o:Obj}(hn:ν n=none)(hr:w.heap[r]?=some o)(ho:OR ν K b o)(hwb:H7 b=true)(hF:∀x∈F,x.1≠r)(Vs:∀k b' K',bX H k=some b' -> ν k≠some (r,K')):HR (ν.upd n r K) (cX H n (some b)) F w:=by
 have hle:ν.Le (ν.upd n r K):=j6 hn;have TC:bX H n=none:=by
  cases e:bX H n with
  | none=>rfl
  | some b'=>obtain⟨q,K',o',h1,-⟩:=hH.blk n b' e;rw[hn] at h1;cases h1
 have r_:∀k b',bX (cX H n (some b)) k=some b' -> k≠n -> bX H k=some b':=λ k b' hk AS=>by
  rw[dL,if_neg (Ne.symm AS)] at hk;exact hk
 refine⟨λ k b' hk=>?_,λ k1 k2 b1 b2 q K1 K2 h1 h2 h3 h4=>?_,hH.frm,λ k b' q K' hk hq x hx=>?_⟩
 ·by_cases e:k=n
  ·subst e;rw[dL,if_pos rfl] at hk;cases hk;exact⟨r,K,o,cm,hr,ho.mono hle⟩
  ·obtain⟨q,K',o',h1,h2,h3⟩:=hH.blk k b' (r_ k b' hk e);exact⟨q,K',o',hle _ _ h1,h2,h3.mono hle⟩
 ·by_cases e1:k1=n
  ·by_cases e2:k2=n
   ·rw[e1,e2]
   ·subst e1;rw[cm] at h3;rw[eR e2] at h4;cases h3;exact(Vs _ _ _ (r_ _ _ h2 e2) h4).elim
  ·by_cases e2:k2=n
   ·subst e2;rw[cm] at h4;rw[eR e1] at h3;cases h4;exact(Vs _ _ _ (r_ _ _ h1 e1) h3).elim
   ·rw[eR e1] at h3;rw[eR e2] at h4;exact hH.inj _ _ _ _ _ _ _ (r_ _ _ h1 e1) (r_ _ _ h2 e2) h3 h4
 ·by_cases e:k=n
  ·subst e;rw[cm] at hq;cases hq;exact hF x hx
  ·rw[eR e] at hq;exact hH.apt _ _ _ _ (r_ _ _ hk e) hq x hx
theorem HR.world(hH:HR ν H F w)(hs:∀k,k<w.heap.size -> w'.heap[k]?=w.heap[k]?):HR ν H F w':=by
 refine⟨λ k b hk=>?_,hH.inj,λ x hx=>?_,hH.apt⟩
 ·obtain⟨q,K',o',h1,h2,h3⟩:=hH.blk k b hk;exact⟨q,K',o',h1,by rw[hs _ (cF h2)];exact h2,h3⟩
 ·have:=hH.frm x hx;rw[hs _ (cF this)];exact this
theorem HR.new(hH:HR ν H F w){n K:Nat}{b:AB}{o:Obj}(hn:ν n=none)(ho:OR ν K b o)(hwb:H7 b=true)(hw:w'.heap=w.heap.push o):HR (ν.upd n w.heap.size K) (cX H n (some b)) F w':=by
 have h1:HR ν H F w':=hH.world (λ k hk=>by rw[hw,Array.getElem?_push,if_neg (by omega)]);refine h1.add hn (by rw[hw];simp) ho hwb (λ x hx e=>?_) (λ k b' K' hk e=>?_)
 ·have:=cF (hH.frm x hx);omega
 ·have:=hH.lt hk e;omega
theorem lD{l:List Value}{i:Nat}(h:i<l.length):cY (dS undef l 0 .lf) i=l[i]:=by
 unfold cY;rw[qz];simp[h]
theorem t8(l:List Value)(ty:TypeId):jM l ty=.cells l.length (dS undef l 0 .lf) ty 0 false:=by
 unfold jM;split <;> rename_i h <;> rw[h,ew]
theorem kc(l:List Value)(ty:TypeId)(k:Nat):vD l ty k=.cells l.length (dS undef l 0 .lf) ty k false:=by
 unfold vD;split <;> rename_i h <;> rw[h,ew]
theorem MM{l l' rest:List Value}{ty:TypeId}{ww K:Nat}(h:LR ν l l')(hk:ww≠0 -> (l'++rest).length=K*ww):CR ν K l.length (dS undef l 0 .lf) ty ww ⟨l'++rest⟩ ty (0,0):=by
 refine⟨rfl,by simp[h.length],rfl,λ i hi=>?_,λ e=>by simpa using hk e⟩;obtain⟨v',e,r⟩:=h.get (aaT hi);refine⟨v',?_,by rw[lD hi];exact r⟩;have:(l'++rest)[i]?=some v':=by rw[aaU (by rw[h.length];exact hi)];exact e
 simpa using this
theorem OR.cellsB{l l':List Value}{ty:TypeId}{K:Nat}(h:LR ν l l'):OR ν K (jM l ty) (.cells ⟨l'⟩ ty (0,0)):=by
 rw[t8];have:=MM (ty:=ty) (ww:=0) (K:=K) (rest:=[]) h (λ e=>(e rfl).elim);have h2:CR ν K l.length (dS undef l 0 .lf) ty 0 ⟨l'⟩ ty (0,0):=by simpa using this
 exact h2
theorem kF(l:List Value)(ty:TypeId):H7 (jM l ty)=true:=by rw[t8];rfl
theorem rM(t:Tr Value):∀ (vs:List Value) (i j:Nat),cY (kw t i vs) j=if h:i <= j /\ j-i<vs.length then vs[j-i] else cY t j:=by
 intro vs
 induction vs generalizing t with
 | nil=>intro i j;simp[kw]
 | cons v vs ih =>
  intro i j;rw[kw,ih];have cX:cY (sM t i v) j=if i=j then v else cY t j:=jb _ _ _
  by_cases h1:i=j
  ·subst h1;have:¬ (i+1 <= i /\ i-(i+1)<vs.length):=by omega
   rw[dif_neg this,cX,if_pos rfl];simp
  ·by_cases h2:i <= j
   ·have h4:j-i=(j-(i+1))+1:=by omega
    by_cases h3:j-(i+1)<vs.length
    ·rw[dif_pos ⟨by omega,h3⟩,dif_pos ⟨h2,by rw[aaS];omega⟩];simp only[h4,List.getElem_cons_succ]
    ·rw[dif_neg (by omega),dif_neg (by rw[aaS];omega),cX,if_neg h1]
   ·rw[dif_neg (by omega),dif_neg (by omega),cX,if_neg h1]
theorem ia(b:Nat):∀ (vs:List Value) (o:Nat) (w:World) (k:Nat),k≠b -> (w.setCells b o vs).heap[k]?=w.heap[k]?
 | [],_,_,_,_=>rfl
 | v::vs,o,w,k,h=>by rw[World.setCells,ia b vs _ _ _ h,Below.heap_setCell _ _ _ _ h]
theorem ie(b:Nat):∀ (vs:List Value) (o:Nat) (w:World),Below 0 w (w.setCells b o vs)
 | [],_,w=>Below.refl 0 w
 | v::vs,o,w=>by
  rw[World.setCells];exact((Below.refl 0 w).setCell (aaL _) v).trans (ie b vs (o+1) _)
theorem lE(b:Nat):∀ (vs:List Value) (o:Nat) (w:World) {c:Array Value} {ty:TypeId} {fz:Nat × Nat},w.heap[b]?=some (.cells c ty fz) -> ∃c',(w.setCells b o vs).heap[b]?=some (.cells c' ty fz) /\ c'.size=c.size /\ ∀j,j<c.size -> c'[j]?=if h:o <= j /\ j-o<vs.length then some vs[j-o] else c[j]?
 | [],o,w,c,ty,fz,h=>⟨c,h,rfl,λ j _=>by simp⟩
 | v::vs,o,w,c,ty,fz,h=>by
  have h1:(w.setCell ⟨b,o,none⟩ v).heap[b]?=some (.cells (c.setIfInBounds o v) ty fz):=by
   simp[World.setCell,Array.getElem?_modify,h]
  obtain⟨c',e1,e2,e3⟩:=lE b vs (o+1) _ h1;refine⟨c',e1,by simpa using e2,λ j hj=>?_⟩;rw[e3 j (by simpa using hj)]
  by_cases h2:o=j
  ·subst h2;rw[dif_neg (by omega),dif_pos ⟨aaK _,by simp⟩,Array.getElem?_setIfInBounds_self_of_lt hj];simp
  ·rw[Array.getElem?_setIfInBounds_ne h2]
   by_cases h3:o <= j
   ·have h4:j-o=(j-(o+1))+1:=by omega
    by_cases h5:j-(o+1)<vs.length
    ·rw[dif_pos ⟨by omega,h5⟩,dif_pos ⟨h3,by rw[aaS];omega⟩];simp only[h4,List.getElem_cons_succ]
    ·rw[dif_neg (by omega),dif_neg (by rw[aaS];omega)]
   ·rw[dif_neg (by omega),dif_neg (by omega)]
theorem AQ{v:Value}{l:List Value}(hf:j0 (v::l)=true):(∀cs,v≠Value.agg cs) /\ (∀cs,v≠Value.tuple cs) /\ j0 l=true:=by
 cases v <;> simp[j0] at hf <;> simp[hf]
theorem ua{vs IS:List Value}(h:LR ν vs IS)(hf:j0 vs=true):∀u∈IS,u.oneCell'=true:=by
 induction h with
 | nil=>intro u hu;cases hu
 | cons hv _ ih =>
  intro u hu;obtain⟨h1,h2,h3⟩:=AQ hf;rcases List.mem_cons.1 hu with rfl|hu
  ·cases hv <;> first|rfl|exact(h1 _ rfl).elim|exact(h2 _ rfl).elim|skip
   rename_i v0 _ _ _ e;cases v0 <;> first|rfl|simp[cC] at e
  ·exact ih h3 u hu
theorem pf{h o b K:Nat}{vs IS:List Value}(hH:HR ν H F w)(hν:ν h=some (b,K))(hl:LR ν vs IS)(hp:o0 H ⟨h,o,none⟩ vs=some H') :
  (∀j,j<IS.length -> (w.cell? ⟨b,o+j,none⟩).isSome=true) /\ (∀j,j<IS.length -> w.frozen? ⟨b,o+j,none⟩=false) /\ (∀u∈IS,u.oneCell'=true) /\ HR ν H' F (w.setCells b o IS) /\ Below 0 w (w.setCells b o IS):=by
 unfold o0 at hp;split at hp
 case h_2=>cases hp
 rename_i n tr ty ww hs hb;split at hp
 case h_2=>cases hp
 rename_i hle hf;cases hp;simp only at hb;obtain⟨c,ty',fz,hw,hc⟩:=hH.cells hb hν;have XW:=bT hle;rw[ew] at XW;simp only at XW;have hlen:=hl.length;have hcs:=hc.le;refine⟨λ j hj=>?_,λ j hj=>?_,ua hl hf,?_,ie _ _ _ _⟩
 ·rw[lW hw,Array.getElem?_eq_getElem (by omega)];rfl
 ·obtain⟨lo,hi⟩:=fz;have:=hc.fz;cases this;simp[World.frozen?,hw]
 ·obtain⟨c',e1,e2,e3⟩:=lE b IS o w hw;refine hH.upd (b1:=.cells n (kw tr o vs) ty ww false) hb rfl rfl hν e1 ?_ (λ k hk=>ia b IS o w k hk);refine⟨hc.ty,by rw[e2];exact hcs,hc.fz,λ i hi=>?_,λ e=>by rw[e2];exact hc.gr e⟩;rw[e3 i (by omega),rM]
  by_cases h1:o <= i /\ i-o<vs.length
  ·obtain⟨v',g1,g2⟩:=hl.get (aaT h1.2);rw[dif_pos h1,dif_pos ⟨h1.1,by rw[hlen];exact h1.2⟩];refine⟨v',?_,g2⟩;rw[<- g1,aaT]
  ·rw[dif_neg h1,dif_neg (by rw[hlen];exact h1)];exact hc.get i hi
theorem EI{t:TypeId}{ad ad':Addr}{v v':Value}(hH:HR ν H F w)(hp:VRi ν (.pointer (some ad)) (.pointer (some ad')))(hv:VRi ν v v')(h:vC P t H ad v=some H'):∃w',(storeVar t ad' v').run P w=.ok () w' /\ HR ν H' F w' /\ Below 0 w w':=by
 cases hp with
 | atom _ h=>simp[cC] at h
 | @ptr hd b K o hν =>
  unfold vC at h;split at h
  case h_2=>cases h
  rename_i k hk;split at h
  case h_2=>cases h
  rename_i hl;have VZ:=kB hv;obtain⟨h1,h2,h3,h4,h5⟩:=pf hH hν VZ h;refine⟨_,?_,h4,h5⟩;have D_:v'.cells.size=k:=by
   have e1:=aa1 hl;rw[ew,<- VZ.length,gA] at e1;simpa using e1
  unfold storeVar;rw[aa4,eC hk];simp only[aa3,D_,ne_eq,not_true_eq_false,if_false];have:=run_storeCells_cells (P:=P) b o (hO v') 0 w (by simpa using h1) (by simpa using h2) h3;rw[gA] at this;rw[<- gA] at *;simpa [aa4,cq] using this
end wr
end Go.Proofs.YtdppjkjbghbnjaaGreatDoor
