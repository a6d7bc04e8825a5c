import Derived.Test.YtdppjkjbghbnjaaGreatDoorZ11
set_option maxHeartbeats 4000000
set_option maxRecDepth 100000
set_option linter.all false
namespace Go.Proofs.YtdppjkjbghbnjaaGreatDoor
open Go.RowKit
section fr
variable {ν ν':Nu} {P:Program} {G N:Nat} {T T':Tr Value} {a:Act}
theorem HZ{t:TypeId}{u v u' v':Value}{r:Bool}(h:HH u v=some r)(ht:K6 P t u=true)(hu:VRi ν u u')(hv:VRi ν v v')(w:World):(Op.equal t u' v').run P w=.ok r w:=by
 show (Op.equalIn 10000 t u' v').run P w=_;rw[show (10000:Nat)=9999+1 from rfl,Op.equalIn.eq_def];simp only;unfold HH at h;split at h <;> first|(cases h;done)|skip
 all_goals
  cases h;unfold K6 at ht;split at ht <;> first|(cases ht;done)|skip
  rename_i hd;rw[aaZ,aF hd];simp only[aaY];cases hu <;> cases hv <;> first|rfl|(rename_i e;cases e;done)|(rename_i e1 e2;cases e1;done)|(rename_i e1 e2;cases e2;done)
theorem vE{w:World}{ρ:Operand -> Value}{o:Oper}{t el:TypeId}{x i:Operand}{b off n c j sz:Nat}{k:IntKind}(ho:o.op=.indexAddr t x i)(hx:ρ x=.slice (some ⟨b,off,none⟩) n c)(hi:ρ i=.int k (j:Int))(ht:P.underlying t=some (.slice el))(hj:j<n)(hs:fh P el=some sz) :
  (execOp ρ o).run P w=.ok (.value (.pointer (some ⟨b,off+j*sz,none⟩))) w:=by
 have h1:=λ W=>aF ht W;have h2:=λ W=>eC hs W;have h3:(0:Int) <= (j:Int) /\ (j:Int)<(n:Int):=⟨by omega,by omega⟩;simp[execOp,ho,Instr.indexAt,hx,hi,asIntOf,aaZ,h1,h2,hj,m8]
theorem AP{w:World}{ρ:Operand -> Value}{o:Oper}{t el:TypeId}{x i:Operand}{b off n j sz:Nat}{k:IntKind}(ho:o.op=.indexAddr t x i)(hx:ρ x=.pointer (some ⟨b,off,none⟩))(hi:ρ i=.int k (j:Int))(ht:P.underlying t=some (.array n el))(hj:j<n)(hs:fh P el=some sz) :
  (execOp ρ o).run P w=.ok (.value (.pointer (some ⟨b,off+j*sz,none⟩))) w:=by
 have h1:=λ W=>aF ht W;have h2:=λ W=>eC hs W;simp[execOp,ho,Instr.indexAt,Instr.sureAddr,hx,hi,asIntOf,aaZ,h1,h2,hj,m8]
theorem AQ{w:World}{ρ:Operand -> Value}{o:Oper}{t el:TypeId}{x i:Operand}{cs:Array Value}{n j sz:Nat}{k:IntKind}{v:Value}(ho:o.op=.index t x i)(hx:ρ x=.agg cs)(hi:ρ i=.int k (j:Int))(ht:P.underlying t=some (.array n el))(hj:j<n)(hs:fh P el=some sz)(hp:nW P el cs.toList (j*sz)=some v) :
  (execOp ρ o).run P w=.ok (.value v) w:=by
 have h1:=λ W=>aF ht W;have h2:=λ W=>eC hs W;have h3:=t6 hp;simp[execOp,ho,Instr.index,hx,hi,asIntOf,aaZ,h1,h2,h3,hj]
theorem H3{w:World}{ρ:Operand -> Value}{o:Oper}{t:TypeId}{x:Operand}{n:Nat}(ho:o.op=.call { callee:=.builtin .len,args:=#[x],argTypes:=#[t] })(hl:AD P t (ρ x)=some n):(execOp ρ o).run P w=.ok (.value (.int .i64 (n:Int))) w:=by
 unfold AD at hl;split at hl
 case h_3=>cases hl
 all_goals
  rename_i hu hx;cases hl;have h1:=λ W=>aF hu W;simp[execOp,ho,resolve,invoke,builtin,Builtin.len_,hx,aaZ,h1,goInt]
theorem H4{t:TypeId}{v v':Value}{n:Nat}(hr:VRi ν v v')(h:AD P t v=some n):AD P t v'=some n:=by
 cases hr with
 | atom v _=>exact h
 | slice o n h1 c =>
  unfold AD at h ⊢;cases hu:P.underlying t with
  | none=>simp[hu] at h
  | some d=>rw[hu] at h;cases d <;> simp at h ⊢;exact h
 | _ =>
  unfold AD at h;cases hu:P.underlying t with
  | none=>simp[hu] at h
  | some d=>rw[hu] at h;cases d <;> simp at h
theorem yq{w:World}{ρ:Operand -> Value}{o:Oper}{op:BinOp}{t ty:TypeId}{x y:Operand}{u v:Value}{r:Bool}(ho:o.op=.binOp op t x y ty)(hx:VRi ν u (ρ x))(hy:VRi ν v (ρ y))(hr:HH u v=some r)(ht:K6 P t u=true) :
  (op=.eql -> (execOp ρ o).run P w=.ok (.value (.bool r)) w) /\ (op=.neq -> (execOp ρ o).run P w=.ok (.value (.bool (!r))) w):=by
 have q:=HZ hr ht hx hy w;generalize hu:ρ x=u' at *;generalize hv:ρ y=v' at *;unfold HH at hr;split at hr <;> first|(cases hr;done)|skip
 all_goals
  cases hx <;> cases hy <;> refine⟨λ e=>?_,λ e=>?_⟩ <;> subst e <;> simp[execOp,ho,hu,hv,eqGuard,Go.binOp,aaZ,q,cD,Result.andThen]
theorem yr{o:Oper}{v:Value}(h:gQ P o T=some v){l:List Operand}(hl:cm o.op=some l)(iD:OK ν T a l):∃v',VRi ν v v' /\ ∀w,(execOp a.eval o).run P w=.ok (.value v') w:=by
 have hpl:gu P T o=some v -> ∃v',VRi ν v v' /\ ∀w,(execOp a.eval o).run P w=.ok (.value v') w:=λ h=>oW h hl iD;unfold gQ at h;split at h
 ·rename_i x ho;rw[ho] at hl;simp only[cm,Option.some.injEq] at hl;subst hl;cases h;exact⟨_,iD x (by simp),λ w=>by simp[execOp,ho,pure,Sem.run]⟩
 ·rename_i x ho;rw[ho] at hl;simp only[cm,Option.some.injEq] at hl;subst hl;cases h;exact⟨_,iD x (by simp),λ w=>by simp[execOp,ho,pure,Sem.run]⟩
 ·rename_i c x y ho;rw[ho] at hl;simp only[cm,Option.some.injEq] at hl;subst hl;have hc:=iD c (by simp);split at h
  ·rename_i e;cases h;rw[e] at hc;have e':=hc.plain_eq rfl;exact⟨_,iD x (by simp),λ w=>by simp[execOp,ho,e',asBool,aaZ,pure,Sem.run,Result.andThen]⟩
  ·rename_i e;cases h;rw[e] at hc;have e':=hc.plain_eq rfl;exact⟨_,iD y (by simp),λ w=>by simp[execOp,ho,e',asBool,aaZ,pure,Sem.run,Result.andThen]⟩
  ·cases h
 ·rename_i t parts ho;rw[ho] at hl;simp only[cm,Option.some.injEq] at hl;subst hl;obtain⟨v',r,e⟩:=EE h (rI iD);refine⟨v',r,λ w=>?_⟩;have:=e w;have e2:(parts.map λ (p:Nat × Operand)=>(p.1,a.eval p.2))=⟨parts.toList.map λ p=>(p.1,a.eval p.2)⟩:=by apply Array.ext';simp
  simp only[execOp,ho,aaZ];rw[e2,this];rfl
 ·rename_i x ho;rw[ho] at hl;simp only[cm,Option.some.injEq] at hl;subst hl;have hx:=iD x (by simp);split at h
  ·rename_i ad e;cases h;rw[e] at hx;refine⟨_,hx,λ w=>?_⟩;generalize hu:a.eval x=u at hx;cases hx with
   | atom _ h=>simp[cI] at h
   | ptr o h=>simp[execOp,ho,hu,pure,Sem.run,bind,Sem.bind]
  ·rename_i f first captured e
   cases h;rw[e] at hx;refine⟨_,hx,λ w=>?_⟩;generalize hu:a.eval x=u at hx;cases hx with
   | atom _ h=>simp[cI] at h
   | func hf _ _ _ _=>cases hf;simp[execOp,ho,hu,pure,Sem.run,bind,Sem.bind]
  ·rename_i t v e;cases h;rw[e] at hx;refine⟨_,hx,λ w=>?_⟩;generalize hu:a.eval x=u at hx;cases hx with
   | atom _ h=>simp[cI] at h
   | iface t hf=>simp[execOp,ho,hu,pure,Sem.run,bind,Sem.bind]
  ·cases h
 ·rename_i op t x y ty ho;have hx:=iD x (by rw[ho] at hl;simp only[cm,Option.some.injEq] at hl;subst hl;simp);have hy:=iD y (by rw[ho] at hl;simp only[cm,Option.some.injEq] at hl;subst hl;simp);split at h
  ·rename_i k m k' n ex ey;rw[ex] at hx;rw[ey] at hy;have ex':=hx.plain_eq rfl;have ey':=hy.plain_eq rfl;split at h
   ·rename_i r hr;split at h
    ·rename_i hk;cases h;have UF:k=k':=aa0 hk;subst UF;exact⟨_,.atom _ rfl,λ w=>HY ho ex' ey' hr⟩
    ·cases h
   ·exact hpl h
  ·split at h
   ·rename_i r hr;split at h
    ·rename_i ht;cases h;exact⟨_,.atom _ rfl,λ w=>(yq ho hx hy hr ht).1 rfl⟩
    ·rename_i ht;cases h;exact⟨_,.atom _ rfl,λ w=>(yq ho hx hy hr ht).2 rfl⟩
    ·cases h
   ·exact hpl h
 ·rename_i t x ho;rw[ho] at hl;simp only[cm,Option.some.injEq] at hl;subst hl;have hx:=iD x (by simp);split at h
  ·cases h
  ·rename_i d hd hu;cases h;refine⟨_,.iface t hx,λ w=>?_⟩;simp only[execOp,ho,Instr.makeInterface,aaZ,aF hu,aaY];cases d <;> first|rfl|exact(hd _ hu).elim
  ·cases h
 ·rename_i fn first captured ho
  rw[ho] at hl;simp only[cm,Option.some.injEq] at hl;subst hl;split at h
  ·rename_i f;cases h;have h1:=ly (ν:=ν) (T:=T) (a:=a) (l:=first.toList) (λ x hx=>iD x (aax _ hx));have h2:=ly (ν:=ν) (T:=T) (a:=a) (l:=captured.toList) (λ x hx=>iD x (aav _ hx));have e1:first.map a.eval=⟨first.toList.map a.eval⟩:=by apply Array.ext';simp
   have e2:captured.map a.eval=⟨captured.toList.map a.eval⟩:=by apply Array.ext';simp
   refine⟨.func (.func f) (first.map a.eval) (captured.map a.eval),by rw[e1,e2];exact .func_of (.func f) h1 h2,λ w=>?_⟩;simp[execOp,ho,Instr.makeFunc,pure,Sem.run,bind,Sem.bind]
  ·cases h
 ·rename_i t x j ho;rw[ho] at hl;simp only[cm,Option.some.injEq] at hl;subst hl;have hx:=iD x (by simp);split at h
  ·rename_i ad k ft e hf;cases h;rw[e] at hx;generalize hu:a.eval x=u at hx;cases hx with
   | atom _ h=>simp[cI] at h
   | ptr o h =>
    refine⟨_,?_,λ w=>AM ho hu hf⟩;rw[nY,m8];exact .ptr _ h
  ·cases h
 ·rename_i t x j ho;rw[ho] at hl;simp only[cm,Option.some.injEq] at hl;subst hl;have hx:=iD x (by simp);split at h
  ·rename_i cs k ft e hf;rw[e] at hx;generalize hu:a.eval x=u at hx;cases hx with
   | atom _ h=>simp[cI] at h
   | agg he hg =>
    obtain⟨v',e1,r⟩:=t7 (LR.of_arr he hg) h;exact⟨v',r,λ w=>AO ho hu hf e1⟩
  ·cases h
 ·rename_i t x i ho;rw[ho] at hl;simp only[cm,Option.some.injEq] at hl;subst hl;have hx:=iD x (by simp);have hi:=iD i (by simp);split at h
  ·rename_i el ad n c j ht e ei;split at h
   ·rename_i k hj hs;cases h;rw[e] at hx;obtain⟨kk,ej⟩:=m9 ei hi;generalize hu:a.eval x=u at hx;cases hx with
    | atom _ h=>simp[cI] at h
    | slice o n h hc =>
     refine⟨_,?_,λ w=>vE ho hu ej ht (dS hj) hs⟩;rw[nY];exact .ptr _ h
   ·cases h
  ·rename_i n el ad j ht e ei;split at h
   ·rename_i k hj hs;cases h;rw[e] at hx;obtain⟨kk,ej⟩:=m9 ei hi;generalize hu:a.eval x=u at hx;cases hx with
    | atom _ h=>simp[cI] at h
    | ptr o h =>
     refine⟨_,?_,λ w=>AP ho hu ej ht (dS hj) hs⟩;rw[nY];exact .ptr _ h
   ·cases h
  ·cases h
 ·rename_i t x i ho;have hx:=iD x (by rw[ho] at hl;simp only[cm,Option.some.injEq] at hl;subst hl;simp);have hi:=iD i (by rw[ho] at hl;simp only[cm,Option.some.injEq] at hl;subst hl;simp);split at h
  ·rename_i n el cs j ht e ei;split at h
   ·rename_i k hj hs;rw[e] at hx;obtain⟨kk,ej⟩:=m9 ei hi;generalize hu:a.eval x=u at hx;cases hx with
    | atom _ h=>simp[cI] at h
    | agg he hg =>
     obtain⟨v',e1,r⟩:=t7 (LR.of_arr he hg) h;exact⟨v',r,λ w=>AQ ho hu ej ht (dS hj) hs e1⟩
   ·cases h
  ·exact hpl h
 ·rename_i x i ho;rw[ho] at hl;simp only[cm,Option.some.injEq] at hl;subst hl;have hx:=iD x (by simp);split at h
  ·rename_i cs e;rw[e] at hx;generalize hu:a.eval x=u at hx;cases hx with
   | atom _ h=>simp[cI] at h
   | @tuple _ c' he hg =>
    rw[ky] at h;obtain⟨v',e1,r⟩:=(LR.of_arr he hg).get h;refine⟨v',r,λ w=>?_⟩;have e2:c'[i]?=some v':=by simpa using e1
    simp[execOp,ho,hu,Instr.extract,e2,aaZ,cD,Result.andThen]
  ·cases h
 ·rename_i c ho;split at h
  ·rename_i x t hq;unfold NM at hq;split at hq
   case h_2=>cases hq
   rename_i y u;have hyx:y=x /\ u=t:=by
    split at hq <;> first|(cases hq;exact⟨rfl,rfl⟩)|cases hq
   obtain⟨rfl,rfl⟩:=hyx;have hx:=iD y (by rw[ho] at hl;simp only[cm,Option.some.injEq] at hl;subst hl;simp);split at h
   ·rename_i n hn;cases h;exact⟨_,.atom _ rfl,λ w=>H3 ho (H4 hx hn)⟩
   ·cases h
  ·exact hpl h
 ·exact hpl h
end fr
inductive ER(ν:Nu):List (Value × Value × Nat) -> List MapEntry -> Prop
 | nil:ER ν [] []
 | cons {v v':Value} {l:List (Value × Value × Nat)} {l':List MapEntry} (k:Value) (b:Nat):VRi ν v v' -> ER ν l l' -> ER ν ((k,v,b)::l) (⟨k,v',b⟩::l')
structure CR(ν:Nu)(K n:Nat)(t:Tr Value)(ty:TypeId)(w:Nat)(c:Array Value)(ty':TypeId)(fz:Nat × Nat):Prop where
 ty:ty'=ty
 le:n <= c.size
 fz:fz=(0,0)
 get:∀i,i<n -> ∃v',c[i]?=some v' /\ VRi ν (cY t i) v'
 gr:w≠0 -> c.size=K*w
def OR(ν:Nu)(K:Nat):AB -> Obj -> Prop
 | .cells n t ty w _,.cells c ty' fz=>CR ν K n t ty w c ty' fz
 | .map es clock,.map SH aaB=>aaB=clock /\ ER ν es SH.toList
 | .loop st pend T N ps aZz bo d,.loop r=>r.state=st /\ r.pending=pend /\ TRel ν N T r.tmps /\ r.params=ps /\ r.assign=aZz /\ r.body=bo /\ ∃K',ν d=some (r.defers,K')
 | .dfr shut,.deferred c=>c=(match shut with|true=>none|false=>some [])
 | _,_=>False
def H5:AB -> Bool
 | .cells _ _ _ _ ro=>!ro
 | _=>true
structure HR(ν:Nu)(H:AH)(F:HL)(w:World):Prop where
 blk:∀h b,b7 H h=some b -> ∃r K o,ν h=some (r,K) /\ w.heap[r]?=some o /\ OR ν K b o
 inj:∀h₁ h₂ b₁ b₂ r K₁ K₂,b7 H h₁=some b₁ -> b7 H h₂=some b₂ -> ν h₁=some (r,K₁) -> ν h₂=some (r,K₂) -> h₁=h₂
 frm:∀x∈F,w.heap[x.1]?=some x.2.den
 apt:∀h b r K,b7 H h=some b -> ν h=some (r,K) -> ∀x∈F,x.1≠r
section hp
variable {ν ν':Nu} {P:Program} {G N:Nat} {T T':Tr Value} {a:Act} {H:AH} {F:HL} {w:World}
theorem ER.mono{l:List (Value × Value × Nat)}{l':List MapEntry}(h:ER ν l l')(hl:ν.Le ν'):ER ν' l l':=by
 induction h with
 | nil=>exact .nil
 | cons k b hv _ ih=>exact .cons k b (hv.mono hl) ih
theorem OR.mono{K:Nat}{b:AB}{o:Obj}(h:OR ν K b o)(hl:ν.Le ν'):OR ν' K b o:=by
 unfold OR at h ⊢;split at h
 ·exact⟨h.ty,h.le,h.fz,λ i hi=>let ⟨v',e,r⟩:=h.get i hi;⟨v',e,r.mono hl⟩,h.gr⟩
 ·exact⟨h.1,h.2.mono hl⟩
 ·obtain⟨h1,h2,h3,h4,h5,h6,K',h7⟩:=h;exact⟨h1,h2,h3.mono hl,h4,h5,h6,K',hl _ _ h7⟩
 ·exact h
 ·exact h.elim
theorem HR.lt(h:HR ν H F w){k r K:Nat}{b:AB}(hk:b7 H k=some b)(hr:ν k=some (r,K)):r<w.heap.size:=by
 obtain⟨r',K',o,h1,h2,-⟩:=h.blk k b hk;rw[hr] at h1;cases h1;exact cr h2
theorem HR.cells(h:HR ν H F w){k n ww:Nat}{t:Tr Value}{ty:TypeId}{ro:Bool}{r K:Nat}(hk:b7 H k=some (.cells n t ty ww ro))(hr:ν k=some (r,K)):∃c ty' fz,w.heap[r]?=some (.cells c ty' fz) /\ CR ν K n t ty ww c ty' fz:=by
 obtain⟨r',K',o,h1,h2,h3⟩:=h.blk _ _ hk;rw[hr] at h1;cases h1;unfold OR at h3;split at h3
 ·rename_i e1;cases e1;exact⟨_,_,_,h2,h3⟩
 ·rename_i e1;cases e1
 ·rename_i e1;cases e1
 ·rename_i e1;cases e1
 ·exact h3.elim
theorem HR.map(h:HR ν H F w){k cl:Nat}{es:List (Value × Value × Nat)}{r K:Nat}(hk:b7 H k=some (.map es cl))(hr:ν k=some (r,K)):∃SH,w.heap[r]?=some (.map SH cl) /\ ER ν es SH.toList:=by
 obtain⟨r',K',o,h1,h2,h3⟩:=h.blk _ _ hk;rw[hr] at h1;cases h1;unfold OR at h3;split at h3
 ·rename_i e1;cases e1
 ·rename_i e1;cases e1;obtain⟨e,h4⟩:=h3;subst e;exact⟨_,h2,h4⟩
 ·rename_i e1;cases e1
 ·rename_i e1;cases e1
 ·exact h3.elim
theorem lW{c:Array Value}{ty:TypeId}{fz:Nat × Nat}{b i:Nat}(h:w.heap[b]?=some (.cells c ty fz)):w.cell? ⟨b,i,none⟩=c[i]?:=by
 simp[World.cell?,h]
theorem j6{c:Array Value}{n:Nat}{t:Tr Value}(hle:n <= c.size)(hg:∀i,i<n -> ∃v',c[i]?=some v' /\ VRi ν (cY t i) v'):∀ (k i:Nat),i+k <= n -> LR ν (gR t i k) ((c.toList.drop i).take k)
 | 0,i,_=>by simp only[gR,List.take_zero];exact .nil
 | k+1,i,h=>by
  obtain⟨v',e,r⟩:=hg i (by omega);have iN:i<c.toList.length:=by simp;omega
  rw[List.drop_eq_getElem_cons iN,List.take_succ_cons];have:c.toList[i]=v':=by
   have:=(Array.getElem?_eq_some_iff.1 e).2;simpa using this
  rw[this];exact .cons r (j6 hle hg k (i+1) (by omega))
theorem mI{b off:Nat}:∀ (vs:List Value) (i:Nat) (acc:Array Value),(∀j (hj:j<vs.length),w.cell? ⟨b,off+(i+j),none⟩=some vs[j]) -> (loadCellsFrom ⟨b,off,none⟩ i vs.length acc).run P w=.ok (acc++⟨vs⟩) w
 | [],i,acc,_=>by simp[loadCellsFrom,cD]
 | v::vs,i,acc,h=>by
  rw[aaN,loadCellsFrom,aaZ];have h0:=h 0 (by simp);simp only[Nat.add_zero,List.getElem_cons_zero] at h0;have h1:(load ((⟨b,off,none⟩:Addr).add i)).run P w=.ok v w:=by
   rw[m8];unfold load;rw[Sem.run,h0];rfl
  rw[h1];simp only[aaY];rw[mI vs (i+1) _ (λ j hj=>by
   have:=h (j+1) (by simp;omega);simp only[List.getElem_cons_succ] at this;rw[<- this];congr 2;omega)]
  simp
theorem yt{t:TypeId}{b off n:Nat}{c:Array Value}{ty:TypeId}{fz:Nat × Nat}{tr:Tr Value}{v:Value}(hw:w.heap[b]?=some (.cells c ty fz))(hle:n <= c.size)(hg:∀i,i<n -> ∃v',c[i]?=some v' /\ VRi ν (cY tr i) v')
  (h:(match xX P t with
   | true=>match Nat.blt off n with
    | true=>some (cY tr off)
    | false=>none
   | false=>match Az P t with
    | some k=>match Nat.ble (off+k) n with
     | true=>some (.agg ⟨gR tr off k⟩)
     | false=>none
    | none=>none)=some v):∃v',VRi ν v v' /\ (loadVar t ⟨b,off,none⟩).run P w=.ok v' w:=by
 split at h
 ·rename_i h1;split at h
  ·rename_i iN;cases h;obtain⟨v',e,r⟩:=hg off (dS iN);refine⟨v',r,?_⟩;unfold loadVar;rw[aaZ,yo h1];simp only[aaY,Bool.false_eq_true,if_false];unfold load;rw[Sem.run,lW hw,e];rfl
  ·cases h
 ·split at h
  ·rename_i k hk;split at h
   ·rename_i iN;cases h;obtain⟨h1,h2,h3⟩:=yp hk;have Wh:=aaF iN;have hl:=j6 hle hg k off Wh;refine⟨.agg ⟨(c.toList.drop off).take k⟩,.agg_of hl,?_⟩;have hlen:((c.toList.drop off).take k).length=k:=by simp;omega
    unfold loadVar;rw[aaZ,h1];simp only[aaY,if_true];rw[aaZ,h2];simp only[aaY];rw[aaZ];unfold loadCells;have:=mI (P:=P) (w:=w) (b:=b) (off:=off) ((c.toList.drop off).take k) 0 #[] (λ j hj=>by
     rw[lW hw];have VG:off+(0+j)<c.size:=by rw[hlen] at hj;omega
     rw[Array.getElem?_eq_getElem VG];simp)
    rw[hlen] at this;rw[this];simp[Result.andThen,cD]
   ·cases h
  ·cases h
theorem yu{t:TypeId}{ad ad':Addr}{v:Value}(hH:HR ν H F w)(hp:VRi ν (.pointer (some ad)) (.pointer (some ad')))(h:tV P t H ad=some v):∃v',VRi ν v v' /\ (loadVar t ad').run P w=.ok v' w:=by
 cases hp with
 | atom _ h=>simp[cI] at h
 | @ptr hd b K o hν =>
  unfold tV at h;split at h
  case h_2=>cases h
  rename_i n tr ty ww ro hs hb;simp only at hb h;obtain⟨c,ty',fz,hw,hc⟩:=hH.cells hb hν;exact yt hw hc.le hc.get h
def vF:TypeDesc -> Value -> Bool
 | .int _,.int _ _=>true
 | .string,.string _=>true
 | .bool,.bool _=>true
 | _,_=>false
theorem AR{t:TypeId}{k:Value}(h:HJ P t k=true):∃d,P.underlying t=some d /\ vF d k=true:=by
 unfold HJ at h;split at h <;> first|(cases h;done)|(rename_i e;exact⟨_,e,rfl⟩)
theorem rJ{d:TypeDesc}{k:Value}(h:vF d k=true):pl k=true /\ cI k=true:=by
 unfold vF at h;split at h <;> first|(cases h;done)|exact⟨rfl,rfl⟩
theorem gw{d:TypeDesc}{k k':Value}{r:Bool}(h:lx k k'=some r)(hk:vF d k=true):Instr.sameNow d k k'=some r:=by
 unfold vF at hk;split at hk <;> first|(cases hk;done)|skip
 ·rename_i k1 k2 n1;cases k' with
  | int k3 n2 =>
   unfold lx at h
   by_cases e:k2=k3
   ·simp only[e,decide_true] at h;cases h;simp[Instr.sameNow,e]
   ·simp[e] at h
  | _=>simp[lx] at h
 ·cases k' with
  | string s2=>unfold lx at h;cases h;rfl
  | _=>simp[lx] at h
 ·cases k' with
  | bool s2=>unfold lx at h;cases h;rfl
  | _=>simp[lx] at h
theorem f5{t:TypeId}{k:Value}(h:HJ P t k=true)(e:Bool)(w:World):(Instr.checkKey e 10000 t k).run P w=.ok () w:=by
 obtain⟨d,hd,hk⟩:=AR h;rw[show (10000:Nat)=9999+1 from rfl,Instr.checkKey.eq_def];simp only;rw[aaZ,aF hd];unfold vF at hk;split at hk <;> first|(cases hk;done)|rfl
theorem t8{d:TypeDesc}{k:Value}(hk:vF d k=true){es:List (Value × Value × Nat)}{SH:List MapEntry}(h:ER ν es SH):∀ {r:Option Value} (i:Nat),xZ k es=some r ->
  (r=none /\ Instr.findNow d k SH i=some none) \/ (∃v v' j,r=some v /\ VRi ν v v' /\ Instr.findNow d k SH i=some (some (j,v'))):=by
 induction h with
 | nil=>intro r i h;rw[xZ] at h;cases h;exact .inl ⟨rfl,rfl⟩
 | cons k' b hv _ ih =>
  intro r i h;rw[xZ] at h;split at h
  ·rename_i e;cases h;exact .inr ⟨_,_,i,rfl,hv,by rw[Instr.findNow];simp only[gw e hk]⟩
  ·rename_i e;rcases ih (i+1) h with ⟨h1,h2⟩|⟨v,v',j,h1,h2,h3⟩
   ·exact .inl ⟨h1,by rw[Instr.findNow];simp only[gw e hk];exact h2⟩
   ·exact .inr ⟨v,v',j,h1,h2,by rw[Instr.findNow];simp only[gw e hk];exact h3⟩
  ·cases h
theorem ua{t:TypeId}{z:Value}(h:Ce P t=some z)(w:World):(zeroValue t).run P w=.ok z w /\ pl z=true:=by
 unfold Ce at h;split at h
 case h_2=>cases h
 rename_i i hi;split at h
 case h_2=>cases h
 rename_i zv hz;split at h
 case h_2=>cases h
 rename_i hp;cases h;refine⟨?_,hp⟩;unfold zeroValue;rw[aaZ,cZ hi];simp only[aaY,hz];rfl
theorem oX{ok b:Bool}{v v':Value}(h:VRi ν v v'):VRi ν (Cf ok v b) (if ok=true then .tuple #[v',.bool b] else v'):=by
 cases ok with
 | true=>exact .tuple_of (.cons h (.cons (.atom _ rfl) .nil))
 | false=>exact h
theorem H6{t:TypeId}{m m' k:Value}{ok:Bool}{v:Value}(hH:HR ν H F w)(hm:VRi ν m m')(h:HK P t H m k ok=some v):pl k=true /\ ∃v',VRi ν v v' /\ (Instr.lookup t m' k ok).run P w=.ok v' w:=by
 unfold HK at h;split at h
 case h_2=>cases h
 rename_i kt et hu;split at h
 case h_2=>cases h
 rename_i hk;obtain⟨d,hd,W5⟩:=AR hk;have hf:∀es,(∀r,Instr.findNow d k es 0=some r -> (Instr.findKey kt k es).run P w=.ok r w):=λ es r hr=>by
  unfold Instr.findKey;rw[aaZ,aF hd];simp only[aaY,hr];rfl
 refine⟨(rJ W5).1,?_⟩;split at h
 ·split at h
  ·rename_i z hz;cases h;cases hm;obtain⟨h1,h2⟩:=ua hz w;refine⟨_,oX (.plain_refl _ h2),?_⟩;unfold Instr.lookup;rw[aaZ,aF hu];simp only[aaY,aaZ,cD,f5 hk,hf [] none rfl,h1]
   try (cases ok <;> rfl)
  ·cases h
 ·rename_i r;split at h
  ·rename_i es cl hb;cases hm with
   | atom _ h=>simp[cI] at h
   | @map _ b K hν =>
   obtain⟨SH,hw,hE⟩:=hH.map hb hν;have hg:(getObj b).run P w=.ok (.map SH cl) w:=ge hw;split at h
   ·rename_i v0 Yz;cases h;rcases t8 W5 hE 0 Yz with ⟨h1,h2⟩|⟨v1,v',j,h1,h2,h3⟩
    ·cases h1
    ·cases h1;refine⟨_,oX h2,?_⟩;unfold Instr.lookup;rw[aaZ,aF hu];simp only[aaY,aaZ,hg,cD,f5 hk,hf _ _ h3]
     try (cases ok <;> rfl)
   ·rename_i Yz;split at h
    ·rename_i z hz;cases h;obtain⟨h1,h2⟩:=ua hz w;rcases t8 W5 hE 0 Yz with ⟨h3,h4⟩|⟨v1,v',j,h3,h4,h5⟩
     ·refine⟨_,oX (.plain_refl _ h2),?_⟩;unfold Instr.lookup;rw[aaZ,aF hu];simp only[aaY,aaZ,hg,cD,f5 hk,hf _ _ h4,h1]
      try (cases ok <;> rfl)
     ·cases h3
    ·cases h
   ·cases h
  ·cases h
 ·cases h
end hp
section sl
variable {ν ν':Nu} {P:Program} {G N:Nat} {T T':Tr Value} {a:Act} {H:AH} {F:HL} {w:World}
def NQ(x:Option Value)(n d:Nat):Prop:=(x=none /\ n=d) \/ ∃k,x=some (.int k (n:Int))
theorem rK{k:IntKind}{n y:Nat}{c:BoundsCode}(h:n <= y)(w:World):(Instr.sliceBound (.int k (n:Int)) y c).run P w=.ok n w:=by
 simp[Instr.sliceBound,asIntOf,h,go_sem]
theorem ne{b:Bool}{len cap l h m:Nat}{lo hi mx:Option Value}(o1:NQ lo l 0)(o2:NQ hi h len)(o3:NQ mx m cap)(hm:mx=none \/ hi≠none)(h1:l <= h)(h2:h <= m)(h3:m <= cap)(w:World) :
  (Instr.sliceBounds b len cap lo hi mx).run P w=.ok (l,h,m) w:=by
 unfold Instr.sliceBounds;rcases o1 with ⟨rfl,rfl⟩|⟨k1,rfl⟩ <;> rcases o2 with ⟨rfl,rfl⟩|⟨k2,rfl⟩ <;> rcases o3 with ⟨rfl,rfl⟩|⟨k3,rfl⟩ <;>
  first
   | (rcases hm with e|e <;> first|(cases e;done)|exact(e rfl).elim)
   | simp[aaZ,rK,h1,h2,h3]
theorem j7{d n:Nat}{x:Option Operand}(iD:∀y,x=some y -> VRi ν (ael T y) (a.eval y))(h:vA T d x=some n):NQ (x.map a.eval) n d:=by
 cases x with
 | none=>rw[vA] at h;cases h;exact .inl ⟨rfl,rfl⟩
 | some y =>
  rw[vA] at h;obtain⟨k,e⟩:=m9 h (iD y rfl);exact .inr ⟨k,by simp[e]⟩
theorem yv(h o m l k:Nat):Cg ⟨h,o,none⟩ m l k=⟨h,if m=l then o else o+l*k,none⟩:=by
 unfold Cg;split
 ·rename_i e;rw[if_pos (aaW e)]
 ·rename_i e;rw[if_neg (λ e'=>by subst e';simp at e),nY]
theorem yw(b o m l k:Nat):(if m=l then (⟨b,o,none⟩:Addr) else (⟨b,o,none⟩:Addr).add (l*k))=⟨b,if m=l then o else o+l*k,none⟩:=by
 split
 ·rfl
 ·rw[m8]
theorem bW{a b:Nat}(h:Nat.ble a b=true):a <= b:=aaF h
theorem rL{k l h m c c':Nat}{base AI:Option Addr}{n n':Nat}{v:Value}(hr:VRi ν (.slice base n c) (.slice AI n' c'))(hc:c<lU)(hv:vB k base l h m c=some v) :
  l <= h /\ h <= m /\ m <= c /\ VRi ν v (.slice (if m=l then AI else AI.map (·.add (l*k))) (h-l) (m-l)):=by
 unfold vB at hv;split at hv
 case h_2=>cases hv
 rename_i h1 h2 h3;refine⟨bW h1,bW h2,bW h3,?_⟩;have h3':=bW h3;split at hv
 ·cases hv;cases hr;split <;> exact .atom _ rfl
 ·split at hv
  ·cases hv;cases hr with
   | atom _ h=>simp[cI] at h
   | @slice _ b _ _ _ o n hν hcap =>
    rw[yv];have:(if m=l then (some ⟨b,o,none⟩:Option Addr) else (some ⟨b,o,none⟩:Option Addr).map (·.add (l*k)))=some ⟨b,if m=l then o else o+l*k,none⟩:=by
     rw[<- yw];split <;> rfl
    rw[this];exact .slice _ _ hν ⟨λ _=>rfl,λ e=>by omega⟩
  ·cases hv
theorem EF{t:TypeId}{x:Value}{ρx:Value}{lo hi mx:Option Operand}{v:Value}(hH:HR ν H F w)(hx:VRi ν x ρx)(Zx:∀y,lo=some y -> VRi ν (ael T y) (a.eval y))(hhi:∀y,hi=some y -> VRi ν (ael T y) (a.eval y))(Zu:∀y,mx=some y -> VRi ν (ael T y) (a.eval y))
  (h:AE P t H T x lo hi mx=some v):∃v',VRi ν v v' /\ (Instr.sliceAt t ρx (lo.map a.eval) (hi.map a.eval) (mx.map a.eval)).run P w=.ok v' w:=by
 unfold AE at h;split at h
 ·cases h
 rename_i hmo;have Zv:(mx.map a.eval=none \/ hi.map a.eval≠none):=by
  unfold PF at hmo;split at hmo
  ·cases hmo
  ·rename_i e;cases mx with
   | none=>exact .inl rfl
   | some m=>cases hi with
    | none=>exact(e _ rfl rfl).elim
    | some hh=>exact .inr (by simp)
 split at h
 ·rename_i el hu;split at h
  case h_2=>cases h
  rename_i base n c;split at h
  case h_2=>cases h
  rename_i k l hh hs hl hhn;have RS:=eC hs w;have b1:=j7 Zx hl;have b2:=j7 hhi hhn;split at h
  ·rename_i hc;have SF:=dS hc;split at h
   case h_2=>cases h
   rename_i m hm;have b3:=j7 Zu hm;have V8:∃AI,ρx=.slice AI n c /\ VRi ν (.slice base n c) (.slice AI n c):=by
    cases hx with
    | atom _ h=>exact⟨_,rfl,.atom _ h⟩
    | slice o n hν hcap=>obtain rfl:=hcap.1 SF;exact⟨_,rfl,.slice o n hν hcap⟩
   obtain⟨AI,rfl,hr⟩:=V8;obtain⟨g1,g2,g3,g4⟩:=rL hr SF h;refine⟨_,g4,?_⟩;unfold Instr.sliceAt;rw[aaZ,aF hu];simp only[aaY];unfold Instr.slice;rw[aaZ,aF hu];simp only[aaY];rw[aaZ,ne b1 b2 b3 Zv g1 g2 g3];simp only[aaY];rw[aaZ,RS];rfl
  ·rename_i hc;have SF:lU <= c:=by
    rcases aaU c lU with e|e
    ·have:Nat.blt c lU=true:=Nat.ble_eq_true_of_le e;rw[this] at hc;cases hc
    ·exact e
   split at h
   case h_2=>cases h
   rename_i ad mo Th;cases hx with
   | atom _ h=>simp[cI] at h
   | @slice hd b K _ c' o n hν hcap =>
   have SU:=hcap.2 SF;unfold HM at h;split at h
   case h_2=>cases h
   rename_i nn tr ty ww ro Vc hb;split at h
   case h_2=>cases h
   rename_i e1 e2 e3 e4;simp only at hb;obtain⟨cc,ty',fz,hw,Vu⟩:=hH.cells hb hν;have e1':ww=k:=aaW e1;have e2':=dS e2;have e3':=bW e3;have e4':=bW e4;have IN:=Vu.gr (by omega);have hle:=Vu.le;have ZQ:∀q,(c-lU+q)*ww <= nn -> q <= c':=λ q hq=>by
    have:(c-lU+q)*ww <= K*ww:=by omega
    have:=Nat.le_of_mul_le_mul_right this e2';omega
   have iF:∀ (m:Nat),NQ (mx.map a.eval) m c' -> hh <= m -> m <= c' -> (Instr.sliceAt t (.slice (some ⟨b,o,none⟩) n c') (lo.map a.eval) (hi.map a.eval) (mx.map a.eval)).run P w=.ok (.slice (some ⟨b,if m=l then o else o+l*k,none⟩) (hh-l) (m-l)) w:=λ m b3 g2 g3=>by
    unfold Instr.sliceAt;rw[aaZ,aF hu];simp only[aaY];unfold Instr.slice;rw[aaZ,aF hu];simp only[aaY];rw[aaZ,ne b1 b2 b3 Zv e3' g2 g3];simp only[aaY];rw[aaZ,RS];have:(if m=l then (some ⟨b,o,none⟩:Option Addr) else (some ⟨b,o,none⟩:Option Addr).map (·.add (l*k)))=some ⟨b,if m=l then o else o+l*k,none⟩:=by
     rw[<- yw];split <;> rfl
    simp only[aaY,this,cD]
   split at h
   ·have hmn:mx=none:=by
     unfold NN at Th;split at Th
     ·rfl
     ·split at Th <;> cases Th
    subst hmn;have b3:NQ ((none:Option Operand).map a.eval) c' c':=.inl ⟨rfl,rfl⟩;split at h
    ·rename_i iN;have XA:=dS iN;cases h;have g:=ZQ _ e4';refine⟨_,?_,iF c' b3 g (aaI _)⟩;rw[nY,if_neg (by omega)];exact .slice _ _ hν ⟨λ e=>by omega,λ e=>by omega⟩
    ·rename_i Yx;split at h
     ·cases h;have g:=ZQ _ e4';have hh0:hh=0:=by
       rcases Nat.eq_zero_or_pos hh with e|e
       ·exact e
       ·have:Nat.blt 0 hh=true:=Nat.ble_eq_true_of_le e;rw[this] at Yx;cases Yx
      subst hh0;refine⟨_,?_,iF c' b3 g (aaI _)⟩;simp only[Nat.zero_mul,Nat.add_zero,ite_self,Nat.sub_zero];exact .slice _ _ hν hcap
     ·cases h
   ·rename_i m;split at h
    case h_2=>cases h
    rename_i q1 q2 q3;cases h;have hmn:∃y,mx=some y /\ J7 (ael T y)=some m:=by
     unfold NN at Th;split at Th
     ·cases Th
     ·rename_i y;split at Th
      ·rename_i n' e';cases Th;exact⟨y,rfl,e'⟩
      ·cases Th
    obtain⟨y,rfl,ey⟩:=hmn;obtain⟨kk,ey'⟩:=m9 ey (Zu y rfl);have b3:NQ ((some y:Option Operand).map a.eval) m c':=.inr ⟨kk,by simp[ey']⟩;refine⟨_,?_,iF m b3 (bW q1) (ZQ _ (bW q2))⟩;rw[yv];have:=dS q3;exact .slice _ _ hν ⟨λ _=>rfl,λ e=>by omega⟩
 ·rename_i n el hu;split at h
  case h_2=>cases h
  rename_i ad;split at h
  case h_2=>cases h
  rename_i k l hh m hs hl hhn hm;have RS:=eC hs w;have b1:=j7 Zx hl;have b2:=j7 hhi hhn;have b3:=j7 Zu hm;split at h
  case h_2=>cases h
  rename_i hn;cases hx with
  | atom _ h=>simp[cI] at h
  | @ptr hd b K o hν =>
  obtain⟨g1,g2,g3,g4⟩:=rL (n:=0) (n':=0) (c':=n) (.slice o 0 hν ⟨λ _=>rfl,λ e=>by have:=dS hn;omega⟩:VRi ν (.slice (some ⟨hd,o,none⟩) 0 n) (.slice (some ⟨b,o,none⟩) 0 n)) (dS hn) h;refine⟨_,g4,?_⟩;unfold Instr.sliceAt;rw[aaZ,aF hu];simp only[aaY];rw[aaZ];simp only[Instr.sureAddr,cD,aaY];rw[aaZ,ne b1 b2 b3 Zv g1 g2 g3];simp only[aaY];rw[aaZ,RS];have:(if m=l then (some ⟨b,o,none⟩:Option Addr) else (some ⟨b,o,none⟩:Option Addr).map (·.add (l*k)))=some (if m=l then ⟨b,o,none⟩ else (⟨b,o,none⟩:Addr).add (l*k)):=by split <;> rfl
  rw[this];rfl
 ·cases h
theorem yx{o:Oper}{v:Value}(hH:HR ν H F w)(h:jA P o T H=some v){l:List Operand}(hl:cm o.op=some l)(iD:OK ν T a l):∃v',VRi ν v v' /\ (execOp a.eval o).run P w=.ok (.value v') w:=by
 have Vh:=hl;unfold jA at h;split at h
 ·rename_i t x ho;rw[ho] at hl;simp only[cm,Option.some.injEq] at hl;subst hl;have hx:=iD x (by simp);split at h
  ·rename_i ad e;rw[e] at hx;generalize hu:a.eval x=u at hx;have hx2:=hx;cases hx with
   | atom _ h=>simp[cI] at h
   | ptr o hν =>
    obtain⟨v',r,e2⟩:=yu hH hx2 h;refine⟨v',r,?_⟩;simp[execOp,ho,Instr.loadAt,Instr.sureAddr,hu,aaZ,e2]
  ·cases h
 ·rename_i t m k ok ho;rw[ho] at hl;simp only[cm,Option.some.injEq] at hl;subst hl;obtain⟨hp,v',r,e⟩:=H6 hH (iD m (by simp)) h;have hk:=(iD k (by simp)).plain_eq hp;refine⟨v',r,?_⟩;simp[execOp,ho,hk,aaZ,e]
 ·rename_i t x lo hi mx ho;split at h
  ·obtain⟨v',r,e⟩:=oW h Vh iD;exact⟨v',r,e w⟩
  ·rw[ho] at hl;simp only[cm,Option.some.injEq] at hl;subst hl;obtain⟨v',r,e⟩:=EF (a:=a) hH (iD x (by simp)) (λ y hy=>iD y (by subst hy;simp)) (λ y hy=>iD y (by subst hy;simp)) (λ y hy=>iD y (by subst hy;simp)) h;refine⟨v',r,?_⟩;simp[execOp,ho,aaZ,e]
 ·cases h
end sl
section wr
variable {ν ν':Nu} {P:Program} {G N:Nat} {T T':Tr Value} {a:Act} {H H':AH} {F:HL} {w w':World}
theorem dM(H:AH)(h k:Nat)(b:Option AB):b7 (cX H h b) k=if h=k then b else b7 H k:=jb _ _ _
theorem HR.upd(hH:HR ν H F w){h r K:Nat}{b0 b1:AB}{o':Obj}(hb:b7 H h=some b0)(hw0:H5 b0=true)(hw1:H5 b1=true)(hν:ν h=some (r,K))(hr:w'.heap[r]?=some o')(ho:OR ν K b1 o')(hs:∀k,k≠r -> w'.heap[k]?=w.heap[k]?):HR ν (cX H h (some b1)) F w':=by
 have r_:∀k b,b7 (cX H h (some b1)) k=some b -> k≠h -> b7 H k=some b:=λ k b hk z_=>by
  rw[dM,if_neg (Ne.symm z_)] at hk;exact hk
 have ex:∀k b,b7 (cX H h (some b1)) k=some b -> ∃b',b7 H k=some b' /\ (H5 b=true -> H5 b'=true):=λ k b hk=>by
  by_cases e:k=h
  ·subst e;exact⟨b0,hb,λ _=>hw0⟩
  ·exact⟨b,r_ k b hk e,λ e=>e⟩
 refine⟨λ k b hk=>?_,λ k1 k2 b1' b2' q K1 K2 h1 h2 h3 h4=>?_,λ x hx=>?_,λ k b q K' hk hq x hx=>?_⟩
 ·by_cases e:k=h
  ·subst e;rw[dM,if_pos rfl] at hk;cases hk;exact⟨r,K,o',hν,hr,ho⟩
  ·have UF:=r_ k b hk e;obtain⟨q,K',o,h1,h2,h3⟩:=hH.blk k b UF;refine⟨q,K',o,h1,?_,h3⟩;rw[hs q,h2];intro e';subst e';exact e (hH.inj _ _ _ _ _ _ _ UF hb h1 hν)
 ·obtain⟨c1,d1,-⟩:=ex _ _ h1;obtain⟨c2,d2,-⟩:=ex _ _ h2;exact hH.inj _ _ _ _ _ _ _ d1 d2 h3 h4
 ·rw[hs _ (hH.apt _ _ _ _ hb hν x hx)];exact hH.frm x hx
 ·obtain⟨c1,d1,d2⟩:=ex _ _ hk;exact hH.apt _ _ _ _ d1 hq x hx
theorem HR.del(hH:HR ν H F w)(h:Nat):HR ν (cX H h none) F w:=by
 have r_:∀k b,b7 (cX H h none) k=some b -> b7 H k=some b:=λ k b hk=>by
  rw[dM] at hk;split at hk
  ·cases hk
  ·exact hk
 exact⟨λ k b hk=>hH.blk k b (r_ k b hk),λ k1 k2 b1 b2 q K1 K2 h1 h2 h3 h4=>hH.inj _ _ _ _ _ _ _ (r_ _ _ h1) (r_ _ _ h2) h3 h4,hH.frm,λ k b q K hk=>hH.apt k b q K (r_ k b hk)⟩
theorem HR.add(hH:HR ν H F w){n r K:Nat}{b:AB}{o:Obj}(hn:ν n=none)(hr:w.heap[r]?=some o)(ho:OR ν K b o)(hwb:H5 b=true)(hF:∀x∈F,x.1≠r)(U1:∀k b' K',b7 H k=some b' -> ν k≠some (r,K')):HR (ν.upd n r K) (cX H n (some b)) F w:=by
 have hle:ν.Le (ν.upd n r K):=j4 hn;have S8:b7 H n=none:=by
  cases e:b7 H n with
  | none=>rfl
  | some b'=>obtain⟨q,K',o',h1,-⟩:=hH.blk n b' e;rw[hn] at h1;cases h1
 have r_:∀k b',b7 (cX H n (some b)) k=some b' -> k≠n -> b7 H k=some b':=λ k b' hk z_=>by
  rw[dM,if_neg (Ne.symm z_)] at hk;exact hk
 refine⟨λ k b' hk=>?_,λ k1 k2 b1 b2 q K1 K2 h1 h2 h3 h4=>?_,hH.frm,λ k b' q K' hk hq x hx=>?_⟩
 ·by_cases e:k=n
  ·subst e;rw[dM,if_pos rfl] at hk;cases hk;exact⟨r,K,o,cB,hr,ho.mono hle⟩
  ·obtain⟨q,K',o',h1,h2,h3⟩:=hH.blk k b' (r_ k b' hk e);exact⟨q,K',o',hle _ _ h1,h2,h3.mono hle⟩
 ·by_cases e1:k1=n
  ·by_cases e2:k2=n
   ·rw[e1,e2]
   ·subst e1;rw[cB] at h3;rw[eR e2] at h4;cases h3;exact(U1 _ _ _ (r_ _ _ h2 e2) h4).elim
  ·by_cases e2:k2=n
   ·subst e2;rw[cB] at h4;rw[eR e1] at h3;cases h4;exact(U1 _ _ _ (r_ _ _ h1 e1) h3).elim
   ·rw[eR e1] at h3;rw[eR e2] at h4;exact hH.inj _ _ _ _ _ _ _ (r_ _ _ h1 e1) (r_ _ _ h2 e2) h3 h4
 ·by_cases e:k=n
  ·subst e;rw[cB] at hq;cases hq;exact hF x hx
  ·rw[eR e] at hq;exact hH.apt _ _ _ _ (r_ _ _ hk e) hq x hx
theorem HR.world(hH:HR ν H F w)(hs:∀k,k<w.heap.size -> w'.heap[k]?=w.heap[k]?):HR ν H F w':=by
 refine⟨λ k b hk=>?_,hH.inj,λ x hx=>?_,hH.apt⟩
 ·obtain⟨q,K',o',h1,h2,h3⟩:=hH.blk k b hk;exact⟨q,K',o',h1,by rw[hs _ (cr h2)];exact h2,h3⟩
 ·have:=hH.frm x hx;rw[hs _ (cr this)];exact this
theorem HR.new(hH:HR ν H F w){n K:Nat}{b:AB}{o:Obj}(hn:ν n=none)(ho:OR ν K b o)(hwb:H5 b=true)(hw:w'.heap=w.heap.push o):HR (ν.upd n w.heap.size K) (cX H n (some b)) F w':=by
 have h1:HR ν H F w':=hH.world (λ k hk=>by rw[hw,Array.getElem?_push,if_neg (by omega)]);refine h1.add hn (by rw[hw];simp) ho hwb (λ x hx e=>?_) (λ k b' K' hk e=>?_)
 ·have:=cr (hH.frm x hx);omega
 ·have:=hH.lt hk e;omega
theorem lz{l:List Value}{i:Nat}(h:i<l.length):cY (dR undef l 0 .lf) i=l[i]:=by
 unfold cY;rw[qy];simp[h]
theorem ub(l:List Value)(ty:TypeId):jI l ty=.cells l.length (dR undef l 0 .lf) ty 0 false:=by
 unfold jI;split <;> rename_i h <;> rw[h,ep]
theorem j8(l:List Value)(ty:TypeId)(k:Nat):vD l ty k=.cells l.length (dR undef l 0 .lf) ty k false:=by
 unfold vD;split <;> rename_i h <;> rw[h,ep]
theorem MA{l l' rest:List Value}{ty:TypeId}{ww K:Nat}(h:LR ν l l')(hk:ww≠0 -> (l'++rest).length=K*ww):CR ν K l.length (dR undef l 0 .lf) ty ww ⟨l'++rest⟩ ty (0,0):=by
 refine⟨rfl,by simp[h.length],rfl,λ i hi=>?_,λ e=>by simpa using hk e⟩;obtain⟨v',e,r⟩:=h.get (aaO hi);refine⟨v',?_,by rw[lz hi];exact r⟩;have:(l'++rest)[i]?=some v':=by rw[aaP (by rw[h.length];exact hi)];exact e
 simpa using this
theorem OR.cellsB{l l':List Value}{ty:TypeId}{K:Nat}(h:LR ν l l'):OR ν K (jI l ty) (.cells ⟨l'⟩ ty (0,0)):=by
 rw[ub];have:=MA (ty:=ty) (ww:=0) (K:=K) (rest:=[]) h (λ e=>(e rfl).elim);have h2:CR ν K l.length (dR undef l 0 .lf) ty 0 ⟨l'⟩ ty (0,0):=by simpa using this
 exact h2
theorem kB(l:List Value)(ty:TypeId):H5 (jI l ty)=true:=by rw[ub];rfl
theorem rM(t:Tr Value):∀ (vs:List Value) (i j:Nat),cY (ko t i vs) j=if h:i <= j /\ j-i<vs.length then vs[j-i] else cY t j:=by
 intro vs
 induction vs generalizing t with
 | nil=>intro i j;simp[ko]
 | cons v vs ih =>
  intro i j;rw[ko,ih];have cX:cY (sM t i v) j=if i=j then v else cY t j:=jb _ _ _
  by_cases h1:i=j
  ·subst h1;have:¬ (i+1 <= i /\ i-(i+1)<vs.length):=by omega
   rw[dif_neg this,cX,if_pos rfl];simp
  ·by_cases h2:i <= j
   ·have h4:j-i=(j-(i+1))+1:=by omega
    by_cases h3:j-(i+1)<vs.length
    ·rw[dif_pos ⟨by omega,h3⟩,dif_pos ⟨h2,by rw[aaN];omega⟩];simp only[h4,List.getElem_cons_succ]
    ·rw[dif_neg (by omega),dif_neg (by rw[aaN];omega),cX,if_neg h1]
   ·rw[dif_neg (by omega),dif_neg (by omega),cX,if_neg h1]
theorem ia(b:Nat):∀ (vs:List Value) (o:Nat) (w:World) (k:Nat),k≠b -> (w.setCells b o vs).heap[k]?=w.heap[k]?
 | [],_,_,_,_=>rfl
 | v::vs,o,w,k,h=>by rw[World.setCells,ia b vs _ _ _ h,Below.heap_setCell _ _ _ _ h]
theorem ie(b:Nat):∀ (vs:List Value) (o:Nat) (w:World),Below 0 w (w.setCells b o vs)
 | [],_,w=>Below.refl 0 w
 | v::vs,o,w=>by
  rw[World.setCells];exact((Below.refl 0 w).setCell (aaJ _) v).trans (ie b vs (o+1) _)
theorem lA(b:Nat):∀ (vs:List Value) (o:Nat) (w:World) {c:Array Value} {ty:TypeId} {fz:Nat × Nat},w.heap[b]?=some (.cells c ty fz) -> ∃c',(w.setCells b o vs).heap[b]?=some (.cells c' ty fz) /\ c'.size=c.size /\ ∀j,j<c.size -> c'[j]?=if h:o <= j /\ j-o<vs.length then some vs[j-o] else c[j]?
 | [],o,w,c,ty,fz,h=>⟨c,h,rfl,λ j _=>by simp⟩
 | v::vs,o,w,c,ty,fz,h=>by
  have h1:(w.setCell ⟨b,o,none⟩ v).heap[b]?=some (.cells (c.setIfInBounds o v) ty fz):=by
   simp[World.setCell,Array.getElem?_modify,h]
  obtain⟨c',e1,e2,e3⟩:=lA b vs (o+1) _ h1;refine⟨c',e1,by simpa using e2,λ j hj=>?_⟩;rw[e3 j (by simpa using hj)]
  by_cases h2:o=j
  ·subst h2;rw[dif_neg (by omega),dif_pos ⟨aaI _,by simp⟩,Array.getElem?_setIfInBounds_self_of_lt hj];simp
  ·rw[Array.getElem?_setIfInBounds_ne h2]
   by_cases h3:o <= j
   ·have h4:j-o=(j-(o+1))+1:=by omega
    by_cases h5:j-(o+1)<vs.length
    ·rw[dif_pos ⟨by omega,h5⟩,dif_pos ⟨h3,by rw[aaN];omega⟩];simp only[h4,List.getElem_cons_succ]
    ·rw[dif_neg (by omega),dif_neg (by rw[aaN];omega)]
   ·rw[dif_neg (by omega),dif_neg (by omega)]
theorem AU{v:Value}{l:List Value}(hf:jY (v::l)=true):(∀cs,v≠Value.agg cs) /\ (∀cs,v≠Value.tuple cs) /\ jY l=true:=by
 cases v <;> simp[jY] at hf <;> simp[hf]
theorem ud{vs K_:List Value}(h:LR ν vs K_)(hf:jY vs=true):∀u∈K_,u.oneCell'=true:=by
 induction h with
 | nil=>intro u hu;cases hu
 | cons hv _ ih =>
  intro u hu;obtain⟨h1,h2,h3⟩:=AU hf;rcases List.mem_cons.1 hu with rfl|hu
  ·cases hv <;> first|rfl|exact(h1 _ rfl).elim|exact(h2 _ rfl).elim|skip
   rename_i v0 _ _ _ e;cases v0 <;> first|rfl|simp[cI] at e
  ·exact ih h3 u hu
theorem oY{h o b K:Nat}{vs K_:List Value}(hH:HR ν H F w)(hν:ν h=some (b,K))(hl:LR ν vs K_)(hp:oT H ⟨h,o,none⟩ vs=some H') :
  (∀j,j<K_.length -> (w.cell? ⟨b,o+j,none⟩).isSome=true) /\ (∀j,j<K_.length -> w.frozen? ⟨b,o+j,none⟩=false) /\ (∀u∈K_,u.oneCell'=true) /\ HR ν H' F (w.setCells b o K_) /\ Below 0 w (w.setCells b o K_):=by
 unfold oT at hp;split at hp
 case h_2=>cases hp
 rename_i n tr ty ww hs hb;split at hp
 case h_2=>cases hp
 rename_i hle hf;cases hp;simp only at hb;obtain⟨c,ty',fz,hw,hc⟩:=hH.cells hb hν;have XB:=bW hle;rw[ep] at XB;simp only at XB;have hlen:=hl.length;have VH:=hc.le;refine⟨λ j hj=>?_,λ j hj=>?_,ud hl hf,?_,ie _ _ _ _⟩
 ·rw[lW hw,Array.getElem?_eq_getElem (by omega)];rfl
 ·obtain⟨lo,hi⟩:=fz;have:=hc.fz;cases this;simp[World.frozen?,hw]
 ·obtain⟨c',e1,e2,e3⟩:=lA b K_ o w hw;refine hH.upd (b1:=.cells n (ko tr o vs) ty ww false) hb rfl rfl hν e1 ?_ (λ k hk=>ia b K_ o w k hk);refine⟨hc.ty,by rw[e2];exact VH,hc.fz,λ i hi=>?_,λ e=>by rw[e2];exact hc.gr e⟩;rw[e3 i (by omega),rM]
  by_cases h1:o <= i /\ i-o<vs.length
  ·obtain⟨v',g1,g2⟩:=hl.get (aaO h1.2);rw[dif_pos h1,dif_pos ⟨h1.1,by rw[hlen];exact h1.2⟩];refine⟨v',?_,g2⟩;rw[<- g1,aaO]
  ·rw[dif_neg h1,dif_neg (by rw[hlen];exact h1)];exact hc.get i hi
theorem EG{t:TypeId}{ad ad':Addr}{v v':Value}(hH:HR ν H F w)(hp:VRi ν (.pointer (some ad)) (.pointer (some ad')))(hv:VRi ν v v')(h:vC P t H ad v=some H'):∃w',(storeVar t ad' v').run P w=.ok () w' /\ HR ν H' F w' /\ Below 0 w w':=by
 cases hp with
 | atom _ h=>simp[cI] at h
 | @ptr hd b K o hν =>
  unfold vC at h;split at h
  case h_2=>cases h
  rename_i k hk;split at h
  case h_2=>cases h
  rename_i hl;have Vu:=kx hv;obtain⟨h1,h2,h3,h4,h5⟩:=oY hH hν Vu h;refine⟨_,?_,h4,h5⟩;have IN:v'.cells.size=k:=by
   have e1:=aaW hl;rw[ep,<- Vu.length,gv] at e1;simpa using e1
  unfold storeVar;rw[aaZ,eC hk];simp only[aaY,IN,ne_eq,not_true_eq_false,if_false];have:=run_storeCells_cells (P:=P) b o (hO v') 0 w (by simpa using h1) (by simpa using h2) h3;rw[gv] at this;rw[<- gv] at *;simpa [aaZ,cD] using this
end wr
end Go.Proofs.YtdppjkjbghbnjaaGreatDoor
