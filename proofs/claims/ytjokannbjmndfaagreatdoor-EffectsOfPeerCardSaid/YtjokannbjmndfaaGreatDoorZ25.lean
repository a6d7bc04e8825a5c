import Derived.Test.YtjokannbjmndfaaGreatDoorZ24
import Derived.Deep.AppendSrc
import Derived.Laws.AppendOwn
set_option linter.all false
set_option maxHeartbeats 4000000
set_option maxRecDepth 100000
namespace Go.Proofs.YtjokannbjmndfaaGreatDoor
open Go.RowKit
variable {K b j n off r sz ww:Nat} {O_ vs:List Value} {ad ad':Addr} {el t ty:TypeId} {es:List (Value×Value×Nat)} {fz:Nat×Nat} {k v':Value} {o:Oper} {w:World} {ρ:Operand->Value}
section fr
variable {ν ν':Nu} {P:Program} {G N:Nat} {T T':Tr Value} {a:Act}
theorem Jj{u v u':Value}{r:Bool}(h:I3 u v=some r)(ht:Mr P t u=true)(hu:VRi ν u u')(hv:VRi ν v v')(w:World):(Op.equal t u' v').run P w=.ok r w:=by
 show (Op.equalIn 10000 t u' v').run P w=_;rw[show (10000:Nat)=9999+1 from rfl,Op.equalIn.eq_def];simp only;unfold I3 at h;split at h <;> first|(cases h;done)|skip
 all_goals
  cases h;unfold Mr at ht;split at ht <;> first|(cases ht;done)|skip
  rename_i hd;rw[abg,aE hd];simp only[abf];cases hu <;> cases hv <;> first|rfl|(rename_i e;cases e;done)|(rename_i e1 e2;cases e1;done)|(rename_i e1 e2;cases e2;done)
theorem wB{x i:Operand}{c:Nat}{k:IntKind}(ho:o.op=.indexAddr t x i)(hx:ρ x=.slice (some ⟨b,off,none⟩) n c)(hi:ρ i=.int k (j:Int))(ht:P.underlying t=some (.slice el))(hj:j<n)(hs:eZ P el=some sz) :
  (execOp ρ o).run P w=.ok (.value (.pointer (some ⟨b,off+j*sz,none⟩))) w:=by
 have h1:=λ W=>aE ht W;have h2:=λ W=>dX hs W;have h3:(0:Int)<=(j:Int)/\(j:Int)<(n:Int):=⟨by omega,by omega⟩;simp[execOp,ho,Instr.indexAt,hx,hi,asIntOf,abg,h1,h2,hj,nq]
theorem B0{x i:Operand}{k:IntKind}(ho:o.op=.indexAddr t x i)(hx:ρ x=.pointer (some ⟨b,off,none⟩))(hi:ρ i=.int k (j:Int))(ht:P.underlying t=some (.array n el))(hj:j<n)(hs:eZ P el=some sz) :
  (execOp ρ o).run P w=.ok (.value (.pointer (some ⟨b,off+j*sz,none⟩))) w:=by
 have h1:=λ W=>aE ht W;have h2:=λ W=>dX hs W;simp[execOp,ho,Instr.indexAt,Instr.sureAddr,hx,hi,asIntOf,abg,h1,h2,hj,nq]
theorem B1{x i:Operand}{cs:Array Value}{k:IntKind}{v:Value}(ho:o.op=.index t x i)(hx:ρ x=.agg cs)(hi:ρ i=.int k (j:Int))(ht:P.underlying t=some (.array n el))(hj:j<n)(hs:eZ P el=some sz)(hp:oy P el cs.toList (j*sz)=some v) :
  (execOp ρ o).run P w=.ok (.value v) w:=by
 have h1:=λ W=>aE ht W;have h2:=λ W=>dX hs W;have h3:=uR hp;simp[execOp,ho,Instr.index,hx,hi,asIntOf,abg,h1,h2,h3,hj]
theorem Jk{x:Operand}(ho:o.op=.call { callee:=.builtin .len,args:=#[x],argTypes:=#[t] })(hl:BQ P t (ρ x)=some n):(execOp ρ o).run P w=.ok (.value (.int .i64 (n:Int))) w:=by
 unfold BQ at hl;split at hl
 case h_3=>cases hl
 all_goals
  rename_i hu hx;cases hl;have h1:=λ W=>aE hu W;simp[execOp,ho,resolve,invoke,builtin,Builtin.len_,hx,abg,h1,goInt]
theorem Jl{v:Value}(hr:VRi ν v v')(h:BQ P t v=some n):BQ P t v'=some n:=by
 cases hr with
 |atom v _=>exact h
 |slice o n h1 c=>
  unfold BQ at h ⊢;cases hu:P.underlying t with
  |none=>simp[hu] at h
  |some d=>rw[hu] at h;cases d <;> simp at h ⊢;exact h
 |_=>
  unfold BQ at h;cases hu:P.underlying t with
  |none=>simp[hu] at h
  |some d=>rw[hu] at h;cases d <;> simp at h
theorem zj{op:BinOp}{x y:Operand}{u v:Value}{r:Bool}(ho:o.op=.binOp op t x y ty)(hx:VRi ν u (ρ x))(hy:VRi ν v (ρ y))(hr:I3 u v=some r)(ht:Mr P t u=true) :
  (op=.eql->(execOp ρ o).run P w=.ok (.value (.bool r)) w)/\(op=.neq->(execOp ρ o).run P w=.ok (.value (.bool (!r))) w):=by
 have q:=Jj hr ht hx hy w;generalize hu:ρ x=u' at *;generalize hv:ρ y=v' at *;unfold I3 at hr;split at hr <;> first|(cases hr;done)|skip
 all_goals
  cases hx <;> cases hy <;> refine⟨λ e=>?_,λ e=>?_⟩ <;> subst e <;> simp[execOp,ho,hu,hv,eqGuard,Go.binOp,abg,q,b7,Result.andThen]
theorem zk{v:Value}(h:gQ P o T=some v){l:List Operand}(hl:bV o.op=some l)(iF:OK ν T a l):∃v',VRi ν v v'/\∀w,(execOp a.eval o).run P w=.ok (.value v') w:=by
 have hpl:gw P T o=some v->∃v',VRi ν v v'/\∀w,(execOp a.eval o).run P w=.ok (.value v') w:=λ h=>pF h hl iF;unfold gQ at h;split at h
 ·rename_i x ho;rw[ho] at hl;simp only[bV,de] at hl;subst hl;cases h;exact⟨_,iF x (by simp),λ w=>by simp[execOp,ho,pure,Sem.run]⟩
 ·rename_i x ho;rw[ho] at hl;simp only[bV,de] at hl;subst hl;cases h;exact⟨_,iF x (by simp),λ w=>by simp[execOp,ho,pure,Sem.run]⟩
 ·rename_i c x y ho;rw[ho] at hl;simp only[bV,de] at hl;subst hl;have hc:=iF c (by simp);split at h
  ·rename_i e;cases h;rw[e] at hc;have e':=hc.plain_eq rfl;exact⟨_,iF x (by simp),λ w=>by simp[execOp,ho,e',asBool,abg,pure,Sem.run,Result.andThen]⟩
  ·rename_i e;cases h;rw[e] at hc;have e':=hc.plain_eq rfl;exact⟨_,iF y (by simp),λ w=>by simp[execOp,ho,e',asBool,abg,pure,Sem.run,Result.andThen]⟩
  ·cases h
 ·rename_i t parts ho;rw[ho] at hl;simp only[bV,de] at hl;subst hl;obtain⟨v',r,e⟩:=FI h (sy iF);refine⟨v',r,λ w=>?_⟩;have:=e w;have e2:(parts.map λ (p:Nat×Operand)=>(p.1,a.eval p.2))=⟨parts.toList.map λ p=>(p.1,a.eval p.2)⟩:=by apply Array.ext';simp
  simp only[execOp,ho,abg];rw[e2,this];rfl
 ·rename_i x ho;rw[ho] at hl;simp only[bV,de] at hl;subst hl;have hx:=iF x (by simp);split at h
  ·rename_i ad e;cases h;rw[e] at hx;refine⟨_,hx,λ w=>?_⟩;generalize hu:a.eval x=u at hx;cases hx with
   |atom _ h=>simp[cq] at h
   |ptr o h=>simp[execOp,ho,hu,pure,Sem.run,bind,Sem.bind]
  ·rename_i f first captured e
   cases h;rw[e] at hx;refine⟨_,hx,λ w=>?_⟩;generalize hu:a.eval x=u at hx;cases hx with
   |atom _ h=>simp[cq] at h
   |func hf _ _ _ _=>cases hf;simp[execOp,ho,hu,pure,Sem.run,bind,Sem.bind]
  ·rename_i t v e;cases h;rw[e] at hx;refine⟨_,hx,λ w=>?_⟩;generalize hu:a.eval x=u at hx;cases hx with
   |atom _ h=>simp[cq] at h
   |iface t hf=>simp[execOp,ho,hu,pure,Sem.run,bind,Sem.bind]
  ·cases h
 ·rename_i op t x y ty ho;have hx:=iF x (by rw[ho] at hl;simp only[bV,de] at hl;subst hl;simp);have hy:=iF y (by rw[ho] at hl;simp only[bV,de] at hl;subst hl;simp);split at h
  ·rename_i k m k' n ex ey;rw[ex] at hx;rw[ey] at hy;have ex':=hx.plain_eq rfl;have ey':=hy.plain_eq rfl;split at h
   ·rename_i r hr;split at h
    ·rename_i hk;cases h;have UJ:k=k':=abh hk;subst UJ;exact⟨_,.atom _ rfl,λ w=>Ji ho ex' ey' hr⟩
    ·cases h
   ·exact hpl h
  ·split at h
   ·rename_i r hr;split at h
    ·rename_i ht;cases h;exact⟨_,.atom _ rfl,λ w=>(zj ho hx hy hr ht).1 rfl⟩
    ·rename_i ht;cases h;exact⟨_,.atom _ rfl,λ w=>(zj ho hx hy hr ht).2 rfl⟩
    ·cases h
   ·exact hpl h
 ·rename_i t x ho;rw[ho] at hl;simp only[bV,de] at hl;subst hl;have hx:=iF x (by simp);split at h
  ·cases h
  ·rename_i d hd hu;cases h;refine⟨_,.iface t hx,λ w=>?_⟩;simp only[execOp,ho,Instr.makeInterface,abg,aE hu,abf];cases d <;> first|rfl|exact(hd _ hu).elim
  ·cases h
 ·rename_i fn first captured ho
  rw[ho] at hl;simp only[bV,de] at hl;subst hl;split at h
  ·rename_i f;cases h;have h1:=lG (ν:=ν) (T:=T) (a:=a) (l:=first.toList) (λ x hx=>iF x (aaB _ hx));have h2:=lG (ν:=ν) (T:=T) (a:=a) (l:=captured.toList) (λ x hx=>iF x (aaz _ hx));have e1:first.map a.eval=⟨first.toList.map a.eval⟩:=by apply Array.ext';simp
   have e2:captured.map a.eval=⟨captured.toList.map a.eval⟩:=by apply Array.ext';simp
   refine⟨.func (.func f) (first.map a.eval) (captured.map a.eval),by rw[e1,e2];exact .func_of (.func f) h1 h2,λ w=>?_⟩;simp[execOp,ho,Instr.makeFunc,pure,Sem.run,bind,Sem.bind]
  ·cases h
 ·rename_i t x j ho;rw[ho] at hl;simp only[bV,de] at hl;subst hl;have hx:=iF x (by simp);split at h
  ·rename_i ad k ft e hf;cases h;rw[e] at hx;generalize hu:a.eval x=u at hx;cases hx with
   |atom _ h=>simp[cq] at h
   |ptr o h=>
    refine⟨_,?_,λ w=>BX ho hu hf⟩;rw[oA,nq];exact .ptr _ h
  ·cases h
 ·rename_i t x j ho;rw[ho] at hl;simp only[bV,de] at hl;subst hl;have hx:=iF x (by simp);split at h
  ·rename_i cs k ft e hf;rw[e] at hx;generalize hu:a.eval x=u at hx;cases hx with
   |atom _ h=>simp[cq] at h
   |agg he hg=>
    obtain⟨v',e1,r⟩:=uS (LR.of_arr he hg) h;exact⟨v',r,λ w=>BZ ho hu hf e1⟩
  ·cases h
 ·rename_i t x i ho;rw[ho] at hl;simp only[bV,de] at hl;subst hl;have hx:=iF x (by simp);have hi:=iF i (by simp);split at h
  ·rename_i el ad n c j ht e ei;split at h
   ·rename_i k hj hs;cases h;rw[e] at hx;obtain⟨kk,ej⟩:=nr ei hi;generalize hu:a.eval x=u at hx;cases hx with
    |atom _ h=>simp[cq] at h
    |slice o n h hc=>
     refine⟨_,?_,λ w=>wB ho hu ej ht (dF hj) hs⟩;rw[oA];exact .ptr _ h
   ·cases h
  ·rename_i n el ad j ht e ei;split at h
   ·rename_i k hj hs;cases h;rw[e] at hx;obtain⟨kk,ej⟩:=nr ei hi;generalize hu:a.eval x=u at hx;cases hx with
    |atom _ h=>simp[cq] at h
    |ptr o h=>
     refine⟨_,?_,λ w=>B0 ho hu ej ht (dF hj) hs⟩;rw[oA];exact .ptr _ h
   ·cases h
  ·cases h
 ·rename_i t x i ho;have hx:=iF x (by rw[ho] at hl;simp only[bV,de] at hl;subst hl;simp);have hi:=iF i (by rw[ho] at hl;simp only[bV,de] at hl;subst hl;simp);split at h
  ·rename_i n el cs j ht e ei;split at h
   ·rename_i k hj hs;rw[e] at hx;obtain⟨kk,ej⟩:=nr ei hi;generalize hu:a.eval x=u at hx;cases hx with
    |atom _ h=>simp[cq] at h
    |agg he hg=>
     obtain⟨v',e1,r⟩:=uS (LR.of_arr he hg) h;exact⟨v',r,λ w=>B1 ho hu ej ht (dF hj) hs e1⟩
   ·cases h
  ·exact hpl h
 ·rename_i x i ho;rw[ho] at hl;simp only[bV,de] at hl;subst hl;have hx:=iF x (by simp);split at h
  ·rename_i cs e;rw[e] at hx;generalize hu:a.eval x=u at hx;cases hx with
   |atom _ h=>simp[cq] at h
   | @tuple _ c' he hg=>
    rw[kz] at h;obtain⟨v',e1,r⟩:=(LR.of_arr he hg).get h;refine⟨v',r,λ w=>?_⟩;have e2:c'[i]?=some v':=by simpa using e1
    simp[execOp,ho,hu,Instr.extract,e2,abg,b7,Result.andThen]
  ·cases h
 ·rename_i c ho;split at h
  ·rename_i x t hq;unfold Ps at hq;split at hq
   case h_2=>cases hq
   rename_i y u;have hyx:y=x/\u=t:=by
    split at hq <;> first|(cases hq;exact⟨rfl,rfl⟩)|cases hq
   obtain⟨rfl,rfl⟩:=hyx;have hx:=iF y (by rw[ho] at hl;simp only[bV,de] at hl;subst hl;simp);split at h
   ·rename_i n hn;cases h;exact⟨_,.atom _ rfl,λ w=>Jk ho (Jl hx hn)⟩
   ·cases h
  ·exact hpl h
 ·exact hpl h
end fr
inductive ER(ν:Nu):List (Value×Value×Nat)->List MapEntry->Prop
 |nil:ER ν [] []
 |cons {v v':Value} {l:List (Value×Value×Nat)} {l':List MapEntry} (k:Value) (b:Nat):VRi ν v v'->ER ν l l'->ER ν ((k,v,b)::l) (⟨k,v',b⟩::l')
structure CR(ν:Nu)(K n:Nat)(t:Tr Value)(ty:TypeId)(w:Nat)(c:Array Value)(ty':TypeId)(fz:Nat×Nat):Prop where
 ty:ty'=ty
 le:n<=c.size
 fz:fz=(0,0)
 get:∀i,i<n->∃v',c[i]?=some v'/\VRi ν (cK t i) v'
 gr:w≠0->c.size=K*w
def OR(ν:Nu)(K:Nat):AB->Obj->Prop
 | .cells n t ty w _,.cells c ty' fz=>CR ν K n t ty w c ty' fz
 | .map es clock,.map UR VG=>VG=clock/\ER ν es UR.toList
 | .loop st pend T N ps as bo d,.loop r=>r.state=st/\r.pending=pend/\TRel ν N T r.tmps/\r.params=ps/\r.assign=as/\r.body=bo/\∃K',ν d=some (r.defers,K')
 | .dfr shut,.deferred c=>c=(match shut with|true=>none|false=>some [])
 |_,_=>False
def Jm:AB->Bool
 | .cells _ _ _ _ ro=>!ro
 |_=>true
structure HR(ν:Nu)(H:AH)(F:HL)(w:World):Prop where
 blk:∀h b,bS H h=some b->∃r K o,ν h=some (r,K)/\w.heap[r]?=some o/\OR ν K b o
 inj:∀h₁ h₂ b₁ b₂ r K₁ K₂,bS H h₁=some b₁->bS H h₂=some b₂->ν h₁=some (r,K₁)->ν h₂=some (r,K₂)->h₁=h₂
 frm:∀x∈F,w.heap[x.1]?=some x.2.den
 apt:∀h b r K,bS H h=some b->ν h=some (r,K)->∀x∈F,x.1≠r
section hp
variable {ν ν':Nu} {P:Program} {G N:Nat} {T T':Tr Value} {a:Act} {H:AH} {F:HL} {w:World}
theorem ER.mono{l:List (Value×Value×Nat)}{l':List MapEntry}(h:ER ν l l')(hl:ν.Le ν'):ER ν' l l':=by
 induction h with
 |nil=>exact .nil
 |cons k b hv _ ih=>exact .cons k b (hv.mono hl) ih
theorem OR.mono{b:AB}{o:Obj}(h:OR ν K b o)(hl:ν.Le ν'):OR ν' K b o:=by
 unfold OR at h ⊢;split at h
 ·exact⟨h.ty,h.le,h.fz,λ i hi=>let ⟨v',e,r⟩:=h.get i hi;⟨v',e,r.mono hl⟩,h.gr⟩
 ·exact⟨h.1,h.2.mono hl⟩
 ·obtain⟨h1,h2,h3,h4,h5,h6,K',h7⟩:=h;exact⟨h1,h2,h3.mono hl,h4,h5,h6,K',hl _ _ h7⟩
 ·exact h
 ·exact h.elim
theorem HR.lt(h:HR ν H F w){k:Nat}{b:AB}(hk:bS H k=some b)(hr:ν k=some (r,K)):r<w.heap.size:=by
 obtain⟨r',K',o,h1,h2,-⟩:=h.blk k b hk;rw[hr] at h1;cases h1;exact aW h2
theorem HR.cells(h:HR ν H F w){k:Nat}{t:Tr Value}{ro:Bool}(hk:bS H k=some (.cells n t ty ww ro))(hr:ν k=some (r,K)):∃c ty' fz,w.heap[r]?=some (.cells c ty' fz)/\CR ν K n t ty ww c ty' fz:=by
 obtain⟨r',K',o,h1,h2,h3⟩:=h.blk _ _ hk;rw[hr] at h1;cases h1;unfold OR at h3;split at h3
 ·rename_i e1;cases e1;exact⟨_,_,_,h2,h3⟩
 ·rename_i e1;cases e1
 ·rename_i e1;cases e1
 ·rename_i e1;cases e1
 ·exact h3.elim
theorem HR.map(h:HR ν H F w){k cl:Nat}(hk:bS H k=some (.map es cl))(hr:ν k=some (r,K)):∃UR,w.heap[r]?=some (.map UR cl)/\ER ν es UR.toList:=by
 obtain⟨r',K',o,h1,h2,h3⟩:=h.blk _ _ hk;rw[hr] at h1;cases h1;unfold OR at h3;split at h3
 ·rename_i e1;cases e1
 ·rename_i e1;cases e1;obtain⟨e,h4⟩:=h3;subst e;exact⟨_,h2,h4⟩
 ·rename_i e1;cases e1
 ·rename_i e1;cases e1
 ·exact h3.elim
theorem ma{c:Array Value}{i:Nat}(h:w.heap[b]?=some (.cells c ty fz)):w.cell? ⟨b,i,none⟩=c[i]?:=by
 simp[World.cell?,h]
theorem j0{c:Array Value}{n:Nat}{t:Tr Value}(hle:n<=c.size)(hg:∀i,i<n->∃v',c[i]?=some v'/\VRi ν (cK t i) v'):∀ (k i:Nat),i+k<=n->LR ν (gR t i k) ((c.toList.drop i).take k)
 |0,i,_=>by simp only[gR,List.take_zero];exact .nil
 |k+1,i,h=>by
  obtain⟨v',e,r⟩:=hg i (by omega);have iN:i<c.toList.length:=by simp;omega
  rw[eB iN,List.take_succ_cons];have:c.toList[i]=v':=by
   have:=(fx.1 e).2;simpa using this
  rw[this];exact .cons r (j0 hle hg k (i+1) (by omega))
theorem mQ{b off:Nat}:∀ (vs:List Value) (i:Nat) (acc:Array Value),(∀j (hj:j<vs.length),w.cell? ⟨b,off+(i+j),none⟩=some vs[j])->(loadCellsFrom ⟨b,off,none⟩ i vs.length acc).run P w=.ok (acc++⟨vs⟩) w
 | [],i,acc,_=>by simp[loadCellsFrom,b7]
 |v::vs,i,acc,h=>by
  rw[aaZ,loadCellsFrom,abg];have h0:=h 0 (by simp);simp only[acK,List.getElem_cons_zero] at h0;have h1:(load ((⟨b,off,none⟩:Addr).add i)).run P w=.ok v w:=by
   rw[nq];unfold load;rw[Sem.run,h0];rfl
  rw[h1];simp only[abf];rw[mQ vs (i+1) _ (λ j hj=>by
   have:=h (j+1) (by simp;omega);simp only[ac7] at this;rw[<- this];congr 2;omega)]
  simp
theorem zl{c:Array Value}{tr:Tr Value}{v:Value}(hw:w.heap[b]?=some (.cells c ty fz))(hle:n<=c.size)(hg:∀i,i<n->∃v',c[i]?=some v'/\VRi ν (cK tr i) v')
  (h:(match yR P t with
   |true=>match Nat.blt off n with
    |true=>some (cK tr off)
    |false=>none
   |false=>match BN P t with
    |some k=>match Nat.ble (off+k) n with
     |true=>some (.agg ⟨gR tr off k⟩)
     |false=>none
    |none=>none)=some v):∃v',VRi ν v v'/\(loadVar t ⟨b,off,none⟩).run P w=.ok v' w:=by
 split at h
 ·rename_i h1;split at h
  ·rename_i iN;cases h;obtain⟨v',e,r⟩:=hg off (dF iN);refine⟨v',r,?_⟩;unfold loadVar;rw[abg,zh h1];simp only[abf,adJ,if_false];unfold load;rw[Sem.run,ma hw,e];rfl
  ·cases h
 ·split at h
  ·rename_i k hk;split at h
   ·rename_i iN;cases h;obtain⟨h1,h2,h3⟩:=zi hk;have YD:=aaH iN;have hl:=j0 hle hg k off YD;refine⟨.agg ⟨(c.toList.drop off).take k⟩,.agg_of hl,?_⟩;have hlen:((c.toList.drop off).take k).length=k:=by simp;omega
    unfold loadVar;rw[abg,h1];simp only[abf,if_true];rw[abg,h2];simp only[abf];rw[abg];unfold loadCells;have:=mQ (P:=P) (w:=w) (b:=b) (off:=off) ((c.toList.drop off).take k) 0 #[] (λ j hj=>by
     rw[ma hw];have X5:off+(0+j)<c.size:=by rw[hlen] at hj;omega
     rw[sv X5];simp)
    rw[hlen] at this;rw[this];simp[Result.andThen,b7]
   ·cases h
  ·cases h
theorem zm{v:Value}(hH:HR ν H F w)(hp:VRi ν (.pointer (some ad)) (.pointer (some ad')))(h:uK P t H ad=some v):∃v',VRi ν v v'/\(loadVar t ad').run P w=.ok v' w:=by
 cases hp with
 |atom _ h=>simp[cq] at h
 | @ptr hd b K o hν=>
  unfold uK at h;split at h
  case h_2=>cases h
  rename_i n tr ty ww ro hs hb;simp only at hb h;obtain⟨c,ty',fz,hw,hc⟩:=hH.cells hb hν;exact zl hw hc.le hc.get h
def wC:TypeDesc->Value->Bool
 | .int _,.int _ _=>true
 | .string,.string _=>true
 | .bool,.bool _=>true
 |_,_=>false
theorem B2(h:I5 P t k=true):∃d,P.underlying t=some d/\wC d k=true:=by
 unfold I5 at h;split at h <;> first|(cases h;done)|(rename_i e;exact⟨_,e,rfl⟩)
theorem sA{d:TypeDesc}(h:wC d k=true):pl k=true/\cq k=true:=by
 unfold wC at h;split at h <;> first|(cases h;done)|exact⟨rfl,rfl⟩
theorem gy{d:TypeDesc}{k':Value}{r:Bool}(h:lF k k'=some r)(hk:wC d k=true):Instr.sameNow d k k'=some r:=by
 unfold wC at hk;split at hk <;> first|(cases hk;done)|skip
 ·rename_i k1 k2 n1;cases k' with
  |int k3 n2=>
   unfold lF at h
   by_cases e:k2=k3
   ·simp only[e,decide_true] at h;cases h;simp[Instr.sameNow,e]
   ·simp[e] at h
  |_=>simp[lF] at h
 ·cases k' with
  |string s2=>unfold lF at h;cases h;rfl
  |_=>simp[lF] at h
 ·cases k' with
  |bool s2=>unfold lF at h;cases h;rfl
  |_=>simp[lF] at h
theorem fZ(h:I5 P t k=true)(e:Bool)(w:World):(Instr.checkKey e 10000 t k).run P w=.ok () w:=by
 obtain⟨d,hd,hk⟩:=B2 h;rw[show (10000:Nat)=9999+1 from rfl,Instr.checkKey.eq_def];simp only;rw[abg,aE hd];unfold wC at hk;split at hk <;> first|(cases hk;done)|rfl
theorem uT{d:TypeDesc}(hk:wC d k=true){UR:List MapEntry}(h:ER ν es UR):∀ {r:Option Value} (i:Nat),yT k es=some r->
  (r=none/\Instr.findNow d k UR i=some none)\/(∃v v' j,r=some v/\VRi ν v v'/\Instr.findNow d k UR i=some (some (j,v'))):=by
 induction h with
 |nil=>intro r i h;rw[yT] at h;cases h;exact .inl ⟨rfl,rfl⟩
 |cons k' b hv _ ih=>
  intro r i h;rw[yT] at h;split at h
  ·rename_i e;cases h;exact .inr ⟨_,_,i,rfl,hv,by rw[Instr.findNow];simp only[gy e hk]⟩
  ·rename_i e;rcases ih (i+1) h with ⟨h1,h2⟩|⟨v,v',j,h1,h2,h3⟩
   ·exact .inl ⟨h1,by rw[Instr.findNow];simp only[gy e hk];exact h2⟩
   ·exact .inr ⟨v,v',j,h1,h2,by rw[Instr.findNow];simp only[gy e hk];exact h3⟩
  ·cases h
theorem uU{z:Value}(h:Db P t=some z)(w:World):(zeroValue t).run P w=.ok z w/\pl z=true:=by
 unfold Db at h;split at h
 case h_2=>cases h
 rename_i i hi;split at h
 case h_2=>cases h
 rename_i zv hz;split at h
 case h_2=>cases h
 rename_i hp;cases h;refine⟨?_,hp⟩;unfold zeroValue;rw[abg,cL hi];simp only[abf,hz];rfl
theorem pG{ok b:Bool}{v:Value}(h:VRi ν v v'):VRi ν (Dc ok v b) (if ok=true then .tuple #[v',.bool b] else v'):=by
 cases ok with
 |true=>exact .tuple_of (.cons h (.cons (.atom _ rfl) .nil))
 |false=>exact h
theorem Jn{m m':Value}{ok:Bool}{v:Value}(hH:HR ν H F w)(hm:VRi ν m m')(h:I6 P t H m k ok=some v):pl k=true/\∃v',VRi ν v v'/\(Instr.lookup t m' k ok).run P w=.ok v' w:=by
 unfold I6 at h;split at h
 case h_2=>cases h
 rename_i kt et hu;split at h
 case h_2=>cases h
 rename_i hk;obtain⟨d,hd,Zp⟩:=B2 hk;have hf:∀es,(∀r,Instr.findNow d k es 0=some r->(Instr.findKey kt k es).run P w=.ok r w):=λ es r hr=>by
  unfold Instr.findKey;rw[abg,aE hd];simp only[abf,hr];rfl
 refine⟨(sA Zp).1,?_⟩;split at h
 ·split at h
  ·rename_i z hz;cases h;cases hm;obtain⟨h1,h2⟩:=uU hz w;refine⟨_,pG (.plain_refl _ h2),?_⟩;unfold Instr.lookup;rw[abg,aE hu];simp only[abf,abg,b7,fZ hk,hf [] none rfl,h1]
   try (cases ok <;> rfl)
  ·cases h
 ·rename_i r;split at h
  ·rename_i es cl hb;cases hm with
   |atom _ h=>simp[cq] at h
   | @map _ b K hν=>
   obtain⟨UR,hw,hE⟩:=hH.map hb hν;have hg:(getObj b).run P w=.ok (.map UR cl) w:=gh hw;split at h
   ·rename_i v0 hfi;cases h;rcases uT Zp hE 0 hfi with ⟨h1,h2⟩|⟨v1,v',j,h1,h2,h3⟩
    ·cases h1
    ·cases h1;refine⟨_,pG h2,?_⟩;unfold Instr.lookup;rw[abg,aE hu];simp only[abf,abg,hg,b7,fZ hk,hf _ _ h3]
     try (cases ok <;> rfl)
   ·rename_i hfi;split at h
    ·rename_i z hz;cases h;obtain⟨h1,h2⟩:=uU hz w;rcases uT Zp hE 0 hfi with ⟨h3,h4⟩|⟨v1,v',j,h3,h4,h5⟩
     ·refine⟨_,pG (.plain_refl _ h2),?_⟩;unfold Instr.lookup;rw[abg,aE hu];simp only[abf,abg,hg,b7,fZ hk,hf _ _ h4,h1]
      try (cases ok <;> rfl)
     ·cases h3
    ·cases h
   ·cases h
  ·cases h
 ·cases h
end hp
section sl
variable {ν ν':Nu} {P:Program} {G N:Nat} {T T':Tr Value} {a:Act} {H:AH} {F:HL} {w:World}
def Pw(x:Option Value)(n d:Nat):Prop:=(x=none/\n=d)\/∃k,x=some (.int k (n:Int))
theorem sB{k:IntKind}{y:Nat}{c:BoundsCode}(h:n<=y)(w:World):(Instr.sliceBound (.int k (n:Int)) y c).run P w=.ok n w:=by
 simp[Instr.sliceBound,asIntOf,h,go_sem]
theorem nu{b:Bool}{len cap l h m:Nat}{lo hi mx:Option Value}(o1:Pw lo l 0)(o2:Pw hi h len)(o3:Pw mx m cap)(hm:mx=none\/hi≠none)(h1:l<=h)(h2:h<=m)(h3:m<=cap)(w:World) :
  (Instr.sliceBounds b len cap lo hi mx).run P w=.ok (l,h,m) w:=by
 unfold Instr.sliceBounds;rcases o1 with ⟨rfl,rfl⟩|⟨k1,rfl⟩ <;> rcases o2 with ⟨rfl,rfl⟩|⟨k2,rfl⟩ <;> rcases o3 with ⟨rfl,rfl⟩|⟨k3,rfl⟩ <;>
  first
   | (rcases hm with e|e <;> first|(cases e;done)|exact(e rfl).elim)
   |simp[abg,sB,h1,h2,h3]
theorem j4{d:Nat}{x:Option Operand}(iF:∀y,x=some y->VRi ν (ael T y) (a.eval y))(h:wx T d x=some n):Pw (x.map a.eval) n d:=by
 cases x with
 |none=>rw[wx] at h;cases h;exact .inl ⟨rfl,rfl⟩
 |some y=>
  rw[wx] at h;obtain⟨k,e⟩:=nr h (iF y rfl);exact .inr ⟨k,by simp[e]⟩
theorem zn(h o m l k:Nat):Dd ⟨h,o,none⟩ m l k=⟨h,if m=l then o else o+l*k,none⟩:=by
 unfold Dd;split
 ·rename_i e;rw[if_pos (abd e)]
 ·rename_i e;rw[if_neg (λ e'=>by subst e';simp at e),oA]
theorem zo(b o m l k:Nat):(if m=l then (⟨b,o,none⟩:Addr) else (⟨b,o,none⟩:Addr).add (l*k))=⟨b,if m=l then o else o+l*k,none⟩:=by
 split
 ·rfl
 ·rw[nq]
theorem bK{a:Nat}(h:Nat.ble a b=true):a<=b:=aaH h
theorem sC{k l h m c c':Nat}{base D_:Option Addr}{n':Nat}{v:Value}(hr:VRi ν (.slice base n c) (.slice D_ n' c'))(hc:c<l9)(hv:wy k base l h m c=some v) :
  l<=h/\h<=m/\m<=c/\VRi ν v (.slice (if m=l then D_ else D_.map (·.add (l*k))) (h-l) (m-l)):=by
 unfold wy at hv;split at hv
 case h_2=>cases hv
 rename_i h1 h2 h3;refine⟨bK h1,bK h2,bK h3,?_⟩;have h3':=bK h3;split at hv
 ·cases hv;cases hr;split <;> exact .atom _ rfl
 ·split at hv
  ·cases hv;cases hr with
   |atom _ h=>simp[cq] at h
   | @slice _ b _ _ _ o n hν hcap=>
    rw[zn];have:(if m=l then (some ⟨b,o,none⟩:Option Addr) else (some ⟨b,o,none⟩:Option Addr).map (·.add (l*k)))=some ⟨b,if m=l then o else o+l*k,none⟩:=by
     rw[<- zo];split <;> rfl
    rw[this];exact .slice _ _ hν ⟨λ _=>rfl,λ e=>by omega⟩
  ·cases hv
theorem FJ{x:Value}{ρx:Value}{lo hi mx:Option Operand}{v:Value}(hH:HR ν H F w)(hx:VRi ν x ρx)(Zo:∀y,lo=some y->VRi ν (ael T y) (a.eval y))(hhi:∀y,hi=some y->VRi ν (ael T y) (a.eval y))(hmx:∀y,mx=some y->VRi ν (ael T y) (a.eval y))
  (h:BR P t H T x lo hi mx=some v):∃v',VRi ν v v'/\(Instr.sliceAt t ρx (lo.map a.eval) (hi.map a.eval) (mx.map a.eval)).run P w=.ok v' w:=by
 unfold BR at h;split at h
 ·cases h
 rename_i hmo;have abR:(mx.map a.eval=none\/hi.map a.eval≠none):=by
  unfold Ry at hmo;split at hmo
  ·cases hmo
  ·rename_i e;cases mx with
   |none=>exact .inl rfl
   |some m=>cases hi with
    |none=>exact(e _ rfl rfl).elim
    |some hh=>exact .inr (by simp)
 split at h
 ·rename_i el hu;split at h
  case h_2=>cases h
  rename_i base n c;split at h
  case h_2=>cases h
  rename_i k l hh hs hl hhn;have Ug:=dX hs w;have b1:=j4 Zo hl;have b2:=j4 hhi hhn;split at h
  ·rename_i hc;have Vl:=dF hc;split at h
   case h_2=>cases h
   rename_i m hm;have b3:=j4 hmx hm;have Yw:∃D_,ρx=.slice D_ n c/\VRi ν (.slice base n c) (.slice D_ n c):=by
    cases hx with
    |atom _ h=>exact⟨_,rfl,.atom _ h⟩
    |slice o n hν hcap=>obtain rfl:=hcap.1 Vl;exact⟨_,rfl,.slice o n hν hcap⟩
   obtain⟨D_,rfl,hr⟩:=Yw;obtain⟨g1,g2,g3,g4⟩:=sC hr Vl h;refine⟨_,g4,?_⟩;unfold Instr.sliceAt;rw[abg,aE hu];simp only[abf];unfold Instr.slice;rw[abg,aE hu];simp only[abf];rw[abg,nu b1 b2 b3 abR g1 g2 g3];simp only[abf];rw[abg,Ug];rfl
  ·rename_i hc;have Vl:l9<=c:=by
    rcases aa9 c l9 with e|e
    ·have:Nat.blt c l9=true:=ado e;rw[this] at hc;cases hc
    ·exact e
   split at h
   case h_2=>cases h
   rename_i ad mo VT;cases hx with
   |atom _ h=>simp[cq] at h
   | @slice hd b K _ c' o n hν hcap=>
   have Vy:=hcap.2 Vl;unfold I7 at h;split at h
   case h_2=>cases h
   rename_i nn tr ty ww ro Xw hb;split at h
   case h_2=>cases h
   rename_i e1 e2 e3 e4;simp only at hb;obtain⟨cc,ty',fz,hw,XV⟩:=hH.cells hb hν;have e1':ww=k:=abd e1;have e2':=dF e2;have e3':=bK e3;have e4':=bK e4;have L_:=XV.gr (by omega);have hle:=XV.le;have acb:∀q,(c-l9+q)*ww<=nn->q<=c':=λ q hq=>by
    have:(c-l9+q)*ww<=K*ww:=by omega
    have:=afw this e2';omega
   have iO:∀ (m:Nat),Pw (mx.map a.eval) m c'->hh<=m->m<=c'->(Instr.sliceAt t (.slice (some ⟨b,o,none⟩) n c') (lo.map a.eval) (hi.map a.eval) (mx.map a.eval)).run P w=.ok (.slice (some ⟨b,if m=l then o else o+l*k,none⟩) (hh-l) (m-l)) w:=λ m b3 g2 g3=>by
    unfold Instr.sliceAt;rw[abg,aE hu];simp only[abf];unfold Instr.slice;rw[abg,aE hu];simp only[abf];rw[abg,nu b1 b2 b3 abR e3' g2 g3];simp only[abf];rw[abg,Ug];have:(if m=l then (some ⟨b,o,none⟩:Option Addr) else (some ⟨b,o,none⟩:Option Addr).map (·.add (l*k)))=some ⟨b,if m=l then o else o+l*k,none⟩:=by
     rw[<- zo];split <;> rfl
    simp only[abf,this,b7]
   split at h
   ·have hmn:mx=none:=by
     unfold Pt at VT;split at VT
     ·rfl
     ·split at VT <;> cases VT
    subst hmn;have b3:Pw ((none:Option Operand).map a.eval) c' c':=.inl ⟨rfl,rfl⟩;split at h
    ·rename_i iN;have ZV:=dF iN;cases h;have g:=acb _ e4';refine⟨_,?_,iO c' b3 g (aaI _)⟩;rw[oA,if_neg (by omega)];exact .slice _ _ hν ⟨λ e=>by omega,λ e=>by omega⟩
    ·rename_i Zm;split at h
     ·cases h;have g:=acb _ e4';have hh0:hh=0:=by
       rcases acq hh with e|e
       ·exact e
       ·have:Nat.blt 0 hh=true:=ado e;rw[this] at Zm;cases Zm
      subst hh0;refine⟨_,?_,iO c' b3 g (aaI _)⟩;simp only[aeL,acK,ite_self,afB];exact .slice _ _ hν hcap
     ·cases h
   ·rename_i m;split at h
    case h_2=>cases h
    rename_i q1 q2 q3;cases h;have hmn:∃y,mx=some y/\Ly (ael T y)=some m:=by
     unfold Pt at VT;split at VT
     ·cases VT
     ·rename_i y;split at VT
      ·rename_i n' e';cases VT;exact⟨y,rfl,e'⟩
      ·cases VT
    obtain⟨y,rfl,ey⟩:=hmn;obtain⟨kk,ey'⟩:=nr ey (hmx y rfl);have b3:Pw ((some y:Option Operand).map a.eval) m c':=.inr ⟨kk,by simp[ey']⟩;refine⟨_,?_,iO m b3 (bK q1) (acb _ (bK q2))⟩;rw[zn];have:=dF q3;exact .slice _ _ hν ⟨λ _=>rfl,λ e=>by omega⟩
 ·rename_i n el hu;split at h
  case h_2=>cases h
  rename_i ad;split at h
  case h_2=>cases h
  rename_i k l hh m hs hl hhn hm;have Ug:=dX hs w;have b1:=j4 Zo hl;have b2:=j4 hhi hhn;have b3:=j4 hmx hm;split at h
  case h_2=>cases h
  rename_i hn;cases hx with
  |atom _ h=>simp[cq] at h
  | @ptr hd b K o hν=>
  obtain⟨g1,g2,g3,g4⟩:=sC (n:=0) (n':=0) (c':=n) (.slice o 0 hν ⟨λ _=>rfl,λ e=>by have:=dF hn;omega⟩:VRi ν (.slice (some ⟨hd,o,none⟩) 0 n) (.slice (some ⟨b,o,none⟩) 0 n)) (dF hn) h;refine⟨_,g4,?_⟩;unfold Instr.sliceAt;rw[abg,aE hu];simp only[abf];rw[abg];simp only[Instr.sureAddr,b7,abf];rw[abg,nu b1 b2 b3 abR g1 g2 g3];simp only[abf];rw[abg,Ug];have:(if m=l then (some ⟨b,o,none⟩:Option Addr) else (some ⟨b,o,none⟩:Option Addr).map (·.add (l*k)))=some (if m=l then ⟨b,o,none⟩ else (⟨b,o,none⟩:Addr).add (l*k)):=by split <;> rfl
  rw[this];rfl
 ·cases h
theorem zp{v:Value}(hH:HR ν H F w)(h:jy P o T H=some v){l:List Operand}(hl:bV o.op=some l)(iF:OK ν T a l):∃v',VRi ν v v'/\(execOp a.eval o).run P w=.ok (.value v') w:=by
 have XA:=hl;unfold jy at h;split at h
 ·rename_i t x ho;rw[ho] at hl;simp only[bV,de] at hl;subst hl;have hx:=iF x (by simp);split at h
  ·rename_i ad e;rw[e] at hx;generalize hu:a.eval x=u at hx;have hx2:=hx;cases hx with
   |atom _ h=>simp[cq] at h
   |ptr o hν=>
    obtain⟨v',r,e2⟩:=zm hH hx2 h;refine⟨v',r,?_⟩;simp[execOp,ho,Instr.loadAt,Instr.sureAddr,hu,abg,e2]
  ·cases h
 ·rename_i t m k ok ho;rw[ho] at hl;simp only[bV,de] at hl;subst hl;obtain⟨hp,v',r,e⟩:=Jn hH (iF m (by simp)) h;have hk:=(iF k (by simp)).plain_eq hp;refine⟨v',r,?_⟩;simp[execOp,ho,hk,abg,e]
 ·rename_i t x lo hi mx ho;split at h
  ·obtain⟨v',r,e⟩:=pF h XA iF;exact⟨v',r,e w⟩
  ·rw[ho] at hl;simp only[bV,de] at hl;subst hl;obtain⟨v',r,e⟩:=FJ (a:=a) hH (iF x (by simp)) (λ y hy=>iF y (by subst hy;simp)) (λ y hy=>iF y (by subst hy;simp)) (λ y hy=>iF y (by subst hy;simp)) h;refine⟨v',r,?_⟩;simp[execOp,ho,abg,e]
 ·cases h
end sl
section wr
variable {ν ν':Nu} {P:Program} {G N:Nat} {T T':Tr Value} {a:Act} {H H':AH} {F:HL} {w w':World}
theorem dt{H:AH}{h k:Nat}{b:Option AB}:bS (cJ H h b) k=if h=k then b else bS H k:=jb
theorem HR.upd(hH:HR ν H F w){h:Nat}{b0 b1:AB}{o':Obj}(hb:bS H h=some b0)(hw0:Jm b0=true)(hw1:Jm b1=true)(hν:ν h=some (r,K))(hr:w'.heap[r]?=some o')(ho:OR ν K b1 o')(hs:∀k,k≠r->w'.heap[k]?=w.heap[k]?):HR ν (cJ H h (some b1)) F w':=by
 have AT:∀k b,bS (cJ H h (some b1)) k=some b->k≠h->bS H k=some b:=λ k b hk u_=>by
  rw[dt,if_neg (Ne.symm u_)] at hk;exact hk
 have ex:∀k b,bS (cJ H h (some b1)) k=some b->∃b',bS H k=some b'/\(Jm b=true->Jm b'=true):=λ k b hk=>by
  by_cases e:k=h
  ·subst e;exact⟨b0,hb,λ _=>hw0⟩
  ·exact⟨b,AT k b hk e,λ e=>e⟩
 refine⟨λ k b hk=>?_,λ k1 k2 b1' b2' q K1 K2 h1 h2 h3 h4=>?_,λ x hx=>?_,λ k b q K' hk hq x hx=>?_⟩
 ·by_cases e:k=h
  ·subst e;rw[dt,if_pos rfl] at hk;cases hk;exact⟨r,K,o',hν,hr,ho⟩
  ·have UJ:=AT k b hk e;obtain⟨q,K',o,h1,h2,h3⟩:=hH.blk k b UJ;refine⟨q,K',o,h1,?_,h3⟩;rw[hs q,h2];intro e';subst e';exact e (hH.inj _ _ _ _ _ _ _ UJ hb h1 hν)
 ·obtain⟨c1,d1,-⟩:=ex _ _ h1;obtain⟨c2,d2,-⟩:=ex _ _ h2;exact hH.inj _ _ _ _ _ _ _ d1 d2 h3 h4
 ·rw[hs _ (hH.apt _ _ _ _ hb hν x hx)];exact hH.frm x hx
 ·obtain⟨c1,d1,d2⟩:=ex _ _ hk;exact hH.apt _ _ _ _ d1 hq x hx
theorem HR.del(hH:HR ν H F w)(h:Nat):HR ν (cJ H h none) F w:=by
 have AT:∀k b,bS (cJ H h none) k=some b->bS H k=some b:=λ k b hk=>by
  rw[dt] at hk;split at hk
  ·cases hk
  ·exact hk
 exact⟨λ k b hk=>hH.blk k b (AT k b hk),λ k1 k2 b1 b2 q K1 K2 h1 h2 h3 h4=>hH.inj _ _ _ _ _ _ _ (AT _ _ h1) (AT _ _ h2) h3 h4,hH.frm,λ k b q K hk=>hH.apt k b q K (AT k b hk)⟩
theorem HR.add(hH:HR ν H F w){b:AB}{o:Obj}(hn:ν n=none)(hr:w.heap[r]?=some o)(ho:OR ν K b o)(hwb:Jm b=true)(hF:∀x∈F,x.1≠r)(Xk:∀k b' K',bS H k=some b'->ν k≠some (r,K')):HR (ν.upd n r K) (cJ H n (some b)) F w:=by
 have hle:ν.Le (ν.upd n r K):=jY hn;have VJ:bS H n=none:=by
  cases e:bS H n with
  |none=>rfl
  |some b'=>obtain⟨q,K',o',h1,-⟩:=hH.blk n b' e;rw[hn] at h1;cases h1
 have AT:∀k b',bS (cJ H n (some b)) k=some b'->k≠n->bS H k=some b':=λ k b' hk u_=>by
  rw[dt,if_neg (Ne.symm u_)] at hk;exact hk
 refine⟨λ k b' hk=>?_,λ k1 k2 b1 b2 q K1 K2 h1 h2 h3 h4=>?_,hH.frm,λ k b' q K' hk hq x hx=>?_⟩
 ·by_cases e:k=n
  ·subst e;rw[dt,if_pos rfl] at hk;cases hk;exact⟨r,K,o,b6,hr,ho.mono hle⟩
  ·obtain⟨q,K',o',h1,h2,h3⟩:=hH.blk k b' (AT k b' hk e);exact⟨q,K',o',hle _ _ h1,h2,h3.mono hle⟩
 ·by_cases e1:k1=n
  ·by_cases e2:k2=n
   ·rw[e1,e2]
   ·subst e1;rw[b6] at h3;rw[eE e2] at h4;cases h3;exact(Xk _ _ _ (AT _ _ h2 e2) h4).elim
  ·by_cases e2:k2=n
   ·subst e2;rw[b6] at h4;rw[eE e1] at h3;cases h4;exact(Xk _ _ _ (AT _ _ h1 e1) h3).elim
   ·rw[eE e1] at h3;rw[eE e2] at h4;exact hH.inj _ _ _ _ _ _ _ (AT _ _ h1 e1) (AT _ _ h2 e2) h3 h4
 ·by_cases e:k=n
  ·subst e;rw[b6] at hq;cases hq;exact hF x hx
  ·rw[eE e] at hq;exact hH.apt _ _ _ _ (AT _ _ hk e) hq x hx
theorem HR.world(hH:HR ν H F w)(hs:∀k,k<w.heap.size->w'.heap[k]?=w.heap[k]?):HR ν H F w':=by
 refine⟨λ k b hk=>?_,hH.inj,λ x hx=>?_,hH.apt⟩
 ·obtain⟨q,K',o',h1,h2,h3⟩:=hH.blk k b hk;exact⟨q,K',o',h1,by rw[hs _ (aW h2)];exact h2,h3⟩
 ·have:=hH.frm x hx;rw[hs _ (aW this)];exact this
theorem HR.new(hH:HR ν H F w){b:AB}{o:Obj}(hn:ν n=none)(ho:OR ν K b o)(hwb:Jm b=true)(hw:w'.heap=w.heap.push o):HR (ν.upd n w.heap.size K) (cJ H n (some b)) F w':=by
 have h1:HR ν H F w':=hH.world (λ k hk=>by rw[hw,afg,if_neg (by omega)]);refine h1.add hn (by rw[hw];simp) ho hwb (λ x hx e=>?_) (λ k b' K' hk e=>?_)
 ·have:=aW (hH.frm x hx);omega
 ·have:=hH.lt hk e;omega
theorem lH{l:List Value}{i:Nat}(h:i<l.length):cK (dE undef l 0 .lf) i=l[i]:=by
 unfold cK;rw[qY];simp[h]
theorem uV(l:List Value)(ty:TypeId):jG l ty=.cells l.length (dE undef l 0 .lf) ty 0 false:=by
 unfold jG;split <;> rename_i h <;> rw[h,dU]
theorem j5(l:List Value)(ty:TypeId)(k:Nat):wA l ty k=.cells l.length (dE undef l 0 .lf) ty k false:=by
 unfold wA;split <;> rename_i h <;> rw[h,dU]
theorem Oj{l l' rest:List Value}(h:LR ν l l')(hk:ww≠0->(l'++rest).length=K*ww):CR ν K l.length (dE undef l 0 .lf) ty ww ⟨l'++rest⟩ ty (0,0):=by
 refine⟨rfl,by simp[h.length],rfl,λ i hi=>?_,λ e=>by simpa using hk e⟩;obtain⟨v',e,r⟩:=h.get (aa1 hi);refine⟨v',?_,by rw[lH hi];exact r⟩;have:(l'++rest)[i]?=some v':=by rw[aa2 (by rw[h.length];exact hi)];exact e
 simpa using this
theorem OR.cellsB{l l':List Value}(h:LR ν l l'):OR ν K (jG l ty) (.cells ⟨l'⟩ ty (0,0)):=by
 rw[uV];have:=Oj (ty:=ty) (ww:=0) (K:=K) (rest:=[]) h (λ e=>(e rfl).elim);have h2:CR ν K l.length (dE undef l 0 .lf) ty 0 ⟨l'⟩ ty (0,0):=by simpa using this
 exact h2
theorem kC{l:List Value}:Jm (jG l ty)=true:=by rw[uV];rfl
theorem sD(t:Tr Value):∀ (vs:List Value) (i j:Nat),cK (kq t i vs) j=if h:i<=j/\j-i<vs.length then vs[j-i] else cK t j:=by
 intro vs
 induction vs generalizing t with
 |nil=>intro i j;simp[kq]
 |cons v vs ih=>
  intro i j;rw[kq,ih];have cJ:cK (tK t i v) j=if i=j then v else cK t j:=jb
  by_cases h1:i=j
  ·subst h1;have:¬ (i+1<=i/\i-(i+1)<vs.length):=by omega
   rw[dif_neg this,cJ,if_pos rfl];simp
  ·by_cases h2:i<=j
   ·have h4:j-i=(j-(i+1))+1:=by omega
    by_cases h3:j-(i+1)<vs.length
    ·rw[dif_pos ⟨by omega,h3⟩,dif_pos ⟨h2,by rw[aaZ];omega⟩];simp only[h4,ac7]
    ·rw[dif_neg (by omega),dif_neg (by rw[aaZ];omega),cJ,if_neg h1]
   ·rw[dif_neg (by omega),dif_neg (by omega),cJ,if_neg h1]
theorem ia(b:Nat):∀ (vs:List Value) (o:Nat) (w:World) (k:Nat),k≠b->(w.setCells b o vs).heap[k]?=w.heap[k]?
 | [],_,_,_,_=>rfl
 |v::vs,o,w,k,h=>by rw[World.setCells,ia b vs _ _ _ h,afz _ _ _ _ h]
theorem ie(b:Nat):∀ (vs:List Value) (o:Nat) (w:World),Below 0 w (w.setCells b o vs)
 | [],_,w=>jt 0 w
 |v::vs,o,w=>by
  rw[World.setCells];exact((jt 0 w).setCell (aaJ _) v).trans (ie b vs (o+1) _)
theorem lI(b:Nat):∀ (vs:List Value) (o:Nat) (w:World) {c:Array Value} {ty:TypeId} {fz:Nat×Nat},w.heap[b]?=some (.cells c ty fz)->∃c',(w.setCells b o vs).heap[b]?=some (.cells c' ty fz)/\c'.size=c.size/\∀j,j<c.size->c'[j]?=if h:o<=j/\j-o<vs.length then some vs[j-o] else c[j]?
 | [],o,w,c,ty,fz,h=>⟨c,h,rfl,λ j _=>by simp⟩
 |v::vs,o,w,c,ty,fz,h=>by
  have h1:(w.setCell ⟨b,o,none⟩ v).heap[b]?=some (.cells (c.setIfInBounds o v) ty fz):=by
   simp[World.setCell,acf,h]
  obtain⟨c',e1,e2,e3⟩:=lI b vs (o+1) _ h1;refine⟨c',e1,by simpa using e2,λ j hj=>?_⟩;rw[e3 j (by simpa using hj)]
  by_cases h2:o=j
  ·subst h2;rw[dif_neg (by omega),dif_pos ⟨aaI _,by simp⟩,lv hj];simp
  ·rw[vo h2]
   by_cases h3:o<=j
   ·have h4:j-o=(j-(o+1))+1:=by omega
    by_cases h5:j-(o+1)<vs.length
    ·rw[dif_pos ⟨by omega,h5⟩,dif_pos ⟨h3,by rw[aaZ];omega⟩];simp only[h4,ac7]
    ·rw[dif_neg (by omega),dif_neg (by rw[aaZ];omega)]
   ·rw[dif_neg (by omega),dif_neg (by omega)]
theorem B4{v:Value}{l:List Value}(hf:jV (v::l)=true):(∀cs,v≠Value.agg cs)/\(∀cs,v≠Value.tuple cs)/\jV l=true:=by
 cases v <;> simp[jV] at hf <;> simp[hf]
theorem uW(h:LR ν vs O_)(hf:jV vs=true):∀u∈O_,u.oneCell'=true:=by
 induction h with
 |nil=>intro u hu;cases hu
 |cons hv _ ih=>
  intro u hu;obtain⟨h1,h2,h3⟩:=B4 hf;rcases abL.1 hu with rfl|hu
  ·cases hv <;> first|rfl|exact(h1 _ rfl).elim|exact(h2 _ rfl).elim|skip
   rename_i v0 _ _ _ e;cases v0 <;> first|rfl|simp[cq] at e
  ·exact ih h3 u hu
theorem pH{h o:Nat}(hH:HR ν H F w)(hν:ν h=some (b,K))(hl:LR ν vs O_)(hp:pC H ⟨h,o,none⟩ vs=some H') :
  (∀j,j<O_.length->(w.cell? ⟨b,o+j,none⟩).isSome=true)/\(∀j,j<O_.length->w.frozen? ⟨b,o+j,none⟩=false)/\(∀u∈O_,u.oneCell'=true)/\HR ν H' F (w.setCells b o O_)/\Below 0 w (w.setCells b o O_):=by
 unfold pC at hp;split at hp
 case h_2=>cases hp
 rename_i n tr ty ww hs hb;split at hp
 case h_2=>cases hp
 rename_i hle hf;cases hp;simp only at hb;obtain⟨c,ty',fz,hw,hc⟩:=hH.cells hb hν;have ZW:=bK hle;rw[dU] at ZW;simp only at ZW;have hlen:=hl.length;have XU:=hc.le;refine⟨λ j hj=>?_,λ j hj=>?_,uW hl hf,?_,ie _ _ _ _⟩
 ·rw[ma hw,sv (by omega)];rfl
 ·obtain⟨lo,hi⟩:=fz;have:=hc.fz;cases this;simp[World.frozen?,hw]
 ·obtain⟨c',e1,e2,e3⟩:=lI b O_ o w hw;refine hH.upd (b1:=.cells n (kq tr o vs) ty ww false) hb rfl rfl hν e1 ?_ (λ k hk=>ia b O_ o w k hk);refine⟨hc.ty,by rw[e2];exact XU,hc.fz,λ i hi=>?_,λ e=>by rw[e2];exact hc.gr e⟩;rw[e3 i (by omega),sD]
  by_cases h1:o<=i/\i-o<vs.length
  ·obtain⟨v',g1,g2⟩:=hl.get (aa1 h1.2);rw[dif_pos h1,dif_pos ⟨h1.1,by rw[hlen];exact h1.2⟩];refine⟨v',?_,g2⟩;rw[<- g1,aa1]
  ·rw[dif_neg h1,dif_neg (by rw[hlen];exact h1)];exact hc.get i hi
theorem FK{v:Value}(hH:HR ν H F w)(hp:VRi ν (.pointer (some ad)) (.pointer (some ad')))(hv:VRi ν v v')(h:wz P t H ad v=some H'):∃w',(storeVar t ad' v').run P w=.ok () w'/\HR ν H' F w'/\Below 0 w w':=by
 cases hp with
 |atom _ h=>simp[cq] at h
 | @ptr hd b K o hν=>
  unfold wz at h;split at h
  case h_2=>cases h
  rename_i k hk;split at h
  case h_2=>cases h
  rename_i hl;have XV:=ky hv;obtain⟨h1,h2,h3,h4,h5⟩:=pH hH hν XV h;refine⟨_,?_,h4,h5⟩;have L_:v'.cells.size=k:=by
   have e1:=abd hl;rw[dU,<- XV.length,gx] at e1;simpa using e1
  unfold storeVar;rw[abg,dX hk];simp only[abf,L_,ne_eq,not_true_eq_false,if_false];have:=run_storeCells_cells (P:=P) b o (hO v') 0 w (by simpa using h1) (by simpa using h2) h3;rw[gx] at this;rw[<- gx] at *;simpa [abg,b7] using this
end wr
end Go.Proofs.YtjokannbjmndfaaGreatDoor
