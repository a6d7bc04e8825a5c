import Derived.Test.YtgdcbiiopbpgaaaGreatDoorR10
set_option maxHeartbeats 4000000
set_option maxRecDepth 100000
set_option linter.unusedSimpArgs false
set_option linter.unusedVariables false
namespace Go.Proofs.YtgdcbiiopbpgaaaGreatDoor
open IntKind
open Go.RowKit
section nw
variable {ν ν':Nu} {P:Program} {G N:Nat} {T T':Tr Value} {a:Act} {H H':AH} {F:HL} {w w':World}
theorem ff(o:Obj)(w:World):(newObj o).run P w=.ok w.heap.size { w with heap:=w.heap.push o }:=rfl
def Mk.ok:Mk -> Prop
 | .sl _ c=>c<lU
 | _=>True
theorem GK{m:Mk}(h:m.ok){n r K:Nat}(hν:ν n=some (r,K)):VRi ν (m.val n) (m.val r):=by
 cases m with
 | ptr=>exact .ptr 0 hν
 | sl l c=>exact .slice 0 l hν ⟨λ _=>rfl,λ e=>by unfold Mk.ok at h;omega⟩
 | mp=>exact .map hν
theorem GL(z:List Value)(n:Nat):(ms z n).length=n * z.length:=by
 induction n with
 | zero=>simp[ms]
 | succ n ih=>simp[ms,ih,Nat.succ_mul];omega
theorem xF(z:List Value):∀ (n i:Nat),i<n * z.length -> (ms z n)[i]?=z[i % z.length]?
 | 0,i,h=>by omega
 | n+1,i,h=>by
  rw[ms]
  rcases Nat.lt_or_ge i z.length with h1|h1
  ·rw[List.getElem?_append_left h1,Nat.mod_eq_of_lt h1]
  ·rw[List.getElem?_append_right h1,xF z n _ (by rw[Nat.succ_mul] at h;omega),Nat.mod_eq_sub_mod h1]
theorem tZ(z:List Value)(n:Nat)(hz:0<z.length):(Array.range (n * z.length)).map (λ i=>(⟨z⟩:Array Value)[i % (⟨z⟩:Array Value).size]!)=⟨ms z n⟩:=by
 apply Array.ext'
 apply List.ext_getElem?
 intro i
 rcases Nat.lt_or_ge i (n * z.length) with h|h
 ·have h2:i % z.length<z.length:=Nat.mod_lt _ hz
  simp only[Array.toList_map,Array.toList_range,List.getElem?_map,List.getElem?_range h,Option.map_some]
  rw[xF z n i h]
  simp[h2]
 ·rw[List.getElem?_eq_none (by simp;exact h),List.getElem?_eq_none (by rw[GL];exact h)]
theorem rH{z:List Value}(h:LR ν z z):∀n,LR ν (ms z n) (ms z n)
 | 0=>.nil
 | n+1=>h.append (rH h n)
theorem lW{t el:TypeId}(h:tM P t=some el):P.underlying t=some (.slice el):=by
 unfold tM at h
 split at h
 ·rename_i e;cases h;exact e
 ·cases h
theorem BB{o:Oper}{b:AB}{m:Mk}(h:sM P o T=some (b,m)){l:List Operand}(hl:b9 o.op=some l)(dO:OK ν T a l) :
  GI b=true /\ m.ok /\ ∃o',(∀K,OR ν K b o') /\ ∀w,(execOp a.eval o).run P w=.ok (.value (m.val w.heap.size)) { w with heap:=w.heap.push o' }:=by
 unfold sM at h
 split at h
 ·rename_i t ho
  split at h
  ·rename_i z hz
   cases h
   obtain⟨zv,h1,h2,h3,-⟩:=j5 (ν:=ν) hz
   refine⟨kF _ _,trivial,_,λ K=>OR.cellsB h3,λ w=>?_⟩
   simp[execOp,ho,Instr.alloc,Sem.run_bind,h1,newVar,newRow,h2,ff,cG,Result.andThen,Mk.val]
  ·cases h
 ·rename_i t x ho
  rw[ho] at hl;simp only[b9,Option.some.injEq] at hl;subst hl
  cases h
  refine⟨kF _ _,trivial,_,λ K=>OR.cellsB (kB (dO x (by simp))),λ w=>?_⟩
  simp[execOp,ho,Instr.box,Sem.run_bind,newVar,newRow,ff,cG,Result.andThen,Mk.val,gv]
 ·rename_i t len parts ho
  rw[ho] at hl;simp only[b9,Option.some.injEq] at hl;subst hl
  split at h
  case h_2=>cases h
  rename_i el he
  split at h
  case h_2=>cases h
  rename_i k z hk hz
  split at h
  case h_2=>cases h
  rename_i g1 g2 g3
  split at h
  case h_2=>cases h
  rename_i l hf
  cases h
  have hu:=lW he
  have TA:z.length=k:=by rw[d9] at g2;exact Nat.eq_of_beq_eq_true g2
  have hk0:=dL g3
  have g1':=bO g1
  obtain⟨zv,h1,h2,h3,-⟩:=j5 (ν:=ν) hz
  obtain⟨l',e1,e2⟩:=oV (rB dO) (rH h3 len) hf
  refine⟨kF _ _,?_,_,λ K=>OR.cellsB e2,λ w=>?_⟩
  ·have:len <= len * k:=Nat.le_mul_of_pos_right _ hk0
   show len<lU
   unfold lU;omega
  have h6:=kD e1
  have h7:(parts.map λ (p:Nat × Operand)=>(p.1,a.eval p.2)).toList=parts.toList.map λ p=>(p.1,a.eval p.2):=by simp
  have h8:=tZ z len (by omega)
  rw[TA] at h8
  have hs:=eo hk w
  unfold Go.execOp
  rw[ho]
  simp only
  rw[Sem.run_bind]
  have:(Instr.buildSlice t len (parts.map λ (p:Nat × Operand)=>(p.1,a.eval p.2))).run P w=.ok (.slice (some ⟨w.heap.size,0,none⟩) len len) { w with heap:=w.heap.push (.cells ⟨l'⟩ el (0,0)) }:=by
   unfold Instr.buildSlice
   rw[Sem.run_bind,aN hu]
   simp only[Result.andThen_ok]
   rw[Sem.run_bind,hs]
   simp only[Result.andThen_ok]
   rw[if_neg (by simp;omega)]
   by_cases Ui:len * k=0
   ·have hlen:len=0:=by
     rcases Nat.eq_zero_or_pos len with e|e
     ·exact e
     ·have:=Nat.mul_pos e hk0;omega
    subst hlen
    simp only[Nat.zero_mul,if_true]
    rw[Sem.run_bind]
    simp only[cG,Result.andThen_ok]
    have h9:(Array.range 0).map (λ i=>(#[]:Array Value)[i % (#[]:Array Value).size]!)=⟨ms z 0⟩:=by simp[ms]
    rw[h9,h7,h6]
    simp only[Sem.run_bind,newRow,ff,Result.andThen_ok,cG]
   ·rw[if_neg Ui]
    rw[Sem.run_bind,h1]
    simp only[Result.andThen_ok]
    rw[Sem.run_bind]
    simp only[cG,Result.andThen_ok,h2]
    rw[h8,h7,h6]
    simp only[Sem.run_bind,newRow,ff,Result.andThen_ok,cG]
  rw[this]
  rfl
 ·rename_i t lo co ho
  rw[ho] at hl;simp only[b9,Option.some.injEq] at hl;subst hl
  split at h
  case h_2=>cases h
  rename_i el he
  split at h
  case h_2=>cases h
  rename_i inf hi
  split at h
  case h_2=>cases h
  rename_i z n m' hz hn hm
  split at h
  case h_2=>cases h
  rename_i g1 g2 g3 g4 g5 g6
  cases h
  have hu:=lW he
  have TA:z.length=inf.size:=by rw[d9] at g4;exact Nat.eq_of_beq_eq_true g4
  have hk0:=dL g5
  have g1':=bO g1
  have g2':=bO g2
  have g3':=dL g3
  have g6':=dL g6
  obtain⟨zv,h1,h2,h3,-⟩:=j5 (ν:=ν) hz
  obtain⟨kn,en⟩:=m6 hn (dO lo (by simp))
  obtain⟨km,em⟩:=m6 hm (dO co (by simp))
  refine⟨kF _ _,g3',_,λ K=>OR.cellsB (rH h3 m'),λ w=>?_⟩
  have h8:=tZ z m' (by omega)
  rw[TA] at h8
  unfold lU at g3'
  have w1:i64.wrap (n:Int)=(n:Int):=IntWalk.i64_in _ (by omega)
  have w2:i64.wrap (m':Int)=(m':Int):=IntWalk.i64_in _ (by omega)
  have G_:fd P el=some inf.size:=by unfold fd;rw[hi];rfl
  have hs:=eo G_
  have hti:=λ W=>dM hi W
  have q1:¬ ((281474976710656:Int)<(inf.bytes:Int) * (m':Int)):=by
   have:(inf.bytes:Int) * (m':Int)=((inf.bytes * m':Nat):Int):=by simp
   omega
  have q2:¬ ((m':Int)<0):=by omega
  have q3:¬ ((n:Int)<0):=by omega
  have q4:¬ ((m':Int)<(n:Int)):=by omega
  have IF:∀x W,(askRoom x).run P W=.ok () W:=λ x W=>by unfold askRoom;split <;> rfl
  unfold Go.execOp
  rw[ho]
  simp only
  rw[Sem.run_bind]
  have:(Instr.makeSlice t (a.eval lo) (a.eval co)).run P w=.ok (.slice (some ⟨w.heap.size,0,none⟩) n m') { w with heap:=w.heap.push (.cells ⟨ms z m'⟩ el (0,0)) }:=by
   unfold Instr.makeSlice
   rw[Sem.run_bind,aN hu]
   simp only[Result.andThen_ok]
   rw[en,em]
   simp only[asInt,asIntOf,Sem.run_bind,cG,Result.andThen_ok,hti,w1,w2]
   rw[if_neg (by simp[q1,q2,q3,q4])]
   simp only[Sem.run_bind,IF,Result.andThen_ok,hs,Int.toNat_natCast]
   by_cases Ui:m' * inf.size=0
   ·have hlen:m'=0:=by
     rcases Nat.eq_zero_or_pos m' with e|e
     ·exact e
     ·have:=Nat.mul_pos e hk0;omega
    subst hlen
    simp only[Nat.zero_mul,if_true]
    rw[Sem.run_bind]
    simp only[cG,Result.andThen_ok]
    have h9:(Array.range 0).map (λ i=>(#[]:Array Value)[i % (#[]:Array Value).size]!)=⟨ms z 0⟩:=by simp[ms]
    rw[h9]
    simp only[Sem.run_bind,newRow,ff,Result.andThen_ok,cG]
   ·rw[if_neg Ui]
    simp only[Sem.run_bind,h1,cG,Result.andThen_ok,h2]
    rw[h8]
    simp only[Sem.run_bind,newRow,ff,Result.andThen_ok,cG]
  rw[this]
  rfl
 ·rename_i t r ho
  have hmk:∀W:World,(newObj (.map #[] 0)).run P W=.ok W.heap.size { W with heap:=W.heap.push (.map #[] 0) }:=λ W=>rfl
  split at h
  ·cases h
   refine⟨rfl,trivial,.map #[] 0,λ K=>⟨rfl,.nil⟩,λ w=>?_⟩
   simp[execOp,ho,Instr.makeMap,Sem.run_bind,hmk,cG,Result.andThen,Mk.val]
  ·rename_i r
   rw[ho] at hl;simp only[b9,Option.some.injEq] at hl;subst hl
   split at h
   ·rename_i kt et k n hu he
    cases h
    have hr:=dO r (by simp)
    rw[he] at hr
    have er:=hr.plain_eq rfl
    refine⟨rfl,trivial,.map #[] 0,λ K=>⟨rfl,.nil⟩,λ w=>?_⟩
    simp[execOp,ho,Instr.makeMap,Sem.run_bind,aN hu,er,asInt,asIntOf,hmk,cG,Result.andThen,Mk.val]
   ·cases h
 ·cases h
theorem GM{d:TypeDesc}{k k':Value}(h:lz k k'=some true)(hk:vf d k=true):k'=k /\ Instr.sameBits 10000 k' k=true:=by
 unfold lz at h
 split at h
 ·split at h
  ·rename_i e
   have e':=of_decide_eq_true e
   simp only[Option.some.injEq,beq_iff_eq] at h
   subst e';subst h
   exact⟨rfl,by simp[Instr.sameBits]⟩
  ·cases h
 ·simp only[Option.some.injEq] at h
  have:=EJ.1 h
  subst this
  exact⟨rfl,by simp[Instr.sameBits];exact I8 _⟩
 ·simp only[Option.some.injEq,beq_iff_eq] at h
  subst h
  exact⟨rfl,by simp[Instr.sameBits]⟩
 ·cases h
theorem zT{d:TypeDesc}{k v v':Value}(hk:vf d k=true)(hv:VRi ν v v'){es:List (Value × Value × Nat)}{RH:List MapEntry}(h:ER ν es RH):∀ {r:List (Value × Value × Nat)} {cl cl':Nat} (i:Nat),ri k v cl es=some (r,cl') ->
  (Instr.findNow d k RH i=some none /\ cl'=cl+1 /\ ER ν r (RH++[⟨k,v',cl⟩])) \/ (∃j u,Instr.findNow d k RH i=some (some (i+j,u)) /\ cl'=cl /\ (RH[j]?).map (·.key)=some k /\ Instr.sameBits 10000 k k=true /\ ER ν r (RH.modify j λ e=>{ e with key:=k,val:=v' })):=by
 induction h with
 | nil=>intro r cl cl' i h;rw[ri] at h;cases h;exact .inl ⟨rfl,rfl,.cons k cl hv .nil⟩
 | @cons u0 u0' l0 l0' k' b hv0 h0 ih =>
  intro r cl cl' i h
  rw[ri] at h
  split at h
  ·rename_i e
   cases h
   obtain⟨e1,e2⟩:=GM e hk
   subst e1
   refine .inr ⟨0,u0',?_,rfl,rfl,e2,.cons k' b hv h0⟩
   rw[Instr.findNow];simp only[gw e hk];rfl
  ·rename_i e
   split at h
   ·rename_i l c hl
    cases h
    rcases ih (i+1) hl with ⟨h1,h2,h3⟩|⟨j,u,h1,h2,h3,h4,h5⟩
    ·exact .inl ⟨by rw[Instr.findNow];simp only[gw e hk];exact h1,h2,.cons k' b hv0 h3⟩
    ·refine .inr ⟨j+1,u,?_,h2,by simpa using h3,h4,by simpa using ER.cons k' b hv0 h5⟩
     rw[Instr.findNow];simp only[gw e hk];rw[h1];congr 3;omega
   ·cases h
  ·cases h
theorem BC{t:TypeId}{m m' k v v':Value}(hH:HR ν H F w)(hm:VRi ν m m')(hv:VRi ν v v')(h:J0 P t H m k v=some H'):pl k=true /\ ∃w',(Instr.mapUpdate t m' k v').run P w=.ok () w' /\ HR ν H' F w' /\ Below 0 w w':=by
 unfold J0 at h
 split at h
 case h_2=>cases h
 rename_i kt et hu
 split at h
 case h_2=>cases h
 rename_i r hk
 split at h
 case h_2=>cases h
 rename_i es cl hb
 split at h
 case h_2=>cases h
 rename_i es2 cl2 hp
 cases h
 obtain⟨d,hd,V8⟩:=zR hk
 refine⟨(rC V8).1,?_⟩
 cases hm with
 | atom _ h=>simp[cB] at h
 | @map _ b K hν =>
 obtain⟨RH,hw,hE⟩:=hH.map hb hν
 have hg:(getObj b).run P w=.ok (.map RH cl) w:=mN hw
 have hf:∀r,Instr.findNow d k RH.toList 0=some r -> (Instr.findKey kt k RH.toList).run P w=.ok r w:=λ r hr=>by
  unfold Instr.findKey
  rw[Sem.run_bind,aN hd]
  simp only[Result.andThen_ok,hr]
  rfl
 have iF:=dk hw
 have iS:∀o:Obj,(∃es c,o=.map es c) -> (setObj b o).run P w=.ok () { w with heap:=w.heap.setIfInBounds b o }:=λ o ho=>by
  obtain⟨e1,c1,rfl⟩:=ho
  unfold setObj
  rw[Sem.run.eq_def]
  simp only[hw]
  rfl
 have hup:∀ (o:Obj),OR ν K (.map es2 cl2) o -> HR ν (cT H r (some (.map es2 cl2))) F { w with heap:=w.heap.setIfInBounds b o }:=λ o ho=>by
  refine hH.upd (r:=b) (K:=K) hb rfl rfl hν (o':=o) ?_ ho (λ k hk=>?_)
  ·show (w.heap.setIfInBounds b o)[b]?=_
   rw[Array.getElem?_setIfInBounds_self_of_lt iF]
  ·show (w.heap.setIfInBounds b o)[k]?=_
   rw[Array.getElem?_setIfInBounds_ne (Ne.symm hk)]
 have hB:∀o:Obj,Below 0 w { w with heap:=w.heap.setIfInBounds b o }:=λ o=>⟨rfl,rfl,rfl,by simp,λ k hk=>by omega⟩
 rcases zT V8 hv hE 0 hp with ⟨h1,h2,h3⟩|⟨j,u,h1,h2,h3,h4,h5⟩
 ·refine⟨_,?_,hup (.map (RH.push ⟨k,v',cl⟩) (cl+1)) ⟨h2.symm,by simpa using h3⟩,hB _⟩
  unfold Instr.mapUpdate
  rw[Sem.run_bind,aN hu]
  simp only[Result.andThen_ok,Sem.run_bind,hg,fV hk,hf _ h1]
  exact iS _ ⟨_,_,rfl⟩
 ·rw[Nat.zero_add] at h1
  refine⟨_,?_,hup (.map (RH.modify j λ e=>{ e with key:=k,val:=v' }) cl) ⟨h2.symm,by rw[Array.toList_modify];exact h5⟩,hB _⟩
  unfold Instr.mapUpdate
  rw[Sem.run_bind,aN hu]
  simp only[Result.andThen_ok,Sem.run_bind,hg,fV hk,hf _ h1]
  have h6:(RH[j]?).map (·.key)=some k:=by simpa using h3
  rw[h6]
  have h7:(Instr.keyThatStays k k).run P w=.ok k w:=by
   unfold Instr.keyThatStays
   rw[if_pos h4];rfl
  simp only[Option.getD_some,h7,Result.andThen_ok]
  exact iS _ ⟨_,_,rfl⟩
end nw
structure Ext(ν ν':Nu)(n n':Nat):Prop where
 le:n <= n'
 out:∀h,(h<n \/ n' <= h) -> ν' h=ν h
def Fr(ν:Nu)(n n':Nat):Prop:=∀h,n <= h -> h<n' -> ν h=none
theorem Ext.sub{ν ν':Nu}{n n':Nat}(h:Ext ν ν' n n')(hf:Fr ν n n'):ν.Le ν':=λ k x hx=>by
 rw[h.out k];exact hx
 rcases Nat.lt_or_ge k n with h1|h1
 ·exact .inl h1
 ·rcases Nat.lt_or_ge k n' with h2|h2
  ·rw[hf k h1 h2] at hx;cases hx
  ·exact .inr h2
theorem Ext.refl(ν:Nu)(n:Nat):Ext ν ν n n:=⟨Nat.le_refl _,λ _ _=>rfl⟩
theorem Ext.trans{a b c:Nu}{n m k:Nat}(h:Ext a b n m)(h':Ext b c m k):Ext a c n k :=
 ⟨Nat.le_trans h.le h'.le,λ i hi=>by
  have h1:=h.le
  have h2:=h'.le
  rw[h'.out i (by omega),h.out i (by omega)]⟩
theorem Ext.fr{a b:Nu}{n m k:Nat}(h:Ext a b n m)(hf:Fr a n k)(hm:m <= k):Fr b m k:=λ i h1 h2=>by
 have:=h.le
 rw[h.out i (.inr h1)];exact hf i (by omega) h2
theorem Ext.upd{ν:Nu}{n r K:Nat}:Ext ν (ν.upd n r K) n (n+1):=⟨by omega,λ h hh=>eJ (by omega)⟩
section ap
variable {ν ν':Nu} {P:Program} {G N:Nat} {T T':Tr Value} {a:Act} {H H':AH} {F:HL} {w w':World}
structure Effi(P:Program)(ν:Nu)(F:HL)(n:Nat)(s:Sem Value)(w:World)(v:Value)(H':AH)(n':Nat):Prop where
 h:∃ν' v' w',s.run P w=.ok v' w' /\ VRi ν' v v' /\ Ext ν ν' n n' /\ HR ν' H' F w' /\ Below 0 w w'
theorem lX{k:Nat}{u e':TypeId}{y y':Value}{new:List Value}(hH:HR ν H F w)(hu:P.underlying u=some (.slice e'))(hy:VRi ν y y')(h:pY H k y=some new) :
  ∃QN,LR ν new QN /\ QN.length=dU y * k /\ (jY new=true -> Src P k u y' (dU y) QN w) /\ (Builtin.firstCells k (dU y) y').run P w.drew=.ok QN.toArray w.drew /\ (Builtin.firstCells k (dU y) y').run P w=.ok QN.toArray w:=by
 unfold pY at h
 split at h
 ·split at h
  ·cases h
   rename_i c
   cases hy
   refine⟨[],.nil,by simp[dU],λ _=>Src.ofNil w hu _,?_,?_⟩
   ·exact run_firstCells_none _ _ _ _ _
   ·exact run_firstCells_none _ _ _ _ _
  ·cases h
 ·rename_i ad n c
  cases hy with
  | atom _ h=>simp[cB] at h
  | @slice hd b K _ c' o _ hν hcap =>
  split at h
  case h_2=>cases h
  rename_i nn tr ty ww ro hs hb
  split at h
  case h_2=>cases h
  rename_i hle
  cases h
  simp only at hb hle
  obtain⟨cc,ty',fz,hw,hc⟩:=hH.cells hb hν
  have WI:=bO hle
  have hl:=j6 hc.le hc.get (n * k) o WI
  have hcs:=hc.le
  have hlen:((cc.toList.drop o).take (n * k)).length=n * k:=by simp;omega
  have QW:∀ (W:World),W.heap=w.heap -> ∀ (j:Nat) (u:Value),((cc.toList.drop o).take (n * k))[j]?=some u -> W.cell? ((⟨b,o,none⟩:Addr).add j)=some u:=λ W hW j u hj=>by
   rw[m5,lV (by rw[hW];exact hw)]
   have Uj:=(List.getElem?_eq_some_iff.1 hj).1
   rw[hlen] at Uj
   rw[List.getElem?_take_of_lt Uj,List.getElem?_drop] at hj
   simpa using hj
  refine⟨_,hl,hlen,λ hf=>Src.ofSlice w hu _ _ _ _ hlen (QW w rfl) (tY hl hf),?_,?_⟩
  ·exact run_firstCells_some _ _ _ _ _ _ _ hlen (QW _ rfl)
  ·exact run_firstCells_some _ _ _ _ _ _ _ hlen (QW _ rfl)
 ·cases h
theorem HR.del'(hH:HR ν H F w){h r K:Nat}{b0:AB}(hb:bL H h=some b0)(hw0:GI b0=true)(hν:ν h=some (r,K))(hs:∀k,k≠r -> w'.heap[k]?=w.heap[k]?):HR ν (cT H h none) F w':=by
 have q_:∀k b,bL (cT H h none) k=some b -> bL H k=some b /\ k≠h:=λ k b hk=>by
  rw[dC] at hk
  split at hk
  ·cases hk
  ·rename_i e;exact⟨hk,Ne.symm e⟩
 refine⟨λ k b hk=>?_,λ k1 k2 b1 b2 q K1 K2 h1 h2 h3 h4=>hH.inj _ _ _ _ _ _ _ (q_ _ _ h1).1 (q_ _ _ h2).1 h3 h4,λ x hx=>?_,λ k b q K hk=>hH.apt k b q K (q_ k b hk).1⟩
 ·obtain⟨h1,h2⟩:=q_ k b hk
  obtain⟨q,K',o,g1,g2,g3⟩:=hH.blk k b h1
  refine⟨q,K',o,g1,?_,g3⟩
  rw[hs q,g2]
  intro e
  subst e
  exact h2 (hH.inj _ _ _ _ _ _ _ h1 hb g1 hν)
 ·rw[hs _ (hH.apt _ _ _ _ hb hν x hx)]
  exact hH.frm x hx
theorem MD(Uq q_:Nat)(h:q_<Uq):Builtin.nextslicecap Uq q_ <= 2 * Uq+192:=by
 unfold Builtin.nextslicecap
 split
 ·omega
 ·split
  ·omega
  ·have:Builtin.growBy Uq 4 q_ <= Uq+Uq / 4+192:=by
    simp only[Builtin.growBy]
    repeat' split
    all_goals omega
   omega
theorem xG{t u ty el e':TypeId}{inf:TypeInfo}{n len cap c':Nat}{base u_:Option Addr}{y y':Value}{new:List Value}{v:Value}{n':Nat}(hH:HR ν H F w)(ht:P.underlying t=some (.slice el))(hu:P.underlying u=some (.slice e'))(hi:P.info? el=some inf)
  (hx:VRi ν (.slice base len cap) (.slice u_ len c')) (hy:VRi ν y y') (QT:pY H inf.size y=some new) (Q_:jY new=true) (IF:len+dU y <= c') (h:rj H n inf.size len (dU y) cap base new=some (.val v H' n')) :
  Effi P ν F n (Builtin.append_ #[t,u] ty #[.slice u_ len c',y']) w v H' n':=by
 obtain⟨QN,hl,hlen,hS,-,-⟩:=lX hH hu hy QT
 have hS2:=hS Q_
 unfold rj at h
 split at h
 ·rename_i ad
  split at h
  ·rename_i Uf
   split at h
   ·rename_i H2 hp
    cases h
    cases hx with
    | atom _ h=>simp[cB] at h
    | @slice hd b K _ _ o _ hν hcap =>
    obtain⟨q1,q2,q3,q4,q5⟩:=oY hH hν hl hp
    have f_:=run_append_room_src (P:=P) w t u ty el inf ht hi b o len c' y' (dU y) QN hS2 IF q1 q2
    exact⟨ν,_,_,f_,.slice _ _ hν hcap,.refl _ _,q4,q5⟩
   ·cases h
  ·cases h
 ·split at h
  ·cases h
   cases hx with
   | atom _ _ =>
   cases hl
   have Zp:=hS Q_
   have hz:(Builtin.firstCells inf.size (dU y) y').run P w=.ok #[] w:=Zp.cells
   refine⟨ν,.slice none (len+dU y) cap,w,?_,.atom _ rfl,.refl _ _,hH,Below.refl _ _⟩
   rcases Zp.kind with ⟨e',hk⟩|hk <;> simp[Builtin.append_,run_underlying ht,run_underlying hk,sizeOf,typeInfo,hi,Zp.len,hz,IF]
  ·cases h
theorem t2{t u ty el e':TypeId}{inf:TypeInfo}{z:List Value}{n len cap c':Nat}{base u_:Option Addr}{y y':Value}{q_ new:List Value}{v:Value}{n':Nat}(hH:HR ν H F w)(ht:P.underlying t=some (.slice el))(hu:P.underlying u=some (.slice e'))(hi:P.info? el=some inf)(hz:kT P el=some z)(TA:z.length=inf.size)(G_:0<inf.size)
  (hx:VRi ν (.slice base len cap) (.slice u_ len c')) (hy:VRi ν y y') (QT:pY H inf.size y=some new) (Q_:jY new=true) (hold:pY H inf.size (.slice base len cap)=some q_) (IF:c'<len+dU y) (UA:len+dU y<1000000) (Uz:inf.bytes<1000001) (hn:ν n=none)
  (Hd:AH) (hd:∀ν' w',HR ν' H F w' -> HR ν' Hd F w') (h:i0 Hd n inf.size len (dU y) el q_ new=.val v H' n') :
  Effi P ν F n (Builtin.append_ #[t,u] ty #[.slice u_ len c',y']) w v H' n':=by
 obtain⟨QN,hl,hlen,hS,-,-⟩:=lX hH hu hy QT
 obtain⟨Tw,QS,Q6,-,Sf,-⟩:=lX hH ht hx hold
 have hS:=hS Q_
 obtain⟨zv,g1,g2,g3,i,g4,g5⟩:=j5 (ν:=ν) hz
 rw[hi] at g4
 cases g4
 have SZ:Builtin.nextslicecap (len+dU y) c' * inf.bytes <= 281474976710656:=by
  have h1:=MD (len+dU y) c' IF
  have h2:Builtin.nextslicecap (len+dU y) c' * inf.bytes <= 2000192 * 1000000:=Nat.mul_le_mul (by omega) (by omega)
  omega
 have f_:=run_append_grow_src (P:=P) w t u ty el inf zv ht hi g5 u_ len c' Tw Sf y' (dU y) QN hS IF (by omega) SZ
 have Vp:=grownCap_ge w (len+dU y) c' el
 generalize grownCap w (len+dU y) c' el=K at *
 unfold i0 at h
 cases h
 refine⟨ν.upd n w.heap.size K,_,_,f_,?_,.upd,?_,⟨rfl,rfl,rfl,by simp,λ k hk=>by omega⟩⟩
 ·exact .slice _ _ cm ⟨λ e=>by unfold lU at e;omega,λ e=>by omega⟩
 ·have UP:HR ν Hd F w:=hd _ _ hH
  refine UP.new hn (K:=K) ?_ (by rw[j8];rfl) (o:=.cells ((Tw++QN).toArray++Builtin.zeroCells zv.cells (K-(len+dU y))) el) rfl
  rw[j8]
  have Uy:=Lz (ty:=el) (ww:=inf.size) (K:=K) (rest:=(Builtin.zeroCells zv.cells (K-(len+dU y))).toList) (QS.append hl) (λ _=>by
   simp only[List.length_append,hlen,Q6,Builtin.zeroCells,Array.toList_map,List.length_map,Array.toList_range,List.length_range,g2]
   have Vj:dU (Value.slice base len cap)=len:=rfl
   rw[Vj]
   have:(⟨z⟩:Array Value).size=inf.size:=by simpa using TA
   rw[this,<- Nat.add_mul,<- Nat.add_mul]
   congr 1
   omega)
  have e:((Tw++QN).toArray++Builtin.zeroCells zv.cells (K-(len+dU y)))=⟨(Tw++QN)++(Builtin.zeroCells zv.cells (K-(len+dU y))).toList⟩:=by apply Array.ext';simp
  rw[e]
  exact Uy
end ap
section ap
variable {ν ν':Nu} {P:Program} {G N:Nat} {T T':Tr Value} {a:Act} {H H':AH} {F:HL} {w w':World}
theorem kU{a b:Nat}(h:Nat.blt a b=false):b <= a:=by
 rcases Nat.lt_or_ge a b with e|e
 ·have:Nat.blt a b=true:=Nat.ble_eq_true_of_le e
  rw[this] at h;cases h
 ·exact e
theorem kV{a b:Nat}(h:Nat.ble a b=false):b<a:=by
 rcases Nat.lt_or_ge b a with e|e
 ·exact e
 ·have:Nat.ble a b=true:=Nat.ble_eq_true_of_le e
  rw[this] at h;cases h
theorem J7{t u ty el e':TypeId}{inf:TypeInfo}{z:List Value}{n len cap:Nat}{ad:Addr}{x' y y':Value}{new:List Value}{v:Value}{n':Nat}(hH:HR ν H F w)(ht:P.underlying t=some (.slice el))(hu:P.underlying u=some (.slice e'))(hi:P.info? el=some inf)(hz:kT P el=some z)(TA:z.length=inf.size)(G_:0<inf.size)
  (hx:VRi ν (.slice (some ad) len cap) x') (hy:VRi ν y y') (QT:pY H inf.size y=some new) (Q_:jY new=true) (UA:len+dU y<1000000) (Uz:inf.bytes<1000001) (hcap:lU <= cap) (hn:Fr ν n n') (h:Gt H n inf.size len (dU y) cap ad el new=some (.val v H' n')) :
  Effi P ν F n (Builtin.append_ #[t,u] ty #[x',y']) w v H' n':=by
 cases hx with
 | atom _ h=>simp[cB] at h
 | @slice hd b K _ c' o _ hν hc =>
 unfold Gt at h
 split at h
 case h_2=>cases h
 rename_i nn ww tyy Uf ho XB SL
 simp only at ho
 subst ho
 have RO:cap=lU:=Nat.eq_of_beq_eq_true XB
 have RG:=hc.2 hcap
 rw[RO,Nat.sub_self,Nat.add_zero] at RG
 unfold PJ at SL
 split at SL
 case h_2=>cases SL
 rename_i nn' tr ty' ww' hb
 simp only[Option.some.injEq,Prod.mk.injEq] at SL
 obtain⟨e1,e2,e3⟩:=SL
 subst e1;subst e2;subst e3
 simp only at hb
 obtain⟨c,ty2,fz,hw,Uy⟩:=hH.cells hb hν
 split at h
 case h_2=>cases h
 rename_i hwk hlk hty
 have hty':ty'=el:=Nat.eq_of_beq_eq_true hty
 have hwk':ww'=inf.size:=Nat.eq_of_beq_eq_true hwk
 have hlk':=bO hlk
 have U6:=Uy.gr (by omega)
 rw[hwk'] at U6
 have hle:=Uy.le
 split at h
 ·rename_i RE
  have hin':=bO RE
  have:(len+dU y) * inf.size <= K * inf.size:=by omega
  have IF:=Nat.le_of_mul_le_mul_right this G_
  exact xG hH ht hu hi (.slice 0 len hν hc) hy QT Q_ (by omega) h
 ·rename_i RE
  have hin':=kV RE
  split at h
  case h_2=>cases h
  rename_i q_ hold
  have L_:i0 (cT H hd none) n inf.size len (dU y) el q_ new=.val v H' n':=by simpa using h
  have WG:ν n=none:=by
   unfold i0 at L_
   cases L_
   exact hn n (Nat.le_refl _) (by omega)
  by_cases IF:len+dU y <= c'
  ·obtain⟨QN,hl,hlen,hS,-,-⟩:=lX hH hu hy QT
   obtain⟨Tw,QS,Q6,-,-,Sf⟩:=lX hH ht (.slice 0 len hν hc) hold
   have hS:=hS Q_
   have SZ:(len+dU y) * inf.size <= c.size:=by
    rw[U6];exact Nat.mul_le_mul_right _ (by omega)
   have QW:∀j,j<QN.length -> (w.cell? ⟨b,0+len * inf.size+j,none⟩).isSome=true:=λ j hj=>by
    rw[lV hw,Array.getElem?_eq_getElem (by rw[hlen] at hj;rw[Nat.add_mul] at SZ;omega)];rfl
   have Yv:∀j,j<QN.length -> w.frozen? ⟨b,0+len * inf.size+j,none⟩=false:=λ j hj=>by
    obtain⟨lo,hi⟩:=fz
    have:=Uy.fz
    cases this
    simp[World.frozen?,hw]
   have f_:=run_append_room_src (P:=P) w t u ty el inf ht hi b 0 len c' y' (dU y) QN hS IF QW Yv
   obtain⟨c2,e1,e2,e3⟩:=lC b QN (0+len * inf.size) w hw
   unfold i0 at L_
   cases L_
   have hdel:HR ν (cT H hd none) F (w.setCells b (0+len * inf.size) QN):=hH.del' hb rfl hν (λ k hk=>gU b _ _ _ _ hk)
   refine⟨ν.upd n b K,_,_,f_,?_,.upd,?_,gV _ _ _ _⟩
   ·exact .slice _ _ cm ⟨λ e=>by unfold lU at e;omega,λ e=>by omega⟩
   ·refine hdel.add WG e1 ?_ (by rw[j8];rfl) (λ x hx=>hH.apt _ _ _ _ hb hν x hx) (λ k b' K' hk e=>?_)
    ·rw[j8]
     have hold2:∀i,i<len * inf.size -> c[i]?=Tw[i]?:=λ i hi=>by
      have Vj:dU (Value.slice (some ⟨hd,0,none⟩) len cap)=len:=rfl
      rw[Vj] at Q6 Sf
      have Vu:((c.toList.drop 0).take (len * inf.size)).length=len * inf.size:=by simp;omega
      have h2:=run_firstCells_some (P:=P) w inf.size len ⟨b,0,none⟩ len c' ((c.toList.drop 0).take (len * inf.size)) Vu (λ j u hj=>by
       rw[m5,lV hw]
       have Uj:=(List.getElem?_eq_some_iff.1 hj).1
       rw[Vu] at Uj
       rw[List.getElem?_take_of_lt Uj,List.getElem?_drop] at hj
       simpa using hj)
      rw[h2] at Sf
      simp only[Result.ok.injEq,and_true] at Sf
      have h3:Tw=(c.toList.drop 0).take (len * inf.size):=by
       have:=congrArg Array.toList Sf
       simpa using this.symm
      rw[h3,List.getElem?_take_of_lt hi]
      simp
     have Vj:dU (Value.slice (some ⟨hd,0,none⟩) len cap)=len:=rfl
     rw[Vj] at Q6
     have hlo:q_.length=len * inf.size:=by rw[<- Q6,QS.length]
     have hln:new.length=dU y * inf.size:=by rw[<- hlen,hl.length]
     refine⟨Uy.ty.trans hty',?_,Uy.fz,λ i hi=>?_,λ _=>by rw[e2,U6]⟩
     ·rw[e2,List.length_append,hlo,hln,<- Nat.add_mul];exact SZ
     ·have Uw:i<(len+dU y) * inf.size:=by rw[List.length_append,hlo,hln,<- Nat.add_mul] at hi;exact hi
      obtain⟨v',g1,g2⟩:=(QS.append hl).get (List.getElem?_eq_getElem hi)
      refine⟨v',?_,by rw[lB hi];exact g2⟩
      rw[e3 i (by omega),<- g1]
      by_cases h1:i<len * inf.size
      ·rw[dif_neg (by omega),hold2 i h1,List.getElem?_append_left (by omega)]
      ·rw[dif_pos ⟨by omega,by rw[hlen];rw[Nat.add_mul] at Uw;omega⟩,List.getElem?_append_right (by omega),Q6]
       rw[<- List.getElem?_eq_getElem]
       congr 1;omega
    ·rw[dC] at hk
     split at hk
     ·cases hk
     ·rename_i I_
      exact I_ (hH.inj _ _ _ _ _ _ _ hb hk hν e)
  ·exact t2 hH ht hu hi hz TA G_ (.slice 0 len hν hc) hy QT Q_ hold (by omega) UA Uz WG (cT H hd none) (λ ν' w' h'=>h'.del hd) L_
def HEq(H H':AH):Prop:=∀h,bL H' h=bL H h \/ ∃n t t' ty w ro,bL H h=some (.cells n t ty w ro) /\ bL H' h=some (.cells n t' ty w ro) /\ ∀i,i<n -> cU t' i=cU t i
theorem HR.heq(h:HR ν H F w)(e:HEq H H'):HR ν H' F w:=by
 have back:∀k b,bL H' k=some b -> ∃b0,bL H k=some b0 /\ ∀K o,OR ν K b0 o -> OR ν K b o:=λ k b hk=>by
  rcases e k with e1|⟨n,t,t',ty,wd,ro,e1,e2,e3⟩
  ·rw[e1] at hk;exact⟨b,hk,λ _ _ h=>h⟩
  ·rw[e2] at hk
   cases hk
   refine⟨_,e1,λ K o ho=>?_⟩
   cases o with
   | cells c ty' fz =>
    have ho:CR ν K n t ty wd c ty' fz:=ho
    exact(⟨ho.ty,ho.le,ho.fz,λ i hi=>by obtain⟨v',g1,g2⟩:=ho.get i hi;exact⟨v',g1,by rw[e3 i hi];exact g2⟩,ho.gr⟩:CR ν K n t' ty wd c ty' fz)
   | _=>exact ho
 refine⟨λ k b hk=>?_,λ h₁ h₂ b₁ b₂ r K₁ K₂ g1 g2=>?_,h.frm,λ k b r K hk=>?_⟩
 ·obtain⟨b0,g1,g2⟩:=back k b hk
  obtain⟨r,K,o,g3,g4,g5⟩:=h.blk k b0 g1
  exact⟨r,K,o,g3,g4,g2 K o g5⟩
 ·obtain⟨c1,d1,-⟩:=back _ _ g1
  obtain⟨c2,d2,-⟩:=back _ _ g2
  exact h.inj _ _ _ _ _ _ _ d1 d2
 ·obtain⟨b0,g1,g2⟩:=back k b hk
  exact h.apt k b0 r K g1
theorem gx(t:Tr Value):∀ (k i:Nat),(gL t i k).length=k
 | 0,_=>rfl
 | k+1,i=>by simp[gL,gx t k]
theorem t6(t:Tr Value):∀ (k i j:Nat),j<k -> (gL t i k)[j]?=some (cU t (i+j))
 | 0,_,_,h=>absurd h (by omega)
 | k+1,i,j,h=>by
  cases j with
  | zero=>simp[gL]
  | succ j=>simp only[gL,List.getElem?_cons_succ];rw[t6 t k (i+1) j (by omega)];congr 2;omega
theorem GN(tr:Tr Value)(i:Nat)(new:List Value)(el:TypeId)(k:Nat):Gu tr i new el k=.cells (i+new.length) (kw tr i new) el k false:=by
 unfold Gu
 split <;> rename_i h <;> rw[h,d9]
theorem DA{n k len add cap:Nat}{ad:Addr}{el:TypeId}{new:List Value}{v:Value}{n':Nat}(h:tN H n k len add cap ad el new=some (.val v H' n')):∃H0,Gt H n k len add cap ad el new=some (.val v H0 n') /\ HEq H0 H':=by
 unfold tN at h
 split at h
 case h_2=>cases h
 rename_i nn tr ty w Uf ho XB hb
 split at h
 case h_2=>cases h
 rename_i h1 h2 h3
 have SL:PJ H ad=some (nn,w,ty):=by unfold PJ;rw[hb]
 split at h
 ·rename_i RE
  refine⟨H',?_,λ h=>.inl rfl⟩
  unfold Gt
  rw[Uf,ho,XB,SL]
  simp only[h1,h2,h3,RE]
  exact h
 ·rename_i RE
  cases h
  refine⟨cT (cT H ad.block none) n (some (vd (gL tr 0 (len * k)++new) el k)),?_,λ h=>?_⟩
  ·unfold Gt
   rw[Uf,ho,XB,SL]
   simp only[h1,h2,h3,RE,pY,Uf,hb,ho,Nat.zero_add]
   rfl
  ·by_cases hh:n=h
   ·refine .inr ⟨(gL tr 0 (len * k)++new).length,dK undef (gL tr 0 (len * k)++new) 0 .lf,kw tr (len * k) new,el,k,false,by rw[dC,if_pos hh,j8],?_,λ i hi=>?_⟩
    ·rw[dC,if_pos hh,GN,List.length_append,gx]
    ·rw[lB hi,rF]
     rw[List.length_append,gx] at hi
     split
     ·rename_i hj
      rw[List.getElem_append_right (by rw[gx];omega)]
      congr 1
      rw[gx]
     ·rename_i hj
      have Uw:i<len * k:=by omega
      rw[List.getElem_append_left (by rw[gx];exact Uw)]
      have:=t6 tr (len * k) 0 i Uw
      rw[Nat.zero_add] at this
      rw[List.getElem?_eq_getElem (by rw[gx];exact Uw)] at this
      exact(Option.some.inj this).symm
   ·exact .inl ((dC _ _ _ _).trans ((if_neg hh).trans ((if_neg hh).symm.trans (dC _ _ _ _).symm)))
theorem GO{t u ty el e':TypeId}{inf:TypeInfo}{z:List Value}{n len cap:Nat}{ad:Addr}{x' y y':Value}{new:List Value}{v:Value}{n':Nat}(hH:HR ν H F w)(ht:P.underlying t=some (.slice el))(hu:P.underlying u=some (.slice e'))(hi:P.info? el=some inf)(hz:kT P el=some z)(TA:z.length=inf.size)(G_:0<inf.size)
  (hx:VRi ν (.slice (some ad) len cap) x') (hy:VRi ν y y') (QT:pY H inf.size y=some new) (Q_:jY new=true) (UA:len+dU y<1000000) (Uz:inf.bytes<1000001) (hcap:lU <= cap) (hn:Fr ν n n') (h:tN H n inf.size len (dU y) cap ad el new=some (.val v H' n')) :
  Effi P ν F n (Builtin.append_ #[t,u] ty #[x',y']) w v H' n':=by
 obtain⟨H0,h1,h2⟩:=DA h
 obtain⟨ν',a,b,g1,g2,g3,g4,g5⟩:=J7 hH ht hu hi hz TA G_ hx hy QT Q_ UA Uz hcap hn h1
 exact⟨ν',a,b,g1,g2,g3,g4.heq h2,g5⟩
theorem J8{t u ty el e':TypeId}{n:Nat}{x x' y y':Value}{v:Value}{n':Nat}(hH:HR ν H F w)(ht:P.underlying t=some (.slice el))(hu:P.underlying u=some (.slice e'))(hx:VRi ν x x')(hy:VRi ν y y')(hn:Fr ν n n')(h:xi P H n el x y=some (.val v H' n')) :
  Effi P ν F n (Builtin.append_ #[t,u] ty #[x',y']) w v H' n':=by
 unfold xi at h
 split at h
 case h_2=>cases h
 rename_i inf z hi hz
 split at h
 case h_2=>cases h
 rename_i k by_ base len cap hk Zn
 have hk:inf.size=k+1:=hk
 have Zn:inf.bytes=by_+1:=Zn
 split at h
 case h_2=>cases h
 rename_i new QT TA UA Uz
 rw[<- hk] at QT TA h
 have ZI:z.length=inf.size:=by rw[d9] at TA;exact Nat.eq_of_beq_eq_true TA
 have hb1':=dL UA
 have hb2':=dL Uz
 split at h
 ·rename_i Q_ XB
  have hcu':=dL XB
  have Vd:∃u_,x'=.slice u_ len cap /\ VRi ν (.slice base len cap) (.slice u_ len cap):=by
   cases hx with
   | atom _ h=>exact⟨_,rfl,.atom _ h⟩
   | slice o _ hν hc=>obtain rfl:=hc.1 hcu';exact⟨_,rfl,.slice o _ hν hc⟩
  obtain⟨u_,rfl,hr⟩:=Vd
  split at h
  ·rename_i RE
   exact xG hH ht hu hi hr hy QT Q_ (bO RE) h
  ·rename_i RE
   split at h
   ·rename_i q_ hold
    have L_:i0 H n inf.size len (dU y) el q_ new=.val v H' n':=by simpa using h
    have WG:ν n=none:=by
     have Xn:=L_
     unfold i0 at Xn
     cases Xn
     exact hn n (Nat.le_refl _) (by omega)
    exact t2 hH ht hu hi hz ZI (by omega) hr hy QT Q_ hold (kV RE) hb1' (by omega) WG H (λ _ _ h=>h) L_
   ·cases h
 ·rename_i Q_ XB
  split at h
  ·exact GO hH ht hu hi hz ZI (by omega) hx hy QT Q_ hb1' (by omega) (kU XB) hn h
  ·cases h
 ·cases h
end ap
inductive TgR(ν:Nu):Target -> Target -> Prop
 | fn {f f':Fn} {c c':Array Value}:FnR ν f f' -> LR ν c.toList c'.toList -> TgR ν (.fn f c) (.fn f' c')
 | coll {h b K:Nat}:ν h=some (b,K) -> TgR ν (.collected h) (.collected b)
structure DR(ν:Nu)(d d':Deferred):Prop where
 t:TgR ν d.target d'.target
 a:LR ν d.args.toList d'.args.toList
def Qj(P:Program)(ν:Nu)(F:HL)(n:Nat)(s:Sem Next)(w:World):AN -> Prop
 | .val v H' n'=>∃ν' v' w' r,s.run P w=.ok r w' /\ (r=.value v' \/ (r=.skip /\ v'=undef)) /\ VRi ν' v v' /\ Ext ν ν' n n' /\ HR ν' H' F w' /\ Below 0 w w'
 | .ent f args=>∃iN,s.run P w=.ok (.enter f ⟨iN⟩) w /\ LR ν args iN
 | .rnd l args=>∃b K iN,ν l=some (b,K) /\ LR ν args iN /\ s.run P w=(Instr.yield b ⟨iN⟩).run P w
 | .dfr d=>∃d',s.run P w=.ok (.defer d') w /\ DR ν d d'
 | .rcv=>s.run P w=.ok .recover w
section ap
variable {ν ν':Nu} {P:Program} {G N:Nat} {T T':Tr Value} {a:Act} {H H':AH} {F:HL} {w w':World}
theorem TgR.mono{t t':Target}(h:TgR ν t t')(hl:ν.Le ν'):TgR ν' t t':=by
 cases h with
 | fn h1 h2=>exact .fn (h1.mono hl) (h2.mono hl)
 | coll h=>exact .coll (hl _ _ h)
theorem DR.mono{d d':Deferred}(h:DR ν d d')(hl:ν.Le ν'):DR ν' d d':=⟨h.t.mono hl,h.a.mono hl⟩
theorem rI{fn:Fn}{f c:Array Value}{v':Value}(h:VRi ν (.func fn f c) v'):∃fn' f' c',v'=.func fn' f' c' /\ FnR ν fn fn' /\ LR ν f.toList f'.toList /\ LR ν c.toList c'.toList:=by
 cases h with
 | atom _ h=>simp[cB] at h
 | func h1 h2 h3 h4 h5=>exact⟨_,_,_,rfl,h1,.of_arr h2 h3,.of_arr h4 h5⟩
theorem GP{t u ty el:TypeId}{n:Nat}{x x' y y':Value}{v:Value}{n':Nat}(hH:HR ν H F w)(ht:P.underlying t=some (.slice el))(hx:VRi ν x x')(hy:VRi ν y y')(h:xj P H n el x y=some (.val v H' n')) :
  Effi P ν F n (Builtin.copy_ #[t,u] ty #[x',y']) w v H' n':=by
 unfold xj at h
 split at h
 case h_2=>cases h
 rename_i k hk
 split at h
 case h_2=>cases h
 rename_i ad dl cx b sl cc
 split at h
 case h_2=>cases h
 rename_i vs Uf QT
 split at h
 case h_2=>cases h
 rename_i H2 hp
 cases h
 cases hx with
 | atom _ h=>simp[cB] at h
 | @slice hd bb K _ c' o _ hν hc =>
 have hy2:∃b',y'=.slice b' sl (match y' with | .slice _ _ c=>c|_=>0) /\ ∀c,VRi ν (.slice b (Nat.min sl dl) c) (.slice b' (Nat.min sl dl) c) \/ b≠none:=by
  cases hy with
  | atom _ h=>cases b with
   | none=>exact⟨none,rfl,λ c=>.inl (.atom _ rfl)⟩
   | some _=>simp[cB] at h
  | slice o n hν hc=>exact⟨_,rfl,λ c=>.inr (by simp)⟩
 have Zk:∃OF,LR ν vs OF /\ (Builtin.firstCells k (Nat.min sl dl) y').run P w=.ok OF.toArray w:=by
  have hyy:∃yy,VRi ν (.slice b (Nat.min sl dl) cc) yy /\ (Builtin.firstCells k (Nat.min sl dl) y').run P w=(Builtin.firstCells k (Nat.min sl dl) yy).run P w:=by
   cases hy with
   | atom _ h=>cases b with
    | none=>exact⟨.slice none (Nat.min sl dl) cc,.atom _ rfl,rfl⟩
    | some _=>simp[cB] at h
   | slice o n hν hc=>exact⟨_,.slice o _ hν hc,rfl⟩
  obtain⟨yy,h1,h2⟩:=hyy
  obtain⟨OF,q1,q2,q3,q4,q5⟩:=lX (u:=t) hH ht h1 QT
  exact⟨OF,q1,by rw[h2];exact q5⟩
 obtain⟨OF,hl,Zk⟩:=Zk
 obtain⟨q1,q2,q3,q4,q5⟩:=oY hH hν hl hp
 obtain⟨b',hy3,-⟩:=hy2
 have iS:=run_storeCells_cells (P:=P) bb o OF 0 w (by simpa using q1) (by simpa using q2) q3
 refine⟨ν,.int .i64 ((Nat.min sl dl:Nat):Int),_,?_,.atom _ rfl,.refl _ _,q4,q5⟩
 have hlen:∀W,(Builtin.lenOf y').run P W=.ok sl W:=λ W=>by rw[hy3];rfl
 have hs:=eo hk w
 unfold Builtin.copy_
 simp only[List.getElem?_toArray,List.getElem?_cons_zero,List.getElem?_cons_succ]
 rw[Sem.run_bind,aN ht]
 simp only[Result.andThen_ok,Sem.run_bind,hlen,hs,Zk]
 simp only[Nat.add_zero] at iS
 rw[iS]
 rfl
theorem im{f:FuncId}{args:Array Value}(h:rk P f=true)(w:World):(callFunc f args).run P w=.ok (.enter f args) w:=by
 unfold rk at h
 split at h
 ·rename_i fn hf
  rw[Bool.and_eq_true] at h
  obtain⟨h1,h2⟩:=h
  unfold callFunc
  rw[nB]
  simp only[hf]
  rw[if_neg (by simpa using h1),if_neg (by cases hb:fn.body <;> simp[hb] at h2 ⊢)]
  rfl
 ·cases h
theorem ne{c:Call}{f:Operand}{ty:TypeId}{fn:Fn}{f1 c1:Array Value}{ρ:Operand -> Value}(hc:c.callee=.value f)(hf:ρ f=.func fn f1 c1)(w:World):(resolve ρ c ty).run P w=.ok { target:=.fn fn c1,args:=f1++c.args.map ρ } w:=by
 unfold resolve
 rw[hc]
 simp only[hf,Deferred.ofValue]
 rfl
theorem GQ{n:Nat}{c:Call}{x:AN}(h:Gv P H n c T=some x):∃v H' n',x=.val v H' n':=by
 unfold Gv xi tN rj i0 at h
 repeat' split at h
 all_goals first
  | (cases h;done)
  | (cases h;exact⟨_,_,_,rfl⟩)
theorem DB{n:Nat}{c:Call}{x:AN}(h:xk P H n c T=some x):∃v H' n',x=.val v H' n':=by
 unfold xk xj at h
 repeat' split at h
 all_goals first
  | (cases h;done)
  | (cases h;exact⟨_,_,_,rfl⟩)
theorem BD{n n':Nat}{s:Sem Value}{s':Sem Next}{v:Value}(h:Effi P ν F n s w v H' n')(e:s'.run P w=(do pure (.value (<- s)):Sem Next).run P w):Qj P ν F n s' w (.val v H' n'):=by
 obtain⟨ν',v',w',h1,h2,h3,h4,h5⟩:=h
 refine⟨ν',v',w',.value v',?_,.inl rfl,h2,h3,h4,h5⟩
 rw[e,Sem.run_bind,h1]
 rfl
theorem DC{t:TypeId}{name:String}{f:FuncId}{v:Value}(h:Gw P t name=some f)(w:World):(method (P.types.size+Made.depth) t v name).run P w=.ok (f,v) w:=by
 unfold Gw at h
 split at h
 case h_2=>cases h
 rename_i i hi Yg
 split at h
 case h_2=>cases h
 rename_i m hm
 obtain⟨k,hk⟩:∃k,P.types.size+Made.depth=k+1:=⟨_,(Nat.succ_pred_eq_of_pos (dL Yg)).symm⟩
 rw[hk]
 have hfol:m.path.toList=[] -> (follow m.path.toList t (.val v)).run P w=.ok (t,.val v) w:=λ e=>by rw[e];rfl
 split at h
 ·rename_i g e hp hf hu
  cases h
  unfold method
  rw[Sem.run_bind,dM hi]
  simp only[Result.andThen_ok,hm]
  rw[Sem.run_bind,hfol hp]
  simp only[Result.andThen_ok,hf]
  rw[Sem.run_bind]
  have:∀wr,(receiverAt t (.val v) true wr).run P w=.ok v w:=λ wr=>by
   unfold receiverAt
   rw[Sem.run_bind,aN hu]
   rfl
  rw[this]
  rfl
 ·cases h
 ·rename_i g d hnp hp hf hu
  cases h
  unfold method
  rw[Sem.run_bind,dM hi]
  simp only[Result.andThen_ok,hm]
  rw[Sem.run_bind,hfol hp]
  simp only[Result.andThen_ok,hf]
  rw[Sem.run_bind]
  have:∀wr,(receiverAt t (.val v) false wr).run P w=.ok v w:=λ wr=>by
   unfold receiverAt
   rw[Sem.run_bind,aN hu]
   simp only[Result.andThen_ok]
   cases d <;> first|rfl|exact(hnp _ rfl).elim
  rw[this]
  rfl
 ·cases h
theorem J9{o:Oper}{n:Nat}{x:AN}(hH:HR ν H F w)(h:mZ P o T H n=some x){l:List Operand}(hl:iZ o.op=some l)(dO:OK ν T a l)(hn:∀v H' n',x=.val v H' n' -> Fr ν n n'):Qj P ν F n (execOp a.eval o) w x:=by
 unfold mZ at h
 split at h
 ·rename_i t p y ho
  rw[ho] at hl;simp only[iZ,b9,Option.some.injEq] at hl;subst hl
  have hp:=dO p (by simp)
  split at h
  ·rename_i ad e
   split at h
   ·rename_i H2 hs
    cases h
    rw[e] at hp
    generalize hu:a.eval p=u at hp
    have hp2:=hp
    cases hp with
    | atom _ h=>simp[cB] at h
    | ptr o h =>
     obtain⟨w',q1,q2,q3⟩:=Dz hH hp2 (dO y (by simp)) hs
     refine⟨ν,undef,w',.skip,?_,.inr ⟨rfl,rfl⟩,VRi.undef,.refl _ _,q2,q3⟩
     simp[execOp,ho,Instr.storeAt,Instr.sureAddr,hu,Sem.run_bind,q1]
   ·cases h
  ·cases h
 ·rename_i t m k y ho
  rw[ho] at hl;simp only[iZ,b9,Option.some.injEq] at hl;subst hl
  split at h
  ·rename_i H2 hs
   cases h
   obtain⟨hp,w',q1,q2,q3⟩:=BC hH (dO m (by simp)) (dO y (by simp)) hs
   have hk:=(dO k (by simp)).plain_eq hp
   refine⟨ν,undef,w',.skip,?_,.inr ⟨rfl,rfl⟩,VRi.undef,.refl _ _,q2,q3⟩
   simp[execOp,ho,hk,Sem.run_bind,q1]
  ·cases h
 ·rename_i t m k y ho
  rw[ho] at hl;simp only[iZ,b9,Option.some.injEq] at hl;subst hl
  split at h
  ·rename_i H2 hs
   cases h
   obtain⟨hp,w',q1,q2,q3⟩:=BC hH (dO m (by simp)) (dO y (by simp)) hs
   have hk:=(dO k (by simp)).plain_eq hp
   refine⟨ν,undef,w',.skip,?_,.inr ⟨rfl,rfl⟩,VRi.undef,.refl _ _,q2,q3⟩
   simp[execOp,ho,hk,Sem.run_bind,q1]
  ·cases h
 ·rename_i c ho
  split at h
  case h_2=>cases h
  rename_i f hc
  split at h
  case h_2=>cases h
  rename_i fn first captured e
  cases h
  rw[ho] at hl
  simp only[iZ,hc,Option.some.injEq] at hl
  subst hl
  have hf:=dO f (by simp)
  rw[e] at hf
  obtain⟨fn',f',c',e',r1,r2,r3⟩:=rI hf
  have ha:=lA (l:=c.args.toList) (λ x hx=>dO x (List.mem_cons_of_mem _ hx))
  refine⟨{ target:=.fn fn' c',args:=f'++c.args.map a.eval },?_,⟨.fn r1 r3,?_⟩⟩
  ·unfold Go.execOp
   rw[ho]
   simp only
   rw[Sem.run_bind,ne hc e']
   rfl
  ·simpa using r2.append ha
 ·rename_i c ho
  split at h
  ·rename_i f hc
   have QS:l=f::c.args.toList:=by
    rw[ho] at hl
    simp only[iZ,b9,hc,Option.some.injEq] at hl
    rw[<- hl];rfl
   split at h
   ·rename_i x' Ri
    cases h
    subst QS
    have hf:=dO f (by simp)
    have ha:=lA (l:=c.args.toList) (λ x hx=>dO x (List.mem_cons_of_mem _ hx))
    have f_:∀fn' f' c',a.eval f=.func fn' f' c' -> (execOp a.eval o).run P w=(invoke (.fn fn' c') (f'++c.args.map a.eval)).run P w:=λ fn' f' c' e'=>by
     unfold Go.execOp
     rw[ho]
     simp only
     rw[Sem.run_bind,ne hc e']
     rfl
    unfold qp at Ri
    split at Ri
    case h_2=>cases Ri
    rename_i fn first captured e
    rw[e] at hf
    obtain⟨fn',f',c',e',r1,r2,r3⟩:=rI hf
    split at Ri
    ·split at Ri
     ·rename_i hb
      cases Ri
      cases r1
      refine⟨f'.toList++(c.args.toList.map a.eval++c'.toList),?_,r2.append (ha.append r3)⟩
      rw[f_ _ _ _ e']
      show (callFunc _ (f'++c.args.map a.eval++c')).run P w=_
      rw[im hb]
      congr 2
      apply Array.ext'
      simp
     ·cases Ri
    ·rename_i lp
     split at Ri
     ·rename_i Xz
      cases Ri
      cases r1 with
      | @yield _ b K hν =>
      rw[Xz] at r2
      refine⟨b,K,_,hν,ha,?_⟩
      rw[f_ _ _ _ e']
      have hf0:f'=#[]:=by
       apply Array.ext'
       generalize f'.toList=q at r2
       cases r2;rfl
      subst hf0
      show (Instr.yield b (#[]++c.args.map a.eval)).run P w=_
      congr 2
      apply Array.ext'
      simp
     ·cases Ri
    ·cases Ri
   ·split at h
    ·rename_i v hv
     cases h
     have RC:b9 o.op=some l:=by
      rw[ho] at hl ⊢
      exact hl
     obtain⟨v',r,e⟩:=oW hv RC dO
     exact⟨ν,v',w,_,e w,.inl rfl,r,.refl _ _,hH,Below.refl _ _⟩
    ·cases h
  ·rename_i b hc
   split at h
   ·obtain⟨v,H2,n2,rfl⟩:=GQ h
    have TN:=hn v H2 n2 rfl
    unfold Gv at h
    split at h
    case h_2=>cases h
    rename_i cl x y t u
    simp only at hc
    subst hc
    split at h
    case h_2=>cases h
    rename_i el he hs
    have QS:l=[x,y]:=by
     rw[ho] at hl
     simp only[iZ,b9,Option.some.injEq] at hl
     rw[<- hl];rfl
    subst QS
    have hu:∃e',P.underlying u=some (.slice e'):=by
     unfold Ov at hs
     split at hs
     ·rename_i e1;exact⟨_,e1⟩
     ·cases hs
    obtain⟨e',hu⟩:=hu
    have hr:∃cs,(resolve a.eval ⟨.builtin .append,⟨[x,y]⟩,⟨[t,u]⟩⟩ o.type).run P w=.ok { target:=.builtin .append #[t,u] o.type cs,args:=#[a.eval x,a.eval y] } w:=by
     refine⟨(⟨[x,y]⟩:Array Operand).map (λ | .const _=>true|_=>false),?_⟩
     unfold resolve
     have e:(⟨[x,y]⟩:Array Operand).map a.eval=#[a.eval x,a.eval y]:=by simp
     simp only[e]
     rfl
    obtain⟨cs,hr⟩:=hr
    refine BD (J8 (ty:=o.type) hH (lW he) hu (dO x (by simp)) (dO y (by simp)) TN h) ?_
    unfold Go.execOp
    rw[ho]
    simp only
    rw[Sem.run_bind,hr]
    rfl
   ·obtain⟨v,H2,n2,rfl⟩:=DB h
    unfold xk at h
    split at h
    case h_2=>cases h
    rename_i cl x y t u
    simp only at hc
    subst hc
    split at h
    case h_2=>cases h
    rename_i el he
    have QS:l=[x,y]:=by
     rw[ho] at hl
     simp only[iZ,b9,Option.some.injEq] at hl
     rw[<- hl];rfl
    subst QS
    have hr:∃cs,(resolve a.eval ⟨.builtin .copy,⟨[x,y]⟩,⟨[t,u]⟩⟩ o.type).run P w=.ok { target:=.builtin .copy #[t,u] o.type cs,args:=#[a.eval x,a.eval y] } w:=by
     refine⟨(⟨[x,y]⟩:Array Operand).map (λ | .const _=>true|_=>false),?_⟩
     unfold resolve
     have e:(⟨[x,y]⟩:Array Operand).map a.eval=#[a.eval x,a.eval y]:=by simp
     simp only[e]
     rfl
    obtain⟨cs,hr⟩:=hr
    refine BD (GP (u:=u) (ty:=o.type) hH (lW he) (dO x (by simp)) (dO y (by simp)) h) ?_
    unfold Go.execOp
    rw[ho]
    simp only
    rw[Sem.run_bind,hr]
    rfl
   ·cases h
    show (execOp a.eval o).run P w=_
    unfold Go.execOp
    rw[ho]
    simp only
    rw[Sem.run_bind]
    unfold resolve
    rw[hc]
    rfl
   ·cases h
  ·rename_i recv name hc
   have QS:l=recv::c.args.toList:=by
    rw[ho] at hl
    simp only[iZ,b9,hc,Option.some.injEq] at hl
    rw[<- hl];rfl
   subst QS
   split at h
   case h_2=>cases h
   rename_i t v e
   split at h
   case h_2=>cases h
   rename_i f hf
   split at h
   case h_2=>cases h
   rename_i hB
   cases h
   have hr:=dO recv (by simp)
   rw[e] at hr
   have ha:=lA (l:=c.args.toList) (λ x hx=>dO x (List.mem_cons_of_mem _ hx))
   generalize hu:a.eval recv=u at hr
   cases hr with
   | atom _ h=>simp[cB] at h
   | @iface _ v' _ hv =>
   refine⟨v'::c.args.toList.map a.eval,?_,.cons hv ha⟩
   unfold Go.execOp
   rw[ho]
   simp only
   rw[Sem.run_bind]
   have h1:(resolve a.eval c o.type).run P w=.ok { target:=.fn (.method name) #[],args:=#[.iface t v']++c.args.map a.eval } w:=by
    unfold resolve
    rw[hc]
    simp only[hu]
    rfl
   rw[h1]
   simp only[Result.andThen_ok]
   have h2:(invoke (.fn (.method name) #[]) (#[.iface t v']++c.args.map a.eval)).run P w=(callMethod (.iface t v') name (c.args.map a.eval)).run P w:=by
    unfold invoke
    have e1:(#[Value.iface t v']++c.args.map a.eval)[0]?=some (.iface t v'):=by rw[Array.getElem?_append_left (by simp)];rfl
    have e2:(#[Value.iface t v']++c.args.map a.eval).extract 1 (#[Value.iface t v']++c.args.map a.eval).size=c.args.map a.eval:=by
     apply Array.ext'
     simp
     rw[List.take_of_length_le (by simp)]
    simp only[e1,e2]
   rw[h2]
   unfold callMethod
   simp only
   rw[nB,Sem.run_bind,DC hf]
   simp only[Result.andThen_ok]
   rw[im hB]
   congr 2
   apply Array.ext'
   simp
 ·cases h
theorem lY{o:Op}{l:List Operand}(h:iZ o=some l)(hd:∀c,o ≠ .defer c):b9 o=some l:=by
 cases o <;> first|exact h|exact(hd _ rfl).elim
end ap
def Glb(ν:Nu)(G:Nat):Prop:=∀k,k<G -> ∃K,ν k=some (k,K)
def GR(ν:Nu)(v:Value)(n n':Nat)(H':AH)(F:HL)(w:World)(e:Ending)(w':World):Prop :=
 ∃ν' v',e=.returned v' /\ VRi ν' v v' /\ Ext ν ν' n n' /\ HR ν' H' F w' /\ Below 0 w w'
inductive DsR(ν:Nu):List Deferred -> List Deferred -> Prop
 | nil:DsR ν [] []
 | cons {d d':Deferred} {l l':List Deferred}:DR ν d d' -> DsR ν l l' -> DsR ν (d::l) (d'::l')
inductive RR(ν:Nu):Option Nat -> Option Nat -> Prop
 | none:RR ν none none
 | some {l b K:Nat}:ν l=some (b,K) -> RR ν (some l) (some b)
def Ex.out:Ex -> Exit
 | .normal=>.normal
 | .exit id=>.exit id
 | .ret=>.ret
structure SR(ν:Nu)(G N:Nat)(s:St)(F:HL)(a:Act)(w:World):Prop where
 g:Glb ν G
 t:TRel ν N s.T a.tmps
 d:DsR ν s.D a.defers
 h:HR ν s.H F w
def BE(F:Fence)(n:Nat)(P:Program)(c:Code)(Q:Exit -> Act -> World -> Prop)(a:Act)(w:World):Prop :=
 ∀ (b:Frame) (k:List Item) (cs:List Frame),b.roundOf=F.round -> F.fn b.fn -> F.room (cs.length+1+n) ->
  ∃e a' w',Q e a' w' /\ ArrivesIn (Machine.fenced P F) P (lone (b.atR a (.code c :: .inLoop c::k)) cs w) b k cs e a' w'
theorem zU{F:Fence}{n:Nat}{P:Program}{c:Code}{Q:Exit -> Act -> World -> Prop}{a:Act}{w:World}(h:BE F n P c Q a w):(Code.loop c).wpIn F n P Q a w:=by
 intro b k cs Rc hb hr
 obtain⟨e,a',w',hq,oR⟩:=h b k cs Rc hb hr
 exact⟨e,a',w',hq,.of_steps (.one (fenced_calm hb hr rfl) stepR_loop) oR⟩
theorem xH{F:Fence}{n:Nat}{P:Program}{c:Code}{Q:Exit -> Act -> World -> Prop}{a:Act}{w:World}(h:c.wpIn F n P (Exit.then (BE F n P c Q) Q) a w):BE F n P c Q a w:=by
 intro b k cs Rc hb hr
 obtain⟨e,a₁,w₁,hq,oR⟩:=h b (.inLoop c::k) cs Rc hb hr
 cases e with
 | normal =>
  obtain⟨e₂,a₂,w₂,SU,Q9⟩:=hq b k cs Rc hb hr
  exact⟨e₂,a₂,w₂,SU,.of_steps (StepsIn.trans oR (.one (fenced_calm hb hr rfl) stepR_inLoop)) Q9⟩
 | exit id=>exact⟨_,a₁,w₁,hq,.pass (x:=.inLoop c) rfl (λ _ _=>.inl (by simp)) oR⟩
 | goto l=>exact⟨_,a₁,w₁,hq,.pass (x:=.inLoop c) rfl (λ _ _=>.inl (by simp)) oR⟩
 | ret=>exact⟨_,a₁,w₁,hq,.pass (x:=.inLoop c) rfl (λ _ _=>.inl (by simp)) oR⟩
 | panic ch=>exact⟨_,a₁,w₁,hq,.pass (x:=.inLoop c) rfl (λ _ _=>.inl (by simp)) oR⟩
 | outgrown=>exact⟨_,a₁,w₁,hq,.pass (x:=.inLoop c) rfl (λ _ _=>.inl (by simp)) oR⟩
def jL(P:Program)(G:Nat):Task -> Rs -> Prop
 | .fn f args H n,.fn v H' n'=>n <= n' /\ ∀ν F w iN,Glb ν G -> Fr ν n n' -> HR ν H F w -> LR ν args iN -> Calls P f ⟨iN⟩ w (GR ν v n n' H' F w)
 | .rnd l T N as bo H n,.fn v H' n'=>n <= n' /\ ∀ν F w b K tm f r',Glb ν G -> ν l=some (b,K) -> TRel ν N T tm -> Fr ν n n' -> HR ν H F w -> RoundIn (Wr r') 0 P b f tm as bo w (GR ν v n n' H' F w)
 | .code r N c s,.cd e s'=>s.n <= s'.n /\ ∀ν F a w r' Q,RR ν r r' -> SR ν G N s F a w -> Fr ν s.n s'.n -> (∀ν' a' w',Ext ν ν' s.n s'.n -> SR ν' G N s' F a' w' -> Below 0 w w' -> Q e.out a' w') -> c.wpIn (Wr r') 0 P Q a w
 | .loop r N c s,.cd e s'=>s.n <= s'.n /\ ∀ν F a w r' Q,RR ν r r' -> SR ν G N s F a w -> Fr ν s.n s'.n -> (∀ν' a' w',Ext ν ν' s.n s'.n -> SR ν' G N s' F a' w' -> Below 0 w w' -> Q e.out a' w') -> BE (Wr r') 0 P c Q a w
 | .dfn f args H n,.fn v H' n'=>n <= n' /\ ∀ν F w iN,Glb ν G -> Fr ν n n' -> HR ν H F w -> LR ν args iN -> CallsDIn (Wr none) 0 P f ⟨iN⟩ .returning w (λ e u' w'=>u'=.returning /\ GR ν v n n' H' F w e w')
 | _,_=>True
def kG(P:Program)(G:Nat)(ih:Task -> Option Rs):Prop:=∀t res,ih t=some res -> jL P G t res
section ops
variable {ν ν':Nu} {P:Program} {G N:Nat} {T T':Tr Value} {a:Act} {H H':AH} {F:HL} {w w':World} {r r':Option Nat} {ih:Task -> Option Rs}
theorem Glb.mono(h:Glb ν G)(hl:ν.Le ν'):Glb ν' G:=λ k hk=>let ⟨K,e⟩:=h k hk;⟨K,hl _ _ e⟩
theorem DsR.mono{l l':List Deferred}(h:DsR ν l l')(hl:ν.Le ν'):DsR ν' l l':=by
 induction h with
 | nil=>exact .nil
 | cons h _ ih=>exact .cons (h.mono hl) ih
theorem RR.mono(h:RR ν r r')(hl:ν.Le ν'):RR ν' r r':=by
 cases h with
 | none=>exact .none
 | some h=>exact .some (hl _ _ h)
theorem HR.loop(h:HR ν H F w){k:Nat}{st:LoopState}{pend:Option Code}{T:Tr Value}{N:Nat}{ps:Array Tmp}{as bo:Code}{d r K:Nat}(hk:bL H k=some (.loop st pend T N ps as bo d))(hr:ν k=some (r,K)) :
  ∃lp:Loop,w.heap[r]?=some (.loop lp) /\ lp.state=st /\ lp.pending=pend /\ TRel ν N T lp.tmps /\ lp.params=ps /\ lp.assign=as /\ lp.body=bo /\ ∃K',ν d=some (lp.defers,K'):=by
 obtain⟨r',K',o,h1,h2,h3⟩:=h.blk _ _ hk
 rw[hr] at h1
 cases h1
 unfold OR at h3
 split at h3
 ·rename_i e1;cases e1
 ·rename_i e1;cases e1
 ·rename_i e1;cases e1;exact⟨_,h2,h3⟩
 ·rename_i e1;cases e1
 ·exact h3.elim
theorem gN{l:Nat}{lp:Loop}(h:w.heap[l]?=some (.loop lp)):(Instr.getLoop l).run P w=.ok lp w:=by
 unfold Instr.getLoop
 rw[Sem.run_bind]
 have:(getObj l).run P w=.ok (.loop lp) w:=by
  unfold getObj
  rw[Sem.run.eq_def]
  simp only[h]
  rfl
 rw[this]
 rfl
theorem t7:∀ {ps:List Tmp} {vs OF:List Value} {T:Tr Value} {tm:Array Value},LR ν vs OF -> TRel ν N T tm -> Bv N ps=true -> TRel ν N (Gx ps vs T) ((ps.zip OF).foldl (λ tmps (p:Tmp × Value)=>tmps.setIfInBounds p.1 p.2) tm)
 | [],vs,OF,T,tm,hl,ht,_=>by cases vs <;> exact ht
 | p::ps,[],OF,T,tm,hl,ht,_=>by cases hl;exact ht
 | p::ps,v::vs,OF,T,tm,hl,ht,iF=>by
  cases hl with
  | cons hv hl =>
   rw[Bv] at iF
   split at iF
   ·rename_i hp
    have h2:=t7 (ps:=ps) hl (ht.set (dL hp) hv) iF
    exact h2
   ·cases iF
theorem DD{b:Nat}{lp:Loop}{args:List Value}(h:w.heap[b]?=some (.loop lp))(hs:args.length=lp.params.size) :
  (Instr.yield b ⟨args⟩).run P w=.ok (.round b lp.fn ((lp.params.toList.zip args).foldl (λ tmps (p:Tmp × Value)=>tmps.setIfInBounds p.1 p.2) lp.tmps) lp.assign lp.body) w:=by
 unfold Instr.yield
 rw[Sem.run_bind,gN h]
 simp only[Result.andThen_ok]
 rw[if_neg (by simp[hs])]
 have:(Array.foldl (λ (tmps:Array Value) (x:Tmp × Value)=>tmps.setIfInBounds x.1 x.2) lp.tmps (lp.params.zip ⟨args⟩))=((lp.params.toList.zip args).foldl (λ tmps (p:Tmp × Value)=>tmps.setIfInBounds p.1 p.2) lp.tmps):=by
  rw[<- Array.foldl_toList,Array.toList_zip]
 rw[<- this]
 rfl
def Qk(P:Program)(ν:Nu)(F:HL)(n:Nat)(r r':Option Nat)(a:Act)(w:World)(o:Oper):OpR -> Prop
 | .val v H' n'=>Fr ν n n' -> ∀ (next:Act -> World -> Prop) (Q:Exit -> Act -> World -> Prop),(∀ν' v' w',VRi ν' v v' -> Ext ν ν' n n' -> HR ν' H' F w' -> Below 0 w w' -> next (a.put o.dst v') w') -> o.wpIn (Wr r') 0 P a w next Q
 | .dfr d=>r=none /\ ∀ (next:Act -> World -> Prop) (Q:Exit -> Act -> World -> Prop),(∀d',DR ν d d' -> next ({ a with defers:=d'::a.defers }.put o.dst undef) w) -> o.wpIn (Wr r') 0 P a w next Q
theorem GS{o:Oper}{c:Call}{n:Nat}{x:AN}(ho:o.op=.defer c)(h:Bu P G o T H n=some x):∃d,x=.dfr d:=by
 unfold Bu at h
 split at h
 ·cases h
 split at h
 ·cases h
 rw[ho] at h
 simp only[sw,mZ,ho] at h
 split at h
 ·split at h
  ·cases h;exact⟨_,rfl⟩
  ·cases h
 ·cases h
theorem lZ{o:Oper}{n:Nat}{x:AN}(dO:∀l,iZ o.op=some l -> sL G l=true -> OK ν T a l)(hH:HR ν H F w)(h:Bu P G o T H n=some x)(hn:∀v H' n',x=.val v H' n' -> Fr ν n n'):Qj P ν F n (execOp a.eval o) w x:=by
 unfold Bu at h
 split at h
 ·cases h
 rename_i l hl
 split at h
 ·cases h
 rename_i hk
 have dO:=dO l hl hk
 split at h
 ·rename_i hc
  split at h
  ·rename_i v hv
   cases h
   have TI:=lY hl (λ c e=>by rw[e] at hc;cases hc)
   obtain⟨v',r,e⟩:=xz hv TI dO
   exact⟨ν,v',w,_,e w,.inl rfl,r,.refl _ _,hH,Below.refl _ _⟩
  ·cases h
 ·rename_i hc
  split at h
  ·rename_i v hv
   cases h
   have TI:=lY hl (λ c e=>by rw[e] at hc;cases hc)
   obtain⟨v',r,e⟩:=xE hH hv TI dO
   exact⟨ν,v',w,_,e,.inl rfl,r,.refl _ _,hH,Below.refl _ _⟩
  ·cases h
 ·rename_i hc
  split at h
  ·rename_i b m hv
   cases h
   have TI:=lY hl (λ c e=>by rw[e] at hc;cases hc)
   obtain⟨h1,h2,o',h3,h4⟩:=BB hv TI dO
   have hnone:ν n=none:=hn _ _ _ rfl n (Nat.le_refl _) (by omega)
   exact⟨ν.upd n w.heap.size 0,_,_,_,h4 w,.inl rfl,GK h2 cm,.upd,hH.new hnone (h3 0) h1 rfl,⟨rfl,rfl,rfl,by simp,λ k hk=>by omega⟩⟩
  ·cases h
 ·exact J9 hH h hl dO hn
theorem vg{o:Oper}{n n':Nat}{v:Value}(h:Bu P G o T H n=some (.val v H' n')):n <= n':=by
 have key:mZ P o T H n=some (.val v H' n') -> n <= n':=by
  intro h
  unfold mZ qp Gv xk xi xj tN rj i0 at h
  repeat' split at h
  all_goals first
   | (cases h;done)
   | (cases h;omega)
   | (rename_i hx;simp only[Option.some.injEq] at h;subst h;(repeat' (split at hx)) <;> first|(cases hx;done)|(cases hx;omega))
 unfold Bu at h
 split at h
 ·cases h
 split at h
 ·cases h
 split at h
 ·split at h
  ·cases h;omega
  ·cases h
 ·split at h
  ·cases h;omega
  ·cases h
 ·split at h
  ·unfold MA at h;cases h;omega
  ·cases h
 ·exact key h
theorem vh(r_:kG P G ih){o:Oper}{n:Nat}{x:OpR}(hg:Glb ν G)(hr:RR ν r r')(dO:∀l,iZ o.op=some l -> sL G l=true -> OK ν T a l)(hH:HR ν H F w)(h:jZ P G ih r o T H n=some x):(∀v H' n',x=.val v H' n' -> n <= n') /\ Qk P ν F n r r' a w o x:=by
 have hA:∀f,o.about P w a.eval=some f -> (Wr r').fn f:=λ _ _=>trivial
 unfold jZ at h
 split at h
 ·cases h
 rename_i y hy
 have nd:(∀d,y ≠ .dfr d) -> o.semAt (Wr r').round a.eval=execOp a.eval o:=λ hd=>Oper.semAt_eq _ _ _ λ c e=>by
  obtain⟨d,SE⟩:=GS e hy
  exact hd d SE
 split at h
 ·rename_i v H1 n1
  cases h
  refine⟨λ v H' n' e=>by cases e;exact vg hy,λ TN next Q hk=>⟨hA,?_⟩⟩
  obtain⟨ν',v',w',q,h1,h2,h3,h4,h5,h6⟩:=lZ dO hH hy (λ v H' n' e=>by cases e;exact TN)
  rw[nd (λ d e=>by cases e),h1]
  rcases h2 with rfl|⟨rfl,rfl⟩
  ·rw[Oper.uponIn_value];exact hk _ _ _ h3 h4 h5 h6
  ·rw[Oper.uponIn_skip];exact hk _ _ _ h3 h4 h5 h6
 ·rename_i f args
  split at h
  ·rename_i v H1 n1 hc
   cases h
   obtain⟨hle,RP⟩:=r_ _ _ hc
   refine⟨λ v H' n' e=>by cases e;exact hle,λ TN next Q hk=>⟨hA,?_⟩⟩
   obtain⟨iN,h1,h2⟩:=lZ dO hH hy (λ v H' n' e=>by cases e)
   rw[nd (λ d e=>by cases e),h1,Oper.uponIn_enter]
   refine⟨λ h=>(by cases h),?_⟩
   refine iI ((RP ν F w iN hg TN hH h2).mono ?_)
   rintro e w2 ⟨ν',v',rfl,k1,k2,k3,k4⟩
   exact hk _ _ _ k1 k2 k3 k4
  ·cases h
 ·rename_i l args
  split at h
  case h_2=>cases h
  rename_i st pend T2 N' ps as bo d hb
  split at h
  case h_2=>cases h
  rename_i G_ iF
  split at h
  case h_2=>cases h
  rename_i v H1 n1 hc
  cases h
  obtain⟨hle,RP⟩:=r_ _ _ hc
  refine⟨λ v H' n' e=>by cases e;exact hle,λ TN next Q hk=>⟨hA,?_⟩⟩
  obtain⟨b,K,iN,hν,h1,h2⟩:=lZ dO hH hy (λ v H' n' e=>by cases e)
  obtain⟨lp,g1,g2,g3,g4,g5,g6,g7,g8⟩:=hH.loop hb hν
  have hlen:iN.length=lp.params.size:=by
   rw[g5,h1.length]
   rw[d9] at G_
   exact Nat.eq_of_beq_eq_true G_
  rw[nd (λ d e=>by cases e),h2,DD g1 hlen,Oper.uponIn_round]
  refine⟨λ h=>(by cases h),?_⟩
  rw[g6,g7,g5]
  refine(RP ν F w b K _ lp.fn r' hg hν (t7 h1 g4 iF) TN hH).mono ?_
  rintro e w2 ⟨ν',v',rfl,k1,k2,k3,k4⟩
  exact hk _ _ _ k1 k2 k3 k4
 ·rename_i d
  split at h
  ·cases h
   cases hr
   refine⟨λ v H' n' e=>(by cases e),rfl,λ next Q hk=>⟨hA,?_⟩⟩
   obtain⟨d',h1,h2⟩:=lZ dO hH hy (λ v H' n' e=>by cases e)
   have:o.semAt (Wr none).round a.eval=execOp a.eval o:=rfl
   rw[this,h1,Oper.uponIn_defer]
   exact hk _ h2
  ·cases h
 ·cases h
theorem j9{ops:Array Oper}{o:Oper}{b:Bool}(hT:TRel ν N T a.tmps)(h:eF ops o T=some b):Region.wanted o (yielded ops a.tmps)=b:=by
 unfold eF at h
 unfold Region.wanted
 split at h
 ·rename_i hg
  rw[hg];cases h;rfl
 ·rename_i j want hg
  rw[hg]
  simp only
  split at h
  case h_2=>cases h
  rename_i d hd
  have hy:yielded ops a.tmps j=match a.tmps[d]? with|some (.bool b)=>some b|_=>none:=by
   unfold yielded
   rw[hd]
   rfl
  have hv:(d<N /\ ∃v',a.tmps[d]?=some v' /\ VRi ν (cU T d) v') \/ (a.tmps[d]?=none /\ cU T d=undef):=by
   rcases Nat.lt_or_ge d N with h1|h1
   ·exact .inl ⟨h1,hT.get d h1⟩
   ·exact .inr ⟨Array.getElem?_eq_none (by rw[hT.size];exact h1),hT.out d h1⟩
  rw[hy]
  split at h
  ·rename_i b' hb
   cases h
   rcases hv with ⟨-,v',e1,e2⟩|⟨e1,e2⟩
   ·rw[hb] at e2
    rw[e2.plain_eq rfl] at e1
    rw[e1];simp
   ·rw[hb] at e2;cases e2
  ·rename_i vs hb
   cases h
   rcases hv with ⟨-,v',e1,e2⟩|⟨e1,e2⟩
   ·rw[hb] at e2
    rw[e1]
    cases e2 with
    | atom _ h=>simp[cB] at h
    | tuple _ _=>rfl
   ·rw[e1];rfl
  ·cases h
theorem SR.op{s:St}(h:SR ν G N s F a w){o:Oper}:∀l,iZ o.op=some l -> sL G l=true -> OK ν s.T a l:=λ l _ hk =>
 (FE.mk h.t h.g).ok hk
theorem od(r_:kG P G ih){ops:Array Oper}:∀ (rest:List Oper) (s s':St),mC P G ih r N ops rest s=some s' -> s.n <= s'.n /\ ∀ν F a w r' (Q:Exit -> Act -> World -> Prop),RR ν r r' -> SR ν G N s F a w -> Fr ν s.n s'.n ->
  (∀ν' a' w',Ext ν ν' s.n s'.n -> SR ν' G N s' F a' w' -> Below 0 w w' -> Q .normal a' w') -> wpListIn (Wr r') 0 P ops Q rest a w
 | [],s,s',h=>by
  rw[mC] at h
  cases h
  exact⟨Nat.le_refl _,λ ν F a w r' Q hr hs hf hk=>hk ν a w (.refl _ _) hs (Below.refl _ _)⟩
 | o::rest,s,s',h=>by
  rw[mC] at h
  split at h
  ·cases h
  ·rename_i hw
   split at h
   case h_2=>cases h
   rename_i T1 hp
   obtain⟨h1,h2⟩:=od r_ rest _ _ h
   refine⟨h1,λ ν F a w r' Q hr hs hf hk=>?_⟩
   rw[wpListIn,if_neg (by rw[j9 hs.t hw];simp)]
   refine⟨λ _ _=>trivial,?_⟩
   exact h2 ν F _ w r' Q hr ⟨hs.g,hs.t.put VRi.undef hp,by rw[fG];exact hs.d,hs.h⟩ hf hk
  ·rename_i hw
   split at h
   ·cases h
   ·rename_i v H1 n1 iS
    split at h
    case h_2=>cases h
    rename_i T1 hp
    obtain⟨h1,h2⟩:=od r_ rest _ _ h
    simp only at h1 h2
    have hle:s.n <= n1:=by
     clear h2
     unfold jZ at iS
     split at iS
     ·cases iS
     rename_i y hy
     split at iS
     ·cases iS;exact vg hy
     ·split at iS
      ·rename_i hc;cases iS;exact(r_ _ _ hc).1
      ·cases iS
     ·split at iS
      case h_2=>cases iS
      split at iS
      case h_2=>cases iS
      split at iS
      ·rename_i hc;cases iS;exact(r_ _ _ hc).1
      ·cases iS
     ·split at iS <;> cases iS
     ·cases iS
    refine⟨by omega,λ ν F a w r' Q hr hs hf hk=>?_⟩
    rw[wpListIn,if_pos (j9 hs.t hw)]
    obtain⟨-,h4⟩:=vh r_ hs.g hr hs.op hs.h iS
    refine h4 (λ i Zj Uw=>hf i Zj (by omega)) _ _ (λ ν' v' w' k1 k2 k3 k4=>?_)
    have QL:=k2.sub (λ i Zj Uw=>hf i Zj (by omega))
    exact h2 ν' F _ w' r' Q (hr.mono QL) ⟨hs.g.mono QL,(hs.t.mono QL).put k1 hp,by rw[fG];exact hs.d.mono QL,k3⟩ (k2.fr hf h1) (λ ν2 a2 w2 q1 q2 q3=>hk ν2 a2 w2 (k2.trans q1) q2 (k4.trans q3))
   ·rename_i d iS
    split at h
    case h_2=>cases h
    rename_i T1 hp
    obtain⟨h1,h2⟩:=od r_ rest _ _ h
    refine⟨h1,λ ν F a w r' Q hr hs hf hk=>?_⟩
    rw[wpListIn,if_pos (j9 hs.t hw)]
    obtain⟨-,h3,h4⟩:=vh r_ hs.g hr hs.op hs.h iS
    refine h4 _ _ (λ d' SE=>?_)
    exact h2 ν F _ w r' Q hr ⟨hs.g,TRel.put (a:={ a with defers:=d'::a.defers }) hs.t VRi.undef hp,by rw[fG];exact .cons SE hs.d,hs.h⟩ hf hk
end ops
end Go.Proofs.YtgdcbiiopbpgaaaGreatDoor
