import Derived.Test.YtgdcbiiopbpgaaaGreatDoorY10
set_option maxHeartbeats 4000000
set_option maxRecDepth 100000
set_option linter.unusedSimpArgs false
set_option linter.unusedVariables false
namespace Go.Proofs.YtgdcbiiopbpgaaaGreatDoor
open IntKind
open Go.RowKit
section nw
variable {ν ν':Nu} {P:Program} {G N:Nat} {T T':Tr Value} {a:Act} {H H':AH} {F:HL} {w w':World}
theorem fe(o:Obj)(w:World):(newObj o).run P w=.ok w.heap.size { w with heap:=w.heap.push o }:=rfl
def Mk.ok:Mk -> Prop
 | .sl _ c=>c<l9
 | _=>True
theorem GY{m:Mk}(h:m.ok){n r K:Nat}(hν:ν n=some (r,K)):VRi ν (m.val n) (m.val r):=by
 cases m with
 | ptr=>exact .ptr 0 hν
 | sl l c=>exact .slice 0 l hν ⟨λ _=>rfl,λ e=>by unfold Mk.ok at h;omega⟩
 | mp=>exact .map hν
theorem GZ(z:List Value)(n:Nat):(mB z n).length=n*z.length:=by
 induction n with
 | zero=>simp[mB]
 | succ n ih=>simp[mB,ih,Nat.succ_mul];omega
theorem xT(z:List Value):∀ (n i:Nat),i<n*z.length -> (mB z n)[i]?=z[i % z.length]?
 | 0,i,h=>by omega
 | n+1,i,h=>by
  rw[mB]
  rcases Nat.lt_or_ge i z.length with h1|h1
  ·rw[List.getElem?_append_left h1,Nat.mod_eq_of_lt h1]
  ·rw[List.getElem?_append_right h1,xT z n _ (by rw[Nat.succ_mul] at h;omega),Nat.mod_eq_sub_mod h1]
theorem uh(z:List Value)(n:Nat)(hz:0<z.length):(Array.range (n*z.length)).map (λ i=>(⟨z⟩:Array Value)[i % (⟨z⟩:Array Value).size]!)=⟨mB z n⟩:=by
 apply Array.ext'
 apply List.ext_getElem?
 intro i
 rcases Nat.lt_or_ge i (n*z.length) with h|h
 ·have h2:i % z.length<z.length:=Nat.mod_lt _ hz
  simp only[Array.toList_map,Array.toList_range,List.getElem?_map,List.getElem?_range h,Option.map_some]
  rw[xT z n i h]
  simp[h2]
 ·rw[List.getElem?_eq_none (by simp;exact h),List.getElem?_eq_none (by rw[GZ];exact h)]
theorem rR{z:List Value}(h:LR ν z z):∀n,LR ν (mB z n) (mB z n)
 | 0=>.nil
 | n+1=>h.append (rR h n)
theorem me{t el:TypeId}(h:tZ P t=some el):P.underlying t=some (.slice el):=by
 unfold tZ at h
 split at h
 ·rename_i e;cases h;exact e
 ·cases h
theorem BM{o:Oper}{b:AB}{m:Mk}(h:s0 P o T=some (b,m)){l:List Operand}(hl:cf o.op=some l)(dO:OK ν T a l) :
  GW b=true /\ m.ok /\ ∃o',(∀K,OR ν K b o') /\ ∀w,(execOp a.eval o).run P w=.ok (.value (m.val w.heap.size)) { w with heap:=w.heap.push o' }:=by
 unfold s0 at h
 split at h
 ·rename_i t ho
  split at h
  ·rename_i z hz
   cases h
   obtain⟨zv,h1,h2,h3,-⟩:=kc (ν:=ν) hz
   refine⟨kL _ _,trivial,_,λ K=>OR.cellsB h3,λ w=>?_⟩
   simp[execOp,ho,Instr.alloc,Sem.run_bind,h1,newVar,newRow,h2,fe,cJ,Result.andThen,Mk.val]
  ·cases h
 ·rename_i t x ho
  rw[ho] at hl;simp only[cf,Option.some.injEq] at hl;subst hl
  cases h
  refine⟨kL _ _,trivial,_,λ K=>OR.cellsB (kI (dO x (by simp))),λ w=>?_⟩
  simp[execOp,ho,Instr.box,Sem.run_bind,newVar,newRow,fe,cJ,Result.andThen,Mk.val,gw]
 ·rename_i t len parts ho
  rw[ho] at hl;simp only[cf,Option.some.injEq] at hl;subst hl
  split at h
  case h_2=>cases h
  rename_i el he
  split at h
  case h_2=>cases h
  rename_i k z hk hz
  split at h
  case h_2=>cases h
  rename_i g1 g2 g3
  split at h
  case h_2=>cases h
  rename_i l hf
  cases h
  have hu:=me he
  have TK:z.length=k:=by rw[eh] at g2;exact Nat.eq_of_beq_eq_true g2
  have hk0:=dL g3
  have g1':=bQ g1
  obtain⟨zv,h1,h2,h3,-⟩:=kc (ν:=ν) hz
  obtain⟨l',e1,e2⟩:=pf (rM dO) (rR h3 len) hf
  refine⟨kL _ _,?_,_,λ K=>OR.cellsB e2,λ w=>?_⟩
  ·have:len <= len*k:=Nat.le_mul_of_pos_right _ hk0
   show len<l9
   unfold l9;omega
  have h6:=kK e1
  have h7:(parts.map λ (p:Nat × Operand)=>(p.1,a.eval p.2)).toList=parts.toList.map λ p=>(p.1,a.eval p.2):=by simp
  have h8:=uh z len (by omega)
  rw[TK] at h8
  have hs:=ew hk w
  unfold Go.execOp
  rw[ho]
  simp only
  rw[Sem.run_bind]
  have:(Instr.buildSlice t len (parts.map λ (p:Nat × Operand)=>(p.1,a.eval p.2))).run P w=.ok (.slice (some ⟨w.heap.size,0,none⟩) len len) { w with heap:=w.heap.push (.cells ⟨l'⟩ el (0,0)) }:=by
   unfold Instr.buildSlice
   rw[Sem.run_bind,aO hu]
   simp only[Result.andThen_ok]
   rw[Sem.run_bind,hs]
   simp only[Result.andThen_ok]
   rw[if_neg (by simp;omega)]
   by_cases Uq:len*k=0
   ·have hlen:len=0:=by
     rcases Nat.eq_zero_or_pos len with e|e
     ·exact e
     ·have:=Nat.mul_pos e hk0;omega
    subst hlen
    simp only[Nat.zero_mul,if_true]
    rw[Sem.run_bind]
    simp only[cJ,Result.andThen_ok]
    have h9:(Array.range 0).map (λ i=>(#[]:Array Value)[i % (#[]:Array Value).size]!)=⟨mB z 0⟩:=by simp[mB]
    rw[h9,h7,h6]
    simp only[Sem.run_bind,newRow,fe,Result.andThen_ok,cJ]
   ·rw[if_neg Uq]
    rw[Sem.run_bind,h1]
    simp only[Result.andThen_ok]
    rw[Sem.run_bind]
    simp only[cJ,Result.andThen_ok,h2]
    rw[h8,h7,h6]
    simp only[Sem.run_bind,newRow,fe,Result.andThen_ok,cJ]
  rw[this]
  rfl
 ·rename_i t lo co ho
  rw[ho] at hl;simp only[cf,Option.some.injEq] at hl;subst hl
  split at h
  case h_2=>cases h
  rename_i el he
  split at h
  case h_2=>cases h
  rename_i inf hi
  split at h
  case h_2=>cases h
  rename_i z n m' hz hn hm
  split at h
  case h_2=>cases h
  rename_i g1 g2 g3 g4 g5 g6
  cases h
  have hu:=me he
  have TK:z.length=inf.size:=by rw[eh] at g4;exact Nat.eq_of_beq_eq_true g4
  have hk0:=dL g5
  have g1':=bQ g1
  have g2':=bQ g2
  have g3':=dL g3
  have g6':=dL g6
  obtain⟨zv,h1,h2,h3,-⟩:=kc (ν:=ν) hz
  obtain⟨kn,en⟩:=nq hn (dO lo (by simp))
  obtain⟨km,em⟩:=nq hm (dO co (by simp))
  refine⟨kL _ _,g3',_,λ K=>OR.cellsB (rR h3 m'),λ w=>?_⟩
  have h8:=uh z m' (by omega)
  rw[TK] at h8
  unfold l9 at g3'
  have w1:i64.wrap (n:Int)=(n:Int):=IntWalk.i64_in _ (by omega)
  have w2:i64.wrap (m':Int)=(m':Int):=IntWalk.i64_in _ (by omega)
  have ID:fc P el=some inf.size:=by unfold fc;rw[hi];rfl
  have hs:=ew ID
  have hti:=λ W=>dN hi W
  have q1:¬ ((281474976710656:Int)<(inf.bytes:Int)*(m':Int)):=by
   have:(inf.bytes:Int)*(m':Int)=((inf.bytes*m':Nat):Int):=by simp
   omega
  have q2:¬ ((m':Int)<0):=by omega
  have q3:¬ ((n:Int)<0):=by omega
  have q4:¬ ((m':Int)<(n:Int)):=by omega
  have IT:∀x W,(askRoom x).run P W=.ok () W:=λ x W=>by unfold askRoom;split <;> rfl
  unfold Go.execOp
  rw[ho]
  simp only
  rw[Sem.run_bind]
  have:(Instr.makeSlice t (a.eval lo) (a.eval co)).run P w=.ok (.slice (some ⟨w.heap.size,0,none⟩) n m') { w with heap:=w.heap.push (.cells ⟨mB z m'⟩ el (0,0)) }:=by
   unfold Instr.makeSlice
   rw[Sem.run_bind,aO hu]
   simp only[Result.andThen_ok]
   rw[en,em]
   simp only[asInt,asIntOf,Sem.run_bind,cJ,Result.andThen_ok,hti,w1,w2]
   rw[if_neg (by simp[q1,q2,q3,q4])]
   simp only[Sem.run_bind,IT,Result.andThen_ok,hs,Int.toNat_natCast]
   by_cases Uq:m'*inf.size=0
   ·have hlen:m'=0:=by
     rcases Nat.eq_zero_or_pos m' with e|e
     ·exact e
     ·have:=Nat.mul_pos e hk0;omega
    subst hlen
    simp only[Nat.zero_mul,if_true]
    rw[Sem.run_bind]
    simp only[cJ,Result.andThen_ok]
    have h9:(Array.range 0).map (λ i=>(#[]:Array Value)[i % (#[]:Array Value).size]!)=⟨mB z 0⟩:=by simp[mB]
    rw[h9]
    simp only[Sem.run_bind,newRow,fe,Result.andThen_ok,cJ]
   ·rw[if_neg Uq]
    simp only[Sem.run_bind,h1,cJ,Result.andThen_ok,h2]
    rw[h8]
    simp only[Sem.run_bind,newRow,fe,Result.andThen_ok,cJ]
  rw[this]
  rfl
 ·rename_i t r ho
  have hmk:∀W:World,(newObj (.map #[] 0)).run P W=.ok W.heap.size { W with heap:=W.heap.push (.map #[] 0) }:=λ W=>rfl
  split at h
  ·cases h
   refine⟨rfl,trivial,.map #[] 0,λ K=>⟨rfl,.nil⟩,λ w=>?_⟩
   simp[execOp,ho,Instr.makeMap,Sem.run_bind,hmk,cJ,Result.andThen,Mk.val]
  ·rename_i r
   rw[ho] at hl;simp only[cf,Option.some.injEq] at hl;subst hl
   split at h
   ·rename_i kt et k n hu he
    cases h
    have hr:=dO r (by simp)
    rw[he] at hr
    have er:=hr.plain_eq rfl
    refine⟨rfl,trivial,.map #[] 0,λ K=>⟨rfl,.nil⟩,λ w=>?_⟩
    simp[execOp,ho,Instr.makeMap,Sem.run_bind,aO hu,er,asInt,asIntOf,hmk,cJ,Result.andThen,Mk.val]
   ·cases h
 ·cases h
theorem G1{d:TypeDesc}{k k':Value}(h:lF k k'=some true)(hk:vz d k=true):k'=k /\ Instr.sameBits 10000 k' k=true:=by
 unfold lF at h
 split at h
 ·split at h
  ·rename_i e
   have e':=of_decide_eq_true e
   simp only[Option.some.injEq,beq_iff_eq] at h
   subst e';subst h
   exact⟨rfl,by simp[Instr.sameBits]⟩
  ·cases h
 ·simp only[Option.some.injEq] at h
  have:=EZ.1 h
  subst this
  exact⟨rfl,by simp[Instr.sameBits];exact Jm _⟩
 ·simp only[Option.some.injEq,beq_iff_eq] at h
  subst h
  exact⟨rfl,by simp[Instr.sameBits]⟩
 ·cases h
theorem z6{d:TypeDesc}{k v v':Value}(hk:vz d k=true)(hv:VRi ν v v'){es:List (Value × Value × Nat)}{RW:List MapEntry}(h:ER ν es RW):∀ {r:List (Value × Value × Nat)} {cl cl':Nat} (i:Nat),rz k v cl es=some (r,cl') ->
  (Instr.findNow d k RW i=some none /\ cl'=cl+1 /\ ER ν r (RW++[⟨k,v',cl⟩])) \/ (∃j u,Instr.findNow d k RW i=some (some (i+j,u)) /\ cl'=cl /\ (RW[j]?).map (·.key)=some k /\ Instr.sameBits 10000 k k=true /\ ER ν r (RW.modify j λ e=>{ e with key:=k,val:=v' })):=by
 induction h with
 | nil=>intro r cl cl' i h;rw[rz] at h;cases h;exact .inl ⟨rfl,rfl,.cons k cl hv .nil⟩
 | @cons u0 u0' l0 l0' k' b Z1 h0 ih =>
  intro r cl cl' i h
  rw[rz] at h
  split at h
  ·rename_i e
   cases h
   obtain⟨e1,e2⟩:=G1 e hk
   subst e1
   refine .inr ⟨0,u0',?_,rfl,rfl,e2,.cons k' b hv h0⟩
   rw[Instr.findNow];simp only[gx e hk];rfl
  ·rename_i e
   split at h
   ·rename_i l c hl
    cases h
    rcases ih (i+1) hl with ⟨h1,h2,h3⟩|⟨j,u,h1,h2,h3,h4,h5⟩
    ·exact .inl ⟨by rw[Instr.findNow];simp only[gx e hk];exact h1,h2,.cons k' b Z1 h3⟩
    ·refine .inr ⟨j+1,u,?_,h2,by simpa using h3,h4,by simpa using ER.cons k' b Z1 h5⟩
     rw[Instr.findNow];simp only[gx e hk];rw[h1];congr 3;omega
   ·cases h
  ·cases h
theorem BN{t:TypeId}{m m' k v v':Value}(hH:HR ν H F w)(hm:VRi ν m m')(hv:VRi ν v v')(h:Kf P t H m k v=some H'):pl k=true /\ ∃w',(Instr.mapUpdate t m' k v').run P w=.ok () w' /\ HR ν H' F w' /\ Below 0 w w':=by
 unfold Kf at h
 split at h
 case h_2=>cases h
 rename_i kt et hu
 split at h
 case h_2=>cases h
 rename_i r hk
 split at h
 case h_2=>cases h
 rename_i es cl hb
 split at h
 case h_2=>cases h
 rename_i es2 cl2 hp
 cases h
 obtain⟨d,hd,We⟩:=zZ hk
 refine⟨(rN We).1,?_⟩
 cases hm with
 | atom _ h=>simp[cD] at h
 | @map _ b K hν =>
 obtain⟨RW,hw,hE⟩:=hH.map hb hν
 have hg:(getObj b).run P w=.ok (.map RW cl) w:=mV hw
 have hf:∀r,Instr.findNow d k RW.toList 0=some r -> (Instr.findKey kt k RW.toList).run P w=.ok r w:=λ r hr=>by
  unfold Instr.findKey
  rw[Sem.run_bind,aO hd]
  simp only[Result.andThen_ok,hr]
  rfl
 have iF:=dq hw
 have iS:∀o:Obj,(∃es c,o=.map es c) -> (setObj b o).run P w=.ok () { w with heap:=w.heap.setIfInBounds b o }:=λ o ho=>by
  obtain⟨e1,c1,rfl⟩:=ho
  unfold setObj
  rw[Sem.run.eq_def]
  simp only[hw]
  rfl
 have hup:∀ (o:Obj),OR ν K (.map es2 cl2) o -> HR ν (cV H r (some (.map es2 cl2))) F { w with heap:=w.heap.setIfInBounds b o }:=λ o ho=>by
  refine hH.upd (r:=b) (K:=K) hb rfl rfl hν (o':=o) ?_ ho (λ k hk=>?_)
  ·show (w.heap.setIfInBounds b o)[b]?=_
   rw[Array.getElem?_setIfInBounds_self_of_lt iF]
  ·show (w.heap.setIfInBounds b o)[k]?=_
   rw[Array.getElem?_setIfInBounds_ne (Ne.symm hk)]
 have hB:∀o:Obj,Below 0 w { w with heap:=w.heap.setIfInBounds b o }:=λ o=>⟨rfl,rfl,rfl,by simp,λ k hk=>by omega⟩
 rcases z6 We hv hE 0 hp with ⟨h1,h2,h3⟩|⟨j,u,h1,h2,h3,h4,h5⟩
 ·refine⟨_,?_,hup (.map (RW.push ⟨k,v',cl⟩) (cl+1)) ⟨h2.symm,by simpa using h3⟩,hB _⟩
  unfold Instr.mapUpdate
  rw[Sem.run_bind,aO hu]
  simp only[Result.andThen_ok,Sem.run_bind,hg,fU hk,hf _ h1]
  exact iS _ ⟨_,_,rfl⟩
 ·rw[Nat.zero_add] at h1
  refine⟨_,?_,hup (.map (RW.modify j λ e=>{ e with key:=k,val:=v' }) cl) ⟨h2.symm,by rw[Array.toList_modify];exact h5⟩,hB _⟩
  unfold Instr.mapUpdate
  rw[Sem.run_bind,aO hu]
  simp only[Result.andThen_ok,Sem.run_bind,hg,fU hk,hf _ h1]
  have h6:(RW[j]?).map (·.key)=some k:=by simpa using h3
  rw[h6]
  have h7:(Instr.keyThatStays k k).run P w=.ok k w:=by
   unfold Instr.keyThatStays
   rw[if_pos h4];rfl
  simp only[Option.getD_some,h7,Result.andThen_ok]
  exact iS _ ⟨_,_,rfl⟩
end nw
structure Ext(ν ν':Nu)(n n':Nat):Prop where
 le:n <= n'
 out:∀h,(h<n \/ n' <= h) -> ν' h=ν h
def Fr(ν:Nu)(n n':Nat):Prop:=∀h,n <= h -> h<n' -> ν h=none
theorem Ext.sub{ν ν':Nu}{n n':Nat}(h:Ext ν ν' n n')(hf:Fr ν n n'):ν.Le ν':=λ k x hx=>by
 rw[h.out k];exact hx
 rcases Nat.lt_or_ge k n with h1|h1
 ·exact .inl h1
 ·rcases Nat.lt_or_ge k n' with h2|h2
  ·rw[hf k h1 h2] at hx;cases hx
  ·exact .inr h2
theorem Ext.refl(ν:Nu)(n:Nat):Ext ν ν n n:=⟨Nat.le_refl _,λ _ _=>rfl⟩
theorem Ext.trans{a b c:Nu}{n m k:Nat}(h:Ext a b n m)(h':Ext b c m k):Ext a c n k :=
 ⟨Nat.le_trans h.le h'.le,λ i hi=>by
  have h1:=h.le
  have h2:=h'.le
  rw[h'.out i (by omega),h.out i (by omega)]⟩
theorem Ext.fr{a b:Nu}{n m k:Nat}(h:Ext a b n m)(hf:Fr a n k)(hm:m <= k):Fr b m k:=λ i h1 h2=>by
 have:=h.le
 rw[h.out i (.inr h1)];exact hf i (by omega) h2
theorem Ext.upd{ν:Nu}{n r K:Nat}:Ext ν (ν.upd n r K) n (n+1):=⟨by omega,λ h hh=>eK (by omega)⟩
section ap
variable {ν ν':Nu} {P:Program} {G N:Nat} {T T':Tr Value} {a:Act} {H H':AH} {F:HL} {w w':World}
structure Effi(P:Program)(ν:Nu)(F:HL)(n:Nat)(s:Sem Value)(w:World)(v:Value)(H':AH)(n':Nat):Prop where
 h:∃ν' v' w',s.run P w=.ok v' w' /\ VRi ν' v v' /\ Ext ν ν' n n' /\ HR ν' H' F w' /\ Below 0 w w'
theorem mf{k:Nat}{u e':TypeId}{y y':Value}{new:List Value}(hH:HR ν H F w)(hu:P.underlying u=some (.slice e'))(hy:VRi ν y y')(h:qf H k y=some new) :
  ∃Q5,LR ν new Q5 /\ Q5.length=dW y*k /\ (j6 new=true -> Src P k u y' (dW y) Q5 w) /\ (Builtin.firstCells k (dW y) y').run P w.drew=.ok Q5.toArray w.drew /\ (Builtin.firstCells k (dW y) y').run P w=.ok Q5.toArray w:=by
 unfold qf at h
 split at h
 ·split at h
  ·cases h
   rename_i c
   cases hy
   refine⟨[],.nil,by simp[dW],λ _=>Src.ofNil w hu _,?_,?_⟩
   ·exact run_firstCells_none _ _ _ _ _
   ·exact run_firstCells_none _ _ _ _ _
  ·cases h
 ·rename_i ad n c
  cases hy with
  | atom _ h=>simp[cD] at h
  | @slice hd b K _ c' o _ hν hcap =>
  split at h
  case h_2=>cases h
  rename_i nn tr ty ww ro hs hb
  split at h
  case h_2=>cases h
  rename_i hle
  cases h
  simp only at hb hle
  obtain⟨cc,ty',fz,hw,hc⟩:=hH.cells hb hν
  have WO:=bQ hle
  have hl:=ke hc.le hc.get (n*k) o WO
  have hcs:=hc.le
  have hlen:((cc.toList.drop o).take (n*k)).length=n*k:=by simp;omega
  have Re:∀ (W:World),W.heap=w.heap -> ∀ (j:Nat) (u:Value),((cc.toList.drop o).take (n*k))[j]?=some u -> W.cell? ((⟨b,o,none⟩:Addr).add j)=some u:=λ W hW j u hj=>by
   rw[nl,ma (by rw[hW];exact hw)]
   have Ur:=(List.getElem?_eq_some_iff.1 hj).1
   rw[hlen] at Ur
   rw[List.getElem?_take_of_lt Ur,List.getElem?_drop] at hj
   simpa using hj
  refine⟨_,hl,hlen,λ hf=>Src.ofSlice w hu _ _ _ _ hlen (Re w rfl) (ug hl hf),?_,?_⟩
  ·exact run_firstCells_some _ _ _ _ _ _ _ hlen (Re _ rfl)
  ·exact run_firstCells_some _ _ _ _ _ _ _ hlen (Re _ rfl)
 ·cases h
theorem HR.del'(hH:HR ν H F w){h r K:Nat}{b0:AB}(hb:bP H h=some b0)(hw0:GW b0=true)(hν:ν h=some (r,K))(hs:∀k,k≠r -> w'.heap[k]?=w.heap[k]?):HR ν (cV H h none) F w':=by
 have q_:∀k b,bP (cV H h none) k=some b -> bP H k=some b /\ k≠h:=λ k b hk=>by
  rw[dD] at hk
  split at hk
  ·cases hk
  ·rename_i e;exact⟨hk,Ne.symm e⟩
 refine⟨λ k b hk=>?_,λ k1 k2 b1 b2 q K1 K2 h1 h2 h3 h4=>hH.inj _ _ _ _ _ _ _ (q_ _ _ h1).1 (q_ _ _ h2).1 h3 h4,λ x hx=>?_,λ k b q K hk=>hH.apt k b q K (q_ k b hk).1⟩
 ·obtain⟨h1,h2⟩:=q_ k b hk
  obtain⟨q,K',o,g1,g2,g3⟩:=hH.blk k b h1
  refine⟨q,K',o,g1,?_,g3⟩
  rw[hs q,g2]
  intro e
  subst e
  exact h2 (hH.inj _ _ _ _ _ _ _ h1 hb g1 hν)
 ·rw[hs _ (hH.apt _ _ _ _ hb hν x hx)]
  exact hH.frm x hx
theorem MW(Uz q_:Nat)(h:q_<Uz):Builtin.nextslicecap Uz q_ <= 2*Uz+192:=by
 unfold Builtin.nextslicecap
 split
 ·omega
 ·split
  ·omega
  ·have:Builtin.growBy Uz 4 q_ <= Uz+Uz / 4+192:=by
    simp only[Builtin.growBy]
    repeat' split
    all_goals omega
   omega
theorem xU{t u ty el e':TypeId}{inf:TypeInfo}{n len cap c':Nat}{base At:Option Addr}{y y':Value}{new:List Value}{v:Value}{n':Nat}(hH:HR ν H F w)(ht:P.underlying t=some (.slice el))(hu:P.underlying u=some (.slice e'))(hi:P.info? el=some inf)
  (hx:VRi ν (.slice base len cap) (.slice At len c')) (hy:VRi ν y y') (Ra:qf H inf.size y=some new) (Rt:j6 new=true) (IT:len+dW y <= c') (h:rB H n inf.size len (dW y) cap base new=some (.val v H' n')) :
  Effi P ν F n (Builtin.append_ #[t,u] ty #[.slice At len c',y']) w v H' n':=by
 obtain⟨Q5,hl,hlen,hS,-,-⟩:=mf hH hu hy Ra
 have hS2:=hS Rt
 unfold rB at h
 split at h
 ·rename_i ad
  split at h
  ·rename_i Un
   split at h
   ·rename_i H2 hp
    cases h
    cases hx with
    | atom _ h=>simp[cD] at h
    | @slice hd b K _ _ o _ hν hcap =>
    obtain⟨q1,q2,q3,q4,q5⟩:=pj hH hν hl hp
    have f_:=run_append_room_src (P:=P) w t u ty el inf ht hi b o len c' y' (dW y) Q5 hS2 IT q1 q2
    exact⟨ν,_,_,f_,.slice _ _ hν hcap,.refl _ _,q4,q5⟩
   ·cases h
  ·cases h
 ·split at h
  ·cases h
   cases hx with
   | atom _ _ =>
   cases hl
   have Zx:=hS Rt
   have hz:(Builtin.firstCells inf.size (dW y) y').run P w=.ok #[] w:=Zx.cells
   refine⟨ν,.slice none (len+dW y) cap,w,?_,.atom _ rfl,.refl _ _,hH,Below.refl _ _⟩
   rcases Zx.kind with ⟨e',hk⟩|hk <;> simp[Builtin.append_,run_underlying ht,run_underlying hk,sizeOf,typeInfo,hi,Zx.len,hz,IT]
  ·cases h
theorem ui{t u ty el e':TypeId}{inf:TypeInfo}{z:List Value}{n len cap c':Nat}{base At:Option Addr}{y y':Value}{q_ new:List Value}{v:Value}{n':Nat}(hH:HR ν H F w)(ht:P.underlying t=some (.slice el))(hu:P.underlying u=some (.slice e'))(hi:P.info? el=some inf)(hz:k8 P el=some z)(TK:z.length=inf.size)(ID:0<inf.size)
  (hx:VRi ν (.slice base len cap) (.slice At len c')) (hy:VRi ν y y') (Ra:qf H inf.size y=some new) (Rt:j6 new=true) (hold:qf H inf.size (.slice base len cap)=some q_) (IT:c'<len+dW y) (UI:len+dW y<1000000) (Uu:inf.bytes<1000001) (hn:ν n=none)
  (Hd:AH) (hd:∀ν' w',HR ν' H F w' -> HR ν' Hd F w') (h:i7 Hd n inf.size len (dW y) el q_ new=.val v H' n') :
  Effi P ν F n (Builtin.append_ #[t,u] ty #[.slice At len c',y']) w v H' n':=by
 obtain⟨Q5,hl,hlen,hS,-,-⟩:=mf hH hu hy Ra
 obtain⟨TI,Rg,Rm,-,Su,-⟩:=mf hH ht hx hold
 have hS:=hS Rt
 obtain⟨zv,g1,g2,g3,i,g4,g5⟩:=kc (ν:=ν) hz
 rw[hi] at g4
 cases g4
 have Th:Builtin.nextslicecap (len+dW y) c'*inf.bytes <= 281474976710656:=by
  have h1:=MW (len+dW y) c' IT
  have h2:Builtin.nextslicecap (len+dW y) c'*inf.bytes <= 2000192*1000000:=Nat.mul_le_mul (by omega) (by omega)
  omega
 have f_:=run_append_grow_src (P:=P) w t u ty el inf zv ht hi g5 At len c' TI Su y' (dW y) Q5 hS IT (by omega) Th
 have Vv:=grownCap_ge w (len+dW y) c' el
 generalize grownCap w (len+dW y) c' el=K at *
 unfold i7 at h
 cases h
 refine⟨ν.upd n w.heap.size K,_,_,f_,?_,.upd,?_,⟨rfl,rfl,rfl,by simp,λ k hk=>by omega⟩⟩
 ·exact .slice _ _ cr ⟨λ e=>by unfold l9 at e;omega,λ e=>by omega⟩
 ·have UG:HR ν Hd F w:=hd _ _ hH
  refine UG.new hn (K:=K) ?_ (by rw[kg];rfl) (o:=.cells ((TI++Q5).toArray++Builtin.zeroCells zv.cells (K-(len+dW y))) el) rfl
  rw[kg]
  have UH:=CR.of (ty:=el) (ww:=inf.size) (K:=K) (rest:=(Builtin.zeroCells zv.cells (K-(len+dW y))).toList) (Rg.append hl) (λ _=>by
   simp only[List.length_append,hlen,Rm,Builtin.zeroCells,Array.toList_map,List.length_map,Array.toList_range,List.length_range,g2]
   have Vp:dW (Value.slice base len cap)=len:=rfl
   rw[Vp]
   have:(⟨z⟩:Array Value).size=inf.size:=by simpa using TK
   rw[this,<- Nat.add_mul,<- Nat.add_mul]
   congr 1
   omega)
  have e:((TI++Q5).toArray++Builtin.zeroCells zv.cells (K-(len+dW y)))=⟨(TI++Q5)++(Builtin.zeroCells zv.cells (K-(len+dW y))).toList⟩:=by apply Array.ext';simp
  rw[e]
  exact UH
end ap
section ap
variable {ν ν':Nu} {P:Program} {G N:Nat} {T T':Tr Value} {a:Act} {H H':AH} {F:HL} {w w':World}
theorem k9{a b:Nat}(h:Nat.blt a b=false):b <= a:=by
 rcases Nat.lt_or_ge a b with e|e
 ·have:Nat.blt a b=true:=Nat.ble_eq_true_of_le e
  rw[this] at h;cases h
 ·exact e
theorem lc{a b:Nat}(h:Nat.ble a b=false):b<a:=by
 rcases Nat.lt_or_ge b a with e|e
 ·exact e
 ·have:Nat.ble a b=true:=Nat.ble_eq_true_of_le e
  rw[this] at h;cases h
theorem Kl{t u ty el e':TypeId}{inf:TypeInfo}{z:List Value}{n len cap:Nat}{ad:Addr}{x' y y':Value}{new:List Value}{v:Value}{n':Nat}(hH:HR ν H F w)(ht:P.underlying t=some (.slice el))(hu:P.underlying u=some (.slice e'))(hi:P.info? el=some inf)(hz:k8 P el=some z)(TK:z.length=inf.size)(ID:0<inf.size)
  (hx:VRi ν (.slice (some ad) len cap) x') (hy:VRi ν y y') (Ra:qf H inf.size y=some new) (Rt:j6 new=true) (UI:len+dW y<1000000) (Uu:inf.bytes<1000001) (hcap:l9 <= cap) (hn:Fr ν n n') (h:GI H n inf.size len (dW y) cap ad el new=some (.val v H' n')) :
  Effi P ν F n (Builtin.append_ #[t,u] ty #[x',y']) w v H' n':=by
 cases hx with
 | atom _ h=>simp[cD] at h
 | @slice hd b K _ c' o _ hν hc =>
 unfold GI at h
 split at h
 case h_2=>cases h
 rename_i nn ww tyy Un ho XI S7
 simp only at ho
 subst ho
 have R4:cap=l9:=Nat.eq_of_beq_eq_true XI
 have RV:=hc.2 hcap
 rw[R4,Nat.sub_self,Nat.add_zero] at RV
 unfold P0 at S7
 split at S7
 case h_2=>cases S7
 rename_i nn' tr ty' ww' hb
 simp only[Option.some.injEq,Prod.mk.injEq] at S7
 obtain⟨e1,e2,e3⟩:=S7
 subst e1;subst e2;subst e3
 simp only at hb
 obtain⟨c,ty2,fz,hw,UH⟩:=hH.cells hb hν
 split at h
 case h_2=>cases h
 rename_i hwk hlk hty
 have hty':ty'=el:=Nat.eq_of_beq_eq_true hty
 have hwk':ww'=inf.size:=Nat.eq_of_beq_eq_true hwk
 have hlk':=bQ hlk
 have Ve:=UH.gr (by omega)
 rw[hwk'] at Ve
 have hle:=UH.le
 split at h
 ·rename_i RT
  have hin':=bQ RT
  have:(len+dW y)*inf.size <= K*inf.size:=by omega
  have IT:=Nat.le_of_mul_le_mul_right this ID
  exact xU hH ht hu hi (.slice 0 len hν hc) hy Ra Rt (by omega) h
 ·rename_i RT
  have hin':=lc RT
  split at h
  case h_2=>cases h
  rename_i q_ hold
  have IN:i7 (cV H hd none) n inf.size len (dW y) el q_ new=.val v H' n':=by simpa using h
  have WM:ν n=none:=by
   unfold i7 at IN
   cases IN
   exact hn n (Nat.le_refl _) (by omega)
  by_cases IT:len+dW y <= c'
  ·obtain⟨Q5,hl,hlen,hS,-,-⟩:=mf hH hu hy Ra
   obtain⟨TI,Rg,Rm,-,-,Su⟩:=mf hH ht (.slice 0 len hν hc) hold
   have hS:=hS Rt
   have Th:(len+dW y)*inf.size <= c.size:=by
    rw[Ve];exact Nat.mul_le_mul_right _ (by omega)
   have Re:∀j,j<Q5.length -> (w.cell? ⟨b,0+len*inf.size+j,none⟩).isSome=true:=λ j hj=>by
    rw[ma hw,Array.getElem?_eq_getElem (by rw[hlen] at hj;rw[Nat.add_mul] at Th;omega)];rfl
   have Yy:∀j,j<Q5.length -> w.frozen? ⟨b,0+len*inf.size+j,none⟩=false:=λ j hj=>by
    obtain⟨lo,hi⟩:=fz
    have:=UH.fz
    cases this
    simp[World.frozen?,hw]
   have f_:=run_append_room_src (P:=P) w t u ty el inf ht hi b 0 len c' y' (dW y) Q5 hS IT Re Yy
   obtain⟨c2,e1,e2,e3⟩:=lI b Q5 (0+len*inf.size) w hw
   unfold i7 at IN
   cases IN
   have hdel:HR ν (cV H hd none) F (w.setCells b (0+len*inf.size) Q5):=hH.del' hb rfl hν (λ k hk=>gY b _ _ _ _ hk)
   refine⟨ν.upd n b K,_,_,f_,?_,.upd,?_,gZ _ _ _ _⟩
   ·exact .slice _ _ cr ⟨λ e=>by unfold l9 at e;omega,λ e=>by omega⟩
   ·refine hdel.add WM e1 ?_ (by rw[kg];rfl) (λ x hx=>hH.apt _ _ _ _ hb hν x hx) (λ k b' K' hk e=>?_)
    ·rw[kg]
     have hold2:∀i,i<len*inf.size -> c[i]?=TI[i]?:=λ i hi=>by
      have Vp:dW (Value.slice (some ⟨hd,0,none⟩) len cap)=len:=rfl
      rw[Vp] at Rm Su
      have VA:((c.toList.drop 0).take (len*inf.size)).length=len*inf.size:=by simp;omega
      have h2:=run_firstCells_some (P:=P) w inf.size len ⟨b,0,none⟩ len c' ((c.toList.drop 0).take (len*inf.size)) VA (λ j u hj=>by
       rw[nl,ma hw]
       have Ur:=(List.getElem?_eq_some_iff.1 hj).1
       rw[VA] at Ur
       rw[List.getElem?_take_of_lt Ur,List.getElem?_drop] at hj
       simpa using hj)
      rw[h2] at Su
      simp only[Result.ok.injEq,and_true] at Su
      have h3:TI=(c.toList.drop 0).take (len*inf.size):=by
       have:=congrArg Array.toList Su
       simpa using this.symm
      rw[h3,List.getElem?_take_of_lt hi]
      simp
     have Vp:dW (Value.slice (some ⟨hd,0,none⟩) len cap)=len:=rfl
     rw[Vp] at Rm
     have hlo:q_.length=len*inf.size:=by rw[<- Rm,Rg.length]
     have hln:new.length=dW y*inf.size:=by rw[<- hlen,hl.length]
     refine⟨UH.ty.trans hty',?_,UH.fz,λ i hi=>?_,λ _=>by rw[e2,Ve]⟩
     ·rw[e2,List.length_append,hlo,hln,<- Nat.add_mul];exact Th
     ·have UE:i<(len+dW y)*inf.size:=by rw[List.length_append,hlo,hln,<- Nat.add_mul] at hi;exact hi
      obtain⟨v',g1,g2⟩:=(Rg.append hl).get (List.getElem?_eq_getElem hi)
      refine⟨v',?_,by rw[lH hi];exact g2⟩
      rw[e3 i (by omega),<- g1]
      by_cases h1:i<len*inf.size
      ·rw[dif_neg (by omega),hold2 i h1,List.getElem?_append_left (by omega)]
      ·rw[dif_pos ⟨by omega,by rw[hlen];rw[Nat.add_mul] at UE;omega⟩,List.getElem?_append_right (by omega),Rm]
       rw[<- List.getElem?_eq_getElem]
       congr 1;omega
    ·rw[dD] at hk
     split at hk
     ·cases hk
     ·rename_i G_
      exact G_ (hH.inj _ _ _ _ _ _ _ hb hk hν e)
  ·exact ui hH ht hu hi hz TK ID (.slice 0 len hν hc) hy Ra Rt hold (by omega) UI Uu WM (cV H hd none) (λ ν' w' h'=>h'.del hd) IN
def HEq(H H':AH):Prop:=∀h,bP H' h=bP H h \/ ∃n t t' ty w ro,bP H h=some (.cells n t ty w ro) /\ bP H' h=some (.cells n t' ty w ro) /\ ∀i,i<n -> cW t' i=cW t i
theorem HR.heq(h:HR ν H F w)(e:HEq H H'):HR ν H' F w:=by
 have back:∀k b,bP H' k=some b -> ∃b0,bP H k=some b0 /\ ∀K o,OR ν K b0 o -> OR ν K b o:=λ k b hk=>by
  rcases e k with e1|⟨n,t,t',ty,wd,ro,e1,e2,e3⟩
  ·rw[e1] at hk;exact⟨b,hk,λ _ _ h=>h⟩
  ·rw[e2] at hk
   cases hk
   refine⟨_,e1,λ K o ho=>?_⟩
   cases o with
   | cells c ty' fz =>
    have ho:CR ν K n t ty wd c ty' fz:=ho
    exact(⟨ho.ty,ho.le,ho.fz,λ i hi=>by obtain⟨v',g1,g2⟩:=ho.get i hi;exact⟨v',g1,by rw[e3 i hi];exact g2⟩,ho.gr⟩:CR ν K n t' ty wd c ty' fz)
   | _=>exact ho
 refine⟨λ k b hk=>?_,λ h₁ h₂ b₁ b₂ r K₁ K₂ g1 g2=>?_,h.frm,λ k b r K hk=>?_⟩
 ·obtain⟨b0,g1,g2⟩:=back k b hk
  obtain⟨r,K,o,g3,g4,g5⟩:=h.blk k b0 g1
  exact⟨r,K,o,g3,g4,g2 K o g5⟩
 ·obtain⟨c1,d1,-⟩:=back _ _ g1
  obtain⟨c2,d2,-⟩:=back _ _ g2
  exact h.inj _ _ _ _ _ _ _ d1 d2
 ·obtain⟨b0,g1,g2⟩:=back k b hk
  exact h.apt k b0 r K g1
theorem gy(t:Tr Value):∀ (k i:Nat),(gN t i k).length=k
 | 0,_=>rfl
 | k+1,i=>by simp[gN,gy t k]
theorem uj(t:Tr Value):∀ (k i j:Nat),j<k -> (gN t i k)[j]?=some (cW t (i+j))
 | 0,_,_,h=>absurd h (by omega)
 | k+1,i,j,h=>by
  cases j with
  | zero=>simp[gN]
  | succ j=>simp only[gN,List.getElem?_cons_succ];rw[uj t k (i+1) j (by omega)];congr 2;omega
theorem G2(tr:Tr Value)(i:Nat)(new:List Value)(el:TypeId)(k:Nat):GJ tr i new el k=.cells (i+new.length) (kD tr i new) el k false:=by
 unfold GJ
 split <;> rename_i h <;> rw[h,eh]
theorem DL{n k len add cap:Nat}{ad:Addr}{el:TypeId}{new:List Value}{v:Value}{n':Nat}(h:t2 H n k len add cap ad el new=some (.val v H' n')):∃H0,GI H n k len add cap ad el new=some (.val v H0 n') /\ HEq H0 H':=by
 unfold t2 at h
 split at h
 case h_2=>cases h
 rename_i nn tr ty w Un ho XI hb
 split at h
 case h_2=>cases h
 rename_i h1 h2 h3
 have S7:P0 H ad=some (nn,w,ty):=by unfold P0;rw[hb]
 split at h
 ·rename_i RT
  refine⟨H',?_,λ h=>.inl rfl⟩
  unfold GI
  rw[Un,ho,XI,S7]
  simp only[h1,h2,h3,RT]
  exact h
 ·rename_i RT
  cases h
  refine⟨cV (cV H ad.block none) n (some (vv (gN tr 0 (len*k)++new) el k)),?_,λ h=>?_⟩
  ·unfold GI
   rw[Un,ho,XI,S7]
   simp only[h1,h2,h3,RT,qf,Un,hb,ho,Nat.zero_add]
   rfl
  ·by_cases hh:n=h
   ·refine .inr ⟨(gN tr 0 (len*k)++new).length,dK undef (gN tr 0 (len*k)++new) 0 .lf,kD tr (len*k) new,el,k,false,by rw[dD,if_pos hh,kg],?_,λ i hi=>?_⟩
    ·rw[dD,if_pos hh,G2,List.length_append,gy]
    ·rw[lH hi,rQ]
     rw[List.length_append,gy] at hi
     split
     ·rename_i hj
      rw[List.getElem_append_right (by rw[gy];omega)]
      congr 1
      rw[gy]
     ·rename_i hj
      have UE:i<len*k:=by omega
      rw[List.getElem_append_left (by rw[gy];exact UE)]
      have:=uj tr (len*k) 0 i UE
      rw[Nat.zero_add] at this
      rw[List.getElem?_eq_getElem (by rw[gy];exact UE)] at this
      exact(Option.some.inj this).symm
   ·exact .inl ((dD _ _ _ _).trans ((if_neg hh).trans ((if_neg hh).symm.trans (dD _ _ _ _).symm)))
theorem G3{t u ty el e':TypeId}{inf:TypeInfo}{z:List Value}{n len cap:Nat}{ad:Addr}{x' y y':Value}{new:List Value}{v:Value}{n':Nat}(hH:HR ν H F w)(ht:P.underlying t=some (.slice el))(hu:P.underlying u=some (.slice e'))(hi:P.info? el=some inf)(hz:k8 P el=some z)(TK:z.length=inf.size)(ID:0<inf.size)
  (hx:VRi ν (.slice (some ad) len cap) x') (hy:VRi ν y y') (Ra:qf H inf.size y=some new) (Rt:j6 new=true) (UI:len+dW y<1000000) (Uu:inf.bytes<1000001) (hcap:l9 <= cap) (hn:Fr ν n n') (h:t2 H n inf.size len (dW y) cap ad el new=some (.val v H' n')) :
  Effi P ν F n (Builtin.append_ #[t,u] ty #[x',y']) w v H' n':=by
 obtain⟨H0,h1,h2⟩:=DL h
 obtain⟨ν',a,b,g1,g2,g3,g4,g5⟩:=Kl hH ht hu hi hz TK ID hx hy Ra Rt UI Uu hcap hn h1
 exact⟨ν',a,b,g1,g2,g3,g4.heq h2,g5⟩
theorem Km{t u ty el e':TypeId}{n:Nat}{x x' y y':Value}{v:Value}{n':Nat}(hH:HR ν H F w)(ht:P.underlying t=some (.slice el))(hu:P.underlying u=some (.slice e'))(hx:VRi ν x x')(hy:VRi ν y y')(hn:Fr ν n n')(h:xw P H n el x y=some (.val v H' n')) :
  Effi P ν F n (Builtin.append_ #[t,u] ty #[x',y']) w v H' n':=by
 unfold xw at h
 split at h
 case h_2=>cases h
 rename_i inf z hi hz
 split at h
 case h_2=>cases h
 rename_i k by_ base len cap hk Zv
 have hk:inf.size=k+1:=hk
 have Zv:inf.bytes=by_+1:=Zv
 split at h
 case h_2=>cases h
 rename_i new Ra TK UI Uu
 rw[<- hk] at Ra TK h
 have ZP:z.length=inf.size:=by rw[eh] at TK;exact Nat.eq_of_beq_eq_true TK
 have hb1':=dL UI
 have hb2':=dL Uu
 split at h
 ·rename_i Rt XI
  have hcu':=dL XI
  have Vj:∃At,x'=.slice At len cap /\ VRi ν (.slice base len cap) (.slice At len cap):=by
   cases hx with
   | atom _ h=>exact⟨_,rfl,.atom _ h⟩
   | slice o _ hν hc=>obtain rfl:=hc.1 hcu';exact⟨_,rfl,.slice o _ hν hc⟩
  obtain⟨At,rfl,hr⟩:=Vj
  split at h
  ·rename_i RT
   exact xU hH ht hu hi hr hy Ra Rt (bQ RT) h
  ·rename_i RT
   split at h
   ·rename_i q_ hold
    have IN:i7 H n inf.size len (dW y) el q_ new=.val v H' n':=by simpa using h
    have WM:ν n=none:=by
     have Xv:=IN
     unfold i7 at Xv
     cases Xv
     exact hn n (Nat.le_refl _) (by omega)
    exact ui hH ht hu hi hz ZP (by omega) hr hy Ra Rt hold (lc RT) hb1' (by omega) WM H (λ _ _ h=>h) IN
   ·cases h
 ·rename_i Rt XI
  split at h
  ·exact G3 hH ht hu hi hz ZP (by omega) hx hy Ra Rt hb1' (by omega) (k9 XI) hn h
  ·cases h
 ·cases h
end ap
inductive TgR(ν:Nu):Target -> Target -> Prop
 | fn {f f':Fn} {c c':Array Value}:FnR ν f f' -> LR ν c.toList c'.toList -> TgR ν (.fn f c) (.fn f' c')
 | coll {h b K:Nat}:ν h=some (b,K) -> TgR ν (.collected h) (.collected b)
structure DR(ν:Nu)(d d':Deferred):Prop where
 t:TgR ν d.target d'.target
 a:LR ν d.args.toList d'.args.toList
def Qz(P:Program)(ν:Nu)(F:HL)(n:Nat)(s:Sem Next)(w:World):AN -> Prop
 | .val v H' n'=>∃ν' v' w' r,s.run P w=.ok r w' /\ (r=.value v' \/ (r=.skip /\ v'=undef)) /\ VRi ν' v v' /\ Ext ν ν' n n' /\ HR ν' H' F w' /\ Below 0 w w'
 | .ent f args=>∃iN,s.run P w=.ok (.enter f ⟨iN⟩) w /\ LR ν args iN
 | .rnd l args=>∃b K iN,ν l=some (b,K) /\ LR ν args iN /\ s.run P w=(Instr.yield b ⟨iN⟩).run P w
 | .dfr d=>∃d',s.run P w=.ok (.defer d') w /\ DR ν d d'
 | .rcv=>s.run P w=.ok .recover w
section ap
variable {ν ν':Nu} {P:Program} {G N:Nat} {T T':Tr Value} {a:Act} {H H':AH} {F:HL} {w w':World}
theorem TgR.mono{t t':Target}(h:TgR ν t t')(hl:ν.Le ν'):TgR ν' t t':=by
 cases h with
 | fn h1 h2=>exact .fn (h1.mono hl) (h2.mono hl)
 | coll h=>exact .coll (hl _ _ h)
theorem DR.mono{d d':Deferred}(h:DR ν d d')(hl:ν.Le ν'):DR ν' d d':=⟨h.t.mono hl,h.a.mono hl⟩
theorem rS{fn:Fn}{f c:Array Value}{v':Value}(h:VRi ν (.func fn f c) v'):∃fn' f' c',v'=.func fn' f' c' /\ FnR ν fn fn' /\ LR ν f.toList f'.toList /\ LR ν c.toList c'.toList:=by
 cases h with
 | atom _ h=>simp[cD] at h
 | func h1 h2 h3 h4 h5=>exact⟨_,_,_,rfl,h1,.of_arr h2 h3,.of_arr h4 h5⟩
theorem G4{t u ty el:TypeId}{n:Nat}{x x' y y':Value}{v:Value}{n':Nat}(hH:HR ν H F w)(ht:P.underlying t=some (.slice el))(hx:VRi ν x x')(hy:VRi ν y y')(h:xx P H n el x y=some (.val v H' n')) :
  Effi P ν F n (Builtin.copy_ #[t,u] ty #[x',y']) w v H' n':=by
 unfold xx at h
 split at h
 case h_2=>cases h
 rename_i k hk
 split at h
 case h_2=>cases h
 rename_i ad dl cx b sl cc
 split at h
 case h_2=>cases h
 rename_i vs Un Ra
 split at h
 case h_2=>cases h
 rename_i H2 hp
 cases h
 cases hx with
 | atom _ h=>simp[cD] at h
 | @slice hd bb K _ c' o _ hν hc =>
 have hy2:∃b',y'=.slice b' sl (match y' with | .slice _ _ c=>c|_=>0) /\ ∀c,VRi ν (.slice b (Nat.min sl dl) c) (.slice b' (Nat.min sl dl) c) \/ b≠none:=by
  cases hy with
  | atom _ h=>cases b with
   | none=>exact⟨none,rfl,λ c=>.inl (.atom _ rfl)⟩
   | some _=>simp[cD] at h
  | slice o n hν hc=>exact⟨_,rfl,λ c=>.inr (by simp)⟩
 have Zq:∃P_,LR ν vs P_ /\ (Builtin.firstCells k (Nat.min sl dl) y').run P w=.ok P_.toArray w:=by
  have hyy:∃yy,VRi ν (.slice b (Nat.min sl dl) cc) yy /\ (Builtin.firstCells k (Nat.min sl dl) y').run P w=(Builtin.firstCells k (Nat.min sl dl) yy).run P w:=by
   cases hy with
   | atom _ h=>cases b with
    | none=>exact⟨.slice none (Nat.min sl dl) cc,.atom _ rfl,rfl⟩
    | some _=>simp[cD] at h
   | slice o n hν hc=>exact⟨_,.slice o _ hν hc,rfl⟩
  obtain⟨yy,h1,h2⟩:=hyy
  obtain⟨P_,q1,q2,q3,q4,q5⟩:=mf (u:=t) hH ht h1 Ra
  exact⟨P_,q1,by rw[h2];exact q5⟩
 obtain⟨P_,hl,Zq⟩:=Zq
 obtain⟨q1,q2,q3,q4,q5⟩:=pj hH hν hl hp
 obtain⟨b',hy3,-⟩:=hy2
 have iS:=run_storeCells_cells (P:=P) bb o P_ 0 w (by simpa using q1) (by simpa using q2) q3
 refine⟨ν,.int .i64 ((Nat.min sl dl:Nat):Int),_,?_,.atom _ rfl,.refl _ _,q4,q5⟩
 have hlen:∀W,(Builtin.lenOf y').run P W=.ok sl W:=λ W=>by rw[hy3];rfl
 have hs:=ew hk w
 unfold Builtin.copy_
 simp only[List.getElem?_toArray,List.getElem?_cons_zero,List.getElem?_cons_succ]
 rw[Sem.run_bind,aO ht]
 simp only[Result.andThen_ok,Sem.run_bind,hlen,hs,Zq]
 simp only[Nat.add_zero] at iS
 rw[iS]
 rfl
theorem iy{f:FuncId}{args:Array Value}(h:rC P f=true)(w:World):(callFunc f args).run P w=.ok (.enter f args) w:=by
 unfold rC at h
 split at h
 ·rename_i fn hf
  rw[Bool.and_eq_true] at h
  obtain⟨h1,h2⟩:=h
  unfold callFunc
  rw[nM]
  simp only[hf]
  rw[if_neg (by simpa using h1),if_neg (by cases hb:fn.body <;> simp[hb] at h2 ⊢)]
  rfl
 ·cases h
theorem nu{c:Call}{f:Operand}{ty:TypeId}{fn:Fn}{f1 c1:Array Value}{ρ:Operand -> Value}(hc:c.callee=.value f)(hf:ρ f=.func fn f1 c1)(w:World):(resolve ρ c ty).run P w=.ok { target:=.fn fn c1,args:=f1++c.args.map ρ } w:=by
 unfold resolve
 rw[hc]
 simp only[hf,Deferred.ofValue]
 rfl
theorem G5{n:Nat}{c:Call}{x:AN}(h:GK P H n c T=some x):∃v H' n',x=.val v H' n':=by
 unfold GK xw t2 rB i7 at h
 repeat' split at h
 all_goals first
  | (cases h;done)
  | (cases h;exact⟨_,_,_,rfl⟩)
theorem DM{n:Nat}{c:Call}{x:AN}(h:xy P H n c T=some x):∃v H' n',x=.val v H' n':=by
 unfold xy xx at h
 repeat' split at h
 all_goals first
  | (cases h;done)
  | (cases h;exact⟨_,_,_,rfl⟩)
theorem BO{n n':Nat}{s:Sem Value}{s':Sem Next}{v:Value}(h:Effi P ν F n s w v H' n')(e:s'.run P w=(do pure (.value (<- s)):Sem Next).run P w):Qz P ν F n s' w (.val v H' n'):=by
 obtain⟨ν',v',w',h1,h2,h3,h4,h5⟩:=h
 refine⟨ν',v',w',.value v',?_,.inl rfl,h2,h3,h4,h5⟩
 rw[e,Sem.run_bind,h1]
 rfl
theorem DN{t:TypeId}{name:String}{f:FuncId}{v:Value}(h:GL P t name=some f)(w:World):(method (P.types.size+Made.depth) t v name).run P w=.ok (f,v) w:=by
 unfold GL at h
 split at h
 case h_2=>cases h
 rename_i i hi Yj
 split at h
 case h_2=>cases h
 rename_i m hm
 obtain⟨k,hk⟩:∃k,P.types.size+Made.depth=k+1:=⟨_,(Nat.succ_pred_eq_of_pos (dL Yj)).symm⟩
 rw[hk]
 have hfol:m.path.toList=[] -> (follow m.path.toList t (.val v)).run P w=.ok (t,.val v) w:=λ e=>by rw[e];rfl
 split at h
 ·rename_i g e hp hf hu
  cases h
  unfold method
  rw[Sem.run_bind,dN hi]
  simp only[Result.andThen_ok,hm]
  rw[Sem.run_bind,hfol hp]
  simp only[Result.andThen_ok,hf]
  rw[Sem.run_bind]
  have:∀wr,(receiverAt t (.val v) true wr).run P w=.ok v w:=λ wr=>by
   unfold receiverAt
   rw[Sem.run_bind,aO hu]
   rfl
  rw[this]
  rfl
 ·cases h
 ·rename_i g d hnp hp hf hu
  cases h
  unfold method
  rw[Sem.run_bind,dN hi]
  simp only[Result.andThen_ok,hm]
  rw[Sem.run_bind,hfol hp]
  simp only[Result.andThen_ok,hf]
  rw[Sem.run_bind]
  have:∀wr,(receiverAt t (.val v) false wr).run P w=.ok v w:=λ wr=>by
   unfold receiverAt
   rw[Sem.run_bind,aO hu]
   simp only[Result.andThen_ok]
   cases d <;> first|rfl|exact(hnp _ rfl).elim
  rw[this]
  rfl
 ·cases h
theorem Kn{o:Oper}{n:Nat}{x:AN}(hH:HR ν H F w)(h:nj P o T H n=some x){l:List Operand}(hl:i3 o.op=some l)(dO:OK ν T a l)(hn:∀v H' n',x=.val v H' n' -> Fr ν n n'):Qz P ν F n (execOp a.eval o) w x:=by
 unfold nj at h
 split at h
 ·rename_i t p y ho
  rw[ho] at hl;simp only[i3,cf,Option.some.injEq] at hl;subst hl
  have hp:=dO p (by simp)
  split at h
  ·rename_i ad e
   split at h
   ·rename_i H2 hs
    cases h
    rw[e] at hp
    generalize hu:a.eval p=u at hp
    have hp2:=hp
    cases hp with
    | atom _ h=>simp[cD] at h
    | ptr o h =>
     obtain⟨w',q1,q2,q3⟩:=DJ hH hp2 (dO y (by simp)) hs
     refine⟨ν,undef,w',.skip,?_,.inr ⟨rfl,rfl⟩,VRi.undef,.refl _ _,q2,q3⟩
     simp[execOp,ho,Instr.storeAt,Instr.sureAddr,hu,Sem.run_bind,q1]
   ·cases h
  ·cases h
 ·rename_i t m k y ho
  rw[ho] at hl;simp only[i3,cf,Option.some.injEq] at hl;subst hl
  split at h
  ·rename_i H2 hs
   cases h
   obtain⟨hp,w',q1,q2,q3⟩:=BN hH (dO m (by simp)) (dO y (by simp)) hs
   have hk:=(dO k (by simp)).plain_eq hp
   refine⟨ν,undef,w',.skip,?_,.inr ⟨rfl,rfl⟩,VRi.undef,.refl _ _,q2,q3⟩
   simp[execOp,ho,hk,Sem.run_bind,q1]
  ·cases h
 ·rename_i t m k y ho
  rw[ho] at hl;simp only[i3,cf,Option.some.injEq] at hl;subst hl
  split at h
  ·rename_i H2 hs
   cases h
   obtain⟨hp,w',q1,q2,q3⟩:=BN hH (dO m (by simp)) (dO y (by simp)) hs
   have hk:=(dO k (by simp)).plain_eq hp
   refine⟨ν,undef,w',.skip,?_,.inr ⟨rfl,rfl⟩,VRi.undef,.refl _ _,q2,q3⟩
   simp[execOp,ho,hk,Sem.run_bind,q1]
  ·cases h
 ·rename_i c ho
  split at h
  case h_2=>cases h
  rename_i f hc
  split at h
  case h_2=>cases h
  rename_i fn first captured e
  cases h
  rw[ho] at hl
  simp only[i3,hc,Option.some.injEq] at hl
  subst hl
  have hf:=dO f (by simp)
  rw[e] at hf
  obtain⟨fn',f',c',e',r1,r2,r3⟩:=rS hf
  have ha:=lG (l:=c.args.toList) (λ x hx=>dO x (List.mem_cons_of_mem _ hx))
  refine⟨{ target:=.fn fn' c',args:=f'++c.args.map a.eval },?_,⟨.fn r1 r3,?_⟩⟩
  ·unfold Go.execOp
   rw[ho]
   simp only
   rw[Sem.run_bind,nu hc e']
   rfl
  ·simpa using r2.append ha
 ·rename_i c ho
  split at h
  ·rename_i f hc
   have Rg:l=f::c.args.toList:=by
    rw[ho] at hl
    simp only[i3,cf,hc,Option.some.injEq] at hl
    rw[<- hl];rfl
   split at h
   ·rename_i x' RB
    cases h
    subst Rg
    have hf:=dO f (by simp)
    have ha:=lG (l:=c.args.toList) (λ x hx=>dO x (List.mem_cons_of_mem _ hx))
    have f_:∀fn' f' c',a.eval f=.func fn' f' c' -> (execOp a.eval o).run P w=(invoke (.fn fn' c') (f'++c.args.map a.eval)).run P w:=λ fn' f' c' e'=>by
     unfold Go.execOp
     rw[ho]
     simp only
     rw[Sem.run_bind,nu hc e']
     rfl
    unfold qy at RB
    split at RB
    case h_2=>cases RB
    rename_i fn first captured e
    rw[e] at hf
    obtain⟨fn',f',c',e',r1,r2,r3⟩:=rS hf
    split at RB
    ·split at RB
     ·rename_i hb
      cases RB
      cases r1
      refine⟨f'.toList++(c.args.toList.map a.eval++c'.toList),?_,r2.append (ha.append r3)⟩
      rw[f_ _ _ _ e']
      show (callFunc _ (f'++c.args.map a.eval++c')).run P w=_
      rw[iy hb]
      congr 2
      apply Array.ext'
      simp
     ·cases RB
    ·rename_i lp
     split at RB
     ·rename_i XG
      cases RB
      cases r1 with
      | @yield _ b K hν =>
      rw[XG] at r2
      refine⟨b,K,_,hν,ha,?_⟩
      rw[f_ _ _ _ e']
      have hf0:f'=#[]:=by
       apply Array.ext'
       generalize f'.toList=q at r2
       cases r2;rfl
      subst hf0
      show (Instr.yield b (#[]++c.args.map a.eval)).run P w=_
      congr 2
      apply Array.ext'
      simp
     ·cases RB
    ·cases RB
   ·split at h
    ·rename_i v hv
     cases h
     have Sf:cf o.op=some l:=by
      rw[ho] at hl ⊢
      exact hl
     obtain⟨v',r,e⟩:=pg hv Sf dO
     exact⟨ν,v',w,_,e w,.inl rfl,r,.refl _ _,hH,Below.refl _ _⟩
    ·cases h
  ·rename_i b hc
   split at h
   ·obtain⟨v,H2,n2,rfl⟩:=G5 h
    have TY:=hn v H2 n2 rfl
    unfold GK at h
    split at h
    case h_2=>cases h
    rename_i cl x y t u
    simp only at hc
    subst hc
    split at h
    case h_2=>cases h
    rename_i el he hs
    have Rg:l=[x,y]:=by
     rw[ho] at hl
     simp only[i3,cf,Option.some.injEq] at hl
     rw[<- hl];rfl
    subst Rg
    have hu:∃e',P.underlying u=some (.slice e'):=by
     unfold OJ at hs
     split at hs
     ·rename_i e1;exact⟨_,e1⟩
     ·cases hs
    obtain⟨e',hu⟩:=hu
    have hr:∃cs,(resolve a.eval ⟨.builtin .append,⟨[x,y]⟩,⟨[t,u]⟩⟩ o.type).run P w=.ok { target:=.builtin .append #[t,u] o.type cs,args:=#[a.eval x,a.eval y] } w:=by
     refine⟨(⟨[x,y]⟩:Array Operand).map (λ | .const _=>true|_=>false),?_⟩
     unfold resolve
     have e:(⟨[x,y]⟩:Array Operand).map a.eval=#[a.eval x,a.eval y]:=by simp
     simp only[e]
     rfl
    obtain⟨cs,hr⟩:=hr
    refine BO (Km (ty:=o.type) hH (me he) hu (dO x (by simp)) (dO y (by simp)) TY h) ?_
    unfold Go.execOp
    rw[ho]
    simp only
    rw[Sem.run_bind,hr]
    rfl
   ·obtain⟨v,H2,n2,rfl⟩:=DM h
    unfold xy at h
    split at h
    case h_2=>cases h
    rename_i cl x y t u
    simp only at hc
    subst hc
    split at h
    case h_2=>cases h
    rename_i el he
    have Rg:l=[x,y]:=by
     rw[ho] at hl
     simp only[i3,cf,Option.some.injEq] at hl
     rw[<- hl];rfl
    subst Rg
    have hr:∃cs,(resolve a.eval ⟨.builtin .copy,⟨[x,y]⟩,⟨[t,u]⟩⟩ o.type).run P w=.ok { target:=.builtin .copy #[t,u] o.type cs,args:=#[a.eval x,a.eval y] } w:=by
     refine⟨(⟨[x,y]⟩:Array Operand).map (λ | .const _=>true|_=>false),?_⟩
     unfold resolve
     have e:(⟨[x,y]⟩:Array Operand).map a.eval=#[a.eval x,a.eval y]:=by simp
     simp only[e]
     rfl
    obtain⟨cs,hr⟩:=hr
    refine BO (G4 (u:=u) (ty:=o.type) hH (me he) (dO x (by simp)) (dO y (by simp)) h) ?_
    unfold Go.execOp
    rw[ho]
    simp only
    rw[Sem.run_bind,hr]
    rfl
   ·cases h
    show (execOp a.eval o).run P w=_
    unfold Go.execOp
    rw[ho]
    simp only
    rw[Sem.run_bind]
    unfold resolve
    rw[hc]
    rfl
   ·cases h
  ·rename_i recv name hc
   have Rg:l=recv::c.args.toList:=by
    rw[ho] at hl
    simp only[i3,cf,hc,Option.some.injEq] at hl
    rw[<- hl];rfl
   subst Rg
   split at h
   case h_2=>cases h
   rename_i t v e
   split at h
   case h_2=>cases h
   rename_i f hf
   split at h
   case h_2=>cases h
   rename_i hB
   cases h
   have hr:=dO recv (by simp)
   rw[e] at hr
   have ha:=lG (l:=c.args.toList) (λ x hx=>dO x (List.mem_cons_of_mem _ hx))
   generalize hu:a.eval recv=u at hr
   cases hr with
   | atom _ h=>simp[cD] at h
   | @iface _ v' _ hv =>
   refine⟨v'::c.args.toList.map a.eval,?_,.cons hv ha⟩
   unfold Go.execOp
   rw[ho]
   simp only
   rw[Sem.run_bind]
   have h1:(resolve a.eval c o.type).run P w=.ok { target:=.fn (.method name) #[],args:=#[.iface t v']++c.args.map a.eval } w:=by
    unfold resolve
    rw[hc]
    simp only[hu]
    rfl
   rw[h1]
   simp only[Result.andThen_ok]
   have h2:(invoke (.fn (.method name) #[]) (#[.iface t v']++c.args.map a.eval)).run P w=(callMethod (.iface t v') name (c.args.map a.eval)).run P w:=by
    unfold invoke
    have e1:(#[Value.iface t v']++c.args.map a.eval)[0]?=some (.iface t v'):=by rw[Array.getElem?_append_left (by simp)];rfl
    have e2:(#[Value.iface t v']++c.args.map a.eval).extract 1 (#[Value.iface t v']++c.args.map a.eval).size=c.args.map a.eval:=by
     apply Array.ext'
     simp
     rw[List.take_of_length_le (by simp)]
    simp only[e1,e2]
   rw[h2]
   unfold callMethod
   simp only
   rw[nM,Sem.run_bind,DN hf]
   simp only[Result.andThen_ok]
   rw[iy hB]
   congr 2
   apply Array.ext'
   simp
 ·cases h
theorem mg{o:Op}{l:List Operand}(h:i3 o=some l)(hd:∀c,o ≠ .defer c):cf o=some l:=by
 cases o <;> first|exact h|exact(hd _ rfl).elim
end ap
def Glb(ν:Nu)(G:Nat):Prop:=∀k,k<G -> ∃K,ν k=some (k,K)
def G6(ν:Nu)(v:Value)(n n':Nat)(H':AH)(F:HL)(w:World)(e:Ending)(w':World):Prop :=
 ∃ν' v',e=.returned v' /\ VRi ν' v v' /\ Ext ν ν' n n' /\ HR ν' H' F w' /\ Below 0 w w'
inductive DsR(ν:Nu):List Deferred -> List Deferred -> Prop
 | nil:DsR ν [] []
 | cons {d d':Deferred} {l l':List Deferred}:DR ν d d' -> DsR ν l l' -> DsR ν (d::l) (d'::l')
inductive RR(ν:Nu):Option Nat -> Option Nat -> Prop
 | none:RR ν none none
 | some {l b K:Nat}:ν l=some (b,K) -> RR ν (some l) (some b)
def Ex.out:Ex -> Exit
 | .normal=>.normal
 | .exit id=>.exit id
 | .ret=>.ret
structure SR(ν:Nu)(G N:Nat)(s:St)(F:HL)(a:Act)(w:World):Prop where
 g:Glb ν G
 t:TRel ν N s.T a.tmps
 d:DsR ν s.D a.defers
 h:HR ν s.H F w
def BP(F:Fence)(n:Nat)(P:Program)(c:Code)(Q:Exit -> Act -> World -> Prop)(a:Act)(w:World):Prop :=
 ∀ (b:Frame) (k:List Item) (cs:List Frame),b.roundOf=F.round -> F.fn b.fn -> F.room (cs.length+1+n) ->
  ∃e a' w',Q e a' w' /\ ArrivesIn (Machine.fenced P F) P (lone (b.atR a (.code c :: .inLoop c::k)) cs w) b k cs e a' w'
theorem z7{F:Fence}{n:Nat}{P:Program}{c:Code}{Q:Exit -> Act -> World -> Prop}{a:Act}{w:World}(h:BP F n P c Q a w):(Code.loop c).wpIn F n P Q a w:=by
 intro b k cs Ry hb hr
 obtain⟨e,a',w',hq,oR⟩:=h b k cs Ry hb hr
 exact⟨e,a',w',hq,.of_steps (.one (fenced_calm hb hr rfl) stepR_loop) oR⟩
theorem xV{F:Fence}{n:Nat}{P:Program}{c:Code}{Q:Exit -> Act -> World -> Prop}{a:Act}{w:World}(h:c.wpIn F n P (Exit.then (BP F n P c Q) Q) a w):BP F n P c Q a w:=by
 intro b k cs Ry hb hr
 obtain⟨e,a₁,w₁,hq,oR⟩:=h b (.inLoop c::k) cs Ry hb hr
 cases e with
 | normal =>
  obtain⟨e₂,a₂,w₂,Td,Rq⟩:=hq b k cs Ry hb hr
  exact⟨e₂,a₂,w₂,Td,.of_steps (StepsIn.trans oR (.one (fenced_calm hb hr rfl) stepR_inLoop)) Rq⟩
 | exit id=>exact⟨_,a₁,w₁,hq,.pass (x:=.inLoop c) rfl (λ _ _=>.inl (by simp)) oR⟩
 | goto l=>exact⟨_,a₁,w₁,hq,.pass (x:=.inLoop c) rfl (λ _ _=>.inl (by simp)) oR⟩
 | ret=>exact⟨_,a₁,w₁,hq,.pass (x:=.inLoop c) rfl (λ _ _=>.inl (by simp)) oR⟩
 | panic ch=>exact⟨_,a₁,w₁,hq,.pass (x:=.inLoop c) rfl (λ _ _=>.inl (by simp)) oR⟩
 | outgrown=>exact⟨_,a₁,w₁,hq,.pass (x:=.inLoop c) rfl (λ _ _=>.inl (by simp)) oR⟩
def jP(P:Program)(G:Nat):Task -> Rs -> Prop
 | .fn f args H n,.fn v H' n'=>n <= n' /\ ∀ν F w iN,Glb ν G -> Fr ν n n' -> HR ν H F w -> LR ν args iN -> Calls P f ⟨iN⟩ w (G6 ν v n n' H' F w)
 | .rnd l T N as bo H n,.fn v H' n'=>n <= n' /\ ∀ν F w b K tm f r',Glb ν G -> ν l=some (b,K) -> TRel ν N T tm -> Fr ν n n' -> HR ν H F w -> RoundIn (Wr r') 0 P b f tm as bo w (G6 ν v n n' H' F w)
 | .code r N c s,.cd e s'=>s.n <= s'.n /\ ∀ν F a w r' Q,RR ν r r' -> SR ν G N s F a w -> Fr ν s.n s'.n -> (∀ν' a' w',Ext ν ν' s.n s'.n -> SR ν' G N s' F a' w' -> Below 0 w w' -> Q e.out a' w') -> c.wpIn (Wr r') 0 P Q a w
 | .loop r N c s,.cd e s'=>s.n <= s'.n /\ ∀ν F a w r' Q,RR ν r r' -> SR ν G N s F a w -> Fr ν s.n s'.n -> (∀ν' a' w',Ext ν ν' s.n s'.n -> SR ν' G N s' F a' w' -> Below 0 w w' -> Q e.out a' w') -> BP (Wr r') 0 P c Q a w
 | .dfn f args H n,.fn v H' n'=>n <= n' /\ ∀ν F w iN,Glb ν G -> Fr ν n n' -> HR ν H F w -> LR ν args iN -> CallsDIn (Wr none) 0 P f ⟨iN⟩ .returning w (λ e u' w'=>u'=.returning /\ G6 ν v n n' H' F w e w')
 | _,_=>True
def kM(P:Program)(G:Nat)(ih:Task -> Option Rs):Prop:=∀t res,ih t=some res -> jP P G t res
section ops
variable {ν ν':Nu} {P:Program} {G N:Nat} {T T':Tr Value} {a:Act} {H H':AH} {F:HL} {w w':World} {r r':Option Nat} {ih:Task -> Option Rs}
theorem Glb.mono(h:Glb ν G)(hl:ν.Le ν'):Glb ν' G:=λ k hk=>let ⟨K,e⟩:=h k hk;⟨K,hl _ _ e⟩
theorem DsR.mono{l l':List Deferred}(h:DsR ν l l')(hl:ν.Le ν'):DsR ν' l l':=by
 induction h with
 | nil=>exact .nil
 | cons h _ ih=>exact .cons (h.mono hl) ih
theorem RR.mono(h:RR ν r r')(hl:ν.Le ν'):RR ν' r r':=by
 cases h with
 | none=>exact .none
 | some h=>exact .some (hl _ _ h)
theorem HR.loop(h:HR ν H F w){k:Nat}{st:LoopState}{pend:Option Code}{T:Tr Value}{N:Nat}{ps:Array Tmp}{as bo:Code}{d r K:Nat}(hk:bP H k=some (.loop st pend T N ps as bo d))(hr:ν k=some (r,K)) :
  ∃lp:Loop,w.heap[r]?=some (.loop lp) /\ lp.state=st /\ lp.pending=pend /\ TRel ν N T lp.tmps /\ lp.params=ps /\ lp.assign=as /\ lp.body=bo /\ ∃K',ν d=some (lp.defers,K'):=by
 obtain⟨r',K',o,h1,h2,h3⟩:=h.blk _ _ hk
 rw[hr] at h1
 cases h1
 unfold OR at h3
 split at h3
 ·rename_i e1;cases e1
 ·rename_i e1;cases e1
 ·rename_i e1;cases e1;exact⟨_,h2,h3⟩
 ·rename_i e1;cases e1
 ·exact h3.elim
theorem gP{l:Nat}{lp:Loop}(h:w.heap[l]?=some (.loop lp)):(Instr.getLoop l).run P w=.ok lp w:=by
 unfold Instr.getLoop
 rw[Sem.run_bind]
 have:(getObj l).run P w=.ok (.loop lp) w:=by
  unfold getObj
  rw[Sem.run.eq_def]
  simp only[h]
  rfl
 rw[this]
 rfl
theorem uk:∀ {ps:List Tmp} {vs P_:List Value} {T:Tr Value} {tm:Array Value},LR ν vs P_ -> TRel ν N T tm -> BI N ps=true -> TRel ν N (GM ps vs T) ((ps.zip P_).foldl (λ tmps (p:Tmp × Value)=>tmps.setIfInBounds p.1 p.2) tm)
 | [],vs,P_,T,tm,hl,ht,_=>by cases vs <;> exact ht
 | p::ps,[],P_,T,tm,hl,ht,_=>by cases hl;exact ht
 | p::ps,v::vs,P_,T,tm,hl,ht,iF=>by
  cases hl with
  | cons hv hl =>
   rw[BI] at iF
   split at iF
   ·rename_i hp
    have h2:=uk (ps:=ps) hl (ht.set (dL hp) hv) iF
    exact h2
   ·cases iF
theorem DP{b:Nat}{lp:Loop}{args:List Value}(h:w.heap[b]?=some (.loop lp))(hs:args.length=lp.params.size) :
  (Instr.yield b ⟨args⟩).run P w=.ok (.round b lp.fn ((lp.params.toList.zip args).foldl (λ tmps (p:Tmp × Value)=>tmps.setIfInBounds p.1 p.2) lp.tmps) lp.assign lp.body) w:=by
 unfold Instr.yield
 rw[Sem.run_bind,gP h]
 simp only[Result.andThen_ok]
 rw[if_neg (by simp[hs])]
 have:(Array.foldl (λ (tmps:Array Value) (x:Tmp × Value)=>tmps.setIfInBounds x.1 x.2) lp.tmps (lp.params.zip ⟨args⟩))=((lp.params.toList.zip args).foldl (λ tmps (p:Tmp × Value)=>tmps.setIfInBounds p.1 p.2) lp.tmps):=by
  rw[<- Array.foldl_toList,Array.toList_zip]
 rw[<- this]
 rfl
def QA(P:Program)(ν:Nu)(F:HL)(n:Nat)(r r':Option Nat)(a:Act)(w:World)(o:Oper):OpR -> Prop
 | .val v H' n'=>Fr ν n n' -> ∀ (next:Act -> World -> Prop) (Q:Exit -> Act -> World -> Prop),(∀ν' v' w',VRi ν' v v' -> Ext ν ν' n n' -> HR ν' H' F w' -> Below 0 w w' -> next (a.put o.dst v') w') -> o.wpIn (Wr r') 0 P a w next Q
 | .dfr d=>r=none /\ ∀ (next:Act -> World -> Prop) (Q:Exit -> Act -> World -> Prop),(∀d',DR ν d d' -> next ({ a with defers:=d'::a.defers }.put o.dst undef) w) -> o.wpIn (Wr r') 0 P a w next Q
theorem G7{o:Oper}{c:Call}{n:Nat}{x:AN}(ho:o.op=.defer c)(h:BG P G o T H n=some x):∃d,x=.dfr d:=by
 unfold BG at h
 split at h
 ·cases h
 split at h
 ·cases h
 rw[ho] at h
 simp only[sN,nj,ho] at h
 split at h
 ·split at h
  ·cases h;exact⟨_,rfl⟩
  ·cases h
 ·cases h
theorem mh{o:Oper}{n:Nat}{x:AN}(dO:∀l,i3 o.op=some l -> sZ G l=true -> OK ν T a l)(hH:HR ν H F w)(h:BG P G o T H n=some x)(hn:∀v H' n',x=.val v H' n' -> Fr ν n n'):Qz P ν F n (execOp a.eval o) w x:=by
 unfold BG at h
 split at h
 ·cases h
 rename_i l hl
 split at h
 ·cases h
 rename_i hk
 have dO:=dO l hl hk
 split at h
 ·rename_i hc
  split at h
  ·rename_i v hv
   cases h
   have SU:=mg hl (λ c e=>by rw[e] at hc;cases hc)
   obtain⟨v',r,e⟩:=xN hv SU dO
   exact⟨ν,v',w,_,e w,.inl rfl,r,.refl _ _,hH,Below.refl _ _⟩
  ·cases h
 ·rename_i hc
  split at h
  ·rename_i v hv
   cases h
   have SU:=mg hl (λ c e=>by rw[e] at hc;cases hc)
   obtain⟨v',r,e⟩:=xS hH hv SU dO
   exact⟨ν,v',w,_,e,.inl rfl,r,.refl _ _,hH,Below.refl _ _⟩
  ·cases h
 ·rename_i hc
  split at h
  ·rename_i b m hv
   cases h
   have SU:=mg hl (λ c e=>by rw[e] at hc;cases hc)
   obtain⟨h1,h2,o',h3,h4⟩:=BM hv SU dO
   have hnone:ν n=none:=hn _ _ _ rfl n (Nat.le_refl _) (by omega)
   exact⟨ν.upd n w.heap.size 0,_,_,_,h4 w,.inl rfl,GY h2 cr,.upd,hH.new hnone (h3 0) h1 rfl,⟨rfl,rfl,rfl,by simp,λ k hk=>by omega⟩⟩
  ·cases h
 ·exact Kn hH h hl dO hn
theorem vA{o:Oper}{n n':Nat}{v:Value}(h:BG P G o T H n=some (.val v H' n')):n <= n':=by
 have key:nj P o T H n=some (.val v H' n') -> n <= n':=by
  intro h
  unfold nj qy GK xy xw xx t2 rB i7 at h
  repeat' split at h
  all_goals first
   | (cases h;done)
   | (cases h;omega)
   | (rename_i hx;simp only[Option.some.injEq] at h;subst h;(repeat' (split at hx)) <;> first|(cases hx;done)|(cases hx;omega))
 unfold BG at h
 split at h
 ·cases h
 split at h
 ·cases h
 split at h
 ·split at h
  ·cases h;omega
  ·cases h
 ·split at h
  ·cases h;omega
  ·cases h
 ·split at h
  ·unfold MS at h;cases h;omega
  ·cases h
 ·exact key h
theorem vB(r_:kM P G ih){o:Oper}{n:Nat}{x:OpR}(hg:Glb ν G)(hr:RR ν r r')(dO:∀l,i3 o.op=some l -> sZ G l=true -> OK ν T a l)(hH:HR ν H F w)(h:j7 P G ih r o T H n=some x):(∀v H' n',x=.val v H' n' -> n <= n') /\ QA P ν F n r r' a w o x:=by
 have hA:∀f,o.about P w a.eval=some f -> (Wr r').fn f:=λ _ _=>trivial
 unfold j7 at h
 split at h
 ·cases h
 rename_i y hy
 have nd:(∀d,y ≠ .dfr d) -> o.semAt (Wr r').round a.eval=execOp a.eval o:=λ hd=>Oper.semAt_eq _ _ _ λ c e=>by
  obtain⟨d,SV⟩:=G7 e hy
  exact hd d SV
 split at h
 ·rename_i v H1 n1
  cases h
  refine⟨λ v H' n' e=>by cases e;exact vA hy,λ TY next Q hk=>⟨hA,?_⟩⟩
  obtain⟨ν',v',w',q,h1,h2,h3,h4,h5,h6⟩:=mh dO hH hy (λ v H' n' e=>by cases e;exact TY)
  rw[nd (λ d e=>by cases e),h1]
  rcases h2 with rfl|⟨rfl,rfl⟩
  ·rw[Oper.uponIn_value];exact hk _ _ _ h3 h4 h5 h6
  ·rw[Oper.uponIn_skip];exact hk _ _ _ h3 h4 h5 h6
 ·rename_i f args
  split at h
  ·rename_i v H1 n1 hc
   cases h
   obtain⟨hle,R5⟩:=r_ _ _ hc
   refine⟨λ v H' n' e=>by cases e;exact hle,λ TY next Q hk=>⟨hA,?_⟩⟩
   obtain⟨iN,h1,h2⟩:=mh dO hH hy (λ v H' n' e=>by cases e)
   rw[nd (λ d e=>by cases e),h1,Oper.uponIn_enter]
   refine⟨λ h=>(by cases h),?_⟩
   refine iL ((R5 ν F w iN hg TY hH h2).mono ?_)
   rintro e w2 ⟨ν',v',rfl,k1,k2,k3,k4⟩
   exact hk _ _ _ k1 k2 k3 k4
  ·cases h
 ·rename_i l args
  split at h
  case h_2=>cases h
  rename_i st pend T2 N' ps as bo d hb
  split at h
  case h_2=>cases h
  rename_i ID iF
  split at h
  case h_2=>cases h
  rename_i v H1 n1 hc
  cases h
  obtain⟨hle,R5⟩:=r_ _ _ hc
  refine⟨λ v H' n' e=>by cases e;exact hle,λ TY next Q hk=>⟨hA,?_⟩⟩
  obtain⟨b,K,iN,hν,h1,h2⟩:=mh dO hH hy (λ v H' n' e=>by cases e)
  obtain⟨lp,g1,g2,g3,g4,g5,g6,g7,g8⟩:=hH.loop hb hν
  have hlen:iN.length=lp.params.size:=by
   rw[g5,h1.length]
   rw[eh] at ID
   exact Nat.eq_of_beq_eq_true ID
  rw[nd (λ d e=>by cases e),h2,DP g1 hlen,Oper.uponIn_round]
  refine⟨λ h=>(by cases h),?_⟩
  rw[g6,g7,g5]
  refine(R5 ν F w b K _ lp.fn r' hg hν (uk h1 g4 iF) TY hH).mono ?_
  rintro e w2 ⟨ν',v',rfl,k1,k2,k3,k4⟩
  exact hk _ _ _ k1 k2 k3 k4
 ·rename_i d
  split at h
  ·cases h
   cases hr
   refine⟨λ v H' n' e=>(by cases e),rfl,λ next Q hk=>⟨hA,?_⟩⟩
   obtain⟨d',h1,h2⟩:=mh dO hH hy (λ v H' n' e=>by cases e)
   have:o.semAt (Wr none).round a.eval=execOp a.eval o:=rfl
   rw[this,h1,Oper.uponIn_defer]
   exact hk _ h2
  ·cases h
 ·cases h
theorem kh{ops:Array Oper}{o:Oper}{b:Bool}(hT:TRel ν N T a.tmps)(h:eH ops o T=some b):Region.wanted o (yielded ops a.tmps)=b:=by
 unfold eH at h
 unfold Region.wanted
 split at h
 ·rename_i hg
  rw[hg];cases h;rfl
 ·rename_i j want hg
  rw[hg]
  simp only
  split at h
  case h_2=>cases h
  rename_i d hd
  have hy:yielded ops a.tmps j=match a.tmps[d]? with|some (.bool b)=>some b|_=>none:=by
   unfold yielded
   rw[hd]
   rfl
  have hv:(d<N /\ ∃v',a.tmps[d]?=some v' /\ VRi ν (cW T d) v') \/ (a.tmps[d]?=none /\ cW T d=undef):=by
   rcases Nat.lt_or_ge d N with h1|h1
   ·exact .inl ⟨h1,hT.get d h1⟩
   ·exact .inr ⟨Array.getElem?_eq_none (by rw[hT.size];exact h1),hT.out d h1⟩
  rw[hy]
  split at h
  ·rename_i b' hb
   cases h
   rcases hv with ⟨-,v',e1,e2⟩|⟨e1,e2⟩
   ·rw[hb] at e2
    rw[e2.plain_eq rfl] at e1
    rw[e1];simp
   ·rw[hb] at e2;cases e2
  ·rename_i vs hb
   cases h
   rcases hv with ⟨-,v',e1,e2⟩|⟨e1,e2⟩
   ·rw[hb] at e2
    rw[e1]
    cases e2 with
    | atom _ h=>simp[cD] at h
    | tuple _ _=>rfl
   ·rw[e1];rfl
  ·cases h
theorem SR.op{s:St}(h:SR ν G N s F a w){o:Oper}:∀l,i3 o.op=some l -> sZ G l=true -> OK ν s.T a l:=λ l _ hk =>
 (FE.mk h.t h.g).ok hk
theorem oz(r_:kM P G ih){ops:Array Oper}:∀ (rest:List Oper) (s s':St),mK P G ih r N ops rest s=some s' -> s.n <= s'.n /\ ∀ν F a w r' (Q:Exit -> Act -> World -> Prop),RR ν r r' -> SR ν G N s F a w -> Fr ν s.n s'.n ->
  (∀ν' a' w',Ext ν ν' s.n s'.n -> SR ν' G N s' F a' w' -> Below 0 w w' -> Q .normal a' w') -> wpListIn (Wr r') 0 P ops Q rest a w
 | [],s,s',h=>by
  rw[mK] at h
  cases h
  exact⟨Nat.le_refl _,λ ν F a w r' Q hr hs hf hk=>hk ν a w (.refl _ _) hs (Below.refl _ _)⟩
 | o::rest,s,s',h=>by
  rw[mK] at h
  split at h
  ·cases h
  ·rename_i hw
   split at h
   case h_2=>cases h
   rename_i T1 hp
   obtain⟨h1,h2⟩:=oz r_ rest _ _ h
   refine⟨h1,λ ν F a w r' Q hr hs hf hk=>?_⟩
   rw[wpListIn,if_neg (by rw[kh hs.t hw];simp)]
   refine⟨λ _ _=>trivial,?_⟩
   exact h2 ν F _ w r' Q hr ⟨hs.g,hs.t.put VRi.undef hp,by rw[fG];exact hs.d,hs.h⟩ hf hk
  ·rename_i hw
   split at h
   ·cases h
   ·rename_i v H1 n1 iS
    split at h
    case h_2=>cases h
    rename_i T1 hp
    obtain⟨h1,h2⟩:=oz r_ rest _ _ h
    simp only at h1 h2
    have hle:s.n <= n1:=by
     clear h2
     unfold j7 at iS
     split at iS
     ·cases iS
     rename_i y hy
     split at iS
     ·cases iS;exact vA hy
     ·split at iS
      ·rename_i hc;cases iS;exact(r_ _ _ hc).1
      ·cases iS
     ·split at iS
      case h_2=>cases iS
      split at iS
      case h_2=>cases iS
      split at iS
      ·rename_i hc;cases iS;exact(r_ _ _ hc).1
      ·cases iS
     ·split at iS <;> cases iS
     ·cases iS
    refine⟨by omega,λ ν F a w r' Q hr hs hf hk=>?_⟩
    rw[wpListIn,if_pos (kh hs.t hw)]
    obtain⟨-,h4⟩:=vB r_ hs.g hr hs.op hs.h iS
    refine h4 (λ i Zp UE=>hf i Zp (by omega)) _ _ (λ ν' v' w' k1 k2 k3 k4=>?_)
    have Q2:=k2.sub (λ i Zp UE=>hf i Zp (by omega))
    exact h2 ν' F _ w' r' Q (hr.mono Q2) ⟨hs.g.mono Q2,(hs.t.mono Q2).put k1 hp,by rw[fG];exact hs.d.mono Q2,k3⟩ (k2.fr hf h1) (λ ν2 a2 w2 q1 q2 q3=>hk ν2 a2 w2 (k2.trans q1) q2 (k4.trans q3))
   ·rename_i d iS
    split at h
    case h_2=>cases h
    rename_i T1 hp
    obtain⟨h1,h2⟩:=oz r_ rest _ _ h
    refine⟨h1,λ ν F a w r' Q hr hs hf hk=>?_⟩
    rw[wpListIn,if_pos (kh hs.t hw)]
    obtain⟨-,h3,h4⟩:=vB r_ hs.g hr hs.op hs.h iS
    refine h4 _ _ (λ d' SV=>?_)
    exact h2 ν F _ w r' Q hr ⟨hs.g,TRel.put (a:={ a with defers:=d'::a.defers }) hs.t VRi.undef hp,by rw[fG];exact .cons SV hs.d,hs.h⟩ hf hk
end ops
end Go.Proofs.YtgdcbiiopbpgaaaGreatDoor
