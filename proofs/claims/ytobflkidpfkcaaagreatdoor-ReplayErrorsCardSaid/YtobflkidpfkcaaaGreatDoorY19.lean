import Derived.Test.YtobflkidpfkcaaaGreatDoorY18
set_option maxHeartbeats 4000000
set_option maxRecDepth 100000
set_option linter.unusedSimpArgs false
set_option linter.unusedVariables false
namespace Go.Proofs.YtobflkidpfkcaaaGreatDoor
open Go.RowKit
section nw
variable {ν ν':Nu} {P:Program} {G N:Nat} {T T':Tr Value} {a:Act} {H H':AH} {F:HL} {w w':World}
theorem eR (o:Obj) (w:World):(newObj o).run P w=.ok w.heap.size { w with heap:=w.heap.push o }:=rfl
def Mk.ok:Mk -> Prop
 | .sl _ c=>c < lm
 | _=>True
theorem FD {m:Mk} (h:m.ok) {n r K:Nat} (hν:ν n=some (r,K)):VRi ν (m.val n) (m.val r):=by
 cases m with
 | ptr=>exact .ptr 0 hν
 | sl l c=>exact .slice 0 l hν ⟨λ _=>rfl,λ e=>by unfold Mk.ok at h;omega⟩
 | mp=>exact .map hν
theorem FF (z:List Value) (n:Nat):(lK z n).length=n * z.length:=by
 induction n with
 | zero=>simp [lK]
 | succ n ih=>simp [lK,ih,Nat.succ_mul];omega
theorem wJ (z:List Value):∀ (n i:Nat),i < n * z.length -> (lK z n)[i]?=z[i % z.length]?
 | 0,i,h=>by omega
 | n+1,i,h=>by
  rw [lK]
  rcases Nat.lt_or_ge i z.length with h1 | h1
  ·rw [List.getElem?_append_left h1,Nat.mod_eq_of_lt h1]
  ·rw [List.getElem?_append_right h1,wJ z n _ (by rw [Nat.succ_mul] at h;omega),Nat.mod_eq_sub_mod h1]
theorem sY (z:List Value) (n:Nat) (hz:0 < z.length):(Array.range (n * z.length)).map (λ i=>(⟨z⟩:Array Value)[i % (⟨z⟩:Array Value).size]!)=⟨lK z n⟩:=by
 apply Array.ext'
 apply List.ext_getElem?
 intro i
 rcases Nat.lt_or_ge i (n * z.length) with h | h
 ·have h2:i % z.length < z.length:=Nat.mod_lt _ hz
  simp only [Array.toList_map,Array.toList_range,List.getElem?_map,List.getElem?_range h,Option.map_some]
  rw [wJ z n i h]
  simp [h2]
 ·rw [List.getElem?_eq_none (by simp;exact h),List.getElem?_eq_none (by rw [FF];exact h)]
theorem qR {z:List Value} (h:LR ν z z):∀ n,LR ν (lK z n) (lK z n)
 | 0=>.nil
 | n+1=>h.append (qR h n)
theorem lq {t el:TypeId} (h:sM P t=some el):P.underlying t=some (.slice el):=by
 unfold sM at h
 split at h
 ·rename_i e;cases h;exact e
 ·cases h
theorem Al {o:Oper} {b:AB} {m:Mk} (h:rS P o T=some (b,m)) {l:List Operand} (hl:cf o.op=some l) (hok:OK ν T a l) :
  FB b=true /\ m.ok /\ ∃ o',(∀ K,OR ν K b o') /\ ∀ w,(execOp a.eval o).run P w=.ok (.value (m.val w.heap.size)) { w with heap:=w.heap.push o' }:=by
 unfold rS at h
 split at h
 ·rename_i t ho
  split at h
  ·rename_i z hz
   cases h
   obtain ⟨zv,h1,h2,h3,-⟩:=jK (ν:=ν) hz
   refine ⟨j9 _ _,trivial,_,λ K=>OR.cellsB h3,λ w=>?_⟩
   simp [execOp,ho,Instr.alloc,Sem.run_bind,h1,newVar,newRow,h2,eR,cE,Result.andThen,Mk.val]
  ·cases h
 ·rename_i t x ho
  rw [ho] at hl;simp only [cf,Option.some.injEq] at hl;subst hl
  cases h
  refine ⟨j9 _ _,trivial,_,λ K=>OR.cellsB (j6 (hok x (by simp))),λ w=>?_⟩
  simp [execOp,ho,Instr.box,Sem.run_bind,newVar,newRow,eR,cE,Result.andThen,Mk.val,fY]
 ·rename_i t len parts ho
  rw [ho] at hl;simp only [cf,Option.some.injEq] at hl;subst hl
  split at h
  case h_2=>cases h
  rename_i el he
  split at h
  case h_2=>cases h
  rename_i k z hk hz
  split at h
  case h_2=>cases h
  rename_i g1 g2 g3
  split at h
  case h_2=>cases h
  rename_i l hf
  cases h
  have hu:=lq he
  have hzl:z.length=k:=by rw [dW] at g2;exact Nat.eq_of_beq_eq_true g2
  have hk0:=dE g3
  have g1':=bP g1
  obtain ⟨zv,h1,h2,h3,-⟩:=jK (ν:=ν) hz
  obtain ⟨l',e1,e2⟩:=oc (qM hok) (qR h3 len) hf
  refine ⟨j9 _ _,?_,_,λ K=>OR.cellsB e2,λ w=>?_⟩
  ·have:len <= len * k:=Nat.le_mul_of_pos_right _ hk0
   show len < lm
   unfold lm;omega
  have h6:=j8 e1
  have h7:(parts.map λ (p:Nat × Operand)=>(p.1,a.eval p.2)).toList=parts.toList.map λ p=>(p.1,a.eval p.2):=by simp
  have h8:=sY z len (by omega)
  rw [hzl] at h8
  have hs:=d6 hk w
  unfold Go.execOp
  rw [ho]
  simp only
  rw [Sem.run_bind]
  have:(Instr.buildSlice t len (parts.map λ (p:Nat × Operand)=>(p.1,a.eval p.2))).run P w=.ok (.slice (some ⟨w.heap.size,0,none⟩) len len) { w with heap:=w.heap.push (.cells ⟨l'⟩ el (0,0)) }:=by
   unfold Instr.buildSlice
   rw [Sem.run_bind,aP hu]
   simp only [Result.andThen_ok]
   rw [Sem.run_bind,hs]
   simp only [Result.andThen_ok]
   rw [if_neg (by simp;omega)]
   by_cases hl0:len * k=0
   ·have hlen:len=0:=by
     rcases Nat.eq_zero_or_pos len with e | e
     ·exact e
     ·have:=Nat.mul_pos e hk0;omega
    subst hlen
    simp only [Nat.zero_mul,if_true]
    rw [Sem.run_bind]
    simp only [cE,Result.andThen_ok]
    have h9:(Array.range 0).map (λ i=>(#[]:Array Value)[i % (#[]:Array Value).size]!)=⟨lK z 0⟩:=by simp [lK]
    rw [h9,h7,h6]
    simp only [Sem.run_bind,newRow,eR,Result.andThen_ok,cE]
   ·rw [if_neg hl0]
    rw [Sem.run_bind,h1]
    simp only [Result.andThen_ok]
    rw [Sem.run_bind]
    simp only [cE,Result.andThen_ok,h2]
    rw [h8,h7,h6]
    simp only [Sem.run_bind,newRow,eR,Result.andThen_ok,cE]
  rw [this]
  rfl
 ·rename_i t lo co ho
  rw [ho] at hl;simp only [cf,Option.some.injEq] at hl;subst hl
  split at h
  case h_2=>cases h
  rename_i el he
  split at h
  case h_2=>cases h
  rename_i inf hi
  split at h
  case h_2=>cases h
  rename_i z n m' hz hn hm
  split at h
  case h_2=>cases h
  rename_i g1 g2 g3 g4 g5 g6
  cases h
  have hu:=lq he
  have hzl:z.length=inf.size:=by rw [dW] at g4;exact Nat.eq_of_beq_eq_true g4
  have hk0:=dE g5
  have g1':=bP g1
  have g2':=bP g2
  have g3':=dE g3
  have g6':=dE g6
  obtain ⟨zv,h1,h2,h3,-⟩:=jK (ν:=ν) hz
  obtain ⟨kn,en⟩:=mA hn (hok lo (by simp))
  obtain ⟨km,em⟩:=mA hm (hok co (by simp))
  refine ⟨j9 _ _,g3',_,λ K=>OR.cellsB (qR h3 m'),λ w=>?_⟩
  have h8:=sY z m' (by omega)
  rw [hzl] at h8
  unfold lm at g3'
  have w1:IntKind.i64.wrap (n:Int)=(n:Int):=IntWalk.i64_in _ (by omega)
  have w2:IntKind.i64.wrap (m':Int)=(m':Int):=IntWalk.i64_in _ (by omega)
  have hsz:eM P el=some inf.size:=by unfold eM;rw [hi];rfl
  have hs:=d6 hsz
  have hti:=λ W=>dX hi W
  have q1:¬ ((281474976710656:Int) < (inf.bytes:Int) * (m':Int)):=by
   have:(inf.bytes:Int) * (m':Int)=((inf.bytes * m':Nat):Int):=by simp
   omega
  have q2:¬ ((m':Int) < 0):=by omega
  have q3:¬ ((n:Int) < 0):=by omega
  have q4:¬ ((m':Int) < (n:Int)):=by omega
  have hroom:∀ x W,(askRoom x).run P W=.ok () W:=λ x W=>by unfold askRoom;split <;> rfl
  unfold Go.execOp
  rw [ho]
  simp only
  rw [Sem.run_bind]
  have:(Instr.makeSlice t (a.eval lo) (a.eval co)).run P w=.ok (.slice (some ⟨w.heap.size,0,none⟩) n m') { w with heap:=w.heap.push (.cells ⟨lK z m'⟩ el (0,0)) }:=by
   unfold Instr.makeSlice
   rw [Sem.run_bind,aP hu]
   simp only [Result.andThen_ok]
   rw [en,em]
   simp only [asInt,asIntOf,Sem.run_bind,cE,Result.andThen_ok,hti,w1,w2]
   rw [if_neg (by simp [q1,q2,q3,q4])]
   simp only [Sem.run_bind,hroom,Result.andThen_ok,hs,Int.toNat_natCast]
   by_cases hl0:m' * inf.size=0
   ·have hlen:m'=0:=by
     rcases Nat.eq_zero_or_pos m' with e | e
     ·exact e
     ·have:=Nat.mul_pos e hk0;omega
    subst hlen
    simp only [Nat.zero_mul,if_true]
    rw [Sem.run_bind]
    simp only [cE,Result.andThen_ok]
    have h9:(Array.range 0).map (λ i=>(#[]:Array Value)[i % (#[]:Array Value).size]!)=⟨lK z 0⟩:=by simp [lK]
    rw [h9]
    simp only [Sem.run_bind,newRow,eR,Result.andThen_ok,cE]
   ·rw [if_neg hl0]
    simp only [Sem.run_bind,h1,cE,Result.andThen_ok,h2]
    rw [h8]
    simp only [Sem.run_bind,newRow,eR,Result.andThen_ok,cE]
  rw [this]
  rfl
 ·rename_i t r ho
  have hmk:∀ W:World,(newObj (.map #[] 0)).run P W=.ok W.heap.size { W with heap:=W.heap.push (.map #[] 0) }:=λ W=>rfl
  split at h
  ·cases h
   refine ⟨rfl,trivial,.map #[] 0,λ K=>⟨rfl,.nil⟩,λ w=>?_⟩
   simp [execOp,ho,Instr.makeMap,Sem.run_bind,hmk,cE,Result.andThen,Mk.val]
  ·rename_i r
   rw [ho] at hl;simp only [cf,Option.some.injEq] at hl;subst hl
   split at h
   ·rename_i kt et k n hu he
    cases h
    have hr:=hok r (by simp)
    rw [he] at hr
    have er:=hr.plain_eq rfl
    refine ⟨rfl,trivial,.map #[] 0,λ K=>⟨rfl,.nil⟩,λ w=>?_⟩
    simp [execOp,ho,Instr.makeMap,Sem.run_bind,aP hu,er,asInt,asIntOf,hmk,cE,Result.andThen,Mk.val]
   ·cases h
 ·cases h
theorem FG {d:TypeDesc} {k k':Value} (h:kR k k'=some true) (hk:uj d k=true):k'=k /\ Instr.sameBits 10000 k' k=true:=by
 unfold kR at h
 split at h
 ·split at h
  ·rename_i e
   have e':=of_decide_eq_true e
   simp only [Option.some.injEq,beq_iff_eq] at h
   subst e';subst h
   exact ⟨rfl,by simp [Instr.sameBits]⟩
  ·cases h
 ·simp only [Option.some.injEq] at h
  have:=Dz.1 h
  subst this
  exact ⟨rfl,by simp [Instr.sameBits];exact HC _⟩
 ·simp only [Option.some.injEq,beq_iff_eq] at h
  subst h
  exact ⟨rfl,by simp [Instr.sameBits]⟩
 ·cases h
theorem yP {d:TypeDesc} {k v v':Value} (hk:uj d k=true) (hv:VRi ν v v') {es:List (Value × Value × Nat)} {es':List MapEntry} (h:ER ν es es'):∀ {r:List (Value × Value × Nat)} {cl cl':Nat} (i:Nat),qB k v cl es=some (r,cl') ->
  (Instr.findNow d k es' i=some none /\ cl'=cl+1 /\ ER ν r (es'++[⟨k,v',cl⟩])) \/ (∃ j u,Instr.findNow d k es' i=some (some (i+j,u)) /\ cl'=cl /\ (es'[j]?).map (·.key)=some k /\ Instr.sameBits 10000 k k=true /\ ER ν r (es'.modify j λ e=>{ e with key:=k,val:=v' })):=by
 induction h with
 | nil=>intro r cl cl' i h;rw [qB] at h;cases h;exact .inl ⟨rfl,rfl,.cons k cl hv .nil⟩
 | @cons u0 u0' l0 l0' k' b hv0 h0 ih =>
  intro r cl cl' i h
  rw [qB] at h
  split at h
  ·rename_i e
   cases h
   obtain ⟨e1,e2⟩:=FG e hk
   subst e1
   refine .inr ⟨0,u0',?_,rfl,rfl,e2,.cons k' b hv h0⟩
   rw [Instr.findNow];simp only [fZ e hk];rfl
  ·rename_i e
   split at h
   ·rename_i l c hl
    cases h
    rcases ih (i+1) hl with ⟨h1,h2,h3⟩ | ⟨j,u,h1,h2,h3,h4,h5⟩
    ·exact .inl ⟨by rw [Instr.findNow];simp only [fZ e hk];exact h1,h2,.cons k' b hv0 h3⟩
    ·refine .inr ⟨j+1,u,?_,h2,by simpa using h3,h4,by simpa using ER.cons k' b hv0 h5⟩
     rw [Instr.findNow];simp only [fZ e hk];rw [h1];congr 3;omega
   ·cases h
  ·cases h
theorem Am {t:TypeId} {m m' k v v':Value} (hH:HR ν H F w) (hm:VRi ν m m') (hv:VRi ν v v') (h:IG P t H m k v=some H'):pl k=true /\ ∃ w',(Instr.mapUpdate t m' k v').run P w=.ok () w' /\ HR ν H' F w' /\ Below 0 w w':=by
 unfold IG at h
 split at h
 case h_2=>cases h
 rename_i kt et hu
 split at h
 case h_2=>cases h
 rename_i r hk
 split at h
 case h_2=>cases h
 rename_i es cl hb
 split at h
 case h_2=>cases h
 rename_i es2 cl2 hp
 cases h
 obtain ⟨d,hd,hkd⟩:=yN hk
 refine ⟨(qN hkd).1,?_⟩
 cases hm with
 | atom _ h=>simp [cz] at h
 | @map _ b K hν =>
 obtain ⟨es',hw,hE⟩:=hH.map hb hν
 have hg:(getObj b).run P w=.ok (.map es' cl) w:=me hw
 have hf:∀ r,Instr.findNow d k es'.toList 0=some r -> (Instr.findKey kt k es'.toList).run P w=.ok r w:=λ r hr=>by
  unfold Instr.findKey
  rw [Sem.run_bind,aP hd]
  simp only [Result.andThen_ok,hr]
  rfl
 have hlt:=de hw
 have hst:∀ o:Obj,(∃ es c,o=.map es c) -> (setObj b o).run P w=.ok () { w with heap:=w.heap.setIfInBounds b o }:=λ o ho=>by
  obtain ⟨e1,c1,rfl⟩:=ho
  unfold setObj
  rw [Sem.run.eq_def]
  simp only [hw]
  rfl
 have hup:∀ (o:Obj),OR ν K (.map es2 cl2) o -> HR ν (cP H r (some (.map es2 cl2))) F { w with heap:=w.heap.setIfInBounds b o }:=λ o ho=>by
  refine hH.upd (r:=b) (K:=K) hb rfl rfl hν (o':=o) ?_ ho (λ k hk=>?_)
  ·show (w.heap.setIfInBounds b o)[b]?=_
   rw [Array.getElem?_setIfInBounds_self_of_lt hlt]
  ·show (w.heap.setIfInBounds b o)[k]?=_
   rw [Array.getElem?_setIfInBounds_ne (Ne.symm hk)]
 have hB:∀ o:Obj,Below 0 w { w with heap:=w.heap.setIfInBounds b o }:=λ o=>⟨rfl,rfl,rfl,by simp,λ k hk=>by omega⟩
 rcases yP hkd hv hE 0 hp with ⟨h1,h2,h3⟩ | ⟨j,u,h1,h2,h3,h4,h5⟩
 ·refine ⟨_,?_,hup (.map (es'.push ⟨k,v',cl⟩) (cl+1)) ⟨h2.symm,by simpa using h3⟩,hB _⟩
  unfold Instr.mapUpdate
  rw [Sem.run_bind,aP hu]
  simp only [Result.andThen_ok,Sem.run_bind,hg,fK hk,hf _ h1]
  exact hst _ ⟨_,_,rfl⟩
 ·rw [Nat.zero_add] at h1
  refine ⟨_,?_,hup (.map (es'.modify j λ e=>{ e with key:=k,val:=v' }) cl) ⟨h2.symm,by rw [Array.toList_modify];exact h5⟩,hB _⟩
  unfold Instr.mapUpdate
  rw [Sem.run_bind,aP hu]
  simp only [Result.andThen_ok,Sem.run_bind,hg,fK hk,hf _ h1]
  have h6:(es'[j]?).map (·.key)=some k:=by simpa using h3
  rw [h6]
  have h7:(Instr.keyThatStays k k).run P w=.ok k w:=by
   unfold Instr.keyThatStays
   rw [if_pos h4];rfl
  simp only [Option.getD_some,h7,Result.andThen_ok]
  exact hst _ ⟨_,_,rfl⟩
end nw
structure Ext (ν ν':Nu) (n n':Nat):Prop where
 le:n <= n'
 out:∀ h,(h < n \/ n' <= h) -> ν' h=ν h
def Fr (ν:Nu) (n n':Nat):Prop:=∀ h,n <= h -> h < n' -> ν h=none
theorem Ext.sub {ν ν':Nu} {n n':Nat} (h:Ext ν ν' n n') (hf:Fr ν n n'):ν.Le ν':=λ k x hx=>by
 rw [h.out k];exact hx
 rcases Nat.lt_or_ge k n with h1 | h1
 ·exact .inl h1
 ·rcases Nat.lt_or_ge k n' with h2 | h2
  ·rw [hf k h1 h2] at hx;cases hx
  ·exact .inr h2
theorem Ext.refl (ν:Nu) (n:Nat):Ext ν ν n n:=⟨Nat.le_refl _,λ _ _=>rfl⟩
theorem Ext.trans {a b c:Nu} {n m k:Nat} (h:Ext a b n m) (h':Ext b c m k):Ext a c n k :=
 ⟨Nat.le_trans h.le h'.le,λ i hi=>by
  have h1:=h.le
  have h2:=h'.le
  rw [h'.out i (by omega),h.out i (by omega)]⟩
theorem Ext.fr {a b:Nu} {n m k:Nat} (h:Ext a b n m) (hf:Fr a n k) (hm:m <= k):Fr b m k:=λ i h1 h2=>by
 have:=h.le
 rw [h.out i (.inr h1)];exact hf i (by omega) h2
theorem Ext.upd {ν:Nu} {n r K:Nat}:Ext ν (ν.upd n r K) n (n+1):=⟨by omega,λ h hh=>ez (by omega)⟩
section ap
variable {ν ν':Nu} {P:Program} {G N:Nat} {T T':Tr Value} {a:Act} {H H':AH} {F:HL} {w w':World}
structure Effi (P:Program) (ν:Nu) (F:HL) (n:Nat) (s:Sem Value) (w:World) (v:Value) (H':AH) (n':Nat):Prop where
 h:∃ ν' v' w',s.run P w=.ok v' w' /\ VRi ν' v v' /\ Ext ν ν' n n' /\ HR ν' H' F w' /\ Below 0 w w'
theorem lr {k:Nat} {u e':TypeId} {y y':Value} {new:List Value} (hH:HR ν H F w) (hu:P.underlying u=some (.slice e')) (hy:VRi ν y y') (h:pp H k y=some new) :
  ∃ new',LR ν new new' /\ new'.length=dP y * k /\ (jG new=true -> Src P k u y' (dP y) new' w) /\ (Builtin.firstCells k (dP y) y').run P w.drew=.ok new'.toArray w.drew /\ (Builtin.firstCells k (dP y) y').run P w=.ok new'.toArray w:=by
 unfold pp at h
 split at h
 ·split at h
  ·cases h
   rename_i c
   cases hy
   refine ⟨[],.nil,by simp [dP],λ _=>Src.ofNil w hu _,?_,?_⟩
   ·exact run_firstCells_none _ _ _ _ _
   ·exact run_firstCells_none _ _ _ _ _
  ·cases h
 ·rename_i ad n c
  cases hy with
  | atom _ h=>simp [cz] at h
  | @slice hd b K _ c' o _ hν hcap =>
  split at h
  case h_2=>cases h
  rename_i nn tr ty ww ro hs hb
  split at h
  case h_2=>cases h
  rename_i hle
  cases h
  simp only at hb hle
  obtain ⟨cc,ty',fz,hw,hc⟩:=hH.cells hb hν
  have hle':=bP hle
  have hl:=jL hc.le hc.get (n * k) o hle'
  have hcs:=hc.le
  have hlen:((cc.toList.drop o).take (n * k)).length=n * k:=by simp;omega
  have hcell:∀ (W:World),W.heap=w.heap -> ∀ (j:Nat) (u:Value),((cc.toList.drop o).take (n * k))[j]?=some u -> W.cell? ((⟨b,o,none⟩:Addr).add j)=some u:=λ W hW j u hj=>by
   rw [mz,ln (by rw [hW];exact hw)]
   have hjl:=(List.getElem?_eq_some_iff.1 hj).1
   rw [hlen] at hjl
   rw [List.getElem?_take_of_lt hjl,List.getElem?_drop] at hj
   simpa using hj
  refine ⟨_,hl,hlen,λ hf=>Src.ofSlice w hu _ _ _ _ hlen (hcell w rfl) (sX hl hf),?_,?_⟩
  ·exact run_firstCells_some _ _ _ _ _ _ _ hlen (hcell _ rfl)
  ·exact run_firstCells_some _ _ _ _ _ _ _ hlen (hcell _ rfl)
 ·cases h
theorem HR.del' (hH:HR ν H F w) {h r K:Nat} {b0:AB} (hb:bO H h=some b0) (hw0:FB b0=true) (hν:ν h=some (r,K)) (hs:∀ k,k ≠ r -> w'.heap[k]?=w.heap[k]?):HR ν (cP H h none) F w':=by
 have old:∀ k b,bO (cP H h none) k=some b -> bO H k=some b /\ k ≠ h:=λ k b hk=>by
  rw [dq] at hk
  split at hk
  ·cases hk
  ·rename_i e;exact ⟨hk,Ne.symm e⟩
 refine ⟨λ k b hk=>?_,λ k1 k2 b1 b2 q K1 K2 h1 h2 h3 h4=>hH.inj _ _ _ _ _ _ _ (old _ _ h1).1 (old _ _ h2).1 h3 h4,λ x hx=>?_,λ k b q K hk=>hH.apt k b q K (old k b hk).1⟩
 ·obtain ⟨h1,h2⟩:=old k b hk
  obtain ⟨q,K',o,g1,g2,g3⟩:=hH.blk k b h1
  refine ⟨q,K',o,g1,?_,g3⟩
  rw [hs q,g2]
  intro e
  subst e
  exact h2 (hH.inj _ _ _ _ _ _ _ h1 hb g1 hν)
 ·rw [hs _ (hH.apt _ _ _ _ hb hν x hx)]
  exact hH.frm x hx
theorem K7 (need old:Nat) (h:old < need):Builtin.nextslicecap need old <= 2 * need+192:=by
 unfold Builtin.nextslicecap
 split
 ·omega
 ·split
  ·omega
  ·have:Builtin.growBy need 4 old <= need+need / 4+192:=by
    simp only [Builtin.growBy]
    repeat' split
    all_goals omega
   omega
theorem wK {t u ty el e':TypeId} {inf:TypeInfo} {n len cap c':Nat} {base base':Option Addr} {y y':Value} {new:List Value} {v:Value} {n':Nat} (hH:HR ν H F w) (ht:P.underlying t=some (.slice el)) (hu:P.underlying u=some (.slice e')) (hi:P.info? el=some inf)
  (hx:VRi ν (.slice base len cap) (.slice base' len c')) (hy:VRi ν y y') (hsrc:pp H inf.size y=some new) (hfl:jG new=true) (hroom:len+dP y <= c') (h:qC H n inf.size len (dP y) cap base new=some (.val v H' n')) :
  Effi P ν F n (Builtin.append_ #[t,u] ty #[.slice base' len c',y']) w v H' n':=by
 obtain ⟨new',hl,hlen,hS,-,-⟩:=lr hH hu hy hsrc
 have hS2:=hS hfl
 unfold qC at h
 split at h
 ·rename_i ad
  split at h
  ·rename_i hsp
   split at h
   ·rename_i H2 hp
    cases h
    cases hx with
    | atom _ h=>simp [cz] at h
    | @slice hd b K _ _ o _ hν hcap =>
    obtain ⟨q1,q2,q3,q4,q5⟩:=oh hH hν hl hp
    have hrun:=run_append_room_src (P:=P) w t u ty el inf ht hi b o len c' y' (dP y) new' hS2 hroom q1 q2
    exact ⟨ν,_,_,hrun,.slice _ _ hν hcap,.refl _ _,q4,q5⟩
   ·cases h
  ·cases h
 ·split at h
  ·cases h
   cases hx with
   | atom _ _ =>
   cases hl
   have hS3:=hS hfl
   have hz:(Builtin.firstCells inf.size (dP y) y').run P w=.ok #[] w:=hS3.cells
   refine ⟨ν,.slice none (len+dP y) cap,w,?_,.atom _ rfl,.refl _ _,hH,Below.refl _ _⟩
   rcases hS3.kind with ⟨e',hk⟩ | hk <;> simp [Builtin.append_,run_underlying ht,run_underlying hk,sizeOf,typeInfo,hi,hS3.len,hz,hroom]
  ·cases h
theorem sZ {t u ty el e':TypeId} {inf:TypeInfo} {z:List Value} {n len cap c':Nat} {base base':Option Addr} {y y':Value} {old new:List Value} {v:Value} {n':Nat} (hH:HR ν H F w) (ht:P.underlying t=some (.slice el)) (hu:P.underlying u=some (.slice e')) (hi:P.info? el=some inf) (hz:kr P el=some z) (hzl:z.length=inf.size) (hsz:0 < inf.size)
  (hx:VRi ν (.slice base len cap) (.slice base' len c')) (hy:VRi ν y y') (hsrc:pp H inf.size y=some new) (hfl:jG new=true) (hold:pp H inf.size (.slice base len cap)=some old) (hroom:c' < len+dP y) (hb1:len+dP y < 1000000) (hb2:inf.bytes < 1000001) (hn:ν n=none)
  (Hd:AH) (hd:∀ ν' w',HR ν' H F w' -> HR ν' Hd F w') (h:iH Hd n inf.size len (dP y) el old new=.val v H' n') :
  Effi P ν F n (Builtin.append_ #[t,u] ty #[.slice base' len c',y']) w v H' n':=by
 obtain ⟨new',hl,hlen,hS,-,-⟩:=lr hH hu hy hsrc
 obtain ⟨old',hl2,hlen2,-,hold',-⟩:=lr hH ht hx hold
 have hS:=hS hfl
 obtain ⟨zv,g1,g2,g3,i,g4,g5⟩:=jK (ν:=ν) hz
 rw [hi] at g4
 cases g4
 have hfit:Builtin.nextslicecap (len+dP y) c' * inf.bytes <= 281474976710656:=by
  have h1:=K7 (len+dP y) c' hroom
  have h2:Builtin.nextslicecap (len+dP y) c' * inf.bytes <= 2000192 * 1000000:=Nat.mul_le_mul (by omega) (by omega)
  omega
 have hrun:=run_append_grow_src (P:=P) w t u ty el inf zv ht hi g5 base' len c' old' hold' y' (dP y) new' hS hroom (by omega) hfit
 have hge:=grownCap_ge w (len+dP y) c' el
 generalize grownCap w (len+dP y) c' el=K at *
 unfold iH at h
 cases h
 refine ⟨ν.upd n w.heap.size K,_,_,hrun,?_,.upd,?_,⟨rfl,rfl,rfl,by simp,λ k hk=>by omega⟩⟩
 ·exact .slice _ _ cm ⟨λ e=>by unfold lm at e;omega,λ e=>by omega⟩
 ·have hd1:HR ν Hd F w:=hd _ _ hH
  refine hd1.new hn (K:=K) ?_ (by rw [jN];rfl) (o:=.cells ((old'++new').toArray++Builtin.zeroCells zv.cells (K - (len+dP y))) el) rfl
  rw [jN]
  have hcr:=J0 (ty:=el) (ww:=inf.size) (K:=K) (rest:=(Builtin.zeroCells zv.cells (K - (len+dP y))).toList) (hl2.append hl) (λ _=>by
   simp only [List.length_append,hlen,hlen2,Builtin.zeroCells,Array.toList_map,List.length_map,Array.toList_range,List.length_range,g2]
   have hlv:dP (Value.slice base len cap)=len:=rfl
   rw [hlv]
   have:(⟨z⟩:Array Value).size=inf.size:=by simpa using hzl
   rw [this,<- Nat.add_mul,<- Nat.add_mul]
   congr 1
   omega)
  have e:((old'++new').toArray++Builtin.zeroCells zv.cells (K - (len+dP y)))=⟨(old'++new')++(Builtin.zeroCells zv.cells (K - (len+dP y))).toList⟩:=by apply Array.ext';simp
  rw [e]
  exact hcr
end ap
section ap
variable {ν ν':Nu} {P:Program} {G N:Nat} {T T':Tr Value} {a:Act} {H H':AH} {F:HL} {w w':World}
theorem ku {a b:Nat} (h:Nat.blt a b=false):b <= a:=by
 rcases Nat.lt_or_ge a b with e | e
 ·have:Nat.blt a b=true:=Nat.ble_eq_true_of_le e
  rw [this] at h;cases h
 ·exact e
theorem kw {a b:Nat} (h:Nat.ble a b=false):b < a:=by
 rcases Nat.lt_or_ge b a with e | e
 ·exact e
 ·have:Nat.ble a b=true:=Nat.ble_eq_true_of_le e
  rw [this] at h;cases h
theorem IM {t u ty el e':TypeId} {inf:TypeInfo} {z:List Value} {n len cap:Nat} {ad:Addr} {x' y y':Value} {new:List Value} {v:Value} {n':Nat} (hH:HR ν H F w) (ht:P.underlying t=some (.slice el)) (hu:P.underlying u=some (.slice e')) (hi:P.info? el=some inf) (hz:kr P el=some z) (hzl:z.length=inf.size) (hsz:0 < inf.size)
  (hx:VRi ν (.slice (some ad) len cap) x') (hy:VRi ν y y') (hsrc:pp H inf.size y=some new) (hfl:jG new=true) (hb1:len+dP y < 1000000) (hb2:inf.bytes < 1000001) (hcap:lm <= cap) (hn:Fr ν n n') (h:Fi H n inf.size len (dP y) cap ad el new=some (.val v H' n')) :
  Effi P ν F n (Builtin.append_ #[t,u] ty #[x',y']) w v H' n':=by
 cases hx with
 | atom _ h=>simp [cz] at h
 | @slice hd b K _ c' o _ hν hc =>
 unfold Fi at h
 split at h
 case h_2=>cases h
 rename_i nn ww tyy hsp ho hcu hwid
 simp only at ho
 subst ho
 have hcap2:cap=lm:=Nat.eq_of_beq_eq_true hcu
 have hc':=hc.2 hcap
 rw [hcap2,Nat.sub_self,Nat.add_zero] at hc'
 unfold N6 at hwid
 split at hwid
 case h_2=>cases hwid
 rename_i nn' tr ty' ww' hb
 simp only [Option.some.injEq,Prod.mk.injEq] at hwid
 obtain ⟨e1,e2,e3⟩:=hwid
 subst e1;subst e2;subst e3
 simp only at hb
 obtain ⟨c,ty2,fz,hw,hcr⟩:=hH.cells hb hν
 split at h
 case h_2=>cases h
 rename_i hwk hlk hty
 have hty':ty'=el:=Nat.eq_of_beq_eq_true hty
 have hwk':ww'=inf.size:=Nat.eq_of_beq_eq_true hwk
 have hlk':=bP hlk
 have hsize:=hcr.gr (by omega)
 rw [hwk'] at hsize
 have hle:=hcr.le
 split at h
 ·rename_i hin
  have hin':=bP hin
  have:(len+dP y) * inf.size <= K * inf.size:=by omega
  have hroom:=Nat.le_of_mul_le_mul_right this hsz
  exact wK hH ht hu hi (.slice 0 len hν hc) hy hsrc hfl (by omega) h
 ·rename_i hin
  have hin':=kw hin
  split at h
  case h_2=>cases h
  rename_i old hold
  have hval:iH (cP H hd none) n inf.size len (dP y) el old new=.val v H' n':=by simpa using h
  have hn':ν n=none:=by
   unfold iH at hval
   cases hval
   exact hn n (Nat.le_refl _) (by omega)
  by_cases hroom:len+dP y <= c'
  ·obtain ⟨new',hl,hlen,hS,-,-⟩:=lr hH hu hy hsrc
   obtain ⟨old',hl2,hlen2,-,-,hold'⟩:=lr hH ht (.slice 0 len hν hc) hold
   have hS:=hS hfl
   have hfit:(len+dP y) * inf.size <= c.size:=by
    rw [hsize];exact Nat.mul_le_mul_right _ (by omega)
   have hcell:∀ j,j < new'.length -> (w.cell? ⟨b,0+len * inf.size+j,none⟩).isSome=true:=λ j hj=>by
    rw [ln hw,Array.getElem?_eq_getElem (by rw [hlen] at hj;rw [Nat.add_mul] at hfit;omega)];rfl
   have hfrz:∀ j,j < new'.length -> w.frozen? ⟨b,0+len * inf.size+j,none⟩=false:=λ j hj=>by
    obtain ⟨lo,hi⟩:=fz
    have:=hcr.fz
    cases this
    simp [World.frozen?,hw]
   have hrun:=run_append_room_src (P:=P) w t u ty el inf ht hi b 0 len c' y' (dP y) new' hS hroom hcell hfrz
   obtain ⟨c2,e1,e2,e3⟩:=kU b new' (0+len * inf.size) w hw
   unfold iH at hval
   cases hval
   have hdel:HR ν (cP H hd none) F (w.setCells b (0+len * inf.size) new'):=hH.del' hb rfl hν (λ k hk=>gH b _ _ _ _ hk)
   refine ⟨ν.upd n b K,_,_,hrun,?_,.upd,?_,gI _ _ _ _⟩
   ·exact .slice _ _ cm ⟨λ e=>by unfold lm at e;omega,λ e=>by omega⟩
   ·refine hdel.add hn' e1 ?_ (by rw [jN];rfl) (λ x hx=>hH.apt _ _ _ _ hb hν x hx) (λ k b' K' hk e=>?_)
    ·rw [jN]
     have hold2:∀ i,i < len * inf.size -> c[i]?=old'[i]?:=λ i hi=>by
      have hlv:dP (Value.slice (some ⟨hd,0,none⟩) len cap)=len:=rfl
      rw [hlv] at hlen2 hold'
      have hcells:((c.toList.drop 0).take (len * inf.size)).length=len * inf.size:=by simp;omega
      have h2:=run_firstCells_some (P:=P) w inf.size len ⟨b,0,none⟩ len c' ((c.toList.drop 0).take (len * inf.size)) hcells (λ j u hj=>by
       rw [mz,ln hw]
       have hjl:=(List.getElem?_eq_some_iff.1 hj).1
       rw [hcells] at hjl
       rw [List.getElem?_take_of_lt hjl,List.getElem?_drop] at hj
       simpa using hj)
      rw [h2] at hold'
      simp only [Result.ok.injEq,and_true] at hold'
      have h3:old'=(c.toList.drop 0).take (len * inf.size):=by
       have:=congrArg Array.toList hold'
       simpa using this.symm
      rw [h3,List.getElem?_take_of_lt hi]
      simp
     have hlv:dP (Value.slice (some ⟨hd,0,none⟩) len cap)=len:=rfl
     rw [hlv] at hlen2
     have hlo:old.length=len * inf.size:=by rw [<- hlen2,hl2.length]
     have hln:new.length=dP y * inf.size:=by rw [<- hlen,hl.length]
     refine ⟨hcr.ty.trans hty',?_,hcr.fz,λ i hi=>?_,λ _=>by rw [e2,hsize]⟩
     ·rw [e2,List.length_append,hlo,hln,<- Nat.add_mul];exact hfit
     ·have hi2:i < (len+dP y) * inf.size:=by rw [List.length_append,hlo,hln,<- Nat.add_mul] at hi;exact hi
      obtain ⟨v',g1,g2⟩:=(hl2.append hl).get (List.getElem?_eq_getElem hi)
      refine ⟨v',?_,by rw [kT hi];exact g2⟩
      rw [e3 i (by omega),<- g1]
      by_cases h1:i < len * inf.size
      ·rw [dif_neg (by omega),hold2 i h1,List.getElem?_append_left (by omega)]
      ·rw [dif_pos ⟨by omega,by rw [hlen];rw [Nat.add_mul] at hi2;omega⟩,List.getElem?_append_right (by omega),hlen2]
       rw [<- List.getElem?_eq_getElem]
       congr 1;omega
    ·rw [dq] at hk
     split at hk
     ·cases hk
     ·rename_i hne
      exact hne (hH.inj _ _ _ _ _ _ _ hb hk hν e)
  ·exact sZ hH ht hu hi hz hzl hsz (.slice 0 len hν hc) hy hsrc hfl hold (by omega) hb1 hb2 hn' (cP H hd none) (λ ν' w' h'=>h'.del hd) hval
def HEq (H H':AH):Prop:=∀ h,bO H' h=bO H h \/ ∃ n t t' ty w ro,bO H h=some (.cells n t ty w ro) /\ bO H' h=some (.cells n t' ty w ro) /\ ∀ i,i < n -> cQ t' i=cQ t i
theorem HR.heq (h:HR ν H F w) (e:HEq H H'):HR ν H' F w:=by
 have back:∀ k b,bO H' k=some b -> ∃ b0,bO H k=some b0 /\ ∀ K o,OR ν K b0 o -> OR ν K b o:=λ k b hk=>by
  rcases e k with e1 | ⟨n,t,t',ty,wd,ro,e1,e2,e3⟩
  ·rw [e1] at hk;exact ⟨b,hk,λ _ _ h=>h⟩
  ·rw [e2] at hk
   cases hk
   refine ⟨_,e1,λ K o ho=>?_⟩
   cases o with
   | cells c ty' fz =>
    have ho:CR ν K n t ty wd c ty' fz:=ho
    exact (⟨ho.ty,ho.le,ho.fz,λ i hi=>by obtain ⟨v',g1,g2⟩:=ho.get i hi;exact ⟨v',g1,by rw [e3 i hi];exact g2⟩,ho.gr⟩:CR ν K n t' ty wd c ty' fz)
   | _=>exact ho
 refine ⟨λ k b hk=>?_,λ h₁ h₂ b₁ b₂ r K₁ K₂ g1 g2=>?_,h.frm,λ k b r K hk=>?_⟩
 ·obtain ⟨b0,g1,g2⟩:=back k b hk
  obtain ⟨r,K,o,g3,g4,g5⟩:=h.blk k b0 g1
  exact ⟨r,K,o,g3,g4,g2 K o g5⟩
 ·obtain ⟨c1,d1,-⟩:=back _ _ g1
  obtain ⟨c2,d2,-⟩:=back _ _ g2
  exact h.inj _ _ _ _ _ _ _ d1 d2
 ·obtain ⟨b0,g1,g2⟩:=back k b hk
  exact h.apt k b0 r K g1
theorem ga (t:Tr Value):∀ (k i:Nat),(gx t i k).length=k
 | 0,_=>rfl
 | k+1,i=>by simp [gx,ga t k]
theorem s0 (t:Tr Value):∀ (k i j:Nat),j < k -> (gx t i k)[j]?=some (cQ t (i+j))
 | 0,_,_,h=>absurd h (by omega)
 | k+1,i,j,h=>by
  cases j with
  | zero=>simp [gx]
  | succ j=>simp only [gx,List.getElem?_cons_succ];rw [s0 t k (i+1) j (by omega)];congr 2;omega
theorem FH (tr:Tr Value) (i:Nat) (new:List Value) (el:TypeId) (k:Nat):Fj tr i new el k=.cells (i+new.length) (jZ tr i new) el k false:=by
 unfold Fj
 split <;> rename_i h <;> rw [h,dW]
theorem CE {n k len add cap:Nat} {ad:Addr} {el:TypeId} {new:List Value} {v:Value} {n':Nat} (h:sN H n k len add cap ad el new=some (.val v H' n')):∃ H0,Fi H n k len add cap ad el new=some (.val v H0 n') /\ HEq H0 H':=by
 unfold sN at h
 split at h
 case h_2=>cases h
 rename_i nn tr ty w hsp ho hcu hb
 split at h
 case h_2=>cases h
 rename_i h1 h2 h3
 have hwid:N6 H ad=some (nn,w,ty):=by unfold N6;rw [hb]
 split at h
 ·rename_i hin
  refine ⟨H',?_,λ h=>.inl rfl⟩
  unfold Fi
  rw [hsp,ho,hcu,hwid]
  simp only [h1,h2,h3,hin]
  exact h
 ·rename_i hin
  cases h
  refine ⟨cP (cP H ad.block none) n (some (uh (gx tr 0 (len * k)++new) el k)),?_,λ h=>?_⟩
  ·unfold Fi
   rw [hsp,ho,hcu,hwid]
   simp only [h1,h2,h3,hin,pp,hsp,hb,ho,Nat.zero_add]
   rfl
  ·by_cases hh:n=h
   ·refine .inr ⟨(gx tr 0 (len * k)++new).length,dD undef (gx tr 0 (len * k)++new) 0 .lf,jZ tr (len * k) new,el,k,false,by rw [dq,if_pos hh,jN],?_,λ i hi=>?_⟩
    ·rw [dq,if_pos hh,FH,List.length_append,ga]
    ·rw [kT hi,qQ]
     rw [List.length_append,ga] at hi
     split
     ·rename_i hj
      rw [List.getElem_append_right (by rw [ga];omega)]
      congr 1
      rw [ga]
     ·rename_i hj
      have hi2:i < len * k:=by omega
      rw [List.getElem_append_left (by rw [ga];exact hi2)]
      have:=s0 tr (len * k) 0 i hi2
      rw [Nat.zero_add] at this
      rw [List.getElem?_eq_getElem (by rw [ga];exact hi2)] at this
      exact (Option.some.inj this).symm
   ·exact .inl ((dq _ _ _ _).trans ((if_neg hh).trans ((if_neg hh).symm.trans (dq _ _ _ _).symm)))
theorem FI {t u ty el e':TypeId} {inf:TypeInfo} {z:List Value} {n len cap:Nat} {ad:Addr} {x' y y':Value} {new:List Value} {v:Value} {n':Nat} (hH:HR ν H F w) (ht:P.underlying t=some (.slice el)) (hu:P.underlying u=some (.slice e')) (hi:P.info? el=some inf) (hz:kr P el=some z) (hzl:z.length=inf.size) (hsz:0 < inf.size)
  (hx:VRi ν (.slice (some ad) len cap) x') (hy:VRi ν y y') (hsrc:pp H inf.size y=some new) (hfl:jG new=true) (hb1:len+dP y < 1000000) (hb2:inf.bytes < 1000001) (hcap:lm <= cap) (hn:Fr ν n n') (h:sN H n inf.size len (dP y) cap ad el new=some (.val v H' n')) :
  Effi P ν F n (Builtin.append_ #[t,u] ty #[x',y']) w v H' n':=by
 obtain ⟨H0,h1,h2⟩:=CE h
 obtain ⟨ν',a,b,g1,g2,g3,g4,g5⟩:=IM hH ht hu hi hz hzl hsz hx hy hsrc hfl hb1 hb2 hcap hn h1
 exact ⟨ν',a,b,g1,g2,g3,g4.heq h2,g5⟩
theorem IO {t u ty el e':TypeId} {n:Nat} {x x' y y':Value} {v:Value} {n':Nat} (hH:HR ν H F w) (ht:P.underlying t=some (.slice el)) (hu:P.underlying u=some (.slice e')) (hx:VRi ν x x') (hy:VRi ν y y') (hn:Fr ν n n') (h:wi P H n el x y=some (.val v H' n')) :
  Effi P ν F n (Builtin.append_ #[t,u] ty #[x',y']) w v H' n':=by
 unfold wi at h
 split at h
 case h_2=>cases h
 rename_i inf z hi hz
 split at h
 case h_2=>cases h
 rename_i k by_ base len cap hk hby
 have hk:inf.size=k+1:=hk
 have hby:inf.bytes=by_+1:=hby
 split at h
 case h_2=>cases h
 rename_i new hsrc hzl hb1 hb2
 rw [<- hk] at hsrc hzl h
 have hzl':z.length=inf.size:=by rw [dW] at hzl;exact Nat.eq_of_beq_eq_true hzl
 have hb1':=dE hb1
 have hb2':=dE hb2
 split at h
 ·rename_i hfl hcu
  have hcu':=dE hcu
  have hreal:∃ base',x'=.slice base' len cap /\ VRi ν (.slice base len cap) (.slice base' len cap):=by
   cases hx with
   | atom _ h=>exact ⟨_,rfl,.atom _ h⟩
   | slice o _ hν hc=>obtain rfl:=hc.1 hcu';exact ⟨_,rfl,.slice o _ hν hc⟩
  obtain ⟨base',rfl,hr⟩:=hreal
  split at h
  ·rename_i hin
   exact wK hH ht hu hi hr hy hsrc hfl (bP hin) h
  ·rename_i hin
   split at h
   ·rename_i old hold
    have hval:iH H n inf.size len (dP y) el old new=.val v H' n':=by simpa using h
    have hn':ν n=none:=by
     have hv2:=hval
     unfold iH at hv2
     cases hv2
     exact hn n (Nat.le_refl _) (by omega)
    exact sZ hH ht hu hi hz hzl' (by omega) hr hy hsrc hfl hold (kw hin) hb1' (by omega) hn' H (λ _ _ h=>h) hval
   ·cases h
 ·rename_i hfl hcu
  split at h
  ·exact FI hH ht hu hi hz hzl' (by omega) hx hy hsrc hfl hb1' (by omega) (ku hcu) hn h
  ·cases h
 ·cases h
end ap
inductive TgR (ν:Nu):Target -> Target -> Prop
 | fn {f f':Fn} {c c':Array Value}:FnR ν f f' -> LR ν c.toList c'.toList -> TgR ν (.fn f c) (.fn f' c')
 | coll {h b K:Nat}:ν h=some (b,K) -> TgR ν (.collected h) (.collected b)
structure DR (ν:Nu) (d d':Deferred):Prop where
 t:TgR ν d.target d'.target
 a:LR ν d.args.toList d'.args.toList
def OL (P:Program) (ν:Nu) (F:HL) (n:Nat) (s:Sem Next) (w:World):AN -> Prop
 | .val v H' n'=>∃ ν' v' w' r,s.run P w=.ok r w' /\ (r=.value v' \/ (r=.skip /\ v'=undef)) /\ VRi ν' v v' /\ Ext ν ν' n n' /\ HR ν' H' F w' /\ Below 0 w w'
 | .ent f args=>∃ args',s.run P w=.ok (.enter f ⟨args'⟩) w /\ LR ν args args'
 | .rnd l args=>∃ b K args',ν l=some (b,K) /\ LR ν args args' /\ s.run P w=(Instr.yield b ⟨args'⟩).run P w
 | .dfr d=>∃ d',s.run P w=.ok (.defer d') w /\ DR ν d d'
 | .rcv=>s.run P w=.ok .recover w
section ap
variable {ν ν':Nu} {P:Program} {G N:Nat} {T T':Tr Value} {a:Act} {H H':AH} {F:HL} {w w':World}
theorem TgR.mono {t t':Target} (h:TgR ν t t') (hl:ν.Le ν'):TgR ν' t t':=by
 cases h with
 | fn h1 h2=>exact .fn (h1.mono hl) (h2.mono hl)
 | coll h=>exact .coll (hl _ _ h)
theorem DR.mono {d d':Deferred} (h:DR ν d d') (hl:ν.Le ν'):DR ν' d d':=⟨h.t.mono hl,h.a.mono hl⟩
theorem qS {fn:Fn} {f c:Array Value} {v':Value} (h:VRi ν (.func fn f c) v'):∃ fn' f' c',v'=.func fn' f' c' /\ FnR ν fn fn' /\ LR ν f.toList f'.toList /\ LR ν c.toList c'.toList:=by
 cases h with
 | atom _ h=>simp [cz] at h
 | func h1 h2 h3 h4 h5=>exact ⟨_,_,_,rfl,h1,.of_arr h2 h3,.of_arr h4 h5⟩
theorem FJ {t u ty el:TypeId} {n:Nat} {x x' y y':Value} {v:Value} {n':Nat} (hH:HR ν H F w) (ht:P.underlying t=some (.slice el)) (hx:VRi ν x x') (hy:VRi ν y y') (h:wj P H n el x y=some (.val v H' n')) :
  Effi P ν F n (Builtin.copy_ #[t,u] ty #[x',y']) w v H' n':=by
 unfold wj at h
 split at h
 case h_2=>cases h
 rename_i k hk
 split at h
 case h_2=>cases h
 rename_i ad dl cx b sl cc
 split at h
 case h_2=>cases h
 rename_i vs hsp hsrc
 split at h
 case h_2=>cases h
 rename_i H2 hp
 cases h
 cases hx with
 | atom _ h=>simp [cz] at h
 | @slice hd bb K _ c' o _ hν hc =>
 have hy2:∃ b',y'=.slice b' sl (match y' with | .slice _ _ c=>c | _=>0) /\ ∀ c,VRi ν (.slice b (Nat.min sl dl) c) (.slice b' (Nat.min sl dl) c) \/ b ≠ none:=by
  cases hy with
  | atom _ h=>cases b with
   | none=>exact ⟨none,rfl,λ c=>.inl (.atom _ rfl)⟩
   | some _=>simp [cz] at h
  | slice o n hν hc=>exact ⟨_,rfl,λ c=>.inr (by simp)⟩
 have hfc:∃ vs',LR ν vs vs' /\ (Builtin.firstCells k (Nat.min sl dl) y').run P w=.ok vs'.toArray w:=by
  have hyy:∃ yy,VRi ν (.slice b (Nat.min sl dl) cc) yy /\ (Builtin.firstCells k (Nat.min sl dl) y').run P w=(Builtin.firstCells k (Nat.min sl dl) yy).run P w:=by
   cases hy with
   | atom _ h=>cases b with
    | none=>exact ⟨.slice none (Nat.min sl dl) cc,.atom _ rfl,rfl⟩
    | some _=>simp [cz] at h
   | slice o n hν hc=>exact ⟨_,.slice o _ hν hc,rfl⟩
  obtain ⟨yy,h1,h2⟩:=hyy
  obtain ⟨vs',q1,q2,q3,q4,q5⟩:=lr (u:=t) hH ht h1 hsrc
  exact ⟨vs',q1,by rw [h2];exact q5⟩
 obtain ⟨vs',hl,hfc⟩:=hfc
 obtain ⟨q1,q2,q3,q4,q5⟩:=oh hH hν hl hp
 obtain ⟨b',hy3,-⟩:=hy2
 have hst:=run_storeCells_cells (P:=P) bb o vs' 0 w (by simpa using q1) (by simpa using q2) q3
 refine ⟨ν,.int .i64 ((Nat.min sl dl:Nat):Int),_,?_,.atom _ rfl,.refl _ _,q4,q5⟩
 have hlen:∀ W,(Builtin.lenOf y').run P W=.ok sl W:=λ W=>by rw [hy3];rfl
 have hs:=d6 hk w
 unfold Builtin.copy_
 simp only [List.getElem?_toArray,List.getElem?_cons_zero,List.getElem?_cons_succ]
 rw [Sem.run_bind,aP ht]
 simp only [Result.andThen_ok,Sem.run_bind,hlen,hs,hfc]
 simp only [Nat.add_zero] at hst
 rw [hst]
 rfl
theorem gT {f:FuncId} {args:Array Value} (h:qD P f=true) (w:World):(callFunc f args).run P w=.ok (.enter f args) w:=by
 unfold qD at h
 split at h
 ·rename_i fn hf
  rw [Bool.and_eq_true] at h
  obtain ⟨h1,h2⟩:=h
  unfold callFunc
  rw [mQ]
  simp only [hf]
  rw [if_neg (by simpa using h1),if_neg (by cases hb:fn.body <;> simp [hb] at h2 ⊢)]
  rfl
 ·cases h
theorem mC {c:Call} {f:Operand} {ty:TypeId} {fn:Fn} {f1 c1:Array Value} {ρ:Operand -> Value} (hc:c.callee=.value f) (hf:ρ f=.func fn f1 c1) (w:World):(resolve ρ c ty).run P w=.ok { target:=.fn fn c1,args:=f1++c.args.map ρ } w:=by
 unfold resolve
 rw [hc]
 simp only [hf,Deferred.ofValue]
 rfl
theorem FK {n:Nat} {c:Call} {x:AN} (h:Fk P H n c T=some x):∃ v H' n',x=.val v H' n':=by
 unfold Fk wi sN qC iH at h
 repeat' split at h
 all_goals first
  | (cases h;done)
  | (cases h;exact ⟨_,_,_,rfl⟩)
theorem CF {n:Nat} {c:Call} {x:AN} (h:wl P H n c T=some x):∃ v H' n',x=.val v H' n':=by
 unfold wl wj at h
 repeat' split at h
 all_goals first
  | (cases h;done)
  | (cases h;exact ⟨_,_,_,rfl⟩)
theorem An {n n':Nat} {s:Sem Value} {s':Sem Next} {v:Value} (h:Effi P ν F n s w v H' n') (e:s'.run P w=(do pure (.value (<- s)):Sem Next).run P w):OL P ν F n s' w (.val v H' n'):=by
 obtain ⟨ν',v',w',h1,h2,h3,h4,h5⟩:=h
 refine ⟨ν',v',w',.value v',?_,.inl rfl,h2,h3,h4,h5⟩
 rw [e,Sem.run_bind,h1]
 rfl
theorem CG {t:TypeId} {name:String} {f:FuncId} {v:Value} (h:Fl P t name=some f) (w:World):(method (P.types.size+Made.depth) t v name).run P w=.ok (f,v) w:=by
 unfold Fl at h
 split at h
 case h_2=>cases h
 rename_i i hi hpos
 split at h
 case h_2=>cases h
 rename_i m hm
 obtain ⟨k,hk⟩:∃ k,P.types.size+Made.depth=k+1:=⟨_,(Nat.succ_pred_eq_of_pos (dE hpos)).symm⟩
 rw [hk]
 have hfol:m.path.toList=[] -> (follow m.path.toList t (.val v)).run P w=.ok (t,.val v) w:=λ e=>by rw [e];rfl
 split at h
 ·rename_i g e hp hf hu
  cases h
  unfold method
  rw [Sem.run_bind,dX hi]
  simp only [Result.andThen_ok,hm]
  rw [Sem.run_bind,hfol hp]
  simp only [Result.andThen_ok,hf]
  rw [Sem.run_bind]
  have:∀ wr,(receiverAt t (.val v) true wr).run P w=.ok v w:=λ wr=>by
   unfold receiverAt
   rw [Sem.run_bind,aP hu]
   rfl
  rw [this]
  rfl
 ·cases h
 ·rename_i g d hnp hp hf hu
  cases h
  unfold method
  rw [Sem.run_bind,dX hi]
  simp only [Result.andThen_ok,hm]
  rw [Sem.run_bind,hfol hp]
  simp only [Result.andThen_ok,hf]
  rw [Sem.run_bind]
  have:∀ wr,(receiverAt t (.val v) false wr).run P w=.ok v w:=λ wr=>by
   unfold receiverAt
   rw [Sem.run_bind,aP hu]
   simp only [Result.andThen_ok]
   cases d <;> first | rfl | exact (hnp _ rfl).elim
  rw [this]
  rfl
 ·cases h
theorem IP {o:Oper} {n:Nat} {x:AN} (hH:HR ν H F w) (h:mw P o T H n=some x) {l:List Operand} (hl:iG o.op=some l) (hok:OK ν T a l) (hn:∀ v H' n',x=.val v H' n' -> Fr ν n n'):OL P ν F n (execOp a.eval o) w x:=by
 unfold mw at h
 split at h
 ·rename_i t p y ho
  rw [ho] at hl;simp only [iG,cf,Option.some.injEq] at hl;subst hl
  have hp:=hok p (by simp)
  split at h
  ·rename_i ad e
   split at h
   ·rename_i H2 hs
    cases h
    rw [e] at hp
    generalize hu:a.eval p=u at hp
    have hp2:=hp
    cases hp with
    | atom _ h=>simp [cz] at h
    | ptr o h =>
     obtain ⟨w',q1,q2,q3⟩:=CD hH hp2 (hok y (by simp)) hs
     refine ⟨ν,undef,w',.skip,?_,.inr ⟨rfl,rfl⟩,VRi.undef,.refl _ _,q2,q3⟩
     simp [execOp,ho,Instr.storeAt,Instr.sureAddr,hu,Sem.run_bind,q1]
   ·cases h
  ·cases h
 ·rename_i t m k y ho
  rw [ho] at hl;simp only [iG,cf,Option.some.injEq] at hl;subst hl
  split at h
  ·rename_i H2 hs
   cases h
   obtain ⟨hp,w',q1,q2,q3⟩:=Am hH (hok m (by simp)) (hok y (by simp)) hs
   have hk:=(hok k (by simp)).plain_eq hp
   refine ⟨ν,undef,w',.skip,?_,.inr ⟨rfl,rfl⟩,VRi.undef,.refl _ _,q2,q3⟩
   simp [execOp,ho,hk,Sem.run_bind,q1]
  ·cases h
 ·rename_i t m k y ho
  rw [ho] at hl;simp only [iG,cf,Option.some.injEq] at hl;subst hl
  split at h
  ·rename_i H2 hs
   cases h
   obtain ⟨hp,w',q1,q2,q3⟩:=Am hH (hok m (by simp)) (hok y (by simp)) hs
   have hk:=(hok k (by simp)).plain_eq hp
   refine ⟨ν,undef,w',.skip,?_,.inr ⟨rfl,rfl⟩,VRi.undef,.refl _ _,q2,q3⟩
   simp [execOp,ho,hk,Sem.run_bind,q1]
  ·cases h
 ·rename_i c ho
  split at h
  case h_2=>cases h
  rename_i f hc
  split at h
  case h_2=>cases h
  rename_i fn first captured e
  cases h
  rw [ho] at hl
  simp only [iG,hc,Option.some.injEq] at hl
  subst hl
  have hf:=hok f (by simp)
  rw [e] at hf
  obtain ⟨fn',f',c',e',r1,r2,r3⟩:=qS hf
  have ha:=kS (l:=c.args.toList) (λ x hx=>hok x (List.mem_cons_of_mem _ hx))
  refine ⟨{ target:=.fn fn' c',args:=f'++c.args.map a.eval },?_,⟨.fn r1 r3,?_⟩⟩
  ·unfold Go.execOp
   rw [ho]
   simp only
   rw [Sem.run_bind,mC hc e']
   rfl
  ·simpa using r2.append ha
 ·rename_i c ho
  split at h
  ·rename_i f hc
   have hl2:l=f :: c.args.toList:=by
    rw [ho] at hl
    simp only [iG,cf,hc,Option.some.injEq] at hl
    rw [<- hl];rfl
   split at h
   ·rename_i x' hcal
    cases h
    subst hl2
    have hf:=hok f (by simp)
    have ha:=kS (l:=c.args.toList) (λ x hx=>hok x (List.mem_cons_of_mem _ hx))
    have hrun:∀ fn' f' c',a.eval f=.func fn' f' c' -> (execOp a.eval o).run P w=(invoke (.fn fn' c') (f'++c.args.map a.eval)).run P w:=λ fn' f' c' e'=>by
     unfold Go.execOp
     rw [ho]
     simp only
     rw [Sem.run_bind,mC hc e']
     rfl
    unfold pK at hcal
    split at hcal
    case h_2=>cases hcal
    rename_i fn first captured e
    rw [e] at hf
    obtain ⟨fn',f',c',e',r1,r2,r3⟩:=qS hf
    split at hcal
    ·split at hcal
     ·rename_i hb
      cases hcal
      cases r1
      refine ⟨f'.toList++(c.args.toList.map a.eval++c'.toList),?_,r2.append (ha.append r3)⟩
      rw [hrun _ _ _ e']
      show (callFunc _ (f'++c.args.map a.eval++c')).run P w=_
      rw [gT hb]
      congr 2
      apply Array.ext'
      simp
     ·cases hcal
    ·rename_i lp
     split at hcal
     ·rename_i hfi
      cases hcal
      cases r1 with
      | @yield _ b K hν =>
      rw [hfi] at r2
      refine ⟨b,K,_,hν,ha,?_⟩
      rw [hrun _ _ _ e']
      have hf0:f'=#[]:=by
       apply Array.ext'
       generalize f'.toList=q at r2
       cases r2;rfl
      subst hf0
      show (Instr.yield b (#[]++c.args.map a.eval)).run P w=_
      congr 2
      apply Array.ext'
      simp
     ·cases hcal
    ·cases hcal
   ·split at h
    ·rename_i v hv
     cases h
     have hl3:cf o.op=some l:=by
      rw [ho] at hl ⊢
      exact hl
     obtain ⟨v',r,e⟩:=od hv hl3 hok
     exact ⟨ν,v',w,_,e w,.inl rfl,r,.refl _ _,hH,Below.refl _ _⟩
    ·cases h
  ·rename_i b hc
   split at h
   ·obtain ⟨v,H2,n2,rfl⟩:=FK h
    have hfr:=hn v H2 n2 rfl
    unfold Fk at h
    split at h
    case h_2=>cases h
    rename_i cl x y t u
    simp only at hc
    subst hc
    split at h
    case h_2=>cases h
    rename_i el he hs
    have hl2:l=[x,y]:=by
     rw [ho] at hl
     simp only [iG,cf,Option.some.injEq] at hl
     rw [<- hl];rfl
    subst hl2
    have hu:∃ e',P.underlying u=some (.slice e'):=by
     unfold MT at hs
     split at hs
     ·rename_i e1;exact ⟨_,e1⟩
     ·cases hs
    obtain ⟨e',hu⟩:=hu
    have hr:∃ cs,(resolve a.eval ⟨.builtin .append,⟨[x,y]⟩,⟨[t,u]⟩⟩ o.type).run P w=.ok { target:=.builtin .append #[t,u] o.type cs,args:=#[a.eval x,a.eval y] } w:=by
     refine ⟨(⟨[x,y]⟩:Array Operand).map (λ | .const _=>true | _=>false),?_⟩
     unfold resolve
     have e:(⟨[x,y]⟩:Array Operand).map a.eval=#[a.eval x,a.eval y]:=by simp
     simp only [e]
     rfl
    obtain ⟨cs,hr⟩:=hr
    refine An (IO (ty:=o.type) hH (lq he) hu (hok x (by simp)) (hok y (by simp)) hfr h) ?_
    unfold Go.execOp
    rw [ho]
    simp only
    rw [Sem.run_bind,hr]
    rfl
   ·obtain ⟨v,H2,n2,rfl⟩:=CF h
    unfold wl at h
    split at h
    case h_2=>cases h
    rename_i cl x y t u
    simp only at hc
    subst hc
    split at h
    case h_2=>cases h
    rename_i el he
    have hl2:l=[x,y]:=by
     rw [ho] at hl
     simp only [iG,cf,Option.some.injEq] at hl
     rw [<- hl];rfl
    subst hl2
    have hr:∃ cs,(resolve a.eval ⟨.builtin .copy,⟨[x,y]⟩,⟨[t,u]⟩⟩ o.type).run P w=.ok { target:=.builtin .copy #[t,u] o.type cs,args:=#[a.eval x,a.eval y] } w:=by
     refine ⟨(⟨[x,y]⟩:Array Operand).map (λ | .const _=>true | _=>false),?_⟩
     unfold resolve
     have e:(⟨[x,y]⟩:Array Operand).map a.eval=#[a.eval x,a.eval y]:=by simp
     simp only [e]
     rfl
    obtain ⟨cs,hr⟩:=hr
    refine An (FJ (u:=u) (ty:=o.type) hH (lq he) (hok x (by simp)) (hok y (by simp)) h) ?_
    unfold Go.execOp
    rw [ho]
    simp only
    rw [Sem.run_bind,hr]
    rfl
   ·cases h
    show (execOp a.eval o).run P w=_
    unfold Go.execOp
    rw [ho]
    simp only
    rw [Sem.run_bind]
    unfold resolve
    rw [hc]
    rfl
   ·cases h
  ·rename_i recv name hc
   have hl2:l=recv :: c.args.toList:=by
    rw [ho] at hl
    simp only [iG,cf,hc,Option.some.injEq] at hl
    rw [<- hl];rfl
   subst hl2
   split at h
   case h_2=>cases h
   rename_i t v e
   split at h
   case h_2=>cases h
   rename_i f hf
   split at h
   case h_2=>cases h
   rename_i hB
   cases h
   have hr:=hok recv (by simp)
   rw [e] at hr
   have ha:=kS (l:=c.args.toList) (λ x hx=>hok x (List.mem_cons_of_mem _ hx))
   generalize hu:a.eval recv=u at hr
   cases hr with
   | atom _ h=>simp [cz] at h
   | @iface _ v' _ hv =>
   refine ⟨v' :: c.args.toList.map a.eval,?_,.cons hv ha⟩
   unfold Go.execOp
   rw [ho]
   simp only
   rw [Sem.run_bind]
   have h1:(resolve a.eval c o.type).run P w=.ok { target:=.fn (.method name) #[],args:=#[.iface t v']++c.args.map a.eval } w:=by
    unfold resolve
    rw [hc]
    simp only [hu]
    rfl
   rw [h1]
   simp only [Result.andThen_ok]
   have h2:(invoke (.fn (.method name) #[]) (#[.iface t v']++c.args.map a.eval)).run P w=(callMethod (.iface t v') name (c.args.map a.eval)).run P w:=by
    unfold invoke
    have e1:(#[Value.iface t v']++c.args.map a.eval)[0]?=some (.iface t v'):=by rw [Array.getElem?_append_left (by simp)];rfl
    have e2:(#[Value.iface t v']++c.args.map a.eval).extract 1 (#[Value.iface t v']++c.args.map a.eval).size=c.args.map a.eval:=by
     apply Array.ext'
     simp
     rw [List.take_of_length_le (by simp)]
    simp only [e1,e2]
   rw [h2]
   unfold callMethod
   simp only
   rw [mQ,Sem.run_bind,CG hf]
   simp only [Result.andThen_ok]
   rw [gT hB]
   congr 2
   apply Array.ext'
   simp
 ·cases h
theorem ls {o:Op} {l:List Operand} (h:iG o=some l) (hd:∀ c,o ≠ .defer c):cf o=some l:=by
 cases o <;> first | exact h | exact (hd _ rfl).elim
end ap
def Glb (ν:Nu) (G:Nat):Prop:=∀ k,k < G -> ∃ K,ν k=some (k,K)
def FM (ν:Nu) (v:Value) (n n':Nat) (H':AH) (F:HL) (w:World) (e:Ending) (w':World):Prop :=
 ∃ ν' v',e=.returned v' /\ VRi ν' v v' /\ Ext ν ν' n n' /\ HR ν' H' F w' /\ Below 0 w w'
inductive DsR (ν:Nu):List Deferred -> List Deferred -> Prop
 | nil:DsR ν [] []
 | cons {d d':Deferred} {l l':List Deferred}:DR ν d d' -> DsR ν l l' -> DsR ν (d :: l) (d' :: l')
inductive RR (ν:Nu):Option Nat -> Option Nat -> Prop
 | none:RR ν none none
 | some {l b K:Nat}:ν l=some (b,K) -> RR ν (some l) (some b)
def Ex.out:Ex -> Exit
 | .normal=>.normal
 | .exit id=>.exit id
 | .ret=>.ret
structure SR (ν:Nu) (G N:Nat) (s:St) (F:HL) (a:Act) (w:World):Prop where
 g:Glb ν G
 t:TRel ν N s.T a.tmps
 d:DsR ν s.D a.defers
 h:HR ν s.H F w
def Ao (F:Fence) (n:Nat) (P:Program) (c:Code) (Q:Exit -> Act -> World -> Prop) (a:Act) (w:World):Prop :=
 ∀ (b:Frame) (k:List Item) (cs:List Frame),b.roundOf=F.round -> F.fn b.fn -> F.room (cs.length+1+n) ->
  ∃ e a' w',Q e a' w' /\ ArrivesIn (Machine.fenced P F) P (lone (b.atR a (.code c :: .inLoop c :: k)) cs w) b k cs e a' w'
theorem yQ {F:Fence} {n:Nat} {P:Program} {c:Code} {Q:Exit -> Act -> World -> Prop} {a:Act} {w:World} (h:Ao F n P c Q a w):(Code.loop c).wpIn F n P Q a w:=by
 intro b k cs hro hb hr
 obtain ⟨e,a',w',hq,harr⟩:=h b k cs hro hb hr
 exact ⟨e,a',w',hq,.of_steps (.one (fenced_calm hb hr rfl) stepR_loop) harr⟩
theorem wL {F:Fence} {n:Nat} {P:Program} {c:Code} {Q:Exit -> Act -> World -> Prop} {a:Act} {w:World} (h:c.wpIn F n P (Exit.then (Ao F n P c Q) Q) a w):Ao F n P c Q a w:=by
 intro b k cs hro hb hr
 obtain ⟨e,a₁,w₁,hq,harr⟩:=h b (.inLoop c :: k) cs hro hb hr
 cases e with
 | normal =>
  obtain ⟨e₂,a₂,w₂,hq₂,harr₂⟩:=hq b k cs hro hb hr
  exact ⟨e₂,a₂,w₂,hq₂,.of_steps (StepsIn.trans harr (.one (fenced_calm hb hr rfl) stepR_inLoop)) harr₂⟩
 | exit id=>exact ⟨_,a₁,w₁,hq,.pass (x:=.inLoop c) rfl (λ _ _=>.inl (by simp)) harr⟩
 | goto l=>exact ⟨_,a₁,w₁,hq,.pass (x:=.inLoop c) rfl (λ _ _=>.inl (by simp)) harr⟩
 | ret=>exact ⟨_,a₁,w₁,hq,.pass (x:=.inLoop c) rfl (λ _ _=>.inl (by simp)) harr⟩
 | panic ch=>exact ⟨_,a₁,w₁,hq,.pass (x:=.inLoop c) rfl (λ _ _=>.inl (by simp)) harr⟩
 | outgrown=>exact ⟨_,a₁,w₁,hq,.pass (x:=.inLoop c) rfl (λ _ _=>.inl (by simp)) harr⟩
def jq (P:Program) (G:Nat):Task -> Rs -> Prop
 | .fn f args H n,.fn v H' n'=>n <= n' /\ ∀ ν F w args',Glb ν G -> Fr ν n n' -> HR ν H F w -> LR ν args args' -> Calls P f ⟨args'⟩ w (FM ν v n n' H' F w)
 | .rnd l T N as bo H n,.fn v H' n'=>n <= n' /\ ∀ ν F w b K tm f r',Glb ν G -> ν l=some (b,K) -> TRel ν N T tm -> Fr ν n n' -> HR ν H F w -> RoundIn (Wr r') 0 P b f tm as bo w (FM ν v n n' H' F w)
 | .code r N c s,.cd e s'=>s.n <= s'.n /\ ∀ ν F a w r' Q,RR ν r r' -> SR ν G N s F a w -> Fr ν s.n s'.n -> (∀ ν' a' w',Ext ν ν' s.n s'.n -> SR ν' G N s' F a' w' -> Below 0 w w' -> Q e.out a' w') -> c.wpIn (Wr r') 0 P Q a w
 | .loop r N c s,.cd e s'=>s.n <= s'.n /\ ∀ ν F a w r' Q,RR ν r r' -> SR ν G N s F a w -> Fr ν s.n s'.n -> (∀ ν' a' w',Ext ν ν' s.n s'.n -> SR ν' G N s' F a' w' -> Below 0 w w' -> Q e.out a' w') -> Ao (Wr r') 0 P c Q a w
 | .dfn f args H n,.fn v H' n'=>n <= n' /\ ∀ ν F w args',Glb ν G -> Fr ν n n' -> HR ν H F w -> LR ν args args' -> CallsDIn (Wr none) 0 P f ⟨args'⟩ .returning w (λ e u' w'=>u'=.returning /\ FM ν v n n' H' F w e w')
 | _,_=>True
def kc (P:Program) (G:Nat) (ih:Task -> Option Rs):Prop:=∀ t res,ih t=some res -> jq P G t res
section ops
variable {ν ν':Nu} {P:Program} {G N:Nat} {T T':Tr Value} {a:Act} {H H':AH} {F:HL} {w w':World} {r r':Option Nat} {ih:Task -> Option Rs}
theorem Glb.mono (h:Glb ν G) (hl:ν.Le ν'):Glb ν' G:=λ k hk=>let ⟨K,e⟩:=h k hk;⟨K,hl _ _ e⟩
theorem DsR.mono {l l':List Deferred} (h:DsR ν l l') (hl:ν.Le ν'):DsR ν' l l':=by
 induction h with
 | nil=>exact .nil
 | cons h _ ih=>exact .cons (h.mono hl) ih
theorem RR.mono (h:RR ν r r') (hl:ν.Le ν'):RR ν' r r':=by
 cases h with
 | none=>exact .none
 | some h=>exact .some (hl _ _ h)
theorem HR.loop (h:HR ν H F w) {k:Nat} {st:LoopState} {pend:Option Code} {T:Tr Value} {N:Nat} {ps:Array Tmp} {as bo:Code} {d r K:Nat} (hk:bO H k=some (.loop st pend T N ps as bo d)) (hr:ν k=some (r,K)) :
  ∃ lp:Loop,w.heap[r]?=some (.loop lp) /\ lp.state=st /\ lp.pending=pend /\ TRel ν N T lp.tmps /\ lp.params=ps /\ lp.assign=as /\ lp.body=bo /\ ∃ K',ν d=some (lp.defers,K'):=by
 obtain ⟨r',K',o,h1,h2,h3⟩:=h.blk _ _ hk
 rw [hr] at h1
 cases h1
 unfold OR at h3
 split at h3
 ·rename_i e1;cases e1
 ·rename_i e1;cases e1
 ·rename_i e1;cases e1;exact ⟨_,h2,h3⟩
 ·rename_i e1;cases e1
 ·exact h3.elim
theorem gz {l:Nat} {lp:Loop} (h:w.heap[l]?=some (.loop lp)):(Instr.getLoop l).run P w=.ok lp w:=by
 unfold Instr.getLoop
 rw [Sem.run_bind]
 have:(getObj l).run P w=.ok (.loop lp) w:=by
  unfold getObj
  rw [Sem.run.eq_def]
  simp only [h]
  rfl
 rw [this]
 rfl
theorem s7:∀ {ps:List Tmp} {vs vs':List Value} {T:Tr Value} {tm:Array Value},LR ν vs vs' -> TRel ν N T tm -> Ah N ps=true -> TRel ν N (Fp ps vs T) ((ps.zip vs').foldl (λ tmps (p:Tmp × Value)=>tmps.setIfInBounds p.1 p.2) tm)
 | [],vs,vs',T,tm,hl,ht,_=>by cases vs <;> exact ht
 | p :: ps,[],vs',T,tm,hl,ht,_=>by cases hl;exact ht
 | p :: ps,v :: vs,vs',T,tm,hl,ht,hlt=>by
  cases hl with
  | cons hv hl =>
   rw [Ah] at hlt
   split at hlt
   ·rename_i hp
    have h2:=s7 (ps:=ps) hl (ht.set (dE hp) hv) hlt
    exact h2
   ·cases hlt
theorem CH {b:Nat} {lp:Loop} {args:List Value} (h:w.heap[b]?=some (.loop lp)) (hs:args.length=lp.params.size) :
  (Instr.yield b ⟨args⟩).run P w=.ok (.round b lp.fn ((lp.params.toList.zip args).foldl (λ tmps (p:Tmp × Value)=>tmps.setIfInBounds p.1 p.2) lp.tmps) lp.assign lp.body) w:=by
 unfold Instr.yield
 rw [Sem.run_bind,gz h]
 simp only [Result.andThen_ok]
 rw [if_neg (by simp [hs])]
 have:(Array.foldl (λ (tmps:Array Value) (x:Tmp × Value)=>tmps.setIfInBounds x.1 x.2) lp.tmps (lp.params.zip ⟨args⟩))=((lp.params.toList.zip args).foldl (λ tmps (p:Tmp × Value)=>tmps.setIfInBounds p.1 p.2) lp.tmps):=by
  rw [<- Array.foldl_toList,Array.toList_zip]
 rw [<- this]
 rfl
def OM (P:Program) (ν:Nu) (F:HL) (n:Nat) (r r':Option Nat) (a:Act) (w:World) (o:Oper):OpR -> Prop
 | .val v H' n'=>Fr ν n n' -> ∀ (next:Act -> World -> Prop) (Q:Exit -> Act -> World -> Prop),(∀ ν' v' w',VRi ν' v v' -> Ext ν ν' n n' -> HR ν' H' F w' -> Below 0 w w' -> next (a.put o.dst v') w') -> o.wpIn (Wr r') 0 P a w next Q
 | .dfr d=>r=none /\ ∀ (next:Act -> World -> Prop) (Q:Exit -> Act -> World -> Prop),(∀ d',DR ν d d' -> next ({ a with defers:=d' :: a.defers }.put o.dst undef) w) -> o.wpIn (Wr r') 0 P a w next Q
theorem FN {o:Oper} {c:Call} {n:Nat} {x:AN} (ho:o.op=.defer c) (h:Ag P G o T H n=some x):∃ d,x=.dfr d:=by
 unfold Ag at h
 split at h
 ·cases h
 split at h
 ·cases h
 rw [ho] at h
 simp only [rD,mw,ho] at h
 split at h
 ·split at h
  ·cases h;exact ⟨_,rfl⟩
  ·cases h
 ·cases h
theorem lu {o:Oper} {n:Nat} {x:AN} (hok:∀ l,iG o.op=some l -> rR G l=true -> OK ν T a l) (hH:HR ν H F w) (h:Ag P G o T H n=some x) (hn:∀ v H' n',x=.val v H' n' -> Fr ν n n'):OL P ν F n (execOp a.eval o) w x:=by
 unfold Ag at h
 split at h
 ·cases h
 rename_i l hl
 split at h
 ·cases h
 rename_i hk
 have hok:=hok l hl hk
 split at h
 ·rename_i hc
  split at h
  ·rename_i v hv
   cases h
   have hl':=ls hl (λ c e=>by rw [e] at hc;cases hc)
   obtain ⟨v',r,e⟩:=wD hv hl' hok
   exact ⟨ν,v',w,_,e w,.inl rfl,r,.refl _ _,hH,Below.refl _ _⟩
  ·cases h
 ·rename_i hc
  split at h
  ·rename_i v hv
   cases h
   have hl':=ls hl (λ c e=>by rw [e] at hc;cases hc)
   obtain ⟨v',r,e⟩:=wI hH hv hl' hok
   exact ⟨ν,v',w,_,e,.inl rfl,r,.refl _ _,hH,Below.refl _ _⟩
  ·cases h
 ·rename_i hc
  split at h
  ·rename_i b m hv
   cases h
   have hl':=ls hl (λ c e=>by rw [e] at hc;cases hc)
   obtain ⟨h1,h2,o',h3,h4⟩:=Al hv hl' hok
   have hnone:ν n=none:=hn _ _ _ rfl n (Nat.le_refl _) (by omega)
   exact ⟨ν.upd n w.heap.size 0,_,_,_,h4 w,.inl rfl,FD h2 cm,.upd,hH.new hnone (h3 0) h1 rfl,⟨rfl,rfl,rfl,by simp,λ k hk=>by omega⟩⟩
  ·cases h
 ·exact IP hH h hl hok hn
theorem uk {o:Oper} {n n':Nat} {v:Value} (h:Ag P G o T H n=some (.val v H' n')):n <= n':=by
 have key:mw P o T H n=some (.val v H' n') -> n <= n':=by
  intro h
  unfold mw pK Fk wl wi wj sN qC iH at h
  repeat' split at h
  all_goals first
   | (cases h;done)
   | (cases h;omega)
   | (rename_i hx;simp only [Option.some.injEq] at h;subst h;(repeat' (split at hx)) <;> first | (cases hx;done) | (cases hx;omega))
 unfold Ag at h
 split at h
 ·cases h
 split at h
 ·cases h
 split at h
 ·split at h
  ·cases h;omega
  ·cases h
 ·split at h
  ·cases h;omega
  ·cases h
 ·split at h
  ·unfold K4 at h;cases h;omega
  ·cases h
 ·exact key h
theorem ul (hih:kc P G ih) {o:Oper} {n:Nat} {x:OpR} (hg:Glb ν G) (hr:RR ν r r') (hok:∀ l,iG o.op=some l -> rR G l=true -> OK ν T a l) (hH:HR ν H F w) (h:jH P G ih r o T H n=some x):(∀ v H' n',x=.val v H' n' -> n <= n') /\ OM P ν F n r r' a w o x:=by
 have hA:∀ f,o.about P w a.eval=some f -> (Wr r').fn f:=λ _ _=>trivial
 unfold jH at h
 split at h
 ·cases h
 rename_i y hy
 have nd:(∀ d,y ≠ .dfr d) -> o.semAt (Wr r').round a.eval=execOp a.eval o:=λ hd=>Oper.semAt_eq _ _ _ λ c e=>by
  obtain ⟨d,hd'⟩:=FN e hy
  exact hd d hd'
 split at h
 ·rename_i v H1 n1
  cases h
  refine ⟨λ v H' n' e=>by cases e;exact uk hy,λ hfr next Q hk=>⟨hA,?_⟩⟩
  obtain ⟨ν',v',w',q,h1,h2,h3,h4,h5,h6⟩:=lu hok hH hy (λ v H' n' e=>by cases e;exact hfr)
  rw [nd (λ d e=>by cases e),h1]
  rcases h2 with rfl | ⟨rfl,rfl⟩
  ·rw [Oper.uponIn_value];exact hk _ _ _ h3 h4 h5 h6
  ·rw [Oper.uponIn_skip];exact hk _ _ _ h3 h4 h5 h6
 ·rename_i f args
  split at h
  ·rename_i v H1 n1 hc
   cases h
   obtain ⟨hle,hcall⟩:=hih _ _ hc
   refine ⟨λ v H' n' e=>by cases e;exact hle,λ hfr next Q hk=>⟨hA,?_⟩⟩
   obtain ⟨args',h1,h2⟩:=lu hok hH hy (λ v H' n' e=>by cases e)
   rw [nd (λ d e=>by cases e),h1,Oper.uponIn_enter]
   refine ⟨λ h=>(by cases h),?_⟩
   refine js ((hcall ν F w args' hg hfr hH h2).mono ?_)
   rintro e w2 ⟨ν',v',rfl,k1,k2,k3,k4⟩
   exact hk _ _ _ k1 k2 k3 k4
  ·cases h
 ·rename_i l args
  split at h
  case h_2=>cases h
  rename_i st pend T2 N' ps as bo d hb
  split at h
  case h_2=>cases h
  rename_i hsz hlt
  split at h
  case h_2=>cases h
  rename_i v H1 n1 hc
  cases h
  obtain ⟨hle,hcall⟩:=hih _ _ hc
  refine ⟨λ v H' n' e=>by cases e;exact hle,λ hfr next Q hk=>⟨hA,?_⟩⟩
  obtain ⟨b,K,args',hν,h1,h2⟩:=lu hok hH hy (λ v H' n' e=>by cases e)
  obtain ⟨lp,g1,g2,g3,g4,g5,g6,g7,g8⟩:=hH.loop hb hν
  have hlen:args'.length=lp.params.size:=by
   rw [g5,h1.length]
   rw [dW] at hsz
   exact Nat.eq_of_beq_eq_true hsz
  rw [nd (λ d e=>by cases e),h2,CH g1 hlen,Oper.uponIn_round]
  refine ⟨λ h=>(by cases h),?_⟩
  rw [g6,g7,g5]
  refine (hcall ν F w b K _ lp.fn r' hg hν (s7 h1 g4 hlt) hfr hH).mono ?_
  rintro e w2 ⟨ν',v',rfl,k1,k2,k3,k4⟩
  exact hk _ _ _ k1 k2 k3 k4
 ·rename_i d
  split at h
  ·cases h
   cases hr
   refine ⟨λ v H' n' e=>(by cases e),rfl,λ next Q hk=>⟨hA,?_⟩⟩
   obtain ⟨d',h1,h2⟩:=lu hok hH hy (λ v H' n' e=>by cases e)
   have:o.semAt (Wr none).round a.eval=execOp a.eval o:=rfl
   rw [this,h1,Oper.uponIn_defer]
   exact hk _ h2
  ·cases h
 ·cases h
theorem jO {ops:Array Oper} {o:Oper} {b:Bool} (hT:TRel ν N T a.tmps) (h:ew ops o T=some b):Region.wanted o (yielded ops a.tmps)=b:=by
 unfold ew at h
 unfold Region.wanted
 split at h
 ·rename_i hg
  rw [hg];cases h;rfl
 ·rename_i j want hg
  rw [hg]
  simp only
  split at h
  case h_2=>cases h
  rename_i d hd
  have hy:yielded ops a.tmps j=match a.tmps[d]? with | some (.bool b)=>some b | _=>none:=by
   unfold yielded
   rw [hd]
   rfl
  have hv:(d < N /\ ∃ v',a.tmps[d]?=some v' /\ VRi ν (cQ T d) v') \/ (a.tmps[d]?=none /\ cQ T d=undef):=by
   rcases Nat.lt_or_ge d N with h1 | h1
   ·exact .inl ⟨h1,hT.get d h1⟩
   ·exact .inr ⟨Array.getElem?_eq_none (by rw [hT.size];exact h1),hT.out d h1⟩
  rw [hy]
  split at h
  ·rename_i b' hb
   cases h
   rcases hv with ⟨-,v',e1,e2⟩ | ⟨e1,e2⟩
   ·rw [hb] at e2
    rw [e2.plain_eq rfl] at e1
    rw [e1];simp
   ·rw [hb] at e2;cases e2
  ·rename_i vs hb
   cases h
   rcases hv with ⟨-,v',e1,e2⟩ | ⟨e1,e2⟩
   ·rw [hb] at e2
    rw [e1]
    cases e2 with
    | atom _ h=>simp [cz] at h
    | tuple _ _=>rfl
   ·rw [e1];rfl
  ·cases h
theorem SR.op {s:St} (h:SR ν G N s F a w) {o:Oper}:∀ l,iG o.op=some l -> rR G l=true -> OK ν s.T a l:=λ l _ hk =>
 (FE.mk h.t h.g).ok hk
theorem nB (hih:kc P G ih) {ops:Array Oper}:∀ (rest:List Oper) (s s':St),lU P G ih r N ops rest s=some s' -> s.n <= s'.n /\ ∀ ν F a w r' (Q:Exit -> Act -> World -> Prop),RR ν r r' -> SR ν G N s F a w -> Fr ν s.n s'.n ->
  (∀ ν' a' w',Ext ν ν' s.n s'.n -> SR ν' G N s' F a' w' -> Below 0 w w' -> Q .normal a' w') -> wpListIn (Wr r') 0 P ops Q rest a w
 | [],s,s',h=>by
  rw [lU] at h
  cases h
  exact ⟨Nat.le_refl _,λ ν F a w r' Q hr hs hf hk=>hk ν a w (.refl _ _) hs (Below.refl _ _)⟩
 | o :: rest,s,s',h=>by
  rw [lU] at h
  split at h
  ·cases h
  ·rename_i hw
   split at h
   case h_2=>cases h
   rename_i T1 hp
   obtain ⟨h1,h2⟩:=nB hih rest _ _ h
   refine ⟨h1,λ ν F a w r' Q hr hs hf hk=>?_⟩
   rw [wpListIn,if_neg (by rw [jO hs.t hw];simp)]
   refine ⟨λ _ _=>trivial,?_⟩
   exact h2 ν F _ w r' Q hr ⟨hs.g,hs.t.put VRi.undef hp,by rw [fo];exact hs.d,hs.h⟩ hf hk
  ·rename_i hw
   split at h
   ·cases h
   ·rename_i v H1 n1 hst
    split at h
    case h_2=>cases h
    rename_i T1 hp
    obtain ⟨h1,h2⟩:=nB hih rest _ _ h
    simp only at h1 h2
    have hle:s.n <= n1:=by
     clear h2
     unfold jH at hst
     split at hst
     ·cases hst
     rename_i y hy
     split at hst
     ·cases hst;exact uk hy
     ·split at hst
      ·rename_i hc;cases hst;exact (hih _ _ hc).1
      ·cases hst
     ·split at hst
      case h_2=>cases hst
      split at hst
      case h_2=>cases hst
      split at hst
      ·rename_i hc;cases hst;exact (hih _ _ hc).1
      ·cases hst
     ·split at hst <;> cases hst
     ·cases hst
    refine ⟨by omega,λ ν F a w r' Q hr hs hf hk=>?_⟩
    rw [wpListIn,if_pos (jO hs.t hw)]
    obtain ⟨-,h4⟩:=ul hih hs.g hr hs.op hs.h hst
    refine h4 (λ i hi1 hi2=>hf i hi1 (by omega)) _ _ (λ ν' v' w' k1 k2 k3 k4=>?_)
    have hsub:=k2.sub (λ i hi1 hi2=>hf i hi1 (by omega))
    exact h2 ν' F _ w' r' Q (hr.mono hsub) ⟨hs.g.mono hsub,(hs.t.mono hsub).put k1 hp,by rw [fo];exact hs.d.mono hsub,k3⟩ (k2.fr hf h1) (λ ν2 a2 w2 q1 q2 q3=>hk ν2 a2 w2 (k2.trans q1) q2 (k4.trans q3))
   ·rename_i d hst
    split at h
    case h_2=>cases h
    rename_i T1 hp
    obtain ⟨h1,h2⟩:=nB hih rest _ _ h
    refine ⟨h1,λ ν F a w r' Q hr hs hf hk=>?_⟩
    rw [wpListIn,if_pos (jO hs.t hw)]
    obtain ⟨-,h3,h4⟩:=ul hih hs.g hr hs.op hs.h hst
    refine h4 _ _ (λ d' hd'=>?_)
    exact h2 ν F _ w r' Q hr ⟨hs.g,TRel.put (a:={ a with defers:=d' :: a.defers }) hs.t VRi.undef hp,by rw [fo];exact .cons hd' hs.d,hs.h⟩ hf hk
end ops
end Go.Proofs.YtobflkidpfkcaaaGreatDoor
