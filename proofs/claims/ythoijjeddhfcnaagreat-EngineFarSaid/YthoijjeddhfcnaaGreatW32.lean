import Derived.Test.YthoijjeddhfcnaaGreatW31
set_option maxHeartbeats 4000000
set_option maxRecDepth 100000
set_option linter.unusedSimpArgs false
set_option linter.unusedVariables false
namespace Go.Proofs.YthoijjeddhfcnaaGreat
open Go.RowKit
section nw
variable {ν ν':Nu} {P:Program} {G N:Nat} {T T':Tr Value} {a:Act} {H H':AH} {F:HL} {w w':World}
theorem newObj_run (o:Obj) (w:World):(newObj o).run P w=.ok w.heap.size { w with heap:=w.heap.push o }:=rfl
def Mk.ok:Mk -> Prop
  | .sl _ c=>c < unk
  | _=>True
theorem Mk.rel {m:Mk} (h:m.ok) {n r K:Nat} (hν:ν n=some (r,K)):VRi ν (m.val n) (m.val r):=by
  cases m with
  | ptr=>exact .ptr 0 hν
  | sl l c=>exact .slice 0 l hν ⟨λ _=>rfl,λ e=>by unfold Mk.ok at h;omega⟩
  | mp=>exact .map hν
theorem repL_len (z:List Value) (n:Nat):(repL z n).length=n * z.length:=by
  induction n with
  | zero=>simp [repL]
  | succ n ih=>simp [repL,ih,Nat.succ_mul];omega
theorem repL_get (z:List Value):∀ (n i:Nat),i < n * z.length -> (repL z n)[i]?=z[i % z.length]?
  | 0,i,h=>by omega
  | n+1,i,h=>by
    rw [repL]
    rcases Nat.lt_or_ge i z.length with h1 | h1
    · rw [List.getElem?_append_left h1,Nat.mod_eq_of_lt h1]
    · rw [List.getElem?_append_right h1,repL_get z n _ (by rw [Nat.succ_mul] at h;omega),Nat.mod_eq_sub_mod h1]
theorem range_rep (z:List Value) (n:Nat) (hz:0 < z.length):(Array.range (n * z.length)).map (λ i=>(⟨z⟩:Array Value)[i % (⟨z⟩:Array Value).size]!)=⟨repL z n⟩:=by
  apply Array.ext'
  apply List.ext_getElem?
  intro i
  rcases Nat.lt_or_ge i (n * z.length) with h | h
  · have h2:i % z.length < z.length:=Nat.mod_lt _ hz
    simp only [Array.toList_map,Array.toList_range,List.getElem?_map,List.getElem?_range h,Option.map_some]
    rw [repL_get z n i h]
    simp [h2]
  · rw [List.getElem?_eq_none (by simp;exact h),List.getElem?_eq_none (by rw [repL_len];exact h)]
theorem repL_rel {z:List Value} (h:LR ν z z):∀ n,LR ν (repL z n) (repL z n)
  | 0=>.nil
  | n+1=>h.append (repL_rel h n)
theorem elemT_und {t el:TypeId} (h:elemT P t=some el):P.underlying t=some (.slice el):=by
  unfold elemT at h
  split at h
  · rename_i e;cases h;exact e
  · cases h
theorem newV_ok {o:Oper} {b:AB} {m:Mk} (h:newV P o T=some (b,m)) {l:List Operand} (hl:opsOf o.op=some l) (hok:OK ν T a l) :
    wrb b=true /\ m.ok /\ ∃ o',(∀ K,OR ν K b o') /\ ∀ w,(execOp a.eval o).run P w=.ok (.value (m.val w.heap.size)) { w with heap:=w.heap.push o' }:=by
  unfold newV at h
  split at h
  · rename_i t ho
    split at h
    · rename_i z hz
      cases h
      obtain ⟨zv,h1,h2,h3,-⟩:=zeroT_run (ν:=ν) hz
      refine ⟨wrb_cellsB _ _,trivial,_,λ K=>OR.cellsB h3,λ w=>?_⟩
      simp [execOp,ho,Instr.alloc,Sem.run_bind,h1,newVar,newRow,h2,newObj_run,run_pu,Result.andThen,Mk.val]
    · cases h
  · rename_i t x ho
    rw [ho] at hl;simp only [opsOf,Option.some.injEq] at hl;subst hl
    cases h
    refine ⟨wrb_cellsB _ _,trivial,_,λ K=>OR.cellsB (cellsL_rel (hok x (by simp))),λ w=>?_⟩
    simp [execOp,ho,Instr.box,Sem.run_bind,newVar,newRow,newObj_run,run_pu,Result.andThen,Mk.val,cellsL_eq]
  · rename_i t len parts ho
    rw [ho] at hl;simp only [opsOf,Option.some.injEq] at hl;subst hl
    split at h
    case h_2=>cases h
    rename_i el he
    split at h
    case h_2=>cases h
    rename_i k z hk hz
    split at h
    case h_2=>cases h
    rename_i g1 g2 g3
    split at h
    case h_2=>cases h
    rename_i l hf
    cases h
    have hu:=elemT_und he
    have hzl:z.length=k:=by rw [lenL_eq] at g2;exact Nat.eq_of_beq_eq_true g2
    have hk0:=blt_lt g3
    have g1':=le_of_ble g1
    obtain ⟨zv,h1,h2,h3,-⟩:=zeroT_run (ν:=ν) hz
    obtain ⟨l',e1,e2⟩:=fillA_rel (partsA_rel hok) (repL_rel h3 len) hf
    refine ⟨wrb_cellsB _ _,?_,_,λ K=>OR.cellsB e2,λ w=>?_⟩
    · have:len <= len * k:=Nat.le_mul_of_pos_right _ hk0
      show len < unk
      unfold unk;omega
    have h6:=fillA_fill e1
    have h7:(parts.map λ (p:Nat × Operand)=>(p.1,a.eval p.2)).toList=parts.toList.map λ p=>(p.1,a.eval p.2):=by simp
    have h8:=range_rep z len (by omega)
    rw [hzl] at h8
    have hs:=sizeT_run hk w
    unfold Go.execOp
    rw [ho]
    simp only
    rw [Sem.run_bind]
    have:(Instr.buildSlice t len (parts.map λ (p:Nat × Operand)=>(p.1,a.eval p.2))).run P w=.ok (.slice (some ⟨w.heap.size,0,none⟩) len len) { w with heap:=w.heap.push (.cells ⟨l'⟩ el (0,0)) }:=by
      unfold Instr.buildSlice
      rw [Sem.run_bind,und_run hu]
      simp only [Result.andThen_ok]
      rw [Sem.run_bind,hs]
      simp only [Result.andThen_ok]
      rw [if_neg (by simp;omega)]
      by_cases hl0:len * k=0
      · have hlen:len=0:=by
          rcases Nat.eq_zero_or_pos len with e | e
          · exact e
          · have:=Nat.mul_pos e hk0;omega
        subst hlen
        simp only [Nat.zero_mul,if_true]
        rw [Sem.run_bind]
        simp only [run_pu,Result.andThen_ok]
        have h9:(Array.range 0).map (λ i=>(#[]:Array Value)[i % (#[]:Array Value).size]!)=⟨repL z 0⟩:=by simp [repL]
        rw [h9,h7,h6]
        simp only [Sem.run_bind,newRow,newObj_run,Result.andThen_ok,run_pu]
      · rw [if_neg hl0]
        rw [Sem.run_bind,h1]
        simp only [Result.andThen_ok]
        rw [Sem.run_bind]
        simp only [run_pu,Result.andThen_ok,h2]
        rw [h8,h7,h6]
        simp only [Sem.run_bind,newRow,newObj_run,Result.andThen_ok,run_pu]
    rw [this]
    rfl
  · rename_i t lo co ho
    rw [ho] at hl;simp only [opsOf,Option.some.injEq] at hl;subst hl
    split at h
    case h_2=>cases h
    rename_i el he
    split at h
    case h_2=>cases h
    rename_i inf hi
    split at h
    case h_2=>cases h
    rename_i z n m' hz hn hm
    split at h
    case h_2=>cases h
    rename_i g1 g2 g3 g4 g5 g6
    cases h
    have hu:=elemT_und he
    have hzl:z.length=inf.size:=by rw [lenL_eq] at g4;exact Nat.eq_of_beq_eq_true g4
    have hk0:=blt_lt g5
    have g1':=le_of_ble g1
    have g2':=le_of_ble g2
    have g3':=blt_lt g3
    have g6':=blt_lt g6
    obtain ⟨zv,h1,h2,h3,-⟩:=zeroT_run (ν:=ν) hz
    obtain ⟨kn,en⟩:=asN_eq hn (hok lo (by simp))
    obtain ⟨km,em⟩:=asN_eq hm (hok co (by simp))
    refine ⟨wrb_cellsB _ _,g3',_,λ K=>OR.cellsB (repL_rel h3 m'),λ w=>?_⟩
    have h8:=range_rep z m' (by omega)
    rw [hzl] at h8
    unfold unk at g3'
    have w1:IntKind.i64.wrap (n:Int)=(n:Int):=IntWalk.i64_in _ (by omega)
    have w2:IntKind.i64.wrap (m':Int)=(m':Int):=IntWalk.i64_in _ (by omega)
    have hsz:sizeT P el=some inf.size:=by unfold sizeT;rw [hi];rfl
    have hs:=sizeT_run hsz
    have hti:=λ W=>info_run hi W
    have q1:¬ ((281474976710656:Int) < (inf.bytes:Int) * (m':Int)):=by
      have:(inf.bytes:Int) * (m':Int)=((inf.bytes * m':Nat):Int):=by simp
      omega
    have q2:¬ ((m':Int) < 0):=by omega
    have q3:¬ ((n:Int) < 0):=by omega
    have q4:¬ ((m':Int) < (n:Int)):=by omega
    have hroom:∀ x W,(askRoom x).run P W=.ok () W:=λ x W=>by unfold askRoom;split <;> rfl
    unfold Go.execOp
    rw [ho]
    simp only
    rw [Sem.run_bind]
    have:(Instr.makeSlice t (a.eval lo) (a.eval co)).run P w=.ok (.slice (some ⟨w.heap.size,0,none⟩) n m') { w with heap:=w.heap.push (.cells ⟨repL z m'⟩ el (0,0)) }:=by
      unfold Instr.makeSlice
      rw [Sem.run_bind,und_run hu]
      simp only [Result.andThen_ok]
      rw [en,em]
      simp only [asInt,asIntOf,Sem.run_bind,run_pu,Result.andThen_ok,hti,w1,w2]
      rw [if_neg (by simp [q1,q2,q3,q4])]
      simp only [Sem.run_bind,hroom,Result.andThen_ok,hs,Int.toNat_natCast]
      by_cases hl0:m' * inf.size=0
      · have hlen:m'=0:=by
          rcases Nat.eq_zero_or_pos m' with e | e
          · exact e
          · have:=Nat.mul_pos e hk0;omega
        subst hlen
        simp only [Nat.zero_mul,if_true]
        rw [Sem.run_bind]
        simp only [run_pu,Result.andThen_ok]
        have h9:(Array.range 0).map (λ i=>(#[]:Array Value)[i % (#[]:Array Value).size]!)=⟨repL z 0⟩:=by simp [repL]
        rw [h9]
        simp only [Sem.run_bind,newRow,newObj_run,Result.andThen_ok,run_pu]
      · rw [if_neg hl0]
        simp only [Sem.run_bind,h1,run_pu,Result.andThen_ok,h2]
        rw [h8]
        simp only [Sem.run_bind,newRow,newObj_run,Result.andThen_ok,run_pu]
    rw [this]
    rfl
  · rename_i t r ho
    have hmk:∀ W:World,(newObj (.map #[] 0)).run P W=.ok W.heap.size { W with heap:=W.heap.push (.map #[] 0) }:=λ W=>rfl
    split at h
    · cases h
      refine ⟨rfl,trivial,.map #[] 0,λ K=>⟨rfl,.nil⟩,λ w=>?_⟩
      simp [execOp,ho,Instr.makeMap,Sem.run_bind,hmk,run_pu,Result.andThen,Mk.val]
    · rename_i r
      rw [ho] at hl;simp only [opsOf,Option.some.injEq] at hl;subst hl
      split at h
      · rename_i kt et k n hu he
        cases h
        have hr:=hok r (by simp)
        rw [he] at hr
        have er:=hr.plain_eq rfl
        refine ⟨rfl,trivial,.map #[] 0,λ K=>⟨rfl,.nil⟩,λ w=>?_⟩
        simp [execOp,ho,Instr.makeMap,Sem.run_bind,und_run hu,er,asInt,asIntOf,hmk,run_pu,Result.andThen,Mk.val]
      · cases h
  · cases h
theorem eqKey_eq {d:TypeDesc} {k k':Value} (h:eqKey k k'=some true) (hk:keyD d k=true):k'=k /\ Instr.sameBits 10000 k' k=true:=by
  unfold eqKey at h
  split at h
  · split at h
    · rename_i e
      have e':=of_decide_eq_true e
      simp only [Option.some.injEq,beq_iff_eq] at h
      subst e';subst h
      exact ⟨rfl,by simp [Instr.sameBits]⟩
    · cases h
  · simp only [Option.some.injEq] at h
    have:=ba_eq.1 h
    subst this
    exact ⟨rfl,by simp [Instr.sameBits];exact ba_self _⟩
  · simp only [Option.some.injEq,beq_iff_eq] at h
    subst h
    exact ⟨rfl,by simp [Instr.sameBits]⟩
  · cases h
theorem putKey_now {d:TypeDesc} {k v v':Value} (hk:keyD d k=true) (hv:VRi ν v v') {es:List (Value × Value × Nat)} {es':List MapEntry} (h:ER ν es es'):∀ {r:List (Value × Value × Nat)} {cl cl':Nat} (i:Nat),putKey k v cl es=some (r,cl') ->
    (Instr.findNow d k es' i=some none /\ cl'=cl+1 /\ ER ν r (es'++[⟨k,v',cl⟩])) \/ (∃ j u,Instr.findNow d k es' i=some (some (i+j,u)) /\ cl'=cl /\ (es'[j]?).map (·.key)=some k /\ Instr.sameBits 10000 k k=true /\ ER ν r (es'.modify j λ e=>{ e with key:=k,val:=v' })):=by
  induction h with
  | nil=>intro r cl cl' i h;rw [putKey] at h;cases h;exact .inl ⟨rfl,rfl,.cons k cl hv .nil⟩
  | @cons u0 u0' l0 l0' k' b hv0 h0 ih =>
    intro r cl cl' i h
    rw [putKey] at h
    split at h
    · rename_i e
      cases h
      obtain ⟨e1,e2⟩:=eqKey_eq e hk
      subst e1
      refine .inr ⟨0,u0',?_,rfl,rfl,e2,.cons k' b hv h0⟩
      rw [Instr.findNow];simp only [eqKey_same e hk];rfl
    · rename_i e
      split at h
      · rename_i l c hl
        cases h
        rcases ih (i+1) hl with ⟨h1,h2,h3⟩ | ⟨j,u,h1,h2,h3,h4,h5⟩
        · exact .inl ⟨by rw [Instr.findNow];simp only [eqKey_same e hk];exact h1,h2,.cons k' b hv0 h3⟩
        · refine .inr ⟨j+1,u,?_,h2,by simpa using h3,h4,by simpa using ER.cons k' b hv0 h5⟩
          rw [Instr.findNow];simp only [eqKey_same e hk];rw [h1];congr 3;omega
      · cases h
    · cases h
theorem updA_ok {t:TypeId} {m m' k v v':Value} (hH:HR ν H F w) (hm:VRi ν m m') (hv:VRi ν v v') (h:updA P t H m k v=some H'):pl k=true /\ ∃ w',(Instr.mapUpdate t m' k v').run P w=.ok () w' /\ HR ν H' F w' /\ Below 0 w w':=by
  unfold updA at h
  split at h
  case h_2=>cases h
  rename_i kt et hu
  split at h
  case h_2=>cases h
  rename_i r hk
  split at h
  case h_2=>cases h
  rename_i es cl hb
  split at h
  case h_2=>cases h
  rename_i es2 cl2 hp
  cases h
  obtain ⟨d,hd,hkd⟩:=keyT_d hk
  refine ⟨(keyD_plain hkd).1,?_⟩
  cases hm with
  | atom _ h=>simp [atomV] at h
  | @map _ b K hν =>
  obtain ⟨es',hw,hE⟩:=hH.map hb hν
  have hg:(getObj b).run P w=.ok (.map es' cl) w:=getObj_run hw
  have hf:∀ r,Instr.findNow d k es'.toList 0=some r -> (Instr.findKey kt k es'.toList).run P w=.ok r w:=λ r hr=>by
    unfold Instr.findKey
    rw [Sem.run_bind,und_run hd]
    simp only [Result.andThen_ok,hr]
    rfl
  have hlt:=lt_of_heap' hw
  have hst:∀ o:Obj,(∃ es c,o=.map es c) -> (setObj b o).run P w=.ok () { w with heap:=w.heap.setIfInBounds b o }:=λ o ho=>by
    obtain ⟨e1,c1,rfl⟩:=ho
    unfold setObj
    rw [Sem.run.eq_def]
    simp only [hw]
    rfl
  have hup:∀ (o:Obj),OR ν K (.map es2 cl2) o -> HR ν (hset H r (some (.map es2 cl2))) F { w with heap:=w.heap.setIfInBounds b o }:=λ o ho=>by
    refine hH.upd (r:=b) (K:=K) hb rfl rfl hν (o':=o) ?_ ho (λ k hk=>?_)
    · show (w.heap.setIfInBounds b o)[b]?=_
      rw [Array.getElem?_setIfInBounds_self_of_lt hlt]
    · show (w.heap.setIfInBounds b o)[k]?=_
      rw [Array.getElem?_setIfInBounds_ne (Ne.symm hk)]
  have hB:∀ o:Obj,Below 0 w { w with heap:=w.heap.setIfInBounds b o }:=λ o=>⟨rfl,rfl,rfl,by simp,λ k hk=>by omega⟩
  rcases putKey_now hkd hv hE 0 hp with ⟨h1,h2,h3⟩ | ⟨j,u,h1,h2,h3,h4,h5⟩
  · refine ⟨_,?_,hup (.map (es'.push ⟨k,v',cl⟩) (cl+1)) ⟨h2.symm,by simpa using h3⟩,hB _⟩
    unfold Instr.mapUpdate
    rw [Sem.run_bind,und_run hu]
    simp only [Result.andThen_ok,Sem.run_bind,hg,checkKey_run hk,hf _ h1]
    exact hst _ ⟨_,_,rfl⟩
  · rw [Nat.zero_add] at h1
    refine ⟨_,?_,hup (.map (es'.modify j λ e=>{ e with key:=k,val:=v' }) cl) ⟨h2.symm,by rw [Array.toList_modify];exact h5⟩,hB _⟩
    unfold Instr.mapUpdate
    rw [Sem.run_bind,und_run hu]
    simp only [Result.andThen_ok,Sem.run_bind,hg,checkKey_run hk,hf _ h1]
    have h6:(es'[j]?).map (·.key)=some k:=by simpa using h3
    rw [h6]
    have h7:(Instr.keyThatStays k k).run P w=.ok k w:=by
      unfold Instr.keyThatStays
      rw [if_pos h4];rfl
    simp only [Option.getD_some,h7,Result.andThen_ok]
    exact hst _ ⟨_,_,rfl⟩
end nw
structure Ext (ν ν':Nu) (n n':Nat):Prop where
  le:n <= n'
  out:∀ h,(h < n \/ n' <= h) -> ν' h=ν h
def Fr (ν:Nu) (n n':Nat):Prop:=∀ h,n <= h -> h < n' -> ν h=none
theorem Ext.sub {ν ν':Nu} {n n':Nat} (h:Ext ν ν' n n') (hf:Fr ν n n'):ν.Le ν':=λ k x hx=>by
  rw [h.out k];exact hx
  rcases Nat.lt_or_ge k n with h1 | h1
  · exact .inl h1
  · rcases Nat.lt_or_ge k n' with h2 | h2
    · rw [hf k h1 h2] at hx;cases hx
    · exact .inr h2
theorem Ext.refl (ν:Nu) (n:Nat):Ext ν ν n n:=⟨Nat.le_refl _,λ _ _=>rfl⟩
theorem Ext.trans {a b c:Nu} {n m k:Nat} (h:Ext a b n m) (h':Ext b c m k):Ext a c n k :=
  ⟨Nat.le_trans h.le h'.le,λ i hi=>by
    have h1:=h.le
    have h2:=h'.le
    rw [h'.out i (by omega),h.out i (by omega)]⟩
theorem Ext.fr {a b:Nu} {n m k:Nat} (h:Ext a b n m) (hf:Fr a n k) (hm:m <= k):Fr b m k:=λ i h1 h2=>by
  have:=h.le
  rw [h.out i (.inr h1)];exact hf i (by omega) h2
theorem Ext.upd {ν:Nu} {n r K:Nat}:Ext ν (ν.upd n r K) n (n+1):=⟨by omega,λ h hh=>Nu.upd_ne (by omega)⟩
section ap
variable {ν ν':Nu} {P:Program} {G N:Nat} {T T':Tr Value} {a:Act} {H H':AH} {F:HL} {w w':World}
structure Effi (P:Program) (ν:Nu) (F:HL) (n:Nat) (s:Sem Value) (w:World) (v:Value) (H':AH) (n':Nat):Prop where
  h:∃ ν' v' w',s.run P w=.ok v' w' /\ VRi ν' v v' /\ Ext ν ν' n n' /\ HR ν' H' F w' /\ Below 0 w w'
theorem srcA_ok {k:Nat} {u e':TypeId} {y y':Value} {new:List Value} (hH:HR ν H F w) (hu:P.underlying u=some (.slice e')) (hy:VRi ν y y') (h:srcA H k y=some new) :
    ∃ new',LR ν new new' /\ new'.length=lenV y * k /\ (flatL new=true -> Src P k u y' (lenV y) new' w) /\ (Builtin.firstCells k (lenV y) y').run P w.drew=.ok new'.toArray w.drew /\ (Builtin.firstCells k (lenV y) y').run P w=.ok new'.toArray w:=by
  unfold srcA at h
  split at h
  · split at h
    · cases h
      rename_i c
      cases hy
      refine ⟨[],.nil,by simp [lenV],λ _=>Src.ofNil w hu _,?_,?_⟩
      · exact run_firstCells_none _ _ _ _ _
      · exact run_firstCells_none _ _ _ _ _
    · cases h
  · rename_i ad n c
    cases hy with
    | atom _ h=>simp [atomV] at h
    | @slice hd b K _ c' o _ hν hcap =>
    split at h
    case h_2=>cases h
    rename_i nn tr ty ww ro hs hb
    split at h
    case h_2=>cases h
    rename_i hle
    cases h
    simp only at hb hle
    obtain ⟨cc,ty',fz,hw,hc⟩:=hH.cells hb hν
    have hle':=le_of_ble hle
    have hl:=readN_rel hc.le hc.get (n * k) o hle'
    have hcs:=hc.le
    have hlen:((cc.toList.drop o).take (n * k)).length=n * k:=by simp;omega
    have hcell:∀ (W:World),W.heap=w.heap -> ∀ (j:Nat) (u:Value),((cc.toList.drop o).take (n * k))[j]?=some u -> W.cell? ((⟨b,o,none⟩:Addr).add j)=some u:=λ W hW j u hj=>by
      rw [add_eq,cell_of (by rw [hW];exact hw)]
      have hjl:=(List.getElem?_eq_some_iff.1 hj).1
      rw [hlen] at hjl
      rw [List.getElem?_take_of_lt hjl,List.getElem?_drop] at hj
      simpa using hj
    refine ⟨_,hl,hlen,λ hf=>Src.ofSlice w hu _ _ _ _ hlen (hcell w rfl) (flatL_one hl hf),?_,?_⟩
    · exact run_firstCells_some _ _ _ _ _ _ _ hlen (hcell _ rfl)
    · exact run_firstCells_some _ _ _ _ _ _ _ hlen (hcell _ rfl)
  · cases h
theorem HR.del' (hH:HR ν H F w) {h r K:Nat} {b0:AB} (hb:hget H h=some b0) (hw0:wrb b0=true) (hν:ν h=some (r,K)) (hs:∀ k,k ≠ r -> w'.heap[k]?=w.heap[k]?):HR ν (hset H h none) F w':=by
  have old:∀ k b,hget (hset H h none) k=some b -> hget H k=some b /\ k ≠ h:=λ k b hk=>by
    rw [hget_set] at hk
    split at hk
    · cases hk
    · rename_i e;exact ⟨hk,Ne.symm e⟩
  refine ⟨λ k b hk=>?_,λ k1 k2 b1 b2 q K1 K2 h1 h2 h3 h4=>hH.inj _ _ _ _ _ _ _ (old _ _ h1).1 (old _ _ h2).1 h3 h4,λ x hx=>?_,λ k b q K hk=>hH.apt k b q K (old k b hk).1⟩
  · obtain ⟨h1,h2⟩:=old k b hk
    obtain ⟨q,K',o,g1,g2,g3⟩:=hH.blk k b h1
    refine ⟨q,K',o,g1,?_,g3⟩
    rw [hs q,g2]
    intro e
    subst e
    exact h2 (hH.inj _ _ _ _ _ _ _ h1 hb g1 hν)
  · rw [hs _ (hH.apt _ _ _ _ hb hν x hx)]
    exact hH.frm x hx
theorem nsc_le (need old:Nat) (h:old < need):Builtin.nextslicecap need old <= 2 * need+192:=by
  unfold Builtin.nextslicecap
  split
  · omega
  · split
    · omega
    · have:Builtin.growBy need 4 old <= need+need / 4+192:=by
        simp only [Builtin.growBy]
        repeat' split
        all_goals omega
      omega
theorem appIn_ok {t u ty el e':TypeId} {inf:TypeInfo} {n len cap c':Nat} {base base':Option Addr} {y y':Value} {new:List Value} {v:Value} {n':Nat} (hH:HR ν H F w) (ht:P.underlying t=some (.slice el)) (hu:P.underlying u=some (.slice e')) (hi:P.info? el=some inf)
    (hx:VRi ν (.slice base len cap) (.slice base' len c')) (hy:VRi ν y y') (hsrc:srcA H inf.size y=some new) (hfl:flatL new=true) (hroom:len+lenV y <= c') (h:appIn H n inf.size len (lenV y) cap base new=some (.val v H' n')) :
    Effi P ν F n (Builtin.append_ #[t,u] ty #[.slice base' len c',y']) w v H' n':=by
  obtain ⟨new',hl,hlen,hS,-,-⟩:=srcA_ok hH hu hy hsrc
  have hS2:=hS hfl
  unfold appIn at h
  split at h
  · rename_i ad
    split at h
    · rename_i hsp
      split at h
      · rename_i H2 hp
        cases h
        cases hx with
        | atom _ h=>simp [atomV] at h
        | @slice hd b K _ _ o _ hν hcap =>
        obtain ⟨q1,q2,q3,q4,q5⟩:=putSeg_ok hH hν hl hp
        have hrun:=run_append_room_src (P:=P) w t u ty el inf ht hi b o len c' y' (lenV y) new' hS2 hroom q1 q2
        exact ⟨ν,_,_,hrun,.slice _ _ hν hcap,.refl _ _,q4,q5⟩
      · cases h
    · cases h
  · split at h
    · cases h
      cases hx with
      | atom _ _ =>
      cases hl
      have hS3:=hS hfl
      have hz:(Builtin.firstCells inf.size (lenV y) y').run P w=.ok #[] w:=hS3.cells
      refine ⟨ν,.slice none (len+lenV y) cap,w,?_,.atom _ rfl,.refl _ _,hH,Below.refl _ _⟩
      rcases hS3.kind with ⟨e',hk⟩ | hk <;> simp [Builtin.append_,run_underlying ht,run_underlying hk,sizeOf,typeInfo,hi,hS3.len,hz,hroom]
    · cases h
theorem appNew_ok {t u ty el e':TypeId} {inf:TypeInfo} {z:List Value} {n len cap c':Nat} {base base':Option Addr} {y y':Value} {old new:List Value} {v:Value} {n':Nat} (hH:HR ν H F w) (ht:P.underlying t=some (.slice el)) (hu:P.underlying u=some (.slice e')) (hi:P.info? el=some inf) (hz:zeroT P el=some z) (hzl:z.length=inf.size) (hsz:0 < inf.size)
    (hx:VRi ν (.slice base len cap) (.slice base' len c')) (hy:VRi ν y y') (hsrc:srcA H inf.size y=some new) (hfl:flatL new=true) (hold:srcA H inf.size (.slice base len cap)=some old) (hroom:c' < len+lenV y) (hb1:len+lenV y < 1000000) (hb2:inf.bytes < 1000001) (hn:ν n=none)
    (Hd:AH) (hd:∀ ν' w',HR ν' H F w' -> HR ν' Hd F w') (h:appNew Hd n inf.size len (lenV y) el old new=.val v H' n') :
    Effi P ν F n (Builtin.append_ #[t,u] ty #[.slice base' len c',y']) w v H' n':=by
  obtain ⟨new',hl,hlen,hS,-,-⟩:=srcA_ok hH hu hy hsrc
  obtain ⟨old',hl2,hlen2,-,hold',-⟩:=srcA_ok hH ht hx hold
  have hS:=hS hfl
  obtain ⟨zv,g1,g2,g3,i,g4,g5⟩:=zeroT_run (ν:=ν) hz
  rw [hi] at g4
  cases g4
  have hfit:Builtin.nextslicecap (len+lenV y) c' * inf.bytes <= 281474976710656:=by
    have h1:=nsc_le (len+lenV y) c' hroom
    have h2:Builtin.nextslicecap (len+lenV y) c' * inf.bytes <= 2000192 * 1000000:=Nat.mul_le_mul (by omega) (by omega)
    omega
  have hrun:=run_append_grow_src (P:=P) w t u ty el inf zv ht hi g5 base' len c' old' hold' y' (lenV y) new' hS hroom (by omega) hfit
  have hge:=grownCap_ge w (len+lenV y) c' el
  generalize grownCap w (len+lenV y) c' el=K at *
  unfold appNew at h
  cases h
  refine ⟨ν.upd n w.heap.size K,_,_,hrun,?_,.upd,?_,⟨rfl,rfl,rfl,by simp,λ k hk=>by omega⟩⟩
  · exact .slice _ _ Nu.upd_self ⟨λ e=>by unfold unk at e;omega,λ e=>by omega⟩
  · have hd1:HR ν Hd F w:=hd _ _ hH
    refine hd1.new hn (K:=K) ?_ (by rw [grownB_eq];rfl) (o:=.cells ((old'++new').toArray++Builtin.zeroCells zv.cells (K - (len+lenV y))) el) rfl
    rw [grownB_eq]
    have hcr:=CR.of (ty:=el) (ww:=inf.size) (K:=K) (rest:=(Builtin.zeroCells zv.cells (K - (len+lenV y))).toList) (hl2.append hl) (λ _=>by
      simp only [List.length_append,hlen,hlen2,Builtin.zeroCells,Array.toList_map,List.length_map,Array.toList_range,List.length_range,g2]
      have hlv:lenV (Value.slice base len cap)=len:=rfl
      rw [hlv]
      have:(⟨z⟩:Array Value).size=inf.size:=by simpa using hzl
      rw [this,<- Nat.add_mul,<- Nat.add_mul]
      congr 1
      omega)
    have e:((old'++new').toArray++Builtin.zeroCells zv.cells (K - (len+lenV y)))=⟨(old'++new')++(Builtin.zeroCells zv.cells (K - (len+lenV y))).toList⟩:=by apply Array.ext';simp
    rw [e]
    exact hcr
end ap
section ap
variable {ν ν':Nu} {P:Program} {G N:Nat} {T T':Tr Value} {a:Act} {H H':AH} {F:HL} {w w':World}
theorem le_of_blt_false {a b:Nat} (h:Nat.blt a b=false):b <= a:=by
  rcases Nat.lt_or_ge a b with e | e
  · have:Nat.blt a b=true:=Nat.ble_eq_true_of_le e
    rw [this] at h;cases h
  · exact e
theorem lt_of_ble_false {a b:Nat} (h:Nat.ble a b=false):b < a:=by
  rcases Nat.lt_or_ge b a with e | e
  · exact e
  · have:Nat.ble a b=true:=Nat.ble_eq_true_of_le e
    rw [this] at h;cases h
theorem appU_ok {t u ty el e':TypeId} {inf:TypeInfo} {z:List Value} {n len cap:Nat} {ad:Addr} {x' y y':Value} {new:List Value} {v:Value} {n':Nat} (hH:HR ν H F w) (ht:P.underlying t=some (.slice el)) (hu:P.underlying u=some (.slice e')) (hi:P.info? el=some inf) (hz:zeroT P el=some z) (hzl:z.length=inf.size) (hsz:0 < inf.size)
    (hx:VRi ν (.slice (some ad) len cap) x') (hy:VRi ν y y') (hsrc:srcA H inf.size y=some new) (hfl:flatL new=true) (hb1:len+lenV y < 1000000) (hb2:inf.bytes < 1000001) (hcap:unk <= cap) (hn:Fr ν n n') (h:appU H n inf.size len (lenV y) cap ad el new=some (.val v H' n')) :
    Effi P ν F n (Builtin.append_ #[t,u] ty #[x',y']) w v H' n':=by
  cases hx with
  | atom _ h=>simp [atomV] at h
  | @slice hd b K _ c' o _ hν hc =>
  unfold appU at h
  split at h
  case h_2=>cases h
  rename_i nn ww tyy hsp ho hcu hwid
  simp only at ho
  subst ho
  have hcap2:cap=unk:=Nat.eq_of_beq_eq_true hcu
  have hc':=hc.2 hcap
  rw [hcap2,Nat.sub_self,Nat.add_zero] at hc'
  unfold wid at hwid
  split at hwid
  case h_2=>cases hwid
  rename_i nn' tr ty' ww' hb
  simp only [Option.some.injEq,Prod.mk.injEq] at hwid
  obtain ⟨e1,e2,e3⟩:=hwid
  subst e1;subst e2;subst e3
  simp only at hb
  obtain ⟨c,ty2,fz,hw,hcr⟩:=hH.cells hb hν
  split at h
  case h_2=>cases h
  rename_i hwk hlk hty
  have hty':ty'=el:=Nat.eq_of_beq_eq_true hty
  have hwk':ww'=inf.size:=Nat.eq_of_beq_eq_true hwk
  have hlk':=le_of_ble hlk
  have hsize:=hcr.gr (by omega)
  rw [hwk'] at hsize
  have hle:=hcr.le
  split at h
  · rename_i hin
    have hin':=le_of_ble hin
    have:(len+lenV y) * inf.size <= K * inf.size:=by omega
    have hroom:=Nat.le_of_mul_le_mul_right this hsz
    exact appIn_ok hH ht hu hi (.slice 0 len hν hc) hy hsrc hfl (by omega) h
  · rename_i hin
    have hin':=lt_of_ble_false hin
    split at h
    case h_2=>cases h
    rename_i old hold
    have hval:appNew (hset H hd none) n inf.size len (lenV y) el old new=.val v H' n':=by simpa using h
    have hn':ν n=none:=by
      unfold appNew at hval
      cases hval
      exact hn n (Nat.le_refl _) (by omega)
    by_cases hroom:len+lenV y <= c'
    · obtain ⟨new',hl,hlen,hS,-,-⟩:=srcA_ok hH hu hy hsrc
      obtain ⟨old',hl2,hlen2,-,-,hold'⟩:=srcA_ok hH ht (.slice 0 len hν hc) hold
      have hS:=hS hfl
      have hfit:(len+lenV y) * inf.size <= c.size:=by
        rw [hsize];exact Nat.mul_le_mul_right _ (by omega)
      have hcell:∀ j,j < new'.length -> (w.cell? ⟨b,0+len * inf.size+j,none⟩).isSome=true:=λ j hj=>by
        rw [cell_of hw,Array.getElem?_eq_getElem (by rw [hlen] at hj;rw [Nat.add_mul] at hfit;omega)];rfl
      have hfrz:∀ j,j < new'.length -> w.frozen? ⟨b,0+len * inf.size+j,none⟩=false:=λ j hj=>by
        obtain ⟨lo,hi⟩:=fz
        have:=hcr.fz
        cases this
        simp [World.frozen?,hw]
      have hrun:=run_append_room_src (P:=P) w t u ty el inf ht hi b 0 len c' y' (lenV y) new' hS hroom hcell hfrz
      obtain ⟨c2,e1,e2,e3⟩:=setCells_at b new' (0+len * inf.size) w hw
      unfold appNew at hval
      cases hval
      have hdel:HR ν (hset H hd none) F (w.setCells b (0+len * inf.size) new'):=hH.del' hb rfl hν (λ k hk=>setCells_otheri b _ _ _ _ hk)
      refine ⟨ν.upd n b K,_,_,hrun,?_,.upd,?_,setCells_belowi _ _ _ _⟩
      · exact .slice _ _ Nu.upd_self ⟨λ e=>by unfold unk at e;omega,λ e=>by omega⟩
      · refine hdel.add hn' e1 ?_ (by rw [grownB_eq];rfl) (λ x hx=>hH.apt _ _ _ _ hb hν x hx) (λ k b' K' hk e=>?_)
        · rw [grownB_eq]
          have hold2:∀ i,i < len * inf.size -> c[i]?=old'[i]?:=λ i hi=>by
            have hlv:lenV (Value.slice (some ⟨hd,0,none⟩) len cap)=len:=rfl
            rw [hlv] at hlen2 hold'
            have hcells:((c.toList.drop 0).take (len * inf.size)).length=len * inf.size:=by simp;omega
            have h2:=run_firstCells_some (P:=P) w inf.size len ⟨b,0,none⟩ len c' ((c.toList.drop 0).take (len * inf.size)) hcells (λ j u hj=>by
              rw [add_eq,cell_of hw]
              have hjl:=(List.getElem?_eq_some_iff.1 hj).1
              rw [hcells] at hjl
              rw [List.getElem?_take_of_lt hjl,List.getElem?_drop] at hj
              simpa using hj)
            rw [h2] at hold'
            simp only [Result.ok.injEq,and_true] at hold'
            have h3:old'=(c.toList.drop 0).take (len * inf.size):=by
              have:=congrArg Array.toList hold'
              simpa using this.symm
            rw [h3,List.getElem?_take_of_lt hi]
            simp
          have hlv:lenV (Value.slice (some ⟨hd,0,none⟩) len cap)=len:=rfl
          rw [hlv] at hlen2
          have hlo:old.length=len * inf.size:=by rw [<- hlen2,hl2.length]
          have hln:new.length=lenV y * inf.size:=by rw [<- hlen,hl.length]
          refine ⟨hcr.ty.trans hty',?_,hcr.fz,λ i hi=>?_,λ _=>by rw [e2,hsize]⟩
          · rw [e2,List.length_append,hlo,hln,<- Nat.add_mul];exact hfit
          · have hi2:i < (len+lenV y) * inf.size:=by rw [List.length_append,hlo,hln,<- Nat.add_mul] at hi;exact hi
            obtain ⟨v',g1,g2⟩:=(hl2.append hl).get (List.getElem?_eq_getElem hi)
            refine ⟨v',?_,by rw [ofL_get0 hi];exact g2⟩
            rw [e3 i (by omega),<- g1]
            by_cases h1:i < len * inf.size
            · rw [dif_neg (by omega),hold2 i h1,List.getElem?_append_left (by omega)]
            · rw [dif_pos ⟨by omega,by rw [hlen];rw [Nat.add_mul] at hi2;omega⟩,List.getElem?_append_right (by omega),hlen2]
              rw [<- List.getElem?_eq_getElem]
              congr 1;omega
        · rw [hget_set] at hk
          split at hk
          · cases hk
          · rename_i hne
            exact hne (hH.inj _ _ _ _ _ _ _ hb hk hν e)
    · exact appNew_ok hH ht hu hi hz hzl hsz (.slice 0 len hν hc) hy hsrc hfl hold (by omega) hb1 hb2 hn' (hset H hd none) (λ ν' w' h'=>h'.del hd) hval
def HEq (H H':AH):Prop:=∀ h,hget H' h=hget H h \/ ∃ n t t' ty w ro,hget H h=some (.cells n t ty w ro) /\ hget H' h=some (.cells n t' ty w ro) /\ ∀ i,i < n -> tget t' i=tget t i
theorem HR.heq (h:HR ν H F w) (e:HEq H H'):HR ν H' F w:=by
  have back:∀ k b,hget H' k=some b -> ∃ b0,hget H k=some b0 /\ ∀ K o,OR ν K b0 o -> OR ν K b o:=λ k b hk=>by
    rcases e k with e1 | ⟨n,t,t',ty,wd,ro,e1,e2,e3⟩
    · rw [e1] at hk;exact ⟨b,hk,λ _ _ h=>h⟩
    · rw [e2] at hk
      cases hk
      refine ⟨_,e1,λ K o ho=>?_⟩
      cases o with
      | cells c ty' fz =>
        have ho:CR ν K n t ty wd c ty' fz:=ho
        exact (⟨ho.ty,ho.le,ho.fz,λ i hi=>by obtain ⟨v',g1,g2⟩:=ho.get i hi;exact ⟨v',g1,by rw [e3 i hi];exact g2⟩,ho.gr⟩:CR ν K n t' ty wd c ty' fz)
      | _=>exact ho
  refine ⟨λ k b hk=>?_,λ h₁ h₂ b₁ b₂ r K₁ K₂ g1 g2=>?_,h.frm,λ k b r K hk=>?_⟩
  · obtain ⟨b0,g1,g2⟩:=back k b hk
    obtain ⟨r,K,o,g3,g4,g5⟩:=h.blk k b0 g1
    exact ⟨r,K,o,g3,g4,g2 K o g5⟩
  · obtain ⟨c1,d1,-⟩:=back _ _ g1
    obtain ⟨c2,d2,-⟩:=back _ _ g2
    exact h.inj _ _ _ _ _ _ _ d1 d2
  · obtain ⟨b0,g1,g2⟩:=back k b hk
    exact h.apt k b0 r K g1
theorem readN_len (t:Tr Value):∀ (k i:Nat),(readN t i k).length=k
  | 0,_=>rfl
  | k+1,i=>by simp [readN,readN_len t k]
theorem readN_get (t:Tr Value):∀ (k i j:Nat),j < k -> (readN t i k)[j]?=some (tget t (i+j))
  | 0,_,_,h=>absurd h (by omega)
  | k+1,i,j,h=>by
    cases j with
    | zero=>simp [readN]
    | succ j=>simp only [readN,List.getElem?_cons_succ];rw [readN_get t k (i+1) j (by omega)];congr 2;omega
theorem contB_eq (tr:Tr Value) (i:Nat) (new:List Value) (el:TypeId) (k:Nat):contB tr i new el k=.cells (i+new.length) (writeN tr i new) el k false:=by
  unfold contB
  split <;> rename_i h <;> rw [h,lenL_eq]
theorem appU2_sim {n k len add cap:Nat} {ad:Addr} {el:TypeId} {new:List Value} {v:Value} {n':Nat} (h:appU2 H n k len add cap ad el new=some (.val v H' n')):∃ H0,appU H n k len add cap ad el new=some (.val v H0 n') /\ HEq H0 H':=by
  unfold appU2 at h
  split at h
  case h_2=>cases h
  rename_i nn tr ty w hsp ho hcu hb
  split at h
  case h_2=>cases h
  rename_i h1 h2 h3
  have hwid:wid H ad=some (nn,w,ty):=by unfold wid;rw [hb]
  split at h
  · rename_i hin
    refine ⟨H',?_,λ h=>.inl rfl⟩
    unfold appU
    rw [hsp,ho,hcu,hwid]
    simp only [h1,h2,h3,hin]
    exact h
  · rename_i hin
    cases h
    refine ⟨hset (hset H ad.block none) n (some (grownB (readN tr 0 (len * k)++new) el k)),?_,λ h=>?_⟩
    · unfold appU
      rw [hsp,ho,hcu,hwid]
      simp only [h1,h2,h3,hin,srcA,hsp,hb,ho,Nat.zero_add]
      rfl
    · by_cases hh:n=h
      · refine .inr ⟨(readN tr 0 (len * k)++new).length,Tr.ofL undef (readN tr 0 (len * k)++new) 0 .lf,writeN tr (len * k) new,el,k,false,by rw [hget_set,if_pos hh,grownB_eq],?_,λ i hi=>?_⟩
        · rw [hget_set,if_pos hh,contB_eq,List.length_append,readN_len]
        · rw [ofL_get0 hi,writeN_get]
          rw [List.length_append,readN_len] at hi
          split
          · rename_i hj
            rw [List.getElem_append_right (by rw [readN_len];omega)]
            congr 1
            rw [readN_len]
          · rename_i hj
            have hi2:i < len * k:=by omega
            rw [List.getElem_append_left (by rw [readN_len];exact hi2)]
            have:=readN_get tr (len * k) 0 i hi2
            rw [Nat.zero_add] at this
            rw [List.getElem?_eq_getElem (by rw [readN_len];exact hi2)] at this
            exact (Option.some.inj this).symm
      · exact .inl ((hget_set _ _ _ _).trans ((if_neg hh).trans ((if_neg hh).symm.trans (hget_set _ _ _ _).symm)))
theorem appU2_ok {t u ty el e':TypeId} {inf:TypeInfo} {z:List Value} {n len cap:Nat} {ad:Addr} {x' y y':Value} {new:List Value} {v:Value} {n':Nat} (hH:HR ν H F w) (ht:P.underlying t=some (.slice el)) (hu:P.underlying u=some (.slice e')) (hi:P.info? el=some inf) (hz:zeroT P el=some z) (hzl:z.length=inf.size) (hsz:0 < inf.size)
    (hx:VRi ν (.slice (some ad) len cap) x') (hy:VRi ν y y') (hsrc:srcA H inf.size y=some new) (hfl:flatL new=true) (hb1:len+lenV y < 1000000) (hb2:inf.bytes < 1000001) (hcap:unk <= cap) (hn:Fr ν n n') (h:appU2 H n inf.size len (lenV y) cap ad el new=some (.val v H' n')) :
    Effi P ν F n (Builtin.append_ #[t,u] ty #[x',y']) w v H' n':=by
  obtain ⟨H0,h1,h2⟩:=appU2_sim h
  obtain ⟨ν',a,b,g1,g2,g3,g4,g5⟩:=appU_ok hH ht hu hi hz hzl hsz hx hy hsrc hfl hb1 hb2 hcap hn h1
  exact ⟨ν',a,b,g1,g2,g3,g4.heq h2,g5⟩
theorem appV_ok {t u ty el e':TypeId} {n:Nat} {x x' y y':Value} {v:Value} {n':Nat} (hH:HR ν H F w) (ht:P.underlying t=some (.slice el)) (hu:P.underlying u=some (.slice e')) (hx:VRi ν x x') (hy:VRi ν y y') (hn:Fr ν n n') (h:appVi P H n el x y=some (.val v H' n')) :
    Effi P ν F n (Builtin.append_ #[t,u] ty #[x',y']) w v H' n':=by
  unfold appVi at h
  split at h
  case h_2=>cases h
  rename_i inf z hi hz
  split at h
  case h_2=>cases h
  rename_i k by_ base len cap hk hby
  have hk:inf.size=k+1:=hk
  have hby:inf.bytes=by_+1:=hby
  split at h
  case h_2=>cases h
  rename_i new hsrc hzl hb1 hb2
  rw [<- hk] at hsrc hzl h
  have hzl':z.length=inf.size:=by rw [lenL_eq] at hzl;exact Nat.eq_of_beq_eq_true hzl
  have hb1':=blt_lt hb1
  have hb2':=blt_lt hb2
  split at h
  · rename_i hfl hcu
    have hcu':=blt_lt hcu
    have hreal:∃ base',x'=.slice base' len cap /\ VRi ν (.slice base len cap) (.slice base' len cap):=by
      cases hx with
      | atom _ h=>exact ⟨_,rfl,.atom _ h⟩
      | slice o _ hν hc=>obtain rfl:=hc.1 hcu';exact ⟨_,rfl,.slice o _ hν hc⟩
    obtain ⟨base',rfl,hr⟩:=hreal
    split at h
    · rename_i hin
      exact appIn_ok hH ht hu hi hr hy hsrc hfl (le_of_ble hin) h
    · rename_i hin
      split at h
      · rename_i old hold
        have hval:appNew H n inf.size len (lenV y) el old new=.val v H' n':=by simpa using h
        have hn':ν n=none:=by
          have hv2:=hval
          unfold appNew at hv2
          cases hv2
          exact hn n (Nat.le_refl _) (by omega)
        exact appNew_ok hH ht hu hi hz hzl' (by omega) hr hy hsrc hfl hold (lt_of_ble_false hin) hb1' (by omega) hn' H (λ _ _ h=>h) hval
      · cases h
  · rename_i hfl hcu
    split at h
    · exact appU2_ok hH ht hu hi hz hzl' (by omega) hx hy hsrc hfl hb1' (by omega) (le_of_blt_false hcu) hn h
    · cases h
  · cases h
end ap
end Go.Proofs.YthoijjeddhfcnaaGreat
