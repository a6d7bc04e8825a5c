import Derived.Test.YthoijjeddhfcnaaGreatDoorZ22
set_option maxHeartbeats 4000000
set_option maxRecDepth 100000
set_option linter.unusedSimpArgs false
set_option linter.unusedVariables false
namespace Go.Proofs.YthoijjeddhfcnaaGreatDoor
open IntKind
open Go.RowKit
section nw
variable {ν ν':Nu} {P:Program} {G N:Nat} {T T':Tr Value} {a:Act} {H H':AH} {F:HL} {w w':World}
theorem fg(o:Obj)(w:World):(newObj o).run P w=.ok w.heap.size { w with heap:=w.heap.push o }:=rfl
def Mk.ok:Mk -> Prop
 | .sl _ c=>c<lm
 | _=>True
theorem Ft{m:Mk}(h:m.ok){n r K:Nat}(hν:ν n=some (r,K)):VRi ν (m.val n) (m.val r):=by
 cases m with
 | ptr=>exact .ptr 0 hν
 | sl l c=>exact .slice 0 l hν ⟨λ _=>rfl,λ e=>by unfold Mk.ok at h;omega⟩
 | mp=>exact .map hν
theorem Fu(z:List Value)(n:Nat):(lJ z n).length=n*z.length:=by
 induction n with
 | zero=>simp[lJ]
 | succ n ih=>simp[lJ,ih,Nat.succ_mul];omega
theorem wm(z:List Value):∀ (n i:Nat),i<n*z.length -> (lJ z n)[i]?=z[i % z.length]?
 | 0,i,h=>by omega
 | n+1,i,h=>by
  rw[lJ]
  rcases Nat.lt_or_ge i z.length with h1|h1
  ·rw[List.getElem?_append_left h1,Nat.mod_eq_of_lt h1]
  ·rw[List.getElem?_append_right h1,wm z n _ (by rw[Nat.succ_mul] at h;omega),Nat.mod_eq_sub_mod h1]
theorem su(z:List Value)(n:Nat)(hz:0<z.length):(Array.range (n*z.length)).map (λ i=>(⟨z⟩:Array Value)[i % (⟨z⟩:Array Value).size]!)=⟨lJ z n⟩:=by
 apply Array.ext'
 apply List.ext_getElem?
 intro i
 rcases Nat.lt_or_ge i (n*z.length) with h|h
 ·have h2:i % z.length<z.length:=Nat.mod_lt _ hz
  simp only[Array.toList_map,Array.toList_range,List.getElem?_map,List.getElem?_range h,Option.map_some]
  rw[wm z n i h]
  simp[h2]
 ·rw[List.getElem?_eq_none (by simp;exact h),List.getElem?_eq_none (by rw[Fu];exact h)]
theorem qd{z:List Value}(h:LR ν z z):∀n,LR ν (lJ z n) (lJ z n)
 | 0=>.nil
 | n+1=>h.append (qd h n)
theorem lq{t el:TypeId}(h:r9 P t=some el):P.underlying t=some (.slice el):=by
 unfold r9 at h
 split at h
 ·rename_i e;cases h;exact e
 ·cases h
theorem zV{o:Oper}{b:AB}{m:Mk}(h:rd P o T=some (b,m)){l:List Operand}(hl:cD o.op=some l)(aT:OK ν T a l) :
  Fq b=true /\ m.ok /\ ∃o',(∀K,OR ν K b o') /\ ∀w,(execOp a.eval o).run P w=.ok (.value (m.val w.heap.size)) { w with heap:=w.heap.push o' }:=by
 unfold rd at h
 split at h
 ·rename_i t ho
  split at h
  ·rename_i z hz
   cases h
   obtain⟨zv,h1,h2,h3,-⟩:=jA (ν:=ν) hz
   refine⟨jY _ _,trivial,_,λ K=>OR.cellsB h3,λ w=>?_⟩
   simp[execOp,ho,Instr.alloc,Sem.run_bind,h1,newVar,newRow,h2,fg,cT,Result.andThen,Mk.val]
  ·cases h
 ·rename_i t x ho
  rw[ho] at hl;simp only[cD,Option.some.injEq] at hl;subst hl
  cases h
  refine⟨jY _ _,trivial,_,λ K=>OR.cellsB (jV (aT x (by simp))),λ w=>?_⟩
  simp[execOp,ho,Instr.box,Sem.run_bind,newVar,newRow,fg,cT,Result.andThen,Mk.val,f7]
 ·rename_i t len parts ho
  rw[ho] at hl;simp only[cD,Option.some.injEq] at hl;subst hl
  split at h
  case h_2=>cases h
  rename_i el he
  split at h
  case h_2=>cases h
  rename_i k z hk hz
  split at h
  case h_2=>cases h
  rename_i g1 g2 g3
  split at h
  case h_2=>cases h
  rename_i l hf
  cases h
  have hu:=lq he
  have Rm:z.length=k:=by rw[eo] at g2;exact Nat.eq_of_beq_eq_true g2
  have P2:=dU g3
  have g1':=cg g1
  obtain⟨zv,h1,h2,h3,-⟩:=jA (ν:=ν) hz
  obtain⟨l',e1,e2⟩:=nH (p5 aT) (qd h3 len) hf
  refine⟨jY _ _,?_,_,λ K=>OR.cellsB e2,λ w=>?_⟩
  ·have:len <= len*k:=Nat.le_mul_of_pos_right _ P2
   show len<lm
   unfold lm;omega
  have h6:=jX e1
  have h7:(parts.map λ (p:Nat × Operand)=>(p.1,a.eval p.2)).toList=parts.toList.map λ p=>(p.1,a.eval p.2):=by simp
  have h8:=su z len (by omega)
  rw[Rm] at h8
  have hs:=ez hk w
  unfold Go.execOp
  rw[ho]
  simp only
  rw[Sem.run_bind]
  have:(Instr.buildSlice t len (parts.map λ (p:Nat × Operand)=>(p.1,a.eval p.2))).run P w=.ok (.slice (some ⟨w.heap.size,0,none⟩) len len) { w with heap:=w.heap.push (.cells ⟨l'⟩ el (0,0)) }:=by
   unfold Instr.buildSlice
   rw[Sem.run_bind,bg hu]
   simp only[Result.andThen_ok]
   rw[Sem.run_bind,hs]
   simp only[Result.andThen_ok]
   rw[if_neg (by simp;omega)]
   by_cases Sf:len*k=0
   ·have hlen:len=0:=by
     rcases Nat.eq_zero_or_pos len with e|e
     ·exact e
     ·have:=Nat.mul_pos e P2;omega
    subst hlen
    simp only[Nat.zero_mul,if_true]
    rw[Sem.run_bind]
    simp only[cT,Result.andThen_ok]
    have h9:(Array.range 0).map (λ i=>(#[]:Array Value)[i % (#[]:Array Value).size]!)=⟨lJ z 0⟩:=by simp[lJ]
    rw[h9,h7,h6]
    simp only[Sem.run_bind,newRow,fg,Result.andThen_ok,cT]
   ·rw[if_neg Sf]
    rw[Sem.run_bind,h1]
    simp only[Result.andThen_ok]
    rw[Sem.run_bind]
    simp only[cT,Result.andThen_ok,h2]
    rw[h8,h7,h6]
    simp only[Sem.run_bind,newRow,fg,Result.andThen_ok,cT]
  rw[this]
  rfl
 ·rename_i t lo co ho
  rw[ho] at hl;simp only[cD,Option.some.injEq] at hl;subst hl
  split at h
  case h_2=>cases h
  rename_i el he
  split at h
  case h_2=>cases h
  rename_i inf hi
  split at h
  case h_2=>cases h
  rename_i z n m' hz hn hm
  split at h
  case h_2=>cases h
  rename_i g1 g2 g3 g4 g5 g6
  cases h
  have hu:=lq he
  have Rm:z.length=inf.size:=by rw[eo] at g4;exact Nat.eq_of_beq_eq_true g4
  have P2:=dU g5
  have g1':=cg g1
  have g2':=cg g2
  have g3':=dU g3
  have g6':=dU g6
  obtain⟨zv,h1,h2,h3,-⟩:=jA (ν:=ν) hz
  obtain⟨kn,en⟩:=ml hn (aT lo (by simp))
  obtain⟨km,em⟩:=ml hm (aT co (by simp))
  refine⟨jY _ _,g3',_,λ K=>OR.cellsB (qd h3 m'),λ w=>?_⟩
  have h8:=su z m' (by omega)
  rw[Rm] at h8
  unfold lm at g3'
  have w1:i64.wrap (n:Int)=(n:Int):=IntWalk.i64_in _ (by omega)
  have w2:i64.wrap (m':Int)=(m':Int):=IntWalk.i64_in _ (by omega)
  have Pz:fe P el=some inf.size:=by unfold fe;rw[hi];rfl
  have hs:=ez Pz
  have hti:=λ W=>ep hi W
  have q1:¬ ((281474976710656:Int)<(inf.bytes:Int)*(m':Int)):=by
   have:(inf.bytes:Int)*(m':Int)=((inf.bytes*m':Nat):Int):=by simp
   omega
  have q2:¬ ((m':Int)<0):=by omega
  have q3:¬ ((n:Int)<0):=by omega
  have q4:¬ ((m':Int)<(n:Int)):=by omega
  have n_:∀x W,(askRoom x).run P W=.ok () W:=λ x W=>by unfold askRoom;split <;> rfl
  unfold Go.execOp
  rw[ho]
  simp only
  rw[Sem.run_bind]
  have:(Instr.makeSlice t (a.eval lo) (a.eval co)).run P w=.ok (.slice (some ⟨w.heap.size,0,none⟩) n m') { w with heap:=w.heap.push (.cells ⟨lJ z m'⟩ el (0,0)) }:=by
   unfold Instr.makeSlice
   rw[Sem.run_bind,bg hu]
   simp only[Result.andThen_ok]
   rw[en,em]
   simp only[asInt,asIntOf,Sem.run_bind,cT,Result.andThen_ok,hti,w1,w2]
   rw[if_neg (by simp[q1,q2,q3,q4])]
   simp only[Sem.run_bind,n_,Result.andThen_ok,hs,Int.toNat_natCast]
   by_cases Sf:m'*inf.size=0
   ·have hlen:m'=0:=by
     rcases Nat.eq_zero_or_pos m' with e|e
     ·exact e
     ·have:=Nat.mul_pos e P2;omega
    subst hlen
    simp only[Nat.zero_mul,if_true]
    rw[Sem.run_bind]
    simp only[cT,Result.andThen_ok]
    have h9:(Array.range 0).map (λ i=>(#[]:Array Value)[i % (#[]:Array Value).size]!)=⟨lJ z 0⟩:=by simp[lJ]
    rw[h9]
    simp only[Sem.run_bind,newRow,fg,Result.andThen_ok,cT]
   ·rw[if_neg Sf]
    simp only[Sem.run_bind,h1,cT,Result.andThen_ok,h2]
    rw[h8]
    simp only[Sem.run_bind,newRow,fg,Result.andThen_ok,cT]
  rw[this]
  rfl
 ·rename_i t r ho
  have hmk:∀W:World,(newObj (.map #[] 0)).run P W=.ok W.heap.size { W with heap:=W.heap.push (.map #[] 0) }:=λ W=>rfl
  split at h
  ·cases h
   refine⟨rfl,trivial,.map #[] 0,λ K=>⟨rfl,.nil⟩,λ w=>?_⟩
   simp[execOp,ho,Instr.makeMap,Sem.run_bind,hmk,cT,Result.andThen,Mk.val]
  ·rename_i r
   rw[ho] at hl;simp only[cD,Option.some.injEq] at hl;subst hl
   split at h
   ·rename_i kt et k n hu he
    cases h
    have hr:=aT r (by simp)
    rw[he] at hr
    have er:=hr.plain_eq rfl
    refine⟨rfl,trivial,.map #[] 0,λ K=>⟨rfl,.nil⟩,λ w=>?_⟩
    simp[execOp,ho,Instr.makeMap,Sem.run_bind,bg hu,er,asInt,asIntOf,hmk,cT,Result.andThen,Mk.val]
   ·cases h
 ·cases h
theorem Fv{d:TypeDesc}{k k':Value}(h:kL k k'=some true)(hk:tM d k=true):k'=k /\ Instr.sameBits 10000 k' k=true:=by
 unfold kL at h
 split at h
 ·split at h
  ·rename_i e
   have e':=of_decide_eq_true e
   simp only[Option.some.injEq,beq_iff_eq] at h
   subst e';subst h
   exact⟨rfl,by simp[Instr.sameBits]⟩
  ·cases h
 ·simp only[Option.some.injEq] at h
  have:=Dc.1 h
  subst this
  exact⟨rfl,by simp[Instr.sameBits];exact Hy _⟩
 ·simp only[Option.some.injEq,beq_iff_eq] at h
  subst h
  exact⟨rfl,by simp[Instr.sameBits]⟩
 ·cases h
theorem yC{d:TypeDesc}{k v v':Value}(hk:tM d k=true)(hv:VRi ν v v'){es:List (Value × Value × Nat)}{Qf:List MapEntry}(h:ER ν es Qf):∀ {r:List (Value × Value × Nat)} {cl Yi:Nat} (i:Nat),pQ k v cl es=some (r,Yi) ->
  (Instr.findNow d k Qf i=some none /\ Yi=cl+1 /\ ER ν r (Qf++[⟨k,v',cl⟩])) \/ (∃j u,Instr.findNow d k Qf i=some (some (i+j,u)) /\ Yi=cl /\ (Qf[j]?).map (·.key)=some k /\ Instr.sameBits 10000 k k=true /\ ER ν r (Qf.modify j λ e=>{ e with key:=k,val:=v' })):=by
 induction h with
 | nil=>intro r cl Yi i h;rw[pQ] at h;cases h;exact .inl ⟨rfl,rfl,.cons k cl hv .nil⟩
 | @cons u0 u0' l0 l0' k' b YA h0 ih =>
  intro r cl Yi i h
  rw[pQ] at h
  split at h
  ·rename_i e
   cases h
   obtain⟨e1,e2⟩:=Fv e hk
   subst e1
   refine .inr ⟨0,u0',?_,rfl,rfl,e2,.cons k' b hv h0⟩
   rw[Instr.findNow];simp only[f8 e hk];rfl
  ·rename_i e
   split at h
   ·rename_i l c hl
    cases h
    rcases ih (i+1) hl with ⟨h1,h2,h3⟩|⟨j,u,h1,h2,h3,h4,h5⟩
    ·exact .inl ⟨by rw[Instr.findNow];simp only[f8 e hk];exact h1,h2,.cons k' b YA h3⟩
    ·refine .inr ⟨j+1,u,?_,h2,by simpa using h3,h4,by simpa using ER.cons k' b YA h5⟩
     rw[Instr.findNow];simp only[f8 e hk];rw[h1];congr 3;omega
   ·cases h
  ·cases h
theorem zW{t:TypeId}{m m' k v v':Value}(hH:HR ν H F w)(hm:VRi ν m m')(hv:VRi ν v v')(h:Iz P t H m k v=some H'):pl k=true /\ ∃w',(Instr.mapUpdate t m' k v').run P w=.ok () w' /\ HR ν H' F w' /\ Below 0 w w':=by
 unfold Iz at h
 split at h
 case h_2=>cases h
 rename_i kt et hu
 split at h
 case h_2=>cases h
 rename_i r hk
 split at h
 case h_2=>cases h
 rename_i es cl hb
 split at h
 case h_2=>cases h
 rename_i es2 cl2 hp
 cases h
 obtain⟨d,hd,Tt⟩:=yA hk
 refine⟨(p6 Tt).1,?_⟩
 cases hm with
 | atom _ h=>simp[cQ] at h
 | @map _ b K hν =>
 obtain⟨Qf,hw,hE⟩:=hH.map hb hν
 have hg:(getObj b).run P w=.ok (.map Qf cl) w:=lW hw
 have hf:∀r,Instr.findNow d k Qf.toList 0=some r -> (Instr.findKey kt k Qf.toList).run P w=.ok r w:=λ r hr=>by
  unfold Instr.findKey
  rw[Sem.run_bind,bg hd]
  simp only[Result.andThen_ok,hr]
  rfl
 have iN:=dG hw
 have iF:∀o:Obj,(∃es c,o=.map es c) -> (setObj b o).run P w=.ok () { w with heap:=w.heap.setIfInBounds b o }:=λ o ho=>by
  obtain⟨e1,c1,rfl⟩:=ho
  unfold setObj
  rw[Sem.run.eq_def]
  simp only[hw]
  rfl
 have UF:∀ (o:Obj),OR ν K (.map es2 cl2) o -> HR ν (c9 H r (some (.map es2 cl2))) F { w with heap:=w.heap.setIfInBounds b o }:=λ o ho=>by
  refine hH.upd (r:=b) (K:=K) hb rfl rfl hν (o':=o) ?_ ho (λ k hk=>?_)
  ·show (w.heap.setIfInBounds b o)[b]?=_
   rw[Array.getElem?_setIfInBounds_self_of_lt iN]
  ·show (w.heap.setIfInBounds b o)[k]?=_
   rw[Array.getElem?_setIfInBounds_ne (Ne.symm hk)]
 have hB:∀o:Obj,Below 0 w { w with heap:=w.heap.setIfInBounds b o }:=λ o=>⟨rfl,rfl,rfl,by simp,λ k hk=>by omega⟩
 rcases yC Tt hv hE 0 hp with ⟨h1,h2,h3⟩|⟨j,u,h1,h2,h3,h4,h5⟩
 ·refine⟨_,?_,UF (.map (Qf.push ⟨k,v',cl⟩) (cl+1)) ⟨h2.symm,by simpa using h3⟩,hB _⟩
  unfold Instr.mapUpdate
  rw[Sem.run_bind,bg hu]
  simp only[Result.andThen_ok,Sem.run_bind,hg,fO hk,hf _ h1]
  exact iF _ ⟨_,_,rfl⟩
 ·rw[Nat.zero_add] at h1
  refine⟨_,?_,UF (.map (Qf.modify j λ e=>{ e with key:=k,val:=v' }) cl) ⟨h2.symm,by rw[Array.toList_modify];exact h5⟩,hB _⟩
  unfold Instr.mapUpdate
  rw[Sem.run_bind,bg hu]
  simp only[Result.andThen_ok,Sem.run_bind,hg,fO hk,hf _ h1]
  have h6:(Qf[j]?).map (·.key)=some k:=by simpa using h3
  rw[h6]
  have h7:(Instr.keyThatStays k k).run P w=.ok k w:=by
   unfold Instr.keyThatStays
   rw[if_pos h4];rfl
  simp only[Option.getD_some,h7,Result.andThen_ok]
  exact iF _ ⟨_,_,rfl⟩
end nw
structure Ext(ν ν':Nu)(n n':Nat):Prop where
 le:n <= n'
 out:∀h,(h<n \/ n' <= h) -> ν' h=ν h
def Fr(ν:Nu)(n n':Nat):Prop:=∀h,n <= h -> h<n' -> ν h=none
theorem Ext.sub{ν ν':Nu}{n n':Nat}(h:Ext ν ν' n n')(hf:Fr ν n n'):ν.Le ν':=λ k x hx=>by
 rw[h.out k];exact hx
 rcases Nat.lt_or_ge k n with h1|h1
 ·exact .inl h1
 ·rcases Nat.lt_or_ge k n' with h2|h2
  ·rw[hf k h1 h2] at hx;cases hx
  ·exact .inr h2
theorem Ext.refl(ν:Nu)(n:Nat):Ext ν ν n n:=⟨Nat.le_refl _,λ _ _=>rfl⟩
theorem Ext.trans{a b c:Nu}{n m k:Nat}(h:Ext a b n m)(h':Ext b c m k):Ext a c n k :=
 ⟨Nat.le_trans h.le h'.le,λ i hi=>by
  have h1:=h.le
  have h2:=h'.le
  rw[h'.out i (by omega),h.out i (by omega)]⟩
theorem Ext.fr{a b:Nu}{n m k:Nat}(h:Ext a b n m)(hf:Fr a n k)(hm:m <= k):Fr b m k:=λ i h1 h2=>by
 have:=h.le
 rw[h.out i (.inr h1)];exact hf i (by omega) h2
theorem Ext.upd{ν:Nu}{n r K:Nat}:Ext ν (ν.upd n r K) n (n+1):=⟨by omega,λ h hh=>eK (by omega)⟩
section ap
variable {ν ν':Nu} {P:Program} {G N:Nat} {T T':Tr Value} {a:Act} {H H':AH} {F:HL} {w w':World}
structure Effi(P:Program)(ν:Nu)(F:HL)(n:Nat)(s:Sem Value)(w:World)(v:Value)(H':AH)(n':Nat):Prop where
 h:∃ν' v' w',s.run P w=.ok v' w' /\ VRi ν' v v' /\ Ext ν ν' n n' /\ HR ν' H' F w' /\ Below 0 w w'
theorem lr{k:Nat}{u e':TypeId}{y y':Value}{new:List Value}(hH:HR ν H F w)(hu:P.underlying u=some (.slice e'))(hy:VRi ν y y')(h:oI H k y=some new) :
  ∃I_,LR ν new I_ /\ I_.length=d9 y*k /\ (jv new=true -> Src P k u y' (d9 y) I_ w) /\ (Builtin.firstCells k (d9 y) y').run P w.drew=.ok I_.toArray w.drew /\ (Builtin.firstCells k (d9 y) y').run P w=.ok I_.toArray w:=by
 unfold oI at h
 split at h
 ·split at h
  ·cases h
   rename_i c
   cases hy
   refine⟨[],.nil,by simp[d9],λ _=>Src.ofNil w hu _,?_,?_⟩
   ·exact run_firstCells_none _ _ _ _ _
   ·exact run_firstCells_none _ _ _ _ _
  ·cases h
 ·rename_i ad n c
  cases hy with
  | atom _ h=>simp[cQ] at h
  | @slice hd b K _ c' o _ hν hcap =>
  split at h
  case h_2=>cases h
  rename_i nn tr ty ww ro hs hb
  split at h
  case h_2=>cases h
  rename_i hle
  cases h
  simp only at hb hle
  obtain⟨cc,ty',fz,hw,hc⟩:=hH.cells hb hν
  have Ua:=cg hle
  have hl:=jB hc.le hc.get (n*k) o Ua
  have Sg:=hc.le
  have hlen:((cc.toList.drop o).take (n*k)).length=n*k:=by simp;omega
  have Px:∀ (W:World),W.heap=w.heap -> ∀ (j:Nat) (u:Value),((cc.toList.drop o).take (n*k))[j]?=some u -> W.cell? ((⟨b,o,none⟩:Addr).add j)=some u:=λ W hW j u hj=>by
   rw[mj,ln (by rw[hW];exact hw)]
   have RK:=(List.getElem?_eq_some_iff.1 hj).1
   rw[hlen] at RK
   rw[List.getElem?_take_of_lt RK,List.getElem?_drop] at hj
   simpa using hj
  refine⟨_,hl,hlen,λ hf=>Src.ofSlice w hu _ _ _ _ hlen (Px w rfl) (sr hl hf),?_,?_⟩
  ·exact run_firstCells_some _ _ _ _ _ _ _ hlen (Px _ rfl)
  ·exact run_firstCells_some _ _ _ _ _ _ _ hlen (Px _ rfl)
 ·cases h
theorem HR.del'(hH:HR ν H F w){h r K:Nat}{b0:AB}(hb:cr H h=some b0)(Yz:Fq b0=true)(hν:ν h=some (r,K))(hs:∀k,k≠r -> w'.heap[k]?=w.heap[k]?):HR ν (c9 H h none) F w':=by
 have o_:∀k b,cr (c9 H h none) k=some b -> cr H k=some b /\ k≠h:=λ k b hk=>by
  rw[dN] at hk
  split at hk
  ·cases hk
  ·rename_i e;exact⟨hk,Ne.symm e⟩
 refine⟨λ k b hk=>?_,λ k1 k2 b1 b2 q K1 K2 h1 h2 h3 h4=>hH.inj _ _ _ _ _ _ _ (o_ _ _ h1).1 (o_ _ _ h2).1 h3 h4,λ x hx=>?_,λ k b q K hk=>hH.apt k b q K (o_ k b hk).1⟩
 ·obtain⟨h1,h2⟩:=o_ k b hk
  obtain⟨q,K',o,g1,g2,g3⟩:=hH.blk k b h1
  refine⟨q,K',o,g1,?_,g3⟩
  rw[hs q,g2]
  intro e
  subst e
  exact h2 (hH.inj _ _ _ _ _ _ _ h1 hb g1 hν)
 ·rw[hs _ (hH.apt _ _ _ _ hb hν x hx)]
  exact hH.frm x hx
theorem Lq(RU o_:Nat)(h:o_<RU):Builtin.nextslicecap RU o_ <= 2*RU+192:=by
 unfold Builtin.nextslicecap
 split
 ·omega
 ·split
  ·omega
  ·have:Builtin.growBy RU 4 o_ <= RU+RU / 4+192:=by
    simp only[Builtin.growBy]
    repeat' split
    all_goals omega
   omega
theorem wo{t u ty el e':TypeId}{inf:TypeInfo}{n len cap c':Nat}{base u_:Option Addr}{y y':Value}{new:List Value}{v:Value}{n':Nat}(hH:HR ν H F w)(ht:P.underlying t=some (.slice el))(hu:P.underlying u=some (.slice e'))(hi:P.info? el=some inf)
  (hx:VRi ν (.slice base len cap) (.slice u_ len c')) (hy:VRi ν y y') (Ps:oI H inf.size y=some new) (P3:jv new=true) (n_:len+d9 y <= c') (h:pR H n inf.size len (d9 y) cap base new=some (.val v H' n')) :
  Effi P ν F n (Builtin.append_ #[t,u] ty #[.slice u_ len c',y']) w v H' n':=by
 obtain⟨I_,hl,hlen,hS,-,-⟩:=lr hH hu hy Ps
 have hS2:=hS P3
 unfold pR at h
 split at h
 ·rename_i ad
  split at h
  ·rename_i Rb
   split at h
   ·rename_i H2 hp
    cases h
    cases hx with
    | atom _ h=>simp[cQ] at h
    | @slice hd b K _ _ o _ hν hcap =>
    obtain⟨q1,q2,q3,q4,q5⟩:=nL hH hν hl hp
    have dO:=run_append_room_src (P:=P) w t u ty el inf ht hi b o len c' y' (d9 y) I_ hS2 n_ q1 q2
    exact⟨ν,_,_,dO,.slice _ _ hν hcap,.refl _ _,q4,q5⟩
   ·cases h
  ·cases h
 ·split at h
  ·cases h
   cases hx with
   | atom _ _ =>
   cases hl
   have hS3:=hS P3
   have hz:(Builtin.firstCells inf.size (d9 y) y').run P w=.ok #[] w:=hS3.cells
   refine⟨ν,.slice none (len+d9 y) cap,w,?_,.atom _ rfl,.refl _ _,hH,Below.refl _ _⟩
   rcases hS3.kind with ⟨e',hk⟩|hk <;> simp[Builtin.append_,run_underlying ht,run_underlying hk,sizeOf,typeInfo,hi,hS3.len,hz,n_]
  ·cases h
theorem sw{t u ty el e':TypeId}{inf:TypeInfo}{z:List Value}{n len cap c':Nat}{base u_:Option Addr}{y y':Value}{o_ new:List Value}{v:Value}{n':Nat}(hH:HR ν H F w)(ht:P.underlying t=some (.slice el))(hu:P.underlying u=some (.slice e'))(hi:P.info? el=some inf)(hz:kj P el=some z)(Rm:z.length=inf.size)(Pz:0<inf.size)
  (hx:VRi ν (.slice base len cap) (.slice u_ len c')) (hy:VRi ν y y') (Ps:oI H inf.size y=some new) (P3:jv new=true) (hold:oI H inf.size (.slice base len cap)=some o_) (n_:c'<len+d9 y) (Ri:len+d9 y<1000000) (SY:inf.bytes<1000001) (hn:ν n=none)
  (Hd:AH) (hd:∀ν' w',HR ν' H F w' -> HR ν' Hd F w') (h:il Hd n inf.size len (d9 y) el o_ new=.val v H' n') :
  Effi P ν F n (Builtin.append_ #[t,u] ty #[.slice u_ len c',y']) w v H' n':=by
 obtain⟨I_,hl,hlen,hS,-,-⟩:=lr hH hu hy Ps
 obtain⟨Rk,Qh,QA,-,Qz,-⟩:=lr hH ht hx hold
 have hS:=hS P3
 obtain⟨zv,g1,g2,g3,i,g4,g5⟩:=jA (ν:=ν) hz
 rw[hi] at g4
 cases g4
 have Q3:Builtin.nextslicecap (len+d9 y) c'*inf.bytes <= 281474976710656:=by
  have h1:=Lq (len+d9 y) c' n_
  have h2:Builtin.nextslicecap (len+d9 y) c'*inf.bytes <= 2000192*1000000:=Nat.mul_le_mul (by omega) (by omega)
  omega
 have dO:=run_append_grow_src (P:=P) w t u ty el inf zv ht hi g5 u_ len c' Rk Qz y' (d9 y) I_ hS n_ (by omega) Q3
 have Uc:=grownCap_ge w (len+d9 y) c' el
 generalize grownCap w (len+d9 y) c' el=K at *
 unfold il at h
 cases h
 refine⟨ν.upd n w.heap.size K,_,_,dO,?_,.upd,?_,⟨rfl,rfl,rfl,by simp,λ k hk=>by omega⟩⟩
 ·exact .slice _ _ cL ⟨λ e=>by unfold lm at e;omega,λ e=>by omega⟩
 ·have WD:HR ν Hd F w:=hd _ _ hH
  refine WD.new hn (K:=K) ?_ (by rw[jD];rfl) (o:=.cells ((Rk++I_).toArray++Builtin.zeroCells zv.cells (K-(len+d9 y))) el) rfl
  rw[jD]
  have R1:=CR.of (ty:=el) (ww:=inf.size) (K:=K) (rest:=(Builtin.zeroCells zv.cells (K-(len+d9 y))).toList) (Qh.append hl) (λ _=>by
   simp only[List.length_append,hlen,QA,Builtin.zeroCells,Array.toList_map,List.length_map,Array.toList_range,List.length_range,g2]
   have SK:d9 (Value.slice base len cap)=len:=rfl
   rw[SK]
   have:(⟨z⟩:Array Value).size=inf.size:=by simpa using Rm
   rw[this,<- Nat.add_mul,<- Nat.add_mul]
   congr 1
   omega)
  have e:((Rk++I_).toArray++Builtin.zeroCells zv.cells (K-(len+d9 y)))=⟨(Rk++I_)++(Builtin.zeroCells zv.cells (K-(len+d9 y))).toList⟩:=by apply Array.ext';simp
  rw[e]
  exact R1
end ap
section ap
variable {ν ν':Nu} {P:Program} {G N:Nat} {T T':Tr Value} {a:Act} {H H':AH} {F:HL} {w w':World}
theorem kl{a b:Nat}(h:Nat.blt a b=false):b <= a:=by
 rcases Nat.lt_or_ge a b with e|e
 ·have:Nat.blt a b=true:=Nat.ble_eq_true_of_le e
  rw[this] at h;cases h
 ·exact e
theorem ko{a b:Nat}(h:Nat.ble a b=false):b<a:=by
 rcases Nat.lt_or_ge b a with e|e
 ·exact e
 ·have:Nat.ble a b=true:=Nat.ble_eq_true_of_le e
  rw[this] at h;cases h
theorem IH{t u ty el e':TypeId}{inf:TypeInfo}{z:List Value}{n len cap:Nat}{ad:Addr}{x' y y':Value}{new:List Value}{v:Value}{n':Nat}(hH:HR ν H F w)(ht:P.underlying t=some (.slice el))(hu:P.underlying u=some (.slice e'))(hi:P.info? el=some inf)(hz:kj P el=some z)(Rm:z.length=inf.size)(Pz:0<inf.size)
  (hx:VRi ν (.slice (some ad) len cap) x') (hy:VRi ν y y') (Ps:oI H inf.size y=some new) (P3:jv new=true) (Ri:len+d9 y<1000000) (SY:inf.bytes<1000001) (hcap:lm <= cap) (hn:Fr ν n n') (h:E8 H n inf.size len (d9 y) cap ad el new=some (.val v H' n')) :
  Effi P ν F n (Builtin.append_ #[t,u] ty #[x',y']) w v H' n':=by
 cases hx with
 | atom _ h=>simp[cQ] at h
 | @slice hd b K _ c' o _ hν hc =>
 unfold E8 at h
 split at h
 case h_2=>cases h
 rename_i nn ww tyy Rb ho UX QZ
 simp only at ho
 subst ho
 have Qj:cap=lm:=Nat.eq_of_beq_eq_true UX
 have Qa:=hc.2 hcap
 rw[Qj,Nat.sub_self,Nat.add_zero] at Qa
 unfold Oe at QZ
 split at QZ
 case h_2=>cases QZ
 rename_i nn' tr ty' ww' hb
 simp only[Option.some.injEq,Prod.mk.injEq] at QZ
 obtain⟨e1,e2,e3⟩:=QZ
 subst e1;subst e2;subst e3
 simp only at hb
 obtain⟨c,ty2,fz,hw,R1⟩:=hH.cells hb hν
 split at h
 case h_2=>cases h
 rename_i Yy Xv ZF
 have ZE:ty'=el:=Nat.eq_of_beq_eq_true ZF
 have ZC:ww'=inf.size:=Nat.eq_of_beq_eq_true Yy
 have hlk':=cg Xv
 have SC:=R1.gr (by omega)
 rw[ZC] at SC
 have hle:=R1.le
 split at h
 ·rename_i Qi
  have hin':=cg Qi
  have:(len+d9 y)*inf.size <= K*inf.size:=by omega
  have n_:=Nat.le_of_mul_le_mul_right this Pz
  exact wo hH ht hu hi (.slice 0 len hν hc) hy Ps P3 (by omega) h
 ·rename_i Qi
  have hin':=ko Qi
  split at h
  case h_2=>cases h
  rename_i o_ hold
  have H_:il (c9 H hd none) n inf.size len (d9 y) el o_ new=.val v H' n':=by simpa using h
  have TY:ν n=none:=by
   unfold il at H_
   cases H_
   exact hn n (Nat.le_refl _) (by omega)
  by_cases n_:len+d9 y <= c'
  ·obtain⟨I_,hl,hlen,hS,-,-⟩:=lr hH hu hy Ps
   obtain⟨Rk,Qh,QA,-,-,Qz⟩:=lr hH ht (.slice 0 len hν hc) hold
   have hS:=hS P3
   have Q3:(len+d9 y)*inf.size <= c.size:=by
    rw[SC];exact Nat.mul_le_mul_right _ (by omega)
   have Px:∀j,j<I_.length -> (w.cell? ⟨b,0+len*inf.size+j,none⟩).isSome=true:=λ j hj=>by
    rw[ln hw,Array.getElem?_eq_getElem (by rw[hlen] at hj;rw[Nat.add_mul] at Q3;omega)];rfl
   have VP:∀j,j<I_.length -> w.frozen? ⟨b,0+len*inf.size+j,none⟩=false:=λ j hj=>by
    obtain⟨lo,hi⟩:=fz
    have:=R1.fz
    cases this
    simp[World.frozen?,hw]
   have dO:=run_append_room_src (P:=P) w t u ty el inf ht hi b 0 len c' y' (d9 y) I_ hS n_ Px VP
   obtain⟨c2,e1,e2,e3⟩:=kP b I_ (0+len*inf.size) w hw
   unfold il at H_
   cases H_
   have hdel:HR ν (c9 H hd none) F (w.setCells b (0+len*inf.size) I_):=hH.del' hb rfl hν (λ k hk=>gD b _ _ _ _ hk)
   refine⟨ν.upd n b K,_,_,dO,?_,.upd,?_,gE _ _ _ _⟩
   ·exact .slice _ _ cL ⟨λ e=>by unfold lm at e;omega,λ e=>by omega⟩
   ·refine hdel.add TY e1 ?_ (by rw[jD];rfl) (λ x hx=>hH.apt _ _ _ _ hb hν x hx) (λ k b' K' hk e=>?_)
    ·rw[jD]
     have Xq:∀i,i<len*inf.size -> c[i]?=Rk[i]?:=λ i hi=>by
      have SK:d9 (Value.slice (some ⟨hd,0,none⟩) len cap)=len:=rfl
      rw[SK] at QA Qz
      have SU:((c.toList.drop 0).take (len*inf.size)).length=len*inf.size:=by simp;omega
      have h2:=run_firstCells_some (P:=P) w inf.size len ⟨b,0,none⟩ len c' ((c.toList.drop 0).take (len*inf.size)) SU (λ j u hj=>by
       rw[mj,ln hw]
       have RK:=(List.getElem?_eq_some_iff.1 hj).1
       rw[SU] at RK
       rw[List.getElem?_take_of_lt RK,List.getElem?_drop] at hj
       simpa using hj)
      rw[h2] at Qz
      simp only[Result.ok.injEq,and_true] at Qz
      have h3:Rk=(c.toList.drop 0).take (len*inf.size):=by
       have:=congrArg Array.toList Qz
       simpa using this.symm
      rw[h3,List.getElem?_take_of_lt hi]
      simp
     have SK:d9 (Value.slice (some ⟨hd,0,none⟩) len cap)=len:=rfl
     rw[SK] at QA
     have VH:o_.length=len*inf.size:=by rw[<- QA,Qh.length]
     have hln:new.length=d9 y*inf.size:=by rw[<- hlen,hl.length]
     refine⟨R1.ty.trans ZE,?_,R1.fz,λ i hi=>?_,λ _=>by rw[e2,SC]⟩
     ·rw[e2,List.length_append,VH,hln,<- Nat.add_mul];exact Q3
     ·have VL:i<(len+d9 y)*inf.size:=by rw[List.length_append,VH,hln,<- Nat.add_mul] at hi;exact hi
      obtain⟨v',g1,g2⟩:=(Qh.append hl).get (List.getElem?_eq_getElem hi)
      refine⟨v',?_,by rw[kO hi];exact g2⟩
      rw[e3 i (by omega),<- g1]
      by_cases h1:i<len*inf.size
      ·rw[dif_neg (by omega),Xq i h1,List.getElem?_append_left (by omega)]
      ·rw[dif_pos ⟨by omega,by rw[hlen];rw[Nat.add_mul] at VL;omega⟩,List.getElem?_append_right (by omega),QA]
       rw[<- List.getElem?_eq_getElem]
       congr 1;omega
    ·rw[dN] at hk
     split at hk
     ·cases hk
     ·rename_i AT
      exact AT (hH.inj _ _ _ _ _ _ _ hb hk hν e)
  ·exact sw hH ht hu hi hz Rm Pz (.slice 0 len hν hc) hy Ps P3 hold (by omega) Ri SY TY (c9 H hd none) (λ ν' w' h'=>h'.del hd) H_
def HEq(H H':AH):Prop:=∀h,cr H' h=cr H h \/ ∃n t t' ty w ro,cr H h=some (.cells n t ty w ro) /\ cr H' h=some (.cells n t' ty w ro) /\ ∀i,i<n -> da t' i=da t i
theorem HR.heq(h:HR ν H F w)(e:HEq H H'):HR ν H' F w:=by
 have back:∀k b,cr H' k=some b -> ∃b0,cr H k=some b0 /\ ∀K o,OR ν K b0 o -> OR ν K b o:=λ k b hk=>by
  rcases e k with e1|⟨n,t,t',ty,wd,ro,e1,e2,e3⟩
  ·rw[e1] at hk;exact⟨b,hk,λ _ _ h=>h⟩
  ·rw[e2] at hk
   cases hk
   refine⟨_,e1,λ K o ho=>?_⟩
   cases o with
   | cells c ty' fz =>
    have ho:CR ν K n t ty wd c ty' fz:=ho
    exact(⟨ho.ty,ho.le,ho.fz,λ i hi=>by obtain⟨v',g1,g2⟩:=ho.get i hi;exact⟨v',g1,by rw[e3 i hi];exact g2⟩,ho.gr⟩:CR ν K n t' ty wd c ty' fz)
   | _=>exact ho
 refine⟨λ k b hk=>?_,λ h₁ h₂ b₁ b₂ r K₁ K₂ g1 g2=>?_,h.frm,λ k b r K hk=>?_⟩
 ·obtain⟨b0,g1,g2⟩:=back k b hk
  obtain⟨r,K,o,g3,g4,g5⟩:=h.blk k b0 g1
  exact⟨r,K,o,g3,g4,g2 K o g5⟩
 ·obtain⟨c1,d1,-⟩:=back _ _ g1
  obtain⟨c2,d2,-⟩:=back _ _ g2
  exact h.inj _ _ _ _ _ _ _ d1 d2
 ·obtain⟨b0,g1,g2⟩:=back k b hk
  exact h.apt k b0 r K g1
theorem f9(t:Tr Value):∀ (k i:Nat),(gt t i k).length=k
 | 0,_=>rfl
 | k+1,i=>by simp[gt,f9 t k]
theorem sx(t:Tr Value):∀ (k i j:Nat),j<k -> (gt t i k)[j]?=some (da t (i+j))
 | 0,_,_,h=>absurd h (by omega)
 | k+1,i,j,h=>by
  cases j with
  | zero=>simp[gt]
  | succ j=>simp only[gt,List.getElem?_cons_succ];rw[sx t k (i+1) j (by omega)];congr 2;omega
theorem Fw(tr:Tr Value)(i:Nat)(new:List Value)(el:TypeId)(k:Nat):E9 tr i new el k=.cells (i+new.length) (jR tr i new) el k false:=by
 unfold E9
 split <;> rename_i h <;> rw[h,eo]
theorem Cm{n k len add cap:Nat}{ad:Addr}{el:TypeId}{new:List Value}{v:Value}{n':Nat}(h:sa H n k len add cap ad el new=some (.val v H' n')):∃H0,E8 H n k len add cap ad el new=some (.val v H0 n') /\ HEq H0 H':=by
 unfold sa at h
 split at h
 case h_2=>cases h
 rename_i nn tr ty w Rb ho UX hb
 split at h
 case h_2=>cases h
 rename_i h1 h2 h3
 have QZ:Oe H ad=some (nn,w,ty):=by unfold Oe;rw[hb]
 split at h
 ·rename_i Qi
  refine⟨H',?_,λ h=>.inl rfl⟩
  unfold E8
  rw[Rb,ho,UX,QZ]
  simp only[h1,h2,h3,Qi]
  exact h
 ·rename_i Qi
  cases h
  refine⟨c9 (c9 H ad.block none) n (some (tK (gt tr 0 (len*k)++new) el k)),?_,λ h=>?_⟩
  ·unfold E8
   rw[Rb,ho,UX,QZ]
   simp only[h1,h2,h3,Qi,oI,Rb,hb,ho,Nat.zero_add]
   rfl
  ·by_cases hh:n=h
   ·refine .inr ⟨(gt tr 0 (len*k)++new).length,dT undef (gt tr 0 (len*k)++new) 0 .lf,jR tr (len*k) new,el,k,false,by rw[dN,if_pos hh,jD],?_,λ i hi=>?_⟩
    ·rw[dN,if_pos hh,Fw,List.length_append,f9]
    ·rw[kO hi,p9]
     rw[List.length_append,f9] at hi
     split
     ·rename_i hj
      rw[List.getElem_append_right (by rw[f9];omega)]
      congr 1
      rw[f9]
     ·rename_i hj
      have VL:i<len*k:=by omega
      rw[List.getElem_append_left (by rw[f9];exact VL)]
      have:=sx tr (len*k) 0 i VL
      rw[Nat.zero_add] at this
      rw[List.getElem?_eq_getElem (by rw[f9];exact VL)] at this
      exact(Option.some.inj this).symm
   ·exact .inl ((dN _ _ _ _).trans ((if_neg hh).trans ((if_neg hh).symm.trans (dN _ _ _ _).symm)))
theorem Fx{t u ty el e':TypeId}{inf:TypeInfo}{z:List Value}{n len cap:Nat}{ad:Addr}{x' y y':Value}{new:List Value}{v:Value}{n':Nat}(hH:HR ν H F w)(ht:P.underlying t=some (.slice el))(hu:P.underlying u=some (.slice e'))(hi:P.info? el=some inf)(hz:kj P el=some z)(Rm:z.length=inf.size)(Pz:0<inf.size)
  (hx:VRi ν (.slice (some ad) len cap) x') (hy:VRi ν y y') (Ps:oI H inf.size y=some new) (P3:jv new=true) (Ri:len+d9 y<1000000) (SY:inf.bytes<1000001) (hcap:lm <= cap) (hn:Fr ν n n') (h:sa H n inf.size len (d9 y) cap ad el new=some (.val v H' n')) :
  Effi P ν F n (Builtin.append_ #[t,u] ty #[x',y']) w v H' n':=by
 obtain⟨H0,h1,h2⟩:=Cm h
 obtain⟨ν',a,b,g1,g2,g3,g4,g5⟩:=IH hH ht hu hi hz Rm Pz hx hy Ps P3 Ri SY hcap hn h1
 exact⟨ν',a,b,g1,g2,g3,g4.heq h2,g5⟩
theorem II{t u ty el e':TypeId}{n:Nat}{x x' y y':Value}{v:Value}{n':Nat}(hH:HR ν H F w)(ht:P.underlying t=some (.slice el))(hu:P.underlying u=some (.slice e'))(hx:VRi ν x x')(hy:VRi ν y y')(hn:Fr ν n n')(h:vO P H n el x y=some (.val v H' n')) :
  Effi P ν F n (Builtin.append_ #[t,u] ty #[x',y']) w v H' n':=by
 unfold vO at h
 split at h
 case h_2=>cases h
 rename_i inf z hi hz
 split at h
 case h_2=>cases h
 rename_i k by_ base len cap hk WG
 have hk:inf.size=k+1:=hk
 have WG:inf.bytes=by_+1:=WG
 split at h
 case h_2=>cases h
 rename_i new Ps Rm Ri SY
 rw[<- hk] at Ps Rm h
 have W7:z.length=inf.size:=by rw[eo] at Rm;exact Nat.eq_of_beq_eq_true Rm
 have XX:=dU Ri
 have hb2':=dU SY
 split at h
 ·rename_i P3 UX
  have hcu':=dU UX
  have SF:∃u_,x'=.slice u_ len cap /\ VRi ν (.slice base len cap) (.slice u_ len cap):=by
   cases hx with
   | atom _ h=>exact⟨_,rfl,.atom _ h⟩
   | slice o _ hν hc=>obtain rfl:=hc.1 hcu';exact⟨_,rfl,.slice o _ hν hc⟩
  obtain⟨u_,rfl,hr⟩:=SF
  split at h
  ·rename_i Qi
   exact wo hH ht hu hi hr hy Ps P3 (cg Qi) h
  ·rename_i Qi
   split at h
   ·rename_i o_ hold
    have H_:il H n inf.size len (d9 y) el o_ new=.val v H' n':=by simpa using h
    have TY:ν n=none:=by
     have Vl:=H_
     unfold il at Vl
     cases Vl
     exact hn n (Nat.le_refl _) (by omega)
    exact sw hH ht hu hi hz W7 (by omega) hr hy Ps P3 hold (ko Qi) XX (by omega) TY H (λ _ _ h=>h) H_
   ·cases h
 ·rename_i P3 UX
  split at h
  ·exact Fx hH ht hu hi hz W7 (by omega) hx hy Ps P3 XX (by omega) (kl UX) hn h
  ·cases h
 ·cases h
end ap
end Go.Proofs.YthoijjeddhfcnaaGreatDoor
