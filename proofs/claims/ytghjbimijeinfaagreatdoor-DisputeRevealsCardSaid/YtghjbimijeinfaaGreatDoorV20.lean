import Derived.Test.YtghjbimijeinfaaGreatDoorV19
set_option maxHeartbeats 4000000
set_option maxRecDepth 100000
set_option linter.all false
namespace Go.Proofs.YtghjbimijeinfaaGreatDoor
open IntKind
open Go.RowKit
section nw
variable {ν ν':Nu} {P:Program} {G N:Nat} {T T':Tr Value} {a:Act} {H H':AH} {F:HL} {w w':World}
theorem fB(o:Obj)(w:World):(newObj o).run P w=.ok w.heap.size { w with heap:=w.heap.push o }:=rfl
def Mk.ok:Mk -> Prop
 | .sl _ c=>c<mB
 | _=>True
theorem Mk.rel{m:Mk}(h:m.ok){n r K:Nat}(hν:ν n=some (r,K)):VRi ν (m.val n) (m.val r):=by
 cases m with
 | ptr=>exact .ptr 0 hν
 | sl l c=>exact .slice 0 l hν ⟨λ _=>rfl,λ e=>by unfold Mk.ok at h;omega⟩
 | mp=>exact .map hν
theorem IH(z:List Value)(n:Nat):(m0 z n).length=n*z.length:=by
 induction n with
 | zero=>simp[m0]
 | succ n ih=>simp[m0,ih,Nat.succ_mul];omega
theorem zx(z:List Value):∀ (n i:Nat),i<n*z.length -> (m0 z n)[i]?=z[i % z.length]?
 | 0,i,h=>by omega
 | n+1,i,h=>by
  rw[m0];rcases abd i z.length with h1|h1
  ·rw[aa4 h1,Nat.mod_eq_of_lt h1]
  ·rw[aa6 h1,zx z n _ (by rw[Nat.succ_mul] at h;omega),Nat.mod_eq_sub_mod h1]
theorem vB(z:List Value)(n:Nat)(hz:0<z.length):(Array.range (n*z.length)).map (λ i=>(⟨z⟩:Array Value)[i % (⟨z⟩:Array Value).size]!)=⟨m0 z n⟩:=by
 apply Array.ext';apply List.ext_getElem?;intro i;rcases abd i (n*z.length) with h|h
 ·have h2:i % z.length<z.length:=Nat.mod_lt _ hz;simp only[Array.toList_map,Array.toList_range,abv,List.getElem?_range h,Option.map_some];rw[zx z n i h];simp[h2]
 ·rw[List.getElem?_eq_none (by simp;exact h),List.getElem?_eq_none (by rw[IH];exact h)]
theorem th{z:List Value}(h:LR ν z z):∀n,LR ν (m0 z n) (m0 z n)
 | 0=>.nil
 | n+1=>h.append (th h n)
theorem mD{t el:TypeId}(h:vi P t=some el):P.underlying t=some (.slice el):=by
 unfold vi at h;split at h
 ·rename_i e;cases h;exact e
 ·cases h
theorem Dc{o:Oper}{b:AB}{m:Mk}(h:um P o T=some (b,m)){l:List Operand}(hl:cq o.op=some l)(dO:OK ν T a l) :
  IE b=true /\ m.ok /\ ∃o',(∀K,OR ν K b o') /\ ∀w,(execOp a.eval o).run P w=.ok (.value (m.val w.heap.size)) { w with heap:=w.heap.push o' }:=by
 unfold um at h;split at h
 ·rename_i t ho;split at h
  ·rename_i z hz;cases h;obtain⟨zv,h1,h2,h3,-⟩:=kr (ν:=ν) hz;refine⟨kZ _ _,trivial,_,λ K=>OR.cellsB h3,λ w=>?_⟩;simp[execOp,ho,Instr.alloc,abp,h1,newVar,newRow,h2,fB,cf,Result.andThen,Mk.val]
  ·cases h
 ·rename_i t x ho;rw[ho] at hl;simp only[cq,Option.some.injEq] at hl;subst hl;cases h;refine⟨kZ _ _,trivial,_,λ K=>OR.cellsB (kW (dO x (by simp))),λ w=>?_⟩;simp[execOp,ho,Instr.box,abp,newVar,newRow,fB,cf,Result.andThen,Mk.val,gJ]
 ·rename_i t len parts ho;rw[ho] at hl;simp only[cq,Option.some.injEq] at hl;subst hl;split at h
  case h_2=>cases h
  rename_i el he;split at h
  case h_2=>cases h
  rename_i k z hk hz;split at h
  case h_2=>cases h
  rename_i g1 g2 g3;split at h
  case h_2=>cases h
  rename_i l hf;cases h;have hu:=mD he;have Vq:z.length=k:=by rw[eo] at g2;exact abf g2
  have hk0:=dS g3;have g1':=bK g1;obtain⟨zv,h1,h2,h3,-⟩:=kr (ν:=ν) hz;obtain⟨l',e1,e2⟩:=p9 (ta dO) (th h3 len) hf;refine⟨kZ _ _,?_,_,λ K=>OR.cellsB e2,λ w=>?_⟩
  ·have:len <= len*k:=Nat.le_mul_of_pos_right _ hk0;show len<mB;unfold mB;omega
  have h6:=kY e1;have h7:(parts.map λ (p:Nat × Operand)=>(p.1,a.eval p.2)).toList=parts.toList.map λ p=>(p.1,a.eval p.2):=by simp
  have h8:=vB z len (by omega);rw[Vq] at h8;have hs:=eD hk w;unfold Go.execOp;rw[ho];simp only;rw[abp];have:(Instr.buildSlice t len (parts.map λ (p:Nat × Operand)=>(p.1,a.eval p.2))).run P w=.ok (.slice (some ⟨w.heap.size,0,none⟩) len len) { w with heap:=w.heap.push (.cells ⟨l'⟩ el (0,0)) }:=by
   unfold Instr.buildSlice;rw[abp,aE hu];simp only[abm];rw[abp,hs];simp only[abm];rw[if_neg (by simp;omega)]
   by_cases UR:len*k=0
   ·have hlen:len=0:=by
     rcases Nat.eq_zero_or_pos len with e|e
     ·exact e
     ·have:=Nat.mul_pos e hk0;omega
    subst hlen;simp only[Nat.zero_mul,if_true];rw[abp];simp only[cf,abm];have h9:(Array.range 0).map (λ i=>(#[]:Array Value)[i % (#[]:Array Value).size]!)=⟨m0 z 0⟩:=by simp[m0]
    rw[h9,h7,h6];simp only[abp,newRow,fB,abm,cf]
   ·rw[if_neg UR];rw[abp,h1];simp only[abm];rw[abp];simp only[cf,abm,h2];rw[h8,h7,h6];simp only[abp,newRow,fB,abm,cf]
  rw[this];rfl
 ·rename_i t lo co ho;rw[ho] at hl;simp only[cq,Option.some.injEq] at hl;subst hl;split at h
  case h_2=>cases h
  rename_i el he;split at h
  case h_2=>cases h
  rename_i inf hi;split at h
  case h_2=>cases h
  rename_i z n m' hz hn hm;split at h
  case h_2=>cases h
  rename_i g1 g2 g3 g4 g5 g6;cases h;have hu:=mD he;have Vq:z.length=inf.size:=by rw[eo] at g4;exact abf g4
  have hk0:=dS g5;have g1':=bK g1;have g2':=bK g2;have g3':=dS g3;have g6':=dS g6;obtain⟨zv,h1,h2,h3,-⟩:=kr (ν:=ν) hz;obtain⟨kn,en⟩:=nY hn (dO lo (by simp));obtain⟨km,em⟩:=nY hm (dO co (by simp));refine⟨kZ _ _,g3',_,λ K=>OR.cellsB (th h3 m'),λ w=>?_⟩;have h8:=vB z m' (by omega);rw[Vq] at h8;unfold mB at g3';have w1:i64.wrap (n:Int)=(n:Int):=IntWalk.i64_in _ (by omega);have w2:i64.wrap (m':Int)=(m':Int):=IntWalk.i64_in _ (by omega);have C_:fy P el=some inf.size:=by unfold fy;rw[hi];rfl
  have hs:=eD C_;have hti:=λ W=>dG hi W;have q1:¬ ((281474976710656:Int)<(inf.bytes:Int)*(m':Int)):=by
   have:(inf.bytes:Int)*(m':Int)=((inf.bytes*m':Nat):Int):=by simp
   omega
  have q2:¬ ((m':Int)<0):=by omega
  have q3:¬ ((n:Int)<0):=by omega
  have q4:¬ ((m':Int)<(n:Int)):=by omega
  have DO:∀x W,(askRoom x).run P W=.ok () W:=λ x W=>by unfold askRoom;split <;> rfl
  unfold Go.execOp;rw[ho];simp only;rw[abp];have:(Instr.makeSlice t (a.eval lo) (a.eval co)).run P w=.ok (.slice (some ⟨w.heap.size,0,none⟩) n m') { w with heap:=w.heap.push (.cells ⟨m0 z m'⟩ el (0,0)) }:=by
   unfold Instr.makeSlice;rw[abp,aE hu];simp only[abm];rw[en,em];simp only[asInt,asIntOf,abp,cf,abm,hti,w1,w2];rw[if_neg (by simp[q1,q2,q3,q4])];simp only[abp,DO,abm,hs,Int.toNat_natCast]
   by_cases UR:m'*inf.size=0
   ·have hlen:m'=0:=by
     rcases Nat.eq_zero_or_pos m' with e|e
     ·exact e
     ·have:=Nat.mul_pos e hk0;omega
    subst hlen;simp only[Nat.zero_mul,if_true];rw[abp];simp only[cf,abm];have h9:(Array.range 0).map (λ i=>(#[]:Array Value)[i % (#[]:Array Value).size]!)=⟨m0 z 0⟩:=by simp[m0]
    rw[h9];simp only[abp,newRow,fB,abm,cf]
   ·rw[if_neg UR];simp only[abp,h1,cf,abm,h2];rw[h8];simp only[abp,newRow,fB,abm,cf]
  rw[this];rfl
 ·rename_i t r ho;have hmk:∀W:World,(newObj (.map #[] 0)).run P W=.ok W.heap.size { W with heap:=W.heap.push (.map #[] 0) }:=λ W=>rfl;split at h
  ·cases h;refine⟨rfl,trivial,.map #[] 0,λ K=>⟨rfl,.nil⟩,λ w=>?_⟩;simp[execOp,ho,Instr.makeMap,abp,hmk,cf,Result.andThen,Mk.val]
  ·rename_i r;rw[ho] at hl;simp only[cq,Option.some.injEq] at hl;subst hl;split at h
   ·rename_i kt et k n hu he;cases h;have hr:=dO r (by simp);rw[he] at hr;have er:=hr.plain_eq rfl;refine⟨rfl,trivial,.map #[] 0,λ K=>⟨rfl,.nil⟩,λ w=>?_⟩;simp[execOp,ho,Instr.makeMap,abp,aE hu,er,asInt,asIntOf,hmk,cf,Result.andThen,Mk.val]
   ·cases h
 ·cases h
theorem II{d:TypeDesc}{k k':Value}(h:l9 k k'=some true)(hk:wZ d k=true):k'=k /\ Instr.sameBits 10000 k' k=true:=by
 unfold l9 at h;split at h
 ·split at h
  ·rename_i e;have e':=abq e;simp only[Option.some.injEq,beq_iff_eq] at h;subst e';subst h;exact⟨rfl,by simp[Instr.sameBits]⟩
  ·cases h
 ·simp only[Option.some.injEq] at h;have:=Gw.1 h;subst this;exact⟨rfl,by simp[Instr.sameBits];exact KG _⟩
 ·simp only[Option.some.injEq,beq_iff_eq] at h;subst h;exact⟨rfl,by simp[Instr.sameBits]⟩
 ·cases h
theorem BN{d:TypeDesc}{k v v':Value}(hk:wZ d k=true)(hv:VRi ν v v'){es:List (Value × Value × Nat)}{Ua:List MapEntry}(h:ER ν es Ua):∀ {r:List (Value × Value × Nat)} {cl cl':Nat} (i:Nat),sS k v cl es=some (r,cl') ->
  (Instr.findNow d k Ua i=some none /\ cl'=cl+1 /\ ER ν r (Ua++[⟨k,v',cl⟩])) \/ (∃j u,Instr.findNow d k Ua i=some (some (i+j,u)) /\ cl'=cl /\ (Ua[j]?).map (·.key)=some k /\ Instr.sameBits 10000 k k=true /\ ER ν r (Ua.modify j λ e=>{ e with key:=k,val:=v' })):=by
 induction h with
 | nil=>intro r cl cl' i h;rw[sS] at h;cases h;exact .inl ⟨rfl,rfl,.cons k cl hv .nil⟩
 | @cons u0 u0' l0 l0' k' b Zj h0 ih =>
  intro r cl cl' i h;rw[sS] at h;split at h
  ·rename_i e;cases h;obtain⟨e1,e2⟩:=II e hk;subst e1;refine .inr ⟨0,u0',?_,rfl,rfl,e2,.cons k' b hv h0⟩;rw[Instr.findNow];simp only[gK e hk];rfl
  ·rename_i e;split at h
   ·rename_i l c hl;cases h;rcases ih (i+1) hl with ⟨h1,h2,h3⟩|⟨j,u,h1,h2,h3,h4,h5⟩
    ·exact .inl ⟨by rw[Instr.findNow];simp only[gK e hk];exact h1,h2,.cons k' b Zj h3⟩
    ·refine .inr ⟨j+1,u,?_,h2,by simpa using h3,h4,by simpa using ER.cons k' b Zj h5⟩;rw[Instr.findNow];simp only[gK e hk];rw[h1];congr 3;omega
   ·cases h
  ·cases h
theorem Dd{t:TypeId}{m m' k v v':Value}(hH:HR ν H F w)(hm:VRi ν m m')(hv:VRi ν v v')(h:LA P t H m k v=some H'):pl k=true /\ ∃w',(Instr.mapUpdate t m' k v').run P w=.ok () w' /\ HR ν H' F w' /\ Below 0 w w':=by
 unfold LA at h;split at h
 case h_2=>cases h
 rename_i kt et hu;split at h
 case h_2=>cases h
 rename_i r hk;split at h
 case h_2=>cases h
 rename_i es cl hb;split at h
 case h_2=>cases h
 rename_i es2 cl2 hp;cases h;obtain⟨d,hd,XK⟩:=BL hk;refine⟨(tc XK).1,?_⟩;cases hm with
 | atom _ h=>simp[cC] at h
 | @map _ b K hν =>
 obtain⟨Ua,hw,hE⟩:=hH.map hb hν;have hg:(getObj b).run P w=.ok (.map Ua cl) w:=f5 hw;have hf:∀r,Instr.findNow d k Ua.toList 0=some r -> (Instr.findKey kt k Ua.toList).run P w=.ok r w:=λ r hr=>by
  unfold Instr.findKey;rw[abp,aE hd];simp only[abm,hr];rfl
 have g_:=bL hw;have hst:∀o:Obj,(∃es c,o=.map es c) -> (setObj b o).run P w=.ok () { w with heap:=w.heap.setIfInBounds b o }:=λ o ho=>by
  obtain⟨e1,c1,rfl⟩:=ho;unfold setObj;rw[Sem.run.eq_def];simp only[hw];rfl
 have VU:∀ (o:Obj),OR ν K (.map es2 cl2) o -> HR ν (c9 H r (some (.map es2 cl2))) F { w with heap:=w.heap.setIfInBounds b o }:=λ o ho=>by
  refine hH.upd (r:=b) (K:=K) hb rfl rfl hν (o':=o) ?_ ho (λ k hk=>?_)
  ·show (w.heap.setIfInBounds b o)[b]?=_;rw[Array.getElem?_setIfInBounds_self_of_lt g_]
  ·show (w.heap.setIfInBounds b o)[k]?=_;rw[Array.getElem?_setIfInBounds_ne (Ne.symm hk)]
 have hB:∀o:Obj,Below 0 w { w with heap:=w.heap.setIfInBounds b o }:=λ o=>⟨rfl,rfl,rfl,by simp,λ k hk=>by omega⟩;rcases BN XK hv hE 0 hp with ⟨h1,h2,h3⟩|⟨j,u,h1,h2,h3,h4,h5⟩
 ·refine⟨_,?_,VU (.map (Ua.push ⟨k,v',cl⟩) (cl+1)) ⟨h2.symm,by simpa using h3⟩,hB _⟩;unfold Instr.mapUpdate;rw[abp,aE hu];simp only[abm,abp,hg,gv hk,hf _ h1];exact hst _ ⟨_,_,rfl⟩
 ·rw[Nat.zero_add] at h1;refine⟨_,?_,VU (.map (Ua.modify j λ e=>{ e with key:=k,val:=v' }) cl) ⟨h2.symm,by rw[Array.toList_modify];exact h5⟩,hB _⟩;unfold Instr.mapUpdate;rw[abp,aE hu];simp only[abm,abp,hg,gv hk,hf _ h1];have h6:(Ua[j]?).map (·.key)=some k:=by simpa using h3
  rw[h6];have h7:(Instr.keyThatStays k k).run P w=.ok k w:=by
   unfold Instr.keyThatStays;rw[if_pos h4];rfl
  simp only[Option.getD_some,h7,abm];exact hst _ ⟨_,_,rfl⟩
end nw
structure Ext(ν ν':Nu)(n n':Nat):Prop where
 le:n <= n'
 out:∀h,(h<n \/ n' <= h) -> ν' h=ν h
def Fr(ν:Nu)(n n':Nat):Prop:=∀h,n <= h -> h<n' -> ν h=none
theorem Ext.sub{ν ν':Nu}{n n':Nat}(h:Ext ν ν' n n')(hf:Fr ν n n'):ν.Le ν':=λ k x hx=>by
 rw[h.out k];exact hx;rcases abd k n with h1|h1
 ·exact .inl h1
 ·rcases abd k n' with h2|h2
  ·rw[hf k h1 h2] at hx;cases hx
  ·exact .inr h2
theorem Ext.refl(ν:Nu)(n:Nat):Ext ν ν n n:=⟨aaS _,λ _ _=>rfl⟩
theorem Ext.trans{a b c:Nu}{n m k:Nat}(h:Ext a b n m)(h':Ext b c m k):Ext a c n k :=
 ⟨Nat.le_trans h.le h'.le,λ i hi=>by
  have h1:=h.le;have h2:=h'.le;rw[h'.out i (by omega),h.out i (by omega)]⟩
theorem Ext.fr{a b:Nu}{n m k:Nat}(h:Ext a b n m)(hf:Fr a n k)(hm:m <= k):Fr b m k:=λ i h1 h2=>by
 have:=h.le;rw[h.out i (.inr h1)];exact hf i (by omega) h2
theorem Ext.upd{ν:Nu}{n r K:Nat}:Ext ν (ν.upd n r K) n (n+1):=⟨by omega,λ h hh=>fd (by omega)⟩
section ap
variable {ν ν':Nu} {P:Program} {G N:Nat} {T T':Tr Value} {a:Act} {H H':AH} {F:HL} {w w':World}
structure Effi(P:Program)(ν:Nu)(F:HL)(n:Nat)(s:Sem Value)(w:World)(v:Value)(H':AH)(n':Nat):Prop where
 h:∃ν' v' w',s.run P w=.ok v' w' /\ VRi ν' v v' /\ Ext ν ν' n n' /\ HR ν' H' F w' /\ Below 0 w w'
theorem mE{k:Nat}{u e':TypeId}{y y':Value}{new:List Value}(hH:HR ν H F w)(hu:P.underlying u=some (.slice e'))(hy:VRi ν y y')(h:ry H k y=some new) :
  ∃K_,LR ν new K_ /\ K_.length=d9 y*k /\ (kj new=true -> Src P k u y' (d9 y) K_ w) /\ (Builtin.firstCells k (d9 y) y').run P w.drew=.ok K_.toArray w.drew /\ (Builtin.firstCells k (d9 y) y').run P w=.ok K_.toArray w:=by
 unfold ry at h;split at h
 ·split at h
  ·cases h;rename_i c;cases hy;refine⟨[],.nil,by simp[d9],λ _=>Src.ofNil w hu _,?_,?_⟩
   ·exact run_firstCells_none _ _ _ _ _
   ·exact run_firstCells_none _ _ _ _ _
  ·cases h
 ·rename_i ad n c;cases hy with
  | atom _ h=>simp[cC] at h
  | @slice hd b K _ c' o _ hν hcap =>
  split at h
  case h_2=>cases h
  rename_i nn tr ty ww ro hs hb;split at h
  case h_2=>cases h
  rename_i hle;cases h;simp only at hb hle;obtain⟨cc,ty',fz,hw,hc⟩:=hH.cells hb hν;have Ys:=bK hle;have hl:=ku hc.le hc.get (n*k) o Ys;have Vg:=hc.le;have hlen:((cc.toList.drop o).take (n*k)).length=n*k:=by simp;omega
  have Ta:∀ (W:World),W.heap=w.heap -> ∀ (j:Nat) (u:Value),((cc.toList.drop o).take (n*k))[j]?=some u -> W.cell? ((⟨b,o,none⟩:Addr).add j)=some u:=λ W hW j u hj=>by
   rw[nX,mC (by rw[hW];exact hw)];have VZ:=(List.getElem?_eq_some_iff.1 hj).1;rw[hlen] at VZ;rw[List.getElem?_take_of_lt VZ,List.getElem?_drop] at hj;simpa using hj
  refine⟨_,hl,hlen,λ hf=>Src.ofSlice w hu _ _ _ _ hlen (Ta w rfl) (vA hl hf),?_,?_⟩
  ·exact run_firstCells_some _ _ _ _ _ _ _ hlen (Ta _ rfl)
  ·exact run_firstCells_some _ _ _ _ _ _ _ hlen (Ta _ rfl)
 ·cases h
theorem HR.del'(hH:HR ν H F w){h r K:Nat}{b0:AB}(hb:bE H h=some b0)(hw0:IE b0=true)(hν:ν h=some (r,K))(hs:∀k,k≠r -> w'.heap[k]?=w.heap[k]?):HR ν (c9 H h none) F w':=by
 have oF:∀k b,bE (c9 H h none) k=some b -> bE H k=some b /\ k≠h:=λ k b hk=>by
  rw[dM] at hk;split at hk
  ·cases hk
  ·rename_i e;exact⟨hk,Ne.symm e⟩
 refine⟨λ k b hk=>?_,λ k1 k2 b1 b2 q K1 K2 h1 h2 h3 h4=>hH.inj _ _ _ _ _ _ _ (oF _ _ h1).1 (oF _ _ h2).1 h3 h4,λ x hx=>?_,λ k b q K hk=>hH.apt k b q K (oF k b hk).1⟩
 ·obtain⟨h1,h2⟩:=oF k b hk;obtain⟨q,K',o,g1,g2,g3⟩:=hH.blk k b h1;refine⟨q,K',o,g1,?_,g3⟩;rw[hs q,g2];intro e;subst e;exact h2 (hH.inj _ _ _ _ _ _ _ h1 hb g1 hν)
 ·rw[hs _ (hH.apt _ _ _ _ hb hν x hx)];exact hH.frm x hx
theorem OS(V6 oF:Nat)(h:oF<V6):Builtin.nextslicecap V6 oF <= 2*V6+192:=by
 unfold Builtin.nextslicecap;split
 ·omega
 ·split
  ·omega
  ·have:Builtin.growBy V6 4 oF <= V6+V6 / 4+192:=by
    simp only[Builtin.growBy]
    repeat' split
    all_goals omega
   omega
theorem zy{t u ty el e':TypeId}{inf:TypeInfo}{n len cap c':Nat}{base w_:Option Addr}{y y':Value}{new:List Value}{v:Value}{n':Nat}(hH:HR ν H F w)(ht:P.underlying t=some (.slice el))(hu:P.underlying u=some (.slice e'))(hi:P.info? el=some inf)
  (hx:VRi ν (.slice base len cap) (.slice w_ len c')) (hy:VRi ν y y') (SZ:ry H inf.size y=some new) (TJ:kj new=true) (DO:len+d9 y <= c') (h:sT H n inf.size len (d9 y) cap base new=some (.val v H' n')) :
  Effi P ν F n (Builtin.append_ #[t,u] ty #[.slice w_ len c',y']) w v H' n':=by
 obtain⟨K_,hl,hlen,hS,-,-⟩:=mE hH hu hy SZ;have hS2:=hS TJ;unfold sT at h;split at h
 ·rename_i ad;split at h
  ·rename_i Vu;split at h
   ·rename_i H2 hp;cases h;cases hx with
    | atom _ h=>simp[cC] at h
    | @slice hd b K _ _ o _ hν hcap =>
    obtain⟨q1,q2,q3,q4,q5⟩:=qd hH hν hl hp;have bY:=run_append_room_src (P:=P) w t u ty el inf ht hi b o len c' y' (d9 y) K_ hS2 DO q1 q2;exact⟨ν,_,_,bY,.slice _ _ hν hcap,.refl _ _,q4,q5⟩
   ·cases h
  ·cases h
 ·split at h
  ·cases h;cases hx with
   | atom _ _ =>
   cases hl;have hS3:=hS TJ;have hz:(Builtin.firstCells inf.size (d9 y) y').run P w=.ok #[] w:=hS3.cells;refine⟨ν,.slice none (len+d9 y) cap,w,?_,.atom _ rfl,.refl _ _,hH,Below.refl _ _⟩;rcases hS3.kind with ⟨e',hk⟩|hk <;> simp[Builtin.append_,run_underlying ht,run_underlying hk,sizeOf,typeInfo,hi,hS3.len,hz,DO]
  ·cases h
theorem vC{t u ty el e':TypeId}{inf:TypeInfo}{z:List Value}{n len cap c':Nat}{base w_:Option Addr}{y y':Value}{oF new:List Value}{v:Value}{n':Nat}(hH:HR ν H F w)(ht:P.underlying t=some (.slice el))(hu:P.underlying u=some (.slice e'))(hi:P.info? el=some inf)(hz:lC P el=some z)(Vq:z.length=inf.size)(C_:0<inf.size)
  (hx:VRi ν (.slice base len cap) (.slice w_ len c')) (hy:VRi ν y y') (SZ:ry H inf.size y=some new) (TJ:kj new=true) (hold:ry H inf.size (.slice base len cap)=some oF) (DO:c'<len+d9 y) (UD:len+d9 y<1000000) (VF:inf.bytes<1000001) (hn:ν n=none)
  (Hd:AH) (hd:∀ν' w',HR ν' H F w' -> HR ν' Hd F w') (h:jg Hd n inf.size len (d9 y) el oF new=.val v H' n') :
  Effi P ν F n (Builtin.append_ #[t,u] ty #[.slice w_ len c',y']) w v H' n':=by
 obtain⟨K_,hl,hlen,hS,-,-⟩:=mE hH hu hy SZ;obtain⟨Vl,Of,Uc,-,UB,-⟩:=mE hH ht hx hold;have hS:=hS TJ;obtain⟨zv,g1,g2,g3,i,g4,g5⟩:=kr (ν:=ν) hz;rw[hi] at g4;cases g4;have U9:Builtin.nextslicecap (len+d9 y) c'*inf.bytes <= 281474976710656:=by
  have h1:=OS (len+d9 y) c' DO;have h2:Builtin.nextslicecap (len+d9 y) c'*inf.bytes <= 2000192*1000000:=Nat.mul_le_mul (by omega) (by omega);omega
 have bY:=run_append_grow_src (P:=P) w t u ty el inf zv ht hi g5 w_ len c' Vl UB y' (d9 y) K_ hS DO (by omega) U9;have Yx:=grownCap_ge w (len+d9 y) c' el;generalize grownCap w (len+d9 y) c' el=K at *;unfold jg at h;cases h;refine⟨ν.upd n w.heap.size K,_,_,bY,?_,.upd,?_,⟨rfl,rfl,rfl,by simp,λ k hk=>by omega⟩⟩
 ·exact .slice _ _ cB ⟨λ e=>by unfold mB at e;omega,λ e=>by omega⟩
 ·have hd1:HR ν Hd F w:=hd _ _ hH;refine hd1.new hn (K:=K) ?_ (by rw[kx];rfl) (o:=.cells ((Vl++K_).toArray++Builtin.zeroCells zv.cells (K-(len+d9 y))) el) rfl;rw[kx];have We:=CR.of (ty:=el) (ww:=inf.size) (K:=K) (rest:=(Builtin.zeroCells zv.cells (K-(len+d9 y))).toList) (Of.append hl) (λ _=>by
   simp only[aaV,hlen,Uc,Builtin.zeroCells,Array.toList_map,List.length_map,Array.toList_range,List.length_range,g2];have Xa:d9 (Value.slice base len cap)=len:=rfl;rw[Xa];have:(⟨z⟩:Array Value).size=inf.size:=by simpa using Vq
   rw[this,<- Nat.add_mul,<- Nat.add_mul];congr 1;omega)
  have e:((Vl++K_).toArray++Builtin.zeroCells zv.cells (K-(len+d9 y)))=⟨(Vl++K_)++(Builtin.zeroCells zv.cells (K-(len+d9 y))).toList⟩:=by apply Array.ext';simp
  rw[e];exact We
end ap
section ap
variable {ν ν':Nu} {P:Program} {G N:Nat} {T T':Tr Value} {a:Act} {H H':AH} {F:HL} {w w':World}
theorem lD{a b:Nat}(h:Nat.blt a b=false):b <= a:=by
 rcases abd a b with e|e
 ·have:Nat.blt a b=true:=Nat.ble_eq_true_of_le e;rw[this] at h;cases h
 ·exact e
theorem lE{a b:Nat}(h:Nat.ble a b=false):b<a:=by
 rcases abd b a with e|e
 ·exact e
 ·have:Nat.ble a b=true:=Nat.ble_eq_true_of_le e;rw[this] at h;cases h
theorem LH{t u ty el e':TypeId}{inf:TypeInfo}{z:List Value}{n len cap:Nat}{ad:Addr}{x' y y':Value}{new:List Value}{v:Value}{n':Nat}(hH:HR ν H F w)(ht:P.underlying t=some (.slice el))(hu:P.underlying u=some (.slice e'))(hi:P.info? el=some inf)(hz:lC P el=some z)(Vq:z.length=inf.size)(C_:0<inf.size)
  (hx:VRi ν (.slice (some ad) len cap) x') (hy:VRi ν y y') (SZ:ry H inf.size y=some new) (TJ:kj new=true) (UD:len+d9 y<1000000) (VF:inf.bytes<1000001) (hcap:mB <= cap) (hn:Fr ν n n') (h:Il H n inf.size len (d9 y) cap ad el new=some (.val v H' n')) :
  Effi P ν F n (Builtin.append_ #[t,u] ty #[x',y']) w v H' n':=by
 cases hx with
 | atom _ h=>simp[cC] at h
 | @slice hd b K _ c' o _ hν hc =>
 unfold Il at h;split at h
 case h_2=>cases h
 rename_i nn ww tyy Vu ho ZF UZ;simp only at ho;subst ho;have Uf:cap=mB:=abf ZF;have TY:=hc.2 hcap;rw[Uf,Nat.sub_self,Nat.add_zero] at TY;unfold RI at UZ;split at UZ
 case h_2=>cases UZ
 rename_i nn' tr ty' ww' hb;simp only[Option.some.injEq,Prod.mk.injEq] at UZ;obtain⟨e1,e2,e3⟩:=UZ;subst e1;subst e2;subst e3;simp only at hb;obtain⟨c,ty2,fz,hw,We⟩:=hH.cells hb hν;split at h
 case h_2=>cases h
 rename_i hwk hlk hty;have ago:ty'=el:=abf hty;have agm:ww'=inf.size:=abf hwk;have am0:=bK hlk;have WZ:=We.gr (by omega);rw[agm] at WZ;have hle:=We.le;split at h
 ·rename_i Ue;have ahp:=bK Ue;have:(len+d9 y)*inf.size <= K*inf.size:=by omega
  have DO:=Nat.le_of_mul_le_mul_right this C_;exact zy hH ht hu hi (.slice 0 len hν hc) hy SZ TJ (by omega) h
 ·rename_i Ue;have ahp:=lE Ue;split at h
  case h_2=>cases h
  rename_i oF hold;have ID:jg (c9 H hd none) n inf.size len (d9 y) el oF new=.val v H' n':=by simpa using h
  have Yq:ν n=none:=by
   unfold jg at ID;cases ID;exact hn n (aaS _) (by omega)
  by_cases DO:len+d9 y <= c'
  ·obtain⟨K_,hl,hlen,hS,-,-⟩:=mE hH hu hy SZ;obtain⟨Vl,Of,Uc,-,-,UB⟩:=mE hH ht (.slice 0 len hν hc) hold;have hS:=hS TJ;have U9:(len+d9 y)*inf.size <= c.size:=by
    rw[WZ];exact Nat.mul_le_mul_right _ (by omega)
   have Ta:∀j,j<K_.length -> (w.cell? ⟨b,0+len*inf.size+j,none⟩).isSome=true:=λ j hj=>by
    rw[mC hw,Array.getElem?_eq_getElem (by rw[hlen] at hj;rw[Nat.add_mul] at U9;omega)];rfl
   have aa2:∀j,j<K_.length -> w.frozen? ⟨b,0+len*inf.size+j,none⟩=false:=λ j hj=>by
    obtain⟨lo,hi⟩:=fz;have:=We.fz;cases this;simp[World.frozen?,hw]
   have bY:=run_append_room_src (P:=P) w t u ty el inf ht hi b 0 len c' y' (d9 y) K_ hS DO Ta aa2;obtain⟨c2,e1,e2,e3⟩:=me b K_ (0+len*inf.size) w hw;unfold jg at ID;cases ID;have ahJ:HR ν (c9 H hd none) F (w.setCells b (0+len*inf.size) K_):=hH.del' hb rfl hν (λ k hk=>im b _ _ _ _ hk);refine⟨ν.upd n b K,_,_,bY,?_,.upd,?_,iq _ _ _ _⟩
   ·exact .slice _ _ cB ⟨λ e=>by unfold mB at e;omega,λ e=>by omega⟩
   ·refine ahJ.add Yq e1 ?_ (by rw[kx];rfl) (λ x hx=>hH.apt _ _ _ _ hb hν x hx) (λ k b' K' hk e=>?_)
    ·rw[kx];have ado:∀i,i<len*inf.size -> c[i]?=Vl[i]?:=λ i hi=>by
      have Xa:d9 (Value.slice (some ⟨hd,0,none⟩) len cap)=len:=rfl;rw[Xa] at Uc UB;have Xk:((c.toList.drop 0).take (len*inf.size)).length=len*inf.size:=by simp;omega
      have h2:=run_firstCells_some (P:=P) w inf.size len ⟨b,0,none⟩ len c' ((c.toList.drop 0).take (len*inf.size)) Xk (λ j u hj=>by
       rw[nX,mC hw];have VZ:=(List.getElem?_eq_some_iff.1 hj).1;rw[Xk] at VZ;rw[List.getElem?_take_of_lt VZ,List.getElem?_drop] at hj;simpa using hj)
      rw[h2] at UB;simp only[Result.ok.injEq,and_true] at UB;have h3:Vl=(c.toList.drop 0).take (len*inf.size):=by
       have:=congrArg Array.toList UB;simpa using this.symm
      rw[h3,List.getElem?_take_of_lt hi];simp
     have Xa:d9 (Value.slice (some ⟨hd,0,none⟩) len cap)=len:=rfl;rw[Xa] at Uc;have hlo:oF.length=len*inf.size:=by rw[<- Uc,Of.length]
     have hln:new.length=d9 y*inf.size:=by rw[<- hlen,hl.length]
     refine⟨We.ty.trans ago,?_,We.fz,λ i hi=>?_,λ _=>by rw[e2,WZ]⟩
     ·rw[e2,aaV,hlo,hln,<- Nat.add_mul];exact U9
     ·have Yv:i<(len+d9 y)*inf.size:=by rw[aaV,hlo,hln,<- Nat.add_mul] at hi;exact hi
      obtain⟨v',g1,g2⟩:=(Of.append hl).get (aa3 hi);refine⟨v',?_,by rw[md hi];exact g2⟩;rw[e3 i (by omega),<- g1]
      by_cases h1:i<len*inf.size
      ·rw[dif_neg (by omega),ado i h1,aa4 (by omega)]
      ·rw[dif_pos ⟨by omega,by rw[hlen];rw[Nat.add_mul] at Yv;omega⟩,aa6 (by omega),Uc];rw[<- aa3];congr 1;omega
    ·rw[dM] at hk;split at hk
     ·cases hk
     ·rename_i u_;exact u_ (hH.inj _ _ _ _ _ _ _ hb hk hν e)
  ·exact vC hH ht hu hi hz Vq C_ (.slice 0 len hν hc) hy SZ TJ hold (by omega) UD VF Yq (c9 H hd none) (λ ν' w' h'=>h'.del hd) ID
def HEq(H H':AH):Prop:=∀h,bE H' h=bE H h \/ ∃n t t' ty w ro,bE H h=some (.cells n t ty w ro) /\ bE H' h=some (.cells n t' ty w ro) /\ ∀i,i<n -> da t' i=da t i
theorem HR.heq(h:HR ν H F w)(e:HEq H H'):HR ν H' F w:=by
 have back:∀k b,bE H' k=some b -> ∃b0,bE H k=some b0 /\ ∀K o,OR ν K b0 o -> OR ν K b o:=λ k b hk=>by
  rcases e k with e1|⟨n,t,t',ty,wd,ro,e1,e2,e3⟩
  ·rw[e1] at hk;exact⟨b,hk,λ _ _ h=>h⟩
  ·rw[e2] at hk;cases hk;refine⟨_,e1,λ K o ho=>?_⟩;cases o with
   | cells c ty' fz =>
    have ho:CR ν K n t ty wd c ty' fz:=ho;exact(⟨ho.ty,ho.le,ho.fz,λ i hi=>by obtain⟨v',g1,g2⟩:=ho.get i hi;exact⟨v',g1,by rw[e3 i hi];exact g2⟩,ho.gr⟩:CR ν K n t' ty wd c ty' fz)
   | _=>exact ho
 refine⟨λ k b hk=>?_,λ h₁ h₂ b₁ b₂ r K₁ K₂ g1 g2=>?_,h.frm,λ k b r K hk=>?_⟩
 ·obtain⟨b0,g1,g2⟩:=back k b hk;obtain⟨r,K,o,g3,g4,g5⟩:=h.blk k b0 g1;exact⟨r,K,o,g3,g4,g2 K o g5⟩
 ·obtain⟨c1,d1,-⟩:=back _ _ g1;obtain⟨c2,d2,-⟩:=back _ _ g2;exact h.inj _ _ _ _ _ _ _ d1 d2
 ·obtain⟨b0,g1,g2⟩:=back k b hk;exact h.apt k b0 r K g1
theorem gL(t:Tr Value):∀ (k i:Nat),(gV t i k).length=k
 | 0,_=>rfl
 | k+1,i=>by simp[gV,gL t k]
theorem vD(t:Tr Value):∀ (k i j:Nat),j<k -> (gV t i k)[j]?=some (da t (i+j))
 | 0,_,_,h=>absurd h (by omega)
 | k+1,i,j,h=>by
  cases j with
  | zero=>simp[gV]
  | succ j=>simp only[gV,List.getElem?_cons_succ];rw[vD t k (i+1) j (by omega)];congr 2;omega
theorem IJ(tr:Tr Value)(i:Nat)(new:List Value)(el:TypeId)(k:Nat):Im tr i new el k=.cells (i+new.length) (kS tr i new) el k false:=by
 unfold Im;split <;> rename_i h <;> rw[h,eo]
theorem Fp{n k len add cap:Nat}{ad:Addr}{el:TypeId}{new:List Value}{v:Value}{n':Nat}(h:vj H n k len add cap ad el new=some (.val v H' n')):∃H0,Il H n k len add cap ad el new=some (.val v H0 n') /\ HEq H0 H':=by
 unfold vj at h;split at h
 case h_2=>cases h
 rename_i nn tr ty w Vu ho ZF hb;split at h
 case h_2=>cases h
 rename_i h1 h2 h3;have UZ:RI H ad=some (nn,w,ty):=by unfold RI;rw[hb]
 split at h
 ·rename_i Ue;refine⟨H',?_,λ h=>.inl rfl⟩;unfold Il;rw[Vu,ho,ZF,UZ];simp only[h1,h2,h3,Ue];exact h
 ·rename_i Ue;cases h;refine⟨c9 (c9 H ad.block none) n (some (wX (gV tr 0 (len*k)++new) el k)),?_,λ h=>?_⟩
  ·unfold Il;rw[Vu,ho,ZF,UZ];simp only[h1,h2,h3,Ue,ry,Vu,hb,ho,Nat.zero_add];rfl
  ·by_cases hh:n=h
   ·refine .inr ⟨(gV tr 0 (len*k)++new).length,dR undef (gV tr 0 (len*k)++new) 0 .lf,kS tr (len*k) new,el,k,false,by rw[dM,if_pos hh,kx],?_,λ i hi=>?_⟩
    ·rw[dM,if_pos hh,IJ,aaV,gL]
    ·rw[md hi,tg];rw[aaV,gL] at hi;split
     ·rename_i hj;rw[List.getElem_append_right (by rw[gL];omega)];congr 1;rw[gL]
     ·rename_i hj;have Yv:i<len*k:=by omega
      rw[List.getElem_append_left (by rw[gL];exact Yv)];have:=vD tr (len*k) 0 i Yv;rw[Nat.zero_add] at this;rw[aa3 (by rw[gL];exact Yv)] at this;exact(Option.some.inj this).symm
   ·exact .inl ((dM _ _ _ _).trans ((if_neg hh).trans ((if_neg hh).symm.trans (dM _ _ _ _).symm)))
theorem IK{t u ty el e':TypeId}{inf:TypeInfo}{z:List Value}{n len cap:Nat}{ad:Addr}{x' y y':Value}{new:List Value}{v:Value}{n':Nat}(hH:HR ν H F w)(ht:P.underlying t=some (.slice el))(hu:P.underlying u=some (.slice e'))(hi:P.info? el=some inf)(hz:lC P el=some z)(Vq:z.length=inf.size)(C_:0<inf.size)
  (hx:VRi ν (.slice (some ad) len cap) x') (hy:VRi ν y y') (SZ:ry H inf.size y=some new) (TJ:kj new=true) (UD:len+d9 y<1000000) (VF:inf.bytes<1000001) (hcap:mB <= cap) (hn:Fr ν n n') (h:vj H n inf.size len (d9 y) cap ad el new=some (.val v H' n')) :
  Effi P ν F n (Builtin.append_ #[t,u] ty #[x',y']) w v H' n':=by
 obtain⟨H0,h1,h2⟩:=Fp h;obtain⟨ν',a,b,g1,g2,g3,g4,g5⟩:=LH hH ht hu hi hz Vq C_ hx hy SZ TJ UD VF hcap hn h1;exact⟨ν',a,b,g1,g2,g3,g4.heq h2,g5⟩
theorem LI{t u ty el e':TypeId}{n:Nat}{x x' y y':Value}{v:Value}{n':Nat}(hH:HR ν H F w)(ht:P.underlying t=some (.slice el))(hu:P.underlying u=some (.slice e'))(hx:VRi ν x x')(hy:VRi ν y y')(hn:Fr ν n n')(h:yZ P H n el x y=some (.val v H' n')) :
  Effi P ν F n (Builtin.append_ #[t,u] ty #[x',y']) w v H' n':=by
 unfold yZ at h;split at h
 case h_2=>cases h
 rename_i inf z hi hz;split at h
 case h_2=>cases h
 rename_i k by_ base len cap hk hby;have hk:inf.size=k+1:=hk;have hby:inf.bytes=by_+1:=hby;split at h
 case h_2=>cases h
 rename_i new SZ Vq UD VF;rw[<- hk] at SZ Vq h;have acB:z.length=inf.size:=by rw[eo] at Vq;exact abf Vq
 have ad3:=dS UD;have anM:=dS VF;split at h
 ·rename_i TJ ZF;have ahK:=dS ZF;have W8:∃w_,x'=.slice w_ len cap /\ VRi ν (.slice base len cap) (.slice w_ len cap):=by
   cases hx with
   | atom _ h=>exact⟨_,rfl,.atom _ h⟩
   | slice o _ hν hc=>obtain rfl:=hc.1 ahK;exact⟨_,rfl,.slice o _ hν hc⟩
  obtain⟨w_,rfl,hr⟩:=W8;split at h
  ·rename_i Ue;exact zy hH ht hu hi hr hy SZ TJ (bK Ue) h
  ·rename_i Ue;split at h
   ·rename_i oF hold;have ID:jg H n inf.size len (d9 y) el oF new=.val v H' n':=by simpa using h
    have Yq:ν n=none:=by
     have Z_:=ID;unfold jg at Z_;cases Z_;exact hn n (aaS _) (by omega)
    exact vC hH ht hu hi hz acB (by omega) hr hy SZ TJ hold (lE Ue) ad3 (by omega) Yq H (λ _ _ h=>h) ID
   ·cases h
 ·rename_i TJ ZF;split at h
  ·exact IK hH ht hu hi hz acB (by omega) hx hy SZ TJ ad3 (by omega) (lD ZF) hn h
  ·cases h
 ·cases h
end ap
inductive TgR(ν:Nu):Target -> Target -> Prop
 | fn {f f':Fn} {c c':Array Value}:FnR ν f f' -> LR ν c.toList c'.toList -> TgR ν (.fn f c) (.fn f' c')
 | coll {h b K:Nat}:ν h=some (b,K) -> TgR ν (.collected h) (.collected b)
structure DR(ν:Nu)(d d':Deferred):Prop where
 t:TgR ν d.target d'.target
 a:LR ν d.args.toList d'.args.toList
def Sq(P:Program)(ν:Nu)(F:HL)(n:Nat)(s:Sem Next)(w:World):AN -> Prop
 | .val v H' n'=>∃ν' v' w' r,s.run P w=.ok r w' /\ (r=.value v' \/ (r=.skip /\ v'=undef)) /\ VRi ν' v v' /\ Ext ν ν' n n' /\ HR ν' H' F w' /\ Below 0 w w'
 | .ent f args=>∃iF,s.run P w=.ok (.enter f ⟨iF⟩) w /\ LR ν args iF
 | .rnd l args=>∃b K iF,ν l=some (b,K) /\ LR ν args iF /\ s.run P w=(Instr.yield b ⟨iF⟩).run P w
 | .dfr d=>∃d',s.run P w=.ok (.defer d') w /\ DR ν d d'
 | .rcv=>s.run P w=.ok .recover w
section ap
variable {ν ν':Nu} {P:Program} {G N:Nat} {T T':Tr Value} {a:Act} {H H':AH} {F:HL} {w w':World}
theorem TgR.mono{t t':Target}(h:TgR ν t t')(hl:ν.Le ν'):TgR ν' t t':=by
 cases h with
 | fn h1 h2=>exact .fn (h1.mono hl) (h2.mono hl)
 | coll h=>exact .coll (hl _ _ h)
theorem DR.mono{d d':Deferred}(h:DR ν d d')(hl:ν.Le ν'):DR ν' d d':=⟨h.t.mono hl,h.a.mono hl⟩
theorem ti{fn:Fn}{f c:Array Value}{v':Value}(h:VRi ν (.func fn f c) v'):∃fn' f' c',v'=.func fn' f' c' /\ FnR ν fn fn' /\ LR ν f.toList f'.toList /\ LR ν c.toList c'.toList:=by
 cases h with
 | atom _ h=>simp[cC] at h
 | func h1 h2 h3 h4 h5=>exact⟨_,_,_,rfl,h1,.of_arr h2 h3,.of_arr h4 h5⟩
theorem IL{t u ty el:TypeId}{n:Nat}{x x' y y':Value}{v:Value}{n':Nat}(hH:HR ν H F w)(ht:P.underlying t=some (.slice el))(hx:VRi ν x x')(hy:VRi ν y y')(h:za P H n el x y=some (.val v H' n')) :
  Effi P ν F n (Builtin.copy_ #[t,u] ty #[x',y']) w v H' n':=by
 unfold za at h;split at h
 case h_2=>cases h
 rename_i k hk;split at h
 case h_2=>cases h
 rename_i ad dl cx b sl cc;split at h
 case h_2=>cases h
 rename_i vs Vu SZ;split at h
 case h_2=>cases h
 rename_i H2 hp;cases h;cases hx with
 | atom _ h=>simp[cC] at h
 | @slice hd bb K _ c' o _ hν hc =>
 have hy2:∃b',y'=.slice b' sl (match y' with | .slice _ _ c=>c|_=>0) /\ ∀c,VRi ν (.slice b (Nat.min sl dl) c) (.slice b' (Nat.min sl dl) c) \/ b≠none:=by
  cases hy with
  | atom _ h=>cases b with
   | none=>exact⟨none,rfl,λ c=>.inl (.atom _ rfl)⟩
   | some _=>simp[cC] at h
  | slice o n hν hc=>exact⟨_,rfl,λ c=>.inr (by simp)⟩
 have hfc:∃IN,LR ν vs IN /\ (Builtin.firstCells k (Nat.min sl dl) y').run P w=.ok IN.toArray w:=by
  have hyy:∃yy,VRi ν (.slice b (Nat.min sl dl) cc) yy /\ (Builtin.firstCells k (Nat.min sl dl) y').run P w=(Builtin.firstCells k (Nat.min sl dl) yy).run P w:=by
   cases hy with
   | atom _ h=>cases b with
    | none=>exact⟨.slice none (Nat.min sl dl) cc,.atom _ rfl,rfl⟩
    | some _=>simp[cC] at h
   | slice o n hν hc=>exact⟨_,.slice o _ hν hc,rfl⟩
  obtain⟨yy,h1,h2⟩:=hyy;obtain⟨IN,q1,q2,q3,q4,q5⟩:=mE (u:=t) hH ht h1 SZ;exact⟨IN,q1,by rw[h2];exact q5⟩
 obtain⟨IN,hl,hfc⟩:=hfc;obtain⟨q1,q2,q3,q4,q5⟩:=qd hH hν hl hp;obtain⟨b',hy3,-⟩:=hy2;have hst:=run_storeCells_cells (P:=P) bb o IN 0 w (by simpa using q1) (by simpa using q2) q3;refine⟨ν,.int .i64 ((Nat.min sl dl:Nat):Int),_,?_,.atom _ rfl,.refl _ _,q4,q5⟩;have hlen:∀W,(Builtin.lenOf y').run P W=.ok sl W:=λ W=>by rw[hy3];rfl
 have hs:=eD hk w;unfold Builtin.copy_;simp only[List.getElem?_toArray,List.getElem?_cons_zero,List.getElem?_cons_succ];rw[abp,aE ht];simp only[abm,abp,hlen,hs,hfc];simp only[Nat.add_zero] at hst;rw[hst];rfl
theorem iI{f:FuncId}{args:Array Value}(h:sU P f=true)(w:World):(callFunc f args).run P w=.ok (.enter f args) w:=by
 unfold sU at h;split at h
 ·rename_i fn hf;rw[abe] at h;obtain⟨h1,h2⟩:=h;unfold callFunc;rw[oD];simp only[hf];rw[if_neg (by simpa using h1),if_neg (by cases hb:fn.body <;> simp[hb] at h2 ⊢)];rfl
 ·cases h
theorem oa{c:Call}{f:Operand}{ty:TypeId}{fn:Fn}{f1 c1:Array Value}{ρ:Operand -> Value}(hc:c.callee=.value f)(hf:ρ f=.func fn f1 c1)(w:World):(resolve ρ c ty).run P w=.ok { target:=.fn fn c1,args:=f1++c.args.map ρ } w:=by
 unfold resolve;rw[hc];simp only[hf,Deferred.ofValue];rfl
theorem IM{n:Nat}{c:Call}{x:AN}(h:Io P H n c T=some x):∃v H' n',x=.val v H' n':=by
 unfold Io yZ vj sT jg at h
 repeat' split at h
 all_goals first
  | (cases h;done)
  | (cases h;exact⟨_,_,_,rfl⟩)
theorem Fq{n:Nat}{c:Call}{x:AN}(h:zb P H n c T=some x):∃v H' n',x=.val v H' n':=by
 unfold zb za at h
 repeat' split at h
 all_goals first
  | (cases h;done)
  | (cases h;exact⟨_,_,_,rfl⟩)
theorem De{n n':Nat}{s:Sem Value}{s':Sem Next}{v:Value}(h:Effi P ν F n s w v H' n')(e:s'.run P w=(do pure (.value (<- s)):Sem Next).run P w):Sq P ν F n s' w (.val v H' n'):=by
 obtain⟨ν',v',w',h1,h2,h3,h4,h5⟩:=h;refine⟨ν',v',w',.value v',?_,.inl rfl,h2,h3,h4,h5⟩;rw[e,abp,h1];rfl
theorem Fs{t:TypeId}{name:String}{f:FuncId}{v:Value}(h:Ip P t name=some f)(w:World):(method (P.types.size+Made.depth) t v name).run P w=.ok (f,v) w:=by
 unfold Ip at h;split at h
 case h_2=>cases h
 rename_i i hi aaI;split at h
 case h_2=>cases h
 rename_i m hm;obtain⟨k,hk⟩:∃k,P.types.size+Made.depth=k+1:=⟨_,(Nat.succ_pred_eq_of_pos (dS aaI)).symm⟩;rw[hk];have adM:m.path.toList=[] -> (follow m.path.toList t (.val v)).run P w=.ok (t,.val v) w:=λ e=>by rw[e];rfl
 split at h
 ·rename_i g e hp hf hu;cases h;unfold method;rw[abp,dG hi];simp only[abm,hm];rw[abp,adM hp];simp only[abm,hf];rw[abp];have:∀wr,(receiverAt t (.val v) true wr).run P w=.ok v w:=λ wr=>by
   unfold receiverAt;rw[abp,aE hu];rfl
  rw[this];rfl
 ·cases h
 ·rename_i g d hnp hp hf hu;cases h;unfold method;rw[abp,dG hi];simp only[abm,hm];rw[abp,adM hp];simp only[abm,hf];rw[abp];have:∀wr,(receiverAt t (.val v) false wr).run P w=.ok v w:=λ wr=>by
   unfold receiverAt;rw[abp,aE hu];simp only[abm];cases d <;> first|rfl|exact(hnp _ rfl).elim
  rw[this];rfl
 ·cases h
theorem LJ{o:Oper}{n:Nat}{x:AN}(hH:HR ν H F w)(h:nV P o T H n=some x){l:List Operand}(hl:jf o.op=some l)(dO:OK ν T a l)(hn:∀v H' n',x=.val v H' n' -> Fr ν n n'):Sq P ν F n (execOp a.eval o) w x:=by
 unfold nV at h;split at h
 ·rename_i t p y ho;rw[ho] at hl;simp only[jf,cq,Option.some.injEq] at hl;subst hl;have hp:=dO p (by simp);split at h
  ·rename_i ad e;split at h
   ·rename_i H2 hs;cases h;rw[e] at hp;generalize hu:a.eval p=u at hp;have hp2:=hp;cases hp with
    | atom _ h=>simp[cC] at h
    | ptr o h =>
     obtain⟨w',q1,q2,q3⟩:=Fl hH hp2 (dO y (by simp)) hs;refine⟨ν,undef,w',.skip,?_,.inr ⟨rfl,rfl⟩,aat,.refl _ _,q2,q3⟩;simp[execOp,ho,Instr.storeAt,Instr.sureAddr,hu,abp,q1]
   ·cases h
  ·cases h
 ·rename_i t m k y ho;rw[ho] at hl;simp only[jf,cq,Option.some.injEq] at hl;subst hl;split at h
  ·rename_i H2 hs;cases h;obtain⟨hp,w',q1,q2,q3⟩:=Dd hH (dO m (by simp)) (dO y (by simp)) hs;have hk:=(dO k (by simp)).plain_eq hp;refine⟨ν,undef,w',.skip,?_,.inr ⟨rfl,rfl⟩,aat,.refl _ _,q2,q3⟩;simp[execOp,ho,hk,abp,q1]
  ·cases h
 ·rename_i t m k y ho;rw[ho] at hl;simp only[jf,cq,Option.some.injEq] at hl;subst hl;split at h
  ·rename_i H2 hs;cases h;obtain⟨hp,w',q1,q2,q3⟩:=Dd hH (dO m (by simp)) (dO y (by simp)) hs;have hk:=(dO k (by simp)).plain_eq hp;refine⟨ν,undef,w',.skip,?_,.inr ⟨rfl,rfl⟩,aat,.refl _ _,q2,q3⟩;simp[execOp,ho,hk,abp,q1]
  ·cases h
 ·rename_i c ho;split at h
  case h_2=>cases h
  rename_i f hc;split at h
  case h_2=>cases h
  rename_i fn first captured e
  cases h;rw[ho] at hl;simp only[jf,hc,Option.some.injEq] at hl;subst hl;have hf:=dO f (by simp);rw[e] at hf;obtain⟨fn',f',c',e',r1,r2,r3⟩:=ti hf;have ha:=ma (l:=c.args.toList) (λ x hx=>dO x (aaC _ hx));refine⟨{ target:=.fn fn' c',args:=f'++c.args.map a.eval },?_,⟨.fn r1 r3,?_⟩⟩
  ·unfold Go.execOp;rw[ho];simp only;rw[abp,oa hc e'];rfl
  ·simpa using r2.append ha
 ·rename_i c ho;split at h
  ·rename_i f hc;have Of:l=f::c.args.toList:=by
    rw[ho] at hl;simp only[jf,cq,hc,Option.some.injEq] at hl;rw[<- hl];rfl
   split at h
   ·rename_i x' TC;cases h;subst Of;have hf:=dO f (by simp);have ha:=ma (l:=c.args.toList) (λ x hx=>dO x (aaC _ hx));have bY:∀fn' f' c',a.eval f=.func fn' f' c' -> (execOp a.eval o).run P w=(invoke (.fn fn' c') (f'++c.args.map a.eval)).run P w:=λ fn' f' c' e'=>by
     unfold Go.execOp;rw[ho];simp only;rw[abp,oa hc e'];rfl
    unfold rS at TC;split at TC
    case h_2=>cases TC
    rename_i fn first captured e
    rw[e] at hf;obtain⟨fn',f',c',e',r1,r2,r3⟩:=ti hf;split at TC
    ·split at TC
     ·rename_i hb;cases TC;cases r1;refine⟨f'.toList++(c.args.toList.map a.eval++c'.toList),?_,r2.append (ha.append r3)⟩;rw[bY _ _ _ e'];show (callFunc _ (f'++c.args.map a.eval++c')).run P w=_;rw[iI hb];congr 2;apply Array.ext';simp
     ·cases TC
    ·rename_i lp;split at TC
     ·rename_i ZE;cases TC;cases r1 with
      | @yield _ b K hν =>
      rw[ZE] at r2;refine⟨b,K,_,hν,ha,?_⟩;rw[bY _ _ _ e'];have hf0:f'=#[]:=by
       apply Array.ext';generalize f'.toList=q at r2;cases r2;rfl
      subst hf0;show (Instr.yield b (#[]++c.args.map a.eval)).run P w=_;congr 2;apply Array.ext';simp
     ·cases TC
    ·cases TC
   ·split at h
    ·rename_i v hv;cases h;have Wc:cq o.op=some l:=by
      rw[ho] at hl ⊢;exact hl
     obtain⟨v',r,e⟩:=qa hv Wc dO;exact⟨ν,v',w,_,e w,.inl rfl,r,.refl _ _,hH,Below.refl _ _⟩
    ·cases h
  ·rename_i b hc;split at h
   ·obtain⟨v,H2,n2,rfl⟩:=IM h;have VB:=hn v H2 n2 rfl;unfold Io at h;split at h
    case h_2=>cases h
    rename_i cl x y t u;simp only at hc;subst hc;split at h
    case h_2=>cases h
    rename_i el he hs;have Of:l=[x,y]:=by
     rw[ho] at hl;simp only[jf,cq,Option.some.injEq] at hl;rw[<- hl];rfl
    subst Of;have hu:∃e',P.underlying u=some (.slice e'):=by
     unfold QG at hs;split at hs
     ·rename_i e1;exact⟨_,e1⟩
     ·cases hs
    obtain⟨e',hu⟩:=hu;have hr:∃cs,(resolve a.eval ⟨.builtin .append,⟨[x,y]⟩,⟨[t,u]⟩⟩ o.type).run P w=.ok { target:=.builtin .append #[t,u] o.type cs,args:=#[a.eval x,a.eval y] } w:=by
     refine⟨(⟨[x,y]⟩:Array Operand).map (λ | .const _=>true|_=>false),?_⟩;unfold resolve;have e:(⟨[x,y]⟩:Array Operand).map a.eval=#[a.eval x,a.eval y]:=by simp
     simp only[e];rfl
    obtain⟨cs,hr⟩:=hr;refine De (LI (ty:=o.type) hH (mD he) hu (dO x (by simp)) (dO y (by simp)) VB h) ?_;unfold Go.execOp;rw[ho];simp only;rw[abp,hr];rfl
   ·obtain⟨v,H2,n2,rfl⟩:=Fq h;unfold zb at h;split at h
    case h_2=>cases h
    rename_i cl x y t u;simp only at hc;subst hc;split at h
    case h_2=>cases h
    rename_i el he;have Of:l=[x,y]:=by
     rw[ho] at hl;simp only[jf,cq,Option.some.injEq] at hl;rw[<- hl];rfl
    subst Of;have hr:∃cs,(resolve a.eval ⟨.builtin .copy,⟨[x,y]⟩,⟨[t,u]⟩⟩ o.type).run P w=.ok { target:=.builtin .copy #[t,u] o.type cs,args:=#[a.eval x,a.eval y] } w:=by
     refine⟨(⟨[x,y]⟩:Array Operand).map (λ | .const _=>true|_=>false),?_⟩;unfold resolve;have e:(⟨[x,y]⟩:Array Operand).map a.eval=#[a.eval x,a.eval y]:=by simp
     simp only[e];rfl
    obtain⟨cs,hr⟩:=hr;refine De (IL (u:=u) (ty:=o.type) hH (mD he) (dO x (by simp)) (dO y (by simp)) h) ?_;unfold Go.execOp;rw[ho];simp only;rw[abp,hr];rfl
   ·cases h;show (execOp a.eval o).run P w=_;unfold Go.execOp;rw[ho];simp only;rw[abp];unfold resolve;rw[hc];rfl
   ·cases h
  ·rename_i recv name hc;have Of:l=recv::c.args.toList:=by
    rw[ho] at hl;simp only[jf,cq,hc,Option.some.injEq] at hl;rw[<- hl];rfl
   subst Of;split at h
   case h_2=>cases h
   rename_i t v e;split at h
   case h_2=>cases h
   rename_i f hf;split at h
   case h_2=>cases h
   rename_i hB;cases h;have hr:=dO recv (by simp);rw[e] at hr;have ha:=ma (l:=c.args.toList) (λ x hx=>dO x (aaC _ hx));generalize hu:a.eval recv=u at hr;cases hr with
   | atom _ h=>simp[cC] at h
   | @iface _ v' _ hv =>
   refine⟨v'::c.args.toList.map a.eval,?_,.cons hv ha⟩;unfold Go.execOp;rw[ho];simp only;rw[abp];have h1:(resolve a.eval c o.type).run P w=.ok { target:=.fn (.method name) #[],args:=#[.iface t v']++c.args.map a.eval } w:=by
    unfold resolve;rw[hc];simp only[hu];rfl
   rw[h1];simp only[abm];have h2:(invoke (.fn (.method name) #[]) (#[.iface t v']++c.args.map a.eval)).run P w=(callMethod (.iface t v') name (c.args.map a.eval)).run P w:=by
    unfold invoke;have e1:(#[Value.iface t v']++c.args.map a.eval)[0]?=some (.iface t v'):=by rw[Array.getElem?_append_left (by simp)];rfl
    have e2:(#[Value.iface t v']++c.args.map a.eval).extract 1 (#[Value.iface t v']++c.args.map a.eval).size=c.args.map a.eval:=by
     apply Array.ext';simp;rw[List.take_of_length_le (by simp)]
    simp only[e1,e2]
   rw[h2];unfold callMethod;simp only;rw[oD,abp,Fs hf];simp only[abm];rw[iI hB];congr 2;apply Array.ext';simp
 ·cases h
theorem mF{o:Op}{l:List Operand}(h:jf o=some l)(hd:∀c,o ≠ .defer c):cq o=some l:=by
 cases o <;> first|exact h|exact(hd _ rfl).elim
end ap
def Glb(ν:Nu)(G:Nat):Prop:=∀k,k<G -> ∃K,ν k=some (k,K)
def IO(ν:Nu)(v:Value)(n n':Nat)(H':AH)(F:HL)(w:World)(e:Ending)(w':World):Prop :=
 ∃ν' v',e=.returned v' /\ VRi ν' v v' /\ Ext ν ν' n n' /\ HR ν' H' F w' /\ Below 0 w w'
inductive DsR(ν:Nu):List Deferred -> List Deferred -> Prop
 | nil:DsR ν [] []
 | cons {d d':Deferred} {l l':List Deferred}:DR ν d d' -> DsR ν l l' -> DsR ν (d::l) (d'::l')
inductive RR(ν:Nu):Option Nat -> Option Nat -> Prop
 | none:RR ν none none
 | some {l b K:Nat}:ν l=some (b,K) -> RR ν (some l) (some b)
def Ex.out:Ex -> Exit
 | .normal=>.normal
 | .exit id=>.exit id
 | .ret=>.ret
structure SR(ν:Nu)(G N:Nat)(s:St)(F:HL)(a:Act)(w:World):Prop where
 g:Glb ν G
 t:TRel ν N s.T a.tmps
 d:DsR ν s.D a.defers
 h:HR ν s.H F w
def Df(F:Fence)(n:Nat)(P:Program)(c:Code)(Q:Exit -> Act -> World -> Prop)(a:Act)(w:World):Prop :=
 ∀ (b:Frame) (k:List Item) (cs:List Frame),b.roundOf=F.round -> F.fn b.fn -> F.room (cs.length+1+n) ->
  ∃e a' w',Q e a' w' /\ ArrivesIn (Machine.fenced P F) P (lone (b.atR a (.code c :: .inLoop c::k)) cs w) b k cs e a' w'
theorem BO{F:Fence}{n:Nat}{P:Program}{c:Code}{Q:Exit -> Act -> World -> Prop}{a:Act}{w:World}(h:Df F n P c Q a w):(Code.loop c).wpIn F n P Q a w:=by
 intro b k cs Tv hb hr;obtain⟨e,a',w',hq,iN⟩:=h b k cs Tv hb hr;exact⟨e,a',w',hq,.of_steps (.one (fenced_calm hb hr rfl) stepR_loop) iN⟩
theorem zz{F:Fence}{n:Nat}{P:Program}{c:Code}{Q:Exit -> Act -> World -> Prop}{a:Act}{w:World}(h:c.wpIn F n P (Exit.then (Df F n P c Q) Q) a w):Df F n P c Q a w:=by
 intro b k cs Tv hb hr;obtain⟨e,a₁,w₁,hq,iN⟩:=h b (.inLoop c::k) cs Tv hb hr;cases e with
 | normal =>
  obtain⟨e₂,a₂,w₂,U8,To⟩:=hq b k cs Tv hb hr;exact⟨e₂,a₂,w₂,U8,.of_steps (StepsIn.trans iN (.one (fenced_calm hb hr rfl) stepR_inLoop)) To⟩
 | exit id=>exact⟨_,a₁,w₁,hq,.pass (x:=.inLoop c) rfl (λ _ _=>.inl (by simp)) iN⟩
 | goto l=>exact⟨_,a₁,w₁,hq,.pass (x:=.inLoop c) rfl (λ _ _=>.inl (by simp)) iN⟩
 | ret=>exact⟨_,a₁,w₁,hq,.pass (x:=.inLoop c) rfl (λ _ _=>.inl (by simp)) iN⟩
 | panic ch=>exact⟨_,a₁,w₁,hq,.pass (x:=.inLoop c) rfl (λ _ _=>.inl (by simp)) iN⟩
 | outgrown=>exact⟨_,a₁,w₁,hq,.pass (x:=.inLoop c) rfl (λ _ _=>.inl (by simp)) iN⟩
def jX(P:Program)(G:Nat):Task -> Rs -> Prop
 | .fn f args H n,.fn v H' n'=>n <= n' /\ ∀ν F w iF,Glb ν G -> Fr ν n n' -> HR ν H F w -> LR ν args iF -> Calls P f ⟨iF⟩ w (IO ν v n n' H' F w)
 | .rnd l T N aS0 bo H n,.fn v H' n'=>n <= n' /\ ∀ν F w b K tm f r',Glb ν G -> ν l=some (b,K) -> TRel ν N T tm -> Fr ν n n' -> HR ν H F w -> RoundIn (Wr r') 0 P b f tm aS0 bo w (IO ν v n n' H' F w)
 | .code r N c s,.cd e s'=>s.n <= s'.n /\ ∀ν F a w r' Q,RR ν r r' -> SR ν G N s F a w -> Fr ν s.n s'.n -> (∀ν' a' w',Ext ν ν' s.n s'.n -> SR ν' G N s' F a' w' -> Below 0 w w' -> Q e.out a' w') -> c.wpIn (Wr r') 0 P Q a w
 | .loop r N c s,.cd e s'=>s.n <= s'.n /\ ∀ν F a w r' Q,RR ν r r' -> SR ν G N s F a w -> Fr ν s.n s'.n -> (∀ν' a' w',Ext ν ν' s.n s'.n -> SR ν' G N s' F a' w' -> Below 0 w w' -> Q e.out a' w') -> Df (Wr r') 0 P c Q a w
 | .dfn f args H n,.fn v H' n'=>n <= n' /\ ∀ν F w iF,Glb ν G -> Fr ν n n' -> HR ν H F w -> LR ν args iF -> CallsDIn (Wr none) 0 P f ⟨iF⟩ .returning w (λ e u' w'=>u'=.returning /\ IO ν v n n' H' F w e w')
 | _,_=>True
def ld(P:Program)(G:Nat)(ih:Task -> Option Rs):Prop:=∀t res,ih t=some res -> jX P G t res
section ops
variable {ν ν':Nu} {P:Program} {G N:Nat} {T T':Tr Value} {a:Act} {H H':AH} {F:HL} {w w':World} {r r':Option Nat} {ih:Task -> Option Rs}
theorem Glb.mono(h:Glb ν G)(hl:ν.Le ν'):Glb ν' G:=λ k hk=>let ⟨K,e⟩:=h k hk;⟨K,hl _ _ e⟩
theorem DsR.mono{l l':List Deferred}(h:DsR ν l l')(hl:ν.Le ν'):DsR ν' l l':=by
 induction h with
 | nil=>exact .nil
 | cons h _ ih=>exact .cons (h.mono hl) ih
theorem RR.mono(h:RR ν r r')(hl:ν.Le ν'):RR ν' r r':=by
 cases h with
 | none=>exact .none
 | some h=>exact .some (hl _ _ h)
theorem HR.loop(h:HR ν H F w){k:Nat}{st:LoopState}{pend:Option Code}{T:Tr Value}{N:Nat}{ps:Array Tmp}{aS0 bo:Code}{d r K:Nat}(hk:bE H k=some (.loop st pend T N ps aS0 bo d))(hr:ν k=some (r,K)) :
  ∃lp:Loop,w.heap[r]?=some (.loop lp) /\ lp.state=st /\ lp.pending=pend /\ TRel ν N T lp.tmps /\ lp.params=ps /\ lp.assign=aS0 /\ lp.body=bo /\ ∃K',ν d=some (lp.defers,K'):=by
 obtain⟨r',K',o,h1,h2,h3⟩:=h.blk _ _ hk;rw[hr] at h1;cases h1;unfold OR at h3;split at h3
 ·rename_i e1;cases e1
 ·rename_i e1;cases e1
 ·rename_i e1;cases e1;exact⟨_,h2,h3⟩
 ·rename_i e1;cases e1
 ·exact h3.elim
theorem gX{l:Nat}{lp:Loop}(h:w.heap[l]?=some (.loop lp)):(Instr.getLoop l).run P w=.ok lp w:=by
 unfold Instr.getLoop;rw[abp];have:(getObj l).run P w=.ok (.loop lp) w:=by
  unfold getObj;rw[Sem.run.eq_def];simp only[h];rfl
 rw[this];rfl
theorem vE:∀ {ps:List Tmp} {vs IN:List Value} {T:Tr Value} {tm:Array Value},LR ν vs IN -> TRel ν N T tm -> C8 N ps=true -> TRel ν N (Iq ps vs T) ((ps.zip IN).foldl (λ tmps (p:Tmp × Value)=>tmps.setIfInBounds p.1 p.2) tm)
 | [],vs,IN,T,tm,hl,ht,_=>by cases vs <;> exact ht
 | p::ps,[],IN,T,tm,hl,ht,_=>by cases hl;exact ht
 | p::ps,v::vs,IN,T,tm,hl,ht,g_=>by
  cases hl with
  | cons hv hl =>
   rw[C8] at g_;split at g_
   ·rename_i hp;have h2:=vE (ps:=ps) hl (ht.set (dS hp) hv) g_;exact h2
   ·cases g_
theorem Ft{b:Nat}{lp:Loop}{args:List Value}(h:w.heap[b]?=some (.loop lp))(hs:args.length=lp.params.size) :
  (Instr.yield b ⟨args⟩).run P w=.ok (.round b lp.fn ((lp.params.toList.zip args).foldl (λ tmps (p:Tmp × Value)=>tmps.setIfInBounds p.1 p.2) lp.tmps) lp.assign lp.body) w:=by
 unfold Instr.yield;rw[abp,gX h];simp only[abm];rw[if_neg (by simp[hs])];have:(Array.foldl (λ (tmps:Array Value) (x:Tmp × Value)=>tmps.setIfInBounds x.1 x.2) lp.tmps (lp.params.zip ⟨args⟩))=((lp.params.toList.zip args).foldl (λ tmps (p:Tmp × Value)=>tmps.setIfInBounds p.1 p.2) lp.tmps):=by
  rw[<- Array.foldl_toList,Array.toList_zip]
 rw[<- this];rfl
def Sr(P:Program)(ν:Nu)(F:HL)(n:Nat)(r r':Option Nat)(a:Act)(w:World)(o:Oper):OpR -> Prop
 | .val v H' n'=>Fr ν n n' -> ∀ (next:Act -> World -> Prop) (Q:Exit -> Act -> World -> Prop),(∀ν' v' w',VRi ν' v v' -> Ext ν ν' n n' -> HR ν' H' F w' -> Below 0 w w' -> next (a.put o.dst v') w') -> o.wpIn (Wr r') 0 P a w next Q
 | .dfr d=>r=none /\ ∀ (next:Act -> World -> Prop) (Q:Exit -> Act -> World -> Prop),(∀d',DR ν d d' -> next ({ a with defers:=d'::a.defers }.put o.dst undef) w) -> o.wpIn (Wr r') 0 P a w next Q
theorem IP{o:Oper}{c:Call}{n:Nat}{x:AN}(ho:o.op=.defer c)(h:C7 P G o T H n=some x):∃d,x=.dfr d:=by
 unfold C7 at h;split at h
 ·cases h
 split at h
 ·cases h
 rw[ho] at h;simp only[t8,nV,ho] at h;split at h
 ·split at h
  ·cases h;exact⟨_,rfl⟩
  ·cases h
 ·cases h
theorem mG{o:Oper}{n:Nat}{x:AN}(dO:∀l,jf o.op=some l -> ul G l=true -> OK ν T a l)(hH:HR ν H F w)(h:C7 P G o T H n=some x)(hn:∀v H' n',x=.val v H' n' -> Fr ν n n'):Sq P ν F n (execOp a.eval o) w x:=by
 unfold C7 at h;split at h
 ·cases h
 rename_i l hl;split at h
 ·cases h
 rename_i hk;have dO:=dO l hl hk;split at h
 ·rename_i hc;split at h
  ·rename_i v hv;cases h;have VA:=mF hl (λ c e=>by rw[e] at hc;cases hc);obtain⟨v',r,e⟩:=zp hv VA dO;exact⟨ν,v',w,_,e w,.inl rfl,r,.refl _ _,hH,Below.refl _ _⟩
  ·cases h
 ·rename_i hc;split at h
  ·rename_i v hv;cases h;have VA:=mF hl (λ c e=>by rw[e] at hc;cases hc);obtain⟨v',r,e⟩:=zw hH hv VA dO;exact⟨ν,v',w,_,e,.inl rfl,r,.refl _ _,hH,Below.refl _ _⟩
  ·cases h
 ·rename_i hc;split at h
  ·rename_i b m hv;cases h;have VA:=mF hl (λ c e=>by rw[e] at hc;cases hc);obtain⟨h1,h2,o',h3,h4⟩:=Dc hv VA dO;have adp:ν n=none:=hn _ _ _ rfl n (aaS _) (by omega);exact⟨ν.upd n w.heap.size 0,_,_,_,h4 w,.inl rfl,Mk.rel h2 cB,.upd,hH.new adp (h3 0) h1 rfl,⟨rfl,rfl,rfl,by simp,λ k hk=>by omega⟩⟩
  ·cases h
 ·exact LJ hH h hl dO hn
theorem w7{o:Oper}{n n':Nat}{v:Value}(h:C7 P G o T H n=some (.val v H' n')):n <= n':=by
 have key:nV P o T H n=some (.val v H' n') -> n <= n':=by
  intro h;unfold nV rS Io zb yZ za vj sT jg at h
  repeat' split at h
  all_goals first
   | (cases h;done)
   | (cases h;omega)
   | (rename_i hx;simp only[Option.some.injEq] at h;subst h;(repeat' (split at hx)) <;> first|(cases hx;done)|(cases hx;omega))
 unfold C7 at h;split at h
 ·cases h
 split at h
 ·cases h
 split at h
 ·split at h
  ·cases h;omega
  ·cases h
 ·split at h
  ·cases h;omega
  ·cases h
 ·split at h
  ·unfold OO at h;cases h;omega
  ·cases h
 ·exact key h
theorem w9(o_:ld P G ih){o:Oper}{n:Nat}{x:OpR}(hg:Glb ν G)(hr:RR ν r r')(dO:∀l,jf o.op=some l -> ul G l=true -> OK ν T a l)(hH:HR ν H F w)(h:kl P G ih r o T H n=some x):(∀v H' n',x=.val v H' n' -> n <= n') /\ Sr P ν F n r r' a w o x:=by
 have hA:∀f,o.about P w a.eval=some f -> (Wr r').fn f:=λ _ _=>trivial;unfold kl at h;split at h
 ·cases h
 rename_i y hy;have nd:(∀d,y ≠ .dfr d) -> o.semAt (Wr r').round a.eval=execOp a.eval o:=λ hd=>Oper.semAt_eq _ _ _ λ c e=>by
  obtain⟨d,UT⟩:=IP e hy;exact hd d UT
 split at h
 ·rename_i v H1 n1;cases h;refine⟨λ v H' n' e=>by cases e;exact w7 hy,λ VB next Q hk=>⟨hA,?_⟩⟩;obtain⟨ν',v',w',q,h1,h2,h3,h4,h5,h6⟩:=mG dO hH hy (λ v H' n' e=>by cases e;exact VB);rw[nd (λ d e=>by cases e),h1];rcases h2 with rfl|⟨rfl,rfl⟩
  ·rw[Oper.uponIn_value];exact hk _ _ _ h3 h4 h5 h6
  ·rw[Oper.uponIn_skip];exact hk _ _ _ h3 h4 h5 h6
 ·rename_i f args;split at h
  ·rename_i v H1 n1 hc;cases h;obtain⟨hle,SU⟩:=o_ _ _ hc;refine⟨λ v H' n' e=>by cases e;exact hle,λ VB next Q hk=>⟨hA,?_⟩⟩;obtain⟨iF,h1,h2⟩:=mG dO hH hy (λ v H' n' e=>by cases e);rw[nd (λ d e=>by cases e),h1,Oper.uponIn_enter];refine⟨λ h=>(by cases h),?_⟩;refine j0 ((SU ν F w iF hg VB hH h2).mono ?_);rintro e w2 ⟨ν',v',rfl,k1,k2,k3,k4⟩;exact hk _ _ _ k1 k2 k3 k4
  ·cases h
 ·rename_i l args;split at h
  case h_2=>cases h
  rename_i st pend T2 N' ps aS0 bo d hb;split at h
  case h_2=>cases h
  rename_i C_ g_;split at h
  case h_2=>cases h
  rename_i v H1 n1 hc;cases h;obtain⟨hle,SU⟩:=o_ _ _ hc;refine⟨λ v H' n' e=>by cases e;exact hle,λ VB next Q hk=>⟨hA,?_⟩⟩;obtain⟨b,K,iF,hν,h1,h2⟩:=mG dO hH hy (λ v H' n' e=>by cases e);obtain⟨lp,g1,g2,g3,g4,g5,g6,g7,g8⟩:=hH.loop hb hν;have hlen:iF.length=lp.params.size:=by
   rw[g5,h1.length];rw[eo] at C_;exact abf C_
  rw[nd (λ d e=>by cases e),h2,Ft g1 hlen,Oper.uponIn_round];refine⟨λ h=>(by cases h),?_⟩;rw[g6,g7,g5];refine(SU ν F w b K _ lp.fn r' hg hν (vE h1 g4 g_) VB hH).mono ?_;rintro e w2 ⟨ν',v',rfl,k1,k2,k3,k4⟩;exact hk _ _ _ k1 k2 k3 k4
 ·rename_i d;split at h
  ·cases h;cases hr;refine⟨λ v H' n' e=>(by cases e),rfl,λ next Q hk=>⟨hA,?_⟩⟩;obtain⟨d',h1,h2⟩:=mG dO hH hy (λ v H' n' e=>by cases e);have:o.semAt (Wr none).round a.eval=execOp a.eval o:=rfl;rw[this,h1,Oper.uponIn_defer];exact hk _ h2
  ·cases h
 ·cases h
theorem ky{ops:Array Oper}{o:Oper}{b:Bool}(hT:TRel ν N T a.tmps)(h:eY ops o T=some b):Region.wanted o (yielded ops a.tmps)=b:=by
 unfold eY at h;unfold Region.wanted;split at h
 ·rename_i hg;rw[hg];cases h;rfl
 ·rename_i j want hg;rw[hg];simp only;split at h
  case h_2=>cases h
  rename_i d hd;have hy:yielded ops a.tmps j=match a.tmps[d]? with|some (.bool b)=>some b|_=>none:=by
   unfold yielded;rw[hd];rfl
  have hv:(d<N /\ ∃v',a.tmps[d]?=some v' /\ VRi ν (da T d) v') \/ (a.tmps[d]?=none /\ da T d=undef):=by
   rcases abd d N with h1|h1
   ·exact .inl ⟨h1,hT.get d h1⟩
   ·exact .inr ⟨Array.getElem?_eq_none (by rw[hT.size];exact h1),hT.out d h1⟩
  rw[hy];split at h
  ·rename_i b' hb;cases h;rcases hv with ⟨-,v',e1,e2⟩|⟨e1,e2⟩
   ·rw[hb] at e2;rw[e2.plain_eq rfl] at e1;rw[e1];simp
   ·rw[hb] at e2;cases e2
  ·rename_i vs hb;cases h;rcases hv with ⟨-,v',e1,e2⟩|⟨e1,e2⟩
   ·rw[hb] at e2;rw[e1];cases e2 with
    | atom _ h=>simp[cC] at h
    | tuple _ _=>rfl
   ·rw[e1];rfl
  ·cases h
theorem SR.op{s:St}(h:SR ν G N s F a w){o:Oper}:∀l,jf o.op=some l -> ul G l=true -> OK ν s.T a l:=λ l _ hk =>
 (FE.mk h.t h.g).ok hk
theorem pi(o_:ld P G ih){ops:Array Oper}:∀ (rest:List Oper) (s s':St),nk P G ih r N ops rest s=some s' -> s.n <= s'.n /\ ∀ν F a w r' (Q:Exit -> Act -> World -> Prop),RR ν r r' -> SR ν G N s F a w -> Fr ν s.n s'.n ->
  (∀ν' a' w',Ext ν ν' s.n s'.n -> SR ν' G N s' F a' w' -> Below 0 w w' -> Q .normal a' w') -> wpListIn (Wr r') 0 P ops Q rest a w
 | [],s,s',h=>by
  rw[nk] at h;cases h;exact⟨aaS _,λ ν F a w r' Q hr hs hf hk=>hk ν a w (.refl _ _) hs (Below.refl _ _)⟩
 | o::rest,s,s',h=>by
  rw[nk] at h;split at h
  ·cases h
  ·rename_i hw;split at h
   case h_2=>cases h
   rename_i T1 hp;obtain⟨h1,h2⟩:=pi o_ rest _ _ h;refine⟨h1,λ ν F a w r' Q hr hs hf hk=>?_⟩;rw[wpListIn,if_neg (by rw[ky hs.t hw];simp)];refine⟨λ _ _=>trivial,?_⟩;exact h2 ν F _ w r' Q hr ⟨hs.g,hs.t.put aat hp,by rw[f9];exact hs.d,hs.h⟩ hf hk
  ·rename_i hw;split at h
   ·cases h
   ·rename_i v H1 n1 hst;split at h
    case h_2=>cases h
    rename_i T1 hp;obtain⟨h1,h2⟩:=pi o_ rest _ _ h;simp only at h1 h2;have hle:s.n <= n1:=by
     clear h2;unfold kl at hst;split at hst
     ·cases hst
     rename_i y hy;split at hst
     ·cases hst;exact w7 hy
     ·split at hst
      ·rename_i hc;cases hst;exact(o_ _ _ hc).1
      ·cases hst
     ·split at hst
      case h_2=>cases hst
      split at hst
      case h_2=>cases hst
      split at hst
      ·rename_i hc;cases hst;exact(o_ _ _ hc).1
      ·cases hst
     ·split at hst <;> cases hst
     ·cases hst
    refine⟨by omega,λ ν F a w r' Q hr hs hf hk=>?_⟩;rw[wpListIn,if_pos (ky hs.t hw)];obtain⟨-,h4⟩:=w9 o_ hs.g hr hs.op hs.h hst;refine h4 (λ i Yw Yv=>hf i Yw (by omega)) _ _ (λ ν' v' w' k1 k2 k3 k4=>?_);have I_:=k2.sub (λ i Yw Yv=>hf i Yw (by omega));exact h2 ν' F _ w' r' Q (hr.mono I_) ⟨hs.g.mono I_,(hs.t.mono I_).put k1 hp,by rw[f9];exact hs.d.mono I_,k3⟩ (k2.fr hf h1) (λ ν2 a2 w2 q1 q2 q3=>hk ν2 a2 w2 (k2.trans q1) q2 (k4.trans q3))
   ·rename_i d hst;split at h
    case h_2=>cases h
    rename_i T1 hp;obtain⟨h1,h2⟩:=pi o_ rest _ _ h;refine⟨h1,λ ν F a w r' Q hr hs hf hk=>?_⟩;rw[wpListIn,if_pos (ky hs.t hw)];obtain⟨-,h3,h4⟩:=w9 o_ hs.g hr hs.op hs.h hst;refine h4 _ _ (λ d' UT=>?_);exact h2 ν F _ w r' Q hr ⟨hs.g,TRel.put (a:={ a with defers:=d'::a.defers }) hs.t aat hp,by rw[f9];exact .cons UT hs.d,hs.h⟩ hf hk
end ops
end Go.Proofs.YtghjbimijeinfaaGreatDoor
