import Derived.Test.YtdppjkjbghbnjaaGreatDoorC12
set_option maxHeartbeats 4000000
set_option maxRecDepth 100000
set_option linter.all false
namespace Go.Proofs.YtdppjkjbghbnjaaGreatDoor
open IntKind
open Go.RowKit
section nw
variable {ν ν':Nu} {P:Program} {G N:Nat} {T T':Tr Value} {a:Act} {H H':AH} {F:HL} {w w':World}
theorem fl(o:Obj)(w:World):(newObj o).run P w=.ok w.heap.size { w with heap:=w.heap.push o }:=rfl
def Mk.ok:Mk -> Prop
 | .sl _ c=>c<lU
 | _=>True
theorem H9{m:Mk}(h:m.ok){n r K:Nat}(hν:ν n=some (r,K)):VRi ν (m.val n) (m.val r):=by
 cases m with
 | ptr=>exact .ptr 0 hν
 | sl l c=>exact .slice 0 l hν ⟨λ _=>rfl,λ e=>by unfold Mk.ok at h;omega⟩
 | mp=>exact .map hν
theorem Ib(z:List Value)(n:Nat):(mu z n).length=n*z.length:=by
 induction n with
 | zero=>simp[mu]
 | succ n ih=>simp[mu,ih,Nat.succ_mul];omega
theorem yr(z:List Value):∀ (n i:Nat),i<n*z.length -> (mu z n)[i]?=z[i % z.length]?
 | 0,i,h=>by omega
 | n+1,i,h=>by
  rw[mu];rcases aaZ i z.length with h1|h1
  ·rw[aaU h1,Nat.mod_eq_of_lt h1]
  ·rw[aaV h1,yr z n _ (by rw[Nat.succ_mul] at h;omega),Nat.mod_eq_sub_mod h1]
theorem ub(z:List Value)(n:Nat)(hz:0<z.length):(Array.range (n*z.length)).map (λ i=>(⟨z⟩:Array Value)[i % (⟨z⟩:Array Value).size]!)=⟨mu z n⟩:=by
 apply Array.ext';apply List.ext_getElem?;intro i;rcases aaZ i (n*z.length) with h|h
 ·have h2:i % z.length<z.length:=Nat.mod_lt _ hz;simp only[Array.toList_map,Array.toList_range,List.getElem?_map,List.getElem?_range h,Option.map_some];rw[yr z n i h];simp[h2]
 ·rw[List.getElem?_eq_none (by simp;exact h),List.getElem?_eq_none (by rw[Ib];exact h)]
theorem rN{z:List Value}(h:LR ν z z):∀n,LR ν (mu z n) (mu z n)
 | 0=>.nil
 | n+1=>h.append (rN h n)
theorem lX{t el:TypeId}(h:tT P t=some el):P.underlying t=some (.slice el):=by
 unfold tT at h;split at h
 ·rename_i e;cases h;exact e
 ·cases h
theorem Cq{o:Oper}{b:AB}{m:Mk}(h:sO P o T=some (b,m)){l:List Operand}(hl:cf o.op=some l)(g_:OK ν T a l) :
  H7 b=true /\ m.ok /\ ∃o',(∀K,OR ν K b o') /\ ∀w,(execOp a.eval o).run P w=.ok (.value (m.val w.heap.size)) { w with heap:=w.heap.push o' }:=by
 unfold sO at h;split at h
 ·rename_i t ho;split at h
  ·rename_i z hz;cases h;obtain⟨zv,h1,h2,h3,-⟩:=j7 (ν:=ν) hz;refine⟨kF _ _,trivial,_,λ K=>OR.cellsB h3,λ w=>?_⟩;simp[execOp,ho,Instr.alloc,aa4,h1,newVar,newRow,h2,fl,cq,Result.andThen,Mk.val]
  ·cases h
 ·rename_i t x ho;rw[ho] at hl;simp only[cf,Option.some.injEq] at hl;subst hl;cases h;refine⟨kF _ _,trivial,_,λ K=>OR.cellsB (kB (g_ x (by simp))),λ w=>?_⟩;simp[execOp,ho,Instr.box,aa4,newVar,newRow,fl,cq,Result.andThen,Mk.val,gA]
 ·rename_i t len parts ho;rw[ho] at hl;simp only[cf,Option.some.injEq] at hl;subst hl;split at h
  case h_2=>cases h
  rename_i el he;split at h
  case h_2=>cases h
  rename_i k z hk hz;split at h
  case h_2=>cases h
  rename_i g1 g2 g3;split at h
  case h_2=>cases h
  rename_i l hf;cases h;have hu:=lX he;have Vd:z.length=k:=by rw[ew] at g2;exact aa1 g2
  have hk0:=dT g3;have g1':=bT g1;obtain⟨zv,h1,h2,h3,-⟩:=j7 (ν:=ν) hz;obtain⟨l',e1,e2⟩:=o8 (rI g_) (rN h3 len) hf;refine⟨kF _ _,?_,_,λ K=>OR.cellsB e2,λ w=>?_⟩
  ·have:len <= len*k:=Nat.le_mul_of_pos_right _ hk0;show len<lU;unfold lU;omega
  have h6:=kD e1;have h7:(parts.map λ (p:Nat × Operand)=>(p.1,a.eval p.2)).toList=parts.toList.map λ p=>(p.1,a.eval p.2):=by simp
  have h8:=ub z len (by omega);rw[Vd] at h8;have hs:=eC hk w;unfold Go.execOp;rw[ho];simp only;rw[aa4];have:(Instr.buildSlice t len (parts.map λ (p:Nat × Operand)=>(p.1,a.eval p.2))).run P w=.ok (.slice (some ⟨w.heap.size,0,none⟩) len len) { w with heap:=w.heap.push (.cells ⟨l'⟩ el (0,0)) }:=by
   unfold Instr.buildSlice;rw[aa4,aG hu];simp only[aa3];rw[aa4,hs];simp only[aa3];rw[if_neg (by simp;omega)]
   by_cases VI:len*k=0
   ·have hlen:len=0:=by
     rcases Nat.eq_zero_or_pos len with e|e
     ·exact e
     ·have:=Nat.mul_pos e hk0;omega
    subst hlen;simp only[Nat.zero_mul,if_true];rw[aa4];simp only[cq,aa3];have h9:(Array.range 0).map (λ i=>(#[]:Array Value)[i % (#[]:Array Value).size]!)=⟨mu z 0⟩:=by simp[mu]
    rw[h9,h7,h6];simp only[aa4,newRow,fl,aa3,cq]
   ·rw[if_neg VI];rw[aa4,h1];simp only[aa3];rw[aa4];simp only[cq,aa3,h2];rw[h8,h7,h6];simp only[aa4,newRow,fl,aa3,cq]
  rw[this];rfl
 ·rename_i t lo co ho;rw[ho] at hl;simp only[cf,Option.some.injEq] at hl;subst hl;split at h
  case h_2=>cases h
  rename_i el he;split at h
  case h_2=>cases h
  rename_i inf hi;split at h
  case h_2=>cases h
  rename_i z n m' hz hn hm;split at h
  case h_2=>cases h
  rename_i g1 g2 g3 g4 g5 g6;cases h;have hu:=lX he;have Vd:z.length=inf.size:=by rw[ew] at g4;exact aa1 g4
  have hk0:=dT g5;have g1':=bT g1;have g2':=bT g2;have g3':=dT g3;have g6':=dT g6;obtain⟨zv,h1,h2,h3,-⟩:=j7 (ν:=ν) hz;obtain⟨kn,en⟩:=m8 hn (g_ lo (by simp));obtain⟨km,em⟩:=m8 hm (g_ co (by simp));refine⟨kF _ _,g3',_,λ K=>OR.cellsB (rN h3 m'),λ w=>?_⟩;have h8:=ub z m' (by omega);rw[Vd] at h8;unfold lU at g3';have w1:i64.wrap (n:Int)=(n:Int):=IntWalk.i64_in _ (by omega);have w2:i64.wrap (m':Int)=(m':Int):=IntWalk.i64_in _ (by omega);have D_:fi P el=some inf.size:=by unfold fi;rw[hi];rfl
  have hs:=eC D_;have hti:=λ W=>cZ hi W;have q1:¬ ((281474976710656:Int)<(inf.bytes:Int)*(m':Int)):=by
   have:(inf.bytes:Int)*(m':Int)=((inf.bytes*m':Nat):Int):=by simp
   omega
  have q2:¬ ((m':Int)<0):=by omega
  have q3:¬ ((n:Int)<0):=by omega
  have q4:¬ ((m':Int)<(n:Int)):=by omega
  have z_:∀x W,(askRoom x).run P W=.ok () W:=λ x W=>by unfold askRoom;split <;> rfl
  unfold Go.execOp;rw[ho];simp only;rw[aa4];have:(Instr.makeSlice t (a.eval lo) (a.eval co)).run P w=.ok (.slice (some ⟨w.heap.size,0,none⟩) n m') { w with heap:=w.heap.push (.cells ⟨mu z m'⟩ el (0,0)) }:=by
   unfold Instr.makeSlice;rw[aa4,aG hu];simp only[aa3];rw[en,em];simp only[asInt,asIntOf,aa4,cq,aa3,hti,w1,w2];rw[if_neg (by simp[q1,q2,q3,q4])];simp only[aa4,z_,aa3,hs,Int.toNat_natCast]
   by_cases VI:m'*inf.size=0
   ·have hlen:m'=0:=by
     rcases Nat.eq_zero_or_pos m' with e|e
     ·exact e
     ·have:=Nat.mul_pos e hk0;omega
    subst hlen;simp only[Nat.zero_mul,if_true];rw[aa4];simp only[cq,aa3];have h9:(Array.range 0).map (λ i=>(#[]:Array Value)[i % (#[]:Array Value).size]!)=⟨mu z 0⟩:=by simp[mu]
    rw[h9];simp only[aa4,newRow,fl,aa3,cq]
   ·rw[if_neg VI];simp only[aa4,h1,cq,aa3,h2];rw[h8];simp only[aa4,newRow,fl,aa3,cq]
  rw[this];rfl
 ·rename_i t r ho;have U4:∀W:World,(newObj (.map #[] 0)).run P W=.ok W.heap.size { W with heap:=W.heap.push (.map #[] 0) }:=λ W=>rfl;split at h
  ·cases h;refine⟨rfl,trivial,.map #[] 0,λ K=>⟨rfl,.nil⟩,λ w=>?_⟩;simp[execOp,ho,Instr.makeMap,aa4,U4,cq,Result.andThen,Mk.val]
  ·rename_i r;rw[ho] at hl;simp only[cf,Option.some.injEq] at hl;subst hl;split at h
   ·rename_i kt et k n hu he;cases h;have hr:=g_ r (by simp);rw[he] at hr;have er:=hr.plain_eq rfl;refine⟨rfl,trivial,.map #[] 0,λ K=>⟨rfl,.nil⟩,λ w=>?_⟩;simp[execOp,ho,Instr.makeMap,aa4,aG hu,er,asInt,asIntOf,U4,cq,Result.andThen,Mk.val]
   ·cases h
 ·cases h
theorem Ic{d:TypeDesc}{k k':Value}(h:lB k k'=some true)(hk:vF d k=true):k'=k /\ Instr.sameBits 10000 k' k=true:=by
 unfold lB at h;split at h
 ·split at h
  ·rename_i e;have e':=aa5 e;simp only[Option.some.injEq,beq_iff_eq] at h;subst e';subst h;exact⟨rfl,by simp[Instr.sameBits]⟩
  ·cases h
 ·simp only[Option.some.injEq] at h;have:=FO.1 h;subst this;exact⟨rfl,by simp[Instr.sameBits];exact Kn _⟩
 ·simp only[Option.some.injEq,beq_iff_eq] at h;subst h;exact⟨rfl,by simp[Instr.sameBits]⟩
 ·cases h
theorem AR{d:TypeDesc}{k v v':Value}(hk:vF d k=true)(hv:VRi ν v v'){es:List (Value × Value × Nat)}{Td:List MapEntry}(h:ER ν es Td):∀ {r:List (Value × Value × Nat)} {cl cl':Nat} (i:Nat),ru k v cl es=some (r,cl') ->
  (Instr.findNow d k Td i=some none /\ cl'=cl+1 /\ ER ν r (Td++[⟨k,v',cl⟩])) \/ (∃j u,Instr.findNow d k Td i=some (some (i+j,u)) /\ cl'=cl /\ (Td[j]?).map (·.key)=some k /\ Instr.sameBits 10000 k k=true /\ ER ν r (Td.modify j λ e=>{ e with key:=k,val:=v' })):=by
 induction h with
 | nil=>intro r cl cl' i h;rw[ru] at h;cases h;exact .inl ⟨rfl,rfl,.cons k cl hv .nil⟩
 | @cons u0 u0' l0 l0' k' b hv0 h0 ih =>
  intro r cl cl' i h;rw[ru] at h;split at h
  ·rename_i e;cases h;obtain⟨e1,e2⟩:=Ic e hk;subst e1;refine .inr ⟨0,u0',?_,rfl,rfl,e2,.cons k' b hv h0⟩;rw[Instr.findNow];simp only[gB e hk];rfl
  ·rename_i e;split at h
   ·rename_i l c hl;cases h;rcases ih (i+1) hl with ⟨h1,h2,h3⟩|⟨j,u,h1,h2,h3,h4,h5⟩
    ·exact .inl ⟨by rw[Instr.findNow];simp only[gB e hk];exact h1,h2,.cons k' b hv0 h3⟩
    ·refine .inr ⟨j+1,u,?_,h2,by simpa using h3,h4,by simpa using ER.cons k' b hv0 h5⟩;rw[Instr.findNow];simp only[gB e hk];rw[h1];congr 3;omega
   ·cases h
  ·cases h
theorem Cr{t:TypeId}{m m' k v v':Value}(hH:HR ν H F w)(hm:VRi ν m m')(hv:VRi ν v v')(h:Lo P t H m k v=some H'):pl k=true /\ ∃w',(Instr.mapUpdate t m' k v').run P w=.ok () w' /\ HR ν H' F w' /\ Below 0 w w':=by
 unfold Lo at h;split at h
 case h_2=>cases h
 rename_i kt et hu;split at h
 case h_2=>cases h
 rename_i r hk;split at h
 case h_2=>cases h
 rename_i es cl hb;split at h
 case h_2=>cases h
 rename_i es2 cl2 hp;cases h;obtain⟨d,hd,Xx⟩:=AP hk;refine⟨(rJ Xx).1,?_⟩;cases hm with
 | atom _ h=>simp[cC] at h
 | @map _ b K hν =>
 obtain⟨Td,hw,hE⟩:=hH.map hb hν;have hg:(getObj b).run P w=.ok (.map Td cl) w:=gq hw;have hf:∀r,Instr.findNow d k Td.toList 0=some r -> (Instr.findKey kt k Td.toList).run P w=.ok r w:=λ r hr=>by
  unfold Instr.findKey;rw[aa4,aG hd];simp only[aa3,hr];rfl
 have iF:=cF hw;have n_:∀o:Obj,(∃es c,o=.map es c) -> (setObj b o).run P w=.ok () { w with heap:=w.heap.setIfInBounds b o }:=λ o ho=>by
  obtain⟨e1,c1,rfl⟩:=ho;unfold setObj;rw[Sem.run.eq_def];simp only[hw];rfl
 have hup:∀ (o:Obj),OR ν K (.map es2 cl2) o -> HR ν (cX H r (some (.map es2 cl2))) F { w with heap:=w.heap.setIfInBounds b o }:=λ o ho=>by
  refine hH.upd (r:=b) (K:=K) hb rfl rfl hν (o':=o) ?_ ho (λ k hk=>?_)
  ·show (w.heap.setIfInBounds b o)[b]?=_;rw[Array.getElem?_setIfInBounds_self_of_lt iF]
  ·show (w.heap.setIfInBounds b o)[k]?=_;rw[Array.getElem?_setIfInBounds_ne (Ne.symm hk)]
 have hB:∀o:Obj,Below 0 w { w with heap:=w.heap.setIfInBounds b o }:=λ o=>⟨rfl,rfl,rfl,by simp,λ k hk=>by omega⟩;rcases AR Xx hv hE 0 hp with ⟨h1,h2,h3⟩|⟨j,u,h1,h2,h3,h4,h5⟩
 ·refine⟨_,?_,hup (.map (Td.push ⟨k,v',cl⟩) (cl+1)) ⟨h2.symm,by simpa using h3⟩,hB _⟩;unfold Instr.mapUpdate;rw[aa4,aG hu];simp only[aa3,aa4,hg,gc hk,hf _ h1];exact n_ _ ⟨_,_,rfl⟩
 ·rw[Nat.zero_add] at h1;refine⟨_,?_,hup (.map (Td.modify j λ e=>{ e with key:=k,val:=v' }) cl) ⟨h2.symm,by rw[Array.toList_modify];exact h5⟩,hB _⟩;unfold Instr.mapUpdate;rw[aa4,aG hu];simp only[aa3,aa4,hg,gc hk,hf _ h1];have h6:(Td[j]?).map (·.key)=some k:=by simpa using h3
  rw[h6];have h7:(Instr.keyThatStays k k).run P w=.ok k w:=by
   unfold Instr.keyThatStays;rw[if_pos h4];rfl
  simp only[Option.getD_some,h7,aa3];exact n_ _ ⟨_,_,rfl⟩
end nw
structure Ext(ν ν':Nu)(n n':Nat):Prop where
 le:n <= n'
 out:∀h,(h<n \/ n' <= h) -> ν' h=ν h
def Fr(ν:Nu)(n n':Nat):Prop:=∀h,n <= h -> h<n' -> ν h=none
theorem Ext.sub{ν ν':Nu}{n n':Nat}(h:Ext ν ν' n n')(hf:Fr ν n n'):ν.Le ν':=λ k x hx=>by
 rw[h.out k];exact hx;rcases aaZ k n with h1|h1
 ·exact .inl h1
 ·rcases aaZ k n' with h2|h2
  ·rw[hf k h1 h2] at hx;cases hx
  ·exact .inr h2
theorem Ext.refl(ν:Nu)(n:Nat):Ext ν ν n n:=⟨aaK _,λ _ _=>rfl⟩
theorem Ext.trans{a b c:Nu}{n m k:Nat}(h:Ext a b n m)(h':Ext b c m k):Ext a c n k :=
 ⟨Nat.le_trans h.le h'.le,λ i hi=>by
  have h1:=h.le;have h2:=h'.le;rw[h'.out i (by omega),h.out i (by omega)]⟩
theorem Ext.fr{a b:Nu}{n m k:Nat}(h:Ext a b n m)(hf:Fr a n k)(hm:m <= k):Fr b m k:=λ i h1 h2=>by
 have:=h.le;rw[h.out i (.inr h1)];exact hf i (by omega) h2
theorem Ext.upd{ν:Nu}{n r K:Nat}:Ext ν (ν.upd n r K) n (n+1):=⟨by omega,λ h hh=>eR (by omega)⟩
section ap
variable {ν ν':Nu} {P:Program} {G N:Nat} {T T':Tr Value} {a:Act} {H H':AH} {F:HL} {w w':World}
structure Effi(P:Program)(ν:Nu)(F:HL)(n:Nat)(s:Sem Value)(w:World)(v:Value)(H':AH)(n':Nat):Prop where
 h:∃ν' v' w',s.run P w=.ok v' w' /\ VRi ν' v v' /\ Ext ν ν' n n' /\ HR ν' H' F w' /\ Below 0 w w'
theorem lY{k:Nat}{u e':TypeId}{y y':Value}{new:List Value}(hH:HR ν H F w)(hu:P.underlying u=some (.slice e'))(hy:VRi ν y y')(h:p7 H k y=some new) :
  ∃L_,LR ν new L_ /\ L_.length=dY y*k /\ (j0 new=true -> Src P k u y' (dY y) L_ w) /\ (Builtin.firstCells k (dY y) y').run P w.drew=.ok L_.toArray w.drew /\ (Builtin.firstCells k (dY y) y').run P w=.ok L_.toArray w:=by
 unfold p7 at h;split at h
 ·split at h
  ·cases h;rename_i c;cases hy;refine⟨[],.nil,by simp[dY],λ _=>Src.ofNil w hu _,?_,?_⟩
   ·exact run_firstCells_none _ _ _ _ _
   ·exact run_firstCells_none _ _ _ _ _
  ·cases h
 ·rename_i ad n c;cases hy with
  | atom _ h=>simp[cC] at h
  | @slice hd b K _ c' o _ hν hcap =>
  split at h
  case h_2=>cases h
  rename_i nn tr ty ww ro hs hb;split at h
  case h_2=>cases h
  rename_i hle;cases h;simp only at hb hle;obtain⟨cc,ty',fz,hw,hc⟩:=hH.cells hb hν;have XW:=bT hle;have hl:=j8 hc.le hc.get (n*k) o XW;have hcs:=hc.le;have hlen:((cc.toList.drop o).take (n*k)).length=n*k:=by simp;omega
  have K_:∀ (W:World),W.heap=w.heap -> ∀ (j:Nat) (u:Value),((cc.toList.drop o).take (n*k))[j]?=some u -> W.cell? ((⟨b,o,none⟩:Addr).add j)=some u:=λ W hW j u hj=>by
   rw[m6,lW (by rw[hW];exact hw)];have U7:=(List.getElem?_eq_some_iff.1 hj).1;rw[hlen] at U7;rw[List.getElem?_take_of_lt U7,aa6] at hj;simpa using hj
  refine⟨_,hl,hlen,λ hf=>Src.ofSlice w hu _ _ _ _ hlen (K_ w rfl) (ua hl hf),?_,?_⟩
  ·exact run_firstCells_some _ _ _ _ _ _ _ hlen (K_ _ rfl)
  ·exact run_firstCells_some _ _ _ _ _ _ _ hlen (K_ _ rfl)
 ·cases h
theorem HR.del'(hH:HR ν H F w){h r K:Nat}{b0:AB}(hb:bX H h=some b0)(hw0:H7 b0=true)(hν:ν h=some (r,K))(hs:∀k,k≠r -> w'.heap[k]?=w.heap[k]?):HR ν (cX H h none) F w':=by
 have r_:∀k b,bX (cX H h none) k=some b -> bX H k=some b /\ k≠h:=λ k b hk=>by
  rw[dL] at hk;split at hk
  ·cases hk
  ·rename_i e;exact⟨hk,Ne.symm e⟩
 refine⟨λ k b hk=>?_,λ k1 k2 b1 b2 q K1 K2 h1 h2 h3 h4=>hH.inj _ _ _ _ _ _ _ (r_ _ _ h1).1 (r_ _ _ h2).1 h3 h4,λ x hx=>?_,λ k b q K hk=>hH.apt k b q K (r_ k b hk).1⟩
 ·obtain⟨h1,h2⟩:=r_ k b hk;obtain⟨q,K',o,g1,g2,g3⟩:=hH.blk k b h1;refine⟨q,K',o,g1,?_,g3⟩;rw[hs q,g2];intro e;subst e;exact h2 (hH.inj _ _ _ _ _ _ _ h1 hb g1 hν)
 ·rw[hs _ (hH.apt _ _ _ _ hb hν x hx)];exact hH.frm x hx
theorem N8(VN r_:Nat)(h:r_<VN):Builtin.nextslicecap VN r_ <= 2*VN+192:=by
 unfold Builtin.nextslicecap;split
 ·omega
 ·split
  ·omega
  ·have:Builtin.growBy VN 4 r_ <= VN+VN / 4+192:=by
    simp only[Builtin.growBy]
    repeat' split
    all_goals omega
   omega
theorem yt{t u ty el e':TypeId}{inf:TypeInfo}{n len cap c':Nat}{base At:Option Addr}{y y':Value}{new:List Value}{v:Value}{n':Nat}(hH:HR ν H F w)(ht:P.underlying t=some (.slice el))(hu:P.underlying u=some (.slice e'))(hi:P.info? el=some inf)
  (hx:VRi ν (.slice base len cap) (.slice At len c')) (hy:VRi ν y y') (Sn:p7 H inf.size y=some new) (Sx:j0 new=true) (z_:len+dY y <= c') (h:rv H n inf.size len (dY y) cap base new=some (.val v H' n')) :
  Effi P ν F n (Builtin.append_ #[t,u] ty #[.slice At len c',y']) w v H' n':=by
 obtain⟨L_,hl,hlen,hS,-,-⟩:=lY hH hu hy Sn;have hS2:=hS Sx;unfold rv at h;split at h
 ·rename_i ad;split at h
  ·rename_i VE;split at h
   ·rename_i H2 hp;cases h;cases hx with
    | atom _ h=>simp[cC] at h
    | @slice hd b K _ _ o _ hν hcap =>
    obtain⟨q1,q2,q3,q4,q5⟩:=pf hH hν hl hp;have iD:=run_append_room_src (P:=P) w t u ty el inf ht hi b o len c' y' (dY y) L_ hS2 z_ q1 q2;exact⟨ν,_,_,iD,.slice _ _ hν hcap,.refl _ _,q4,q5⟩
   ·cases h
  ·cases h
 ·split at h
  ·cases h;cases hx with
   | atom _ _ =>
   cases hl;have hS3:=hS Sx;have hz:(Builtin.firstCells inf.size (dY y) y').run P w=.ok #[] w:=hS3.cells;refine⟨ν,.slice none (len+dY y) cap,w,?_,.atom _ rfl,.refl _ _,hH,Below.refl _ _⟩;rcases hS3.kind with ⟨e',hk⟩|hk <;> simp[Builtin.append_,run_underlying ht,run_underlying hk,sizeOf,typeInfo,hi,hS3.len,hz,z_]
  ·cases h
theorem ud{t u ty el e':TypeId}{inf:TypeInfo}{z:List Value}{n len cap c':Nat}{base At:Option Addr}{y y':Value}{r_ new:List Value}{v:Value}{n':Nat}(hH:HR ν H F w)(ht:P.underlying t=some (.slice el))(hu:P.underlying u=some (.slice e'))(hi:P.info? el=some inf)(hz:kT P el=some z)(Vd:z.length=inf.size)(D_:0<inf.size)
  (hx:VRi ν (.slice base len cap) (.slice At len c')) (hy:VRi ν y y') (Sn:p7 H inf.size y=some new) (Sx:j0 new=true) (hold:p7 H inf.size (.slice base len cap)=some r_) (z_:c'<len+dY y) (V0:len+dY y<1000000) (We:inf.bytes<1000001) (hn:ν n=none)
  (Hd:AH) (hd:∀ν' w',HR ν' H F w' -> HR ν' Hd F w') (h:ja Hd n inf.size len (dY y) el r_ new=.val v H' n') :
  Effi P ν F n (Builtin.append_ #[t,u] ty #[.slice At len c',y']) w v H' n':=by
 obtain⟨L_,hl,hlen,hS,-,-⟩:=lY hH hu hy Sn;obtain⟨Vb,SC,Uc,-,Ub,-⟩:=lY hH ht hx hold;have hS:=hS Sx;obtain⟨zv,g1,g2,g3,i,g4,g5⟩:=j7 (ν:=ν) hz;rw[hi] at g4;cases g4;have TK:Builtin.nextslicecap (len+dY y) c'*inf.bytes <= 281474976710656:=by
  have h1:=N8 (len+dY y) c' z_;have h2:Builtin.nextslicecap (len+dY y) c'*inf.bytes <= 2000192*1000000:=Nat.mul_le_mul (by omega) (by omega);omega
 have iD:=run_append_grow_src (P:=P) w t u ty el inf zv ht hi g5 At len c' Vb Ub y' (dY y) L_ hS z_ (by omega) TK;have UE:=grownCap_ge w (len+dY y) c' el;generalize grownCap w (len+dY y) c' el=K at *;unfold ja at h;cases h;refine⟨ν.upd n w.heap.size K,_,_,iD,?_,.upd,?_,⟨rfl,rfl,rfl,by simp,λ k hk=>by omega⟩⟩
 ·exact .slice _ _ cm ⟨λ e=>by unfold lU at e;omega,λ e=>by omega⟩
 ·have ZS:HR ν Hd F w:=hd _ _ hH;refine ZS.new hn (K:=K) ?_ (by rw[kc];rfl) (o:=.cells ((Vb++L_).toArray++Builtin.zeroCells zv.cells (K-(len+dY y))) el) rfl;rw[kc];have VZ:=MM (ty:=el) (ww:=inf.size) (K:=K) (rest:=(Builtin.zeroCells zv.cells (K-(len+dY y))).toList) (SC.append hl) (λ _=>by
   simp only[aaP,hlen,Uc,Builtin.zeroCells,Array.toList_map,List.length_map,Array.toList_range,List.length_range,g2];have WI:dY (Value.slice base len cap)=len:=rfl;rw[WI];have:(⟨z⟩:Array Value).size=inf.size:=by simpa using Vd
   rw[this,<- Nat.add_mul,<- Nat.add_mul];congr 1;omega)
  have e:((Vb++L_).toArray++Builtin.zeroCells zv.cells (K-(len+dY y)))=⟨(Vb++L_)++(Builtin.zeroCells zv.cells (K-(len+dY y))).toList⟩:=by apply Array.ext';simp
  rw[e];exact VZ
end ap
section ap
variable {ν ν':Nu} {P:Program} {G N:Nat} {T T':Tr Value} {a:Act} {H H':AH} {F:HL} {w w':World}
theorem kU{a b:Nat}(h:Nat.blt a b=false):b <= a:=by
 rcases aaZ a b with e|e
 ·have:Nat.blt a b=true:=Nat.ble_eq_true_of_le e;rw[this] at h;cases h
 ·exact e
theorem kV{a b:Nat}(h:Nat.ble a b=false):b<a:=by
 rcases aaZ b a with e|e
 ·exact e
 ·have:Nat.ble a b=true:=Nat.ble_eq_true_of_le e;rw[this] at h;cases h
theorem Lu{t u ty el e':TypeId}{inf:TypeInfo}{z:List Value}{n len cap:Nat}{ad:Addr}{x' y y':Value}{new:List Value}{v:Value}{n':Nat}(hH:HR ν H F w)(ht:P.underlying t=some (.slice el))(hu:P.underlying u=some (.slice e'))(hi:P.info? el=some inf)(hz:kT P el=some z)(Vd:z.length=inf.size)(D_:0<inf.size)
  (hx:VRi ν (.slice (some ad) len cap) x') (hy:VRi ν y y') (Sn:p7 H inf.size y=some new) (Sx:j0 new=true) (V0:len+dY y<1000000) (We:inf.bytes<1000001) (hcap:lU <= cap) (hn:Fr ν n n') (h:HP H n inf.size len (dY y) cap ad el new=some (.val v H' n')) :
  Effi P ν F n (Builtin.append_ #[t,u] ty #[x',y']) w v H' n':=by
 cases hx with
 | atom _ h=>simp[cC] at h
 | @slice hd b K _ c' o _ hν hc =>
 unfold HP at h;split at h
 case h_2=>cases h
 rename_i nn ww tyy VE ho X2 UL;simp only at ho;subst ho;have Tm:cap=lU:=aa1 X2;have Tb:=hc.2 hcap;rw[Tm,Nat.sub_self,Nat.add_zero] at Tb;unfold Q5 at UL;split at UL
 case h_2=>cases UL
 rename_i nn' tr ty' ww' hb;simp only[Option.some.injEq,Prod.mk.injEq] at UL;obtain⟨e1,e2,e3⟩:=UL;subst e1;subst e2;subst e3;simp only at hb;obtain⟨c,ty2,fz,hw,VZ⟩:=hH.cells hb hν;split at h
 case h_2=>cases h
 rename_i hwk hlk hty;have aeW:ty'=el:=aa1 hty;have aeR:ww'=inf.size:=aa1 hwk;have akS:=bT hlk;have Wz:=VZ.gr (by omega);rw[aeR] at Wz;have hle:=VZ.le;split at h
 ·rename_i SW;have afI:=bT SW;have:(len+dY y)*inf.size <= K*inf.size:=by omega
  have z_:=Nat.le_of_mul_le_mul_right this D_;exact yt hH ht hu hi (.slice 0 len hν hc) hy Sn Sx (by omega) h
 ·rename_i SW;have afI:=kV SW;split at h
  case h_2=>cases h
  rename_i r_ hold;have IF:ja (cX H hd none) n inf.size len (dY y) el r_ new=.val v H' n':=by simpa using h
  have XU:ν n=none:=by
   unfold ja at IF;cases IF;exact hn n (aaK _) (by omega)
  by_cases z_:len+dY y <= c'
  ·obtain⟨L_,hl,hlen,hS,-,-⟩:=lY hH hu hy Sn;obtain⟨Vb,SC,Uc,-,-,Ub⟩:=lY hH ht (.slice 0 len hν hc) hold;have hS:=hS Sx;have TK:(len+dY y)*inf.size <= c.size:=by
    rw[Wz];exact Nat.mul_le_mul_right _ (by omega)
   have K_:∀j,j<L_.length -> (w.cell? ⟨b,0+len*inf.size+j,none⟩).isSome=true:=λ j hj=>by
    rw[lW hw,Array.getElem?_eq_getElem (by rw[hlen] at hj;rw[Nat.add_mul] at TK;omega)];rfl
   have WO:∀j,j<L_.length -> w.frozen? ⟨b,0+len*inf.size+j,none⟩=false:=λ j hj=>by
    obtain⟨lo,hi⟩:=fz;have:=VZ.fz;cases this;simp[World.frozen?,hw]
   have iD:=run_append_room_src (P:=P) w t u ty el inf ht hi b 0 len c' y' (dY y) L_ hS z_ K_ WO;obtain⟨c2,e1,e2,e3⟩:=lE b L_ (0+len*inf.size) w hw;unfold ja at IF;cases IF;have af5:HR ν (cX H hd none) F (w.setCells b (0+len*inf.size) L_):=hH.del' hb rfl hν (λ k hk=>ia b _ _ _ _ hk);refine⟨ν.upd n b K,_,_,iD,?_,.upd,?_,ie _ _ _ _⟩
   ·exact .slice _ _ cm ⟨λ e=>by unfold lU at e;omega,λ e=>by omega⟩
   ·refine af5.add XU e1 ?_ (by rw[kc];rfl) (λ x hx=>hH.apt _ _ _ _ hb hν x hx) (λ k b' K' hk e=>?_)
    ·rw[kc];have ab9:∀i,i<len*inf.size -> c[i]?=Vb[i]?:=λ i hi=>by
      have WI:dY (Value.slice (some ⟨hd,0,none⟩) len cap)=len:=rfl;rw[WI] at Uc Ub;have WW:((c.toList.drop 0).take (len*inf.size)).length=len*inf.size:=by simp;omega
      have h2:=run_firstCells_some (P:=P) w inf.size len ⟨b,0,none⟩ len c' ((c.toList.drop 0).take (len*inf.size)) WW (λ j u hj=>by
       rw[m6,lW hw];have U7:=(List.getElem?_eq_some_iff.1 hj).1;rw[WW] at U7;rw[List.getElem?_take_of_lt U7,aa6] at hj;simpa using hj)
      rw[h2] at Ub;simp only[Result.ok.injEq,and_true] at Ub;have h3:Vb=(c.toList.drop 0).take (len*inf.size):=by
       have:=congrArg Array.toList Ub;simpa using this.symm
      rw[h3,List.getElem?_take_of_lt hi];simp
     have WI:dY (Value.slice (some ⟨hd,0,none⟩) len cap)=len:=rfl;rw[WI] at Uc;have ZI:r_.length=len*inf.size:=by rw[<- Uc,SC.length]
     have hln:new.length=dY y*inf.size:=by rw[<- hlen,hl.length]
     refine⟨VZ.ty.trans aeW,?_,VZ.fz,λ i hi=>?_,λ _=>by rw[e2,Wz]⟩
     ·rw[e2,aaP,ZI,hln,<- Nat.add_mul];exact TK
     ·have XB:i<(len+dY y)*inf.size:=by rw[aaP,ZI,hln,<- Nat.add_mul] at hi;exact hi
      obtain⟨v',g1,g2⟩:=(SC.append hl).get (aaT hi);refine⟨v',?_,by rw[lD hi];exact g2⟩;rw[e3 i (by omega),<- g1]
      by_cases h1:i<len*inf.size
      ·rw[dif_neg (by omega),ab9 i h1,aaU (by omega)]
      ·rw[dif_pos ⟨by omega,by rw[hlen];rw[Nat.add_mul] at XB;omega⟩,aaV (by omega),Uc];rw[<- aaT];congr 1;omega
    ·rw[dL] at hk;split at hk
     ·cases hk
     ·rename_i AS;exact AS (hH.inj _ _ _ _ _ _ _ hb hk hν e)
  ·exact ud hH ht hu hi hz Vd D_ (.slice 0 len hν hc) hy Sn Sx hold (by omega) V0 We XU (cX H hd none) (λ ν' w' h'=>h'.del hd) IF
def HEq(H H':AH):Prop:=∀h,bX H' h=bX H h \/ ∃n t t' ty w ro,bX H h=some (.cells n t ty w ro) /\ bX H' h=some (.cells n t' ty w ro) /\ ∀i,i<n -> cY t' i=cY t i
theorem HR.heq(h:HR ν H F w)(e:HEq H H'):HR ν H' F w:=by
 have back:∀k b,bX H' k=some b -> ∃b0,bX H k=some b0 /\ ∀K o,OR ν K b0 o -> OR ν K b o:=λ k b hk=>by
  rcases e k with e1|⟨n,t,t',ty,wd,ro,e1,e2,e3⟩
  ·rw[e1] at hk;exact⟨b,hk,λ _ _ h=>h⟩
  ·rw[e2] at hk;cases hk;refine⟨_,e1,λ K o ho=>?_⟩;cases o with
   | cells c ty' fz =>
    have ho:CR ν K n t ty wd c ty' fz:=ho;exact(⟨ho.ty,ho.le,ho.fz,λ i hi=>by obtain⟨v',g1,g2⟩:=ho.get i hi;exact⟨v',g1,by rw[e3 i hi];exact g2⟩,ho.gr⟩:CR ν K n t' ty wd c ty' fz)
   | _=>exact ho
 refine⟨λ k b hk=>?_,λ h₁ h₂ b₁ b₂ r K₁ K₂ g1 g2=>?_,h.frm,λ k b r K hk=>?_⟩
 ·obtain⟨b0,g1,g2⟩:=back k b hk;obtain⟨r,K,o,g3,g4,g5⟩:=h.blk k b0 g1;exact⟨r,K,o,g3,g4,g2 K o g5⟩
 ·obtain⟨c1,d1,-⟩:=back _ _ g1;obtain⟨c2,d2,-⟩:=back _ _ g2;exact h.inj _ _ _ _ _ _ _ d1 d2
 ·obtain⟨b0,g1,g2⟩:=back k b hk;exact h.apt k b0 r K g1
theorem gC(t:Tr Value):∀ (k i:Nat),(gT t i k).length=k
 | 0,_=>rfl
 | k+1,i=>by simp[gT,gC t k]
theorem ue(t:Tr Value):∀ (k i j:Nat),j<k -> (gT t i k)[j]?=some (cY t (i+j))
 | 0,_,_,h=>absurd h (by omega)
 | k+1,i,j,h=>by
  cases j with
  | zero=>simp[gT]
  | succ j=>simp only[gT,List.getElem?_cons_succ];rw[ue t k (i+1) j (by omega)];congr 2;omega
theorem Ie(tr:Tr Value)(i:Nat)(new:List Value)(el:TypeId)(k:Nat):HQ tr i new el k=.cells (i+new.length) (kw tr i new) el k false:=by
 unfold HQ;split <;> rename_i h <;> rw[h,ew]
theorem EJ{n k len add cap:Nat}{ad:Addr}{el:TypeId}{new:List Value}{v:Value}{n':Nat}(h:tU H n k len add cap ad el new=some (.val v H' n')):∃H0,HP H n k len add cap ad el new=some (.val v H0 n') /\ HEq H0 H':=by
 unfold tU at h;split at h
 case h_2=>cases h
 rename_i nn tr ty w VE ho X2 hb;split at h
 case h_2=>cases h
 rename_i h1 h2 h3;have UL:Q5 H ad=some (nn,w,ty):=by unfold Q5;rw[hb]
 split at h
 ·rename_i SW;refine⟨H',?_,λ h=>.inl rfl⟩;unfold HP;rw[VE,ho,X2,UL];simp only[h1,h2,h3,SW];exact h
 ·rename_i SW;cases h;refine⟨cX (cX H ad.block none) n (some (vD (gT tr 0 (len*k)++new) el k)),?_,λ h=>?_⟩
  ·unfold HP;rw[VE,ho,X2,UL];simp only[h1,h2,h3,SW,p7,VE,hb,ho,Nat.zero_add];rfl
  ·by_cases hh:n=h
   ·refine .inr ⟨(gT tr 0 (len*k)++new).length,dS undef (gT tr 0 (len*k)++new) 0 .lf,kw tr (len*k) new,el,k,false,by rw[dL,if_pos hh,kc],?_,λ i hi=>?_⟩
    ·rw[dL,if_pos hh,Ie,aaP,gC]
    ·rw[lD hi,rM];rw[aaP,gC] at hi;split
     ·rename_i hj;rw[List.getElem_append_right (by rw[gC];omega)];congr 1;rw[gC]
     ·rename_i hj;have XB:i<len*k:=by omega
      rw[List.getElem_append_left (by rw[gC];exact XB)];have:=ue tr (len*k) 0 i XB;rw[Nat.zero_add] at this;rw[aaT (by rw[gC];exact XB)] at this;exact(Option.some.inj this).symm
   ·exact .inl ((dL _ _ _ _).trans ((if_neg hh).trans ((if_neg hh).symm.trans (dL _ _ _ _).symm)))
theorem Ig{t u ty el e':TypeId}{inf:TypeInfo}{z:List Value}{n len cap:Nat}{ad:Addr}{x' y y':Value}{new:List Value}{v:Value}{n':Nat}(hH:HR ν H F w)(ht:P.underlying t=some (.slice el))(hu:P.underlying u=some (.slice e'))(hi:P.info? el=some inf)(hz:kT P el=some z)(Vd:z.length=inf.size)(D_:0<inf.size)
  (hx:VRi ν (.slice (some ad) len cap) x') (hy:VRi ν y y') (Sn:p7 H inf.size y=some new) (Sx:j0 new=true) (V0:len+dY y<1000000) (We:inf.bytes<1000001) (hcap:lU <= cap) (hn:Fr ν n n') (h:tU H n inf.size len (dY y) cap ad el new=some (.val v H' n')) :
  Effi P ν F n (Builtin.append_ #[t,u] ty #[x',y']) w v H' n':=by
 obtain⟨H0,h1,h2⟩:=EJ h;obtain⟨ν',a,b,g1,g2,g3,g4,g5⟩:=Lu hH ht hu hi hz Vd D_ hx hy Sn Sx V0 We hcap hn h1;exact⟨ν',a,b,g1,g2,g3,g4.heq h2,g5⟩
theorem Lv{t u ty el e':TypeId}{n:Nat}{x x' y y':Value}{v:Value}{n':Nat}(hH:HR ν H F w)(ht:P.underlying t=some (.slice el))(hu:P.underlying u=some (.slice e'))(hx:VRi ν x x')(hy:VRi ν y y')(hn:Fr ν n n')(h:xU P H n el x y=some (.val v H' n')) :
  Effi P ν F n (Builtin.append_ #[t,u] ty #[x',y']) w v H' n':=by
 unfold xU at h;split at h
 case h_2=>cases h
 rename_i inf z hi hz;split at h
 case h_2=>cases h
 rename_i k by_ base len cap hk YO;have hk:inf.size=k+1:=hk;have YO:inf.bytes=by_+1:=YO;split at h
 case h_2=>cases h
 rename_i new Sn Vd V0 We;rw[<- hk] at Sn Vd h;have abz:z.length=inf.size:=by rw[ew] at Vd;exact aa1 Vd
 have acW:=dT V0;have alz:=dT We;split at h
 ·rename_i Sx X2;have af8:=dT X2;have WC:∃At,x'=.slice At len cap /\ VRi ν (.slice base len cap) (.slice At len cap):=by
   cases hx with
   | atom _ h=>exact⟨_,rfl,.atom _ h⟩
   | slice o _ hν hc=>obtain rfl:=hc.1 af8;exact⟨_,rfl,.slice o _ hν hc⟩
  obtain⟨At,rfl,hr⟩:=WC;split at h
  ·rename_i SW;exact yt hH ht hu hi hr hy Sn Sx (bT SW) h
  ·rename_i SW;split at h
   ·rename_i r_ hold;have IF:ja H n inf.size len (dY y) el r_ new=.val v H' n':=by simpa using h
    have XU:ν n=none:=by
     have Zm:=IF;unfold ja at Zm;cases Zm;exact hn n (aaK _) (by omega)
    exact ud hH ht hu hi hz abz (by omega) hr hy Sn Sx hold (kV SW) acW (by omega) XU H (λ _ _ h=>h) IF
   ·cases h
 ·rename_i Sx X2;split at h
  ·exact Ig hH ht hu hi hz abz (by omega) hx hy Sn Sx acW (by omega) (kU X2) hn h
  ·cases h
 ·cases h
end ap
inductive TgR(ν:Nu):Target -> Target -> Prop
 | fn {f f':Fn} {c c':Array Value}:FnR ν f f' -> LR ν c.toList c'.toList -> TgR ν (.fn f c) (.fn f' c')
 | coll {h b K:Nat}:ν h=some (b,K) -> TgR ν (.collected h) (.collected b)
structure DR(ν:Nu)(d d':Deferred):Prop where
 t:TgR ν d.target d'.target
 a:LR ν d.args.toList d'.args.toList
def RK(P:Program)(ν:Nu)(F:HL)(n:Nat)(s:Sem Next)(w:World):AN -> Prop
 | .val v H' n'=>∃ν' v' w' r,s.run P w=.ok r w' /\ (r=.value v' \/ (r=.skip /\ v'=undef)) /\ VRi ν' v v' /\ Ext ν ν' n n' /\ HR ν' H' F w' /\ Below 0 w w'
 | .ent f args=>∃iS,s.run P w=.ok (.enter f ⟨iS⟩) w /\ LR ν args iS
 | .rnd l args=>∃b K iS,ν l=some (b,K) /\ LR ν args iS /\ s.run P w=(Instr.yield b ⟨iS⟩).run P w
 | .dfr d=>∃d',s.run P w=.ok (.defer d') w /\ DR ν d d'
 | .rcv=>s.run P w=.ok .recover w
section ap
variable {ν ν':Nu} {P:Program} {G N:Nat} {T T':Tr Value} {a:Act} {H H':AH} {F:HL} {w w':World}
theorem TgR.mono{t t':Target}(h:TgR ν t t')(hl:ν.Le ν'):TgR ν' t t':=by
 cases h with
 | fn h1 h2=>exact .fn (h1.mono hl) (h2.mono hl)
 | coll h=>exact .coll (hl _ _ h)
theorem DR.mono{d d':Deferred}(h:DR ν d d')(hl:ν.Le ν'):DR ν' d d':=⟨h.t.mono hl,h.a.mono hl⟩
theorem rO{fn:Fn}{f c:Array Value}{v':Value}(h:VRi ν (.func fn f c) v'):∃fn' f' c',v'=.func fn' f' c' /\ FnR ν fn fn' /\ LR ν f.toList f'.toList /\ LR ν c.toList c'.toList:=by
 cases h with
 | atom _ h=>simp[cC] at h
 | func h1 h2 h3 h4 h5=>exact⟨_,_,_,rfl,h1,.of_arr h2 h3,.of_arr h4 h5⟩
theorem Ii{t u ty el:TypeId}{n:Nat}{x x' y y':Value}{v:Value}{n':Nat}(hH:HR ν H F w)(ht:P.underlying t=some (.slice el))(hx:VRi ν x x')(hy:VRi ν y y')(h:xV P H n el x y=some (.val v H' n')) :
  Effi P ν F n (Builtin.copy_ #[t,u] ty #[x',y']) w v H' n':=by
 unfold xV at h;split at h
 case h_2=>cases h
 rename_i k hk;split at h
 case h_2=>cases h
 rename_i ad dl cx b sl cc;split at h
 case h_2=>cases h
 rename_i vs VE Sn;split at h
 case h_2=>cases h
 rename_i H2 hp;cases h;cases hx with
 | atom _ h=>simp[cC] at h
 | @slice hd bb K _ c' o _ hν hc =>
 have hy2:∃b',y'=.slice b' sl (match y' with | .slice _ _ c=>c|_=>0) /\ ∀c,VRi ν (.slice b (Nat.min sl dl) c) (.slice b' (Nat.min sl dl) c) \/ b≠none:=by
  cases hy with
  | atom _ h=>cases b with
   | none=>exact⟨none,rfl,λ c=>.inl (.atom _ rfl)⟩
   | some _=>simp[cC] at h
  | slice o n hν hc=>exact⟨_,rfl,λ c=>.inr (by simp)⟩
 have hfc:∃IS,LR ν vs IS /\ (Builtin.firstCells k (Nat.min sl dl) y').run P w=.ok IS.toArray w:=by
  have hyy:∃yy,VRi ν (.slice b (Nat.min sl dl) cc) yy /\ (Builtin.firstCells k (Nat.min sl dl) y').run P w=(Builtin.firstCells k (Nat.min sl dl) yy).run P w:=by
   cases hy with
   | atom _ h=>cases b with
    | none=>exact⟨.slice none (Nat.min sl dl) cc,.atom _ rfl,rfl⟩
    | some _=>simp[cC] at h
   | slice o n hν hc=>exact⟨_,.slice o _ hν hc,rfl⟩
  obtain⟨yy,h1,h2⟩:=hyy;obtain⟨IS,q1,q2,q3,q4,q5⟩:=lY (u:=t) hH ht h1 Sn;exact⟨IS,q1,by rw[h2];exact q5⟩
 obtain⟨IS,hl,hfc⟩:=hfc;obtain⟨q1,q2,q3,q4,q5⟩:=pf hH hν hl hp;obtain⟨b',hy3,-⟩:=hy2;have n_:=run_storeCells_cells (P:=P) bb o IS 0 w (by simpa using q1) (by simpa using q2) q3;refine⟨ν,.int .i64 ((Nat.min sl dl:Nat):Int),_,?_,.atom _ rfl,.refl _ _,q4,q5⟩;have hlen:∀W,(Builtin.lenOf y').run P W=.ok sl W:=λ W=>by rw[hy3];rfl
 have hs:=eC hk w;unfold Builtin.copy_;simp only[List.getElem?_toArray,List.getElem?_cons_zero,List.getElem?_cons_succ];rw[aa4,aG ht];simp only[aa3,aa4,hlen,hs,hfc];simp only[Nat.add_zero] at n_;rw[n_];rfl
theorem iC{f:FuncId}{args:Array Value}(h:rx P f=true)(w:World):(callFunc f args).run P w=.ok (.enter f args) w:=by
 unfold rx at h;split at h
 ·rename_i fn hf;rw[aa0] at h;obtain⟨h1,h2⟩:=h;unfold callFunc;rw[nD];simp only[hf];rw[if_neg (by simpa using h1),if_neg (by cases hb:fn.body <;> simp[hb] at h2 ⊢)];rfl
 ·cases h
theorem ne{c:Call}{f:Operand}{ty:TypeId}{fn:Fn}{f1 c1:Array Value}{ρ:Operand -> Value}(hc:c.callee=.value f)(hf:ρ f=.func fn f1 c1)(w:World):(resolve ρ c ty).run P w=.ok { target:=.fn fn c1,args:=f1++c.args.map ρ } w:=by
 unfold resolve;rw[hc];simp only[hf,Deferred.ofValue];rfl
theorem Ij{n:Nat}{c:Call}{x:AN}(h:HS P H n c T=some x):∃v H' n',x=.val v H' n':=by
 unfold HS xU tU rv ja at h
 repeat' split at h
 all_goals first
  | (cases h;done)
  | (cases h;exact⟨_,_,_,rfl⟩)
theorem EK{n:Nat}{c:Call}{x:AN}(h:xW P H n c T=some x):∃v H' n',x=.val v H' n':=by
 unfold xW xV at h
 repeat' split at h
 all_goals first
  | (cases h;done)
  | (cases h;exact⟨_,_,_,rfl⟩)
theorem Cs{n n':Nat}{s:Sem Value}{s':Sem Next}{v:Value}(h:Effi P ν F n s w v H' n')(e:s'.run P w=(do pure (.value (<- s)):Sem Next).run P w):RK P ν F n s' w (.val v H' n'):=by
 obtain⟨ν',v',w',h1,h2,h3,h4,h5⟩:=h;refine⟨ν',v',w',.value v',?_,.inl rfl,h2,h3,h4,h5⟩;rw[e,aa4,h1];rfl
theorem EL{t:TypeId}{name:String}{f:FuncId}{v:Value}(h:HT P t name=some f)(w:World):(method (P.types.size+Made.depth) t v name).run P w=.ok (f,v) w:=by
 unfold HT at h;split at h
 case h_2=>cases h
 rename_i i hi Zz;split at h
 case h_2=>cases h
 rename_i m hm;obtain⟨k,hk⟩:∃k,P.types.size+Made.depth=k+1:=⟨_,(Nat.succ_pred_eq_of_pos (dT Zz)).symm⟩;rw[hk];have acu:m.path.toList=[] -> (follow m.path.toList t (.val v)).run P w=.ok (t,.val v) w:=λ e=>by rw[e];rfl
 split at h
 ·rename_i g e hp hf hu;cases h;unfold method;rw[aa4,cZ hi];simp only[aa3,hm];rw[aa4,acu hp];simp only[aa3,hf];rw[aa4];have:∀wr,(receiverAt t (.val v) true wr).run P w=.ok v w:=λ wr=>by
   unfold receiverAt;rw[aa4,aG hu];rfl
  rw[this];rfl
 ·cases h
 ·rename_i g d hnp hp hf hu;cases h;unfold method;rw[aa4,cZ hi];simp only[aa3,hm];rw[aa4,acu hp];simp only[aa3,hf];rw[aa4];have:∀wr,(receiverAt t (.val v) false wr).run P w=.ok v w:=λ wr=>by
   unfold receiverAt;rw[aa4,aG hu];simp only[aa3];cases d <;> first|rfl|exact(hnp _ rfl).elim
  rw[this];rfl
 ·cases h
theorem Lw{o:Oper}{n:Nat}{x:AN}(hH:HR ν H F w)(h:m0 P o T H n=some x){l:List Operand}(hl:i9 o.op=some l)(g_:OK ν T a l)(hn:∀v H' n',x=.val v H' n' -> Fr ν n n'):RK P ν F n (execOp a.eval o) w x:=by
 unfold m0 at h;split at h
 ·rename_i t p y ho;rw[ho] at hl;simp only[i9,cf,Option.some.injEq] at hl;subst hl;have hp:=g_ p (by simp);split at h
  ·rename_i ad e;split at h
   ·rename_i H2 hs;cases h;rw[e] at hp;generalize hu:a.eval p=u at hp;have hp2:=hp;cases hp with
    | atom _ h=>simp[cC] at h
    | ptr o h =>
     obtain⟨w',q1,q2,q3⟩:=EI hH hp2 (g_ y (by simp)) hs;refine⟨ν,undef,w',.skip,?_,.inr ⟨rfl,rfl⟩,aav,.refl _ _,q2,q3⟩;simp[execOp,ho,Instr.storeAt,Instr.sureAddr,hu,aa4,q1]
   ·cases h
  ·cases h
 ·rename_i t m k y ho;rw[ho] at hl;simp only[i9,cf,Option.some.injEq] at hl;subst hl;split at h
  ·rename_i H2 hs;cases h;obtain⟨hp,w',q1,q2,q3⟩:=Cr hH (g_ m (by simp)) (g_ y (by simp)) hs;have hk:=(g_ k (by simp)).plain_eq hp;refine⟨ν,undef,w',.skip,?_,.inr ⟨rfl,rfl⟩,aav,.refl _ _,q2,q3⟩;simp[execOp,ho,hk,aa4,q1]
  ·cases h
 ·rename_i t m k y ho;rw[ho] at hl;simp only[i9,cf,Option.some.injEq] at hl;subst hl;split at h
  ·rename_i H2 hs;cases h;obtain⟨hp,w',q1,q2,q3⟩:=Cr hH (g_ m (by simp)) (g_ y (by simp)) hs;have hk:=(g_ k (by simp)).plain_eq hp;refine⟨ν,undef,w',.skip,?_,.inr ⟨rfl,rfl⟩,aav,.refl _ _,q2,q3⟩;simp[execOp,ho,hk,aa4,q1]
  ·cases h
 ·rename_i c ho;split at h
  case h_2=>cases h
  rename_i f hc;split at h
  case h_2=>cases h
  rename_i fn first captured e
  cases h;rw[ho] at hl;simp only[i9,hc,Option.some.injEq] at hl;subst hl;have hf:=g_ f (by simp);rw[e] at hf;obtain⟨fn',f',c',e',r1,r2,r3⟩:=rO hf;have ha:=lC (l:=c.args.toList) (λ x hx=>g_ x (aaE _ hx));refine⟨{ target:=.fn fn' c',args:=f'++c.args.map a.eval },?_,⟨.fn r1 r3,?_⟩⟩
  ·unfold Go.execOp;rw[ho];simp only;rw[aa4,ne hc e'];rfl
  ·simpa using r2.append ha
 ·rename_i c ho;split at h
  ·rename_i f hc;have SC:l=f::c.args.toList:=by
    rw[ho] at hl;simp only[i9,cf,hc,Option.some.injEq] at hl;rw[<- hl];rfl
   split at h
   ·rename_i x' SL;cases h;subst SC;have hf:=g_ f (by simp);have ha:=lC (l:=c.args.toList) (λ x hx=>g_ x (aaE _ hx));have iD:∀fn' f' c',a.eval f=.func fn' f' c' -> (execOp a.eval o).run P w=(invoke (.fn fn' c') (f'++c.args.map a.eval)).run P w:=λ fn' f' c' e'=>by
     unfold Go.execOp;rw[ho];simp only;rw[aa4,ne hc e'];rfl
    unfold qx at SL;split at SL
    case h_2=>cases SL
    rename_i fn first captured e
    rw[e] at hf;obtain⟨fn',f',c',e',r1,r2,r3⟩:=rO hf;split at SL
    ·split at SL
     ·rename_i hb;cases SL;cases r1;refine⟨f'.toList++(c.args.toList.map a.eval++c'.toList),?_,r2.append (ha.append r3)⟩;rw[iD _ _ _ e'];show (callFunc _ (f'++c.args.map a.eval++c')).run P w=_;rw[iC hb];congr 2;apply Array.ext';simp
     ·cases SL
    ·rename_i lp;split at SL
     ·rename_i YJ;cases SL;cases r1 with
      | @yield _ b K hν =>
      rw[YJ] at r2;refine⟨b,K,_,hν,ha,?_⟩;rw[iD _ _ _ e'];have hf0:f'=#[]:=by
       apply Array.ext';generalize f'.toList=q at r2;cases r2;rfl
      subst hf0;show (Instr.yield b (#[]++c.args.map a.eval)).run P w=_;congr 2;apply Array.ext';simp
     ·cases SL
    ·cases SL
   ·split at h
    ·rename_i v hv;cases h;have VX:cf o.op=some l:=by
      rw[ho] at hl ⊢;exact hl
     obtain⟨v',r,e⟩:=o9 hv VX g_;exact⟨ν,v',w,_,e w,.inl rfl,r,.refl _ _,hH,Below.refl _ _⟩
    ·cases h
  ·rename_i b hc;split at h
   ·obtain⟨v,H2,n2,rfl⟩:=Ij h;have Vs:=hn v H2 n2 rfl;unfold HS at h;split at h
    case h_2=>cases h
    rename_i cl x y t u;simp only at hc;subst hc;split at h
    case h_2=>cases h
    rename_i el he hs;have SC:l=[x,y]:=by
     rw[ho] at hl;simp only[i9,cf,Option.some.injEq] at hl;rw[<- hl];rfl
    subst SC;have hu:∃e',P.underlying u=some (.slice e'):=by
     unfold P7 at hs;split at hs
     ·rename_i e1;exact⟨_,e1⟩
     ·cases hs
    obtain⟨e',hu⟩:=hu;have hr:∃cs,(resolve a.eval ⟨.builtin .append,⟨[x,y]⟩,⟨[t,u]⟩⟩ o.type).run P w=.ok { target:=.builtin .append #[t,u] o.type cs,args:=#[a.eval x,a.eval y] } w:=by
     refine⟨(⟨[x,y]⟩:Array Operand).map (λ | .const _=>true|_=>false),?_⟩;unfold resolve;have e:(⟨[x,y]⟩:Array Operand).map a.eval=#[a.eval x,a.eval y]:=by simp
     simp only[e];rfl
    obtain⟨cs,hr⟩:=hr;refine Cs (Lv (ty:=o.type) hH (lX he) hu (g_ x (by simp)) (g_ y (by simp)) Vs h) ?_;unfold Go.execOp;rw[ho];simp only;rw[aa4,hr];rfl
   ·obtain⟨v,H2,n2,rfl⟩:=EK h;unfold xW at h;split at h
    case h_2=>cases h
    rename_i cl x y t u;simp only at hc;subst hc;split at h
    case h_2=>cases h
    rename_i el he;have SC:l=[x,y]:=by
     rw[ho] at hl;simp only[i9,cf,Option.some.injEq] at hl;rw[<- hl];rfl
    subst SC;have hr:∃cs,(resolve a.eval ⟨.builtin .copy,⟨[x,y]⟩,⟨[t,u]⟩⟩ o.type).run P w=.ok { target:=.builtin .copy #[t,u] o.type cs,args:=#[a.eval x,a.eval y] } w:=by
     refine⟨(⟨[x,y]⟩:Array Operand).map (λ | .const _=>true|_=>false),?_⟩;unfold resolve;have e:(⟨[x,y]⟩:Array Operand).map a.eval=#[a.eval x,a.eval y]:=by simp
     simp only[e];rfl
    obtain⟨cs,hr⟩:=hr;refine Cs (Ii (u:=u) (ty:=o.type) hH (lX he) (g_ x (by simp)) (g_ y (by simp)) h) ?_;unfold Go.execOp;rw[ho];simp only;rw[aa4,hr];rfl
   ·cases h;show (execOp a.eval o).run P w=_;unfold Go.execOp;rw[ho];simp only;rw[aa4];unfold resolve;rw[hc];rfl
   ·cases h
  ·rename_i recv name hc;have SC:l=recv::c.args.toList:=by
    rw[ho] at hl;simp only[i9,cf,hc,Option.some.injEq] at hl;rw[<- hl];rfl
   subst SC;split at h
   case h_2=>cases h
   rename_i t v e;split at h
   case h_2=>cases h
   rename_i f hf;split at h
   case h_2=>cases h
   rename_i hB;cases h;have hr:=g_ recv (by simp);rw[e] at hr;have ha:=lC (l:=c.args.toList) (λ x hx=>g_ x (aaE _ hx));generalize hu:a.eval recv=u at hr;cases hr with
   | atom _ h=>simp[cC] at h
   | @iface _ v' _ hv =>
   refine⟨v'::c.args.toList.map a.eval,?_,.cons hv ha⟩;unfold Go.execOp;rw[ho];simp only;rw[aa4];have h1:(resolve a.eval c o.type).run P w=.ok { target:=.fn (.method name) #[],args:=#[.iface t v']++c.args.map a.eval } w:=by
    unfold resolve;rw[hc];simp only[hu];rfl
   rw[h1];simp only[aa3];have h2:(invoke (.fn (.method name) #[]) (#[.iface t v']++c.args.map a.eval)).run P w=(callMethod (.iface t v') name (c.args.map a.eval)).run P w:=by
    unfold invoke;have e1:(#[Value.iface t v']++c.args.map a.eval)[0]?=some (.iface t v'):=by rw[Array.getElem?_append_left (by simp)];rfl
    have e2:(#[Value.iface t v']++c.args.map a.eval).extract 1 (#[Value.iface t v']++c.args.map a.eval).size=c.args.map a.eval:=by
     apply Array.ext';simp;rw[List.take_of_length_le (by simp)]
    simp only[e1,e2]
   rw[h2];unfold callMethod;simp only;rw[nD,aa4,EL hf];simp only[aa3];rw[iC hB];congr 2;apply Array.ext';simp
 ·cases h
theorem lZ{o:Op}{l:List Operand}(h:i9 o=some l)(hd:∀c,o ≠ .defer c):cf o=some l:=by
 cases o <;> first|exact h|exact(hd _ rfl).elim
end ap
def Glb(ν:Nu)(G:Nat):Prop:=∀k,k<G -> ∃K,ν k=some (k,K)
def Ik(ν:Nu)(v:Value)(n n':Nat)(H':AH)(F:HL)(w:World)(e:Ending)(w':World):Prop :=
 ∃ν' v',e=.returned v' /\ VRi ν' v v' /\ Ext ν ν' n n' /\ HR ν' H' F w' /\ Below 0 w w'
inductive DsR(ν:Nu):List Deferred -> List Deferred -> Prop
 | nil:DsR ν [] []
 | cons {d d':Deferred} {l l':List Deferred}:DR ν d d' -> DsR ν l l' -> DsR ν (d::l) (d'::l')
inductive RR(ν:Nu):Option Nat -> Option Nat -> Prop
 | none:RR ν none none
 | some {l b K:Nat}:ν l=some (b,K) -> RR ν (some l) (some b)
def Ex.out:Ex -> Exit
 | .normal=>.normal
 | .exit id=>.exit id
 | .ret=>.ret
structure SR(ν:Nu)(G N:Nat)(s:St)(F:HL)(a:Act)(w:World):Prop where
 g:Glb ν G
 t:TRel ν N s.T a.tmps
 d:DsR ν s.D a.defers
 h:HR ν s.H F w
def Ct(F:Fence)(n:Nat)(P:Program)(c:Code)(Q:Exit -> Act -> World -> Prop)(a:Act)(w:World):Prop :=
 ∀ (b:Frame) (k:List Item) (cs:List Frame),b.roundOf=F.round -> F.fn b.fn -> F.room (cs.length+1+n) ->
  ∃e a' w',Q e a' w' /\ ArrivesIn (Machine.fenced P F) P (lone (b.atR a (.code c :: .inLoop c::k)) cs w) b k cs e a' w'
theorem AU{F:Fence}{n:Nat}{P:Program}{c:Code}{Q:Exit -> Act -> World -> Prop}{a:Act}{w:World}(h:Ct F n P c Q a w):(Code.loop c).wpIn F n P Q a w:=by
 intro b k cs SI hb hr;obtain⟨e,a',w',hq,oR⟩:=h b k cs SI hb hr;exact⟨e,a',w',hq,.of_steps (.one (fenced_calm hb hr rfl) stepR_loop) oR⟩
theorem yu{F:Fence}{n:Nat}{P:Program}{c:Code}{Q:Exit -> Act -> World -> Prop}{a:Act}{w:World}(h:c.wpIn F n P (Exit.then (Ct F n P c Q) Q) a w):Ct F n P c Q a w:=by
 intro b k cs SI hb hr;obtain⟨e,a₁,w₁,hq,oR⟩:=h b (.inLoop c::k) cs SI hb hr;cases e with
 | normal =>
  obtain⟨e₂,a₂,w₂,UR,SE⟩:=hq b k cs SI hb hr;exact⟨e₂,a₂,w₂,UR,.of_steps (StepsIn.trans oR (.one (fenced_calm hb hr rfl) stepR_inLoop)) SE⟩
 | exit id=>exact⟨_,a₁,w₁,hq,.pass (x:=.inLoop c) rfl (λ _ _=>.inl (by simp)) oR⟩
 | goto l=>exact⟨_,a₁,w₁,hq,.pass (x:=.inLoop c) rfl (λ _ _=>.inl (by simp)) oR⟩
 | ret=>exact⟨_,a₁,w₁,hq,.pass (x:=.inLoop c) rfl (λ _ _=>.inl (by simp)) oR⟩
 | panic ch=>exact⟨_,a₁,w₁,hq,.pass (x:=.inLoop c) rfl (λ _ _=>.inl (by simp)) oR⟩
 | outgrown=>exact⟨_,a₁,w₁,hq,.pass (x:=.inLoop c) rfl (λ _ _=>.inl (by simp)) oR⟩
def jN(P:Program)(G:Nat):Task -> Rs -> Prop
 | .fn f args H n,.fn v H' n'=>n <= n' /\ ∀ν F w iS,Glb ν G -> Fr ν n n' -> HR ν H F w -> LR ν args iS -> Calls P f ⟨iS⟩ w (Ik ν v n n' H' F w)
 | .rnd l T N aZz bo H n,.fn v H' n'=>n <= n' /\ ∀ν F w b K tm f r',Glb ν G -> ν l=some (b,K) -> TRel ν N T tm -> Fr ν n n' -> HR ν H F w -> RoundIn (Wr r') 0 P b f tm aZz bo w (Ik ν v n n' H' F w)
 | .code r N c s,.cd e s'=>s.n <= s'.n /\ ∀ν F a w r' Q,RR ν r r' -> SR ν G N s F a w -> Fr ν s.n s'.n -> (∀ν' a' w',Ext ν ν' s.n s'.n -> SR ν' G N s' F a' w' -> Below 0 w w' -> Q e.out a' w') -> c.wpIn (Wr r') 0 P Q a w
 | .loop r N c s,.cd e s'=>s.n <= s'.n /\ ∀ν F a w r' Q,RR ν r r' -> SR ν G N s F a w -> Fr ν s.n s'.n -> (∀ν' a' w',Ext ν ν' s.n s'.n -> SR ν' G N s' F a' w' -> Below 0 w w' -> Q e.out a' w') -> Ct (Wr r') 0 P c Q a w
 | .dfn f args H n,.fn v H' n'=>n <= n' /\ ∀ν F w iS,Glb ν G -> Fr ν n n' -> HR ν H F w -> LR ν args iS -> CallsDIn (Wr none) 0 P f ⟨iS⟩ .returning w (λ e u' w'=>u'=.returning /\ Ik ν v n n' H' F w e w')
 | _,_=>True
def kG(P:Program)(G:Nat)(ih:Task -> Option Rs):Prop:=∀t res,ih t=some res -> jN P G t res
section ops
variable {ν ν':Nu} {P:Program} {G N:Nat} {T T':Tr Value} {a:Act} {H H':AH} {F:HL} {w w':World} {r r':Option Nat} {ih:Task -> Option Rs}
theorem Glb.mono(h:Glb ν G)(hl:ν.Le ν'):Glb ν' G:=λ k hk=>let ⟨K,e⟩:=h k hk;⟨K,hl _ _ e⟩
theorem DsR.mono{l l':List Deferred}(h:DsR ν l l')(hl:ν.Le ν'):DsR ν' l l':=by
 induction h with
 | nil=>exact .nil
 | cons h _ ih=>exact .cons (h.mono hl) ih
theorem RR.mono(h:RR ν r r')(hl:ν.Le ν'):RR ν' r r':=by
 cases h with
 | none=>exact .none
 | some h=>exact .some (hl _ _ h)
theorem HR.loop(h:HR ν H F w){k:Nat}{st:LoopState}{pend:Option Code}{T:Tr Value}{N:Nat}{ps:Array Tmp}{aZz bo:Code}{d r K:Nat}(hk:bX H k=some (.loop st pend T N ps aZz bo d))(hr:ν k=some (r,K)) :
  ∃lp:Loop,w.heap[r]?=some (.loop lp) /\ lp.state=st /\ lp.pending=pend /\ TRel ν N T lp.tmps /\ lp.params=ps /\ lp.assign=aZz /\ lp.body=bo /\ ∃K',ν d=some (lp.defers,K'):=by
 obtain⟨r',K',o,h1,h2,h3⟩:=h.blk _ _ hk;rw[hr] at h1;cases h1;unfold OR at h3;split at h3
 ·rename_i e1;cases e1
 ·rename_i e1;cases e1
 ·rename_i e1;cases e1;exact⟨_,h2,h3⟩
 ·rename_i e1;cases e1
 ·exact h3.elim
theorem gV{l:Nat}{lp:Loop}(h:w.heap[l]?=some (.loop lp)):(Instr.getLoop l).run P w=.ok lp w:=by
 unfold Instr.getLoop;rw[aa4];have:(getObj l).run P w=.ok (.loop lp) w:=by
  unfold getObj;rw[Sem.run.eq_def];simp only[h];rfl
 rw[this];rfl
theorem uf:∀ {ps:List Tmp} {vs IS:List Value} {T:Tr Value} {tm:Array Value},LR ν vs IS -> TRel ν N T tm -> Cm N ps=true -> TRel ν N (HU ps vs T) ((ps.zip IS).foldl (λ tmps (p:Tmp × Value)=>tmps.setIfInBounds p.1 p.2) tm)
 | [],vs,IS,T,tm,hl,ht,_=>by cases vs <;> exact ht
 | p::ps,[],IS,T,tm,hl,ht,_=>by cases hl;exact ht
 | p::ps,v::vs,IS,T,tm,hl,ht,iF=>by
  cases hl with
  | cons hv hl =>
   rw[Cm] at iF;split at iF
   ·rename_i hp;have h2:=uf (ps:=ps) hl (ht.set (dT hp) hv) iF;exact h2
   ·cases iF
theorem EM{b:Nat}{lp:Loop}{args:List Value}(h:w.heap[b]?=some (.loop lp))(hs:args.length=lp.params.size) :
  (Instr.yield b ⟨args⟩).run P w=.ok (.round b lp.fn ((lp.params.toList.zip args).foldl (λ tmps (p:Tmp × Value)=>tmps.setIfInBounds p.1 p.2) lp.tmps) lp.assign lp.body) w:=by
 unfold Instr.yield;rw[aa4,gV h];simp only[aa3];rw[if_neg (by simp[hs])];have:(Array.foldl (λ (tmps:Array Value) (x:Tmp × Value)=>tmps.setIfInBounds x.1 x.2) lp.tmps (lp.params.zip ⟨args⟩))=((lp.params.toList.zip args).foldl (λ tmps (p:Tmp × Value)=>tmps.setIfInBounds p.1 p.2) lp.tmps):=by
  rw[<- Array.foldl_toList,Array.toList_zip]
 rw[<- this];rfl
def RL(P:Program)(ν:Nu)(F:HL)(n:Nat)(r r':Option Nat)(a:Act)(w:World)(o:Oper):OpR -> Prop
 | .val v H' n'=>Fr ν n n' -> ∀ (next:Act -> World -> Prop) (Q:Exit -> Act -> World -> Prop),(∀ν' v' w',VRi ν' v v' -> Ext ν ν' n n' -> HR ν' H' F w' -> Below 0 w w' -> next (a.put o.dst v') w') -> o.wpIn (Wr r') 0 P a w next Q
 | .dfr d=>r=none /\ ∀ (next:Act -> World -> Prop) (Q:Exit -> Act -> World -> Prop),(∀d',DR ν d d' -> next ({ a with defers:=d'::a.defers }.put o.dst undef) w) -> o.wpIn (Wr r') 0 P a w next Q
theorem Il{o:Oper}{c:Call}{n:Nat}{x:AN}(ho:o.op=.defer c)(h:Cj P G o T H n=some x):∃d,x=.dfr d:=by
 unfold Cj at h;split at h
 ·cases h
 split at h
 ·cases h
 rw[ho] at h;simp only[sy,m0,ho] at h;split at h
 ·split at h
  ·cases h;exact⟨_,rfl⟩
  ·cases h
 ·cases h
theorem l7{o:Oper}{n:Nat}{x:AN}(g_:∀l,i9 o.op=some l -> sN G l=true -> OK ν T a l)(hH:HR ν H F w)(h:Cj P G o T H n=some x)(hn:∀v H' n',x=.val v H' n' -> Fr ν n n'):RK P ν F n (execOp a.eval o) w x:=by
 unfold Cj at h;split at h
 ·cases h
 rename_i l hl;split at h
 ·cases h
 rename_i hk;have g_:=g_ l hl hk;split at h
 ·rename_i hc;split at h
  ·rename_i v hv;cases h;have Vo:=lZ hl (λ c e=>by rw[e] at hc;cases hc);obtain⟨v',r,e⟩:=yl hv Vo g_;exact⟨ν,v',w,_,e w,.inl rfl,r,.refl _ _,hH,Below.refl _ _⟩
  ·cases h
 ·rename_i hc;split at h
  ·rename_i v hv;cases h;have Vo:=lZ hl (λ c e=>by rw[e] at hc;cases hc);obtain⟨v',r,e⟩:=yq hH hv Vo g_;exact⟨ν,v',w,_,e,.inl rfl,r,.refl _ _,hH,Below.refl _ _⟩
  ·cases h
 ·rename_i hc;split at h
  ·rename_i b m hv;cases h;have Vo:=lZ hl (λ c e=>by rw[e] at hc;cases hc);obtain⟨h1,h2,o',h3,h4⟩:=Cq hv Vo g_;have ab_:ν n=none:=hn _ _ _ rfl n (aaK _) (by omega);exact⟨ν.upd n w.heap.size 0,_,_,_,h4 w,.inl rfl,H9 h2 cm,.upd,hH.new ab_ (h3 0) h1 rfl,⟨rfl,rfl,rfl,by simp,λ k hk=>by omega⟩⟩
  ·cases h
 ·exact Lw hH h hl g_ hn
theorem vG{o:Oper}{n n':Nat}{v:Value}(h:Cj P G o T H n=some (.val v H' n')):n <= n':=by
 have key:m0 P o T H n=some (.val v H' n') -> n <= n':=by
  intro h;unfold m0 qx HS xW xU xV tU rv ja at h
  repeat' split at h
  all_goals first
   | (cases h;done)
   | (cases h;omega)
   | (rename_i hx;simp only[Option.some.injEq] at h;subst h;(repeat' (split at hx)) <;> first|(cases hx;done)|(cases hx;omega))
 unfold Cj at h;split at h
 ·cases h
 split at h
 ·cases h
 split at h
 ·split at h
  ·cases h;omega
  ·cases h
 ·split at h
  ·cases h;omega
  ·cases h
 ·split at h
  ·unfold N5 at h;cases h;omega
  ·cases h
 ·exact key h
theorem vH(u_:kG P G ih){o:Oper}{n:Nat}{x:OpR}(hg:Glb ν G)(hr:RR ν r r')(g_:∀l,i9 o.op=some l -> sN G l=true -> OK ν T a l)(hH:HR ν H F w)(h:j4 P G ih r o T H n=some x):(∀v H' n',x=.val v H' n' -> n <= n') /\ RL P ν F n r r' a w o x:=by
 have hA:∀f,o.about P w a.eval=some f -> (Wr r').fn f:=λ _ _=>trivial;unfold j4 at h;split at h
 ·cases h
 rename_i y hy;have nd:(∀d,y ≠ .dfr d) -> o.semAt (Wr r').round a.eval=execOp a.eval o:=λ hd=>Oper.semAt_eq _ _ _ λ c e=>by
  obtain⟨d,UF⟩:=Il e hy;exact hd d UF
 split at h
 ·rename_i v H1 n1;cases h;refine⟨λ v H' n' e=>by cases e;exact vG hy,λ Vs next Q hk=>⟨hA,?_⟩⟩;obtain⟨ν',v',w',q,h1,h2,h3,h4,h5,h6⟩:=l7 g_ hH hy (λ v H' n' e=>by cases e;exact Vs);rw[nd (λ d e=>by cases e),h1];rcases h2 with rfl|⟨rfl,rfl⟩
  ·rw[Oper.uponIn_value];exact hk _ _ _ h3 h4 h5 h6
  ·rw[Oper.uponIn_skip];exact hk _ _ _ h3 h4 h5 h6
 ·rename_i f args;split at h
  ·rename_i v H1 n1 hc;cases h;obtain⟨hle,To⟩:=u_ _ _ hc;refine⟨λ v H' n' e=>by cases e;exact hle,λ Vs next Q hk=>⟨hA,?_⟩⟩;obtain⟨iS,h1,h2⟩:=l7 g_ hH hy (λ v H' n' e=>by cases e);rw[nd (λ d e=>by cases e),h1,Oper.uponIn_enter];refine⟨λ h=>(by cases h),?_⟩;refine jQ ((To ν F w iS hg Vs hH h2).mono ?_);rintro e w2 ⟨ν',v',rfl,k1,k2,k3,k4⟩;exact hk _ _ _ k1 k2 k3 k4
  ·cases h
 ·rename_i l args;split at h
  case h_2=>cases h
  rename_i st pend T2 N' ps aZz bo d hb;split at h
  case h_2=>cases h
  rename_i D_ iF;split at h
  case h_2=>cases h
  rename_i v H1 n1 hc;cases h;obtain⟨hle,To⟩:=u_ _ _ hc;refine⟨λ v H' n' e=>by cases e;exact hle,λ Vs next Q hk=>⟨hA,?_⟩⟩;obtain⟨b,K,iS,hν,h1,h2⟩:=l7 g_ hH hy (λ v H' n' e=>by cases e);obtain⟨lp,g1,g2,g3,g4,g5,g6,g7,g8⟩:=hH.loop hb hν;have hlen:iS.length=lp.params.size:=by
   rw[g5,h1.length];rw[ew] at D_;exact aa1 D_
  rw[nd (λ d e=>by cases e),h2,EM g1 hlen,Oper.uponIn_round];refine⟨λ h=>(by cases h),?_⟩;rw[g6,g7,g5];refine(To ν F w b K _ lp.fn r' hg hν (uf h1 g4 iF) Vs hH).mono ?_;rintro e w2 ⟨ν',v',rfl,k1,k2,k3,k4⟩;exact hk _ _ _ k1 k2 k3 k4
 ·rename_i d;split at h
  ·cases h;cases hr;refine⟨λ v H' n' e=>(by cases e),rfl,λ next Q hk=>⟨hA,?_⟩⟩;obtain⟨d',h1,h2⟩:=l7 g_ hH hy (λ v H' n' e=>by cases e);have:o.semAt (Wr none).round a.eval=execOp a.eval o:=rfl;rw[this,h1,Oper.uponIn_defer];exact hk _ h2
  ·cases h
 ·cases h
theorem ke{ops:Array Oper}{o:Oper}{b:Bool}(hT:TRel ν N T a.tmps)(h:eO ops o T=some b):Region.wanted o (yielded ops a.tmps)=b:=by
 unfold eO at h;unfold Region.wanted;split at h
 ·rename_i hg;rw[hg];cases h;rfl
 ·rename_i j want hg;rw[hg];simp only;split at h
  case h_2=>cases h
  rename_i d hd;have hy:yielded ops a.tmps j=match a.tmps[d]? with|some (.bool b)=>some b|_=>none:=by
   unfold yielded;rw[hd];rfl
  have hv:(d<N /\ ∃v',a.tmps[d]?=some v' /\ VRi ν (cY T d) v') \/ (a.tmps[d]?=none /\ cY T d=undef):=by
   rcases aaZ d N with h1|h1
   ·exact .inl ⟨h1,hT.get d h1⟩
   ·exact .inr ⟨Array.getElem?_eq_none (by rw[hT.size];exact h1),hT.out d h1⟩
  rw[hy];split at h
  ·rename_i b' hb;cases h;rcases hv with ⟨-,v',e1,e2⟩|⟨e1,e2⟩
   ·rw[hb] at e2;rw[e2.plain_eq rfl] at e1;rw[e1];simp
   ·rw[hb] at e2;cases e2
  ·rename_i vs hb;cases h;rcases hv with ⟨-,v',e1,e2⟩|⟨e1,e2⟩
   ·rw[hb] at e2;rw[e1];cases e2 with
    | atom _ h=>simp[cC] at h
    | tuple _ _=>rfl
   ·rw[e1];rfl
  ·cases h
theorem SR.op{s:St}(h:SR ν G N s F a w){o:Oper}:∀l,i9 o.op=some l -> sN G l=true -> OK ν s.T a l:=λ l _ hk =>
 (FE.mk h.t h.g).ok hk
theorem oh(u_:kG P G ih){ops:Array Oper}:∀ (rest:List Oper) (s s':St),mF P G ih r N ops rest s=some s' -> s.n <= s'.n /\ ∀ν F a w r' (Q:Exit -> Act -> World -> Prop),RR ν r r' -> SR ν G N s F a w -> Fr ν s.n s'.n ->
  (∀ν' a' w',Ext ν ν' s.n s'.n -> SR ν' G N s' F a' w' -> Below 0 w w' -> Q .normal a' w') -> wpListIn (Wr r') 0 P ops Q rest a w
 | [],s,s',h=>by
  rw[mF] at h;cases h;exact⟨aaK _,λ ν F a w r' Q hr hs hf hk=>hk ν a w (.refl _ _) hs (Below.refl _ _)⟩
 | o::rest,s,s',h=>by
  rw[mF] at h;split at h
  ·cases h
  ·rename_i hw;split at h
   case h_2=>cases h
   rename_i T1 hp;obtain⟨h1,h2⟩:=oh u_ rest _ _ h;refine⟨h1,λ ν F a w r' Q hr hs hf hk=>?_⟩;rw[wpListIn,if_neg (by rw[ke hs.t hw];simp)];refine⟨λ _ _=>trivial,?_⟩;exact h2 ν F _ w r' Q hr ⟨hs.g,hs.t.put aav hp,by rw[fJ];exact hs.d,hs.h⟩ hf hk
  ·rename_i hw;split at h
   ·cases h
   ·rename_i v H1 n1 n_;split at h
    case h_2=>cases h
    rename_i T1 hp;obtain⟨h1,h2⟩:=oh u_ rest _ _ h;simp only at h1 h2;have hle:s.n <= n1:=by
     clear h2;unfold j4 at n_;split at n_
     ·cases n_
     rename_i y hy;split at n_
     ·cases n_;exact vG hy
     ·split at n_
      ·rename_i hc;cases n_;exact(u_ _ _ hc).1
      ·cases n_
     ·split at n_
      case h_2=>cases n_
      split at n_
      case h_2=>cases n_
      split at n_
      ·rename_i hc;cases n_;exact(u_ _ _ hc).1
      ·cases n_
     ·split at n_ <;> cases n_
     ·cases n_
    refine⟨by omega,λ ν F a w r' Q hr hs hf hk=>?_⟩;rw[wpListIn,if_pos (ke hs.t hw)];obtain⟨-,h4⟩:=vH u_ hs.g hr hs.op hs.h n_;refine h4 (λ i hi1 XB=>hf i hi1 (by omega)) _ _ (λ ν' v' w' k1 k2 k3 k4=>?_);have IN:=k2.sub (λ i hi1 XB=>hf i hi1 (by omega));exact h2 ν' F _ w' r' Q (hr.mono IN) ⟨hs.g.mono IN,(hs.t.mono IN).put k1 hp,by rw[fJ];exact hs.d.mono IN,k3⟩ (k2.fr hf h1) (λ ν2 a2 w2 q1 q2 q3=>hk ν2 a2 w2 (k2.trans q1) q2 (k4.trans q3))
   ·rename_i d n_;split at h
    case h_2=>cases h
    rename_i T1 hp;obtain⟨h1,h2⟩:=oh u_ rest _ _ h;refine⟨h1,λ ν F a w r' Q hr hs hf hk=>?_⟩;rw[wpListIn,if_pos (ke hs.t hw)];obtain⟨-,h3,h4⟩:=vH u_ hs.g hr hs.op hs.h n_;refine h4 _ _ (λ d' UF=>?_);exact h2 ν F _ w r' Q hr ⟨hs.g,TRel.put (a:={ a with defers:=d'::a.defers }) hs.t aav hp,by rw[fJ];exact .cons UF hs.d,hs.h⟩ hf hk
end ops
end Go.Proofs.YtdppjkjbghbnjaaGreatDoor
