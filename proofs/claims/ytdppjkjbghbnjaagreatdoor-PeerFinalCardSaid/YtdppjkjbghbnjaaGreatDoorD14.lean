import Derived.Test.YtdppjkjbghbnjaaGreatDoorD13
set_option maxHeartbeats 4000000
set_option maxRecDepth 100000
set_option linter.all false
namespace Go.Proofs.YtdppjkjbghbnjaaGreatDoor
open IntKind
open Go.RowKit
section nw
variable {ν ν':Nu} {P:Program} {G N:Nat} {T T':Tr Value} {a:Act} {H H':AH} {F:HL} {w w':World}
theorem fl(o:Obj)(w:World):(newObj o).run P w=.ok w.heap.size { w with heap:=w.heap.push o }:=rfl
def Mk.ok:Mk -> Prop
 | .sl _ c=>c<lP
 | _=>True
theorem HN{m:Mk}(h:m.ok){n r K:Nat}(hν:ν n=some (r,K)):VRi ν (m.val n) (m.val r):=by
 cases m with
 | ptr=>exact .ptr 0 hν
 | sl l c=>exact .slice 0 l hν ⟨λ _=>rfl,λ e=>by unfold Mk.ok at h;omega⟩
 | mp=>exact .map hν
theorem HO(z:List Value)(n:Nat):(ml z n).length=n*z.length:=by
 induction n with
 | zero=>simp[ml]
 | succ n ih=>simp[ml,ih,Nat.succ_mul];omega
theorem yc(z:List Value):∀ (n i:Nat),i<n*z.length -> (ml z n)[i]?=z[i % z.length]?
 | 0,i,h=>by omega
 | n+1,i,h=>by
  rw[ml];rcases abX i z.length with h1|h1
  ·rw[abD h1,Nat.mod_eq_of_lt h1]
  ·rw[abG h1,yc z n _ (by rw[Nat.succ_mul] at h;omega),Nat.mod_eq_sub_mod h1]
theorem tU(z:List Value)(n:Nat)(hz:0<z.length):(Array.range (n*z.length)).map (λ i=>(⟨z⟩:Array Value)[i % (⟨z⟩:Array Value).size]!)=⟨ml z n⟩:=by
 apply Array.ext';apply List.ext_getElem?;intro i;rcases abX i (n*z.length) with h|h
 ·have h2:i % z.length<z.length:=Nat.mod_lt _ hz;simp only[Array.toList_map,Array.toList_range,List.getElem?_map,List.getElem?_range h,Option.map_some];rw[yc z n i h];simp[h2]
 ·rw[List.getElem?_eq_none (by simp;exact h),List.getElem?_eq_none (by rw[HO];exact h)]
theorem rD{z:List Value}(h:LR ν z z):∀n,LR ν (ml z n) (ml z n)
 | 0=>.nil
 | n+1=>h.append (rD h n)
theorem lR{t el:TypeId}(h:tH P t=some el):P.underlying t=some (.slice el):=by
 unfold tH at h;split at h
 ·rename_i e;cases h;exact e
 ·cases h
theorem B5{o:Oper}{b:AB}{m:Mk}(h:sy P o T=some (b,m)){l:List Operand}(hl:cq o.op=some l)(g_:OK ν T a l) :
  HK b=true /\ m.ok /\ ∃o',(∀K,OR ν K b o') /\ ∀w,(execOp a.eval o).run P w=.ok (.value (m.val w.heap.size)) { w with heap:=w.heap.push o' }:=by
 unfold sy at h;split at h
 ·rename_i t ho;split at h
  ·rename_i z hz;cases h;obtain⟨zv,h1,h2,h3,-⟩:=jY (ν:=ν) hz;refine⟨kz _ _,trivial,_,λ K=>OR.cellsB h3,λ w=>?_⟩;simp[execOp,ho,Instr.alloc,ace,h1,newVar,newRow,h2,fl,cD,Result.andThen,Mk.val]
  ·cases h
 ·rename_i t x ho;rw[ho] at hl;simp only[cq,Option.some.injEq] at hl;subst hl;cases h;refine⟨kz _ _,trivial,_,λ K=>OR.cellsB (kw (g_ x (by simp))),λ w=>?_⟩;simp[execOp,ho,Instr.box,ace,newVar,newRow,fl,cD,Result.andThen,Mk.val,gu]
 ·rename_i t len parts ho;rw[ho] at hl;simp only[cq,Option.some.injEq] at hl;subst hl;split at h
  case h_2=>cases h
  rename_i el he;split at h
  case h_2=>cases h
  rename_i k z hk hz;split at h
  case h_2=>cases h
  rename_i g1 g2 g3;split at h
  case h_2=>cases h
  rename_i l hf;cases h;have hu:=lR he;have Ui:z.length=k:=by rw[ew] at g2;exact ab8 g2
  have YO:=dT g3;have g1':=bW g1;obtain⟨zv,h1,h2,h3,-⟩:=jY (ν:=ν) hz;obtain⟨l',e1,e2⟩:=oO (rx g_) (rD h3 len) hf;refine⟨kz _ _,?_,_,λ K=>OR.cellsB e2,λ w=>?_⟩
  ·have:len <= len*k:=Nat.le_mul_of_pos_right _ YO;show len<lP;unfold lP;omega
  have h6:=ky e1;have h7:(parts.map λ (p:Nat × Operand)=>(p.1,a.eval p.2)).toList=parts.toList.map λ p=>(p.1,a.eval p.2):=by simp
  have h8:=tU z len (by omega);rw[Ui] at h8;have hs:=eC hk w;unfold Go.execOp;rw[ho];simp only;rw[ace];have:(Instr.buildSlice t len (parts.map λ (p:Nat × Operand)=>(p.1,a.eval p.2))).run P w=.ok (.slice (some ⟨w.heap.size,0,none⟩) len len) { w with heap:=w.heap.push (.cells ⟨l'⟩ el (0,0)) }:=by
   unfold Instr.buildSlice;rw[ace,aG hu];simp only[acd];rw[ace,hs];simp only[acd];rw[if_neg (by simp;omega)]
   by_cases UL:len*k=0
   ·have hlen:len=0:=by
     rcases Nat.eq_zero_or_pos len with e|e
     ·exact e
     ·have:=Nat.mul_pos e YO;omega
    subst hlen;simp only[Nat.zero_mul,if_true];rw[ace];simp only[cD,acd];have h9:(Array.range 0).map (λ i=>(#[]:Array Value)[i % (#[]:Array Value).size]!)=⟨ml z 0⟩:=by simp[ml]
    rw[h9,h7,h6];simp only[ace,newRow,fl,acd,cD]
   ·rw[if_neg UL];rw[ace,h1];simp only[acd];rw[ace];simp only[cD,acd,h2];rw[h8,h7,h6];simp only[ace,newRow,fl,acd,cD]
  rw[this];rfl
 ·rename_i t lo co ho;rw[ho] at hl;simp only[cq,Option.some.injEq] at hl;subst hl;split at h
  case h_2=>cases h
  rename_i el he;split at h
  case h_2=>cases h
  rename_i inf hi;split at h
  case h_2=>cases h
  rename_i z n m' hz hn hm;split at h
  case h_2=>cases h
  rename_i g1 g2 g3 g4 g5 g6;cases h;have hu:=lR he;have Ui:z.length=inf.size:=by rw[ew] at g4;exact ab8 g4
  have YO:=dT g5;have g1':=bW g1;have g2':=bW g2;have g3':=dT g3;have g6':=dT g6;obtain⟨zv,h1,h2,h3,-⟩:=jY (ν:=ν) hz;obtain⟨kn,en⟩:=mZ hn (g_ lo (by simp));obtain⟨km,em⟩:=mZ hm (g_ co (by simp));refine⟨kz _ _,g3',_,λ K=>OR.cellsB (rD h3 m'),λ w=>?_⟩;have h8:=tU z m' (by omega);rw[Ui] at h8;unfold lP at g3';have w1:i64.wrap (n:Int)=(n:Int):=IntWalk.i64_in _ (by omega);have w2:i64.wrap (m':Int)=(m':Int):=IntWalk.i64_in _ (by omega);have IT:fi P el=some inf.size:=by unfold fi;rw[hi];rfl
  have hs:=eC IT;have hti:=λ W=>cZ hi W;have q1:¬ ((281474976710656:Int)<(inf.bytes:Int)*(m':Int)):=by
   have:(inf.bytes:Int)*(m':Int)=((inf.bytes*m':Nat):Int):=by simp
   omega
  have q2:¬ ((m':Int)<0):=by omega
  have q3:¬ ((n:Int)<0):=by omega
  have q4:¬ ((m':Int)<(n:Int)):=by omega
  have AI:∀x W,(askRoom x).run P W=.ok () W:=λ x W=>by unfold askRoom;split <;> rfl
  unfold Go.execOp;rw[ho];simp only;rw[ace];have:(Instr.makeSlice t (a.eval lo) (a.eval co)).run P w=.ok (.slice (some ⟨w.heap.size,0,none⟩) n m') { w with heap:=w.heap.push (.cells ⟨ml z m'⟩ el (0,0)) }:=by
   unfold Instr.makeSlice;rw[ace,aG hu];simp only[acd];rw[en,em];simp only[asInt,asIntOf,ace,cD,acd,hti,w1,w2];rw[if_neg (by simp[q1,q2,q3,q4])];simp only[ace,AI,acd,hs,Int.toNat_natCast]
   by_cases UL:m'*inf.size=0
   ·have hlen:m'=0:=by
     rcases Nat.eq_zero_or_pos m' with e|e
     ·exact e
     ·have:=Nat.mul_pos e YO;omega
    subst hlen;simp only[Nat.zero_mul,if_true];rw[ace];simp only[cD,acd];have h9:(Array.range 0).map (λ i=>(#[]:Array Value)[i % (#[]:Array Value).size]!)=⟨ml z 0⟩:=by simp[ml]
    rw[h9];simp only[ace,newRow,fl,acd,cD]
   ·rw[if_neg UL];simp only[ace,h1,cD,acd,h2];rw[h8];simp only[ace,newRow,fl,acd,cD]
  rw[this];rfl
 ·rename_i t r ho;have TY:∀W:World,(newObj (.map #[] 0)).run P W=.ok W.heap.size { W with heap:=W.heap.push (.map #[] 0) }:=λ W=>rfl;split at h
  ·cases h;refine⟨rfl,trivial,.map #[] 0,λ K=>⟨rfl,.nil⟩,λ w=>?_⟩;simp[execOp,ho,Instr.makeMap,ace,TY,cD,Result.andThen,Mk.val]
  ·rename_i r;rw[ho] at hl;simp only[cq,Option.some.injEq] at hl;subst hl;split at h
   ·rename_i kt et k n hu he;cases h;have hr:=g_ r (by simp);rw[he] at hr;have er:=hr.plain_eq rfl;refine⟨rfl,trivial,.map #[] 0,λ K=>⟨rfl,.nil⟩,λ w=>?_⟩;simp[execOp,ho,Instr.makeMap,ace,aG hu,er,asInt,asIntOf,TY,cD,Result.andThen,Mk.val]
   ·cases h
 ·cases h
theorem HP{d:TypeDesc}{k k':Value}(h:lr k k'=some true)(hk:vj d k=true):k'=k /\ Instr.sameBits 10000 k' k=true:=by
 unfold lr at h;split at h
 ·split at h
  ·rename_i e;have e':=aci e;simp only[Option.some.injEq,beq_iff_eq] at h;subst e';subst h;exact⟨rfl,by simp[Instr.sameBits]⟩
  ·cases h
 ·simp only[Option.some.injEq] at h;have:=Fp.1 h;subst this;exact⟨rfl,by simp[Instr.sameBits];exact JQ _⟩
 ·simp only[Option.some.injEq,beq_iff_eq] at h;subst h;exact⟨rfl,by simp[Instr.sameBits]⟩
 ·cases h
theorem AD{d:TypeDesc}{k v v':Value}(hk:vj d k=true)(hv:VRi ν v v'){es:List (Value × Value × Nat)}{Sg:List MapEntry}(h:ER ν es Sg):∀ {r:List (Value × Value × Nat)} {cl cl':Nat} (i:Nat),rg k v cl es=some (r,cl') ->
  (Instr.findNow d k Sg i=some none /\ cl'=cl+1 /\ ER ν r (Sg++[⟨k,v',cl⟩])) \/ (∃j u,Instr.findNow d k Sg i=some (some (i+j,u)) /\ cl'=cl /\ (Sg[j]?).map (·.key)=some k /\ Instr.sameBits 10000 k k=true /\ ER ν r (Sg.modify j λ e=>{ e with key:=k,val:=v' })):=by
 induction h with
 | nil=>intro r cl cl' i h;rw[rg] at h;cases h;exact .inl ⟨rfl,rfl,.cons k cl hv .nil⟩
 | @cons u0 u0' l0 l0' k' b hv0 h0 ih =>
  intro r cl cl' i h;rw[rg] at h;split at h
  ·rename_i e;cases h;obtain⟨e1,e2⟩:=HP e hk;subst e1;refine .inr ⟨0,u0',?_,rfl,rfl,e2,.cons k' b hv h0⟩;rw[Instr.findNow];simp only[gv e hk];rfl
  ·rename_i e;split at h
   ·rename_i l c hl;cases h;rcases ih (i+1) hl with ⟨h1,h2,h3⟩|⟨j,u,h1,h2,h3,h4,h5⟩
    ·exact .inl ⟨by rw[Instr.findNow];simp only[gv e hk];exact h1,h2,.cons k' b hv0 h3⟩
    ·refine .inr ⟨j+1,u,?_,h2,by simpa using h3,h4,by simpa using ER.cons k' b hv0 h5⟩;rw[Instr.findNow];simp only[gv e hk];rw[h1];congr 3;omega
   ·cases h
  ·cases h
theorem B6{t:TypeId}{m m' k v v':Value}(hH:HR ν H F w)(hm:VRi ν m m')(hv:VRi ν v v')(h:KM P t H m k v=some H'):pl k=true /\ ∃w',(Instr.mapUpdate t m' k v').run P w=.ok () w' /\ HR ν H' F w' /\ Below 0 w w':=by
 unfold KM at h;split at h
 case h_2=>cases h
 rename_i kt et hu;split at h
 case h_2=>cases h
 rename_i r hk;split at h
 case h_2=>cases h
 rename_i es cl hb;split at h
 case h_2=>cases h
 rename_i es2 cl2 hp;cases h;obtain⟨d,hd,WB⟩:=AA hk;refine⟨(ry WB).1,?_⟩;cases hm with
 | atom _ h=>simp[cJ] at h
 | @map _ b K hν =>
 obtain⟨Sg,hw,hE⟩:=hH.map hb hν;have hg:(getObj b).run P w=.ok (.map Sg cl) w:=gc hw;have hf:∀r,Instr.findNow d k Sg.toList 0=some r -> (Instr.findKey kt k Sg.toList).run P w=.ok r w:=λ r hr=>by
  unfold Instr.findKey;rw[ace,aG hd];simp only[acd,hr];rfl
 have iF:=cw hw;have n_:∀o:Obj,(∃es c,o=.map es c) -> (setObj b o).run P w=.ok () { w with heap:=w.heap.setIfInBounds b o }:=λ o ho=>by
  obtain⟨e1,c1,rfl⟩:=ho;unfold setObj;rw[Sem.run.eq_def];simp only[hw];rfl
 have XL:∀ (o:Obj),OR ν K (.map es2 cl2) o -> HR ν (cX H r (some (.map es2 cl2))) F { w with heap:=w.heap.setIfInBounds b o }:=λ o ho=>by
  refine hH.upd (r:=b) (K:=K) hb rfl rfl hν (o':=o) ?_ ho (λ k hk=>?_)
  ·show (w.heap.setIfInBounds b o)[b]?=_;rw[Array.getElem?_setIfInBounds_self_of_lt iF]
  ·show (w.heap.setIfInBounds b o)[k]?=_;rw[Array.getElem?_setIfInBounds_ne (Ne.symm hk)]
 have hB:∀o:Obj,Below 0 w { w with heap:=w.heap.setIfInBounds b o }:=λ o=>⟨rfl,rfl,rfl,by simp,λ k hk=>by omega⟩;rcases AD WB hv hE 0 hp with ⟨h1,h2,h3⟩|⟨j,u,h1,h2,h3,h4,h5⟩
 ·refine⟨_,?_,XL (.map (Sg.push ⟨k,v',cl⟩) (cl+1)) ⟨h2.symm,by simpa using h3⟩,hB _⟩;unfold Instr.mapUpdate;rw[ace,aG hu];simp only[acd,ace,hg,fX hk,hf _ h1];exact n_ _ ⟨_,_,rfl⟩
 ·rw[Nat.zero_add] at h1;refine⟨_,?_,XL (.map (Sg.modify j λ e=>{ e with key:=k,val:=v' }) cl) ⟨h2.symm,by rw[Array.toList_modify];exact h5⟩,hB _⟩;unfold Instr.mapUpdate;rw[ace,aG hu];simp only[acd,ace,hg,fX hk,hf _ h1];have h6:(Sg[j]?).map (·.key)=some k:=by simpa using h3
  rw[h6];have h7:(Instr.keyThatStays k k).run P w=.ok k w:=by
   unfold Instr.keyThatStays;rw[if_pos h4];rfl
  simp only[Option.getD_some,h7,acd];exact n_ _ ⟨_,_,rfl⟩
end nw
structure Ext(ν ν':Nu)(n n':Nat):Prop where
 le:n <= n'
 out:∀h,(h<n \/ n' <= h) -> ν' h=ν h
def Fr(ν:Nu)(n n':Nat):Prop:=∀h,n <= h -> h<n' -> ν h=none
theorem Ext.sub{ν ν':Nu}{n n':Nat}(h:Ext ν ν' n n')(hf:Fr ν n n'):ν.Le ν':=λ k x hx=>by
 rw[h.out k];exact hx;rcases abX k n with h1|h1
 ·exact .inl h1
 ·rcases abX k n' with h2|h2
  ·rw[hf k h1 h2] at hx;cases hx
  ·exact .inr h2
theorem Ext.refl(ν:Nu)(n:Nat):Ext ν ν n n:=⟨aa0 _,λ _ _=>rfl⟩
theorem Ext.trans{a b c:Nu}{n m k:Nat}(h:Ext a b n m)(h':Ext b c m k):Ext a c n k :=
 ⟨Nat.le_trans h.le h'.le,λ i hi=>by
  have h1:=h.le;have h2:=h'.le;rw[h'.out i (by omega),h.out i (by omega)]⟩
theorem Ext.fr{a b:Nu}{n m k:Nat}(h:Ext a b n m)(hf:Fr a n k)(hm:m <= k):Fr b m k:=λ i h1 h2=>by
 have:=h.le;rw[h.out i (.inr h1)];exact hf i (by omega) h2
theorem Ext.upd{ν:Nu}{n r K:Nat}:Ext ν (ν.upd n r K) n (n+1):=⟨by omega,λ h hh=>eS (by omega)⟩
section ap
variable {ν ν':Nu} {P:Program} {G N:Nat} {T T':Tr Value} {a:Act} {H H':AH} {F:HL} {w w':World}
structure Effi(P:Program)(ν:Nu)(F:HL)(n:Nat)(s:Sem Value)(w:World)(v:Value)(H':AH)(n':Nat):Prop where
 h:∃ν' v' w',s.run P w=.ok v' w' /\ VRi ν' v v' /\ Ext ν ν' n n' /\ HR ν' H' F w' /\ Below 0 w w'
theorem lS{k:Nat}{u e':TypeId}{y y':Value}{new:List Value}(hH:HR ν H F w)(hu:P.underlying u=some (.slice e'))(hy:VRi ν y y')(h:pQ H k y=some new) :
  ∃O_,LR ν new O_ /\ O_.length=dZ y*k /\ (jU new=true -> Src P k u y' (dZ y) O_ w) /\ (Builtin.firstCells k (dZ y) y').run P w.drew=.ok O_.toArray w.drew /\ (Builtin.firstCells k (dZ y) y').run P w=.ok O_.toArray w:=by
 unfold pQ at h;split at h
 ·split at h
  ·cases h;rename_i c;cases hy;refine⟨[],.nil,by simp[dZ],λ _=>Src.ofNil w hu _,?_,?_⟩
   ·exact run_firstCells_none _ _ _ _ _
   ·exact run_firstCells_none _ _ _ _ _
  ·cases h
 ·rename_i ad n c;cases hy with
  | atom _ h=>simp[cJ] at h
  | @slice hd b K _ c' o _ hν hcap =>
  split at h
  case h_2=>cases h
  rename_i nn tr ty ww ro hs hb;split at h
  case h_2=>cases h
  rename_i hle;cases h;simp only at hb hle;obtain⟨cc,ty',fz,hw,hc⟩:=hH.cells hb hν;have W7:=bW hle;have hl:=jZ hc.le hc.get (n*k) o W7;have Vk:=hc.le;have hlen:((cc.toList.drop o).take (n*k)).length=n*k:=by simp;omega
  have OF:∀ (W:World),W.heap=w.heap -> ∀ (j:Nat) (u:Value),((cc.toList.drop o).take (n*k))[j]?=some u -> W.cell? ((⟨b,o,none⟩:Addr).add j)=some u:=λ W hW j u hj=>by
   rw[mY,lQ (by rw[hW];exact hw)];have Ub:=(List.getElem?_eq_some_iff.1 hj).1;rw[hlen] at Ub;rw[List.getElem?_take_of_lt Ub,ack] at hj;simpa using hj
  refine⟨_,hl,hlen,λ hf=>Src.ofSlice w hu _ _ _ _ hlen (OF w rfl) (tT hl hf),?_,?_⟩
  ·exact run_firstCells_some _ _ _ _ _ _ _ hlen (OF _ rfl)
  ·exact run_firstCells_some _ _ _ _ _ _ _ hlen (OF _ rfl)
 ·cases h
theorem HR.del'(hH:HR ν H F w){h r K:Nat}{b0:AB}(hb:b7 H h=some b0)(hw0:HK b0=true)(hν:ν h=some (r,K))(hs:∀k,k≠r -> w'.heap[k]?=w.heap[k]?):HR ν (cX H h none) F w':=by
 have u_:∀k b,b7 (cX H h none) k=some b -> b7 H k=some b /\ k≠h:=λ k b hk=>by
  rw[dM] at hk;split at hk
  ·cases hk
  ·rename_i e;exact⟨hk,Ne.symm e⟩
 refine⟨λ k b hk=>?_,λ k1 k2 b1 b2 q K1 K2 h1 h2 h3 h4=>hH.inj _ _ _ _ _ _ _ (u_ _ _ h1).1 (u_ _ _ h2).1 h3 h4,λ x hx=>?_,λ k b q K hk=>hH.apt k b q K (u_ k b hk).1⟩
 ·obtain⟨h1,h2⟩:=u_ k b hk;obtain⟨q,K',o,g1,g2,g3⟩:=hH.blk k b h1;refine⟨q,K',o,g1,?_,g3⟩;rw[hs q,g2];intro e;subst e;exact h2 (hH.inj _ _ _ _ _ _ _ h1 hb g1 hν)
 ·rw[hs _ (hH.apt _ _ _ _ hb hν x hx)];exact hH.frm x hx
theorem Nw(UR u_:Nat)(h:u_<UR):Builtin.nextslicecap UR u_ <= 2*UR+192:=by
 unfold Builtin.nextslicecap;split
 ·omega
 ·split
  ·omega
  ·have:Builtin.growBy UR 4 u_ <= UR+UR / 4+192:=by
    simp only[Builtin.growBy]
    repeat' split
    all_goals omega
   omega
theorem yd{t u ty el e':TypeId}{inf:TypeInfo}{n len cap c':Nat}{base AS:Option Addr}{y y':Value}{new:List Value}{v:Value}{n':Nat}(hH:HR ν H F w)(ht:P.underlying t=some (.slice el))(hu:P.underlying u=some (.slice e'))(hi:P.info? el=some inf)
  (hx:VRi ν (.slice base len cap) (.slice AS len c')) (hy:VRi ν y y') (RB:pQ H inf.size y=some new) (RZ:jU new=true) (AI:len+dZ y <= c') (h:rh H n inf.size len (dZ y) cap base new=some (.val v H' n')) :
  Effi P ν F n (Builtin.append_ #[t,u] ty #[.slice AS len c',y']) w v H' n':=by
 obtain⟨O_,hl,hlen,hS,-,-⟩:=lS hH hu hy RB;have hS2:=hS RZ;unfold rh at h;split at h
 ·rename_i ad;split at h
  ·rename_i UG;split at h
   ·rename_i H2 hp;cases h;cases hx with
    | atom _ h=>simp[cJ] at h
    | @slice hd b K _ _ o _ hν hcap =>
    obtain⟨q1,q2,q3,q4,q5⟩:=oS hH hν hl hp;have iD:=run_append_room_src (P:=P) w t u ty el inf ht hi b o len c' y' (dZ y) O_ hS2 AI q1 q2;exact⟨ν,_,_,iD,.slice _ _ hν hcap,.refl _ _,q4,q5⟩
   ·cases h
  ·cases h
 ·split at h
  ·cases h;cases hx with
   | atom _ _ =>
   cases hl;have hS3:=hS RZ;have hz:(Builtin.firstCells inf.size (dZ y) y').run P w=.ok #[] w:=hS3.cells;refine⟨ν,.slice none (len+dZ y) cap,w,?_,.atom _ rfl,.refl _ _,hH,Below.refl _ _⟩;rcases hS3.kind with ⟨e',hk⟩|hk <;> simp[Builtin.append_,run_underlying ht,run_underlying hk,sizeOf,typeInfo,hi,hS3.len,hz,AI]
  ·cases h
theorem tV{t u ty el e':TypeId}{inf:TypeInfo}{z:List Value}{n len cap c':Nat}{base AS:Option Addr}{y y':Value}{u_ new:List Value}{v:Value}{n':Nat}(hH:HR ν H F w)(ht:P.underlying t=some (.slice el))(hu:P.underlying u=some (.slice e'))(hi:P.info? el=some inf)(hz:kO P el=some z)(Ui:z.length=inf.size)(IT:0<inf.size)
  (hx:VRi ν (.slice base len cap) (.slice AS len c')) (hy:VRi ν y y') (RB:pQ H inf.size y=some new) (RZ:jU new=true) (hold:pQ H inf.size (.slice base len cap)=some u_) (AI:c'<len+dZ y) (Uu:len+dZ y<1000000) (WG:inf.bytes<1000001) (hn:ν n=none)
  (Hd:AH) (hd:∀ν' w',HR ν' H F w' -> HR ν' Hd F w') (h:i8 Hd n inf.size len (dZ y) el u_ new=.val v H' n') :
  Effi P ν F n (Builtin.append_ #[t,u] ty #[.slice AS len c',y']) w v H' n':=by
 obtain⟨O_,hl,hlen,hS,-,-⟩:=lS hH hu hy RB;obtain⟨Ug,RX,S4,-,S0,-⟩:=lS hH ht hx hold;have hS:=hS RZ;obtain⟨zv,g1,g2,g3,i,g4,g5⟩:=jY (ν:=ν) hz;rw[hi] at g4;cases g4;have SH:Builtin.nextslicecap (len+dZ y) c'*inf.bytes <= 281474976710656:=by
  have h1:=Nw (len+dZ y) c' AI;have h2:Builtin.nextslicecap (len+dZ y) c'*inf.bytes <= 2000192*1000000:=Nat.mul_le_mul (by omega) (by omega);omega
 have iD:=run_append_grow_src (P:=P) w t u ty el inf zv ht hi g5 AS len c' Ug S0 y' (dZ y) O_ hS AI (by omega) SH;have To:=grownCap_ge w (len+dZ y) c' el;generalize grownCap w (len+dZ y) c' el=K at *;unfold i8 at h;cases h;refine⟨ν.upd n w.heap.size K,_,_,iD,?_,.upd,?_,⟨rfl,rfl,rfl,by simp,λ k hk=>by omega⟩⟩
 ·exact .slice _ _ cB ⟨λ e=>by unfold lP at e;omega,λ e=>by omega⟩
 ·have YZ:HR ν Hd F w:=hd _ _ hH;refine YZ.new hn (K:=K) ?_ (by rw[j4];rfl) (o:=.cells ((Ug++O_).toArray++Builtin.zeroCells zv.cells (K-(len+dZ y))) el) rfl;rw[j4];have U5:=Mf (ty:=el) (ww:=inf.size) (K:=K) (rest:=(Builtin.zeroCells zv.cells (K-(len+dZ y))).toList) (RX.append hl) (λ _=>by
   simp only[abi,hlen,S4,Builtin.zeroCells,Array.toList_map,List.length_map,Array.toList_range,List.length_range,g2];have VN:dZ (Value.slice base len cap)=len:=rfl;rw[VN];have:(⟨z⟩:Array Value).size=inf.size:=by simpa using Ui
   rw[this,<- Nat.add_mul,<- Nat.add_mul];congr 1;omega)
  have e:((Ug++O_).toArray++Builtin.zeroCells zv.cells (K-(len+dZ y)))=⟨(Ug++O_)++(Builtin.zeroCells zv.cells (K-(len+dZ y))).toList⟩:=by apply Array.ext';simp
  rw[e];exact U5
end ap
section ap
variable {ν ν':Nu} {P:Program} {G N:Nat} {T T':Tr Value} {a:Act} {H H':AH} {F:HL} {w w':World}
theorem kP{a b:Nat}(h:Nat.blt a b=false):b <= a:=by
 rcases abX a b with e|e
 ·have:Nat.blt a b=true:=Nat.ble_eq_true_of_le e;rw[this] at h;cases h
 ·exact e
theorem kQ{a b:Nat}(h:Nat.ble a b=false):b<a:=by
 rcases abX b a with e|e
 ·exact e
 ·have:Nat.ble a b=true:=Nat.ble_eq_true_of_le e;rw[this] at h;cases h
theorem KS{t u ty el e':TypeId}{inf:TypeInfo}{z:List Value}{n len cap:Nat}{ad:Addr}{x' y y':Value}{new:List Value}{v:Value}{n':Nat}(hH:HR ν H F w)(ht:P.underlying t=some (.slice el))(hu:P.underlying u=some (.slice e'))(hi:P.info? el=some inf)(hz:kO P el=some z)(Ui:z.length=inf.size)(IT:0<inf.size)
  (hx:VRi ν (.slice (some ad) len cap) x') (hy:VRi ν y y') (RB:pQ H inf.size y=some new) (RZ:jU new=true) (Uu:len+dZ y<1000000) (WG:inf.bytes<1000001) (hcap:lP <= cap) (hn:Fr ν n n') (h:Hv H n inf.size len (dZ y) cap ad el new=some (.val v H' n')) :
  Effi P ν F n (Builtin.append_ #[t,u] ty #[x',y']) w v H' n':=by
 cases hx with
 | atom _ h=>simp[cJ] at h
 | @slice hd b K _ c' o _ hν hc =>
 unfold Hv at h;split at h
 case h_2=>cases h
 rename_i nn ww tyy UG ho Xe TF;simp only at ho;subst ho;have So:cap=lP:=ab8 Xe;have Se:=hc.2 hcap;rw[So,Nat.sub_self,Nat.add_zero] at Se;unfold Qh at TF;split at TF
 case h_2=>cases TF
 rename_i nn' tr ty' ww' hb;simp only[Option.some.injEq,Prod.mk.injEq] at TF;obtain⟨e1,e2,e3⟩:=TF;subst e1;subst e2;subst e3;simp only at hb;obtain⟨c,ty2,fz,hw,U5⟩:=hH.cells hb hν;split at h
 case h_2=>cases h
 rename_i hwk hlk hty;have ad4:ty'=el:=ab8 hty;have ad0:ww'=inf.size:=ab8 hwk;have aka:=bW hlk;have VC:=U5.gr (by omega);rw[ad0] at VC;have hle:=U5.le;split at h
 ·rename_i Sa;have ae0:=bW Sa;have:(len+dZ y)*inf.size <= K*inf.size:=by omega
  have AI:=Nat.le_of_mul_le_mul_right this IT;exact yd hH ht hu hi (.slice 0 len hν hc) hy RB RZ (by omega) h
 ·rename_i Sa;have ae0:=kQ Sa;split at h
  case h_2=>cases h
  rename_i u_ hold;have IN:i8 (cX H hd none) n inf.size len (dZ y) el u_ new=.val v H' n':=by simpa using h
  have W5:ν n=none:=by
   unfold i8 at IN;cases IN;exact hn n (aa0 _) (by omega)
  by_cases AI:len+dZ y <= c'
  ·obtain⟨O_,hl,hlen,hS,-,-⟩:=lS hH hu hy RB;obtain⟨Ug,RX,S4,-,-,S0⟩:=lS hH ht (.slice 0 len hν hc) hold;have hS:=hS RZ;have SH:(len+dZ y)*inf.size <= c.size:=by
    rw[VC];exact Nat.mul_le_mul_right _ (by omega)
   have OF:∀j,j<O_.length -> (w.cell? ⟨b,0+len*inf.size+j,none⟩).isSome=true:=λ j hj=>by
    rw[lQ hw,Array.getElem?_eq_getElem (by rw[hlen] at hj;rw[Nat.add_mul] at SH;omega)];rfl
   have VY:∀j,j<O_.length -> w.frozen? ⟨b,0+len*inf.size+j,none⟩=false:=λ j hj=>by
    obtain⟨lo,hi⟩:=fz;have:=U5.fz;cases this;simp[World.frozen?,hw]
   have iD:=run_append_room_src (P:=P) w t u ty el inf ht hi b 0 len c' y' (dZ y) O_ hS AI OF VY;obtain⟨c2,e1,e2,e3⟩:=lw b O_ (0+len*inf.size) w hw;unfold i8 at IN;cases IN;have afj:HR ν (cX H hd none) F (w.setCells b (0+len*inf.size) O_):=hH.del' hb rfl hν (λ k hk=>ia b _ _ _ _ hk);refine⟨ν.upd n b K,_,_,iD,?_,.upd,?_,ie _ _ _ _⟩
   ·exact .slice _ _ cB ⟨λ e=>by unfold lP at e;omega,λ e=>by omega⟩
   ·refine afj.add W5 e1 ?_ (by rw[j4];rfl) (λ x hx=>hH.apt _ _ _ _ hb hν x hx) (λ k b' K' hk e=>?_)
    ·rw[j4];have abe:∀i,i<len*inf.size -> c[i]?=Ug[i]?:=λ i hi=>by
      have VN:dZ (Value.slice (some ⟨hd,0,none⟩) len cap)=len:=rfl;rw[VN] at S4 S0;have V3:((c.toList.drop 0).take (len*inf.size)).length=len*inf.size:=by simp;omega
      have h2:=run_firstCells_some (P:=P) w inf.size len ⟨b,0,none⟩ len c' ((c.toList.drop 0).take (len*inf.size)) V3 (λ j u hj=>by
       rw[mY,lQ hw];have Ub:=(List.getElem?_eq_some_iff.1 hj).1;rw[V3] at Ub;rw[List.getElem?_take_of_lt Ub,ack] at hj;simpa using hj)
      rw[h2] at S0;simp only[Result.ok.injEq,and_true] at S0;have h3:Ug=(c.toList.drop 0).take (len*inf.size):=by
       have:=congrArg Array.toList S0;simpa using this.symm
      rw[h3,List.getElem?_take_of_lt hi];simp
     have VN:dZ (Value.slice (some ⟨hd,0,none⟩) len cap)=len:=rfl;rw[VN] at S4;have YK:u_.length=len*inf.size:=by rw[<- S4,RX.length]
     have ZO:new.length=dZ y*inf.size:=by rw[<- hlen,hl.length]
     refine⟨U5.ty.trans ad4,?_,U5.fz,λ i hi=>?_,λ _=>by rw[e2,VC]⟩
     ·rw[e2,abi,YK,ZO,<- Nat.add_mul];exact SH
     ·have VT:i<(len+dZ y)*inf.size:=by rw[abi,YK,ZO,<- Nat.add_mul] at hi;exact hi
      obtain⟨v',g1,g2⟩:=(RX.append hl).get (abt hi);refine⟨v',?_,by rw[lu hi];exact g2⟩;rw[e3 i (by omega),<- g1]
      by_cases h1:i<len*inf.size
      ·rw[dif_neg (by omega),abe i h1,abD (by omega)]
      ·rw[dif_pos ⟨by omega,by rw[hlen];rw[Nat.add_mul] at VT;omega⟩,abG (by omega),S4];rw[<- abt];congr 1;omega
    ·rw[dM] at hk;split at hk
     ·cases hk
     ·rename_i At;exact At (hH.inj _ _ _ _ _ _ _ hb hk hν e)
  ·exact tV hH ht hu hi hz Ui IT (.slice 0 len hν hc) hy RB RZ hold (by omega) Uu WG W5 (cX H hd none) (λ ν' w' h'=>h'.del hd) IN
def HEq(H H':AH):Prop:=∀h,b7 H' h=b7 H h \/ ∃n t t' ty w ro,b7 H h=some (.cells n t ty w ro) /\ b7 H' h=some (.cells n t' ty w ro) /\ ∀i,i<n -> cY t' i=cY t i
theorem HR.heq(h:HR ν H F w)(e:HEq H H'):HR ν H' F w:=by
 have back:∀k b,b7 H' k=some b -> ∃b0,b7 H k=some b0 /\ ∀K o,OR ν K b0 o -> OR ν K b o:=λ k b hk=>by
  rcases e k with e1|⟨n,t,t',ty,wd,ro,e1,e2,e3⟩
  ·rw[e1] at hk;exact⟨b,hk,λ _ _ h=>h⟩
  ·rw[e2] at hk;cases hk;refine⟨_,e1,λ K o ho=>?_⟩;cases o with
   | cells c ty' fz =>
    have ho:CR ν K n t ty wd c ty' fz:=ho;exact(⟨ho.ty,ho.le,ho.fz,λ i hi=>by obtain⟨v',g1,g2⟩:=ho.get i hi;exact⟨v',g1,by rw[e3 i hi];exact g2⟩,ho.gr⟩:CR ν K n t' ty wd c ty' fz)
   | _=>exact ho
 refine⟨λ k b hk=>?_,λ h₁ h₂ b₁ b₂ r K₁ K₂ g1 g2=>?_,h.frm,λ k b r K hk=>?_⟩
 ·obtain⟨b0,g1,g2⟩:=back k b hk;obtain⟨r,K,o,g3,g4,g5⟩:=h.blk k b0 g1;exact⟨r,K,o,g3,g4,g2 K o g5⟩
 ·obtain⟨c1,d1,-⟩:=back _ _ g1;obtain⟨c2,d2,-⟩:=back _ _ g2;exact h.inj _ _ _ _ _ _ _ d1 d2
 ·obtain⟨b0,g1,g2⟩:=back k b hk;exact h.apt k b0 r K g1
theorem gw(t:Tr Value):∀ (k i:Nat),(gR t i k).length=k
 | 0,_=>rfl
 | k+1,i=>by simp[gR,gw t k]
theorem tW(t:Tr Value):∀ (k i j:Nat),j<k -> (gR t i k)[j]?=some (cY t (i+j))
 | 0,_,_,h=>absurd h (by omega)
 | k+1,i,j,h=>by
  cases j with
  | zero=>simp[gR]
  | succ j=>simp only[gR,List.getElem?_cons_succ];rw[tW t k (i+1) j (by omega)];congr 2;omega
theorem HQ(tr:Tr Value)(i:Nat)(new:List Value)(el:TypeId)(k:Nat):Hw tr i new el k=.cells (i+new.length) (kl tr i new) el k false:=by
 unfold Hw;split <;> rename_i h <;> rw[h,ew]
theorem Ep{n k len add cap:Nat}{ad:Addr}{el:TypeId}{new:List Value}{v:Value}{n':Nat}(h:tI H n k len add cap ad el new=some (.val v H' n')):∃H0,Hv H n k len add cap ad el new=some (.val v H0 n') /\ HEq H0 H':=by
 unfold tI at h;split at h
 case h_2=>cases h
 rename_i nn tr ty w UG ho Xe hb;split at h
 case h_2=>cases h
 rename_i h1 h2 h3;have TF:Qh H ad=some (nn,w,ty):=by unfold Qh;rw[hb]
 split at h
 ·rename_i Sa;refine⟨H',?_,λ h=>.inl rfl⟩;unfold Hv;rw[UG,ho,Xe,TF];simp only[h1,h2,h3,Sa];exact h
 ·rename_i Sa;cases h;refine⟨cX (cX H ad.block none) n (some (vh (gR tr 0 (len*k)++new) el k)),?_,λ h=>?_⟩
  ·unfold Hv;rw[UG,ho,Xe,TF];simp only[h1,h2,h3,Sa,pQ,UG,hb,ho,Nat.zero_add];rfl
  ·by_cases hh:n=h
   ·refine .inr ⟨(gR tr 0 (len*k)++new).length,dS undef (gR tr 0 (len*k)++new) 0 .lf,kl tr (len*k) new,el,k,false,by rw[dM,if_pos hh,j4],?_,λ i hi=>?_⟩
    ·rw[dM,if_pos hh,HQ,abi,gw]
    ·rw[lu hi,rC];rw[abi,gw] at hi;split
     ·rename_i hj;rw[List.getElem_append_right (by rw[gw];omega)];congr 1;rw[gw]
     ·rename_i hj;have VT:i<len*k:=by omega
      rw[List.getElem_append_left (by rw[gw];exact VT)];have:=tW tr (len*k) 0 i VT;rw[Nat.zero_add] at this;rw[abt (by rw[gw];exact VT)] at this;exact(Option.some.inj this).symm
   ·exact .inl ((dM _ _ _ _).trans ((if_neg hh).trans ((if_neg hh).symm.trans (dM _ _ _ _).symm)))
theorem HS{t u ty el e':TypeId}{inf:TypeInfo}{z:List Value}{n len cap:Nat}{ad:Addr}{x' y y':Value}{new:List Value}{v:Value}{n':Nat}(hH:HR ν H F w)(ht:P.underlying t=some (.slice el))(hu:P.underlying u=some (.slice e'))(hi:P.info? el=some inf)(hz:kO P el=some z)(Ui:z.length=inf.size)(IT:0<inf.size)
  (hx:VRi ν (.slice (some ad) len cap) x') (hy:VRi ν y y') (RB:pQ H inf.size y=some new) (RZ:jU new=true) (Uu:len+dZ y<1000000) (WG:inf.bytes<1000001) (hcap:lP <= cap) (hn:Fr ν n n') (h:tI H n inf.size len (dZ y) cap ad el new=some (.val v H' n')) :
  Effi P ν F n (Builtin.append_ #[t,u] ty #[x',y']) w v H' n':=by
 obtain⟨H0,h1,h2⟩:=Ep h;obtain⟨ν',a,b,g1,g2,g3,g4,g5⟩:=KS hH ht hu hi hz Ui IT hx hy RB RZ Uu WG hcap hn h1;exact⟨ν',a,b,g1,g2,g3,g4.heq h2,g5⟩
theorem KT{t u ty el e':TypeId}{n:Nat}{x x' y y':Value}{v:Value}{n':Nat}(hH:HR ν H F w)(ht:P.underlying t=some (.slice el))(hu:P.underlying u=some (.slice e'))(hx:VRi ν x x')(hy:VRi ν y y')(hn:Fr ν n n')(h:xG P H n el x y=some (.val v H' n')) :
  Effi P ν F n (Builtin.append_ #[t,u] ty #[x',y']) w v H' n':=by
 unfold xG at h;split at h
 case h_2=>cases h
 rename_i inf z hi hz;split at h
 case h_2=>cases h
 rename_i k by_ base len cap hk XY;have hk:inf.size=k+1:=hk;have XY:inf.bytes=by_+1:=XY;split at h
 case h_2=>cases h
 rename_i new RB Ui Uu WG;rw[<- hk] at RB Ui h;have aaD:z.length=inf.size:=by rw[ew] at Ui;exact ab8 Ui
 have abU:=dT Uu;have akT:=dT WG;split at h
 ·rename_i RZ Xe;have afm:=dT Xe;have VH:∃AS,x'=.slice AS len cap /\ VRi ν (.slice base len cap) (.slice AS len cap):=by
   cases hx with
   | atom _ h=>exact⟨_,rfl,.atom _ h⟩
   | slice o _ hν hc=>obtain rfl:=hc.1 afm;exact⟨_,rfl,.slice o _ hν hc⟩
  obtain⟨AS,rfl,hr⟩:=VH;split at h
  ·rename_i Sa;exact yd hH ht hu hi hr hy RB RZ (bW Sa) h
  ·rename_i Sa;split at h
   ·rename_i u_ hold;have IN:i8 H n inf.size len (dZ y) el u_ new=.val v H' n':=by simpa using h
    have W5:ν n=none:=by
     have Yr:=IN;unfold i8 at Yr;cases Yr;exact hn n (aa0 _) (by omega)
    exact tV hH ht hu hi hz aaD (by omega) hr hy RB RZ hold (kQ Sa) abU (by omega) W5 H (λ _ _ h=>h) IN
   ·cases h
 ·rename_i RZ Xe;split at h
  ·exact HS hH ht hu hi hz aaD (by omega) hx hy RB RZ abU (by omega) (kP Xe) hn h
  ·cases h
 ·cases h
end ap
inductive TgR(ν:Nu):Target -> Target -> Prop
 | fn {f f':Fn} {c c':Array Value}:FnR ν f f' -> LR ν c.toList c'.toList -> TgR ν (.fn f c) (.fn f' c')
 | coll {h b K:Nat}:ν h=some (b,K) -> TgR ν (.collected h) (.collected b)
structure DR(ν:Nu)(d d':Deferred):Prop where
 t:TgR ν d.target d'.target
 a:LR ν d.args.toList d'.args.toList
def QR(P:Program)(ν:Nu)(F:HL)(n:Nat)(s:Sem Next)(w:World):AN -> Prop
 | .val v H' n'=>∃ν' v' w' r,s.run P w=.ok r w' /\ (r=.value v' \/ (r=.skip /\ v'=undef)) /\ VRi ν' v v' /\ Ext ν ν' n n' /\ HR ν' H' F w' /\ Below 0 w w'
 | .ent f args=>∃j_,s.run P w=.ok (.enter f ⟨j_⟩) w /\ LR ν args j_
 | .rnd l args=>∃b K j_,ν l=some (b,K) /\ LR ν args j_ /\ s.run P w=(Instr.yield b ⟨j_⟩).run P w
 | .dfr d=>∃d',s.run P w=.ok (.defer d') w /\ DR ν d d'
 | .rcv=>s.run P w=.ok .recover w
section ap
variable {ν ν':Nu} {P:Program} {G N:Nat} {T T':Tr Value} {a:Act} {H H':AH} {F:HL} {w w':World}
theorem TgR.mono{t t':Target}(h:TgR ν t t')(hl:ν.Le ν'):TgR ν' t t':=by
 cases h with
 | fn h1 h2=>exact .fn (h1.mono hl) (h2.mono hl)
 | coll h=>exact .coll (hl _ _ h)
theorem DR.mono{d d':Deferred}(h:DR ν d d')(hl:ν.Le ν'):DR ν' d d':=⟨h.t.mono hl,h.a.mono hl⟩
theorem rE{fn:Fn}{f c:Array Value}{v':Value}(h:VRi ν (.func fn f c) v'):∃fn' f' c',v'=.func fn' f' c' /\ FnR ν fn fn' /\ LR ν f.toList f'.toList /\ LR ν c.toList c'.toList:=by
 cases h with
 | atom _ h=>simp[cJ] at h
 | func h1 h2 h3 h4 h5=>exact⟨_,_,_,rfl,h1,.of_arr h2 h3,.of_arr h4 h5⟩
theorem HT{t u ty el:TypeId}{n:Nat}{x x' y y':Value}{v:Value}{n':Nat}(hH:HR ν H F w)(ht:P.underlying t=some (.slice el))(hx:VRi ν x x')(hy:VRi ν y y')(h:xH P H n el x y=some (.val v H' n')) :
  Effi P ν F n (Builtin.copy_ #[t,u] ty #[x',y']) w v H' n':=by
 unfold xH at h;split at h
 case h_2=>cases h
 rename_i k hk;split at h
 case h_2=>cases h
 rename_i ad dl cx b sl cc;split at h
 case h_2=>cases h
 rename_i vs UG RB;split at h
 case h_2=>cases h
 rename_i H2 hp;cases h;cases hx with
 | atom _ h=>simp[cJ] at h
 | @slice hd bb K _ c' o _ hν hc =>
 have hy2:∃b',y'=.slice b' sl (match y' with | .slice _ _ c=>c|_=>0) /\ ∀c,VRi ν (.slice b (Nat.min sl dl) c) (.slice b' (Nat.min sl dl) c) \/ b≠none:=by
  cases hy with
  | atom _ h=>cases b with
   | none=>exact⟨none,rfl,λ c=>.inl (.atom _ rfl)⟩
   | some _=>simp[cJ] at h
  | slice o n hν hc=>exact⟨_,rfl,λ c=>.inr (by simp)⟩
 have ZQ:∃No,LR ν vs No /\ (Builtin.firstCells k (Nat.min sl dl) y').run P w=.ok No.toArray w:=by
  have hyy:∃yy,VRi ν (.slice b (Nat.min sl dl) cc) yy /\ (Builtin.firstCells k (Nat.min sl dl) y').run P w=(Builtin.firstCells k (Nat.min sl dl) yy).run P w:=by
   cases hy with
   | atom _ h=>cases b with
    | none=>exact⟨.slice none (Nat.min sl dl) cc,.atom _ rfl,rfl⟩
    | some _=>simp[cJ] at h
   | slice o n hν hc=>exact⟨_,.slice o _ hν hc,rfl⟩
  obtain⟨yy,h1,h2⟩:=hyy;obtain⟨No,q1,q2,q3,q4,q5⟩:=lS (u:=t) hH ht h1 RB;exact⟨No,q1,by rw[h2];exact q5⟩
 obtain⟨No,hl,ZQ⟩:=ZQ;obtain⟨q1,q2,q3,q4,q5⟩:=oS hH hν hl hp;obtain⟨b',hy3,-⟩:=hy2;have n_:=run_storeCells_cells (P:=P) bb o No 0 w (by simpa using q1) (by simpa using q2) q3;refine⟨ν,.int .i64 ((Nat.min sl dl:Nat):Int),_,?_,.atom _ rfl,.refl _ _,q4,q5⟩;have hlen:∀W,(Builtin.lenOf y').run P W=.ok sl W:=λ W=>by rw[hy3];rfl
 have hs:=eC hk w;unfold Builtin.copy_;simp only[List.getElem?_toArray,List.getElem?_cons_zero,List.getElem?_cons_succ];rw[ace,aG ht];simp only[acd,ace,hlen,hs,ZQ];simp only[Nat.add_zero] at n_;rw[n_];rfl
theorem iA{f:FuncId}{args:Array Value}(h:ri P f=true)(w:World):(callFunc f args).run P w=.ok (.enter f args) w:=by
 unfold ri at h;split at h
 ·rename_i fn hf;rw[ab1] at h;obtain⟨h1,h2⟩:=h;unfold callFunc;rw[nz];simp only[hf];rw[if_neg (by simpa using h1),if_neg (by cases hb:fn.body <;> simp[hb] at h2 ⊢)];rfl
 ·cases h
theorem m5{c:Call}{f:Operand}{ty:TypeId}{fn:Fn}{f1 c1:Array Value}{ρ:Operand -> Value}(hc:c.callee=.value f)(hf:ρ f=.func fn f1 c1)(w:World):(resolve ρ c ty).run P w=.ok { target:=.fn fn c1,args:=f1++c.args.map ρ } w:=by
 unfold resolve;rw[hc];simp only[hf,Deferred.ofValue];rfl
theorem HU{n:Nat}{c:Call}{x:AN}(h:Hy P H n c T=some x):∃v H' n',x=.val v H' n':=by
 unfold Hy xG tI rh i8 at h
 repeat' split at h
 all_goals first
  | (cases h;done)
  | (cases h;exact⟨_,_,_,rfl⟩)
theorem Er{n:Nat}{c:Call}{x:AN}(h:xI P H n c T=some x):∃v H' n',x=.val v H' n':=by
 unfold xI xH at h
 repeat' split at h
 all_goals first
  | (cases h;done)
  | (cases h;exact⟨_,_,_,rfl⟩)
theorem B7{n n':Nat}{s:Sem Value}{s':Sem Next}{v:Value}(h:Effi P ν F n s w v H' n')(e:s'.run P w=(do pure (.value (<- s)):Sem Next).run P w):QR P ν F n s' w (.val v H' n'):=by
 obtain⟨ν',v',w',h1,h2,h3,h4,h5⟩:=h;refine⟨ν',v',w',.value v',?_,.inl rfl,h2,h3,h4,h5⟩;rw[e,ace,h1];rfl
theorem Es{t:TypeId}{name:String}{f:FuncId}{v:Value}(h:Hz P t name=some f)(w:World):(method (P.types.size+Made.depth) t v name).run P w=.ok (f,v) w:=by
 unfold Hz at h;split at h
 case h_2=>cases h
 rename_i i hi YB;split at h
 case h_2=>cases h
 rename_i m hm;obtain⟨k,hk⟩:∃k,P.types.size+Made.depth=k+1:=⟨_,(Nat.succ_pred_eq_of_pos (dT YB)).symm⟩;rw[hk];have abB:m.path.toList=[] -> (follow m.path.toList t (.val v)).run P w=.ok (t,.val v) w:=λ e=>by rw[e];rfl
 split at h
 ·rename_i g e hp hf hu;cases h;unfold method;rw[ace,cZ hi];simp only[acd,hm];rw[ace,abB hp];simp only[acd,hf];rw[ace];have:∀wr,(receiverAt t (.val v) true wr).run P w=.ok v w:=λ wr=>by
   unfold receiverAt;rw[ace,aG hu];rfl
  rw[this];rfl
 ·cases h
 ·rename_i g d hnp hp hf hu;cases h;unfold method;rw[ace,cZ hi];simp only[acd,hm];rw[ace,abB hp];simp only[acd,hf];rw[ace];have:∀wr,(receiverAt t (.val v) false wr).run P w=.ok v w:=λ wr=>by
   unfold receiverAt;rw[ace,aG hu];simp only[acd];cases d <;> first|rfl|exact(hnp _ rfl).elim
  rw[this];rfl
 ·cases h
theorem KU{o:Oper}{n:Nat}{x:AN}(hH:HR ν H F w)(h:mW P o T H n=some x){l:List Operand}(hl:i7 o.op=some l)(g_:OK ν T a l)(hn:∀v H' n',x=.val v H' n' -> Fr ν n n'):QR P ν F n (execOp a.eval o) w x:=by
 unfold mW at h;split at h
 ·rename_i t p y ho;rw[ho] at hl;simp only[i7,cq,Option.some.injEq] at hl;subst hl;have hp:=g_ p (by simp);split at h
  ·rename_i ad e;split at h
   ·rename_i H2 hs;cases h;rw[e] at hp;generalize hu:a.eval p=u at hp;have hp2:=hp;cases hp with
    | atom _ h=>simp[cJ] at h
    | ptr o h =>
     obtain⟨w',q1,q2,q3⟩:=Eo hH hp2 (g_ y (by simp)) hs;refine⟨ν,undef,w',.skip,?_,.inr ⟨rfl,rfl⟩,aau,.refl _ _,q2,q3⟩;simp[execOp,ho,Instr.storeAt,Instr.sureAddr,hu,ace,q1]
   ·cases h
  ·cases h
 ·rename_i t m k y ho;rw[ho] at hl;simp only[i7,cq,Option.some.injEq] at hl;subst hl;split at h
  ·rename_i H2 hs;cases h;obtain⟨hp,w',q1,q2,q3⟩:=B6 hH (g_ m (by simp)) (g_ y (by simp)) hs;have hk:=(g_ k (by simp)).plain_eq hp;refine⟨ν,undef,w',.skip,?_,.inr ⟨rfl,rfl⟩,aau,.refl _ _,q2,q3⟩;simp[execOp,ho,hk,ace,q1]
  ·cases h
 ·rename_i t m k y ho;rw[ho] at hl;simp only[i7,cq,Option.some.injEq] at hl;subst hl;split at h
  ·rename_i H2 hs;cases h;obtain⟨hp,w',q1,q2,q3⟩:=B6 hH (g_ m (by simp)) (g_ y (by simp)) hs;have hk:=(g_ k (by simp)).plain_eq hp;refine⟨ν,undef,w',.skip,?_,.inr ⟨rfl,rfl⟩,aau,.refl _ _,q2,q3⟩;simp[execOp,ho,hk,ace,q1]
  ·cases h
 ·rename_i c ho;split at h
  case h_2=>cases h
  rename_i f hc;split at h
  case h_2=>cases h
  rename_i fn first captured e
  cases h;rw[ho] at hl;simp only[i7,hc,Option.some.injEq] at hl;subst hl;have hf:=g_ f (by simp);rw[e] at hf;obtain⟨fn',f',c',e',r1,r2,r3⟩:=rE hf;have ha:=ls (l:=c.args.toList) (λ x hx=>g_ x (aaA _ hx));refine⟨{ target:=.fn fn' c',args:=f'++c.args.map a.eval },?_,⟨.fn r1 r3,?_⟩⟩
  ·unfold Go.execOp;rw[ho];simp only;rw[ace,m5 hc e'];rfl
  ·simpa using r2.append ha
 ·rename_i c ho;split at h
  ·rename_i f hc;have RX:l=f::c.args.toList:=by
    rw[ho] at hl;simp only[i7,cq,hc,Option.some.injEq] at hl;rw[<- hl];rfl
   split at h
   ·rename_i x' R0;cases h;subst RX;have hf:=g_ f (by simp);have ha:=ls (l:=c.args.toList) (λ x hx=>g_ x (aaA _ hx));have iD:∀fn' f' c',a.eval f=.func fn' f' c' -> (execOp a.eval o).run P w=(invoke (.fn fn' c') (f'++c.args.map a.eval)).run P w:=λ fn' f' c' e'=>by
     unfold Go.execOp;rw[ho];simp only;rw[ace,m5 hc e'];rfl
    unfold qj at R0;split at R0
    case h_2=>cases R0
    rename_i fn first captured e
    rw[e] at hf;obtain⟨fn',f',c',e',r1,r2,r3⟩:=rE hf;split at R0
    ·split at R0
     ·rename_i hb;cases R0;cases r1;refine⟨f'.toList++(c.args.toList.map a.eval++c'.toList),?_,r2.append (ha.append r3)⟩;rw[iD _ _ _ e'];show (callFunc _ (f'++c.args.map a.eval++c')).run P w=_;rw[iA hb];congr 2;apply Array.ext';simp
     ·cases R0
    ·rename_i lp;split at R0
     ·rename_i XU;cases R0;cases r1 with
      | @yield _ b K hν =>
      rw[XU] at r2;refine⟨b,K,_,hν,ha,?_⟩;rw[iD _ _ _ e'];have hf0:f'=#[]:=by
       apply Array.ext';generalize f'.toList=q at r2;cases r2;rfl
      subst hf0;show (Instr.yield b (#[]++c.args.map a.eval)).run P w=_;congr 2;apply Array.ext';simp
     ·cases R0
    ·cases R0
   ·split at h
    ·rename_i v hv;cases h;have U1:cq o.op=some l:=by
      rw[ho] at hl ⊢;exact hl
     obtain⟨v',r,e⟩:=oP hv U1 g_;exact⟨ν,v',w,_,e w,.inl rfl,r,.refl _ _,hH,Below.refl _ _⟩
    ·cases h
  ·rename_i b hc;split at h
   ·obtain⟨v,H2,n2,rfl⟩:=HU h;have Ut:=hn v H2 n2 rfl;unfold Hy at h;split at h
    case h_2=>cases h
    rename_i cl x y t u;simp only at hc;subst hc;split at h
    case h_2=>cases h
    rename_i el he hs;have RX:l=[x,y]:=by
     rw[ho] at hl;simp only[i7,cq,Option.some.injEq] at hl;rw[<- hl];rfl
    subst RX;have hu:∃e',P.underlying u=some (.slice e'):=by
     unfold Pm at hs;split at hs
     ·rename_i e1;exact⟨_,e1⟩
     ·cases hs
    obtain⟨e',hu⟩:=hu;have hr:∃cs,(resolve a.eval ⟨.builtin .append,⟨[x,y]⟩,⟨[t,u]⟩⟩ o.type).run P w=.ok { target:=.builtin .append #[t,u] o.type cs,args:=#[a.eval x,a.eval y] } w:=by
     refine⟨(⟨[x,y]⟩:Array Operand).map (λ | .const _=>true|_=>false),?_⟩;unfold resolve;have e:(⟨[x,y]⟩:Array Operand).map a.eval=#[a.eval x,a.eval y]:=by simp
     simp only[e];rfl
    obtain⟨cs,hr⟩:=hr;refine B7 (KT (ty:=o.type) hH (lR he) hu (g_ x (by simp)) (g_ y (by simp)) Ut h) ?_;unfold Go.execOp;rw[ho];simp only;rw[ace,hr];rfl
   ·obtain⟨v,H2,n2,rfl⟩:=Er h;unfold xI at h;split at h
    case h_2=>cases h
    rename_i cl x y t u;simp only at hc;subst hc;split at h
    case h_2=>cases h
    rename_i el he;have RX:l=[x,y]:=by
     rw[ho] at hl;simp only[i7,cq,Option.some.injEq] at hl;rw[<- hl];rfl
    subst RX;have hr:∃cs,(resolve a.eval ⟨.builtin .copy,⟨[x,y]⟩,⟨[t,u]⟩⟩ o.type).run P w=.ok { target:=.builtin .copy #[t,u] o.type cs,args:=#[a.eval x,a.eval y] } w:=by
     refine⟨(⟨[x,y]⟩:Array Operand).map (λ | .const _=>true|_=>false),?_⟩;unfold resolve;have e:(⟨[x,y]⟩:Array Operand).map a.eval=#[a.eval x,a.eval y]:=by simp
     simp only[e];rfl
    obtain⟨cs,hr⟩:=hr;refine B7 (HT (u:=u) (ty:=o.type) hH (lR he) (g_ x (by simp)) (g_ y (by simp)) h) ?_;unfold Go.execOp;rw[ho];simp only;rw[ace,hr];rfl
   ·cases h;show (execOp a.eval o).run P w=_;unfold Go.execOp;rw[ho];simp only;rw[ace];unfold resolve;rw[hc];rfl
   ·cases h
  ·rename_i recv name hc;have RX:l=recv::c.args.toList:=by
    rw[ho] at hl;simp only[i7,cq,hc,Option.some.injEq] at hl;rw[<- hl];rfl
   subst RX;split at h
   case h_2=>cases h
   rename_i t v e;split at h
   case h_2=>cases h
   rename_i f hf;split at h
   case h_2=>cases h
   rename_i hB;cases h;have hr:=g_ recv (by simp);rw[e] at hr;have ha:=ls (l:=c.args.toList) (λ x hx=>g_ x (aaA _ hx));generalize hu:a.eval recv=u at hr;cases hr with
   | atom _ h=>simp[cJ] at h
   | @iface _ v' _ hv =>
   refine⟨v'::c.args.toList.map a.eval,?_,.cons hv ha⟩;unfold Go.execOp;rw[ho];simp only;rw[ace];have h1:(resolve a.eval c o.type).run P w=.ok { target:=.fn (.method name) #[],args:=#[.iface t v']++c.args.map a.eval } w:=by
    unfold resolve;rw[hc];simp only[hu];rfl
   rw[h1];simp only[acd];have h2:(invoke (.fn (.method name) #[]) (#[.iface t v']++c.args.map a.eval)).run P w=(callMethod (.iface t v') name (c.args.map a.eval)).run P w:=by
    unfold invoke;have e1:(#[Value.iface t v']++c.args.map a.eval)[0]?=some (.iface t v'):=by rw[Array.getElem?_append_left (by simp)];rfl
    have e2:(#[Value.iface t v']++c.args.map a.eval).extract 1 (#[Value.iface t v']++c.args.map a.eval).size=c.args.map a.eval:=by
     apply Array.ext';simp;rw[List.take_of_length_le (by simp)]
    simp only[e1,e2]
   rw[h2];unfold callMethod;simp only;rw[nz,ace,Es hf];simp only[acd];rw[iA hB];congr 2;apply Array.ext';simp
 ·cases h
theorem lU{o:Op}{l:List Operand}(h:i7 o=some l)(hd:∀c,o ≠ .defer c):cq o=some l:=by
 cases o <;> first|exact h|exact(hd _ rfl).elim
end ap
def Glb(ν:Nu)(G:Nat):Prop:=∀k,k<G -> ∃K,ν k=some (k,K)
def HV(ν:Nu)(v:Value)(n n':Nat)(H':AH)(F:HL)(w:World)(e:Ending)(w':World):Prop :=
 ∃ν' v',e=.returned v' /\ VRi ν' v v' /\ Ext ν ν' n n' /\ HR ν' H' F w' /\ Below 0 w w'
inductive DsR(ν:Nu):List Deferred -> List Deferred -> Prop
 | nil:DsR ν [] []
 | cons {d d':Deferred} {l l':List Deferred}:DR ν d d' -> DsR ν l l' -> DsR ν (d::l) (d'::l')
inductive RR(ν:Nu):Option Nat -> Option Nat -> Prop
 | none:RR ν none none
 | some {l b K:Nat}:ν l=some (b,K) -> RR ν (some l) (some b)
def Ex.out:Ex -> Exit
 | .normal=>.normal
 | .exit id=>.exit id
 | .ret=>.ret
structure SR(ν:Nu)(G N:Nat)(s:St)(F:HL)(a:Act)(w:World):Prop where
 g:Glb ν G
 t:TRel ν N s.T a.tmps
 d:DsR ν s.D a.defers
 h:HR ν s.H F w
def B8(F:Fence)(n:Nat)(P:Program)(c:Code)(Q:Exit -> Act -> World -> Prop)(a:Act)(w:World):Prop :=
 ∀ (b:Frame) (k:List Item) (cs:List Frame),b.roundOf=F.round -> F.fn b.fn -> F.room (cs.length+1+n) ->
  ∃e a' w',Q e a' w' /\ ArrivesIn (Machine.fenced P F) P (lone (b.atR a (.code c :: .inLoop c::k)) cs w) b k cs e a' w'
theorem AE{F:Fence}{n:Nat}{P:Program}{c:Code}{Q:Exit -> Act -> World -> Prop}{a:Act}{w:World}(h:B8 F n P c Q a w):(Code.loop c).wpIn F n P Q a w:=by
 intro b k cs RU hb hr;obtain⟨e,a',w',hq,o_⟩:=h b k cs RU hb hr;exact⟨e,a',w',hq,.of_steps (.one (fenced_calm hb hr rfl) stepR_loop) o_⟩
theorem ye{F:Fence}{n:Nat}{P:Program}{c:Code}{Q:Exit -> Act -> World -> Prop}{a:Act}{w:World}(h:c.wpIn F n P (Exit.then (B8 F n P c Q) Q) a w):B8 F n P c Q a w:=by
 intro b k cs RU hb hr;obtain⟨e,a₁,w₁,hq,o_⟩:=h b (.inLoop c::k) cs RU hb hr;cases e with
 | normal =>
  obtain⟨e₂,a₂,w₂,TI,RP⟩:=hq b k cs RU hb hr;exact⟨e₂,a₂,w₂,TI,.of_steps (StepsIn.trans o_ (.one (fenced_calm hb hr rfl) stepR_inLoop)) RP⟩
 | exit id=>exact⟨_,a₁,w₁,hq,.pass (x:=.inLoop c) rfl (λ _ _=>.inl (by simp)) o_⟩
 | goto l=>exact⟨_,a₁,w₁,hq,.pass (x:=.inLoop c) rfl (λ _ _=>.inl (by simp)) o_⟩
 | ret=>exact⟨_,a₁,w₁,hq,.pass (x:=.inLoop c) rfl (λ _ _=>.inl (by simp)) o_⟩
 | panic ch=>exact⟨_,a₁,w₁,hq,.pass (x:=.inLoop c) rfl (λ _ _=>.inl (by simp)) o_⟩
 | outgrown=>exact⟨_,a₁,w₁,hq,.pass (x:=.inLoop c) rfl (λ _ _=>.inl (by simp)) o_⟩
def jG(P:Program)(G:Nat):Task -> Rs -> Prop
 | .fn f args H n,.fn v H' n'=>n <= n' /\ ∀ν F w j_,Glb ν G -> Fr ν n n' -> HR ν H F w -> LR ν args j_ -> Calls P f ⟨j_⟩ w (HV ν v n n' H' F w)
 | .rnd l T N aZz bo H n,.fn v H' n'=>n <= n' /\ ∀ν F w b K tm f r',Glb ν G -> ν l=some (b,K) -> TRel ν N T tm -> Fr ν n n' -> HR ν H F w -> RoundIn (Wr r') 0 P b f tm aZz bo w (HV ν v n n' H' F w)
 | .code r N c s,.cd e s'=>s.n <= s'.n /\ ∀ν F a w r' Q,RR ν r r' -> SR ν G N s F a w -> Fr ν s.n s'.n -> (∀ν' a' w',Ext ν ν' s.n s'.n -> SR ν' G N s' F a' w' -> Below 0 w w' -> Q e.out a' w') -> c.wpIn (Wr r') 0 P Q a w
 | .loop r N c s,.cd e s'=>s.n <= s'.n /\ ∀ν F a w r' Q,RR ν r r' -> SR ν G N s F a w -> Fr ν s.n s'.n -> (∀ν' a' w',Ext ν ν' s.n s'.n -> SR ν' G N s' F a' w' -> Below 0 w w' -> Q e.out a' w') -> B8 (Wr r') 0 P c Q a w
 | .dfn f args H n,.fn v H' n'=>n <= n' /\ ∀ν F w j_,Glb ν G -> Fr ν n n' -> HR ν H F w -> LR ν args j_ -> CallsDIn (Wr none) 0 P f ⟨j_⟩ .returning w (λ e u' w'=>u'=.returning /\ HV ν v n n' H' F w e w')
 | _,_=>True
def kB(P:Program)(G:Nat)(ih:Task -> Option Rs):Prop:=∀t res,ih t=some res -> jG P G t res
section ops
variable {ν ν':Nu} {P:Program} {G N:Nat} {T T':Tr Value} {a:Act} {H H':AH} {F:HL} {w w':World} {r r':Option Nat} {ih:Task -> Option Rs}
theorem Glb.mono(h:Glb ν G)(hl:ν.Le ν'):Glb ν' G:=λ k hk=>let ⟨K,e⟩:=h k hk;⟨K,hl _ _ e⟩
theorem DsR.mono{l l':List Deferred}(h:DsR ν l l')(hl:ν.Le ν'):DsR ν' l l':=by
 induction h with
 | nil=>exact .nil
 | cons h _ ih=>exact .cons (h.mono hl) ih
theorem RR.mono(h:RR ν r r')(hl:ν.Le ν'):RR ν' r r':=by
 cases h with
 | none=>exact .none
 | some h=>exact .some (hl _ _ h)
theorem HR.loop(h:HR ν H F w){k:Nat}{st:LoopState}{pend:Option Code}{T:Tr Value}{N:Nat}{ps:Array Tmp}{aZz bo:Code}{d r K:Nat}(hk:b7 H k=some (.loop st pend T N ps aZz bo d))(hr:ν k=some (r,K)) :
  ∃lp:Loop,w.heap[r]?=some (.loop lp) /\ lp.state=st /\ lp.pending=pend /\ TRel ν N T lp.tmps /\ lp.params=ps /\ lp.assign=aZz /\ lp.body=bo /\ ∃K',ν d=some (lp.defers,K'):=by
 obtain⟨r',K',o,h1,h2,h3⟩:=h.blk _ _ hk;rw[hr] at h1;cases h1;unfold OR at h3;split at h3
 ·rename_i e1;cases e1
 ·rename_i e1;cases e1
 ·rename_i e1;cases e1;exact⟨_,h2,h3⟩
 ·rename_i e1;cases e1
 ·exact h3.elim
theorem gT{l:Nat}{lp:Loop}(h:w.heap[l]?=some (.loop lp)):(Instr.getLoop l).run P w=.ok lp w:=by
 unfold Instr.getLoop;rw[ace];have:(getObj l).run P w=.ok (.loop lp) w:=by
  unfold getObj;rw[Sem.run.eq_def];simp only[h];rfl
 rw[this];rfl
theorem tX:∀ {ps:List Tmp} {vs No:List Value} {T:Tr Value} {tm:Array Value},LR ν vs No -> TRel ν N T tm -> B1 N ps=true -> TRel ν N (HA ps vs T) ((ps.zip No).foldl (λ tmps (p:Tmp × Value)=>tmps.setIfInBounds p.1 p.2) tm)
 | [],vs,No,T,tm,hl,ht,_=>by cases vs <;> exact ht
 | p::ps,[],No,T,tm,hl,ht,_=>by cases hl;exact ht
 | p::ps,v::vs,No,T,tm,hl,ht,iF=>by
  cases hl with
  | cons hv hl =>
   rw[B1] at iF;split at iF
   ·rename_i hp;have h2:=tX (ps:=ps) hl (ht.set (dT hp) hv) iF;exact h2
   ·cases iF
theorem Et{b:Nat}{lp:Loop}{args:List Value}(h:w.heap[b]?=some (.loop lp))(hs:args.length=lp.params.size) :
  (Instr.yield b ⟨args⟩).run P w=.ok (.round b lp.fn ((lp.params.toList.zip args).foldl (λ tmps (p:Tmp × Value)=>tmps.setIfInBounds p.1 p.2) lp.tmps) lp.assign lp.body) w:=by
 unfold Instr.yield;rw[ace,gT h];simp only[acd];rw[if_neg (by simp[hs])];have:(Array.foldl (λ (tmps:Array Value) (x:Tmp × Value)=>tmps.setIfInBounds x.1 x.2) lp.tmps (lp.params.zip ⟨args⟩))=((lp.params.toList.zip args).foldl (λ tmps (p:Tmp × Value)=>tmps.setIfInBounds p.1 p.2) lp.tmps):=by
  rw[<- Array.foldl_toList,Array.toList_zip]
 rw[<- this];rfl
def QS(P:Program)(ν:Nu)(F:HL)(n:Nat)(r r':Option Nat)(a:Act)(w:World)(o:Oper):OpR -> Prop
 | .val v H' n'=>Fr ν n n' -> ∀ (next:Act -> World -> Prop) (Q:Exit -> Act -> World -> Prop),(∀ν' v' w',VRi ν' v v' -> Ext ν ν' n n' -> HR ν' H' F w' -> Below 0 w w' -> next (a.put o.dst v') w') -> o.wpIn (Wr r') 0 P a w next Q
 | .dfr d=>r=none /\ ∀ (next:Act -> World -> Prop) (Q:Exit -> Act -> World -> Prop),(∀d',DR ν d d' -> next ({ a with defers:=d'::a.defers }.put o.dst undef) w) -> o.wpIn (Wr r') 0 P a w next Q
theorem HW{o:Oper}{c:Call}{n:Nat}{x:AN}(ho:o.op=.defer c)(h:B0 P G o T H n=some x):∃d,x=.dfr d:=by
 unfold B0 at h;split at h
 ·cases h
 split at h
 ·cases h
 rw[ho] at h;simp only[sa,mW,ho] at h;split at h
 ·split at h
  ·cases h;exact⟨_,rfl⟩
  ·cases h
 ·cases h
theorem lW{o:Oper}{n:Nat}{x:AN}(g_:∀l,i7 o.op=some l -> sx G l=true -> OK ν T a l)(hH:HR ν H F w)(h:B0 P G o T H n=some x)(hn:∀v H' n',x=.val v H' n' -> Fr ν n n'):QR P ν F n (execOp a.eval o) w x:=by
 unfold B0 at h;split at h
 ·cases h
 rename_i l hl;split at h
 ·cases h
 rename_i hk;have g_:=g_ l hl hk;split at h
 ·rename_i hc;split at h
  ·rename_i v hv;cases h;have Uq:=lU hl (λ c e=>by rw[e] at hc;cases hc);obtain⟨v',r,e⟩:=xW hv Uq g_;exact⟨ν,v',w,_,e w,.inl rfl,r,.refl _ _,hH,Below.refl _ _⟩
  ·cases h
 ·rename_i hc;split at h
  ·rename_i v hv;cases h;have Uq:=lU hl (λ c e=>by rw[e] at hc;cases hc);obtain⟨v',r,e⟩:=yb hH hv Uq g_;exact⟨ν,v',w,_,e,.inl rfl,r,.refl _ _,hH,Below.refl _ _⟩
  ·cases h
 ·rename_i hc;split at h
  ·rename_i b m hv;cases h;have Uq:=lU hl (λ c e=>by rw[e] at hc;cases hc);obtain⟨h1,h2,o',h3,h4⟩:=B5 hv Uq g_;have abf:ν n=none:=hn _ _ _ rfl n (aa0 _) (by omega);exact⟨ν.upd n w.heap.size 0,_,_,_,h4 w,.inl rfl,HN h2 cB,.upd,hH.new abf (h3 0) h1 rfl,⟨rfl,rfl,rfl,by simp,λ k hk=>by omega⟩⟩
  ·cases h
 ·exact KU hH h hl g_ hn
theorem vk{o:Oper}{n n':Nat}{v:Value}(h:B0 P G o T H n=some (.val v H' n')):n <= n':=by
 have key:mW P o T H n=some (.val v H' n') -> n <= n':=by
  intro h;unfold mW qj Hy xI xG xH tI rh i8 at h
  repeat' split at h
  all_goals first
   | (cases h;done)
   | (cases h;omega)
   | (rename_i hx;simp only[Option.some.injEq] at h;subst h;(repeat' (split at hx)) <;> first|(cases hx;done)|(cases hx;omega))
 unfold B0 at h;split at h
 ·cases h
 split at h
 ·cases h
 split at h
 ·split at h
  ·cases h;omega
  ·cases h
 ·split at h
  ·cases h;omega
  ·cases h
 ·split at h
  ·unfold Nr at h;cases h;omega
  ·cases h
 ·exact key h
theorem vn(w_:kB P G ih){o:Oper}{n:Nat}{x:OpR}(hg:Glb ν G)(hr:RR ν r r')(g_:∀l,i7 o.op=some l -> sx G l=true -> OK ν T a l)(hH:HR ν H F w)(h:jV P G ih r o T H n=some x):(∀v H' n',x=.val v H' n' -> n <= n') /\ QS P ν F n r r' a w o x:=by
 have hA:∀f,o.about P w a.eval=some f -> (Wr r').fn f:=λ _ _=>trivial;unfold jV at h;split at h
 ·cases h
 rename_i y hy;have nd:(∀d,y ≠ .dfr d) -> o.semAt (Wr r').round a.eval=execOp a.eval o:=λ hd=>Oper.semAt_eq _ _ _ λ c e=>by
  obtain⟨d,Tt⟩:=HW e hy;exact hd d Tt
 split at h
 ·rename_i v H1 n1;cases h;refine⟨λ v H' n' e=>by cases e;exact vk hy,λ Ut next Q hk=>⟨hA,?_⟩⟩;obtain⟨ν',v',w',q,h1,h2,h3,h4,h5,h6⟩:=lW g_ hH hy (λ v H' n' e=>by cases e;exact Ut);rw[nd (λ d e=>by cases e),h1];rcases h2 with rfl|⟨rfl,rfl⟩
  ·rw[Oper.uponIn_value];exact hk _ _ _ h3 h4 h5 h6
  ·rw[Oper.uponIn_skip];exact hk _ _ _ h3 h4 h5 h6
 ·rename_i f args;split at h
  ·rename_i v H1 n1 hc;cases h;obtain⟨hle,Sq⟩:=w_ _ _ hc;refine⟨λ v H' n' e=>by cases e;exact hle,λ Ut next Q hk=>⟨hA,?_⟩⟩;obtain⟨j_,h1,h2⟩:=lW g_ hH hy (λ v H' n' e=>by cases e);rw[nd (λ d e=>by cases e),h1,Oper.uponIn_enter];refine⟨λ h=>(by cases h),?_⟩;refine jI ((Sq ν F w j_ hg Ut hH h2).mono ?_);rintro e w2 ⟨ν',v',rfl,k1,k2,k3,k4⟩;exact hk _ _ _ k1 k2 k3 k4
  ·cases h
 ·rename_i l args;split at h
  case h_2=>cases h
  rename_i st pend T2 N' ps aZz bo d hb;split at h
  case h_2=>cases h
  rename_i IT iF;split at h
  case h_2=>cases h
  rename_i v H1 n1 hc;cases h;obtain⟨hle,Sq⟩:=w_ _ _ hc;refine⟨λ v H' n' e=>by cases e;exact hle,λ Ut next Q hk=>⟨hA,?_⟩⟩;obtain⟨b,K,j_,hν,h1,h2⟩:=lW g_ hH hy (λ v H' n' e=>by cases e);obtain⟨lp,g1,g2,g3,g4,g5,g6,g7,g8⟩:=hH.loop hb hν;have hlen:j_.length=lp.params.size:=by
   rw[g5,h1.length];rw[ew] at IT;exact ab8 IT
  rw[nd (λ d e=>by cases e),h2,Et g1 hlen,Oper.uponIn_round];refine⟨λ h=>(by cases h),?_⟩;rw[g6,g7,g5];refine(Sq ν F w b K _ lp.fn r' hg hν (tX h1 g4 iF) Ut hH).mono ?_;rintro e w2 ⟨ν',v',rfl,k1,k2,k3,k4⟩;exact hk _ _ _ k1 k2 k3 k4
 ·rename_i d;split at h
  ·cases h;cases hr;refine⟨λ v H' n' e=>(by cases e),rfl,λ next Q hk=>⟨hA,?_⟩⟩;obtain⟨d',h1,h2⟩:=lW g_ hH hy (λ v H' n' e=>by cases e);have:o.semAt (Wr none).round a.eval=execOp a.eval o:=rfl;rw[this,h1,Oper.uponIn_defer];exact hk _ h2
  ·cases h
 ·cases h
theorem j5{ops:Array Oper}{o:Oper}{b:Bool}(hT:TRel ν N T a.tmps)(h:eR ops o T=some b):Region.wanted o (yielded ops a.tmps)=b:=by
 unfold eR at h;unfold Region.wanted;split at h
 ·rename_i hg;rw[hg];cases h;rfl
 ·rename_i j want hg;rw[hg];simp only;split at h
  case h_2=>cases h
  rename_i d hd;have hy:yielded ops a.tmps j=match a.tmps[d]? with|some (.bool b)=>some b|_=>none:=by
   unfold yielded;rw[hd];rfl
  have hv:(d<N /\ ∃v',a.tmps[d]?=some v' /\ VRi ν (cY T d) v') \/ (a.tmps[d]?=none /\ cY T d=undef):=by
   rcases abX d N with h1|h1
   ·exact .inl ⟨h1,hT.get d h1⟩
   ·exact .inr ⟨Array.getElem?_eq_none (by rw[hT.size];exact h1),hT.out d h1⟩
  rw[hy];split at h
  ·rename_i b' hb;cases h;rcases hv with ⟨-,v',e1,e2⟩|⟨e1,e2⟩
   ·rw[hb] at e2;rw[e2.plain_eq rfl] at e1;rw[e1];simp
   ·rw[hb] at e2;cases e2
  ·rename_i vs hb;cases h;rcases hv with ⟨-,v',e1,e2⟩|⟨e1,e2⟩
   ·rw[hb] at e2;rw[e1];cases e2 with
    | atom _ h=>simp[cJ] at h
    | tuple _ _=>rfl
   ·rw[e1];rfl
  ·cases h
theorem SR.op{s:St}(h:SR ν G N s F a w){o:Oper}:∀l,i7 o.op=some l -> sx G l=true -> OK ν s.T a l:=λ l _ hk =>
 (FE.mk h.t h.g).ok hk
theorem nX(w_:kB P G ih){ops:Array Oper}:∀ (rest:List Oper) (s s':St),mB P G ih r N ops rest s=some s' -> s.n <= s'.n /\ ∀ν F a w r' (Q:Exit -> Act -> World -> Prop),RR ν r r' -> SR ν G N s F a w -> Fr ν s.n s'.n ->
  (∀ν' a' w',Ext ν ν' s.n s'.n -> SR ν' G N s' F a' w' -> Below 0 w w' -> Q .normal a' w') -> wpListIn (Wr r') 0 P ops Q rest a w
 | [],s,s',h=>by
  rw[mB] at h;cases h;exact⟨aa0 _,λ ν F a w r' Q hr hs hf hk=>hk ν a w (.refl _ _) hs (Below.refl _ _)⟩
 | o::rest,s,s',h=>by
  rw[mB] at h;split at h
  ·cases h
  ·rename_i hw;split at h
   case h_2=>cases h
   rename_i T1 hp;obtain⟨h1,h2⟩:=nX w_ rest _ _ h;refine⟨h1,λ ν F a w r' Q hr hs hf hk=>?_⟩;rw[wpListIn,if_neg (by rw[j5 hs.t hw];simp)];refine⟨λ _ _=>trivial,?_⟩;exact h2 ν F _ w r' Q hr ⟨hs.g,hs.t.put aau hp,by rw[fK];exact hs.d,hs.h⟩ hf hk
  ·rename_i hw;split at h
   ·cases h
   ·rename_i v H1 n1 n_;split at h
    case h_2=>cases h
    rename_i T1 hp;obtain⟨h1,h2⟩:=nX w_ rest _ _ h;simp only at h1 h2;have hle:s.n <= n1:=by
     clear h2;unfold jV at n_;split at n_
     ·cases n_
     rename_i y hy;split at n_
     ·cases n_;exact vk hy
     ·split at n_
      ·rename_i hc;cases n_;exact(w_ _ _ hc).1
      ·cases n_
     ·split at n_
      case h_2=>cases n_
      split at n_
      case h_2=>cases n_
      split at n_
      ·rename_i hc;cases n_;exact(w_ _ _ hc).1
      ·cases n_
     ·split at n_ <;> cases n_
     ·cases n_
    refine⟨by omega,λ ν F a w r' Q hr hs hf hk=>?_⟩;rw[wpListIn,if_pos (j5 hs.t hw)];obtain⟨-,h4⟩:=vn w_ hs.g hr hs.op hs.h n_;refine h4 (λ i hi1 VT=>hf i hi1 (by omega)) _ _ (λ ν' v' w' k1 k2 k3 k4=>?_);have K_:=k2.sub (λ i hi1 VT=>hf i hi1 (by omega));exact h2 ν' F _ w' r' Q (hr.mono K_) ⟨hs.g.mono K_,(hs.t.mono K_).put k1 hp,by rw[fK];exact hs.d.mono K_,k3⟩ (k2.fr hf h1) (λ ν2 a2 w2 q1 q2 q3=>hk ν2 a2 w2 (k2.trans q1) q2 (k4.trans q3))
   ·rename_i d n_;split at h
    case h_2=>cases h
    rename_i T1 hp;obtain⟨h1,h2⟩:=nX w_ rest _ _ h;refine⟨h1,λ ν F a w r' Q hr hs hf hk=>?_⟩;rw[wpListIn,if_pos (j5 hs.t hw)];obtain⟨-,h3,h4⟩:=vn w_ hs.g hr hs.op hs.h n_;refine h4 _ _ (λ d' Tt=>?_);exact h2 ν F _ w r' Q hr ⟨hs.g,TRel.put (a:={ a with defers:=d'::a.defers }) hs.t aau hp,by rw[fK];exact .cons Tt hs.d,hs.h⟩ hf hk
end ops
end Go.Proofs.YtdppjkjbghbnjaaGreatDoor
