import Derived.Test.YtjokannbjmndfaaGreatDoorZ25
set_option linter.all false
set_option maxHeartbeats 4000000
set_option maxRecDepth 100000
namespace Go.Proofs.YtjokannbjmndfaaGreatDoor
open IntKind
open Go.RowKit
variable {K cap k m n n' r:Nat} {ad:Addr} {e' el t ty u:TypeId} {inf:TypeInfo} {x' y y':Value} {ν:Nu}
section nw
variable {ν ν':Nu} {P:Program} {G N:Nat} {T T':Tr Value} {a:Act} {H H':AH} {F:HL} {w w':World}
theorem fd(o:Obj)(w:World):(newObj o).run P w=.ok w.heap.size { w with heap:=w.heap.push o }:=rfl
def Mk.ok:Mk->Prop
 | .sl _ c=>c<l9
 |_=>True
theorem Jo{m:Mk}(h:m.ok)(hν:ν n=some (r,K)):VRi ν (m.val n) (m.val r):=by
 cases m with
 |ptr=>exact .ptr 0 hν
 |sl l c=>exact .slice 0 l hν ⟨λ _=>rfl,λ e=>by unfold Mk.ok at h;omega⟩
 |mp=>exact .map hν
theorem Jp(z:List Value)(n:Nat):(mE z n).length=n*z.length:=by
 induction n with
 |zero=>simp[mE]
 |succ n ih=>simp[mE,ih,ade];omega
theorem zq(z:List Value):∀ (n i:Nat),i<n*z.length->(mE z n)[i]?=z[i%z.length]?
 |0,i,h=>by omega
 |n+1,i,h=>by
  rw[mE];rcases aa9 i z.length with h1|h1
  ·rw[aa2 h1,afP h1]
  ·rw[aa3 h1,zq z n _ (by rw[ade] at h;omega),Nat.mod_eq_sub_mod h1]
theorem uX(z:List Value)(n:Nat)(hz:0<z.length):(Array.range (n*z.length)).map (λ i=>(⟨z⟩:Array Value)[i%(⟨z⟩:Array Value).size]!)=⟨mE z n⟩:=by
 apply Array.ext';apply acg;intro i;rcases aa9 i (n*z.length) with h|h
 ·have h2:i%z.length<z.length:=Nat.mod_lt _ hz;simp only[adu,afA,abo,List.getElem?_range h,UV];rw[zq z n i h];simp[h2]
 ·rw[abQ (by simp;exact h),abQ (by rw[Jp];exact h)]
theorem sE{z:List Value}(h:LR ν z z):∀n,LR ν (mE z n) (mE z n)
 |0=>.nil
 |n+1=>h.append (sE h n)
theorem md(h:uL P t=some el):P.underlying t=some (.slice el):=by
 unfold uL at h;split at h
 ·rename_i e;cases h;exact e
 ·cases h
theorem Dj{o:Oper}{b:AB}{m:Mk}(h:tM P o T=some (b,m)){l:List Operand}(hl:bV o.op=some l)(iF:OK ν T a l) :
  Jm b=true/\m.ok/\∃o',(∀K,OR ν K b o')/\∀w,(execOp a.eval o).run P w=.ok (.value (m.val w.heap.size)) { w with heap:=w.heap.push o' }:=by
 unfold tM at h;split at h
 ·rename_i t ho;split at h
  ·rename_i z hz;cases h;obtain⟨zv,h1,h2,h3,-⟩:=jZ (ν:=ν) hz;refine⟨kC,trivial,_,λ K=>OR.cellsB h3,λ w=>?_⟩;simp[execOp,ho,Instr.alloc,abg,h1,newVar,newRow,h2,fd,b7,Result.andThen,Mk.val]
  ·cases h
 ·rename_i t x ho;rw[ho] at hl;simp only[bV,de] at hl;subst hl;cases h;refine⟨kC,trivial,_,λ K=>OR.cellsB (ky (iF x (by simp))),λ w=>?_⟩;simp[execOp,ho,Instr.box,abg,newVar,newRow,fd,b7,Result.andThen,Mk.val,gx]
 ·rename_i t len parts ho;rw[ho] at hl;simp only[bV,de] at hl;subst hl;split at h
  case h_2=>cases h
  rename_i el he;split at h
  case h_2=>cases h
  rename_i k z hk hz;split at h
  case h_2=>cases h
  rename_i g1 g2 g3;split at h
  case h_2=>cases h
  rename_i l hf;cases h;have hu:=md he;have Xa:z.length=k:=by rw[dU] at g2;exact abd g2
  have hk0:=dF g3;have g1':=bK g1;obtain⟨zv,h1,h2,h3,-⟩:=jZ (ν:=ν) hz;obtain⟨l',e1,e2⟩:=pE (sy iF) (sE h3 len) hf;refine⟨kC,?_,_,λ K=>OR.cellsB e2,λ w=>?_⟩
  ·have:len<=len*k:=Nat.le_mul_of_pos_right _ hk0;show len<l9;unfold l9;omega
  have h6:=kB e1;have h7:(parts.map λ (p:Nat×Operand)=>(p.1,a.eval p.2)).toList=parts.toList.map λ p=>(p.1,a.eval p.2):=by simp
  have h8:=uX z len (by omega);rw[Xa] at h8;have hs:=dX hk w;unfold Go.execOp;rw[ho];simp only;rw[abg];have:(Instr.buildSlice t len (parts.map λ (p:Nat×Operand)=>(p.1,a.eval p.2))).run P w=.ok (.slice (some ⟨w.heap.size,0,none⟩) len len) { w with heap:=w.heap.push (.cells ⟨l'⟩ el (0,0)) }:=by
   unfold Instr.buildSlice;rw[abg,aE hu];simp only[abf];rw[abg,hs];simp only[abf];rw[if_neg (by simp;omega)]
   by_cases XA:len*k=0
   ·have hlen:len=0:=by
     rcases acq len with e|e
     ·exact e
     ·have:=Nat.mul_pos e hk0;omega
    subst hlen;simp only[aeL,if_true];rw[abg];simp only[b7,abf];have h9:(Array.range 0).map (λ i=>(#[]:Array Value)[i%(#[]:Array Value).size]!)=⟨mE z 0⟩:=by simp[mE]
    rw[h9,h7,h6];simp only[abg,newRow,fd,abf,b7]
   ·rw[if_neg XA];rw[abg,h1];simp only[abf];rw[abg];simp only[b7,abf,h2];rw[h8,h7,h6];simp only[abg,newRow,fd,abf,b7]
  rw[this];rfl
 ·rename_i t lo co ho;rw[ho] at hl;simp only[bV,de] at hl;subst hl;split at h
  case h_2=>cases h
  rename_i el he;split at h
  case h_2=>cases h
  rename_i inf hi;split at h
  case h_2=>cases h
  rename_i z n m' hz hn hm;split at h
  case h_2=>cases h
  rename_i g1 g2 g3 g4 g5 g6;cases h;have hu:=md he;have Xa:z.length=inf.size:=by rw[dU] at g4;exact abd g4
  have hk0:=dF g5;have g1':=bK g1;have g2':=bK g2;have g3':=dF g3;have g6':=dF g6;obtain⟨zv,h1,h2,h3,-⟩:=jZ (ν:=ν) hz;obtain⟨kn,en⟩:=nr hn (iF lo (by simp));obtain⟨km,em⟩:=nr hm (iF co (by simp));refine⟨kC,g3',_,λ K=>OR.cellsB (sE h3 m'),λ w=>?_⟩;have h8:=uX z m' (by omega);rw[Xa] at h8;unfold l9 at g3';have w1:i64.wrap (n:Int)=(n:Int):=IntWalk.i64_in _ (by omega);have w2:i64.wrap (m':Int)=(m':Int):=IntWalk.i64_in _ (by omega);have L_:eZ P el=some inf.size:=by unfold eZ;rw[hi];rfl
  have hs:=dX L_;have hti:=λ W=>cL hi W;have q1:¬ ((281474976710656:Int)<(inf.bytes:Int)*(m':Int)):=by
   have:(inf.bytes:Int)*(m':Int)=((inf.bytes*m':Nat):Int):=by simp
   omega
  have q2:¬ ((m':Int)<0):=by omega
  have q3:¬ ((n:Int)<0):=by omega
  have q4:¬ ((m':Int)<(n:Int)):=by omega
  have DO:∀x W,(askRoom x).run P W=.ok () W:=λ x W=>by unfold askRoom;split <;> rfl
  unfold Go.execOp;rw[ho];simp only;rw[abg];have:(Instr.makeSlice t (a.eval lo) (a.eval co)).run P w=.ok (.slice (some ⟨w.heap.size,0,none⟩) n m') { w with heap:=w.heap.push (.cells ⟨mE z m'⟩ el (0,0)) }:=by
   unfold Instr.makeSlice;rw[abg,aE hu];simp only[abf];rw[en,em];simp only[asInt,asIntOf,abg,b7,abf,hti,w1,w2];rw[if_neg (by simp[q1,q2,q3,q4])];simp only[abg,DO,abf,hs,aeu]
   by_cases XA:m'*inf.size=0
   ·have hlen:m'=0:=by
     rcases acq m' with e|e
     ·exact e
     ·have:=Nat.mul_pos e hk0;omega
    subst hlen;simp only[aeL,if_true];rw[abg];simp only[b7,abf];have h9:(Array.range 0).map (λ i=>(#[]:Array Value)[i%(#[]:Array Value).size]!)=⟨mE z 0⟩:=by simp[mE]
    rw[h9];simp only[abg,newRow,fd,abf,b7]
   ·rw[if_neg XA];simp only[abg,h1,b7,abf,h2];rw[h8];simp only[abg,newRow,fd,abf,b7]
  rw[this];rfl
 ·rename_i t r ho;have WY:∀W:World,(newObj (.map #[] 0)).run P W=.ok W.heap.size { W with heap:=W.heap.push (.map #[] 0) }:=λ W=>rfl;split at h
  ·cases h;refine⟨rfl,trivial,.map #[] 0,λ K=>⟨rfl,.nil⟩,λ w=>?_⟩;simp[execOp,ho,Instr.makeMap,abg,WY,b7,Result.andThen,Mk.val]
  ·rename_i r;rw[ho] at hl;simp only[bV,de] at hl;subst hl;split at h
   ·rename_i kt et k n hu he;cases h;have hr:=iF r (by simp);rw[he] at hr;have er:=hr.plain_eq rfl;refine⟨rfl,trivial,.map #[] 0,λ K=>⟨rfl,.nil⟩,λ w=>?_⟩;simp[execOp,ho,Instr.makeMap,abg,aE hu,er,asInt,asIntOf,WY,b7,Result.andThen,Mk.val]
   ·cases h
 ·cases h
theorem Jq{d:TypeDesc}{k k':Value}(h:lF k k'=some true)(hk:wC d k=true):k'=k/\Instr.sameBits 10000 k' k=true:=by
 unfold lF at h;split at h
 ·split at h
  ·rename_i e;have e':=abh e;simp only[de,beq_iff_eq] at h;subst e';subst h;exact⟨rfl,by simp[Instr.sameBits]⟩
  ·cases h
 ·simp only[de] at h;have:=GT.1 h;subst this;exact⟨rfl,by simp[Instr.sameBits];exact LA⟩
 ·simp only[de,beq_iff_eq] at h;subst h;exact⟨rfl,by simp[Instr.sameBits]⟩
 ·cases h
theorem B5{d:TypeDesc}{k v v':Value}(hk:wC d k=true)(hv:VRi ν v v'){es:List (Value×Value×Nat)}{UR:List MapEntry}(h:ER ν es UR):∀ {r:List (Value×Value×Nat)} {cl cl':Nat} (i:Nat),sd k v cl es=some (r,cl')->
  (Instr.findNow d k UR i=some none/\cl'=cl+1/\ER ν r (UR++[⟨k,v',cl⟩]))\/(∃j u,Instr.findNow d k UR i=some (some (i+j,u))/\cl'=cl/\(UR[j]?).map (·.key)=some k/\Instr.sameBits 10000 k k=true/\ER ν r (UR.modify j λ e=>{ e with key:=k,val:=v' })):=by
 induction h with
 |nil=>intro r cl cl' i h;rw[sd] at h;cases h;exact .inl ⟨rfl,rfl,.cons k cl hv .nil⟩
 | @cons u0 u0' l0 l0' k' b hv0 h0 ih=>
  intro r cl cl' i h;rw[sd] at h;split at h
  ·rename_i e;cases h;obtain⟨e1,e2⟩:=Jq e hk;subst e1;refine .inr ⟨0,u0',?_,rfl,rfl,e2,.cons k' b hv h0⟩;rw[Instr.findNow];simp only[gy e hk];rfl
  ·rename_i e;split at h
   ·rename_i l c hl;cases h;rcases ih (i+1) hl with ⟨h1,h2,h3⟩|⟨j,u,h1,h2,h3,h4,h5⟩
    ·exact .inl ⟨by rw[Instr.findNow];simp only[gy e hk];exact h1,h2,.cons k' b hv0 h3⟩
    ·refine .inr ⟨j+1,u,?_,h2,by simpa using h3,h4,by simpa using ER.cons k' b hv0 h5⟩;rw[Instr.findNow];simp only[gy e hk];rw[h1];congr 3;omega
   ·cases h
  ·cases h
theorem Dk{m m' k v v':Value}(hH:HR ν H F w)(hm:VRi ν m m')(hv:VRi ν v v')(h:Ms P t H m k v=some H'):pl k=true/\∃w',(Instr.mapUpdate t m' k v').run P w=.ok () w'/\HR ν H' F w'/\Below 0 w w':=by
 unfold Ms at h;split at h
 case h_2=>cases h
 rename_i kt et hu;split at h
 case h_2=>cases h
 rename_i r hk;split at h
 case h_2=>cases h
 rename_i es cl hb;split at h
 case h_2=>cases h
 rename_i es2 cl2 hp;cases h;obtain⟨d,hd,Zp⟩:=B2 hk;refine⟨(sA Zp).1,?_⟩;cases hm with
 |atom _ h=>simp[cq] at h
 | @map _ b K hν=>
 obtain⟨UR,hw,hE⟩:=hH.map hb hν;have hg:(getObj b).run P w=.ok (.map UR cl) w:=gh hw;have hf:∀r,Instr.findNow d k UR.toList 0=some r->(Instr.findKey kt k UR.toList).run P w=.ok r w:=λ r hr=>by
  unfold Instr.findKey;rw[abg,aE hd];simp only[abf,hr];rfl
 have iN:=aW hw;have n_:∀o:Obj,(∃es c,o=.map es c)->(setObj b o).run P w=.ok () { w with heap:=w.heap.setIfInBounds b o }:=λ o ho=>by
  obtain⟨e1,c1,rfl⟩:=ho;unfold setObj;rw[acW];simp only[hw];rfl
 have Yn:∀ (o:Obj),OR ν K (.map es2 cl2) o->HR ν (cJ H r (some (.map es2 cl2))) F { w with heap:=w.heap.setIfInBounds b o }:=λ o ho=>by
  refine hH.upd (r:=b) (K:=K) hb rfl rfl hν (o':=o) ?_ ho (λ k hk=>?_)
  ·show (w.heap.setIfInBounds b o)[b]?=_;rw[lv iN]
  ·show (w.heap.setIfInBounds b o)[k]?=_;rw[vo (Ne.symm hk)]
 have hB:∀o:Obj,Below 0 w { w with heap:=w.heap.setIfInBounds b o }:=λ o=>⟨rfl,rfl,rfl,by simp,λ k hk=>by omega⟩;rcases B5 Zp hv hE 0 hp with ⟨h1,h2,h3⟩|⟨j,u,h1,h2,h3,h4,h5⟩
 ·refine⟨_,?_,Yn (.map (UR.push ⟨k,v',cl⟩) (cl+1)) ⟨h2.symm,by simpa using h3⟩,hB _⟩;unfold Instr.mapUpdate;rw[abg,aE hu];simp only[abf,abg,hg,fZ hk,hf _ h1];exact n_ _ ⟨_,_,rfl⟩
 ·rw[abP] at h1;refine⟨_,?_,Yn (.map (UR.modify j λ e=>{ e with key:=k,val:=v' }) cl) ⟨h2.symm,by rw[Array.toList_modify];exact h5⟩,hB _⟩;unfold Instr.mapUpdate;rw[abg,aE hu];simp only[abf,abg,hg,fZ hk,hf _ h1];have h6:(UR[j]?).map (·.key)=some k:=by simpa using h3
  rw[h6];have h7:(Instr.keyThatStays k k).run P w=.ok k w:=by
   unfold Instr.keyThatStays;rw[if_pos h4];rfl
  simp only[adz,h7,abf];exact n_ _ ⟨_,_,rfl⟩
end nw
structure Ext(ν ν':Nu)(n n':Nat):Prop where
 le:n<=n'
 out:∀h,(h<n\/n'<=h)->ν' h=ν h
def Fr(ν:Nu)(n n':Nat):Prop:=∀h,n<=h->h<n'->ν h=none
theorem Ext.sub{ν':Nu}(h:Ext ν ν' n n')(hf:Fr ν n n'):ν.Le ν':=λ k x hx=>by
 rw[h.out k];exact hx;rcases aa9 k n with h1|h1
 ·exact .inl h1
 ·rcases aa9 k n' with h2|h2
  ·rw[hf k h1 h2] at hx;cases hx
  ·exact .inr h2
theorem Ext.refl(ν:Nu)(n:Nat):Ext ν ν n n:=⟨aaI _,λ _ _=>rfl⟩
theorem Ext.trans{a b c:Nu}(h:Ext a b n m)(h':Ext b c m k):Ext a c n k :=
 ⟨aeW h.le h'.le,λ i hi=>by
  have h1:=h.le;have h2:=h'.le;rw[h'.out i (by omega),h.out i (by omega)]⟩
theorem Ext.fr{a b:Nu}(h:Ext a b n m)(hf:Fr a n k)(hm:m<=k):Fr b m k:=λ i h1 h2=>by
 have:=h.le;rw[h.out i (.inr h1)];exact hf i (by omega) h2
theorem Ext.upd:Ext ν (ν.upd n r K) n (n+1):=⟨by omega,λ h hh=>eE (by omega)⟩
section ap
variable {ν ν':Nu} {P:Program} {G N:Nat} {T T':Tr Value} {a:Act} {H H':AH} {F:HL} {w w':World}
structure Effi(P:Program)(ν:Nu)(F:HL)(n:Nat)(s:Sem Value)(w:World)(v:Value)(H':AH)(n':Nat):Prop where
 h:∃ν' v' w',s.run P w=.ok v' w'/\VRi ν' v v'/\Ext ν ν' n n'/\HR ν' H' F w'/\Below 0 w w'
theorem mf{new:List Value}(hH:HR ν H F w)(hu:P.underlying u=some (.slice e'))(hy:VRi ν y y')(h:qF H k y=some new) :
  ∃Ua,LR ν new Ua/\Ua.length=dR y*k/\(jV new=true->Src P k u y' (dR y) Ua w)/\(Builtin.firstCells k (dR y) y').run P w.drew=.ok Ua.toArray w.drew/\(Builtin.firstCells k (dR y) y').run P w=.ok Ua.toArray w:=by
 unfold qF at h;split at h
 ·split at h
  ·cases h;rename_i c;cases hy;refine⟨[],.nil,by simp[dR],λ _=>Src.ofNil w hu _,?_,?_⟩
   ·exact run_firstCells_none _ _ _ _ _
   ·exact run_firstCells_none _ _ _ _ _
  ·cases h
 ·rename_i ad n c;cases hy with
  |atom _ h=>simp[cq] at h
  | @slice hd b K _ c' o _ hν hcap=>
  split at h
  case h_2=>cases h
  rename_i nn tr ty ww ro hs hb;split at h
  case h_2=>cases h
  rename_i hle;cases h;simp only at hb hle;obtain⟨cc,ty',fz,hw,hc⟩:=hH.cells hb hν;have ZW:=bK hle;have hl:=j0 hc.le hc.get (n*k) o ZW;have XU:=hc.le;have hlen:((cc.toList.drop o).take (n*k)).length=n*k:=by simp;omega
  have TZ:∀ (W:World),W.heap=w.heap->∀ (j:Nat) (u:Value),((cc.toList.drop o).take (n*k))[j]?=some u->W.cell? ((⟨b,o,none⟩:Addr).add j)=some u:=λ W hW j u hj=>by
   rw[nq,ma (by rw[hW];exact hw)];have W0:=(bt.1 hj).1;rw[hlen] at W0;rw[acZ W0,abi] at hj;simpa using hj
  refine⟨_,hl,hlen,λ hf=>Src.ofSlice w hu _ _ _ _ hlen (TZ w rfl) (uW hl hf),?_,?_⟩
  ·exact run_firstCells_some _ _ _ _ _ _ _ hlen (TZ _ rfl)
  ·exact run_firstCells_some _ _ _ _ _ _ _ hlen (TZ _ rfl)
 ·cases h
theorem HR.del'(hH:HR ν H F w){h:Nat}{b0:AB}(hb:bS H h=some b0)(hw0:Jm b0=true)(hν:ν h=some (r,K))(hs:∀k,k≠r->w'.heap[k]?=w.heap[k]?):HR ν (cJ H h none) F w':=by
 have AT:∀k b,bS (cJ H h none) k=some b->bS H k=some b/\k≠h:=λ k b hk=>by
  rw[dt] at hk;split at hk
  ·cases hk
  ·rename_i e;exact⟨hk,Ne.symm e⟩
 refine⟨λ k b hk=>?_,λ k1 k2 b1 b2 q K1 K2 h1 h2 h3 h4=>hH.inj _ _ _ _ _ _ _ (AT _ _ h1).1 (AT _ _ h2).1 h3 h4,λ x hx=>?_,λ k b q K hk=>hH.apt k b q K (AT k b hk).1⟩
 ·obtain⟨h1,h2⟩:=AT k b hk;obtain⟨q,K',o,g1,g2,g3⟩:=hH.blk k b h1;refine⟨q,K',o,g1,?_,g3⟩;rw[hs q,g2];intro e;subst e;exact h2 (hH.inj _ _ _ _ _ _ _ h1 hb g1 hν)
 ·rw[hs _ (hH.apt _ _ _ _ hb hν x hx)];exact hH.frm x hx
theorem Px{XM AT:Nat}(h:AT<XM):Builtin.nextslicecap XM AT<=2*XM+192:=by
 unfold Builtin.nextslicecap;split
 ·omega
 ·split
  ·omega
  ·have:Builtin.growBy XM 4 AT<=XM+XM/4+192:=by
    simp only[Builtin.growBy]
    repeat' split
    all_goals omega
   omega
theorem zr{t u ty el e':TypeId}{inf:TypeInfo}{n len cap c':Nat}{base D_:Option Addr}{y y':Value}{new:List Value}{v:Value}{n':Nat}(hH:HR ν H F w)(ht:P.underlying t=some (.slice el))(hu:P.underlying u=some (.slice e'))(hi:P.info? el=some inf)
  (hx:VRi ν (.slice base len cap) (.slice D_ len c')) (hy:VRi ν y y') (Uv:qF H inf.size y=some new) (UY:jV new=true) (DO:len+dR y<=c') (h:se H n inf.size len (dR y) cap base new=some (.val v H' n')) :
  Effi P ν F n (Builtin.append_ #[t,u] ty #[.slice D_ len c',y']) w v H' n':=by
 obtain⟨Ua,hl,hlen,hS,-,-⟩:=mf hH hu hy Uv;have hS2:=hS UY;unfold se at h;split at h
 ·rename_i ad;split at h
  ·rename_i Xw;split at h
   ·rename_i H2 hp;cases h;cases hx with
    |atom _ h=>simp[cq] at h
    | @slice hd b K _ _ o _ hν hcap=>
    obtain⟨q1,q2,q3,q4,q5⟩:=pH hH hν hl hp;have iO:=run_append_room_src (P:=P) w t u ty el inf ht hi b o len c' y' (dR y) Ua hS2 DO q1 q2;exact⟨ν,_,_,iO,.slice _ _ hν hcap,.refl _ _,q4,q5⟩
   ·cases h
  ·cases h
 ·split at h
  ·cases h;cases hx with
   |atom _ _=>
   cases hl;have hS3:=hS UY;have hz:(Builtin.firstCells inf.size (dR y) y').run P w=.ok #[] w:=hS3.cells;refine⟨ν,.slice none (len+dR y) cap,w,?_,.atom _ rfl,.refl _ _,hH,Below.refl _ _⟩;rcases hS3.kind with ⟨e',hk⟩|hk <;> simp[Builtin.append_,run_underlying ht,run_underlying hk,sizeOf,typeInfo,hi,hS3.len,hz,DO]
  ·cases h
theorem uY{z:List Value}{len c':Nat}{base D_:Option Addr}{AT new:List Value}{v:Value}(hH:HR ν H F w)(ht:P.underlying t=some (.slice el))(hu:P.underlying u=some (.slice e'))(hi:P.info? el=some inf)(hz:kW P el=some z)(Xa:z.length=inf.size)(L_:0<inf.size)
  (hx:VRi ν (.slice base len cap) (.slice D_ len c')) (hy:VRi ν y y') (Uv:qF H inf.size y=some new) (UY:jV new=true) (hold:qF H inf.size (.slice base len cap)=some AT) (DO:c'<len+dR y) (Xo:len+dR y<1000000) (Zt:inf.bytes<1000001) (hn:ν n=none)
  {Hd:AH} (hd:∀ν' w',HR ν' H F w'->HR ν' Hd F w') (h:ja Hd n inf.size len (dR y) el AT new=.val v H' n') :
  Effi P ν F n (Builtin.append_ #[t,u] ty #[.slice D_ len c',y']) w v H' n':=by
 obtain⟨Ua,hl,hlen,hS,-,-⟩:=mf hH hu hy Uv;obtain⟨W9,Uy,V3,-,V1,-⟩:=mf hH ht hx hold;have hS:=hS UY;obtain⟨zv,g1,g2,g3,i,g4,g5⟩:=jZ (ν:=ν) hz;rw[hi] at g4;cases g4;have VV:Builtin.nextslicecap (len+dR y) c'*inf.bytes<=281474976710656:=by
  have h1:=Px DO;have h2:Builtin.nextslicecap (len+dR y) c'*inf.bytes<=2000192*1000000:=afI (by omega) (by omega);omega
 have iO:=run_append_grow_src (P:=P) w t u ty el inf zv ht hi g5 D_ len c' W9 V1 y' (dR y) Ua hS DO (by omega) VV;have Wq:=grownCap_ge w (len+dR y) c' el;generalize grownCap w (len+dR y) c' el=K at *;unfold ja at h;cases h;refine⟨ν.upd n w.heap.size K,_,_,iO,?_,.upd,?_,⟨rfl,rfl,rfl,by simp,λ k hk=>by omega⟩⟩
 ·exact .slice _ _ b6 ⟨λ e=>by unfold l9 at e;omega,λ e=>by omega⟩
 ·have hd1:HR ν Hd F w:=hd _ _ hH;refine hd1.new hn (K:=K) ?_ (by rw[j5];rfl) (o:=.cells ((W9++Ua).toArray++Builtin.zeroCells zv.cells (K-(len+dR y))) el) rfl;rw[j5];have XV:=Oj (ty:=el) (ww:=inf.size) (K:=K) (rest:=(Builtin.zeroCells zv.cells (K-(len+dR y))).toList) (Uy.append hl) (λ _=>by
   simp only[aaK,hlen,V3,Builtin.zeroCells,adu,acD,afA,afK,g2];have YC:dR (Value.slice base len cap)=len:=rfl;rw[YC];have:(⟨z⟩:Array Value).size=inf.size:=by simpa using Xa
   rw[this,<- acE,<- acE];congr 1;omega)
  have e:((W9++Ua).toArray++Builtin.zeroCells zv.cells (K-(len+dR y)))=⟨(W9++Ua)++(Builtin.zeroCells zv.cells (K-(len+dR y))).toList⟩:=by apply Array.ext';simp
  rw[e];exact XV
end ap
section ap
variable {ν ν':Nu} {P:Program} {G N:Nat} {T T':Tr Value} {a:Act} {H H':AH} {F:HL} {w w':World}
theorem kX{a b:Nat}(h:Nat.blt a b=false):b<=a:=by
 rcases aa9 a b with e|e
 ·have:Nat.blt a b=true:=ado e;rw[this] at h;cases h
 ·exact e
theorem kY{a b:Nat}(h:Nat.ble a b=false):b<a:=by
 rcases aa9 b a with e|e
 ·exact e
 ·have:Nat.ble a b=true:=ado e;rw[this] at h;cases h
theorem My{z:List Value}{len:Nat}{new:List Value}{v:Value}(hH:HR ν H F w)(ht:P.underlying t=some (.slice el))(hu:P.underlying u=some (.slice e'))(hi:P.info? el=some inf)(hz:kW P el=some z)(Xa:z.length=inf.size)(L_:0<inf.size)
  (hx:VRi ν (.slice (some ad) len cap) x') (hy:VRi ν y y') (Uv:qF H inf.size y=some new) (UY:jV new=true) (Xo:len+dR y<1000000) (Zt:inf.bytes<1000001) (hcap:l9<=cap) (hn:Fr ν n n') (h:I8 H n inf.size len (dR y) cap ad el new=some (.val v H' n')) :
  Effi P ν F n (Builtin.append_ #[t,u] ty #[x',y']) w v H' n':=by
 cases hx with
 |atom _ h=>simp[cq] at h
 | @slice hd b K _ c' o _ hν hc=>
 unfold I8 at h;split at h
 case h_2=>cases h
 rename_i nn ww tyy Xw ho Z4 Wy;simp only at ho;subst ho;have Vy:cap=l9:=abd Z4;have Vl:=hc.2 hcap;rw[Vy,aeM,acK] at Vl;unfold SB at Wy;split at Wy
 case h_2=>cases Wy
 rename_i nn' tr ty' ww' hb;simp only[de,df] at Wy;obtain⟨e1,e2,e3⟩:=Wy;subst e1;subst e2;subst e3;simp only at hb;obtain⟨c,ty2,fz,hw,XV⟩:=hH.cells hb hν;split at h
 case h_2=>cases h
 rename_i hwk hlk hty;have ag8:ty'=el:=abd hty;have ag4:ww'=inf.size:=abd hwk;have anS:=bK hlk;have Yp:=XV.gr (by omega);rw[ag4] at Yp;have hle:=XV.le;split at h
 ·rename_i Vb;have ah1:=bK Vb;have:(len+dR y)*inf.size<=K*inf.size:=by omega
  have DO:=afw this L_;exact zr hH ht hu hi (.slice 0 len hν hc) hy Uv UY (by omega) h
 ·rename_i Vb;have ah1:=kY Vb;split at h
  case h_2=>cases h
  rename_i AT hold;have RW:ja (cJ H hd none) n inf.size len (dR y) el AT new=.val v H' n':=by simpa using h
  have ZT:ν n=none:=by
   unfold ja at RW;cases RW;exact hn n (aaI _) (by omega)
  by_cases DO:len+dR y<=c'
  ·obtain⟨Ua,hl,hlen,hS,-,-⟩:=mf hH hu hy Uv;obtain⟨W9,Uy,V3,-,-,V1⟩:=mf hH ht (.slice 0 len hν hc) hold;have hS:=hS UY;have VV:(len+dR y)*inf.size<=c.size:=by
    rw[Yp];exact acJ _ (by omega)
   have TZ:∀j,j<Ua.length->(w.cell? ⟨b,0+len*inf.size+j,none⟩).isSome=true:=λ j hj=>by
    rw[ma hw,sv (by rw[hlen] at hj;rw[acE] at VV;omega)];rfl
   have YK:∀j,j<Ua.length->w.frozen? ⟨b,0+len*inf.size+j,none⟩=false:=λ j hj=>by
    obtain⟨lo,hi⟩:=fz;have:=XV.fz;cases this;simp[World.frozen?,hw]
   have iO:=run_append_room_src (P:=P) w t u ty el inf ht hi b 0 len c' y' (dR y) Ua hS DO TZ YK;obtain⟨c2,e1,e2,e3⟩:=lI b Ua (0+len*inf.size) w hw;unfold ja at RW;cases RW;have aiq:HR ν (cJ H hd none) F (w.setCells b (0+len*inf.size) Ua):=hH.del' hb rfl hν (λ k hk=>ia b _ _ _ _ hk);refine⟨ν.upd n b K,_,_,iO,?_,.upd,?_,ie _ _ _ _⟩
   ·exact .slice _ _ b6 ⟨λ e=>by unfold l9 at e;omega,λ e=>by omega⟩
   ·refine aiq.add ZT e1 ?_ (by rw[j5];rfl) (λ x hx=>hH.apt _ _ _ _ hb hν x hx) (λ k b' K' hk e=>?_)
    ·rw[j5];have aeg:∀i,i<len*inf.size->c[i]?=W9[i]?:=λ i hi=>by
      have YC:dR (Value.slice (some ⟨hd,0,none⟩) len cap)=len:=rfl;rw[YC] at V3 V1;have YR:((c.toList.drop 0).take (len*inf.size)).length=len*inf.size:=by simp;omega
      have h2:=run_firstCells_some (P:=P) w inf.size len ⟨b,0,none⟩ len c' ((c.toList.drop 0).take (len*inf.size)) YR (λ j u hj=>by
       rw[nq,ma hw];have W0:=(bt.1 hj).1;rw[YR] at W0;rw[acZ W0,abi] at hj;simpa using hj)
      rw[h2] at V1;simp only[Result.ok.injEq,and_true] at V1;have h3:W9=(c.toList.drop 0).take (len*inf.size):=by
       have:=congrArg Array.toList V1;simpa using this.symm
      rw[h3,acZ hi];simp
     have YC:dR (Value.slice (some ⟨hd,0,none⟩) len cap)=len:=rfl;rw[YC] at V3;have Zo:AT.length=len*inf.size:=by rw[<- V3,Uy.length]
     have hln:new.length=dR y*inf.size:=by rw[<- hlen,hl.length]
     refine⟨XV.ty.trans ag8,?_,XV.fz,λ i hi=>?_,λ _=>by rw[e2,Yp]⟩
     ·rw[e2,aaK,Zo,hln,<- acE];exact VV
     ·have hi2:i<(len+dR y)*inf.size:=by rw[aaK,Zo,hln,<- acE] at hi;exact hi
      obtain⟨v',g1,g2⟩:=(Uy.append hl).get (aa1 hi);refine⟨v',?_,by rw[lH hi];exact g2⟩;rw[e3 i (by omega),<- g1]
      by_cases h1:i<len*inf.size
      ·rw[dif_neg (by omega),aeg i h1,aa2 (by omega)]
      ·rw[dif_pos ⟨by omega,by rw[hlen];rw[acE] at hi2;omega⟩,aa3 (by omega),V3];rw[<- aa1];congr 1;omega
    ·rw[dt] at hk;split at hk
     ·cases hk
     ·rename_i u_;exact u_ (hH.inj _ _ _ _ _ _ _ hb hk hν e)
  ·exact uY hH ht hu hi hz Xa L_ (.slice 0 len hν hc) hy Uv UY hold (by omega) Xo Zt ZT (λ ν' w' h'=>h'.del hd) RW
def HEq(H H':AH):Prop:=∀h,bS H' h=bS H h\/∃n t t' ty w ro,bS H h=some (.cells n t ty w ro)/\bS H' h=some (.cells n t' ty w ro)/\∀i,i<n->cK t' i=cK t i
theorem HR.heq(h:HR ν H F w)(e:HEq H H'):HR ν H' F w:=by
 have back:∀k b,bS H' k=some b->∃b0,bS H k=some b0/\∀K o,OR ν K b0 o->OR ν K b o:=λ k b hk=>by
  rcases e k with e1|⟨n,t,t',ty,wd,ro,e1,e2,e3⟩
  ·rw[e1] at hk;exact⟨b,hk,λ _ _ h=>h⟩
  ·rw[e2] at hk;cases hk;refine⟨_,e1,λ K o ho=>?_⟩;cases o with
   |cells c ty' fz=>
    have ho:CR ν K n t ty wd c ty' fz:=ho;exact(⟨ho.ty,ho.le,ho.fz,λ i hi=>by obtain⟨v',g1,g2⟩:=ho.get i hi;exact⟨v',g1,by rw[e3 i hi];exact g2⟩,ho.gr⟩:CR ν K n t' ty wd c ty' fz)
   |_=>exact ho
 refine⟨λ k b hk=>?_,λ h₁ h₂ b₁ b₂ r K₁ K₂ g1 g2=>?_,h.frm,λ k b r K hk=>?_⟩
 ·obtain⟨b0,g1,g2⟩:=back k b hk;obtain⟨r,K,o,g3,g4,g5⟩:=h.blk k b0 g1;exact⟨r,K,o,g3,g4,g2 K o g5⟩
 ·obtain⟨c1,d1,-⟩:=back _ _ g1;obtain⟨c2,d2,-⟩:=back _ _ g2;exact h.inj _ _ _ _ _ _ _ d1 d2
 ·obtain⟨b0,g1,g2⟩:=back k b hk;exact h.apt k b0 r K g1
theorem gz(t:Tr Value):∀ (k i:Nat),(gR t i k).length=k
 |0,_=>rfl
 |k+1,i=>by simp[gR,gz t k]
theorem uZ(t:Tr Value):∀ (k i j:Nat),j<k->(gR t i k)[j]?=some (cK t (i+j))
 |0,_,_,h=>absurd h (by omega)
 |k+1,i,j,h=>by
  cases j with
  |zero=>simp[gR]
  |succ j=>simp only[gR,ace];rw[uZ t k (i+1) j (by omega)];congr 2;omega
theorem Jr(tr:Tr Value)(i:Nat)(new:List Value)(el:TypeId)(k:Nat):I9 tr i new el k=.cells (i+new.length) (kq tr i new) el k false:=by
 unfold I9;split <;> rename_i h <;> rw[h,dU]
theorem FM{len add:Nat}{new:List Value}{v:Value}(h:uM H n k len add cap ad el new=some (.val v H' n')):∃H0,I8 H n k len add cap ad el new=some (.val v H0 n')/\HEq H0 H':=by
 unfold uM at h;split at h
 case h_2=>cases h
 rename_i nn tr ty w Xw ho Z4 hb;split at h
 case h_2=>cases h
 rename_i h1 h2 h3;have Wy:SB H ad=some (nn,w,ty):=by unfold SB;rw[hb]
 split at h
 ·rename_i Vb;refine⟨H',?_,λ h=>.inl rfl⟩;unfold I8;rw[Xw,ho,Z4,Wy];simp only[h1,h2,h3,Vb];exact h
 ·rename_i Vb;cases h;refine⟨cJ (cJ H ad.block none) n (some (wA (gR tr 0 (len*k)++new) el k)),?_,λ h=>?_⟩
  ·unfold I8;rw[Xw,ho,Z4,Wy];simp only[h1,h2,h3,Vb,qF,Xw,hb,ho,abP];rfl
  ·by_cases hh:n=h
   ·refine .inr ⟨(gR tr 0 (len*k)++new).length,dE undef (gR tr 0 (len*k)++new) 0 .lf,kq tr (len*k) new,el,k,false,by rw[dt,if_pos hh,j5],?_,λ i hi=>?_⟩
    ·rw[dt,if_pos hh,Jr,aaK,gz]
    ·rw[lH hi,sD];rw[aaK,gz] at hi;split
     ·rename_i hj;rw[List.getElem_append_right (by rw[gz];omega)];congr 1;rw[gz]
     ·rename_i hj;have hi2:i<len*k:=by omega
      rw[List.getElem_append_left (by rw[gz];exact hi2)];have:=uZ tr (len*k) 0 i hi2;rw[abP] at this;rw[aa1 (by rw[gz];exact hi2)] at this;exact(ab8 this).symm
   ·exact .inl ((dt).trans ((if_neg hh).trans ((if_neg hh).symm.trans (dt).symm)))
theorem Js{z:List Value}{len:Nat}{new:List Value}{v:Value}(hH:HR ν H F w)(ht:P.underlying t=some (.slice el))(hu:P.underlying u=some (.slice e'))(hi:P.info? el=some inf)(hz:kW P el=some z)(Xa:z.length=inf.size)(L_:0<inf.size)
  (hx:VRi ν (.slice (some ad) len cap) x') (hy:VRi ν y y') (Uv:qF H inf.size y=some new) (UY:jV new=true) (Xo:len+dR y<1000000) (Zt:inf.bytes<1000001) (hcap:l9<=cap) (hn:Fr ν n n') (h:uM H n inf.size len (dR y) cap ad el new=some (.val v H' n')) :
  Effi P ν F n (Builtin.append_ #[t,u] ty #[x',y']) w v H' n':=by
 obtain⟨H0,h1,h2⟩:=FM h;obtain⟨ν',a,b,g1,g2,g3,g4,g5⟩:=My hH ht hu hi hz Xa L_ hx hy Uv UY Xo Zt hcap hn h1;exact⟨ν',a,b,g1,g2,g3,g4.heq h2,g5⟩
theorem Mz{x:Value}{v:Value}(hH:HR ν H F w)(ht:P.underlying t=some (.slice el))(hu:P.underlying u=some (.slice e'))(hx:VRi ν x x')(hy:VRi ν y y')(hn:Fr ν n n')(h:yU P H n el x y=some (.val v H' n')) :
  Effi P ν F n (Builtin.append_ #[t,u] ty #[x',y']) w v H' n':=by
 unfold yU at h;split at h
 case h_2=>cases h
 rename_i inf z hi hz;split at h
 case h_2=>cases h
 rename_i k by_ base len cap hk hby;have hk:inf.size=k+1:=hk;have hby:inf.bytes=by_+1:=hby;split at h
 case h_2=>cases h
 rename_i new Uv Xa Xo Zt;rw[<- hk] at Uv Xa h;have adE:z.length=inf.size:=by rw[dU] at Xa;exact abd Xa
 have ae5:=dF Xo;have aos:=dF Zt;split at h
 ·rename_i UY Z4;have aiu:=dF Z4;have Yw:∃D_,x'=.slice D_ len cap/\VRi ν (.slice base len cap) (.slice D_ len cap):=by
   cases hx with
   |atom _ h=>exact⟨_,rfl,.atom _ h⟩
   |slice o _ hν hc=>obtain rfl:=hc.1 aiu;exact⟨_,rfl,.slice o _ hν hc⟩
  obtain⟨D_,rfl,hr⟩:=Yw;split at h
  ·rename_i Vb;exact zr hH ht hu hi hr hy Uv UY (bK Vb) h
  ·rename_i Vb;split at h
   ·rename_i AT hold;have RW:ja H n inf.size len (dR y) el AT new=.val v H' n':=by simpa using h
    have ZT:ν n=none:=by
     have hv2:=RW;unfold ja at hv2;cases hv2;exact hn n (aaI _) (by omega)
    exact uY hH ht hu hi hz adE (by omega) hr hy Uv UY hold (kY Vb) ae5 (by omega) ZT (λ _ _ h=>h) RW
   ·cases h
 ·rename_i UY Z4;split at h
  ·exact Js hH ht hu hi hz adE (by omega) hx hy Uv UY ae5 (by omega) (kX Z4) hn h
  ·cases h
 ·cases h
end ap
end Go.Proofs.YtjokannbjmndfaaGreatDoor
