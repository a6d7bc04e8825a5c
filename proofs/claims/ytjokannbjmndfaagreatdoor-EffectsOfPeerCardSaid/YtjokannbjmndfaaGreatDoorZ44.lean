import Derived.Test.YtjokannbjmndfaaGreatDoorZ43
import Derived.MapKept
import Derived.Maps.Own
import Derived.Maps.OwnOps
set_option linter.all false
set_option maxHeartbeats 4000000
set_option maxRecDepth 100000
namespace Go.Proofs.YtjokannbjmndfaaGreatDoor
open Go.RowKit Go.MapKept
variable {N b clock i j:Nat} {e t t2:TypeId} {es:Array MapEntry} {ix:List Nat} {o:Obj} {y:Operand} {α:Type}
theorem Gv{l:List α}{k:Nat}{x:α}(h:l[k]?=some x):l.drop k=x::l.drop (k+1):=by
 obtain⟨hk,rfl⟩:=bt.1 h;exact eB hk
structure KeyLaw{κ:Type}(P:Program)(kt:TypeId)(enc:κ->Value):Prop where
 check:∀k e w,(Instr.checkKey e 10000 kt (enc k)).run P w=.ok () w
 find:∀k (l:List MapEntry) (ks:List κ),l.map (·.key)=ks.map enc->∀w,∃a,(Instr.findKey kt (enc k) l).run P w=.ok a w/\
  match a with
  |none=>k∉ks
  |some (i,v)=>ks[i]?=some k/\∃e,l[i]?=some e/\v=e.val
 inj:∀k k',enc k=enc k'->k=k'
 same:∀k,Instr.sameBits 10000 (enc k) (enc k)=true
def MapF{κ:Type}(enc:κ->Value)(w:World)(r:Nat)(ks:List κ)(f:κ->Option Value):Prop :=
 ∃es clock,w.heap[r]?=some (.map es clock)/\Stamped es clock/\es.toList.map (·.key)=ks.map enc/\
  (∀ (i:Nat) k e,ks[i]?=some k->es.toList[i]?=some e->f k=some e.val)/\∀k,k∉ks->f k=none
section
variable {κ:Type} {P:Program} {kt:TypeId} {enc:κ->Value} {w w':World} {r:Nat} {ks:List κ} {f:κ->Option Value}
theorem MapF.nodup(K:KeyLaw P kt enc)(h:MapF enc w r ks f):ks.Nodup:=by
 obtain⟨es,clock,_,n_,h2,_⟩:=h;have h3:=((stamped_iff es clock).1 n_).2.2;have h4:(es.toList.map (·.key)).Nodup:=acV.2 h3;rw[h2] at h4;exact(acV.1 h4).imp (λ u_ he=>u_ (by rw[he]))
theorem kM(K:KeyLaw P kt enc)(h1:w.heap[r]?=some (.map es clock))(h2:es.toList.map (·.key)=ks.map enc)
  (h3:∀ (i:Nat) k e,ks[i]?=some k->es.toList[i]?=some e->f k=some e.val) (h4:∀k,k∉ks->f k=none) (k:κ) (w0:World) :
  (k∉ks/\f k=none/\(Instr.findKey kt (enc k) es.toList).run P w0=.ok none w0)\/
  ∃i e,ks[i]?=some k/\es.toList[i]?=some e/\f k=some e.val/\(Instr.findKey kt (enc k) es.toList).run P w0=.ok (some (i,e.val)) w0:=by
 obtain⟨a,hr,ha⟩:=K.find k es.toList ks h2 w0;cases a with
 |none=>exact .inl ⟨ha,h4 k ha,hr⟩
 |some p=>
  obtain⟨i,v⟩:=p;obtain⟨hi,e,he,rfl⟩:=ha;exact .inr ⟨i,e,hi,he,h3 i k e hi he,hr⟩
theorem MapF.lookup(K:KeyLaw P kt enc)(h:MapF enc w r ks f)(ht:P.underlying t=some (.map kt e)){z:Value}(hz:(zeroValue e).run P w=.ok z w)(k:κ) :
  (Instr.lookup t (.map (some r)) (enc k) false).run P w=.ok ((f k).getD z) w:=by
 obtain⟨es,clock,h1,_,h2,h3,h4⟩:=h;have hg:(getObj r).run P w=.ok (.map es clock) w:=by simp[getObj,Sem.run,h1]
 unfold Instr.lookup;rcases kM K h1 h2 h3 h4 k w with ⟨_,hf,hr⟩|⟨i,e0,_,_,hf,hr⟩
 ·simp[run_underlying ht,hg,K.check,hr,hz,hf,Result.andThen]
 ·simp[run_underlying ht,hg,K.check,hr,hf,Result.andThen]
def kf [DecidableEq κ](f:κ->Option Value)(k:κ)(v:Value):κ->Option Value:=λ k'=>if k'=k then some v else f k'
def oS [DecidableEq κ](f:κ->Option Value)(k:κ):κ->Option Value:=λ k'=>if k'=k then none else f k'
def pZ [DecidableEq κ](ks:List κ)(k:κ):List κ:=if k∈ks then ks else ks++[k]
theorem mW{β:Type}(g:α->β)(l:List α)(i:Nat):(l.eraseIdx i).map g=(l.map g).eraseIdx i:=by
 apply acg;intro j;simp only[abo,List.getElem?_eraseIdx];split <;> rfl
theorem z6{l:List α}(h:l.Nodup){x:α}(hi:l[i]?=some x)(hj:l[j]?=some x):i=j:=by
 obtain⟨hi',rfl⟩:=bt.1 hi;obtain⟨Z1,hx⟩:=bt.1 hj;rcases aem i j with h1|h1|h1
 ·exact absurd hx.symm (adp.1 h i j hi' Z1 h1)
 ·exact h1
 ·exact absurd hx (adp.1 h j i Z1 hi' h1)
theorem ee{w:World}:w.grownBy { w with heap:=w.heap.setIfInBounds r o } (some r) :=
 ⟨rfl,rfl,rfl,by simp,λ k _ hk=>by
  show (w.heap.setIfInBounds r o)[k]?=w.heap[k]?;rw[vo (λ e=>hk (by rw[e]))]⟩
theorem MapF.modify [DecidableEq κ](K:KeyLaw P kt enc)(n_:Stamped es clock)(h2:es.toList.map (·.key)=ks.map enc)
  (h3:∀ (i:Nat) k e,ks[i]?=some k->es.toList[i]?=some e->f k=some e.val) (h4:∀k,k∉ks->f k=none) {k:κ} (hi:ks[i]?=some k) (v:Value)
  (hb:(w'.heap)[r]?=some (.map (es.modify i λ e=>{ e with key:=enc k,val:=v }) clock)):MapF enc w' r ks (kf f k v):=by
 have Vj:ks.Nodup:=by
  have h3:=((stamped_iff es clock).1 n_).2.2;have h4:(es.toList.map (·.key)).Nodup:=acV.2 h3;rw[h2] at h4;exact(acV.1 h4).imp (λ u_ he=>u_ (by rw[he]))
 have Wg:∀e,es[i]?=some e->e.key=enc k:=by
  intro e he;have:=congrArg (·[i]?) h2;simp only[abo,acy,he,hi,UV,de] at this;exact this
 refine⟨_,clock,hb,stamped_modify n_ i _ (λ e _=>rfl) (λ e _ he=>(Wg e he).symm),?_,?_,?_⟩
 ·rw[<- h2];apply acg;intro j;simp only[abo,acy,acf]
  by_cases VL:i=j
  ·subst VL;simp only[if_true];cases he:es[i]? with
   |none=>rfl
   |some e=>simp[Wg e he]
  ·simp[VL]
 ·intro j k' e hj he;simp only[acy,acf] at he;unfold kf
  by_cases VL:i=j
  ·subst VL;have:k'=k:=ab8 (hj.symm.trans hi);subst this;rw[if_pos rfl];simp only[if_true] at he;cases h5:es[i]? with
   |none=>rw[h5] at he;cases he
   |some e0=>rw[h5] at he;cases he;rfl
  ·rw[if_neg VL] at he;have u_:k'≠k:=λ e1=>VL (z6 Vj hi (by rw[<- e1];exact hj));rw[if_neg u_];exact h3 j k' e hj (by simpa using he)
 ·intro k' UJ;unfold kf;rw[if_neg (λ e=>UJ (by rw[e];exact go hi))];exact h4 k' UJ
theorem MapF.push [DecidableEq κ](K:KeyLaw P kt enc)(n_:Stamped es clock)(h2:es.toList.map (·.key)=ks.map enc)
  (h3:∀ (i:Nat) k e,ks[i]?=some k->es.toList[i]?=some e->f k=some e.val) (h4:∀k,k∉ks->f k=none) {k:κ} (hk:k∉ks) (v:Value)
  (hb:(w'.heap)[r]?=some (.map (es.push { key:=enc k,val:=v,born:=clock }) (clock+1))):MapF enc w' r (ks++[k]) (kf f k v):=by
 have hl:=congrArg List.length h2;simp only[acD] at hl;refine⟨_,clock+1,hb,stamped_push n_ ?_,by simp[h2],?_,?_⟩
 ·intro x hx he;have:x.key∈es.toList.map (·.key):=acU hx;rw[h2,he] at this;obtain⟨k',UJ,YP⟩:=abY.1 this;exact hk (K.inj _ _ YP▸UJ)
 ·intro i k' e hi he;unfold kf
  by_cases iN:i<ks.length
  ·rw[aa2 iN] at hi;have u_:k'≠k:=λ e1=>hk (by rw[<- e1];exact go hi);rw[if_neg u_];refine h3 i k' e hi ?_;rw[Array.toList_push,aa2 (by omega)] at he;exact he
  ·have h5:=(bt.1 hi).1;simp at h5;obtain rfl:i=ks.length:=by omega
   simp at hi;subst hi;rw[if_pos rfl];rw[Array.toList_push,aa3 (by omega)] at he;simp[hl] at he;rw[<- he]
 ·intro k' UJ;simp only[np,eb,not_or] at UJ;unfold kf;rw[if_neg UJ.2];exact h4 k' UJ.1
theorem fe{w:World}{o':Obj}(hb:w.heap[r]?=some o):({ w with heap:=w.heap.setIfInBounds r o' }:World).heap[r]?=some o':=(heap_set hb).1
theorem MapF.update [DecidableEq κ](K:KeyLaw P kt enc)(h:MapF enc w r ks f)(ht:P.underlying t=some (.map kt e))(k:κ)(v:Value) :
  ∃w',(Instr.mapUpdate t (.map (some r)) (enc k) v).run P w=.ok () w'/\MapF enc w' r (pZ ks k) (kf f k v)/\w.grownBy w' (some r):=by
 obtain⟨es,clock,h1,n_,h2,h3,h4⟩:=h;have hg:(getObj r).run P w=.ok (.map es clock) w:=by simp[getObj,Sem.run,h1]
 rcases kM K h1 h2 h3 h4 k w with ⟨hk,hf,hr⟩|⟨i,e0,hi,he0,hf,hr⟩
 ·refine⟨{ w with heap:=w.heap.setIfInBounds r (.map (es.push { key:=enc k,val:=v,born:=clock }) (clock+1)) },?_,?_,ee⟩
  ·unfold Instr.mapUpdate;simp[run_underlying ht,hg,K.check,hr,Result.andThen,run_setObj_map _ h1]
  ·unfold pZ;rw[if_neg hk];exact MapF.push K n_ h2 h3 h4 hk v (fe h1)
 ·have aew:(Instr.keyThatStays (((es[i]?).map (·.key)).getD (enc k)) (enc k)).run P w=.ok (enc k) w:=by
   have Wg:((es[i]?).map (·.key)).getD (enc k)=enc k:=by
    have:=congrArg (·[i]?) h2;simp only[abo,acy,hi,UV] at this;cases h5:es[i]? with
    |none=>rfl
    |some e1=>rw[h5] at this;simpa using this
   rw[Wg];unfold Instr.keyThatStays;rw[if_pos (K.same k)];rfl
  refine⟨{ w with heap:=w.heap.setIfInBounds r (.map (es.modify i λ e=>{ e with key:=enc k,val:=v }) clock) },?_,?_,ee⟩
  ·unfold Instr.mapUpdate;simp[run_underlying ht,hg,K.check,hr,Result.andThen,aew,run_setObj_map _ h1]
  ·unfold pZ;rw[if_pos (go hi)];exact MapF.modify K n_ h2 h3 h4 hi v (fe h1)
theorem Cv(h2:es.toList.map (·.key)=ks.map enc)(K:KeyLaw P kt enc){k:κ}(hi:ks[i]?=some k)(w:World) :
  (Instr.keyThatStays (((es[i]?).map (·.key)).getD (enc k)) (enc k)).run P w=.ok (enc k) w:=by
 have Wg:((es[i]?).map (·.key)).getD (enc k)=enc k:=by
  have:=congrArg (·[i]?) h2;simp only[abo,acy,hi,UV] at this;cases h5:es[i]? with
  |none=>rfl
  |some e1=>rw[h5] at this;simpa using this
 rw[Wg];unfold Instr.keyThatStays;rw[if_pos (K.same k)];rfl
theorem MapF.delete [DecidableEq κ](K:KeyLaw P kt enc)(h:MapF enc w r ks f){ty:TypeId}(ht:P.underlying t=some (.map kt e))(k:κ) :
  ∃w',(Builtin.delete_ #[t,t2] ty #[.map (some r),enc k]).run P w=.ok (.tuple #[]) w'/\MapF enc w' r (ks.filter (· ≠k)) (oS f k)/\w.grownBy w' (some r):=by
 have Vj:=h.nodup K;obtain⟨es,clock,h1,n_,h2,h3,h4⟩:=h;have hg:(getObj r).run P w=.ok (.map es clock) w:=by simp[getObj,Sem.run,h1]
 rcases kM K h1 h2 h3 h4 k w with ⟨hk,hf,hr⟩|⟨i,e0,hi,he0,hf,hr⟩
 ·refine⟨{ w with heap:=w.heap.setIfInBounds r (.map es clock) },?_,⟨es,clock,fe h1,n_,?_,?_,?_⟩,ee⟩
  ·unfold Builtin.delete_;simp[run_underlying ht,hg,K.check,hr,Result.andThen,run_setObj_map _ h1]
  ·rw[h2,adC.2];intro a ha;simp only[ne_eq,decide_not,aev,decide_eq_false_iff_not];rintro rfl;exact hk ha
  ·intro i k' e' hi he;rw[adC.2] at hi
   ·unfold oS;rw[if_neg (λ e1=>hk (by rw[<- e1];exact go hi))];exact h3 i k' e' hi he
   ·intro a ha;simp only[ne_eq,decide_not,aev,decide_eq_false_iff_not];rintro rfl;exact hk ha
  ·intro k' UJ;unfold oS
   by_cases e1:k'=k
   ·rw[if_pos e1]
   ·rw[if_neg e1];exact h4 k' (λ hm=>UJ (adc.2 ⟨hm,by simpa using e1⟩))
 ·-- the filter is the list afT place i
  have iN:=(bt.1 hi).1;have hl:=congrArg List.length h2;simp only[acD] at hl;have ab1:ks.filter (· ≠k)=ks.eraseIdx i:=by
   have e1:ks=ks.take i++k::ks.drop (i+1):=by
    conv=>lhs;rw[<- abt i ks]
    rw[Gv hi]
   have hn2:=Vj;rw[e1] at hn2;rw[ada] at hn2;obtain⟨ha,hb,hab⟩:=hn2;have VB:=(acX.1 hb).1;rw[List.eraseIdx_eq_take_drop_succ]
   conv=>lhs;rw[e1]
   rw[List.filter_append,List.filter_cons];simp only[ne_eq,not_true,decide_false,adJ,if_false];rw[adC.2,adC.2]
   ·intro a ha';simp only[decide_not,aev,decide_eq_false_iff_not];rintro rfl;exact VB ha'
   ·intro a ha';simp only[decide_not,aev,decide_eq_false_iff_not];rintro rfl;exact hab _ ha' _ (aaC) rfl
  refine⟨{ w with heap:=w.heap.setIfInBounds r (.map (es.eraseIdxIfInBounds i) clock) },?_,⟨_,clock,fe h1,stamped_erase n_ i,?_,?_,?_⟩,ee⟩
  ·unfold Builtin.delete_;simp[run_underlying ht,hg,K.check,hr,Result.andThen,run_setObj_map _ h1]
  ·rw[ab1,aex,mW,h2,mW]
  ·intro j k' e' hj he;rw[ab1] at hj;rw[aex] at he;have u_:k'≠k:=by
    rintro rfl;have hm:=go hj;rw[<- ab1] at hm;simpa using (adc.1 hm).2
   unfold oS;rw[if_neg u_];rw[List.getElem?_eraseIdx] at hj he;split at hj
   ·exact h3 j k' e' hj (by simpa [*] using he)
   ·exact h3 (j+1) k' e' hj (by simpa [*] using he)
  ·intro k' UJ;unfold oS
   by_cases e1:k'=k
   ·rw[if_pos e1]
   ·rw[if_neg e1];exact h4 k' (λ hm=>UJ (adc.2 ⟨hm,by simpa using e1⟩))
def D5(enc:κ->Value)(w:World)(r:Nat)(k:κ)(b:Nat):Prop:=∃ (es:Array MapEntry) (clock i:Nat) (e:MapEntry),w.heap[r]?=some (.map es clock)/\es[i]?=some e/\e.key=enc k/\e.born=b
theorem MapF.entry [DecidableEq κ](K:KeyLaw P kt enc)(h:MapF enc w r ks f)(ht:P.underlying t=some (.map kt e)){z:Value}(hz:∀w,(zeroValue e).run P w=.ok z w)(k:κ) :
  ∃ (w':World) (b:Nat),(Instr.mapEntry t (.map (some r)) (enc k)).run P w=.ok (.tuple #[(f k).getD z,goInt b]) w'/\MapF enc w' r (pZ ks k) (kf f k ((f k).getD z))/\D5 enc w' r k b/\w.grownBy w' (some r):=by
 obtain⟨es,clock,h1,n_,h2,h3,h4⟩:=h;have hg:(getObj r).run P w=.ok (.map es clock) w:=by simp[getObj,Sem.run,h1]
 rcases kM K h1 h2 h3 h4 k w with ⟨hk,hf,hr⟩|⟨i,e0,hi,he0,hf,hr⟩
 ·refine⟨{ w with heap:=w.heap.setIfInBounds r (.map (es.push { key:=enc k,val:=z,born:=clock }) (clock+1)) },clock,?_,?_,?_,ee⟩
  ·unfold Instr.mapEntry;simp[run_underlying ht,hg,K.check,hr,hz,Result.andThen,run_setObj_map _ h1,hf]
  ·unfold pZ;rw[if_neg hk,hf];exact MapF.push K n_ h2 h3 h4 hk z (fe h1)
  ·exact⟨_,_,es.size,{ key:=enc k,val:=z,born:=clock },fe h1,by simp,rfl,rfl⟩
 ·have he1:es[i]?=some e0:=by simpa using he0
  refine⟨{ w with heap:=w.heap.setIfInBounds r (.map (es.modify i λ e=>{ e with key:=enc k }) clock) },e0.born,?_,?_,?_,ee⟩
  ·have hkp:=Cv h2 K hi w;rw[he1] at hkp;simp only[UV,adz] at hkp;unfold Instr.mapEntry;simp[run_underlying ht,hg,K.check,hr,Result.andThen,run_setObj_map _ h1,hf,he1,hkp]
  ·unfold pZ;rw[if_pos (go hi),hf];refine MapF.modify K n_ h2 h3 h4 hi e0.val ?_;show (w.heap.setIfInBounds r _)[r]?=_;rw[(heap_set h1).1];congr 2;apply afD;intro j;simp only[acf]
   by_cases VL:i=j
   ·subst VL;simp[he1]
   ·simp[VL]
  ·exact⟨_,_,i,{ e0 with key:=enc k },fe h1,by simp[acf,he1],rfl,rfl⟩
theorem MapF.entryStore [DecidableEq κ](K:KeyLaw P kt enc)(h:MapF enc w r ks f){k:κ}(hs:D5 enc w r k b)(v:Value) :
  ∃w',(Instr.entryStore t (.map (some r)) (goInt b) v).run P w=.ok () w'/\MapF enc w' r ks (kf f k v)/\w.grownBy w' (some r):=by
 obtain⟨es,clock,h1,n_,h2,h3,h4⟩:=h;obtain⟨UR,VG,i,e0,h1',hi,Wg,hb⟩:=hs;rw[h1] at h1';cases h1';have hg:(getObj r).run P w=.ok (.map es clock) w:=by simp[getObj,Sem.run,h1]
 have WK:es.findIdx? (λ e=>(e.born:Int) == (b:Int))=some i:=by
  have Vj:=((stamped_iff es clock).1 n_).2.1;rw[Array.findIdx?_eq_some_iff_getElem];obtain⟨iN,rfl⟩:=fx.1 hi;refine⟨iN,by simp[hb],λ j hj=>?_⟩;simp only[Bool.not_eq_true,beq_eq_false_iff_ne,ne_eq];intro he;have h5:es[j].born=es[i].born:=by rw[hb];exact_mod_cast he
  have:=z6 Vj (i:=j) (j:=i) (x:=es[i].born) (by rw[abo,acy,sv (by omega)];simp[h5]) (by rw[abo,acy,sv iN];rfl);omega
 have hks:ks[i]?=some k:=by
  have:=congrArg (·[i]?) h2;simp only[abo,acy,hi,UV] at this;cases h5:ks[i]? with
  |none=>rw[h5] at this;cases this
  |some k'=>
   rw[h5] at this;simp only[UV,de] at this;rw[Wg] at this;rw[K.inj _ _ this]
 refine⟨{ w with heap:=w.heap.setIfInBounds r (.map (es.modify i λ e=>{ e with val:=v }) clock) },?_,?_,ee⟩
 ·unfold Instr.entryStore;simp[hg,asInt,asIntOf,goInt,WK,Result.andThen,run_setObj_map _ h1]
 ·refine MapF.modify K n_ h2 h3 h4 hks v ?_;show (w.heap.setIfInBounds r _)[r]?=_;rw[(heap_set h1).1];congr 2;apply afD;intro j;simp only[acf]
  by_cases VL:i=j
  ·subst VL;simp[hi,Wg]
  ·simp[VL]
end
section
variable {κ:Type} [DecidableEq κ] {P:Program} {kt:TypeId} {enc:κ->Value}
theorem qu(heq:∀k k' w,(Op.equal kt (enc k) (enc k')).run P w=.ok (decide (k=k')) w)(k:κ):∀ (l:List MapEntry) (ks:List κ) (i0:Nat),l.map (·.key)=ks.map enc->∀w,∃a,(Instr.findAsking kt (enc k) l i0).run P w=.ok a w/\match a with
   |none=>k∉ks
   |some (i,v)=>∃j,i=i0+j/\ks[j]?=some k/\∃e,l[j]?=some e/\v=e.val
 | [],ks,i0,h,w=>by
  obtain rfl:ks=[]:=by cases ks <;> simp_all
  exact⟨none,rfl,by simp⟩
 |e::l,[],i0,h,w=>by simp at h
 |e::l,k'::ks,i0,h,w=>by
  simp only[acF,acM] at h
  by_cases hk:k=k'
  ·refine⟨some (i0,e.val),?_,0,rfl,by simp[hk],e,rfl,rfl⟩;unfold Instr.findAsking;simp[h.1,heq,hk,Result.andThen]
  ·obtain⟨a,hr,ha⟩:=qu heq k l ks (i0+1) h.2 w;refine⟨a,?_,?_⟩
   ·unfold Instr.findAsking;simp[h.1,heq,hk,Result.andThen,hr]
   ·cases a with
    |none=>simp[hk,ha]
    |some p=>
     obtain⟨i,v⟩:=p;obtain⟨j,rfl,h1,e',h2,h3⟩:=ha;exact⟨j+1,by omega,by simpa using h1,e',by simpa using h2,h3⟩
end
theorem oT{q:IntKind}(x:Int):∀ (l:List MapEntry) (ks:List Int) (i0:Nat),l.map (·.key)=ks.map (Value.int .i64)->∃a,Instr.findNow (.int q) (.int .i64 x) l i0=some a/\match a with
   |none=>x∉ks
   |some (i,v)=>∃j,i=i0+j/\ks[j]?=some x/\∃e,l[j]?=some e/\v=e.val
 | [],ks,i0,h=>by
  obtain rfl:ks=[]:=by cases ks <;> simp_all
  exact⟨none,rfl,by simp⟩
 |e::l,[],i0,h=>by simp at h
 |e::l,k'::ks,i0,h=>by
  simp only[acF,acM] at h
  by_cases hk:x=k'
  ·refine⟨some (i0,e.val),?_,0,rfl,by simp[hk],e,rfl,rfl⟩;simp[Instr.findNow,h.1,Instr.sameNow,hk]
  ·obtain⟨a,hr,ha⟩:=oT (q:=q) x l ks (i0+1) h.2;refine⟨a,?_,?_⟩
   ·have hb:(x == k')=false:=by simpa using hk
    simp[Instr.findNow,h.1,Instr.sameNow,hb,hr]
   ·cases a with
    |none=>simp[hk,ha]
    |some p=>
     obtain⟨i,v⟩:=p;obtain⟨j,rfl,h1,e',h2,h3⟩:=ha;exact⟨j+1,by omega,by simpa using h1,e',by simpa using h2,h3⟩
theorem NB{P:Program}{kt:TypeId}(hu:P.underlying kt=some (.int .i64)):KeyLaw P kt (Value.int .i64) where
 check k e w:=run_checkKey (k:=.int .i64 k) hu (show IsKey (.int .i64) (.int .i64 k) from rfl) e 9999
 find k l ks h w:=by
  obtain⟨a,hr,ha⟩:=oT (q:=.i64) k l ks 0 h;refine⟨a,run_findKey hu hr,?_⟩;cases a with
  |none=>exact ha
  |some p=>
   obtain⟨i,v⟩:=p;obtain⟨j,rfl,h1,e',h2,h3⟩:=ha;exact⟨by simpa using h1,e',by simpa using h2,h3⟩
 inj k k' h:=by injection h
 same k:=by simp[Instr.sameBits]
open Go.Shelf
section
variable {κ:Type} {P:Program} {kt:TypeId} {enc:κ->Value} {mb:Nat} {ks:List κ} {f:κ->Option Value} {T X:HL} {w w':World}
def MapT(enc:κ->Value)(mb:Nat)(ks:List κ)(f:κ->Option Value)(T:HL):Prop :=
 ∃ (es:Array MapEntry) (clock:Nat),T=[(mb,.obj (.map es clock))]/\Stamped es clock/\es.toList.map (·.key)=ks.map enc/\(∀ (i:Nat) k e,ks[i]?=some k->es.toList[i]?=some e->f k=some e.val)/\∀k,k∉ks->f k=none
theorem MapT.mapF(h:MapT enc mb ks f T)(hR:Rel (T++X) w):MapF enc w mb ks f:=by
 obtain⟨es,clock,rfl,h1,h2,h3,h4⟩:=h;exact⟨es,clock,hR.holds _ (aaB _ (eb.2 rfl)),h1,h2,h3,h4⟩
theorem MapT.new:MapT enc mb [] (λ _=>none) [(mb,.obj (.map #[] 0))] :=
 ⟨#[],0,rfl,stamped_empty 0,rfl,λ i k e h=>by simp at h,λ _ _=>rfl⟩
theorem MapT.next{ks':List κ}{f':κ->Option Value}(h:MapT enc mb ks f T)(hR:Rel (T++X) w)(hg:w.grownBy w' (some mb))(h':MapF enc w' mb ks' f'):∃T',MapT enc mb ks' f' T'/\Rel (T'++X) w'/\Below 0 w w':=by
 obtain⟨es,clock,rfl,h1,h2,h3,h4⟩:=h;obtain⟨UR,VG,g0,g1,g2,g3,g4⟩:=h';have hn:=hR.nodup;simp only[abB,WF,acF,acX] at hn;refine⟨[(mb,.obj (.map UR VG))],⟨UR,VG,rfl,g1,g2,g3,g4⟩,⟨λ x hx=>?_,?_⟩,⟨hg.os,hg.tape,hg.output,hg.size,λ k hk=>by omega⟩⟩
 ·rcases np.1 hx with hx|hx
  ·rw[eb.1 hx];exact g0
  ·have hx0:=hR.holds x (aaz _ hx);have u_:x.1≠mb:=λ e=>hn.1 (e▸acU hx);exact(hg.block x.1 (aW hx0) (λ e=>u_ (ab8 e))).trans hx0
 ·simp only[abB,WF,acF,acX];exact hn
variable {o:Oper} {L:FL} {t e:TypeId} {k:κ} {z:Value} {m x:Operand}
theorem z7(K:KeyLaw P kt enc)(hT:MapT enc mb ks f T)(ht:P.underlying t=some (.map kt e))(hz:∀w,(zeroValue e).run P w=.ok z w)(hg:o.guard=none)(ho:o.op=.lookup t m x false)(hd:(cD N o.dst undef L).isSome=true)(hm:dw L m=true)(hx:dw L x=true)(em:cN L m=.map (some mb))(ex:cN L x=enc k) :
  OpTv P N o L T ((f k).getD z):=⟨hg,hd,λ ev X w Ux hR=>by
 have h1:=(hT.mapF hR).lookup K ht (hz w) k;simp[execOp,ho,Ux m hm,Ux x hx,em,ex,abg,h1,Result.andThen]⟩
def K8(enc:κ->Value)(mb:Nat)(ks:List κ)(f:κ->Option Value)(k:κ)(b:Nat)(T:HL):Prop :=
 MapT enc mb ks f T/\∃ (es:Array MapEntry) (clock i:Nat) (e:MapEntry),T=[(mb,.obj (.map es clock))]/\es[i]?=some e/\e.key=enc k/\e.born=b
theorem NC [DecidableEq κ](K:KeyLaw P kt enc)(hT:MapT enc mb ks f T)(ht:P.underlying t=some (.map kt e))(hz:∀w,(zeroValue e).run P w=.ok z w)(ho:o.op=.mapEntry t m x)(hm:dw L m=true)(hx:dw L x=true)(em:cN L m=.map (some mb))(ex:cN L x=enc k) :
  K7 P o L T (λ y:HL×Nat=>y.1) (λ u y=>u=.tuple #[(f k).getD z,goInt y.2]/\K8 enc mb (pZ ks k) (kf f k ((f k).getD z)) k y.2 y.1):=λ ev X w Ux hR=>by
 obtain⟨w',b,h1,h2,h3,h4⟩:=(hT.mapF hR).entry K ht hz k;obtain⟨T',g1,g2,g3⟩:=hT.next hR h4 h2;refine⟨_,w',(T',b),.inl ?_,⟨rfl,g1,?_⟩,g2,g3⟩
 ·simp[execOp,ho,Ux m hm,Ux x hx,em,ex,abg,h1,Result.andThen]
 ·obtain⟨es,c,rfl,_⟩:=g1;obtain⟨es2,c2,i,e2,q1,q2,q3,q4⟩:=h3;have q5:=g2.holds _ (aaB _ (eb.2 rfl));simp only[Blk.den] at q5;rw[q1] at q5;simp only[de,Obj.map.injEq] at q5;obtain⟨rfl,rfl⟩:=q5;exact⟨_,_,i,e2,rfl,q2,q3,q4⟩
theorem xe [DecidableEq κ]{v:Value}(K:KeyLaw P kt enc)(hT:K8 enc mb ks f k b T)(ho:o.op=.entryStore t m x y)(hm:dw L m=true)(hx:dw L x=true)(hy:dw L y=true)(em:cN L m=.map (some mb))(ex:cN L x=goInt b)(ey:cN L y=v) :
  K7 P o L T (λ T':HL=>T') (λ u T'=>u=undef/\MapT enc mb ks (kf f k v) T'):=λ ev X w Ux hR=>by
 obtain⟨hM,es,c,i,e2,hTe,q2,q3,q4⟩:=hT;have q5:=hR.holds (mb,.obj (.map es c)) (aaB _ (by rw[hTe];exact eb.2 rfl));obtain⟨w',h1,h2,h3⟩:=(hM.mapF hR).entryStore K (t:=t) ⟨es,c,i,e2,q5,q2,q3,q4⟩ v;obtain⟨T',g1,g2,g3⟩:=hM.next hR h3 h2;refine⟨_,w',T',.inr ⟨?_,rfl⟩,⟨rfl,g1⟩,g2,g3⟩;simp[execOp,ho,Ux m hm,Ux x hx,Ux y hy,em,ex,ey,abg,h1,Result.andThen]
theorem K9 [DecidableEq κ]{v:Value}(K:KeyLaw P kt enc)(hT:MapT enc mb ks f T)(ht:P.underlying t=some (.map kt e))(ho:o.op=.mapUpdate t m x y)(hm:dw L m=true)(hx:dw L x=true)(hy:dw L y=true)(em:cN L m=.map (some mb))(ex:cN L x=enc k)(ey:cN L y=v) :
  K7 P o L T (λ T':HL=>T') (λ u T'=>u=undef/\MapT enc mb (pZ ks k) (kf f k v) T'):=λ ev X w Ux hR=>by
 obtain⟨w',h1,h2,h3⟩:=(hT.mapF hR).update K ht k v;obtain⟨T',g1,g2,g3⟩:=hT.next hR h3 h2;refine⟨_,w',T',.inr ⟨?_,rfl⟩,⟨rfl,g1⟩,g2,g3⟩;simp[execOp,ho,Ux m hm,Ux x hx,Ux y hy,em,ex,ey,abg,h1,Result.andThen]
theorem Lb [DecidableEq κ](K:KeyLaw P kt enc)(hT:MapT enc mb ks f T)(ht:P.underlying t=some (.map kt e))(ho:o.op=.call { callee:=.builtin .delete,args:=#[m,x],argTypes:=#[t,t2] })(hm:dw L m=true)(hx:dw L x=true)(em:cN L m=.map (some mb))(ex:cN L x=enc k) :
  K7 P o L T (λ T':HL=>T') (λ u T'=>u=.tuple #[]/\MapT enc mb (ks.filter (· ≠k)) (oS f k) T'):=λ ev X w Ux hR=>by
 obtain⟨w',h1,h2,h3⟩:=(hT.mapF hR).delete K (t2:=t2) (ty:=o.type) ht k;obtain⟨T',g1,g2,g3⟩:=hT.next hR h3 h2;refine⟨_,w',T',.inl ?_,⟨rfl,g1⟩,g2,g3⟩;simp[execOp,ho,resolve,invoke,builtin,Ux m hm,Ux x hx,em,ex,abg,h1,Result.andThen]
end
def gW(N:Nat)(oo:Option Oper)(L:FL):Option (Nat×TypeId×List Value):=match oo with
 |some o=>match o.guard,(cD N o.dst undef L).isSome,o.op with
  |none,true,.lookup t m x false=>if dw L m && dw L x then some (0,t,[cN L m,cN L x]) else none
  |none,true,.mapEntry t m x=>if dw L m && dw L x then some (1,t,[cN L m,cN L x]) else none
  |none,true,.entryStore t m x y=>if dw L m && dw L x && dw L y then some (2,t,[cN L m,cN L x,cN L y]) else none
  |none,true,.mapUpdate t m x y=>if dw L m && dw L x && dw L y then some (3,t,[cN L m,cN L x,cN L y]) else none
  |_,_,_=>none
 |none=>none
section
variable {N:Nat} {L:FL} {oo:Option Oper} {t:TypeId} {a b c:Value}
theorem Lc(h:gW N oo L=some (0,t,[a,b])):∃o m x,oo=some o/\o.guard=none/\(cD N o.dst undef L).isSome=true/\o.op=.lookup t m x false/\dw L m=true/\dw L x=true/\cN L m=a/\cN L x=b:=by
 unfold gW at h;split at h
 case h_2=>cases h
 rename_i o;split at h
 case h_5=>cases h
 case h_1 t' m x h1 h2 h3=>
  split at h
  ·next hc=>
   rw[abc] at hc;simp only[de,df,acM] at h;obtain⟨-,rfl,rfl,rfl,-⟩:=h;exact⟨o,m,x,rfl,h1,h2,h3,hc.1,hc.2,rfl,rfl⟩
  ·cases h
 all_goals (split at h <;> simp at h)
theorem Qj(h:gW N oo L=some (1,t,[a,b])):∃o m x,oo=some o/\o.guard=none/\(cD N o.dst undef L).isSome=true/\o.op=.mapEntry t m x/\dw L m=true/\dw L x=true/\cN L m=a/\cN L x=b:=by
 unfold gW at h;split at h
 case h_2=>cases h
 rename_i o;split at h
 case h_5=>cases h
 case h_2 t' m x h1 h2 h3=>
  split at h
  ·next hc=>
   rw[abc] at hc;simp only[de,df,acM] at h;obtain⟨-,rfl,rfl,rfl,-⟩:=h;exact⟨o,m,x,rfl,h1,h2,h3,hc.1,hc.2,rfl,rfl⟩
  ·cases h
 all_goals (split at h <;> simp at h)
theorem Qk(h:gW N oo L=some (2,t,[a,b,c])):∃o m x y,oo=some o/\o.guard=none/\(cD N o.dst undef L).isSome=true/\o.op=.entryStore t m x y/\dw L m=true/\dw L x=true/\dw L y=true/\cN L m=a/\cN L x=b/\cN L y=c:=by
 unfold gW at h;split at h
 case h_2=>cases h
 rename_i o;split at h
 case h_5=>cases h
 case h_3 t' m x y h1 h2 h3=>
  split at h
  ·next hc=>
   rw[abc,abc] at hc;simp only[de,df,acM] at h;obtain⟨-,rfl,rfl,rfl,rfl,-⟩:=h;exact⟨o,m,x,y,rfl,h1,h2,h3,hc.1.1,hc.1.2,hc.2,rfl,rfl,rfl⟩
  ·cases h
 all_goals (split at h <;> simp at h)
theorem Ql(h:gW N oo L=some (3,t,[a,b,c])):∃o m x y,oo=some o/\o.guard=none/\(cD N o.dst undef L).isSome=true/\o.op=.mapUpdate t m x y/\dw L m=true/\dw L x=true/\dw L y=true/\cN L m=a/\cN L x=b/\cN L y=c:=by
 unfold gW at h;split at h
 case h_2=>cases h
 rename_i o;split at h
 case h_5=>cases h
 case h_4 t' m x y h1 h2 h3=>
  split at h
  ·next hc=>
   rw[abc,abc] at hc;simp only[de,df,acM] at h;obtain⟨-,rfl,rfl,rfl,rfl,-⟩:=h;exact⟨o,m,x,y,rfl,h1,h2,h3,hc.1.1,hc.1.2,hc.2,rfl,rfl,rfl⟩
  ·cases h
 all_goals (split at h <;> simp at h)
end
section
variable {r:Option Nat} {P:Program} {N:Nat} {D:List Deferred} {F:HL} {w0:World} {R:HL} {s:Cfg} {Q:Exit->Act->World->Prop} {hards:List Nat} {Rd:HL}
variable {κ:Type} {kt t e:TypeId} {enc:κ->Value} {mb:Nat} {ks:List κ} {f:κ->Option Value} {T:HL} {k:κ} {z:Value}
theorem xf(j:Nat)(K:KeyLaw P kt enc)(hT:MapT enc mb ks f T)(ht:P.underlying t=some (.map kt e))(hz:∀w,(zeroValue e).run P w=.ok z w){v:Value}(hv:(f k).getD z=v)(hk:RN r P N D F w0 R (cR N v s) Q)
  (h:gW N (eU s) s.L=some (0,t,[.map (some mb),enc k]):=by kernel_rfl) (hp:aJ [] [j] s=true:=by kernel_rfl) (hH:picks [] [j] s=([],[T]):=by kernel_rfl):RN r P N D F w0 R s Q:=by
 subst hv;obtain⟨o,m,x,e0,e1,e2,e3,e4,e5,e6,e7⟩:=Lc h;exact Qi (by rw[e3];intro c hc;cases hc) (λ _=>z7 K hT ht hz e1 e3 e2 e4 e5 e6 e7) e0 hk hp hH
theorem ND(K:KeyLaw P kt enc)(hT:MapT enc mb ks f T)(ht:P.underlying t=some (.map kt e))(hz:∀w,(zeroValue e).run P w=.ok z w){v:Value}(hv:(f k).getD z=v)(hk:RD r P N D F w0 R hards Rd (mH N i v s) Q)
  (h:gW N (eL i s) s.L=some (0,t,[.map (some mb),enc k]):=by kernel_rfl) (hp:aJ [] [j] s=true:=by kernel_rfl) (hH:picks [] [j] s=([],[T]):=by kernel_rfl) (hx:hards.contains i=false:=by kernel_rfl):RDO r P N D F w0 R hards Rd i s Q:=by
 subst hv;obtain⟨o,m,x,e0,e1,e2,e3,e4,e5,e6,e7⟩:=Lc h;exact NA (λ _=>z7 K hT ht hz e1 e3 e2 e4 e5 e6 e7) e0 hk hp hH hx
variable [DecidableEq κ]
theorem NE(K:KeyLaw P kt enc)(hT:MapT enc mb ks f T)(ht:P.underlying t=some (.map kt e))(hz:∀w,(zeroValue e).run P w=.ok z w)
  (hk:∀ (b:Nat) (T':HL),K8 enc mb (pZ ks k) (kf f k ((f k).getD z)) k b T'->RD r P N D F w0 R hards Rd (m6 (λ A=>([]:HL)++(oth [] A.length).filterMap (A[·]?)) (λ Ts=>[T']++(oth [j] Ts.length).filterMap (Ts[·]?)) (mH N i (.tuple #[(f k).getD z,goInt b]) s)) Q)
  (h:gW N (eL i s) s.L=some (1,t,[.map (some mb),enc k]):=by kernel_rfl) (hp:aJ [] [j] s=true:=by kernel_rfl) (hH:picks [] [j] s=([],[T]):=by kernel_rfl) (hx:kQ (hards.contains i) ix [] [j] s Rd=Rd:=by kernel_rfl):RDO r P N D F w0 R hards Rd i s Q:=by
 obtain⟨o,m,x,e0,e1,e2,e3,e4,e5,e6,e7⟩:=Qj h;exact xd (λ _=>⟨e1,(by rw[e3];intro c hc;cases hc),e2,NC K hT ht hz e3 e4 e5 e6 e7⟩) e0 (λ u y hy=>by obtain⟨rfl,h2⟩:=hy;exact hk y.2 y.1 h2) hp hH hx
theorem NF{v:Value}(K:KeyLaw P kt enc)(hT:K8 enc mb ks f k b T)
  (hk:∀T':HL,MapT enc mb ks (kf f k v) T'->RD r P N D F w0 R hards Rd (m6 (λ A=>([]:HL)++(oth [] A.length).filterMap (A[·]?)) (λ Ts=>[T']++(oth [j] Ts.length).filterMap (Ts[·]?)) (mH N i undef s)) Q)
  (h:gW N (eL i s) s.L=some (2,t,[.map (some mb),goInt b,v]):=by kernel_rfl) (hp:aJ [] [j] s=true:=by kernel_rfl) (hH:picks [] [j] s=([],[T]):=by kernel_rfl) (hx:kQ (hards.contains i) ix [] [j] s Rd=Rd:=by kernel_rfl):RDO r P N D F w0 R hards Rd i s Q:=by
 obtain⟨o,m,x,y,e0,e1,e2,e3,e4,e5,e6,e7,e8,e9⟩:=Qk h;exact xd (λ _=>⟨e1,(by rw[e3];intro c hc;cases hc),e2,xe K hT e3 e4 e5 e6 e7 e8 e9⟩) e0 (λ u T' hy=>by obtain⟨rfl,h2⟩:=hy;exact hk T' h2) hp hH hx
theorem NG{v:Value}(ix:List Nat)(j:Nat)(K:KeyLaw P kt enc)(hT:MapT enc mb ks f T)(ht:P.underlying t=some (.map kt e))
  (hk:∀T':HL,MapT enc mb (pZ ks k) (kf f k v) T'->RD r P N D F w0 R hards Rd (m6 (λ A=>([]:HL)++(oth [] A.length).filterMap (A[·]?)) (λ Ts=>[T']++(oth [j] Ts.length).filterMap (Ts[·]?)) (mH N i undef s)) Q)
  (h:gW N (eL i s) s.L=some (3,t,[.map (some mb),enc k,v]):=by kernel_rfl) (hp:aJ [] [j] s=true:=by kernel_rfl) (hH:picks [] [j] s=([],[T]):=by kernel_rfl) (hx:kQ (hards.contains i) ix [] [j] s Rd=Rd:=by kernel_rfl):RDO r P N D F w0 R hards Rd i s Q:=by
 obtain⟨o,m,x,y,e0,e1,e2,e3,e4,e5,e6,e7,e8,e9⟩:=Ql h;exact xd (λ _=>⟨e1,(by rw[e3];intro c hc;cases hc),e2,K9 K hT ht e3 e4 e5 e6 e7 e8 e9⟩) e0 (λ u T' hy=>by obtain⟨rfl,h2⟩:=hy;exact hk T' h2) hp hH hx
end
def Qm(N:Nat)(oo:Option Oper)(L:FL):Option (TypeId×List Value):=match oo with
 |some o=>match o.guard,(cD N o.dst undef L).isSome,o.op with
  |none,true,.call c=>match c.callee,c.args.toList,c.argTypes.toList with
   | .builtin .delete,[m,x],[t,_]=>if dw L m && dw L x then some (t,[cN L m,cN L x]) else none
   |_,_,_=>none
  |_,_,_=>none
 |none=>none
theorem Gw{L:FL}{oo:Option Oper}{a b:Value}(h:Qm N oo L=some (t,[a,b])):∃o m x tx,oo=some o/\o.guard=none/\(cD N o.dst undef L).isSome=true/\o.op=.call { callee:=.builtin .delete,args:=#[m,x],argTypes:=#[t,tx] } /\dw L m=true/\dw L x=true/\cN L m=a/\cN L x=b:=by
 unfold Qm at h;split at h
 case h_2=>cases h
 rename_i o;split at h
 case h_2=>cases h
 rename_i c h1 h2 h3;split at h
 case h_2=>cases h
 rename_i m x t' tx g1 g2 g3;split at h
 ·next hc=>
  rw[abc] at hc;simp only[de,df,acM] at h;obtain⟨rfl,rfl,rfl,-⟩:=h;refine⟨o,m,x,tx,rfl,h1,h2,?_,hc.1,hc.2,rfl,rfl⟩;obtain⟨cal,args,ats⟩:=c;simp only at g1 g2 g3;subst g1;have e1:args=#[m,x]:=by cases args;simp_all
  have e2:ats=#[t',tx]:=by cases ats;simp_all
  rw[h3,e1,e2]
 ·cases h
section
variable {r:Option Nat} {P:Program} {N:Nat} {D:List Deferred} {F:HL} {w0:World} {R:HL} {s:Cfg} {Q:Exit->Act->World->Prop}
variable {κ:Type} {kt t e:TypeId} {enc:κ->Value} {mb:Nat} {ks:List κ} {f:κ->Option Value} {T:HL} {k:κ} [DecidableEq κ]
theorem Ld(j:Nat)(K:KeyLaw P kt enc)(hT:MapT enc mb ks f T)(ht:P.underlying t=some (.map kt e))(hk:∀T':HL,MapT enc mb (ks.filter (· ≠k)) (oS f k) T'->RN r P N D F w0 R (Eg N [] [j] [] [T'] (.tuple #[]) s) Q)
  (h:Qm N (eU s) s.L=some (t,[.map (some mb),enc k]):=by kernel_rfl) (hp:aJ [] [j] s=true:=by kernel_rfl) (hH:picks [] [j] s=([],[T]):=by kernel_rfl):RN r P N D F w0 R s Q:=by
 obtain⟨o,m,x,tx,e0,e1,e2,e3,e4,e5,e6,e7⟩:=Gw h;exact Qh (λ _=>⟨e1,(by rw[e3];intro c hc;cases hc),e2,Lb K hT ht e3 e4 e5 e6 e7⟩) e0 (λ u T' hy=>by obtain⟨rfl,h2⟩:=hy;exact hk T' h2) hp hH
end
end Go.Proofs.YtjokannbjmndfaaGreatDoor
