import Derived.Test.YtkhifpbokgabbaaGreatDoorW31
import Derived.Test.YtkhifpbokgabbaaGreatDoorW07
set_option maxHeartbeats 4000000
set_option maxRecDepth 100000
set_option linter.unusedSimpArgs false
set_option linter.unusedVariables false
namespace Go.Proofs.YtkhifpbokgabbaaGreatDoor
open Go.RowKit
def preL:Nat -> Nd -> List Nd
 | 0,_=>[]
 | h+1,x=>x :: x.kids.flatMap (preL h)
def plN (h:Nat) (l:List Nd) (j:Nat):Nat:=((l.take j).flatMap (preL h)).length
theorem plN_zero (h:Nat) (l:List Nd):plN h l 0=0:=by simp [plN]
theorem plN_succ {h:Nat} {l:List Nd} {j:Nat} (hj:j < l.length):plN h l (j+1)=plN h l j+(preL h (l.getD j dN)).length:=by
 unfold plN
 rw [List.take_succ_eq_append_getElem hj,List.flatMap_append,List.length_append]
 simp [List.getElem?_eq_getElem hj]
theorem plN_all (h:Nat) (l:List Nd):plN h l l.length=(l.flatMap (preL h)).length:=by simp [plN]
theorem pre_get {h:Nat}:∀ {l:List Nd} {j i:Nat} {z:Nd},j < l.length -> (preL h (l.getD j dN))[i]?=some z -> (l.flatMap (preL h))[plN h l j+i]?=some z
 | [],_,_,_,hj,_=>absurd hj (by simp)
 | x :: l,0,i,z,_,hz=>by
  rw [plN_zero,Nat.zero_add,List.flatMap_cons]
  have hz':(preL h x)[i]?=some z:=by simpa using hz
  rw [List.getElem?_append_left (List.getElem?_eq_some_iff.1 hz').1];exact hz'
 | x :: l,j+1,i,z,hj,hz=>by
  have e:plN h (x :: l) (j+1)=(preL h x).length+plN h l j:=by simp [plN]
  rw [e,List.flatMap_cons,Nat.add_assoc,List.getElem?_append_right (by omega),Nat.add_sub_cancel_left]
  exact pre_get (by simpa using hj) (by simpa using hz)
def pw:Nat -> Nat
 | 0=>0
 | h+1=>3 * pw h+1
theorem pre_len:∀ {h:Nat} {x:Nd},Ht h x -> (preL h x).length <= pw h
 | 0,x,hx=>by cases hx
 | h+1,x,hx=>by
  have h3:=hx.kids3
  have key:∀ l:List Nd,(∀ y ∈ l,Ht h y) -> (l.flatMap (preL h)).length <= l.length * pw h:=by
   intro l
   induction l with
   | nil=>intro _;simp
   | cons y l ih =>
    intro hl
    rw [List.flatMap_cons,List.length_append,List.length_cons,Nat.succ_mul]
    have h1:=pre_len (hl y (by simp))
    have h2:=ih λ z hz=>hl z (by simp [hz])
    omega
  have h4:=key x.kids λ y hy=>hx.kid hy
  have h5:x.kids.length * pw h <= 3 * pw h:=Nat.mul_le_mul_right _ h3
  show (x :: x.kids.flatMap (preL h)).length <= 3 * pw h+1
  rw [List.length_cons];omega
abbrev YHd (xs:List Nd) (lp k0:Nat) (J:Nat -> HL -> Prop) (Jx:HL -> Prop) (F:HL):Prop:=∀ i y H Y,xs[i]?=some y -> J (k0+i) H -> YL Tryz.prog lp #[ndV y] H (Y++F) (λ b H'=>(b=true /\ J (k0+i+1) H') \/ (b=false /\ Jx H'))
theorem YHd.of0 {xs:List Nd} {lp:Nat} {J:Nat -> HL -> Prop} {Jx:HL -> Prop} {F X:HL} (hY:∀ i y H Y,xs[i]?=some y -> J i H -> YL Tryz.prog lp #[ndV y] H (Y++F) (λ b H'=>(b=true /\ J (i+1) H') \/ (b=false /\ Jx H'))):YHd xs lp 0 J Jx (X++F):=by
 intro i y H Y hy hj
 rw [Nat.zero_add] at hj ⊢
 rw [<- List.append_assoc]
 exact hY i y H (Y++X) hy hj
def VisC (h:Nat):Prop:=∀ (x:Nd) (F:HL) (lp k0:Nat) (J:Nat -> HL -> Prop) (Jx:HL -> Prop) (T:HL),Ht h x -> NdIn F x -> YHd (preL h x) lp k0 J Jx F -> J k0 T ->
 Sp Tryz.prog 92 #[ndV x,.func (.yield lp) #[] #[]] (ap [] [T]) F (λ u H'=>∃ z,H'=ap [] [z] /\ ((u=.bool true /\ J (k0+(preL h x).length) z) \/ (u=.bool false /\ Jx z)))
theorem vis_leaf (h lp k0:Nat) (k n:Int) (s:ByteArray) (Aq:Option Addr) (cq:Nat) (F:HL) (J:Nat -> HL -> Prop) (Jx:HL -> Prop) (T:HL) (hY:YHd (preL (h+1) (.mk k n s Aq cq [])) lp k0 J Jx F) (hJ:J k0 T):Sp Tryz.prog 92 #[.agg #[vI k,vI n,.string s,.slice Aq 0 cq],.func (.yield lp) #[] #[]] (ap [] [T]) F (λ u H'=>∃ z,H'=ap [] [z] /\ ((u=.bool true /\ J (k0+(preL (h+1) (.mk k n s Aq cq [])).length) z) \/ (u=.bool false /\ Jx z))):=by
 refine Sp.run Tryz.func92 rfl mn (A:=[]) (Ts:=[T]) rfl λ w0=>?_
 refine RN.go 11 [.own 0,.own 0,.own 0,.own 0] λ n1=>RN.yield 0 (hY 0 _ _ _ rfl hJ) ?_
 rintro b_ T2 (⟨rfl,hJ3⟩ | ⟨rfl,hJ3⟩)
 ·refine RN.go 16 [.own 0] λ _=>RN.rounds 1<|RN.go 17 [] λ _=>RN.ret [] [] [0] (v:=.bool true) (H':=(ap [] [T2])) ?_
  exact ⟨_,rfl,.inl ⟨rfl,hJ3⟩⟩
 ·refine RN.go 9 [] λ _=>RN.ret [] [] [0] (v:=.bool false) (H':=(ap [] [T2])) ?_
  exact ⟨_,rfl,.inr ⟨rfl,hJ3⟩⟩
theorem YHd.sub {h:Nat} {k n:Int} {s:ByteArray} {A:Option Addr} {c:Nat} {kl:List Nd} {lp k0:Nat} {J:Nat -> HL -> Prop} {Jx:HL -> Prop} {F X:HL} {j:Nat} {y:Nd} (hY:YHd (preL (h+1) (.mk k n s A c kl)) lp k0 J Jx F) (hj:j < kl.length) (ey:y=kl.getD j dN):YHd (preL h y) lp (k0+1+plN h kl j) J Jx (X++F):=by
 intro i z H Y hz hJ
 rw [ey] at hz
 have h1:(preL (h+1) (.mk k n s A c kl))[plN h kl j+i+1]?=some z:=by
  show (_ :: kl.flatMap (preL h))[_]?=_
  rw [List.getElem?_cons_succ];exact pre_get hj hz
 have h2:=hY (plN h kl j+i+1) z H (Y++X) h1 (by rw [show k0+(plN h kl j+i+1)=k0+1+plN h kl j+i by omega];exact hJ)
 rw [List.append_assoc] at h2
 rw [show k0+(plN h kl j+i+1)+1=k0+1+plN h kl j+i+1 by omega] at h2
 exact h2
theorem vis_node (h lp k0:Nat) (k n:Int) (s:ByteArray) (q N cq:Nat) (kl rest:List Nd) (F:HL) (J:Nat -> HL -> Prop) (Jx:HL -> Prop) (T:HL) (hq:(q,.rows 4 N (nrow (kl++rest)) 70 (0,0)) ∈ F) (hN:kl.length <= N) (hx:∀ y ∈ kl,Ht h y) (hk:∀ y ∈ kl,NdIn F y) (hl3:kl.length <= 3) (ih:VisC h) (hY:YHd (preL (h+1) (.mk k n s (some ⟨q,0,none⟩) cq kl)) lp k0 J Jx F) (hJ:J k0 T):Sp Tryz.prog 92 #[.agg #[vI k,vI n,.string s,vS q 0 kl.length cq],.func (.yield lp) #[] #[]] (ap [] [T]) F (λ u H'=>∃ z,H'=ap [] [z] /\ ((u=.bool true /\ J (k0+(preL (h+1) (.mk k n s (some ⟨q,0,none⟩) cq kl)).length) z) \/ (u=.bool false /\ Jx z))):=by
 refine Sp.run Tryz.func92 rfl (mc hq mn) (A:=[]) (Ts:=[T]) rfl λ w0=>?_
 refine RN.go 11 [.own 0,.own 0,.own 0,.own 0] λ n1=>RN.yield 0 (hY 0 _ _ _ rfl hJ) ?_
 rintro b_ T2 (⟨rfl,hJ3⟩ | ⟨rfl,hJ3⟩)
 ·refine RN.go 16 [.own 0] λ _=>RN.loop (σ:=Nat × HL) (λ ⟨j,T_⟩=>⟨[(1,.func (.yield lp) #[] #[]),(12,vS q 0 kl.length cq),(13,vI (kl.length:Int)),(14,vI (j:Int))],[((n1+0),.lit [vI k,vI n,.string s,vS q 0 kl.length cq] 70 (0,0))],[T_],j <= kl.length /\ J (k0+1+plN h kl j) T_,kl.length - j⟩) (0,T2) [0] [0] (⟨Nat.zero_le _,by rw [plN_zero];exact hJ3⟩) ?_
  rintro ⟨j,T_⟩ ⟨hj_,hJ_⟩ mt5
  refine RN.go 6 [] λ _=>RN.em ((j:Int) < (kl.length:Int)) 15 (λ h6=>?_) λ h6=>?_
  ·have hjk_:j < kl.length:=by omega
   have ey:((kl++rest).getD j dN)=kl.getD j dN:=by rw [List.getD_eq_getElem?_getD,List.getElem?_append_left hjk_,<- List.getD_eq_getElem?_getD]
   have hym:((kl++rest).getD j dN) ∈ kl:=by rw [ey];exact getD_mem' hjk_
   refine RN.goP 17 ([.ix j,.rorow 0 j 0,.rorow 0 j 1,.rorow 0 j 2,.rorow 0 j 3]++ow 0 8) [((0+j * 4)+3)=j * 4+3 /\ j < N,((0+j * 4)+2)=j * 4+2 /\ j < N,((0+j * 4)+1)=j * 4+1 /\ j < N,(0+j * 4)=j * 4+0 /\ j < N,(j:Int)=((j:Nat):Int) /\ j < kl.length] λ n7=>RN.ct [] [0] (ih ((kl++rest).getD j dN) _ lp (k0+1+plN h kl j) J Jx T_ (hx _ hym) (hk _ hym).up (hY.sub hjk_ ey) hJ_) ?_
   rintro _ T8 (⟨rfl,hJ9⟩ | ⟨rfl,hJ9⟩)
   ·rw [ey] at hJ9
    refine RN.goP 11 [.gen,.nw] [I64 ((j:Int)+1)] λ _=>?_
    refine mt5 (j+1,T8) [1] [0] ?_
    try dsimp only
    exact ⟨⟨by omega,by rw [plN_succ hjk_,<- Nat.add_assoc];exact hJ9⟩,by omega⟩
   ·refine RN.go 9 [] λ _=>RN.ret [] [] [0] (v:=.bool false) (H':=(ap [] [T8])) ?_
    exact ⟨_,rfl,.inr ⟨rfl,hJ9⟩⟩
  ·refine RN.go 11 [] λ _=>RN.ret [] [] [0] (v:=.bool true) (H':=(ap [] [T_])) ?_
   have ej:j=kl.length:=by omega
   subst ej
   rw [plN_all] at hJ_
   exact ⟨_,rfl,.inl ⟨rfl,by show J (k0+(_ :: kl.flatMap (preL h)).length) _;rw [List.length_cons,show k0+((kl.flatMap (preL h)).length+1)=k0+1+(kl.flatMap (preL h)).length by omega];exact hJ_⟩⟩
 ·refine RN.go 9 [] λ _=>RN.ret [] [] [0] (v:=.bool false) (H':=(ap [] [T2])) ?_
  exact ⟨_,rfl,.inr ⟨rfl,hJ3⟩⟩
theorem vis_any:∀ h,VisC h
 | 0=>λ x _ _ _ _ _ _ hx=>by cases hx
 | h+1=>λ x F lp k0 J Jx T hx hN hY hJ=>by
  cases hN with
  | leaf k n s Aq cq=>exact vis_leaf h lp k0 k n s Aq cq F J Jx T hY hJ
  | node k n s q N cq kl rest hq hN hk=>exact vis_node h lp k0 k n s q N cq kl rest F J Jx T hq hN (λ y hy=>hx.kid hy) hk hx.kids3 (vis_any h) hY hJ
theorem nods_w (b lp h:Nat) (x:Nd) (F:HL) (hb:(b,.lit [vI x.k,vI x.n,.string x.s,.slice x.A x.kids.length x.c] 70 (0,0)) ∈ F) (hx:Ht h x) (hN:NdIn F x) (J:Nat -> HL -> Prop) (Jx:HL -> Prop) (T:HL) (hY:∀ i y H Y,(preL h x)[i]?=some y -> J i H -> YL Tryz.prog lp #[ndV y] H (Y++F) (λ b H'=>(b=true /\ J (i+1) H') \/ (b=false /\ Jx H'))) (hJ:J 0 T):Sp Tryz.prog 91 #[.func (.yield lp) #[] #[],vP b 0] (ap [] [T]) F (λ _ H'=>J (preL h x).length H' \/ Jx H'):=by
 refine Sp.run Tryz.func91 rfl (mc hb mn) (A:=[]) (Ts:=[T]) rfl λ w0=>?_
 refine RN.go 3 [.ro 0,.ro 0,.ro 0,.ro 0] λ _=>RN.ct [] [0] (vis_any h x _ lp 0 J Jx T hx hN.up (YHd.of0 hY) hJ) ?_
 rintro _ T1 hJ2
 refine RN.go 1 [] λ _=>RN.ret [] [] [0] (v:=.tuple #[]) (H':=(ap [] [T1])) ?_
 rcases hJ2 with ⟨-,hA⟩ | ⟨-,hA⟩
 ·exact .inl (by rw [Nat.zero_add] at hA;rw [ap_one];exact hA)
 ·exact .inr (by rw [ap_one];exact hA)
theorem nods_it (b h:Nat) (x:Nd) (F:HL) (hb:(b,.lit [vI x.k,vI x.n,.string x.s,.slice x.A x.kids.length x.c] 70 (0,0)) ∈ F) (hx:Ht h x) (hN:NdIn F x):It Tryz.prog 91 #[vP b 0] F (λ y=>#[ndV y]) (preL h x):=by
 intro X l J Jx H0 hY hJ
 have key:=nods_w b l h x (X++F) (List.mem_append_right _ hb) hx hN.up J Jx H0 hY hJ
 rw [ap_one] at key
 exact key
theorem nodf_any (x:Nd) (F:HL):Sp Tryz.prog 59 #[.agg #[vI x.k,vI x.n,.string x.s,.slice x.A x.kids.length x.c]] [] F (λ u H'=>∃ b:Nat,H'=ap [(b,.lit [vI x.k,vI x.n,.string x.s,.slice x.A x.kids.length x.c] 70 (0,0))] [] /\ u=.func (.func 91) #[] #[vP b 0]):=by
 refine Sp.run Tryz.func59 rfl mn (A:=[]) (Ts:=[]) rfl λ w0=>?_
 refine RN.go 12 [] λ n1=>RN.ret [] [0] [] (v:=.func (.func 91) #[] #[vP (n1+0) 0]) (H':=(ap [((n1+0),.lit [vI x.k,vI x.n,.string x.s,.slice x.A x.kids.length x.c] 70 (0,0))] [])) ?_
 exact ⟨_,rfl,rfl⟩
def lkR (P:Program) (N p:Nat) (oo:Option Oper) (s:Cfg):Option (ByteArray × Bool × Value × Nat × Nat × Obj):=match oo with
  | some o=>match o.guard,o.op,(putL N o.dst undef s.L).isSome with
    | none,.lookup t x ix ok,true=>match inL s.L x && inL s.L ix,rho s.L x,rho s.L ix,P.underlying t,s.A[p]? with
      | true,.map (some b),.string k,some (.map kt et),some (b',.obj O)=>match P.underlying kt,(P.info? et).bind (·.zero) with
        | some .string,some z=>some (k,ok,z,b,b',O)
        | _,_=>none
      | _,_,_,_,_=>none
    | _,_,_=>none
  | none=>none
section
variable {r:Option Nat} {P:Program} {N:Nat} {D:List Deferred} {F:HL} {w0:World} {R:HL} {s:Cfg} {Q:Exit -> Act -> World -> Prop} {hards:List Nat} {Rd:HL}
theorem sput_some (k:ByteArray) (v:Value):∀ (kv:List (ByteArray × Value)) (b i j:Nat) (u:Value),spos kv k i=some (j,u) -> sents b (sput kv k v)=(sents b kv).modify (j - i) (λ e=>{ e with key:=.string k,val:=v }) /\ i <= j /\ ((sents b kv)[j - i]?).map (·.key)=some (.string k) /\ (sput kv k v).length=kv.length
  | [],_,_,_,_,h=>by cases h
  | (k',v') :: l,b,i,j,u,h=>by
    rw [spos] at h
    rw [sput]
    split at h
    · rename_i hk
      obtain rfl:k=k':=ba_eq.1 hk
      simp only [Option.some.injEq,Prod.mk.injEq] at h
      obtain ⟨rfl,rfl⟩:=h
      rw [if_pos (ba_self _)]
      simp [sents]
    · rename_i hk
      rw [if_neg hk]
      obtain ⟨h1,h2,h3,h4⟩:=sput_some k v l (b+1) (i+1) j u h
      have e:j - i=(j - (i+1))+1:=by omega
      rw [e]
      refine ⟨?_,by omega,?_,by simp [h4]⟩
      · rw [sents,sents,h1]
        simp
      · rw [sents]
        simpa using h3
theorem sput_none (k:ByteArray) (v:Value):∀ (kv:List (ByteArray × Value)) (b i:Nat),spos kv k i=none -> sents b (sput kv k v)=sents b kv++[{ key:=.string k,val:=v,born:=b+kv.length }] /\ (sput kv k v).length=kv.length+1
  | [],b,_,_=>by simp [sput,sents]
  | (k',v') :: l,b,i,h=>by
    rw [spos] at h
    rw [sput]
    split at h
    · cases h
    · rename_i hk
      rw [if_neg hk]
      obtain ⟨h1,h2⟩:=sput_none k v l (b+1) (i+1) h
      refine ⟨?_,by simp [h2]⟩
      rw [sents,sents,h1]
      simp
      omega
theorem update_run {P:Program} {w:World} {t kt et:TypeId} {b:Nat} {kv:List (ByteArray × Value)} {k:ByteArray} {v:Value} (ht:P.underlying t=some (.map kt et)) (hk:P.underlying kt=some .string) (hb:w.heap[b]?=some (smap kv)) :
    (Instr.mapUpdate t (.map (some b)) (.string k) v).run P w=.ok () { w with heap:=w.heap.setIfInBounds b (smap (sput kv k v)) }:=by
  unfold Instr.mapUpdate
  rw [Sem.run_bind,und_run ht]
  simp only [Result.andThen,Sem.run_bind,getObj_run hb,checkKey_s hk,findKey_s hk]
  have hset:∀ o:Obj,(setObj b o).run P w=.ok () { w with heap:=w.heap.setIfInBounds b o }:=by
    intro o
    unfold setObj
    rw [Sem.run.eq_def]
    simp only [hb]
    rfl
  cases h:spos kv k 0 with
  | none =>
    obtain ⟨h1,h2⟩:=sput_none k v kv 0 0 h
    simp only [hset]
    congr 3
    simp [smap,h1,h2]
  | some x =>
    obtain ⟨j,u⟩:=x
    obtain ⟨h1,h2,h3,h4⟩:=sput_some k v kv 0 0 j u h
    rw [Nat.sub_zero] at h1 h3
    have hks:((⟨sents 0 kv⟩:Array MapEntry)[j]?).map (·.key)=some (.string k):=by simpa using h3
    simp only [Sem.run_bind,hks,Option.getD_some]
    have hstay:(Instr.keyThatStays (.string k) (.string k)).run P w=.ok (.string k) w:=by
      unfold Instr.keyThatStays
      rw [show (10000:Nat)=9999+1 from rfl,if_pos (by simp [Instr.sameBits,ba_self])]
      rfl
    simp only [hstay]
    rw [show (smap (sput kv k v))=Obj.map ((⟨sents 0 kv⟩:Array MapEntry).modify j λ e=>{ key:=.string k,val:=v,born:=e.born }) kv.length by simp [smap,h1,h4]]
    exact hset _
def muR (P:Program) (N p:Nat) (s:Cfg):Option (ByteArray × Value × Nat × Nat × Obj):=match opAt s with
  | some o=>match o.guard,o.op,(putL N o.dst undef s.L).isSome with
    | none,.mapUpdate t m x v,true=>match inL s.L m && (inL s.L x && inL s.L v),rho s.L m,rho s.L x,P.underlying t,s.A[p]? with
      | true,.map (some b),.string k,some (.map kt _),some (b',.obj O)=>match P.underlying kt with
        | some .string=>some (k,rho s.L v,b,b',O)
        | _=>none
      | _,_,_,_,_=>none
    | none,.insert t m x v,true=>match inL s.L m && (inL s.L x && inL s.L v),rho s.L m,rho s.L x,P.underlying t,s.A[p]? with
      | true,.map (some b),.string k,some (.map kt _),some (b',.obj O)=>match P.underlying kt with
        | some .string=>some (k,rho s.L v,b,b',O)
        | _=>none
      | _,_,_,_,_=>none
    | _,_,_=>none
  | none=>none
def muB (x:Option (ByteArray × Value × Nat × Nat × Obj)):Nat:=match x with
  | some (_,_,_,b,_)=>b
  | none=>0
theorem muR_spec {P:Program} {N p:Nat} {s:Cfg} {k:ByteArray} {v:Value} {b:Nat} {O:Obj} (h:muR P N p s=some (k,v,b,b,O)) :
    ∃ o t m x y kt et,opAt s=some o /\ o.guard=none /\ (o.op=.mapUpdate t m x y \/ o.op=.insert t m x y) /\ inL s.L m=true /\ inL s.L x=true /\ inL s.L y=true /\ rho s.L m=.map (some b) /\ rho s.L x=.string k /\ rho s.L y=v /\ P.underlying t=some (.map kt et) /\ P.underlying kt=some .string /\ s.A[p]?=some (b,.obj O) /\ (putL N o.dst undef s.L).isSome=true:=by
  unfold muR at h
  split at h
  case h_2=>cases h
  rename_i o ho
  split at h
  case h_3=>cases h
  all_goals
    rename_i t m x y h1 h2 h3
    split at h
    case h_2=>cases h
    rename_i b1 k1 kt et b2 O1 h4 h5 h6 h7 h8
    split at h
    case h_2=>cases h
    rename_i h9
    simp only [Option.some.injEq,Prod.mk.injEq] at h
    obtain ⟨e1,e2,e3,e4,e5⟩:=h
    subst e1;subst e3;subst e4;subst e5
    rw [Bool.and_eq_true,Bool.and_eq_true] at h4
  · exact ⟨o,t,m,x,y,kt,et,ho,h1,.inl h2,h4.1,h4.2.1,h4.2.2,h5,h6,e2,h7,h9,h8,h3⟩
  · exact ⟨o,t,m,x,y,kt,et,ho,h1,.inr h2,h4.1,h4.2.1,h4.2.2,h5,h6,e2,h7,h9,h8,h3⟩
def obC (p:Nat) (O:Obj) (s:Cfg):Cfg:=match s with
  | ⟨c,k,L,A,Ts⟩=>⟨c,k,L,match A[p]? with | some x=>setAt A p (x.1,.obj O) | none=>A,Ts⟩
theorem RN.mu (p:Nat) {kv:List (ByteArray × Value)} {k:ByteArray} {v:Value} (hk:RN r P N D F w0 R (obC p (smap (sput kv k v)) (putC N undef s)) Q)
    (h:muR P N p s=some (k,v,muB (muR P N p s),muB (muR P N p s),smap kv):=by kernel_rfl):RN r P N D F w0 R s Q:=by
  obtain ⟨o,t,m,x,y,kt,et,q0,q1,q2,q3,q3',q3'',q4,q5,q5',q6,q7,q10,q11⟩:=muR_spec h
  refine ⟨λ hR a w hF hRel hB=>?_⟩
  generalize muB (muR P N p s)=b at *
  obtain ⟨c,kk,L,A,Ts⟩:=s
  unfold opAt at q0
  cases c with
  | code c=>cases q0
  | ex c=>cases q0
  | drw _ _=>cases q0
  | ops ops j =>
    simp only at q0 q3 q3' q3'' q4 q5 q5' q10 q11 hF hRel
    have hdrop:ops.toList.drop j=o :: ops.toList.drop (j+1):=by
      have hlt:j < ops.toList.length:=(List.getElem?_eq_some_iff.1 q0).1
      rw [List.drop_eq_getElem_cons hlt,(List.getElem?_eq_some_iff.1 q0).2]
    show wpListIn _ _ _ _ _ _ _ _
    rw [hdrop,wpListIn,if_pos (by simp [Region.wanted,q1])]
    refine ⟨λ _ _=>trivial,?_⟩
    have hb:=hRel.holds _ (List.mem_append_left _ (List.mem_append_left _ (List.mem_of_getElem? q10)))
    simp only [Blk.den] at hb
    obtain ⟨L',hl⟩:=putL_some q11 undef
    have hpc:putC N undef ⟨.ops ops j,kk,L,A,Ts⟩=⟨.ops ops (j+1),kk,L',A,Ts⟩:=by
      unfold putC
      simp only [q0,hl]
    have hh:=hk.h hR
    rw [hpc] at hh
    have e1:a.eval m=.map (some b):=(hF.eval q3).trans q4
    have e2:a.eval x=.string k:=(hF.eval q3').trans q5
    have e3:a.eval y=v:=(hF.eval q3'').trans q5'
    have hup:=update_run (P:=P) (w:=w) (k:=k) (v:=v) q6 q7 hb
    have hex:(execOp a.eval o).run P w=.ok .skip { w with heap:=w.heap.setIfInBounds b (smap (sput kv k v)) }:=by
      rcases q2 with q2 | q2
      · simp only [execOp,q2,e1,e2,e3,Sem.run_bind,hup,Result.andThen]
        rfl
      · simp only [execOp,q2,e1,e2,e3,Sem.run_bind,hup,Result.andThen]
        rfl
    have hnd:∀ c,o.op ≠ .defer c:=by
      intro c hc
      rcases q2 with q2 | q2 <;> rw [q2] at hc <;> cases hc
    rw [Oper.semAt_eq _ _ _ hnd,hex,Oper.uponIn_skip]
    have hlt:=lt_of_heap' hb
    rw [ap_assoc] at hRel
    have hR':=hRel.upd (w':={ w with heap:=w.heap.setIfInBounds b (smap (sput kv k v)) }) (bl':=.obj (smap (sput kv k v))) q10 (by
      show (w.heap.setIfInBounds b _)[b]?=_
      rw [Array.getElem?_setIfInBounds_self_of_lt hlt];rfl) (λ k' hk'=>by
      show (w.heap.setIfInBounds b _)[k']?=_
      rw [Array.getElem?_setIfInBounds_ne (λ e=>hk' e.symm)])
    refine hh _ _ (hF.put hl) ?_ (hB.trans ⟨rfl,rfl,rfl,by simp,λ k hk=>by omega⟩)
    show Rel (ap (match A[p]? with | some x=>setAt A p (x.1,.obj (smap (sput kv k v))) | none=>A) Ts++F) _
    rw [q10,ap_assoc]
    exact hR'
end
def strE:Enc ByteArray:=⟨1,λ p k=>match k with | 0=>.string p | _=>.string p,⟨#[]⟩⟩
noncomputable def strEI:TypeInfo:=match Tryz.prog.info? 9 with | some i=>i | none=>⟨.bool,"",0,0,false,0,0,none,false,#[]⟩
noncomputable def strEZ:Value:=match strEI.zero with | some z=>z | none=>.bool false
theorem strEOk:EncOk strE Tryz.prog 9 strEI strEZ where
 info:=by kernel_rfl
 zero:=by kernel_rfl
 size:=by kernel_rfl
 zsize:=by kernel_rfl
 zcell:=λ k hk=>by
  have h:∀ k < 1,strEZ.cells[k]?=some (strE.cell strE.dflt k):=by intro k hk;(iterate 1 (rcases k with _ | k;· kernel_rfl));omega
  exact h k hk
 one:=λ x k=>by unfold strE;dsimp only;split <;> rfl
 bytes:=Nat.le_of_ble_eq_true (by kernel_rfl)
theorem vars_any (x y z:Nd) (F:HL) (hx:Ht 10 x) (hy:Ht 10 y) (hw:Ht 10 z) (hN:NdIn F x) (hN2:NdIn F y) (hN3:NdIn F z):Sp Tryz.prog 35 #[.agg #[vI x.k,vI x.n,.string x.s,.slice x.A x.kids.length x.c,vI y.k,vI y.n,.string y.s,.slice y.A y.kids.length y.c,vI z.k,vI z.n,.string z.s,.slice z.A z.kids.length z.c]] [] F (λ u H'=>∃ x:List ByteArray × Option Addr × Nat × HL,H'=ap [] [x.2.2.2] /\ (u=.slice x.2.1 x.1.length x.2.2.1 /\ SlIs strE 9 x.1 x.2.1 x.2.2.1 x.2.2.2 /\ zeroOff x.2.1 /\ x.1.length <= 100000)):=by
 have epw:pw 10=29524:=by decide
 have hq1_:=pre_len hx
 have hq2_:=pre_len hy
 have hq3_:=pre_len hw
 refine Sp.runM Tryz.func35 rfl mn (A:=[]) (Ts:=[]) rfl λ w0=>?_
 refine RN.go 27 ([.own 0]++ow 3 12) λ n1=>RN.rounds 3<|RN.go 21 (ow 0 8) λ n2=>RN.ct (Hp:=[]) (Tp:=[]) [] [] (nodf_any x _) ?_
 rintro _ nb3 rfl
 refine RN.go 3 [] λ _=>RN.dn 3 (.obj (smap []))<|RN.nt<|RN.range (σ:=List ByteArray × Option Addr × Nat × HL × List (ByteArray × Value)) (τ:=List ByteArray × Option Addr × Nat × HL × List (ByteArray × Value) × Nd × Nat) (encs:=λ (x_:Nd)=>#[.agg #[vI x_.k,vI x_.n,.string x_.s,.slice x_.A x_.kids.length x_.c]]) (xs:=(preL 10 x)) (enters_of Tryz.func91 (by kernel_rfl) rfl) (λ ⟨nm_,A_,c_,T_,kv_⟩=>([((n1+1),.lit [.slice A_ nm_.length c_] 104 (0,0)),((n1+2),.obj (smap kv_)),((n1+3),.lit [.map (some (n1+2))] 99 (0,0))],[T_])) (λ i_ ⟨nm_,A_,c_,T_,kv_⟩=>SlIs strE 9 nm_ A_ c_ T_ /\ zeroOff A_ /\ nm_.length <= 0+i_ /\ AllInt kv_) (λ c_ ⟨nm_,A_,c_,T_,kv_⟩=>False) (λ ⟨nm_,A_,c_,T_,kv_,z_,nq⟩=>⟨[(3,vP (n1+1) 0),(4,vP (n1+3) 0),(7,vP (nq+0) 0),(12,.agg #[vI x.k,vI x.n,.string x.s,.slice x.A x.kids.length x.c,vI y.k,vI y.n,.string y.s,.slice y.A y.kids.length y.c,vI z.k,vI z.n,.string z.s,.slice z.A z.kids.length z.c]),(13,vI 0)],[((nq+0),.lit [vI z_.k,vI z_.n,.string z_.s,.slice z_.A z_.kids.length z_.c] 70 (0,0)),((n1+1),.lit [.slice A_ nm_.length c_] 104 (0,0)),((n1+2),.obj (smap kv_)),((n1+3),.lit [.map (some (n1+2))] 99 (0,0))],[T_],True,0⟩) (λ i_ x_ ⟨nm_,A_,c_,T_,kv_,z_,nq⟩=>z_=x_ /\ SlIs strE 9 nm_ A_ c_ T_ /\ zeroOff A_ /\ nm_.length <= 0+i_ /\ AllInt kv_) ([],none,0,([]:HL),[]) (⟨(SlIs.nil _ _),trivial,(by simp only [List.length_nil];omega),(λ x hx=>by simp at hx)⟩) [4,3,2] [0] (nods_it nb3 10 x _ (in_ap 0) hx hN.up) ?_ ?_ ?_ ?_
 ·rintro l_ i_ x_ ⟨nm_,A_,c_,T_,kv_⟩ Y4 w5 hx6 ⟨hs_,hz_,hl_,hkv_⟩ mt7
  refine RN.go 4 [.own 0,.own 0,.own 0,.own 0] λ n8=>?_
  refine mt7 (nm_,A_,c_,T_,kv_,x_,n8) [0,1,2,3] [0] ?_
  try dsimp only
  exact ⟨rfl,hs_,hz_,hl_,hkv_⟩
 ·rintro l_ i_ x_ ⟨nm_,A_,c_,T_,kv_,z_,nq⟩ Y9 w10 hx11 ⟨rfl,hs_,hz_,hl_,hkv_⟩
  have hl0_:=(List.getElem?_eq_some_iff.1 hx11).1
  have hl1_:=pre_len hx
  have epw:pw 10=29524:=by decide
  refine RN.go 8 [.own 0] λ _=>RN.en (z_.k=1) 22 (λ h12=>?_) λ h12=>?_
  ·refine RN.goO 28 [.own 3,.own 0,.mp 2 kv_ (.tuple #[vI (iget kv_ z_.s),.bool ((sget kv_ z_.s).isSome)])] (λ _=>[smap kv_=smap kv_ /\ lkV kv_ z_.s true (vI 0)=.tuple #[vI (iget kv_ z_.s),.bool ((sget kv_ z_.s).isSome)]]) (λ _=>(ac ⟨rfl,(lk_int2 hkv_ _)⟩ an)) λ _=>RN.eB ((sget kv_ z_.s).isSome) 35 (λ h13=>?_) λ h13=>?_
   ·refine RN.go 3 [] λ _=>RN.rn (nm_,A_,c_,T_,kv_) [1,2,3] [0] ?_
    try dsimp only
    exact ⟨hs_,hz_,by omega,hkv_⟩
   ·refine RN.go 8 [.own 3,.own 0,.own 1] λ _=>RN.mu (kv:=kv_) (k:=z_.s) (v:=vI (nm_.length:Int)) 2<|RN.go 7 [.own 1,.own 0] λ n14=>RN.app strEOk nm_ [z_.s] 0 0 rfl hs_ (by simp;omega) ?_
    rintro A15 c16 T17 ⟨hs18,hz19⟩
    refine RN.go 3 [.own 2] λ _=>RN.bv 2 (congrArg (λ v_=>(.lit [.slice A15 v_ c16] 104 (0,0):Blk)) (show nm_.length+1=(nm_++[z_.s]).length by simp))<|RN.rn (nm_++[z_.s],A15,c16,T17,(sput kv_ z_.s (vI (nm_.length:Int)))) [2,3,4] [0] ?_
    try dsimp only
    exact ⟨hs18,hz19 hz_,by rw [List.length_append];simp only [List.length_singleton];omega,hkv_.put _ _⟩
  ·refine RN.go 6 [.own 0] λ _=>RN.en (z_.k=10) 26 (λ h20=>?_) λ h20=>?_
   ·refine RN.goO 22 [.own 3,.own 0,.mp 2 kv_ (.tuple #[vI (iget kv_ z_.s),.bool ((sget kv_ z_.s).isSome)])] (λ _=>[smap kv_=smap kv_ /\ lkV kv_ z_.s true (vI 0)=.tuple #[vI (iget kv_ z_.s),.bool ((sget kv_ z_.s).isSome)]]) (λ _=>(ac ⟨rfl,(lk_int2 hkv_ _)⟩ an)) λ _=>RN.eB ((sget kv_ z_.s).isSome) 35 (λ h21=>?_) λ h21=>?_
    ·refine RN.go 3 [] λ _=>RN.rn (nm_,A_,c_,T_,kv_) [1,2,3] [0] ?_
     try dsimp only
     exact ⟨hs_,hz_,by omega,hkv_⟩
    ·refine RN.go 8 [.own 3,.own 0,.own 1] λ _=>RN.mu (kv:=kv_) (k:=z_.s) (v:=vI (nm_.length:Int)) 2<|RN.go 7 [.own 1,.own 0] λ n22=>RN.app strEOk nm_ [z_.s] 0 0 rfl hs_ (by simp;omega) ?_
     rintro A23 c24 T25 ⟨hs26,hz27⟩
     refine RN.go 3 [.own 2] λ _=>RN.bv 2 (congrArg (λ v_=>(.lit [.slice A23 v_ c24] 104 (0,0):Blk)) (show nm_.length+1=(nm_++[z_.s]).length by simp))<|RN.rn (nm_++[z_.s],A23,c24,T25,(sput kv_ z_.s (vI (nm_.length:Int)))) [2,3,4] [0] ?_
     try dsimp only
     exact ⟨hs26,hz27 hz_,by rw [List.length_append];simp only [List.length_singleton];omega,hkv_.put _ _⟩
   ·refine RN.go 4 [] λ _=>RN.rn (nm_,A_,c_,T_,kv_) [1,2,3] [0] ?_
    try dsimp only
    exact ⟨hs_,hz_,by omega,hkv_⟩
 ·rintro d28 ⟨nm_,A_,c_,T_,kv_⟩  ⟨hs_,hz_,hl_,hkv_⟩
  have hq0_:=pre_len hx
  refine RN.go 29 (ow 0 8) λ n29=>RN.ct (Hp:=[]) (Tp:=[]) [] [] (nodf_any y _) ?_
  rintro _ nb30 rfl
  refine RN.go 3 [] λ _=>RN.range (σ:=List ByteArray × Option Addr × Nat × HL × List (ByteArray × Value)) (τ:=List ByteArray × Option Addr × Nat × HL × List (ByteArray × Value) × Nd × Nat) (encs:=λ (x_:Nd)=>#[.agg #[vI x_.k,vI x_.n,.string x_.s,.slice x_.A x_.kids.length x_.c]]) (xs:=(preL 10 y)) (enters_of Tryz.func91 (by kernel_rfl) rfl) (λ ⟨nm_,A_,c_,T_,kv_⟩=>([((n1+1),.lit [.slice A_ nm_.length c_] 104 (0,0)),((n1+2),.obj (smap kv_)),((n1+3),.lit [.map (some (n1+2))] 99 (0,0))],[T_])) (λ i_ ⟨nm_,A_,c_,T_,kv_⟩=>SlIs strE 9 nm_ A_ c_ T_ /\ zeroOff A_ /\ nm_.length <= (0+(preL 10 x).length)+i_ /\ AllInt kv_) (λ c_ ⟨nm_,A_,c_,T_,kv_⟩=>False) (λ ⟨nm_,A_,c_,T_,kv_,z_,nq⟩=>⟨[(3,vP (n1+1) 0),(4,vP (n1+3) 0),(7,vP (nq+0) 0),(12,.agg #[vI x.k,vI x.n,.string x.s,.slice x.A x.kids.length x.c,vI y.k,vI y.n,.string y.s,.slice y.A y.kids.length y.c,vI z.k,vI z.n,.string z.s,.slice z.A z.kids.length z.c]),(13,vI 1)],[((nq+0),.lit [vI z_.k,vI z_.n,.string z_.s,.slice z_.A z_.kids.length z_.c] 70 (0,0)),((n1+1),.lit [.slice A_ nm_.length c_] 104 (0,0)),((n1+2),.obj (smap kv_)),((n1+3),.lit [.map (some (n1+2))] 99 (0,0))],[T_],True,0⟩) (λ i_ x_ ⟨nm_,A_,c_,T_,kv_,z_,nq⟩=>z_=x_ /\ SlIs strE 9 nm_ A_ c_ T_ /\ zeroOff A_ /\ nm_.length <= (0+(preL 10 x).length)+i_ /\ AllInt kv_) (nm_,A_,c_,T_,kv_) (⟨hs_,hz_,(by omega),hkv_⟩) [3,4,5] [0] (nods_it nb30 10 y _ (in_ap 0) hy hN2.up) ?_ ?_ ?_ ?_
  ·rintro l_ i_ x_ ⟨nm_,A_,c_,T_,kv_⟩ Y31 w32 hx33 ⟨hs_,hz_,hl_,hkv_⟩ mt34
   refine RN.go 4 [.own 0,.own 0,.own 0,.own 0] λ n35=>?_
   refine mt34 (nm_,A_,c_,T_,kv_,x_,n35) [0,1,2,3] [0] ?_
   try dsimp only
   exact ⟨rfl,hs_,hz_,hl_,hkv_⟩
  ·rintro l_ i_ x_ ⟨nm_,A_,c_,T_,kv_,z_,nq⟩ Y36 w37 hx38 ⟨rfl,hs_,hz_,hl_,hkv_⟩
   have hl0_:=(List.getElem?_eq_some_iff.1 hx38).1
   have hl1_:=pre_len hy
   have epw:pw 10=29524:=by decide
   refine RN.go 8 [.own 0] λ _=>RN.en (z_.k=1) 22 (λ h39=>?_) λ h39=>?_
   ·refine RN.goO 28 [.own 3,.own 0,.mp 2 kv_ (.tuple #[vI (iget kv_ z_.s),.bool ((sget kv_ z_.s).isSome)])] (λ _=>[smap kv_=smap kv_ /\ lkV kv_ z_.s true (vI 0)=.tuple #[vI (iget kv_ z_.s),.bool ((sget kv_ z_.s).isSome)]]) (λ _=>(ac ⟨rfl,(lk_int2 hkv_ _)⟩ an)) λ _=>RN.eB ((sget kv_ z_.s).isSome) 35 (λ h40=>?_) λ h40=>?_
    ·refine RN.go 3 [] λ _=>RN.rn (nm_,A_,c_,T_,kv_) [1,2,3] [0] ?_
     try dsimp only
     exact ⟨hs_,hz_,by omega,hkv_⟩
    ·refine RN.go 8 [.own 3,.own 0,.own 1] λ _=>RN.mu (kv:=kv_) (k:=z_.s) (v:=vI (nm_.length:Int)) 2<|RN.go 7 [.own 1,.own 0] λ n41=>RN.app strEOk nm_ [z_.s] 0 0 rfl hs_ (by simp;omega) ?_
     rintro A42 c43 T44 ⟨hs45,hz46⟩
     refine RN.go 3 [.own 2] λ _=>RN.bv 2 (congrArg (λ v_=>(.lit [.slice A42 v_ c43] 104 (0,0):Blk)) (show nm_.length+1=(nm_++[z_.s]).length by simp))<|RN.rn (nm_++[z_.s],A42,c43,T44,(sput kv_ z_.s (vI (nm_.length:Int)))) [2,3,4] [0] ?_
     try dsimp only
     exact ⟨hs45,hz46 hz_,by rw [List.length_append];simp only [List.length_singleton];omega,hkv_.put _ _⟩
   ·refine RN.go 6 [.own 0] λ _=>RN.en (z_.k=10) 26 (λ h47=>?_) λ h47=>?_
    ·refine RN.goO 22 [.own 3,.own 0,.mp 2 kv_ (.tuple #[vI (iget kv_ z_.s),.bool ((sget kv_ z_.s).isSome)])] (λ _=>[smap kv_=smap kv_ /\ lkV kv_ z_.s true (vI 0)=.tuple #[vI (iget kv_ z_.s),.bool ((sget kv_ z_.s).isSome)]]) (λ _=>(ac ⟨rfl,(lk_int2 hkv_ _)⟩ an)) λ _=>RN.eB ((sget kv_ z_.s).isSome) 35 (λ h48=>?_) λ h48=>?_
     ·refine RN.go 3 [] λ _=>RN.rn (nm_,A_,c_,T_,kv_) [1,2,3] [0] ?_
      try dsimp only
      exact ⟨hs_,hz_,by omega,hkv_⟩
     ·refine RN.go 8 [.own 3,.own 0,.own 1] λ _=>RN.mu (kv:=kv_) (k:=z_.s) (v:=vI (nm_.length:Int)) 2<|RN.go 7 [.own 1,.own 0] λ n49=>RN.app strEOk nm_ [z_.s] 0 0 rfl hs_ (by simp;omega) ?_
      rintro A50 c51 T52 ⟨hs53,hz54⟩
      refine RN.go 3 [.own 2] λ _=>RN.bv 2 (congrArg (λ v_=>(.lit [.slice A50 v_ c51] 104 (0,0):Blk)) (show nm_.length+1=(nm_++[z_.s]).length by simp))<|RN.rn (nm_++[z_.s],A50,c51,T52,(sput kv_ z_.s (vI (nm_.length:Int)))) [2,3,4] [0] ?_
      try dsimp only
      exact ⟨hs53,hz54 hz_,by rw [List.length_append];simp only [List.length_singleton];omega,hkv_.put _ _⟩
    ·refine RN.go 4 [] λ _=>RN.rn (nm_,A_,c_,T_,kv_) [1,2,3] [0] ?_
     try dsimp only
     exact ⟨hs_,hz_,by omega,hkv_⟩
  ·rintro d55 ⟨nm_,A_,c_,T_,kv_⟩  ⟨hs_,hz_,hl_,hkv_⟩
   have hq1_:=pre_len hy
   refine RN.go 29 (ow 0 8) λ n56=>RN.ct (Hp:=[]) (Tp:=[]) [] [] (nodf_any z _) ?_
   rintro _ nb57 rfl
   refine RN.go 3 [] λ _=>RN.range (σ:=List ByteArray × Option Addr × Nat × HL × List (ByteArray × Value)) (τ:=List ByteArray × Option Addr × Nat × HL × List (ByteArray × Value) × Nd × Nat) (encs:=λ (x_:Nd)=>#[.agg #[vI x_.k,vI x_.n,.string x_.s,.slice x_.A x_.kids.length x_.c]]) (xs:=(preL 10 z)) (enters_of Tryz.func91 (by kernel_rfl) rfl) (λ ⟨nm_,A_,c_,T_,kv_⟩=>([((n1+1),.lit [.slice A_ nm_.length c_] 104 (0,0)),((n1+2),.obj (smap kv_)),((n1+3),.lit [.map (some (n1+2))] 99 (0,0))],[T_])) (λ i_ ⟨nm_,A_,c_,T_,kv_⟩=>SlIs strE 9 nm_ A_ c_ T_ /\ zeroOff A_ /\ nm_.length <= ((0+(preL 10 x).length)+(preL 10 y).length)+i_ /\ AllInt kv_) (λ c_ ⟨nm_,A_,c_,T_,kv_⟩=>False) (λ ⟨nm_,A_,c_,T_,kv_,z_,nq⟩=>⟨[(3,vP (n1+1) 0),(4,vP (n1+3) 0),(7,vP (nq+0) 0),(12,.agg #[vI x.k,vI x.n,.string x.s,.slice x.A x.kids.length x.c,vI y.k,vI y.n,.string y.s,.slice y.A y.kids.length y.c,vI z.k,vI z.n,.string z.s,.slice z.A z.kids.length z.c]),(13,vI 2)],[((nq+0),.lit [vI z_.k,vI z_.n,.string z_.s,.slice z_.A z_.kids.length z_.c] 70 (0,0)),((n1+1),.lit [.slice A_ nm_.length c_] 104 (0,0)),((n1+2),.obj (smap kv_)),((n1+3),.lit [.map (some (n1+2))] 99 (0,0))],[T_],True,0⟩) (λ i_ x_ ⟨nm_,A_,c_,T_,kv_,z_,nq⟩=>z_=x_ /\ SlIs strE 9 nm_ A_ c_ T_ /\ zeroOff A_ /\ nm_.length <= ((0+(preL 10 x).length)+(preL 10 y).length)+i_ /\ AllInt kv_) (nm_,A_,c_,T_,kv_) (⟨hs_,hz_,(by omega),hkv_⟩) [3,4,5] [0] (nods_it nb57 10 z _ (in_ap 0) hw hN3.up) ?_ ?_ ?_ ?_
   ·rintro l_ i_ x_ ⟨nm_,A_,c_,T_,kv_⟩ Y58 w59 hx60 ⟨hs_,hz_,hl_,hkv_⟩ mt61
    refine RN.go 4 [.own 0,.own 0,.own 0,.own 0] λ n62=>?_
    refine mt61 (nm_,A_,c_,T_,kv_,x_,n62) [0,1,2,3] [0] ?_
    try dsimp only
    exact ⟨rfl,hs_,hz_,hl_,hkv_⟩
   ·rintro l_ i_ x_ ⟨nm_,A_,c_,T_,kv_,z_,nq⟩ Y63 w64 hx65 ⟨rfl,hs_,hz_,hl_,hkv_⟩
    have hl0_:=(List.getElem?_eq_some_iff.1 hx65).1
    have hl1_:=pre_len hw
    have epw:pw 10=29524:=by decide
    refine RN.go 8 [.own 0] λ _=>RN.en (z_.k=1) 22 (λ h66=>?_) λ h66=>?_
    ·refine RN.goO 28 [.own 3,.own 0,.mp 2 kv_ (.tuple #[vI (iget kv_ z_.s),.bool ((sget kv_ z_.s).isSome)])] (λ _=>[smap kv_=smap kv_ /\ lkV kv_ z_.s true (vI 0)=.tuple #[vI (iget kv_ z_.s),.bool ((sget kv_ z_.s).isSome)]]) (λ _=>(ac ⟨rfl,(lk_int2 hkv_ _)⟩ an)) λ _=>RN.eB ((sget kv_ z_.s).isSome) 35 (λ h67=>?_) λ h67=>?_
     ·refine RN.go 3 [] λ _=>RN.rn (nm_,A_,c_,T_,kv_) [1,2,3] [0] ?_
      try dsimp only
      exact ⟨hs_,hz_,by omega,hkv_⟩
     ·refine RN.go 8 [.own 3,.own 0,.own 1] λ _=>RN.mu (kv:=kv_) (k:=z_.s) (v:=vI (nm_.length:Int)) 2<|RN.go 7 [.own 1,.own 0] λ n68=>RN.app strEOk nm_ [z_.s] 0 0 rfl hs_ (by simp;omega) ?_
      rintro A69 c70 T71 ⟨hs72,hz73⟩
      refine RN.go 3 [.own 2] λ _=>RN.bv 2 (congrArg (λ v_=>(.lit [.slice A69 v_ c70] 104 (0,0):Blk)) (show nm_.length+1=(nm_++[z_.s]).length by simp))<|RN.rn (nm_++[z_.s],A69,c70,T71,(sput kv_ z_.s (vI (nm_.length:Int)))) [2,3,4] [0] ?_
      try dsimp only
      exact ⟨hs72,hz73 hz_,by rw [List.length_append];simp only [List.length_singleton];omega,hkv_.put _ _⟩
    ·refine RN.go 6 [.own 0] λ _=>RN.en (z_.k=10) 26 (λ h74=>?_) λ h74=>?_
     ·refine RN.goO 22 [.own 3,.own 0,.mp 2 kv_ (.tuple #[vI (iget kv_ z_.s),.bool ((sget kv_ z_.s).isSome)])] (λ _=>[smap kv_=smap kv_ /\ lkV kv_ z_.s true (vI 0)=.tuple #[vI (iget kv_ z_.s),.bool ((sget kv_ z_.s).isSome)]]) (λ _=>(ac ⟨rfl,(lk_int2 hkv_ _)⟩ an)) λ _=>RN.eB ((sget kv_ z_.s).isSome) 35 (λ h75=>?_) λ h75=>?_
      ·refine RN.go 3 [] λ _=>RN.rn (nm_,A_,c_,T_,kv_) [1,2,3] [0] ?_
       try dsimp only
       exact ⟨hs_,hz_,by omega,hkv_⟩
      ·refine RN.go 8 [.own 3,.own 0,.own 1] λ _=>RN.mu (kv:=kv_) (k:=z_.s) (v:=vI (nm_.length:Int)) 2<|RN.go 7 [.own 1,.own 0] λ n76=>RN.app strEOk nm_ [z_.s] 0 0 rfl hs_ (by simp;omega) ?_
       rintro A77 c78 T79 ⟨hs80,hz81⟩
       refine RN.go 3 [.own 2] λ _=>RN.bv 2 (congrArg (λ v_=>(.lit [.slice A77 v_ c78] 104 (0,0):Blk)) (show nm_.length+1=(nm_++[z_.s]).length by simp))<|RN.rn (nm_++[z_.s],A77,c78,T79,(sput kv_ z_.s (vI (nm_.length:Int)))) [2,3,4] [0] ?_
       try dsimp only
       exact ⟨hs80,hz81 hz_,by rw [List.length_append];simp only [List.length_singleton];omega,hkv_.put _ _⟩
     ·refine RN.go 4 [] λ _=>RN.rn (nm_,A_,c_,T_,kv_) [1,2,3] [0] ?_
      try dsimp only
      exact ⟨hs_,hz_,by omega,hkv_⟩
   ·rintro d82 ⟨nm_,A_,c_,T_,kv_⟩  ⟨hs_,hz_,hl_,hkv_⟩
    have hq2_:=pre_len hw
    refine RN.go 26 [.own 1] λ _=>RN.retM [d82,d55,d28] [0,6,9] [] [] [0] (v:=.slice A_ nm_.length c_) (H':=(ap [] [T_])) ?_
    exact ⟨(nm_,A_,c_,T_),rfl,rfl,hs_,hz_,(by dsimp only;omega)⟩
   ·exact λ _ _ _ h=>h.elim
  ·exact λ _ _ _ h=>h.elim
 ·exact λ _ _ _ h=>h.elim
end Go.Proofs.YtkhifpbokgabbaaGreatDoor
