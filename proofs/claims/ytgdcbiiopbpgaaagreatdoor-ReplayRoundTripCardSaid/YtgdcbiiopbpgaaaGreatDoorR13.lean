import Derived.Test.YtgdcbiiopbpgaaaGreatDoorR12
import Derived.Test.YtgdcbiiopbpgaaaGreatDoorR00
import Derived.Test.YtgdcbiiopbpgaaaGreatDoorR09
set_option maxHeartbeats 4000000
set_option maxRecDepth 100000
set_option linter.unusedSimpArgs false
set_option linter.unusedVariables false
namespace Go.Proofs.YtgdcbiiopbpgaaaGreatDoor
open Go.RowKit
section code
variable {ν ν':Nu} {P:Program} {G N:Nat} {T T':Tr Value} {a:Act} {H H':AH} {F:HL} {w w':World} {r r':Option Nat} {ih:Task -> Option Rs}
theorem Ext.sub'{n m k:Nat}(h1:Ext ν ν' n m)(hf:Fr ν n k)(hm:m <= k):ν.Le ν':=h1.sub λ i a b=>hf i a (by omega)
theorem xN(r_:kG P G ih){c:Code}(hc:∀ (s:St) e s',ja P G ih r N c s=some (e,s') -> jL P G (.code r N c s) (.cd e s')){s s':St}{e:Ex}(h:ja P G ih r N (.loop c) s=some (e,s')):jL P G (.loop r N c s) (.cd e s'):=by
 rw[ja] at h
 split at h
 ·rename_i s1 h1
  obtain⟨q1,q2⟩:=hc _ _ _ h1
  split at h
  ·rename_i e2 s2 h2
   cases h
   obtain⟨p1,p2⟩:=r_ _ _ h2
   refine⟨by omega,λ ν F a w r' Q hr hs hf hk=>xH ?_⟩
   refine q2 ν F a w r' _ hr hs (λ i a b=>hf i a (by omega)) (λ ν' a' w' k1 k2 k3=>?_)
   have QL:=k1.sub' hf p1
   exact p2 ν' F a' w' r' Q (hr.mono QL) k2 (k1.fr hf p1) (λ ν2 a2 w2 g1 g2 g3=>hk ν2 a2 w2 (k1.trans g1) g2 (k3.trans g3))
  ·cases h
 ·rename_i x I_
  obtain⟨q1,q2⟩:=hc _ _ _ h
  refine⟨q1,λ ν F a w r' Q hr hs hf hk=>xH ?_⟩
  refine q2 ν F a w r' _ hr hs hf (λ ν' a' w' k1 k2 k3=>?_)
  have:=hk ν' a' w' k1 k2 k3
  cases e with
  | normal=>exact(I_ _ h).elim
  | exit id=>exact this
  | ret=>exact this
theorem GY{c:Code}{e:Ex}{Q:Exit -> Act -> World -> Prop}{a:Act}(h:Bz c=some e)(hq:Q e.out a w):c.wpIn (Wr r') 0 P Q a w:=by
 unfold Bz at h
 split at h
 ·cases h;exact wpIn_ret hq
 ·cases h;exact wpIn_exit hq
 ·cases h
theorem zW{fn:FuncId}{tm:Array Value}{ps:Array Tmp}{as bo:Code}{w:World}:(Instr.enterLoop fn tm ps as bo none).run P w =
  .ok (w.heap.size+1,[{ target:=.collected w.heap.size,args:=#[] }]) { w with heap:=(w.heap.push (.deferred (some []))).push (.loop { state:=.ready,pending:=none,fn,tmps:=tm,params:=ps,assign:=as,body:=bo,defers:=w.heap.size }) }:=by
 unfold Instr.enterLoop
 simp only[Sem.run_bind,ff,cG,Result.andThen_ok,Array.size_push]
theorem zX{fn:FuncId}{tm:Array Value}{ps:Array Tmp}{as bo:Code}{w:World}{l:Nat}{lp:Loop}(h:w.heap[l]?=some (.loop lp)):(Instr.enterLoop fn tm ps as bo (some l)).run P w =
  .ok (w.heap.size,[]) { w with heap:=w.heap.push (.loop { state:=.ready,pending:=none,fn,tmps:=tm,params:=ps,assign:=as,body:=bo,defers:=lp.defers }) }:=by
 unfold Instr.enterLoop
 simp only[Sem.run_bind,ff,cG,Result.andThen_ok,gN h]
theorem lE{l:Nat}{lp:Loop}{o:Obj}(h:w.heap[l]?=some (.loop lp)):(setObj l o).run P w=.ok () { w with heap:=w.heap.setIfInBounds l o }:=by
 unfold setObj
 rw[Sem.run.eq_def]
 simp only[h]
 rfl
theorem HR.setObj(hH:HR ν H F w){h b K:Nat}{b0 b1:AB}{o':Obj}(hb:bL H h=some b0)(hw0:GI b0=true)(hw1:GI b1=true)(hν:ν h=some (b,K))(ho:OR ν K b1 o'):HR ν (cT H h (some b1)) F { w with heap:=w.heap.setIfInBounds b o' }:=by
 have iF:=hH.lt hb hν
 refine hH.upd hb hw0 hw1 hν (o':=o') ?_ ho (λ k hk=>?_)
 ·show (w.heap.setIfInBounds b o')[b]?=_
  rw[Array.getElem?_setIfInBounds_self_of_lt iF]
 ·show (w.heap.setIfInBounds b o')[k]?=_
  rw[Array.getElem?_setIfInBounds_ne (Ne.symm hk)]
theorem l7{b:Nat}{o:Obj}:Below 0 w { w with heap:=w.heap.setIfInBounds b o }:=⟨rfl,rfl,rfl,by simp,λ k hk=>by omega⟩
theorem xO{l:Nat}{lp:Loop}(h:w.heap[l]?=some (.loop lp))(hb:lp.state ≠ .busy):(Instr.endLoop l).run P w=.ok lp.pending { w with heap:=w.heap.setIfInBounds l (.loop { lp with state:=.exhausted }) }:=by
 unfold Instr.endLoop
 rw[Sem.run_bind,gN h]
 simp only[Result.andThen_ok]
 rw[if_neg (by simpa using hb)]
 rw[Sem.run_bind,lE h]
 rfl
theorem DH(r_:kG P G ih){g:Operand}{ps:Array Tmp}{as bo:Code}{s s':St}{e:Ex}(h:ja P G ih r N (.rangeFunc g ps as bo) s=some (e,s')):jL P G (.code r N (.rangeFunc g ps as bo) s) (.cd e s'):=by
 rw[ja.eq_def] at h
 simp only at h
 split at h
 case h_2=>cases h
 rename_i f first captured hg hk
 split at h
 case h_2=>cases h
 rename_i hB
 split at h
 case h_2=>cases h
 rename_i d D H1 n1 QU
 split at h
 case h_2=>cases h
 rename_i v H2 n2 RP
 split at h
 case h_2=>cases h
 rename_i st pend T' N' UT UH Y0 d' hlp
 obtain⟨hle,Uf⟩:=r_ _ _ RP
 have hn1:s.n <= n1:=by
  cases r with
  | none=>simp only[Option.some.injEq,Prod.mk.injEq] at QU;omega
  | some l0 =>
   simp only at QU
   split at QU
   ·simp only[Option.some.injEq,Prod.mk.injEq] at QU;omega
   ·cases QU
 have iS:st ≠ .busy:=by
  rintro rfl
  simp at h
 have QH:s'=⟨s.T,D,cT H2 n1 (some (.loop .exhausted pend T' N' UT UH Y0 d')),n2⟩ /\ ((pend=none /\ e=.normal) \/ ∃c,pend=some c /\ Bz c=some e):=by
  cases st with
  | busy=>exact(iS rfl).elim
  | _ =>
   cases pend with
   | none=>simp at h;exact⟨h.2.symm,.inl ⟨rfl,h.1.symm⟩⟩
   | some c =>
    simp only at h
    split at h
    ·rename_i e1 he
     cases h
     exact⟨rfl,.inr ⟨c,rfl,he⟩⟩
    ·cases h
 obtain⟨rfl,hpend⟩:=QH
 refine⟨by simp only;omega,λ ν F a w r' Q hr hs hf hkk=>?_⟩
 simp only at hf hkk
 refine wpIn_rangeFunc λ fn _=>?_
 have hlay:∃ (l:Nat) (mark:List Deferred) (w1:World) (ν1:Nu),(Instr.enterLoop fn a.tmps ps as bo (Wr r').round).run P w=.ok (l,mark) w1 /\ ν1 n1=some (l,0) /\ Ext ν ν1 s.n (n1+1) /\ HR ν1 (cT H1 n1 (some (.loop .ready none s.T N ps as bo d))) F w1 /\ Below 0 w w1 /\ DsR ν1 D (mark++a.defers) /\ ν.Le ν1:=by
  cases hr with
  | none =>
   simp only[Option.some.injEq,Prod.mk.injEq] at QU
   obtain⟨e1,e2,e3,e4⟩:=QU
   subst e1;subst e2;subst e3;subst e4
   have Vi:ν s.n=none:=hf _ (Nat.le_refl _) (by omega)
   have hx1:Ext ν (ν.upd s.n w.heap.size 0) s.n (s.n+1):=.upd
   have Uv:=j4 (r:=w.heap.size) (K:=0) Vi
   have h1:HR (ν.upd s.n w.heap.size 0) (cT s.H s.n (some (.dfr false))) F { w with heap:=w.heap.push (.deferred (some [])) }:=hs.h.new (K:=0) Vi (b:=.dfr false) (o:=.deferred (some [])) rfl rfl rfl
   have hn2:(ν.upd s.n w.heap.size 0) (s.n+1)=none:=by rw[eJ (by omega)];exact hf _ (by omega) (by omega)
   have Xl:Ext (ν.upd s.n w.heap.size 0) ((ν.upd s.n w.heap.size 0).upd (s.n+1) (w.heap.size+1) 0) (s.n+1) (s.n+1+1):=.upd
   have Vl:=j4 (r:=w.heap.size+1) (K:=0) hn2
   have h2:=h1.new (K:=0) (w':={ w with heap:=(w.heap.push (.deferred (some []))).push (.loop { state:=.ready,pending:=none,fn,tmps:=a.tmps,params:=ps,assign:=as,body:=bo,defers:=w.heap.size }) }) hn2 (b:=.loop .ready none s.T N ps as bo s.n) (o:=.loop { state:=.ready,pending:=none,fn,tmps:=a.tmps,params:=ps,assign:=as,body:=bo,defers:=w.heap.size }) ⟨rfl,rfl,hs.t.mono Uv,rfl,rfl,rfl,0,cm⟩ rfl rfl
   have G_:({ w with heap:=w.heap.push (.deferred (some [])) }:World).heap.size=w.heap.size+1:=by simp
   rw[G_] at h2
   refine⟨w.heap.size+1,_,_,_,zW,cm,hx1.trans Xl,h2,⟨rfl,rfl,rfl,by simp;omega,λ k hk=>by omega⟩,.cons ⟨.coll (b:=w.heap.size) (K:=0) ?_,.nil⟩ ((hs.d.mono Uv).mono Vl),Uv.trans Vl⟩
   exact Vl _ _ cm
  | @some l0 b0 K0 hν0 =>
   simp only at QU
   split at QU
   case h_2=>cases QU
   rename_i _ _ _ _ _ _ _ dd Ui
   simp only[Option.some.injEq,Prod.mk.injEq] at QU
   obtain⟨e1,e2,e3,e4⟩:=QU
   subst e1;subst e2;subst e3;subst e4
   obtain⟨lp,g1,g2,g3,g4,g5,g6,g7,K',g8⟩:=hs.h.loop Ui hν0
   have Vi:ν s.n=none:=hf _ (Nat.le_refl _) (by omega)
   have Uv:=j4 (r:=w.heap.size) (K:=0) Vi
   have h1:=hs.h.new (K:=0) (w':={ w with heap:=w.heap.push (.loop { state:=.ready,pending:=none,fn,tmps:=a.tmps,params:=ps,assign:=as,body:=bo,defers:=lp.defers }) }) Vi (b:=.loop .ready none s.T N ps as bo dd) (o:=.loop { state:=.ready,pending:=none,fn,tmps:=a.tmps,params:=ps,assign:=as,body:=bo,defers:=lp.defers }) ⟨rfl,rfl,hs.t,rfl,rfl,rfl,K',g8⟩ rfl rfl
   refine⟨w.heap.size,_,_,_,zX g1,cm,.upd,h1,⟨rfl,rfl,rfl,by simp,λ k hk=>by omega⟩,hs.d.mono Uv,Uv⟩
 obtain⟨l,mark,w1,ν1,g1,g2,g3,g4,g5,g6,g7⟩:=hlay
 have hgv:VRi ν (ael s.T g) (a.eval g):=(FE.mk hs.t hs.g:FE ν G N s.T a).ael hk
 rw[hg] at hgv
 obtain⟨fn',f',c',e',r1,r2,r3⟩:=rI hgv
 cases r1
 refine⟨l,mark,w1,{ target:=.fn (.func f) c',args:=f'++#[.func (.yield l) #[] #[]] },w1,f,⟨f'.toList++(.func (.yield l) #[] #[]::c'.toList)⟩,w1,g1,?_,λ _ _=>trivial,?_,λ h=>(by cases h),?_⟩
 ·have:=ne (P:=P) (c:=rangeCall g l) (ty:=0) (ρ:=a.eval) rfl e' w1
  rw[this]
  simp[Act.eval]
 ·show (callFunc f (f'++#[.func (.yield l) #[] #[]]++c')).run P w1=_
  rw[im hB]
  congr 2
  apply Array.ext'
  simp
 ·have Su:Fr ν1 (n1+1) n2:=g3.fr hf (by omega)
  refine iI ((Uf ν1 F w1 _ (hs.g.mono g7) Su g4 ((r2.mono g7).append (.cons (.func_of (.yield g2) .nil .nil) (r3.mono g7)))).mono ?_)
  rintro en w3 ⟨ν3,v',rfl,k1,k2,k3,k4⟩
  have RC:ν3 n1=some (l,0):=k2.sub Su _ _ g2
  obtain⟨lp,q1,q2,q3,q4,q5,q6,q7,K',q8⟩:=k3.loop hlp RC
  refine⟨lp.pending,_,xO q1 (by rw[q2];exact iS),?_⟩
  have hH3:HR ν3 (cT H2 n1 (some (.loop .exhausted pend T' N' UT UH Y0 d'))) F { w3 with heap:=w3.heap.setIfInBounds l (.loop { lp with state:=.exhausted }) } :=
   k3.setObj hlp rfl rfl RC ⟨rfl,q3,q4,q5,q6,q7,K',q8⟩
  have hExt:Ext ν ν3 s.n n2:=g3.trans k2
  have R5:=hkk ν3 { a with defers:=mark++a.defers } { w3 with heap:=w3.heap.setIfInBounds l (.loop { lp with state:=.exhausted }) } hExt ⟨(hs.g.mono g7).mono (k2.sub Su),(hs.t.mono g7).mono (k2.sub Su),g6.mono (k2.sub Su),hH3⟩ ((g5.trans k4).trans l7)
  rcases hpend with ⟨hp,he⟩|⟨c,hp,he⟩
  ·rw[q3.trans hp] at R5 ⊢
   subst he
   exact R5
  ·rw[q3.trans hp] at R5 ⊢
   exact GY he R5
theorem o0(r_:kG P G ih)(hm:P.follows .mixedOrders=true):∀ (c:Code) (s:St) (e:Ex) (s':St),ja P G ih r N c s=some (e,s') -> jL P G (.code r N c s) (.cd e s'):=by
 have calm:∀ (c:Code) (s:St) (e:Ex),(∀r' (Q:Exit -> Act -> World -> Prop) a w,Q e.out a w -> c.wpIn (Wr r') 0 P Q a w) -> jL P G (.code r N c s) (.cd e s):=λ c s e h =>
  ⟨Nat.le_refl _,λ ν F a w r' Q hr hs hf hk=>h r' Q a w (hk ν a w (.refl _ _) hs (Below.refl _ _))⟩
 intro c
 induction c with
 | skip=>intro s e s' h;rw[ja] at h;cases h;exact calm _ _ _ λ r' Q a w hq=>wpIn_skip hq
 | label l=>intro s e s' h;rw[ja] at h;cases h;exact calm _ _ _ λ r' Q a w hq=>wpIn_label hq
 | exit id=>intro s e s' h;rw[ja] at h;cases h;exact calm _ _ _ λ r' Q a w hq=>wpIn_exit hq
 | ret=>intro s e s' h;rw[ja] at h;cases h;exact calm _ _ _ λ r' Q a w hq=>wpIn_ret hq
 | goto l=>intro s e s' h;rw[ja] at h;cases h
 | refuse y=>intro s e s' h;rw[ja] at h;cases h
 | region id ops draw =>
  intro s e s' h
  rw[ja.eq_def] at h
  simp only at h
  split at h
  ·split at h
   ·rename_i s1 h1
    cases h
    obtain⟨q1,q2⟩:=od r_ _ _ _ h1
    exact⟨q1,λ ν F a w r' Q hr hs hf hk=>wpIn_region_list (q2 ν F a w r' Q hr hs hf hk)⟩
   ·cases h
  ·split at h
   ·rename_i s1 h1
    cases h
    exact Ke r_ hm h1
   ·cases h
 | seq x y Wp XZ =>
  intro s e s' h
  rw[ja] at h
  split at h
  ·rename_i s1 h1
   obtain⟨q1,q2⟩:=Wp _ _ _ h1
   obtain⟨p1,p2⟩:=XZ _ _ _ h
   refine⟨by omega,λ ν F a w r' Q hr hs hf hk=>wpIn_seq ?_⟩
   refine q2 ν F a w r' _ hr hs (λ i a b=>hf i a (by omega)) (λ ν' a' w' k1 k2 k3=>?_)
   exact p2 ν' F a' w' r' Q (hr.mono (k1.sub' hf p1)) k2 (k1.fr hf p1) (λ ν2 a2 w2 g1 g2 g3=>hk ν2 a2 w2 (k1.trans g1) g2 (k3.trans g3))
  ·rename_i I_
   obtain⟨q1,q2⟩:=Wp _ _ _ h
   refine⟨q1,λ ν F a w r' Q hr hs hf hk=>wpIn_seq ?_⟩
   refine q2 ν F a w r' _ hr hs hf (λ ν' a' w' k1 k2 k3=>?_)
   have:=hk ν' a' w' k1 k2 k3
   cases e with
   | normal=>exact(I_ _ h).elim
   | exit id=>exact this
   | ret=>exact this
 | cond c x y Wp XZ =>
  intro s e s' h
  rw[ja] at h
  have IS:∀ν F a w b,SR ν G N s F a w -> ael s.T c=.bool b -> a.eval c=.bool b:=λ ν F a w b hs he=>by
   cases c with
   | tmp t =>
    have:=(FE.mk hs.t hs.g:FE ν G N s.T a).ael (x:=.tmp t) rfl
    rw[he] at this
    exact this.plain_eq rfl
   | const v=>exact he
   | global g=>cases he
   | func f=>cases he
  split at h
  ·rename_i he
   obtain⟨q1,q2⟩:=Wp _ _ _ h
   exact⟨q1,λ ν F a w r' Q hr hs hf hk=>wpIn_cond_true (IS _ _ _ _ _ hs he) (q2 ν F a w r' Q hr hs hf hk)⟩
  ·rename_i he
   obtain⟨q1,q2⟩:=XZ _ _ _ h
   exact⟨q1,λ ν F a w r' Q hr hs hf hk=>wpIn_cond_false (IS _ _ _ _ _ hs he) (q2 ν F a w r' Q hr hs hf hk)⟩
  ·cases h
 | block id c Ze =>
  intro s e s' h
  rw[ja] at h
  split at h
  ·rename_i Ty s1 h1
   obtain⟨q1,q2⟩:=Ze _ _ _ h1
   split at h
   ·rename_i hid
    cases h
    have hid':Ty=id:=Nat.eq_of_beq_eq_true hid
    refine⟨q1,λ ν F a w r' Q hr hs hf hk=>wpIn_block ?_⟩
    refine q2 ν F a w r' _ hr hs hf (λ ν' a' w' k1 k2 k3=>?_)
    show (if Ty=id then _ else _)
    rw[if_pos hid']
    exact hk ν' a' w' k1 k2 k3
   ·rename_i hid
    cases h
    refine⟨q1,λ ν F a w r' Q hr hs hf hk=>wpIn_block ?_⟩
    refine q2 ν F a w r' _ hr hs hf (λ ν' a' w' k1 k2 k3=>?_)
    show (if Ty=id then _ else _)
    rw[if_neg (λ e=>by subst e;simp at hid)]
    exact hk ν' a' w' k1 k2 k3
  ·rename_i I_
   obtain⟨q1,q2⟩:=Ze _ _ _ h
   refine⟨q1,λ ν F a w r' Q hr hs hf hk=>wpIn_block ?_⟩
   refine q2 ν F a w r' _ hr hs hf (λ ν' a' w' k1 k2 k3=>?_)
   have:=hk ν' a' w' k1 k2 k3
   cases e with
   | normal=>exact this
   | exit Ty=>exact(I_ _ _ h).elim
   | ret=>exact this
 | loop c Ze =>
  intro s e s' h
  obtain⟨q1,q2⟩:=xN r_ (λ s e s' h=>Ze s e s' h) h
  exact⟨q1,λ ν F a w r' Q hr hs hf hk=>zU (q2 ν F a w r' Q hr hs hf hk)⟩
 | rangeFunc g ps as bo _ _=>intro s e s' h;exact DH r_ h
 | scope c Ze =>
  intro s e s' h
  rw[ja] at h
  obtain⟨q1,q2⟩:=Ze _ _ _ h
  refine⟨q1,λ ν F a w r' Q hr hs hf hk=>gW ?_⟩
  refine q2 ν F a w r' _ hr hs hf (λ ν' a' w' k1 k2 k3=>?_)
  have:=hk ν' a' w' k1 k2 k3
  cases e <;> exact this
end code
section fn
variable {ν ν':Nu} {P:Program} {G N:Nat} {T T':Tr Value} {a:Act} {H H':AH} {F:HL} {w w':World} {r r':Option Nat} {ih:Task -> Option Rs}
theorem ub{args iN:List Value}(h:LR ν args iN)(hl:gt args <= N):TRel ν N (mD args) ((⟨iN⟩:Array Value)++Array.replicate (N-(⟨iN⟩:Array Value).size) undef):=by
 rw[d9] at hl
 have hlen:=h.length
 refine⟨by simp;omega,λ t ht=>?_,λ t ht=>?_⟩
 ·rcases Nat.lt_or_ge t args.length with h1|h1
  ·obtain⟨v',e,q⟩:=h.get (List.getElem?_eq_getElem h1)
   refine⟨v',?_,?_⟩
   ·rw[Array.getElem?_append_left (by simp;omega)]
    simpa using e
   ·unfold mD;rw[lB h1];exact q
  ·refine⟨undef,?_,?_⟩
   ·rw[Array.getElem?_append_right (by simp;omega),Array.getElem?_replicate]
    rw[if_pos (by simp;omega)]
   ·have:cU (mD args) t=undef:=by
     unfold mD cU
     rw[qs]
     rw[if_pos (Nat.zero_le _),dif_neg (by omega)]
     exact zK _
    rw[this];exact VRi.undef
 ·unfold mD cU
  rw[qs,if_pos (Nat.zero_le _),dif_neg (by omega)]
  exact zK _
def GZ(tm:Array Value):ResultVar -> Sem Value
 | .tmp t=>pure (tm.getD t undef)
 | .cell ad t=>do loadVar t (<- asAddr (tm.getD ad undef))
theorem o7(hE:FE ν G N T a)(hH:HR ν H F w):∀ {rs:List ResultVar} {vs:List Value},oU P T H rs=some vs -> ∃OF,LR ν vs OF /\ (rs.mapM (GZ a.tmps)).run P w=.ok OF w
 | [],vs,h=>by rw[oU] at h;cases h;exact⟨[],.nil,rfl⟩
 | .tmp t::rs,vs,h=>by
  rw[oU] at h
  split at h
  ·rename_i vs0 h0
   cases h
   obtain⟨OF,q1,q2⟩:=o7 hE hH h0
   have hv:VRi ν (cU T t) (a.tmps.getD t undef):=hE.ael (x:=.tmp t) rfl
   haveI:=i6
   refine⟨_,.cons hv q1,?_⟩
   have h1:(GZ a.tmps (.tmp t)).run P w=.ok (a.tmps.getD t undef) w:=rfl
   rw[List.mapM_cons,Sem.run_bind,h1]
   simp only[Result.andThen_ok]
   rw[Sem.run_bind,q2]
   rfl
  ·cases h
 | .cell ad t::rs,vs,h=>by
  rw[oU] at h
  split at h
  ·rename_i Zv he
   split at h
   ·rename_i v vs0 hv h0
    cases h
    obtain⟨OF,q1,q2⟩:=o7 hE hH h0
    have hp:VRi ν (cU T ad) (a.tmps.getD ad undef):=hE.ael (x:=.tmp ad) rfl
    rw[he] at hp
    generalize hu:a.tmps.getD ad undef=u at hp
    have hp2:=hp
    cases hp with
    | atom _ h=>simp[cB] at h
    | ptr o hν =>
     obtain⟨v',r1,r2⟩:=xB (P:=P) (t:=t) hH hp2 hv
     haveI:=i6
     refine⟨_,.cons r1 q1,?_⟩
     have h1:(GZ a.tmps (.cell ad t)).run P w=.ok v' w:=by
      show ((asAddr (a.tmps.getD ad undef)) >>= λ x=>loadVar t x).run P w=_
      rw[hu,Sem.run_bind]
      exact r2
     rw[List.mapM_cons,Sem.run_bind,h1]
     simp only[Result.andThen_ok]
     rw[Sem.run_bind,q2]
     rfl
   ·cases h
  ·cases h
theorem rM{fn:Func}{vs:List Value}(hE:FE ν G N T a)(hH:HR ν H F w)(h:oU P T H fn.results.toList=some vs):∃v',VRi ν (xn vs) v' /\ (results fn a.tmps).run P w=.ok v' w:=by
 obtain⟨OF,q1,q2⟩:=o7 hE hH h
 haveI:=i6
 have h5:(fn.results.mapM (GZ a.tmps)).run P w=.ok ⟨OF⟩ w:=by
  rw[Array.mapM_eq_mapM_toList,<- bind_pure_comp,Sem.run_bind,q2]
  rfl
 have h6:∀v',(∀W,(pure (if h:(⟨OF⟩:Array Value).size=1 then (⟨OF⟩:Array Value)[0] else .tuple ⟨OF⟩):Sem Value).run P W=.ok v' W) -> (results fn a.tmps).run P w=.ok v' w:=λ v' hv=>by
  have:results fn a.tmps=(fn.results.mapM (GZ a.tmps) >>= λ vs=>pure (if h:vs.size=1 then vs[0] else .tuple vs)):=rfl
  rw[this,Sem.run_bind,h5]
  exact hv w
 cases q1 with
 | nil=>exact⟨_,.tuple_of .nil,h6 _ λ W=>rfl⟩
 | cons h1 h2 =>
  cases h2 with
  | nil=>exact⟨_,h1,h6 _ λ W=>rfl⟩
  | cons h3 h4=>exact⟨_,.tuple_of (.cons h1 (.cons h3 h4)),h6 _ λ W=>rfl⟩
theorem l8(r_:kG P G ih){fn:Func}{tm:Array Value}{R:Ending -> World -> Prop}:∀ {D:List Deferred} {H:AH} {n:Nat} {H':AH} {n':Nat},kx P ih D H n=some (H',n') -> n <= n' /\ ∀ν D' w,Glb ν G -> DsR ν D D' -> HR ν H F w -> Fr ν n n' ->
  (∀ν' w',Ext ν ν' n n' -> HR ν' H' F w' -> Below 0 w w' -> LeavesInM (Wr none) 0 P fn tm R [] .returning w') -> LeavesInM (Wr none) 0 P fn tm R D' .returning w
 | [],H,n,H',n',h=>by
  rw[kx] at h
  cases h
  exact⟨Nat.le_refl _,λ ν D' w hg hd hH hf hk=>by cases hd;exact hk ν w (.refl _ _) hH (Below.refl _ _)⟩
 | d::ds,H,n,H',n',h=>by
  rw[kx] at h
  split at h
  ·rename_i hd ht
   split at h
   ·rename_i hb
    obtain⟨q1,q2⟩:=l8 r_ (fn:=fn) (tm:=tm) (R:=R) h
    refine⟨q1,λ ν D' w hg hds hH hf hk=>?_⟩
    cases hds with
    | @cons _ d' _ l' hdr hl =>
    obtain⟨YA,hda⟩:=hdr
    rw[ht] at YA
    generalize htt:d'.target=tt at YA
    cases YA with
    | @coll _ b K hν =>
    obtain⟨rr,K',o,g1,g2,g3⟩:=hH.blk _ _ hb
    rw[hν] at g1
    cases g1
    unfold OR at g3
    split at g3
    ·rename_i e1;cases e1
    ·rename_i e1;cases e1
    ·rename_i e1;cases e1
    ·rename_i sh cc e1
     cases e1
     subst g3
     refine⟨by simp,.inl ⟨b,{ w with heap:=w.heap.setIfInBounds b (.deferred none) },htt,?_,?_⟩⟩
     ·unfold Instr.takeDeferred
      rw[Sem.run_bind]
      have h1:(getObj b).run P w=.ok (.deferred (some [])) w:=by
       unfold getObj
       rw[Sem.run.eq_def]
       simp only[g2]
       rfl
      rw[h1]
      simp only[Result.andThen_ok]
      rw[Sem.run_bind]
      have h2:(setObj b (.deferred none)).run P w=.ok () { w with heap:=w.heap.setIfInBounds b (.deferred none) }:=by
       unfold setObj
       rw[Sem.run.eq_def]
       simp only[g2]
       rfl
      rw[h2]
      rfl
     ·have h3:HR ν (cT H hd (some (.dfr true))) F { w with heap:=w.heap.setIfInBounds b (.deferred none) }:=hH.setObj hb rfl rfl hν (b1:=.dfr true) (o':=.deferred none) rfl
      exact q2 ν l' _ hg hl h3 hf (λ ν' w' k1 k2 k3=>hk ν' w' k1 k2 (l7.trans k3))
    ·exact g3.elim
   ·cases h
  ·rename_i f captured ht
   split at h
   case h_2=>cases h
   rename_i hB
   split at h
   case h_2=>cases h
   rename_i v H1 n1 hc
   obtain⟨p1,p2⟩:=r_ _ _ hc
   obtain⟨q1,q2⟩:=l8 r_ (fn:=fn) (tm:=tm) (R:=R) h
   refine⟨by omega,λ ν D' w hg hds hH hf hk=>?_⟩
   cases hds with
   | @cons _ d' _ l' hdr hl =>
   obtain⟨YA,hda⟩:=hdr
   rw[ht] at YA
   generalize htt:d'.target=tt at YA
   cases YA with
   | @fn _ f' _ c' Yw Su =>
   cases Yw
   refine⟨by simp,.inr ⟨λ h=>(by cases h),.func f,c',f,⟨d'.args.toList++c'.toList⟩,htt,?_,λ _ _=>trivial,?_⟩⟩
   ·rw[htt]
    show (callFunc f (d'.args++c')).run P w=_
    rw[im hB]
    congr 2
    apply Array.ext'
    simp
   ·refine(p2 ν F w _ hg (λ i a b=>hf i a (by omega)) hH (hda.append Su)).mono ?_
    rintro en u' w2 ⟨rfl,ν2,v',rfl,k1,k2,k3,k4⟩
    have QL:=k2.sub' hf q1
    show LeavesInM (Wr none) 0 P fn tm R l' (settle .returning) w2
    exact q2 ν2 l' w2 (hg.mono QL) (hl.mono QL) k3 (k2.fr hf q1) (λ ν3 w3 g1 g2 g3=>hk ν3 w3 (k2.trans g1) g2 (k4.trans g3))
  ·cases h
theorem xP{f:FuncId}{fn:Func}{c:Code}(h:ru P f=some (fn,c)):P.funcs[f]?=some fn /\ fn.body=some c:=by
 unfold ru at h
 split at h
 ·rename_i fn' hf
  split at h
  ·rename_i c' hc
   cases h
   exact⟨hf,hc⟩
  ·cases h
 ·cases h
theorem Ow(r_:kG P G ih)(hm:P.follows .mixedOrders=true){f:FuncId}{args:List Value}{H:AH}{n:Nat}{res:Rs}(h:gM P G ih (.fn f args H n)=some res):jL P G (.fn f args H n) res:=by
 simp only[gM] at h
 split at h
 case h_2=>cases h
 rename_i fn c hb
 split at h
 case h_2=>cases h
 rename_i hle
 obtain⟨b1,b2⟩:=xP hb
 have fin:∀e s H2 n2 vs,(e=.normal \/ e=.ret) -> ja P G ih none fn.ntmps c ⟨mD args,[],H,n⟩=some (e,s) -> kx P ih s.D s.H s.n=some (H2,n2) -> oU P s.T H2 fn.results.toList=some vs -> jL P G (.fn f args H n) (.fn (xn vs) H2 n2):=by
  intro e s H2 n2 vs he Is Vj UM
  obtain⟨q1,q2⟩:=o0 r_ hm _ _ _ _ Is
  simp only at q1 q2
  have Yn:=(l8 (F:=[]) (fn:=fn) (tm:=#[]) (R:=λ _ _=>True) r_ Vj).1
  refine⟨by omega,λ ν F w iN hg hf hH hl=>?_⟩
  refine callsIn_wide.1 (callsIn_of_wp_marks (F:=Fence.wide) (n:=0) b1 b2 trivial ?_)
  have hlen:=hl.length
  refine q2 ν F _ w none _ .none ⟨hg,ub hl (bO hle),.nil,hH⟩ (λ i a b=>hf i a (by omega)) (λ ν' a' w' k1 k2 k3=>?_)
  have QL:=k1.sub' hf Yn
  have hlv2:=(l8 (F:=F) (fn:=fn) (tm:=a'.tmps) (R:=GR ν (xn vs) n n2 H2 F w) r_ Vj).2 ν' a'.defers w' k2.g k2.d k2.h (k1.fr hf Yn) (λ ν2 w2 g1 g2 g3=>by
   have Xo:=g1.sub (k1.fr hf Yn)
   obtain⟨v',r1,r2⟩:=rM (G:=G) (fn:=fn) (a:=a') (FE.mk (k2.t.mono Xo) (k2.g.mono Xo)) g2 UM
   exact⟨v',r2,ν2,v',rfl,r1,k1.trans g1,g2,k3.trans g3⟩)
  rcases he with rfl|rfl <;> exact hlv2
 split at h
 ·cases h
 ·rename_i e s I_ Is
  split at h
  ·rename_i H2 n2 Vj
   split at h
   ·rename_i vs UM
    cases h
    cases e with
    | normal=>exact fin _ _ _ _ _ (.inl rfl) Is Vj UM
    | ret=>exact fin _ _ _ _ _ (.inr rfl) Is Vj UM
    | exit id=>first|exact(I_ _ _ rfl).elim|exact(I_ _ rfl).elim|exact(I_ _ _).elim
   ·cases h
  ·cases h
 ·cases h
theorem DI{b:Nat}{lp:Loop}(h:w.heap[b]?=some (.loop lp))(hs:lp.state=.ready):(Instr.beginRound b).run P w=.ok () { w with heap:=w.heap.setIfInBounds b (.loop { lp with state:=.busy }) }:=by
 unfold Instr.beginRound
 rw[Sem.run_bind,gN h]
 simp only[Result.andThen_ok]
 rw[Sem.run_bind,lE h]
 simp only[Result.andThen_ok,hs]
 rfl
theorem Kf{b:Nat}{lp:Loop}{j:Option Code}(h:w.heap[b]?=some (.loop lp)):(Instr.endRound b j).run P w=.ok (.bool j.isNone) { w with heap:=w.heap.setIfInBounds b (.loop { lp with state:=if j.isNone then .ready else .done,pending:=j }) }:=by
 unfold Instr.endRound
 rw[Sem.run_bind,gN h]
 simp only[Result.andThen_ok]
 rw[Sem.run_bind,lE h]
 rfl
def PL:Ex -> Option Code
 | .normal=>none
 | .ret=>some .ret
 | .exit id=>some (.exit id)
theorem vj{b:Nat}{R:Ending -> World -> Prop}{e:Ex}(h:∃v w',(Instr.endRound b (PL e)).run P w=.ok v w' /\ R (.returned v) w'):roundPost P b R e.out a w:=by
 cases e <;> exact h
theorem ME(r_:kG P G ih)(hm:P.follows .mixedOrders=true){l:Nat}{T:Tr Value}{N:Nat}{as bo:Code}{H:AH}{n:Nat}{res:Rs}(h:gM P G ih (.rnd l T N as bo H n)=some res):jL P G (.rnd l T N as bo H n) res:=by
 simp only[gM] at h
 split at h
 case h_2=>cases h
 rename_i s1 h1
 split at h
 case h_2=>cases h
 rename_i pend T' N' ps UH Y0 d Yq UP
 split at h
 case h_2=>cases h
 rename_i e s2 h2
 split at h
 case h_2=>cases h
 rename_i st2 pend2 T2 N2 ps2 as2 bo2 d2 QS
 obtain⟨q1,q2⟩:=o0 r_ hm _ _ _ _ h1
 obtain⟨p1,p2⟩:=o0 r_ hm _ _ _ _ h2
 simp only at q1 q2 p1 p2
 have So:res=.fn (.bool (PL e).isNone) (cT s2.H l (some (.loop (if (PL e).isNone then .ready else .done) (PL e) T2 N2 ps2 as2 bo2 d2))) s2.n:=by
  cases e <;> (cases h;rfl)
 subst So
 refine⟨by omega,λ ν F w b K tm f r' hg hν hT hf hH=>?_⟩
 refine roundIn_of_wpIn trivial ?_
 show as.wpIn (Wr (some b)) 0 P _ _ _
 refine q2 ν F _ w (some b) _ (.some hν) ⟨hg,hT,.nil,hH⟩ (λ i x y=>hf i x (by omega)) (λ ν1 a1 w1 k1 k2 k3=>?_)
 have ZV:=k1.sub' hf p1
 have Ws:=ZV _ _ hν
 obtain⟨lp,g1,g2,g3,g4,g5,g6,g7,K',g8⟩:=k2.h.loop Yq Ws
 refine⟨_,DI g1 g2,?_⟩
 show bo.wpIn (Wr (some b)) 0 P _ _ _
 have hH1:HR ν1 (cT s1.H l (some (.loop .busy pend T' N' ps UH Y0 d))) F { w1 with heap:=w1.heap.setIfInBounds b (.loop { lp with state:=.busy }) }:=k2.h.setObj Yq rfl rfl Ws ⟨rfl,g3,g4,g5,g6,g7,K',g8⟩
 have hd:DsR ν1 [] a1.defers:=by have:=k2.d;rw[UP] at this;exact this
 refine p2 ν1 F a1 _ (some b) _ (.some Ws) ⟨k2.g,k2.t,hd,hH1⟩ (k1.fr hf p1) (λ ν2 a2 w2 j1 j2 j3=>?_)
 have ZH:=(j1.sub (k1.fr hf p1)) _ _ Ws
 obtain⟨lp2,u1,u2,u3,u4,u5,u6,u7,K2,u8⟩:=j2.h.loop QS ZH
 refine vj ⟨_,_,Kf u1,ν2,_,rfl,.atom _ rfl,k1.trans j1,?_,((k3.trans l7).trans j3).trans l7⟩
 exact j2.h.setObj QS rfl rfl ZH ⟨rfl,rfl,u4,u5,u6,u7,K2,u8⟩
theorem l9{ops:Array Oper}{c₀:Frame}{cs:List Frame}(hc:c₀.mode=.returning):∀ (rest:List Oper) (k:Nat) (s s':St),ops.toList.drop k=rest -> m0 P G N ops rest s=some s' -> s.n <= s'.n /\ ∀ν F a w (Q:Exit -> Act -> List Frame -> World -> Prop),SR ν G N s F a w -> Fr ν s.n s'.n ->
  (∀ν' a' w',Ext ν ν' s.n s'.n -> SR ν' G N s' F a' w' -> Below 0 w w' -> Q .normal a' (c₀::cs) w') -> wpOpsSIn (Wr none) 0 P ops Q (List.range' k rest.length) a (c₀::cs) w
 | [],k,s,s',hk,h=>by
  rw[m0] at h
  cases h
  exact⟨Nat.le_refl _,λ ν F a w Q hs hf hq=>hq ν a w (.refl _ _) hs (Below.refl _ _)⟩
 | o::rest,k,s,s',hk,h=>by
  have iF:k<ops.toList.length:=by
   rcases Nat.lt_or_ge k ops.toList.length with e|e
   ·exact e
   ·rw[List.drop_eq_nil_of_le e] at hk;cases hk
  have Zg:=hk
  rw[List.drop_eq_getElem_cons iF] at Zg
  simp only[List.cons.injEq] at Zg
  obtain⟨ho,Vc⟩:=Zg
  have AT:ops[k]?=some o:=by
   rw[Array.getElem?_eq_getElem (by simpa using iF)]
   simpa using ho
  rw[m0] at h
  split at h
  ·cases h
  ·rename_i hw
   split at h
   case h_2=>cases h
   rename_i T1 hp
   obtain⟨h1,h2⟩:=l9 hc rest (k+1) _ _ Vc h
   refine⟨h1,λ ν F a w Q hs hf hq=>?_⟩
   rw[List.length_cons,List.range'_succ,wpOpsSIn]
   simp only[AT]
   refine⟨λ _ _=>trivial,?_⟩
   rw[if_neg (by rw[j9 hs.t hw];simp)]
   exact h2 ν F _ w Q ⟨hs.g,hs.t.put VRi.undef hp,by rw[fG];exact hs.d,hs.h⟩ hf hq
  ·rename_i hw
   split at h
   ·rename_i v H1 n1 iS
    split at h
    case h_2=>cases h
    rename_i T1 hp
    obtain⟨h1,h2⟩:=l9 hc rest (k+1) _ _ Vc h
    simp only at h1 h2
    have hle:=vg iS
    refine⟨by omega,λ ν F a w Q hs hf hq=>?_⟩
    rw[List.length_cons,List.range'_succ,wpOpsSIn]
    simp only[AT]
    refine⟨λ _ _=>trivial,?_⟩
    rw[if_pos (j9 hs.t hw)]
    obtain⟨ν',v',w',q,e1,e2,e3,e4,e5,e6⟩:=lZ hs.op hs.h iS (λ v H' n' e=>by cases e;exact λ i x y=>hf i x (by omega))
    have QL:=e4.sub' hf h1
    have R5:=h2 ν' F (a.put o.dst v') w' Q ⟨hs.g.mono QL,(hs.t.mono QL).put e3 hp,by rw[fG];exact hs.d.mono QL,e5⟩ (e4.fr hf h1) (λ ν2 a2 w2 g1 g2 g3=>hq ν2 a2 w2 (e4.trans g1) g2 (e6.trans g3))
    rw[e1]
    rcases e2 with rfl|⟨rfl,rfl⟩
    ·exact R5
    ·exact R5
   ·rename_i iS
    split at h
    case h_2=>cases h
    rename_i T1 hp
    obtain⟨h1,h2⟩:=l9 hc rest (k+1) _ _ Vc h
    refine⟨h1,λ ν F a w Q hs hf hq=>?_⟩
    rw[List.length_cons,List.range'_succ,wpOpsSIn]
    simp only[AT]
    refine⟨λ _ _=>trivial,?_⟩
    rw[if_pos (j9 hs.t hw)]
    have e1:=lZ hs.op hs.h iS (λ v H' n' e=>by cases e)
    rw[show (execOp a.eval o).run P w=.ok .recover w from e1]
    have hrc:recoverD (c₀::cs)=none:=by simp[recoverD,hc]
    simp only[hrc]
    exact h2 ν F _ w Q ⟨hs.g,hs.t.put (.atom _ rfl) hp,by rw[fG];exact hs.d,hs.h⟩ hf hq
   ·cases h
theorem MF(r_:kG P G ih)(hm:P.follows .mixedOrders=true){c₀:Frame}{cs:List Frame}(hc:c₀.mode=.returning):∀ (c:Code) (s:St) (e:Ex) (s':St),Gz P G ih N c s=some (e,s') -> s.n <= s'.n /\ ∀ν F a w (Q:Exit -> Act -> List Frame -> World -> Prop),SR ν G N s F a w -> Fr ν s.n s'.n ->
  (∀ν' a' w',Ext ν ν' s.n s'.n -> SR ν' G N s' F a' w' -> Below 0 w w' -> Q e.out a' (c₀::cs) w') -> c.wpSIn (Wr none) 0 P Q a (c₀::cs) w:=by
 have plain:∀ (c:Code) (s:St) (e:Ex) (s':St),ja P G ih none N c s=some (e,s') -> s.n <= s'.n /\ ∀ν F a w (Q:Exit -> Act -> List Frame -> World -> Prop),SR ν G N s F a w -> Fr ν s.n s'.n ->
  (∀ν' a' w',Ext ν ν' s.n s'.n -> SR ν' G N s' F a' w' -> Below 0 w w' -> Q e.out a' (c₀::cs) w') -> c.wpSIn (Wr none) 0 P Q a (c₀::cs) w:=λ c s e s' h=>by
  obtain⟨q1,q2⟩:=o0 r_ hm _ _ _ _ h
  exact⟨q1,λ ν F a w Q hs hf hq=>wpSIn_of_wpIn rfl (q2 ν F a w none _ .none hs hf hq)⟩
 intro c
 induction c with
 | seq x y Wp XZ =>
  intro s e s' h
  rw[Gz] at h
  split at h
  ·rename_i s1 h1
   obtain⟨q1,q2⟩:=Wp _ _ _ h1
   obtain⟨p1,p2⟩:=XZ _ _ _ h
   refine⟨by omega,λ ν F a w Q hs hf hk=>wpSIn_seq ?_⟩
   refine q2 ν F a w _ hs (λ i a b=>hf i a (by omega)) (λ ν' a' w' k1 k2 k3=>?_)
   exact p2 ν' F a' w' Q k2 (k1.fr hf p1) (λ ν2 a2 w2 g1 g2 g3=>hk ν2 a2 w2 (k1.trans g1) g2 (k3.trans g3))
  ·rename_i I_
   obtain⟨q1,q2⟩:=Wp _ _ _ h
   refine⟨q1,λ ν F a w Q hs hf hk=>wpSIn_seq ?_⟩
   refine q2 ν F a w _ hs hf (λ ν' a' w' k1 k2 k3=>?_)
   have:=hk ν' a' w' k1 k2 k3
   cases e with
   | normal=>exact(I_ _ h).elim
   | exit id=>exact this
   | ret=>exact this
 | cond c x y Wp XZ =>
  intro s e s' h
  rw[Gz] at h
  have IS:∀ν F a w b,SR ν G N s F a w -> ael s.T c=.bool b -> a.eval c=.bool b:=λ ν F a w b hs he=>by
   cases c with
   | tmp t =>
    have:=(FE.mk hs.t hs.g:FE ν G N s.T a).ael (x:=.tmp t) rfl
    rw[he] at this
    exact this.plain_eq rfl
   | const v=>exact he
   | global g=>cases he
   | func f=>cases he
  split at h
  ·rename_i he
   obtain⟨q1,q2⟩:=Wp _ _ _ h
   exact⟨q1,λ ν F a w Q hs hf hk=>wpSIn_cond (IS _ _ _ _ _ hs he) (q2 ν F a w Q hs hf hk)⟩
  ·rename_i he
   obtain⟨q1,q2⟩:=XZ _ _ _ h
   exact⟨q1,λ ν F a w Q hs hf hk=>wpSIn_cond (IS _ _ _ _ _ hs he) (q2 ν F a w Q hs hf hk)⟩
  ·cases h
 | region id ops draw =>
  intro s e s' h
  cases draw with
  | true=>rw[Gz] at h;exact plain _ _ _ _ h;all_goals simp
  | false =>
   rw[Gz] at h
   split at h
   ·rename_i s1 h1
    cases h
    obtain⟨q1,q2⟩:=l9 hc _ 0 _ _ (by simp) h1
    refine⟨q1,λ ν F a w Q hs hf hk=>wpSIn_region ?_⟩
    have:=q2 ν F a w Q hs hf hk
    rw[List.range_eq_range']
    simpa using this
   ·split at h
    ·rename_i x h1
     cases h
     exact plain _ _ _ _ h1
    ·cases h
 | _=>intro s e s' h;rw[Gz] at h;exact plain _ _ _ _ h;all_goals simp
theorem MG(r_:kG P G ih)(hm:P.follows .mixedOrders=true){f:FuncId}{args:List Value}{H:AH}{n:Nat}{res:Rs}(h:gM P G ih (.dfn f args H n)=some res):jL P G (.dfn f args H n) res:=by
 simp only[gM] at h
 split at h
 case h_2=>cases h
 rename_i fn c hb
 split at h
 case h_2=>cases h
 rename_i hle
 obtain⟨b1,b2⟩:=xP hb
 split at h
 ·cases h
 ·rename_i e s I_ Is
  split at h
  ·rename_i hd
   split at h
   ·rename_i vs UM
    cases h
    have hq:∀ (c₀:Frame) (cs:List Frame),c₀.mode=.returning -> _:=λ c₀ cs hc=>MF (c₀:=c₀) (cs:=cs) r_ hm hc _ _ _ _ Is
    have hn:n <= s.n:=(hq { (default:Frame) with mode:=.returning } [] rfl).1
    refine⟨hn,λ ν F w iN hg hf hH hl=>?_⟩
    refine callsDIn_of_wpSIn b1 b2 trivial (λ c₀ cs hc=>?_)
    refine(hq c₀ cs hc).2 ν F _ w _ ⟨hg,ub hl (bO hle),.nil,hH⟩ hf (λ ν' a' w' k1 k2 k3=>?_)
    have hdd:a'.defers=[]:=by
     have:=k2.d
     rw[hd] at this
     generalize a'.defers=q at this
     cases this;rfl
    obtain⟨v',r1,r2⟩:=rM (G:=G) (fn:=fn) (a:=a') (FE.mk k2.t k2.g) k2.h UM
    have hcc:c₀::cs={ c₀ with mode:=.returning }::cs:=by rw[<- hc]
    have R5:a'.defers=[] /\ ∃u',c₀::cs={ c₀ with mode:=u' }::cs /\ ∃v,(results fn a'.tmps).run P w'=.ok v w' /\ (u'=.returning /\ GR ν (xn vs) n s.n s.H F w (.returned v) w') :=
     ⟨hdd,.returning,hcc,v',r2,rfl,ν',v',rfl,r1,k1,k2.h,k3⟩
    cases e with
    | normal=>exact R5
    | ret=>exact R5
    | exit id=>first|exact(I_ _ _ rfl).elim|exact(I_ _ rfl).elim|exact(I_ _ _).elim
   ·cases h
  ·cases h
 ·cases h
theorem G1(r_:kG P G ih)(hm:P.follows .mixedOrders=true):kG P G (gM P G ih):=by
 intro t res h
 cases t with
 | code r N c s =>
  simp only[gM] at h
  split at h
  ·rename_i h1;cases h;exact o0 r_ hm _ _ _ _ h1
  ·cases h
 | loop r N c s =>
  simp only[gM] at h
  split at h
  ·rename_i h1;cases h;exact xN r_ (λ s e s' h=>o0 r_ hm _ _ _ _ h) h1
  ·cases h
 | fn f args H n=>exact Ow r_ hm h
 | rnd l T N as bo H n=>exact ME r_ hm h
 | dfn f args H n=>exact MG r_ hm h
theorem BF(hm:P.follows .mixedOrders=true):∀k,kG P G (GA P G k)
 | 0=>λ t res h=>by rw[GA] at h;cases h
 | k+1=>by
  have:=G1 (BF hm k) hm
  intro t res h
  rw[GA] at h
  exact this t res h
end fn
noncomputable section
inductive CzV where|mk (f:Tr Value -> Value)
inductive CzS where|mk (f:Value -> Tr Value -> Tr Value)
abbrev Ih:=Task -> Option Rs
inductive CzR where|mk (f:Ih -> Option Nat -> Tr Value -> List Deferred -> AH -> Nat -> Option St)
inductive CzC where|mk (f:Ih -> Option Nat -> Tr Value -> List Deferred -> AH -> Nat -> Option (Ex × St))
inductive CzF where|mk (f:Ih -> List Value -> AH -> Nat -> Option Rs)
inductive CzA where|mk (f:Tr Value -> List Value)
def CzV.f:CzV -> Tr Value -> Value | .mk f=>f
def CzS.f:CzS -> Value -> Tr Value -> Tr Value | .mk f=>f
def CzR.f:CzR -> Ih -> Option Nat -> Tr Value -> List Deferred -> AH -> Nat -> Option St | .mk f=>f
def CzC.f:CzC -> Ih -> Option Nat -> Tr Value -> List Deferred -> AH -> Nat -> Option (Ex × St) | .mk f=>f
def CzF.f:CzF -> Ih -> List Value -> AH -> Nat -> Option Rs | .mk f=>f
def CzA.f:CzA -> Tr Value -> List Value | .mk f=>f
def eO{α:Type}(v:Value)(x:Value -> α):α:=match v with
 | .bool b=>x (.bool b)
 | .int k n=>x (.int k n)
 | .float k b=>x (.float k b)
 | .complex k a b=>x (.complex k a b)
 | .string s=>x (.string s)
 | .pointer a=>x (.pointer a)
 | .slice a l c=>x (.slice a l c)
 | .map r=>x (.map r)
 | .chan r=>x (.chan r)
 | .func f a c=>x (.func f a c)
 | .nilFunc=>x .nilFunc
 | .iface t v=>x (.iface t v)
 | .nilIface=>x .nilIface
 | .agg c=>x (.agg c)
 | .tuple c=>x (.tuple c)
theorem cD{α:Type}(v:Value)(x:Value -> α):eO v x=x v:=by cases v <;> rfl
def zY{α:Type}(l:List Value):(List Value -> α) -> α:=List.rec (motive:=λ _=>(List Value -> α) -> α) (λ x=>x []) (λ v _ ih x=>eO v λ v=>ih λ l=>x (v::l)) l
theorem uc{α:Type}:∀ (l:List Value) (x:List Value -> α),zY l x=x l
 | [],x=>rfl
 | v::l,x=>by
  show eO v (λ v=>zY l λ l=>x (v::l))=_
  rw[cD,uc l]
def vk:List Bool -> CzV
 | []=>.mk λ T=>Tr.rec (motive:=λ _=>Value) undef (λ v _ _ _ _=>v) T
 | b::p=>match vk p with
  | .mk f=>match b with
   | true=>.mk λ T=>Tr.rec (motive:=λ _=>Value) undef (λ _ _ r _ _=>f r) T
   | false=>.mk λ T=>Tr.rec (motive:=λ _=>Value) undef (λ _ l _ _ _=>f l) T
theorem qt:∀ (p:List Bool) (T:Tr Value),(vk p).f T=fU undef p T
 | [],T=>by cases T <;> rfl
 | b::p,T=>by
  have ih:=qt p
  cases h:vk p with
  | mk f =>
   rw[h] at ih
   cases b <;> simp only[vk,h,CzV.f] <;> cases T <;> first|rfl|exact ih _
def zZ:List Bool -> CzS
 | []=>.mk λ x T=>Tr.rec (motive:=λ _=>Tr Value) (.nd x .lf .lf) (λ _ l r _ _=>.nd x l r) T
 | b::p=>match zZ p with
  | .mk f=>match b with
   | true=>.mk λ x T=>Tr.rec (motive:=λ _=>Tr Value) (.nd undef .lf (f x .lf)) (λ v l r _ _=>.nd v l (f x r)) T
   | false=>.mk λ x T=>Tr.rec (motive:=λ _=>Tr Value) (.nd undef (f x .lf) .lf) (λ v l r _ _=>.nd v (f x l) r) T
theorem BG(x:Value):∀ (p:List Bool) (T:Tr Value),(zZ p).f x T=dQ undef x p T
 | [],T=>by cases T <;> rfl
 | b::p,T=>by
  have ih:=BG x p
  cases h:zZ p with
  | mk f =>
   rw[h] at ih
   simp only[CzS.f] at ih
   cases b <;> simp only[zZ,h,CzS.f] <;> cases T <;> simp only[ih] <;> rfl
def cv:Operand -> CzV
 | .tmp t=>vk (pth t)
 | .const v=>.mk λ _=>v
 | .global g=>.mk λ _=>.pointer (some ⟨g,0,none⟩)
 | .func f=>.mk λ _=>.func (.func f) #[] #[]
theorem LA(x:Operand)(T:Tr Value):(cv x).f T=ael T x:=by
 cases x with
 | tmp t=>exact qt _ _
 | const v=>rfl
 | global g=>rfl
 | func f=>rfl
def ca:List Operand -> CzA
 | []=>.mk λ _=>[]
 | x::l=>match cv x,ca l with
  | .mk f,.mk g=>.mk λ T=>f T::g T
theorem LB:∀ (l:List Operand) (T:Tr Value),(ca l).f T=mY T l
 | [],T=>rfl
 | x::l,T=>by
  have h1:=LA x T
  have h2:=LB l T
  cases hx:cv x with
  | mk f=>cases hl:ca l with
   | mk g =>
    rw[hx] at h1;rw[hl] at h2
    simp only[CzV.f] at h1;simp only[CzA.f] at h2
    simp only[ca,hx,hl,CzA.f,mY,h1,h2]
inductive CzD where
 | no
 | ok (f:Value -> Tr Value -> Tr Value)
 | bad
def iq(N:Nat):Option Tmp -> CzD
 | none=>.no
 | some d=>match Nat.blt d N with
  | true=>match zZ (pth d) with
   | .mk f=>.ok f
  | false=>.bad
theorem BI{N:Nat}{d:Option Tmp}{f}(h:iq N d=.ok f)(v:Value)(T:Tr Value):fo N d v T=some (f v T):=by
 cases d with
 | none=>simp[iq] at h
 | some d =>
  simp only[iq] at h
  cases hb:Nat.blt d N <;> rw[hb] at h
  ·simp at h
  ·cases hs:zZ (pth d) with
   | mk g =>
    simp only[hs,CzD.ok.injEq] at h
    subst h
    have:=BG v (pth d) T
    rw[hs] at this
    simp only[CzS.f] at this
    simp only[fo,hb,this]
    rfl
theorem BJ{N:Nat}{d:Option Tmp}(h:iq N d=.no)(v:Value)(T:Tr Value):fo N d v T=some T:=by
 cases d with
 | none=>rfl
 | some d =>
  simp only[iq] at h
  cases hb:Nat.blt d N <;> rw[hb] at h
  ·simp at h
  ·cases hs:zZ (pth d) with
   | mk g=>simp[hs] at h
def cW(P:Program)(G N:Nat)(ops:Array Oper)(o:Oper)(k:Ih -> Option Nat -> Tr Value -> List Deferred -> AH -> Nat -> Option St)(ih:Ih)(r:Option Nat)(T:Tr Value)(D:List Deferred)(H:AH)(n:Nat):Option St:=match eF ops o T with
 | none=>none
 | some false=>match fo N o.dst undef T with
  | some T=>k ih r T D H n
  | none=>none
 | some true=>match jZ P G ih r o T H n with
  | none=>none
  | some (.val v H n)=>eO v λ v=>match fo N o.dst v T with
   | some T=>k ih r T D H n
   | none=>none
  | some (.dfr d)=>match fo N o.dst undef T with
   | some T=>k ih r T (d::D) H n
   | none=>none
def CzR.okL(P:Program)(G N:Nat)(ops:Array Oper)(l:List Oper)(k:Ih -> Option Nat -> Tr Value -> List Deferred -> AH -> Nat -> Option St):Prop:=∀ih r T D H n,k ih r T D H n=mC P G ih r N ops l ⟨T,D,H,n⟩
theorem Kg{P:Program}{G N:Nat}{ops:Array Oper}{l:List Oper}{k}(h:CzR.okL P G N ops l k)(o:Oper):CzR.okL P G N ops (o::l) (cW P G N ops o k):=by
 intro ih r T D H n
 simp only[cW,mC]
 cases eF ops o T with
 | none=>rfl
 | some b =>
  cases b with
  | false=>cases fo N o.dst undef T with
   | none=>rfl
   | some T'=>exact h _ _ _ _ _ _
  | true=>cases jZ P G ih r o T H n with
   | none=>rfl
   | some x=>cases x with
    | val v H' n'=>simp only[cD];cases hp:fo N o.dst v T with
     | none=>simp only[hp]
     | some T'=>simp only[hp];exact h _ _ _ _ _ _
    | dfr d=>cases hp:fo N o.dst undef T with
     | none=>simp only[hp]
     | some T'=>simp only[hp];exact h _ _ _ _ _ _
def og(N:Nat)(o:Oper)(k:Ih -> Option Nat -> Tr Value -> List Deferred -> AH -> Nat -> Option St)(ih:Ih)(r:Option Nat)(T:Tr Value)(D:List Deferred)(v:Value)(H:AH)(n:Nat):Option St:=match fo N o.dst v T with
 | some T=>k ih r T D H n
 | none=>none
theorem o8{P:Program}{G N:Nat}{ops:Array Oper}{o:Oper}{k}(hg:o.guard=none)(ho:nr G o=true)(hc:sw P o.op=.pu)(ih:Ih)(r:Option Nat)(T:Tr Value)(D:List Deferred)(H:AH)(n:Nat) :
  cW P G N ops o k ih r T D H n=match gK P o T with
   | some v=>og N o k ih r T D v H n
   | none=>none:=by
 simp only[nr] at ho
 cases hl:iZ o.op with
 | none=>rw[hl] at ho;simp at ho
 | some l =>
  rw[hl] at ho
  simp only at ho
  simp only[cW,eF,hg,jZ,Bu,hl,ho,hc]
  cases gK P o T with
  | none=>rfl
  | some v=>simp only[cD];rfl
theorem G2{P:Program}{G N:Nat}{ops:Array Oper}{o:Oper}{k}(hg:o.guard=none)(ho:nr G o=true)(hc:sw P o.op=.lo)(ih:Ih)(r:Option Nat)(T:Tr Value)(D:List Deferred)(H:AH)(n:Nat) :
  cW P G N ops o k ih r T D H n=match jy P o T H with
   | some v=>og N o k ih r T D v H n
   | none=>none:=by
 simp only[nr] at ho
 cases hl:iZ o.op with
 | none=>rw[hl] at ho;simp at ho
 | some l =>
  rw[hl] at ho
  simp only at ho
  simp only[cW,eF,hg,jZ,Bu,hl,ho,hc]
  cases jy P o T H with
  | none=>rfl
  | some v=>simp only[cD];rfl
theorem MH{P:Program}{G N:Nat}{ops:Array Oper}{o:Oper}{k}(hg:o.guard=none)(ho:nr G o=true)(hc:sw P o.op=.nw)(ih:Ih)(r:Option Nat)(T:Tr Value)(D:List Deferred)(H:AH)(n:Nat) :
  cW P G N ops o k ih r T D H n=match sM P o T with
   | some (b,m)=>og N o k ih r T D (m.val n) (cT H n (some b)) (n+1)
   | none=>none:=by
 simp only[nr] at ho
 cases hl:iZ o.op with
 | none=>rw[hl] at ho;simp at ho
 | some l =>
  rw[hl] at ho
  simp only at ho
  simp only[cW,eF,hg,jZ,Bu,hl,ho,hc]
  cases sM P o T with
  | none=>rfl
  | some v=>simp only[MA,cD];rfl
theorem MI{P:Program}{G N:Nat}{ops:Array Oper}{o:Oper}{k}(hg:o.guard=none)(ho:nr G o=true)(hc:sw P o.op=.ef)(ih:Ih)(r:Option Nat)(T:Tr Value)(D:List Deferred)(H:AH)(n:Nat){v:Value}{H':AH}{n':Nat}(he:mZ P o T H n=some (.val v H' n')) :
  cW P G N ops o k ih r T D H n=og N o k ih r T D v H' n':=by
 simp only[nr] at ho
 cases hl:iZ o.op with
 | none=>rw[hl] at ho;simp at ho
 | some l =>
  rw[hl] at ho
  simp only at ho
  simp only[cW,eF,hg,jZ,Bu,hl,ho,hc,he,cD]
  rfl
theorem BK{P:Program}{G N:Nat}{ops:Array Oper}{o:Oper}{k}(hg:o.guard=none)(ho:nr G o=true)(hc:sw P o.op=.ef)(ih:Ih)(r:Option Nat)(T:Tr Value)(D:List Deferred)(H:AH)(n:Nat){f:FuncId}{args:List Value}(he:mZ P o T H n=some (.ent f args)) :
  cW P G N ops o k ih r T D H n=match ih (.fn f args H n) with
   | some (.fn v H n)=>og N o k ih r T D v H n
   | _=>none:=by
 simp only[nr] at ho
 cases hl:iZ o.op with
 | none=>rw[hl] at ho;simp at ho
 | some l =>
  rw[hl] at ho
  simp only at ho
  simp only[cW,eF,hg,jZ,Bu,hl,ho,hc,he]
  cases ih (.fn f args H n) with
  | none=>rfl
  | some x=>cases x <;> simp only[cD] <;> rfl
end
noncomputable section
abbrev Kt:=Ih -> Option Nat -> Tr Value -> List Deferred -> AH -> Nat -> Option St
def kN(k:IntKind):Nat:=IntKind.rec (motive:=λ _=>Nat) 0 1 2 3 4 5 6 7 k
def Ql(a b:IntKind):Bool:=Nat.beq (kN a) (kN b)
theorem MJ(a b:IntKind):Ql a b=decide (a=b):=by cases a <;> cases b <;> rfl
def NL(a b:Int):Bool:=match a,b with
 | .ofNat m,.ofNat n=>Nat.blt m n
 | .negSucc _,.ofNat _=>true
 | .ofNat _,.negSucc _=>false
 | .negSucc m,.negSucc n=>Nat.blt n m
theorem BL(m n:Nat):Nat.blt m n=decide (m<n):=by
 by_cases h:m<n
 ·simp[Nat.blt_eq,h]
 ·rw[decide_eq_false h]
  cases hb:Nat.blt m n
  ·rfl
  ·exact absurd (Eq.mp Nat.blt_eq hb) h
theorem G3(a b:Int):NL a b=decide (a<b):=by
 cases a with
 | ofNat m=>cases b with
  | ofNat n =>
   simp only[NL,BL]
   exact decide_eq_decide.2 (Int.ofNat_lt).symm
  | negSucc n=>exact(decide_eq_false (show ¬ ((m:Int)<Int.negSucc n) by omega)).symm
 | negSucc m=>cases b with
  | ofNat n=>exact(decide_eq_true (show Int.negSucc m<(n:Int) by omega)).symm
  | negSucc n =>
   simp only[NL,BL]
   exact decide_eq_decide.2 (by omega)
def MK(b:Bool):Bool:=match b with
 | true=>false
 | false=>true
theorem BM(b:Bool):MK b=!b:=by cases b <;> rfl
def PM(a b:Int):Bool:=MK (NL b a)
theorem ML(a b:Int):PM a b=decide (a <= b):=by
 rw[PM,BM,G3]
 by_cases h:b<a
 ·rw[decide_eq_true h,decide_eq_false (by omega)];rfl
 ·rw[decide_eq_false h,decide_eq_true (by omega)];rfl
def Ox(a b:Int):Bool:=match a,b with
 | .ofNat m,.ofNat n=>Nat.beq m n
 | .negSucc m,.negSucc n=>Nat.beq m n
 | _,_=>false
theorem BN(m n:Nat):Nat.beq m n=decide (m=n):=by
 by_cases h:m=n
 ·rw[decide_eq_true h];exact Eq.mpr Nat.beq_eq h
 ·rw[decide_eq_false h]
  cases hb:Nat.beq m n
  ·rfl
  ·exact absurd (Eq.mp Nat.beq_eq hb) h
theorem MM(a b:Int):Ox a b=(a == b):=by
 have e:(a == b)=decide (a=b):=rfl
 rw[e]
 cases a with
 | ofNat m=>cases b with
  | ofNat n =>
   simp only[Ox,BN]
   exact decide_eq_decide.2 (Int.ofNat_inj (m:=m) (n:=n)).symm
  | negSucc n=>rfl
 | negSucc m=>cases b with
  | ofNat n=>rfl
  | negSucc n =>
   simp only[Ox,BN]
   exact decide_eq_decide.2 (by simp)
def Kh:BinOp -> Option (Int -> Int -> Bool)
 | .lss=>some λ a b=>NL a b
 | .leq=>some λ a b=>PM a b
 | .gtr=>some λ a b=>NL b a
 | .geq=>some λ a b=>PM b a
 | .eql=>some λ a b=>Ox a b
 | .neq=>some λ a b=>MK (Ox a b)
 | _=>none
theorem Ki{op:BinOp}{q}(h:Kh op=some q)(a b:Int):Gl op a b=some (q a b):=by
 cases op <;> simp only[Kh,Option.some.injEq,reduceCtorEq] at h <;> subst h <;> simp only[Gl,G3,ML,MM,BM] <;> rfl
section
variable (P:Program) (G N:Nat) (ops:Array Oper) (o:Oper) (k:Kt) (g:Value -> Tr Value -> Tr Value)
def PN(f:Tr Value -> Value)(ih:Ih)(r:Option Nat)(T:Tr Value)(D:List Deferred)(H:AH)(n:Nat):Option St:=eO (f T) λ v=>k ih r (g v T) D H n
def Oy(u:Value)(x y:Option St):Option St:=match u with
 | .bool b=>match b with
  | true=>x
  | false=>y
 | _=>none
def G4(f fa fb:Tr Value -> Value)(ih:Ih)(r:Option Nat)(T:Tr Value)(D:List Deferred)(H:AH)(n:Nat):Option St:=Oy (f T) (eO (fa T) λ v=>k ih r (g v T) D H n) (eO (fb T) λ v=>k ih r (g v T) D H n)
def Oz(u:Value)(x y:Option St):Option St:=match u with
 | .pointer p=>match p with
  | some _=>x
  | none=>y
 | _=>y
def MN(f:Tr Value -> Value)(ih:Ih)(r:Option Nat)(T:Tr Value)(D:List Deferred)(H:AH)(n:Nat):Option St:=Oz (f T) (eO (f T) λ v=>k ih r (g v T) D H n) (cW P G N ops o k ih r T D H n)
def OA(q:Int -> Int -> Bool)(u v:Value)(x:Bool -> Option St)(y:Option St):Option St:=match u with
 | .int ka a=>match v with
  | .int kb b=>match Ql ka kb with
   | true=>match q a b with
    | true=>x true
    | false=>x false
   | false=>y
  | _=>y
 | _=>y
def MO(q:Int -> Int -> Bool)(f1 f2:Tr Value -> Value)(ih:Ih)(r:Option Nat)(T:Tr Value)(D:List Deferred)(H:AH)(n:Nat):Option St:=OA q (f1 T) (f2 T) (λ b=>k ih r (g (.bool b) T) D H n) (cW P G N ops o k ih r T D H n)
def Qm(c:Nat)(u:Value)(x:Value -> Option St):Option St:=match u with
 | .pointer p=>match p with
  | some a=>match a with
   | ⟨b,off,s⟩=>match c with
    | 0=>x (.pointer (some ⟨b,off,s⟩))
    | c+1=>x (.pointer (some ⟨b,off+(c+1),none⟩))
  | none=>none
 | _=>none
def MP(c:Nat)(f:Tr Value -> Value)(ih:Ih)(r:Option Nat)(T:Tr Value)(D:List Deferred)(H:AH)(n:Nat):Option St:=Qm c (f T) λ v=>k ih r (g v T) D H n
def ldB(off:Nat)(s:Option Nat)(b:Option AB)(x:Value -> Option St):Option St:=match s with
 | none=>match b with
  | some c=>match c with
   | .cells n tr _ _ _=>match Nat.blt off n with
    | true=>eO (cU tr off) x
    | false=>none
   | _=>none
  | none=>none
 | some _=>none
def ldR(H:AH)(u:Value)(x:Value -> Option St):Option St:=match u with
 | .pointer p=>match p with
  | some a=>match a with
   | ⟨b,off,s⟩=>ldB off s (bL H b) x
  | none=>none
 | _=>none
def Qn(f:Tr Value -> Value)(ih:Ih)(r:Option Nat)(T:Tr Value)(D:List Deferred)(H:AH)(n:Nat):Option St:=ldR H (f T) λ v=>k ih r (g v T) D H n
def laB(off c:Nat)(s:Option Nat)(b:Option AB)(x:Value -> Option St):Option St:=match s with
 | none=>match b with
  | some ab=>match ab with
   | .cells n tr _ _ _=>match Nat.ble (off+c) n with
    | true=>zY (gL tr off c) λ l=>x (.agg ⟨l⟩)
    | false=>none
   | _=>none
  | none=>none
 | some _=>none
def laR(c:Nat)(H:AH)(u:Value)(x:Value -> Option St):Option St:=match u with
 | .pointer p=>match p with
  | some a=>match a with
   | ⟨b,off,s⟩=>laB off c s (bL H b) x
  | none=>none
 | _=>none
def Qo(c:Nat)(f:Tr Value -> Value)(ih:Ih)(r:Option Nat)(T:Tr Value)(D:List Deferred)(H:AH)(n:Nat):Option St:=laR c H (f T) λ v=>k ih r (g v T) D H n
def alF(b:AB)(ih:Ih)(r:Option Nat)(T:Tr Value)(D:List Deferred)(H:AH)(n:Nat):Option St:=k ih r (g (.pointer (some ⟨n,0,none⟩)) T) D (cT H n (some b)) (n+1)
def ixR(c:Nat)(u i:Value)(x:Value -> Option St):Option St:=match u with
 | .slice p m _=>match p with
  | some a=>match i with
   | .int _ i=>match i with
    | .ofNat i=>match Nat.blt i m with
     | true=>match a with
      | ⟨b,off,s⟩=>match i * c with
       | 0=>x (.pointer (some ⟨b,off,s⟩))
       | j+1=>x (.pointer (some ⟨b,off+(j+1),none⟩))
     | false=>none
    | _=>none
   | _=>none
  | none=>none
 | _=>none
def Qp(c:Nat)(f1 f2:Tr Value -> Value)(ih:Ih)(r:Option Nat)(T:Tr Value)(D:List Deferred)(H:AH)(n:Nat):Option St:=ixR c (f1 T) (f2 T) λ v=>k ih r (g v T) D H n
def stB(off:Nat)(s:Option Nat)(v:Value)(b:Option AB)(x:AB -> Option St)(y:Option St):Option St:=match s with
 | none=>match b with
  | some c=>match c with
   | .cells n tr ty w ro=>match ro with
    | false=>match Nat.blt off n with
     | true=>x (.cells n (sK tr off v) ty w false)
     | false=>y
    | true=>y
   | _=>y
  | none=>y
 | some _=>y
def BO(v:Value):Bool:=match v with
 | .agg _=>false
 | .tuple _=>false
 | _=>true
def stR(H:AH)(u v:Value)(x:Nat -> AB -> Option St)(y:Option St):Option St:=match BO v with
 | true=>match u with
  | .pointer p=>match p with
   | some a=>match a with
    | ⟨b,off,s⟩=>eO v λ v=>stB off s v (bL H b) (x b) y
   | none=>y
  | _=>y
 | false=>y
def Qq(f1 f2:Tr Value -> Value)(ih:Ih)(r:Option Nat)(T:Tr Value)(D:List Deferred)(H:AH)(n:Nat):Option St:=stR H (f1 T) (f2 T) (λ b ab=>k ih r T D (cT H b (some ab)) n) (cW P G N ops o k ih r T D H n)
def PO(x:Option Rs)(y:Value -> AH -> Nat -> Option St):Option St:=match x with
 | some x=>match x with
  | .fn v H n=>eO v λ v=>y v H n
  | .cd _ _=>none
 | none=>none
def Qr(f:FuncId)(as:Tr Value -> List Value)(ih:Ih)(r:Option Nat)(T:Tr Value)(D:List Deferred)(H:AH)(n:Nat):Option St:=PO (ih (.fn f (as T) H n)) λ v H n=>k ih r (g v T) D H n
def Qs(f:FuncId)(as:Tr Value -> List Value)(ih:Ih)(r:Option Nat)(T:Tr Value)(D:List Deferred)(H:AH)(n:Nat):Option St:=PO (ih (.fn f (as T) H n)) λ v H n=>k ih r T D H n
end
section
variable {P:Program} {G N:Nat} {ops:Array Oper} {o:Oper} {k:Kt} {g:Value -> Tr Value -> Tr Value}
theorem fC(hd:iq N o.dst=.ok g)(ih:Ih)(r:Option Nat)(T:Tr Value)(D:List Deferred)(v:Value)(H:AH)(n:Nat):og N o k ih r T D v H n=k ih r (g v T) D H n:=by
 rw[og,BI hd]
theorem BP(hd:iq N o.dst=.no)(ih:Ih)(r:Option Nat)(T:Tr Value)(D:List Deferred)(v:Value)(H:AH)(n:Nat):og N o k ih r T D v H n=k ih r T D H n:=by
 rw[og,BJ hd]
theorem LC(hg:o.guard=none)(ho:nr G o=true)(hd:iq N o.dst=.ok g){x:Operand}(hx:o.op=.move x \/ o.op=.assign x){f}(hf:∀T,f T=ael T x)(ih r T D H n):PN k g f ih r T D H n=cW P G N ops o k ih r T D H n:=by
 have hc:sw P o.op=.pu:=by cases hx with|inl h=>rw[h];rfl|inr h=>rw[h];rfl
 have hp:gK P o T=some (ael T x):=by unfold gK;cases hx with|inl h=>rw[h]|inr h=>rw[h]
 rw[o8 hg ho hc,hp,PN,hf,cD]
 exact(fC hd ..).symm
theorem Kj(hg:o.guard=none)(ho:nr G o=true)(hd:iq N o.dst=.ok g){c a b:Operand}(hx:o.op=.pick c a b){f fa fb}(hf:∀T,f T=ael T c)(hfa:∀T,fa T=ael T a)(Zl:∀T,fb T=ael T b)(ih r T D H n):G4 k g f fa fb ih r T D H n=cW P G N ops o k ih r T D H n:=by
 rw[o8 hg ho (by rw[hx];rfl)]
 unfold gK
 rw[hx]
 simp only[G4,hf,hfa,Zl,cD]
 cases ael T c with
 | bool q=>cases q <;> exact(fC hd ..).symm
 | _=>rfl
theorem MQ(hg:o.guard=none)(ho:nr G o=true)(hd:iq N o.dst=.ok g){x:Operand}(hx:o.op=.nilCheck x){f}(hf:∀T,f T=ael T x)(ih r T D H n):MN P G N ops o k g f ih r T D H n=cW P G N ops o k ih r T D H n:=by
 simp only[MN,hf]
 cases he:ael T x with
 | pointer p=>cases p with
  | none=>rfl
  | some a =>
   rw[o8 hg ho (by rw[hx];rfl)]
   unfold gK
   rw[hx]
   simp only[he,Oz,cD]
   exact(fC hd ..).symm
 | _=>rfl
theorem MR(hg:o.guard=none)(ho:nr G o=true)(hd:iq N o.dst=.ok g){op t x y z}(hx:o.op=.binOp op t x y z){q}(hq:Kh op=some q){f1 f2}(Yw:∀T,f1 T=ael T x)(Su:∀T,f2 T=ael T y)(ih r T D H n):MO P G N ops o k g q f1 f2 ih r T D H n=cW P G N ops o k ih r T D H n:=by
 simp only[MO,Yw,Su]
 cases he:ael T x with
 | int ka a=>cases he2:ael T y with
  | int kb b =>
   simp only[OA]
   cases hk:Ql ka kb with
   | false=>rfl
   | true =>
    rw[o8 hg ho (by rw[hx];rfl)]
    unfold gK
    rw[hx]
    rw[MJ] at hk
    simp only[he,he2,Ki hq,hk]
    cases q a b <;> exact(fC hd ..).symm
  | _=>rfl
 | _=>rfl
theorem MS(hg:o.guard=none)(ho:nr G o=true)(hd:iq N o.dst=.ok g){t x j}(hx:o.op=.fieldAddr t x j){c ft}(hc:xg P t j=some (c,ft)){f}(hf:∀T,f T=ael T x)(ih r T D H n):MP k g c f ih r T D H n=cW P G N ops o k ih r T D H n:=by
 rw[o8 hg ho (by rw[hx];rfl)]
 unfold gK
 rw[hx]
 simp only[MP,hf,hc]
 cases he:ael T x with
 | pointer p=>cases p with
  | none=>rfl
  | some a=>cases a with
   | mk b off s=>cases c with
    | zero=>exact(fC hd ..).symm
    | succ c=>exact(fC hd ..).symm
 | _=>rfl
theorem OB(hg:o.guard=none)(ho:nr G o=true)(hd:iq N o.dst=.ok g){t x}(hx:o.op=.load t x)(hc:xf P t=true){f}(hf:∀T,f T=ael T x)(ih r T D H n):Qn k g f ih r T D H n=cW P G N ops o k ih r T D H n:=by
 rw[G2 hg ho (by rw[hx];rfl)]
 unfold jy
 rw[hx]
 simp only[Qn,hf]
 cases he:ael T x with
 | pointer p=>cases p with
  | none=>rfl
  | some a=>cases a with
   | mk b off s =>
    cases s with
    | some s=>rfl
    | none =>
     simp only[ldR,tL]
     cases bL H b with
     | none=>rfl
     | some c=>cases c with
      | cells nn tr ty w ro =>
       simp only[ldB,hc]
       cases Nat.blt off nn
       ·rfl
       ·simp only[cD];exact(fC hd ..).symm
      | _=>rfl
 | _=>rfl
theorem OC(hg:o.guard=none)(ho:nr G o=true)(hd:iq N o.dst=.ok g){t x}(hx:o.op=.load t x)(hc:xf P t=false){c}(ha:zD P t=some c){f}(hf:∀T,f T=ael T x)(ih r T D H n):Qo k g c f ih r T D H n=cW P G N ops o k ih r T D H n:=by
 rw[G2 hg ho (by rw[hx];rfl)]
 unfold jy
 rw[hx]
 simp only[Qo,hf]
 cases he:ael T x with
 | pointer p=>cases p with
  | none=>rfl
  | some a=>cases a with
   | mk b off s =>
    cases s with
    | some s=>rfl
    | none =>
     simp only[laR,tL]
     cases bL H b with
     | none=>rfl
     | some ab=>cases ab with
      | cells nn tr ty w ro =>
       simp only[laB,hc,ha]
       cases Nat.ble (off+c) nn
       ·rfl
       ·simp only[uc];exact(fC hd ..).symm
      | _=>rfl
 | _=>rfl
theorem OD(hg:o.guard=none)(ho:nr G o=true)(hd:iq N o.dst=.ok g){t}(hx:o.op=.alloc t){z}(hz:kT P t=some z){b}(hb:jK z t=b)(ih r T D H n):alF k g b ih r T D H n=cW P G N ops o k ih r T D H n:=by
 rw[MH hg ho (by rw[hx];rfl)]
 unfold sM
 rw[hx]
 simp only[hz,hb]
 exact(fC hd ..).symm
theorem OE(hg:o.guard=none)(ho:nr G o=true)(hd:iq N o.dst=.ok g){t x i}(hx:o.op=.indexAddr t x i){el c}(ht:P.underlying t=some (.slice el))(hc:fd P el=some c){f1 f2}(Yw:∀T,f1 T=ael T x)(Su:∀T,f2 T=ael T i)(ih r T D H n):Qp k g c f1 f2 ih r T D H n=cW P G N ops o k ih r T D H n:=by
 rw[o8 hg ho (by rw[hx];rfl)]
 unfold gK
 rw[hx]
 simp only[Qp,Yw,Su,ht]
 cases he:ael T x with
 | slice p m cc=>cases p with
  | none=>rfl
  | some a=>cases a with
   | mk b off s=>cases he2:ael T i with
    | int ki i=>cases i with
     | ofNat i =>
      simp only[ixR,I7,hc]
      cases Nat.blt i m with
      | false=>rfl
      | true =>
       simp only[zF]
       cases i * c with
       | zero=>exact(fC hd ..).symm
       | succ j=>exact(fC hd ..).symm
     | negSucc i=>rfl
    | _=>rfl
 | _=>cases he2:ael T i <;> rfl
theorem OG(hg:o.guard=none)(ho:nr G o=true)(hd:iq N o.dst=.no){t x y}(hx:o.op=.store t x y)(ht:fd P t=some 1){f1 f2}(Yw:∀T,f1 T=ael T x)(Su:∀T,f2 T=ael T y)(ih r T D H n):Qq P G N ops o k f1 f2 ih r T D H n=cW P G N ops o k ih r T D H n:=by
 simp only[Qq,Yw,Su]
 unfold stR
 cases Q_:BO (ael T y) with
 | false=>rfl
 | true =>
  cases he:ael T x with
  | pointer p=>cases p with
   | none=>rfl
   | some a=>cases a with
    | mk b off s=>cases s with
     | some s=>simp only[cD];rfl
     | none =>
      simp only[cD]
      cases hb:bL H b with
      | none=>rfl
      | some c=>cases c with
       | cells nn tr ty w ro=>cases ro with
        | true=>rfl
        | false =>
         simp only[stB]
         cases iF:Nat.blt off nn with
         | false=>rfl
         | true =>
          have hcl:gS (ael T y)=[ael T y]:=by
           cases hv:ael T y <;> first|rfl|(rw[hv] at Q_;simp[BO] at Q_)
          have hff:jY [ael T y]=true:=by
           cases hv:ael T y <;> first|rfl|(rw[hv] at Q_;simp[BO] at Q_)
          have hle:Nat.ble (off+1) nn=true:=iF
          have WO:mZ P o T H n=some (.val undef (cT H b (some (.cells nn (sK tr off (ael T y)) ty w false))) n):=by
           unfold mZ
           rw[hx]
           simp only[he,vc,ht,hcl,gt,oT,hb,hle,hff]
           rfl
          rw[MI hg ho (by rw[hx];rfl) ih r T D H n WO]
          exact(BP hd ..).symm
       | _=>rfl
  | _=>rfl
theorem G5{f:FuncId}{c:Call}(hx:o.op=.call c)(hc:c.callee=.value (.func f))(hb:rk P f=true)(T H n):mZ P o T H n=some (.ent f (mY T c.args.toList)):=by
 unfold mZ
 rw[hx]
 simp only[hc,ael,qp,hb]
 simp
theorem G6{f:FuncId}{c:Call}(hx:o.op=.call c)(hc:c.callee=.value (.func f)):sw P o.op=.ef:=by
 rw[hx]
 obtain⟨ce,a,t⟩:=c
 simp only at hc
 subst hc
 rfl
theorem OH(hg:o.guard=none)(ho:nr G o=true)(hd:iq N o.dst=.ok g){f:FuncId}{c:Call}(hx:o.op=.call c)(hc:c.callee=.value (.func f))(hb:rk P f=true){as}(ha:∀T,as T=mY T c.args.toList)(ih r T D H n):Qr k g f as ih r T D H n=cW P G N ops o k ih r T D H n:=by
 rw[BK hg ho (G6 hx hc) ih r T D H n (G5 hx hc hb T H n),Qr,ha]
 cases ih (.fn f (mY T c.args.toList) H n) with
 | none=>rfl
 | some x=>cases x with
  | cd _ _=>rfl
  | fn v H n=>simp only[PO,cD];exact(fC hd ..).symm
theorem MT(hg:o.guard=none)(ho:nr G o=true)(hd:iq N o.dst=.no){f:FuncId}{c:Call}(hx:o.op=.call c)(hc:c.callee=.value (.func f))(hb:rk P f=true){as}(ha:∀T,as T=mY T c.args.toList)(ih r T D H n):Qs k f as ih r T D H n=cW P G N ops o k ih r T D H n:=by
 rw[BK hg ho (G6 hx hc) ih r T D H n (G5 hx hc hb T H n),Qs,ha]
 cases ih (.fn f (mY T c.args.toList) H n) with
 | none=>rfl
 | some x=>cases x with
  | cd _ _=>rfl
  | fn v H n=>simp only[PO,cD];exact(BP hd ..).symm
end
end
noncomputable section
def Qt(P:Program)(G N:Nat)(ops:Array Oper)(o:Oper)(k:Kt)(g:Value -> Tr Value -> Tr Value):CzR:=match o.op with
 | .move x=>match cv x with
  | .mk f=>.mk (PN k g f)
 | .assign x=>match cv x with
  | .mk f=>.mk (PN k g f)
 | .pick c a b=>match cv c with
  | .mk f=>match cv a with
   | .mk fa=>match cv b with
    | .mk fb=>.mk (G4 k g f fa fb)
 | .nilCheck x=>match cv x with
  | .mk f=>.mk (MN P G N ops o k g f)
 | .binOp op _ x y _=>match Kh op with
  | some q=>match cv x with
   | .mk f1=>match cv y with
    | .mk f2=>.mk (MO P G N ops o k g q f1 f2)
  | none=>.mk (cW P G N ops o k)
 | .fieldAddr t x j=>match xg P t j with
  | some (c,_)=>match cv x with
   | .mk f=>.mk (MP k g c f)
  | none=>.mk (cW P G N ops o k)
 | .load t x=>match xf P t with
  | true=>match cv x with
   | .mk f=>.mk (Qn k g f)
  | false=>match zD P t with
   | some c=>match cv x with
    | .mk f=>.mk (Qo k g c f)
   | none=>.mk (cW P G N ops o k)
 | .alloc t=>match kT P t with
  | some z=>match jK z t with
   | .cells a b c d e=>.mk (alF k g (.cells a b c d e))
   | _=>.mk (cW P G N ops o k)
  | none=>.mk (cW P G N ops o k)
 | .indexAddr t x i=>match P.underlying t with
  | some (.slice el)=>match fd P el with
   | some c=>match cv x with
    | .mk f1=>match cv i with
     | .mk f2=>.mk (Qp k g c f1 f2)
   | none=>.mk (cW P G N ops o k)
  | _=>.mk (cW P G N ops o k)
 | .call c=>match c.callee with
  | .value (.func f)=>match rk P f with
   | true=>match ca c.args.toList with
    | .mk as=>.mk (Qr k g f as)
   | false=>.mk (cW P G N ops o k)
  | _=>.mk (cW P G N ops o k)
 | _=>.mk (cW P G N ops o k)
def Qu(P:Program)(G N:Nat)(ops:Array Oper)(o:Oper)(k:Kt):CzR:=match o.op with
 | .store t x y=>match fd P t with
  | some 1=>match cv x with
   | .mk f1=>match cv y with
    | .mk f2=>.mk (Qq P G N ops o k f1 f2)
  | _=>.mk (cW P G N ops o k)
 | .call c=>match c.callee with
  | .value (.func f)=>match rk P f with
   | true=>match ca c.args.toList with
    | .mk as=>.mk (Qs k f as)
   | false=>.mk (cW P G N ops o k)
  | _=>.mk (cW P G N ops o k)
 | _=>.mk (cW P G N ops o k)
def G7(P:Program)(G N:Nat)(ops:Array Oper)(o:Oper)(k:Kt):CzR:=match nr G o with
 | true=>match iq N o.dst with
  | .ok g=>Qt P G N ops o k g
  | .no=>Qu P G N ops o k
  | .bad=>.mk (cW P G N ops o k)
 | false=>.mk (cW P G N ops o k)
def EE(o:Oper):Oper:=⟨o.dst,o.op,o.type,o.pos,o.after,none⟩
def Qv(want:Bool)(u:Value)(x y:Option St):Option St:=match u with
 | .bool b=>match b with
  | true=>match want with
   | true=>x
   | false=>y
  | false=>match want with
   | true=>y
   | false=>x
 | .tuple _=>y
 | _=>none
def guF(want:Bool)(f:Tr Value -> Value)(h:Kt)(k:Kt)(g:Value -> Tr Value -> Tr Value)(ih:Ih)(r:Option Nat)(T:Tr Value)(D:List Deferred)(H:AH)(n:Nat):Option St:=Qv want (f T) (h ih r T D H n) (k ih r (g undef T) D H n)
def guN(want:Bool)(f:Tr Value -> Value)(h:Kt)(k:Kt)(ih:Ih)(r:Option Nat)(T:Tr Value)(D:List Deferred)(H:AH)(n:Nat):Option St:=Qv want (f T) (h ih r T D H n) (k ih r T D H n)
def MU(P:Program)(G N:Nat)(ops:Array Oper)(o:Oper)(nx:CzR):CzR:=match nx with
 | .mk k=>match o.guard with
  | none=>G7 P G N ops o k
  | some (j,want)=>match (ops[j]?).bind (·.dst) with
   | some d=>match vk (pth d) with
    | .mk f=>match G7 P G N ops (EE o) k with
     | .mk h=>match iq N o.dst with
      | .ok g=>.mk (guF want f h k g)
      | .no=>.mk (guN want f h k)
      | .bad=>.mk (cW P G N ops o k)
   | none=>.mk (cW P G N ops o k)
def DJ(P:Program)(G N:Nat)(ops:Array Oper):List Oper -> CzR
 | []=>.mk λ _ _ T D H n=>some ⟨T,D,H,n⟩
 | o::l=>MU P G N ops o (DJ P G N ops l)
def G8(P:Program)(G N:Nat)(ops:Array Oper)(o:Oper)(k:Kt)(c:CzR):Prop:=∀ih r T D H n,c.f ih r T D H n=cW P G N ops o k ih r T D H n
theorem dE{P:Program}{G N:Nat}{ops:Array Oper}{o:Oper}{k:Kt}:G8 P G N ops o k (.mk (cW P G N ops o k)):=λ _ _ _ _ _ _=>rfl
theorem yI{x:Operand}{f}(h:cv x=.mk f)(T:Tr Value):f T=ael T x:=by
 have:=LA x T;rw[h] at this;exact this
theorem cam{x:List Operand}{f}(h:ca x=.mk f)(T:Tr Value):f T=mY T x:=by
 have:=LB x T;rw[h] at this;exact this
theorem MW{P:Program}{G N:Nat}{ops:Array Oper}{o:Oper}{k:Kt}{g}(hg:o.guard=none)(ho:nr G o=true)(hd:iq N o.dst=.ok g):G8 P G N ops o k (Qt P G N ops o k g):=by
 unfold Qt
 split
 ·rename_i x hx
  split;rename_i f hf
  exact λ ih r T D H n=>LC hg ho hd (.inl hx) (yI hf) ih r T D H n
 ·rename_i x hx
  split;rename_i f hf
  exact λ ih r T D H n=>LC hg ho hd (.inr hx) (yI hf) ih r T D H n
 ·rename_i c a b hx
  split;rename_i f hf
  split;rename_i fa hfa
  split;rename_i fb Zl
  exact λ ih r T D H n=>Kj hg ho hd hx (yI hf) (yI hfa) (yI Zl) ih r T D H n
 ·rename_i x hx
  split;rename_i f hf
  exact λ ih r T D H n=>MQ hg ho hd hx (yI hf) ih r T D H n
 ·rename_i op t x y z hx
  split
  ·rename_i q hq
   split;rename_i f hf
   split;rename_i f2 Su
   exact λ ih r T D H n=>MR hg ho hd hx hq (yI hf) (yI Su) ih r T D H n
  ·exact dE
 ·rename_i t x j hx
  split
  ·rename_i c ft hc
   split;rename_i f hf
   exact λ ih r T D H n=>MS hg ho hd hx hc (yI hf) ih r T D H n
  ·exact dE
 ·rename_i t x hx
  split
  ·rename_i hc
   split;rename_i f hf
   exact λ ih r T D H n=>OB hg ho hd hx hc (yI hf) ih r T D H n
  ·rename_i hc
   split
   ·rename_i c ha
    split;rename_i f hf
    exact λ ih r T D H n=>OC hg ho hd hx hc ha (yI hf) ih r T D H n
   ·exact dE
 ·rename_i t hx
  split
  ·rename_i z hz
   split
   ·rename_i a b c d e hb
    exact λ ih r T D H n=>OD hg ho hd hx hz hb ih r T D H n
   ·exact dE
  ·exact dE
 ·rename_i t x i hx
  split
  ·rename_i el ht
   split
   ·rename_i c hc
    split;rename_i f hf
    split;rename_i f2 Su
    exact λ ih r T D H n=>OE hg ho hd hx ht hc (yI hf) (yI Su) ih r T D H n
   ·exact dE
  ·exact dE
 ·rename_i c hx
  split
  ·rename_i f hc
   split
   ·rename_i hb
    split;rename_i as ha
    exact λ ih r T D H n=>OH hg ho hd hx hc hb (cam ha) ih r T D H n
   ·exact dE
  ·exact dE
 ·exact dE
theorem MX{P:Program}{G N:Nat}{ops:Array Oper}{o:Oper}{k:Kt}(hg:o.guard=none)(ho:nr G o=true)(hd:iq N o.dst=.no):G8 P G N ops o k (Qu P G N ops o k):=by
 unfold Qu
 split
 ·rename_i t x y hx
  split
  ·rename_i hc
   split;rename_i f hf
   split;rename_i f2 Su
   exact λ ih r T D H n=>OG hg ho hd hx hc (yI hf) (yI Su) ih r T D H n
  ·exact dE
 ·rename_i c hx
  split
  ·rename_i f hc
   split
   ·rename_i hb
    split;rename_i as ha
    exact λ ih r T D H n=>MT hg ho hd hx hc hb (cam ha) ih r T D H n
   ·exact dE
  ·exact dE
 ·exact dE
theorem BQ{P:Program}{G N:Nat}{ops:Array Oper}{o:Oper}{k:Kt}(hg:o.guard=none):G8 P G N ops o k (G7 P G N ops o k):=by
 unfold G7
 split
 ·rename_i ho
  split
  ·rename_i g hd
   exact MW hg ho hd
  ·rename_i hd
   exact MX hg ho hd
  ·exact dE
 ·exact dE
theorem ng(P:Program)(T:Tr Value)(o:Oper):gu P T (EE o)=gu P T o:=by
 have e:execOp (ael T) (EE o)=execOp (ael T) o:=by
  obtain⟨dst,op,type,pos,after,guard⟩:=o
  cases op <;> rfl
 unfold gu
 rw[e]
 rfl
theorem DL(P:Program)(T:Tr Value)(o:Oper):gK P (EE o) T=gK P o T:=by
 unfold gK
 simp only[ng]
 rfl
theorem DM(P:Program)(T:Tr Value)(H:AH)(o:Oper):jy P (EE o) T H=jy P o T H:=by
 unfold jy
 simp only[ng]
 rfl
theorem G9(P:Program)(T:Tr Value)(H:AH)(n:Nat)(o:Oper):mZ P (EE o) T H n=mZ P o T H n:=by
 unfold mZ
 simp only[ng]
 rfl
theorem Hb(P:Program)(G:Nat)(ih:Ih)(r:Option Nat)(T:Tr Value)(H:AH)(n:Nat)(o:Oper):jZ P G ih r (EE o) T H n=jZ P G ih r o T H n:=by
 unfold jZ Bu
 simp only[DL,DM,G9]
 rfl
theorem rN{P:Program}{G N:Nat}{ops:Array Oper}{o:Oper}{k:Kt}{j:Nat}{want:Bool}(hg:o.guard=some (j,want)){d:Tmp}(hd:(ops[j]?).bind (·.dst)=some d){f:Tr Value -> Value}(hf:∀T,f T=cU T d){h:Kt}(hh:∀ih r T D H n,h ih r T D H n=cW P G N ops (EE o) k ih r T D H n)(ih r T D H n) :
  cW P G N ops o k ih r T D H n=Qv want (f T) (h ih r T D H n) (match fo N o.dst undef T with|some T=>k ih r T D H n|none=>none):=by
 rw[hh,hf]
 have e:cW P G N ops (EE o) k ih r T D H n=match jZ P G ih r o T H n with
  | none=>none
  | some (.val v H n)=>eO v λ v=>match fo N o.dst v T with
   | some T=>k ih r T D H n
   | none=>none
  | some (.dfr d)=>match fo N o.dst undef T with
   | some T=>k ih r T (d::D) H n
   | none=>none:=by
  simp only[cW,eF,EE]
  rw[<- Hb P G ih r T H n o]
  rfl
 rw[e]
 simp only[cW,eF,hg,hd]
 cases cU T d with
 | bool b=>cases b <;> cases want <;> rfl
 | _=>rfl
theorem MY{P:Program}{G N:Nat}{ops:Array Oper}{o:Oper}{k:Kt}:G8 P G N ops o k (MU P G N ops o (.mk k)):=by
 cases hg:o.guard with
 | none=>simp only[MU,hg];exact BQ hg
 | some jw =>
  obtain⟨j,want⟩:=jw
  cases hd:(ops[j]?).bind (·.dst) with
  | none=>simp only[MU,hg,hd];exact dE
  | some d =>
   cases hf:vk (pth d) with
   | mk f=>cases hh:G7 P G N ops (EE o) k with
    | mk h =>
     have hf':∀T,f T=cU T d:=λ T=>by have:=qt (pth d) T;rw[hf] at this;exact this
     have hh':=BQ (P:=P) (G:=G) (N:=N) (ops:=ops) (o:=EE o) (k:=k) rfl
     rw[hh] at hh'
     cases hdk:iq N o.dst with
     | ok g =>
      simp only[MU,hg,hd,hf,hh,hdk]
      intro ih r T D H n
      rw[rN hg hd hf' hh',BI hdk]
      rfl
     | no =>
      simp only[MU,hg,hd,hf,hh,hdk]
      intro ih r T D H n
      rw[rN hg hd hf' hh',BJ hdk]
      rfl
     | bad=>simp only[MU,hg,hd,hf,hh,hdk];exact dE
theorem BR(P:Program)(G N:Nat)(ops:Array Oper):∀l,CzR.okL P G N ops l (DJ P G N ops l).f
 | []=>λ ih r T D H n=>rfl
 | o::l=>by
  have h:=BR P G N ops l
  cases hk:DJ P G N ops l with
  | mk k =>
   rw[hk] at h
   intro ih r T D H n
   simp only[DJ,hk]
   rw[MY]
   exact Kg h o ih r T D H n
def PP(P:Program)(G N:Nat)(c:Code)(ih:Ih)(r:Option Nat)(T:Tr Value)(D:List Deferred)(H:AH)(n:Nat):Option (Ex × St):=ja P G ih r N c ⟨T,D,H,n⟩
def OI(k:Kt)(ih:Ih)(r:Option Nat)(T:Tr Value)(D:List Deferred)(H:AH)(n:Nat):Option (Ex × St):=match k ih r T D H n with
 | some s=>some (.normal,s)
 | none=>none
abbrev Kc:=Ih -> Option Nat -> Tr Value -> List Deferred -> AH -> Nat -> Option (Ex × St)
def Qw(x:Option (Ex × St))(y:Tr Value -> List Deferred -> AH -> Nat -> Option (Ex × St)):Option (Ex × St):=match x with
 | some p=>match p with
  | (e,s)=>match e with
   | .normal=>match s with
    | ⟨T,D,H,n⟩=>y T D H n
   | .exit id=>some (.exit id,s)
   | .ret=>some (.ret,s)
 | none=>none
def OJ(a b:Kc)(ih:Ih)(r:Option Nat)(T:Tr Value)(D:List Deferred)(H:AH)(n:Nat):Option (Ex × St):=Qw (a ih r T D H n) λ T D H n=>b ih r T D H n
def OL(u:Value)(x y:Option (Ex × St)):Option (Ex × St):=match u with
 | .bool b=>match b with
  | true=>x
  | false=>y
 | _=>none
def LD(f:Tr Value -> Value)(a b:Kc)(ih:Ih)(r:Option Nat)(T:Tr Value)(D:List Deferred)(H:AH)(n:Nat):Option (Ex × St):=OL (f T) (a ih r T D H n) (b ih r T D H n)
def OM(id:Nat)(x:Option (Ex × St)):Option (Ex × St):=match x with
 | some p=>match p with
  | (e,s)=>match e with
   | .exit Ty=>match Nat.beq Ty id with
    | true=>some (.normal,s)
    | false=>some (.exit Ty,s)
   | .normal=>some (.normal,s)
   | .ret=>some (.ret,s)
 | none=>none
def ON(id:Nat)(a:Kc)(ih:Ih)(r:Option Nat)(T:Tr Value)(D:List Deferred)(H:AH)(n:Nat):Option (Ex × St):=OM id (a ih r T D H n)
def OO(x:Option (Ex × St))(y:St -> Option Rs):Option (Ex × St):=match x with
 | some p=>match p with
  | (e,s)=>match e with
   | .normal=>match y s with
    | some q=>match q with
     | .cd e s=>some (e,s)
     | .fn _ _ _=>none
    | none=>none
   | .exit id=>some (.exit id,s)
   | .ret=>some (.ret,s)
 | none=>none
def OP(N:Nat)(c:Code)(a:Kc)(ih:Ih)(r:Option Nat)(T:Tr Value)(D:List Deferred)(H:AH)(n:Nat):Option (Ex × St):=OO (a ih r T D H n) λ s=>ih (.loop r N c s)
def iu(P:Program)(G N:Nat):Code -> CzC
 | .skip=>.mk λ _ _ T D H n=>some (.normal,⟨T,D,H,n⟩)
 | .label _=>.mk λ _ _ T D H n=>some (.normal,⟨T,D,H,n⟩)
 | .region id ops draw=>match draw with
  | false=>match DJ P G N ops ops.toList with
   | .mk k=>.mk (OI k)
  | true=>.mk (PP P G N (.region id ops true))
 | .seq a b=>match iu P G N a with
  | .mk fa=>match iu P G N b with
   | .mk fb=>.mk (OJ fa fb)
 | .cond c a b=>match cv c with
  | .mk f=>match iu P G N a with
   | .mk fa=>match iu P G N b with
    | .mk fb=>.mk (LD f fa fb)
 | .block id c=>match iu P G N c with
  | .mk fa=>.mk (ON id fa)
 | .loop c=>match iu P G N c with
  | .mk fa=>.mk (OP N c fa)
 | .rangeFunc g ps assign body=>.mk (PP P G N (.rangeFunc g ps assign body))
 | .exit id=>.mk λ _ _ T D H n=>some (.exit id,⟨T,D,H,n⟩)
 | .scope c=>iu P G N c
 | .goto l=>.mk (PP P G N (.goto l))
 | .ret=>.mk λ _ _ T D H n=>some (.ret,⟨T,D,H,n⟩)
 | .refuse x=>.mk (PP P G N (.refuse x))
def OQ(P:Program)(G N:Nat)(c:Code)(f:Kc):Prop:=∀ih r T D H n,f ih r T D H n=ja P G ih r N c ⟨T,D,H,n⟩
theorem iw(P:Program)(G N:Nat):∀c,OQ P G N c (iu P G N c).f
 | .skip=>λ _ _ _ _ _ _=>rfl
 | .label _=>λ _ _ _ _ _ _=>rfl
 | .region id ops draw=>by
  cases draw with
  | true=>exact λ _ _ _ _ _ _=>rfl
  | false =>
   have h:=BR P G N ops ops.toList
   cases hk:DJ P G N ops ops.toList with
   | mk k =>
    rw[hk] at h
    intro ih r T D H n
    simp only[iu,hk,CzC.f,OI,ja]
    have:=h ih r T D H n
    simp only[CzR.f] at this
    rw[this]
    cases mC P G ih r N ops ops.toList ⟨T,D,H,n⟩ <;> rfl
 | .seq a b=>by
  have h1:=iw P G N a
  have h2:=iw P G N b
  cases ha:iu P G N a with
  | mk fa=>cases hb:iu P G N b with
   | mk fb =>
    rw[ha] at h1;rw[hb] at h2
    intro ih r T D H n
    have e1:=h1 ih r T D H n
    simp only[CzC.f] at e1
    simp only[iu,ha,hb,CzC.f,OJ,ja,e1]
    cases ja P G ih r N a ⟨T,D,H,n⟩ with
    | none=>rfl
    | some p=>obtain⟨e,s⟩:=p;cases e with
     | normal=>obtain⟨T,D,H,n⟩:=s;exact h2 ih r T D H n
     | exit id=>rfl
     | ret=>rfl
 | .cond c a b=>by
  have h1:=iw P G N a
  have h2:=iw P G N b
  cases hc:cv c with
  | mk f=>cases ha:iu P G N a with
   | mk fa=>cases hb:iu P G N b with
    | mk fb =>
     rw[ha] at h1;rw[hb] at h2
     intro ih r T D H n
     simp only[iu,hc,ha,hb,CzC.f,LD,ja,yI hc]
     cases ael T c with
     | bool q=>cases q with
      | true=>exact h1 ih r T D H n
      | false=>exact h2 ih r T D H n
     | _=>rfl
 | .block id c=>by
  have h1:=iw P G N c
  cases ha:iu P G N c with
  | mk fa =>
   rw[ha] at h1
   intro ih r T D H n
   have e1:=h1 ih r T D H n
   simp only[CzC.f] at e1
   simp only[iu,ha,CzC.f,ON,ja,e1]
   cases ja P G ih r N c ⟨T,D,H,n⟩ with
   | none=>rfl
   | some p=>obtain⟨e,s⟩:=p;cases e with
    | normal=>rfl
    | exit Ty=>simp only[OM];cases Nat.beq Ty id <;> rfl
    | ret=>rfl
 | .loop c=>by
  have h1:=iw P G N c
  cases ha:iu P G N c with
  | mk fa =>
   rw[ha] at h1
   intro ih r T D H n
   have e1:=h1 ih r T D H n
   simp only[CzC.f] at e1
   simp only[iu,ha,CzC.f,OP,ja,e1]
   cases ja P G ih r N c ⟨T,D,H,n⟩ with
   | none=>rfl
   | some p=>obtain⟨e,s⟩:=p;cases e with
    | normal =>
     simp only[OO]
     cases ih (.loop r N c s) with
     | none=>rfl
     | some q=>cases q <;> rfl
    | exit Ty=>rfl
    | ret=>rfl
 | .rangeFunc g ps assign body=>λ _ _ _ _ _ _=>rfl
 | .exit id=>λ _ _ _ _ _ _=>rfl
 | .scope c=>by
  intro ih r T D H n
  simp only[iu,ja]
  exact iw P G N c ih r T D H n
 | .goto l=>λ _ _ _ _ _ _=>rfl
 | .ret=>λ _ _ _ _ _ _=>rfl
 | .refuse x=>λ _ _ _ _ _ _=>rfl
def Kk:List ResultVar -> Option CzA
 | []=>some (.mk λ _=>[])
 | x::l=>match x with
  | .tmp t=>match vk (pth t) with
   | .mk f=>match Kk l with
    | some c=>match c with
     | .mk h=>some (.mk λ T=>f T::h T)
    | none=>none
  | .cell _ _=>none
theorem Hc(P:Program)(H:AH)(T:Tr Value):∀ {l:List ResultVar} {h},Kk l=some (.mk h) -> oU P T H l=some (h T)
 | [],h,e=>by simp only[Kk,Option.some.injEq,CzA.mk.injEq] at e;subst e;rfl
 | .cell _ _::l,h,e=>by simp[Kk] at e
 | .tmp t::l,h,e=>by
  simp only[Kk] at e
  cases hf:vk (pth t) with
  | mk f =>
   rw[hf] at e
   simp only at e
   cases hl:Kk l with
   | none=>rw[hl] at e;simp at e
   | some c=>cases c with
    | mk h' =>
     rw[hl] at e
     simp only[Option.some.injEq,CzA.mk.injEq] at e
     subst e
     have:=qt (pth t) T
     rw[hf] at this
     simp only[CzV.f] at this
     simp only[oU,Hc P H T hl,this]
     rfl
def MZ(l:List Value):Nat -> Tr Value -> Tr Value:=List.rec (motive:=λ _=>Nat -> Tr Value -> Tr Value) (λ _ t=>t) (λ x _ ih i t=>eO x λ x=>ih (i+1) (dQ undef x (pth i) t)) l
theorem BS:∀ (l:List Value) (i:Nat) (t:Tr Value),MZ l i t=dK undef l i t
 | [],i,t=>rfl
 | x::l,i,t=>by
  have:=BS l (i+1) (dQ undef x (pth i) t)
  show (eO x λ x=>MZ l (i+1) (dQ undef x (pth i) t))=_
  rw[cD,this,dK]
  have e:Tr.set undef x t i=dQ undef x (pth i) t:=rfl
  rw[e]
  cases dQ undef x (pth i) t <;> rfl
def OS(h:List Value):Value:=match h with
 | []=>.tuple ⟨[]⟩
 | v::l=>match l with
  | []=>v
  | w::l=>.tuple ⟨v::w::l⟩
theorem Kl(h:List Value):OS h=xn h:=by
 cases h with
 | nil=>rfl
 | cons v l=>cases l <;> rfl
def OT(P:Program)(fn:Func)(ih:Ih)(s:St):Option Rs:=match kx P ih s.D s.H s.n with
 | some (H,n)=>match oU P s.T H fn.results.toList with
  | some vs=>some (.fn (xn vs) H n)
  | none=>none
 | none=>none
def Qx(P:Program)(fn:Func)(h:Tr Value -> List Value)(ih:Ih)(s:St):Option Rs:=match s with
 | ⟨T,D,H,n⟩=>match D with
  | []=>some (.fn (OS (h T)) H n)
  | d::D=>OT P fn ih ⟨T,d::D,H,n⟩
def fnR(x:Option (Ex × St))(y:St -> Option Rs):Option Rs:=match x with
 | some p=>match p with
  | (e,s)=>match e with
   | .exit _=>none
   | .normal=>y s
   | .ret=>y s
 | none=>none
def PQ(N:Nat)(k:Kc)(y:Ih -> St -> Option Rs)(ih:Ih)(args:List Value)(H:AH)(n:Nat):Option Rs:=match Nat.ble (gt args) N with
 | true=>fnR (k ih none (MZ args 0 .lf) [] H n) (y ih)
 | false=>none
def DN(P:Program)(G:Nat)(f:FuncId):CzF:=match ru P f with
 | some (fn,c)=>match iu P G fn.ntmps c with
  | .mk k=>match Kk fn.results.toList with
   | some h=>match h with
    | .mk h=>.mk (PQ fn.ntmps k (Qx P fn h))
   | none=>.mk (PQ fn.ntmps k (OT P fn))
 | none=>.mk λ _ _ _ _=>none
theorem M2{P:Program}{fn:Func}{h}(e:Kk fn.results.toList=some (.mk h))(ih:Ih)(s:St):Qx P fn h ih s=OT P fn ih s:=by
 obtain⟨T,D,H,n⟩:=s
 cases D with
 | cons d D=>rfl
 | nil=>simp only[Qx,OT,kx,Hc P H T e,Kl]
theorem He{P:Program}{G:Nat}{fn:Func}{c:Code}{f:FuncId}(hb:ru P f=some (fn,c)){k:Kc}(hk:OQ P G fn.ntmps c k){y:Ih -> St -> Option Rs}(hy:∀ih s,y ih s=OT P fn ih s)(ih:Ih)(args:List Value)(H:AH)(n:Nat):PQ fn.ntmps k y ih args H n=gM P G ih (.fn f args H n):=by
 simp only[PQ,gM,hb]
 cases Nat.ble (gt args) fn.ntmps with
 | false=>rfl
 | true =>
  simp only[hk ih,BS]
  rw[show dK undef args 0 .lf=mD args from rfl]
  cases ja P G ih none fn.ntmps c ⟨mD args,[],H,n⟩ with
  | none=>rfl
  | some p=>obtain⟨e,s⟩:=p;cases e with
   | exit _=>rfl
   | normal=>exact hy ih s
   | ret=>exact hy ih s
theorem Km(P:Program)(G:Nat)(f:FuncId)(ih:Ih)(args:List Value)(H:AH)(n:Nat):(DN P G f).f ih args H n=gM P G ih (.fn f args H n):=by
 cases hb:ru P f with
 | none=>simp only[DN,hb,CzF.f,gM]
 | some p =>
  obtain⟨fn,c⟩:=p
  have h1:=iw P G fn.ntmps c
  cases hk:iu P G fn.ntmps c with
  | mk k =>
   rw[hk] at h1
   cases hr:Kk fn.results.toList with
   | none =>
    simp only[DN,hb,hk,hr,CzF.f]
    exact He hb h1 (λ _ _=>rfl) ih args H n
   | some h=>cases h with
    | mk h =>
     simp only[DN,hb,hk,hr,CzF.f]
     exact He hb h1 (λ ih s=>M2 hr ih s) ih args H n
def xQ(P:Program)(G:Nat)(ih:Ih)(t:Task):Option Rs:=match t with
 | .loop r N c s=>match iu P G N (.loop c) with
  | .mk k=>match s with
   | ⟨T,D,H,n⟩=>match k ih r T D H n with
    | some p=>match p with
     | (e,s)=>some (.cd e s)
    | none=>none
 | .fn f args H n=>match DN P G f with
  | .mk k=>k ih args H n
 | t=>gM P G ih t
theorem Hf(P:Program)(G:Nat)(ih:Ih)(t:Task):xQ P G ih t=gM P G ih t:=by
 cases t with
 | loop r N c s =>
  obtain⟨T,D,H,n⟩:=s
  have h1:=iw P G N (.loop c)
  cases hk:iu P G N (.loop c) with
  | mk k =>
   rw[hk] at h1
   have:=h1 ih r T D H n
   simp only[CzC.f] at this
   simp only[xQ,hk,gM,this]
   cases ja P G ih r N (.loop c) ⟨T,D,H,n⟩ with
   | none=>rfl
   | some p=>rfl
 | fn f args H n =>
  have:=Km P G f ih args H n
  cases hk:DN P G f with
  | mk k =>
   rw[hk] at this
   simp only[xQ,hk]
   exact this
 | _=>rfl
def Hg(P:Program)(G:Nat)(k:Nat):Ih:=Nat.rec (motive:=λ _=>Ih) (λ _=>none) (λ _ ih t=>xQ P G ih t) k
theorem BT(P:Program)(G:Nat):∀k,Hg P G k=GA P G k
 | 0=>rfl
 | k+1=>by
  funext t
  show xQ P G (Hg P G k) t=_
  rw[Hf,BT P G k]
  rfl
end
end Go.Proofs.YtgdcbiiopbpgaaaGreatDoor
