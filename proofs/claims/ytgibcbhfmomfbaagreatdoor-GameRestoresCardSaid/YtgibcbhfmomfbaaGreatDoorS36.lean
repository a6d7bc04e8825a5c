import Derived.Test.YtgibcbhfmomfbaaGreatDoorS35
import Derived.Test.YtgibcbhfmomfbaaGreatDoorS02
set_option maxHeartbeats 4000000
set_option maxRecDepth 100000
set_option linter.unusedSimpArgs false
set_option linter.unusedVariables false
namespace Go.Proofs.YtgibcbhfmomfbaaGreatDoor
open Go.RowKit
section code
variable {ν ν':Nu} {P:Program} {G N:Nat} {T T':Tr Value} {a:Act} {H H':AH} {F:HL} {w w':World} {r r':Option Nat} {ih:Task -> Option Rs}
theorem Ext.sub' {n m k:Nat} (h1:Ext ν ν' n m) (hf:Fr ν n k) (hm:m <= k):ν.Le ν':=h1.sub λ i a b=>hf i a (by omega)
theorem evC_loop (hih:IHok P G ih) {c:Code} (hc:∀ (s:St) e s',evC P G ih r N c s=some (e,s') -> TaskOk P G (.code r N c s) (.cd e s')) {s s':St} {e:Ex} (h:evC P G ih r N (.loop c) s=some (e,s')):TaskOk P G (.loop r N c s) (.cd e s'):=by
  rw [evC] at h
  split at h
  · rename_i s1 h1
    obtain ⟨q1,q2⟩:=hc _ _ _ h1
    split at h
    · rename_i e2 s2 h2
      cases h
      obtain ⟨p1,p2⟩:=hih _ _ h2
      refine ⟨by omega,λ ν F a w r' Q hr hs hf hk=>loopX_of ?_⟩
      refine q2 ν F a w r' _ hr hs (λ i a b=>hf i a (by omega)) (λ ν' a' w' k1 k2 k3=>?_)
      have hsub:=k1.sub' hf p1
      exact p2 ν' F a' w' r' Q (hr.mono hsub) k2 (k1.fr hf p1) (λ ν2 a2 w2 g1 g2 g3=>hk ν2 a2 w2 (k1.trans g1) g2 (k3.trans g3))
    · cases h
  · rename_i x hne
    obtain ⟨q1,q2⟩:=hc _ _ _ h
    refine ⟨q1,λ ν F a w r' Q hr hs hf hk=>loopX_of ?_⟩
    refine q2 ν F a w r' _ hr hs hf (λ ν' a' w' k1 k2 k3=>?_)
    have:=hk ν' a' w' k1 k2 k3
    cases e with
    | normal=>exact (hne _ h).elim
    | exit id=>exact this
    | ret=>exact this
theorem jumpE_wp {c:Code} {e:Ex} {Q:Exit -> Act -> World -> Prop} {a:Act} (h:jumpE c=some e) (hq:Q e.out a w):c.wpIn (Wr r') 0 P Q a w:=by
  unfold jumpE at h
  split at h
  · cases h;exact wpIn_ret hq
  · cases h;exact wpIn_exit hq
  · cases h
theorem enter_none {fn:FuncId} {tm:Array Value} {ps:Array Tmp} {as bo:Code} {w:World}:(Instr.enterLoop fn tm ps as bo none).run P w =
    .ok (w.heap.size+1,[{ target:=.collected w.heap.size,args:=#[] }]) { w with heap:=(w.heap.push (.deferred (some []))).push (.loop { state:=.ready,pending:=none,fn,tmps:=tm,params:=ps,assign:=as,body:=bo,defers:=w.heap.size }) }:=by
  unfold Instr.enterLoop
  simp only [Sem.run_bind,newObj_run,run_pu,Result.andThen_ok,Array.size_push]
theorem enter_some {fn:FuncId} {tm:Array Value} {ps:Array Tmp} {as bo:Code} {w:World} {l:Nat} {lp:Loop} (h:w.heap[l]?=some (.loop lp)):(Instr.enterLoop fn tm ps as bo (some l)).run P w =
    .ok (w.heap.size,[]) { w with heap:=w.heap.push (.loop { state:=.ready,pending:=none,fn,tmps:=tm,params:=ps,assign:=as,body:=bo,defers:=lp.defers }) }:=by
  unfold Instr.enterLoop
  simp only [Sem.run_bind,newObj_run,run_pu,Result.andThen_ok,getLoop_run h]
theorem setLoop_run {l:Nat} {lp:Loop} {o:Obj} (h:w.heap[l]?=some (.loop lp)):(setObj l o).run P w=.ok () { w with heap:=w.heap.setIfInBounds l o }:=by
  unfold setObj
  rw [Sem.run.eq_def]
  simp only [h]
  rfl
theorem HR.setObj (hH:HR ν H F w) {h b K:Nat} {b0 b1:AB} {o':Obj} (hb:hget H h=some b0) (hw0:wrb b0=true) (hw1:wrb b1=true) (hν:ν h=some (b,K)) (ho:OR ν K b1 o'):HR ν (hset H h (some b1)) F { w with heap:=w.heap.setIfInBounds b o' }:=by
  have hlt:=hH.lt hb hν
  refine hH.upd hb hw0 hw1 hν (o':=o') ?_ ho (λ k hk=>?_)
  · show (w.heap.setIfInBounds b o')[b]?=_
    rw [Array.getElem?_setIfInBounds_self_of_lt hlt]
  · show (w.heap.setIfInBounds b o')[k]?=_
    rw [Array.getElem?_setIfInBounds_ne (Ne.symm hk)]
theorem below_set {b:Nat} {o:Obj}:Below 0 w { w with heap:=w.heap.setIfInBounds b o }:=⟨rfl,rfl,rfl,by simp,λ k hk=>by omega⟩
theorem endLoop_run {l:Nat} {lp:Loop} (h:w.heap[l]?=some (.loop lp)) (hb:lp.state ≠ .busy):(Instr.endLoop l).run P w=.ok lp.pending { w with heap:=w.heap.setIfInBounds l (.loop { lp with state:=.exhausted }) }:=by
  unfold Instr.endLoop
  rw [Sem.run_bind,getLoop_run h]
  simp only [Result.andThen_ok]
  rw [if_neg (by simpa using hb)]
  rw [Sem.run_bind,setLoop_run h]
  rfl
theorem evC_range (hih:IHok P G ih) {g:Operand} {ps:Array Tmp} {as bo:Code} {s s':St} {e:Ex} (h:evC P G ih r N (.rangeFunc g ps as bo) s=some (e,s')):TaskOk P G (.code r N (.rangeFunc g ps as bo) s) (.cd e s'):=by
  rw [evC.eq_def] at h
  simp only at h
  split at h
  case h_2=>cases h
  rename_i f first captured hg hk
  split at h
  case h_2=>cases h
  rename_i hB
  split at h
  case h_2=>cases h
  rename_i d D H1 n1 hpre
  split at h
  case h_2=>cases h
  rename_i v H2 n2 hcall
  split at h
  case h_2=>cases h
  rename_i st pend T' N' ps' as' bo' d' hlp
  obtain ⟨hle,hsp⟩:=hih _ _ hcall
  have hn1:s.n <= n1:=by
    cases r with
    | none=>simp only [Option.some.injEq,Prod.mk.injEq] at hpre;omega
    | some l0 =>
      simp only at hpre
      split at hpre
      · simp only [Option.some.injEq,Prod.mk.injEq] at hpre;omega
      · cases hpre
  have hst:st ≠ .busy:=by
    rintro rfl
    simp at h
  have hs':s'=⟨s.T,D,hset H2 n1 (some (.loop .exhausted pend T' N' ps' as' bo' d')),n2⟩ /\ ((pend=none /\ e=.normal) \/ ∃ c,pend=some c /\ jumpE c=some e):=by
    cases st with
    | busy=>exact (hst rfl).elim
    | _ =>
      cases pend with
      | none=>simp at h;exact ⟨h.2.symm,.inl ⟨rfl,h.1.symm⟩⟩
      | some c =>
        simp only at h
        split at h
        · rename_i e1 he
          cases h
          exact ⟨rfl,.inr ⟨c,rfl,he⟩⟩
        · cases h
  obtain ⟨rfl,hpend⟩:=hs'
  refine ⟨by simp only;omega,λ ν F a w r' Q hr hs hf hkk=>?_⟩
  simp only at hf hkk
  refine wpIn_rangeFunc λ fn _=>?_
  have hlay:∃ (l:Nat) (mark:List Deferred) (w1:World) (ν1:Nu),(Instr.enterLoop fn a.tmps ps as bo (Wr r').round).run P w=.ok (l,mark) w1 /\ ν1 n1=some (l,0) /\ Ext ν ν1 s.n (n1+1) /\ HR ν1 (hset H1 n1 (some (.loop .ready none s.T N ps as bo d))) F w1 /\ Below 0 w w1 /\ DsR ν1 D (mark++a.defers) /\ ν.Le ν1:=by
    cases hr with
    | none =>
      simp only [Option.some.injEq,Prod.mk.injEq] at hpre
      obtain ⟨e1,e2,e3,e4⟩:=hpre
      subst e1;subst e2;subst e3;subst e4
      have hn0:ν s.n=none:=hf _ (Nat.le_refl _) (by omega)
      have hx1:Ext ν (ν.upd s.n w.heap.size 0) s.n (s.n+1):=.upd
      have hle1:=Nu.le_upd (r:=w.heap.size) (K:=0) hn0
      have h1:HR (ν.upd s.n w.heap.size 0) (hset s.H s.n (some (.dfr false))) F { w with heap:=w.heap.push (.deferred (some [])) }:=hs.h.new (K:=0) hn0 (b:=.dfr false) (o:=.deferred (some [])) rfl rfl rfl
      have hn2:(ν.upd s.n w.heap.size 0) (s.n+1)=none:=by rw [Nu.upd_ne (by omega)];exact hf _ (by omega) (by omega)
      have hx2:Ext (ν.upd s.n w.heap.size 0) ((ν.upd s.n w.heap.size 0).upd (s.n+1) (w.heap.size+1) 0) (s.n+1) (s.n+1+1):=.upd
      have hle2:=Nu.le_upd (r:=w.heap.size+1) (K:=0) hn2
      have h2:=h1.new (K:=0) (w':={ w with heap:=(w.heap.push (.deferred (some []))).push (.loop { state:=.ready,pending:=none,fn,tmps:=a.tmps,params:=ps,assign:=as,body:=bo,defers:=w.heap.size }) }) hn2 (b:=.loop .ready none s.T N ps as bo s.n) (o:=.loop { state:=.ready,pending:=none,fn,tmps:=a.tmps,params:=ps,assign:=as,body:=bo,defers:=w.heap.size }) ⟨rfl,rfl,hs.t.mono hle1,rfl,rfl,rfl,0,Nu.upd_self⟩ rfl rfl
      have hsz:({ w with heap:=w.heap.push (.deferred (some [])) }:World).heap.size=w.heap.size+1:=by simp
      rw [hsz] at h2
      refine ⟨w.heap.size+1,_,_,_,enter_none,Nu.upd_self,hx1.trans hx2,h2,⟨rfl,rfl,rfl,by simp;omega,λ k hk=>by omega⟩,.cons ⟨.coll (b:=w.heap.size) (K:=0) ?_,.nil⟩ ((hs.d.mono hle1).mono hle2),hle1.trans hle2⟩
      exact hle2 _ _ Nu.upd_self
    | @some l0 b0 K0 hν0 =>
      simp only at hpre
      split at hpre
      case h_2=>cases hpre
      rename_i _ _ _ _ _ _ _ dd hl0
      simp only [Option.some.injEq,Prod.mk.injEq] at hpre
      obtain ⟨e1,e2,e3,e4⟩:=hpre
      subst e1;subst e2;subst e3;subst e4
      obtain ⟨lp,g1,g2,g3,g4,g5,g6,g7,K',g8⟩:=hs.h.loop hl0 hν0
      have hn0:ν s.n=none:=hf _ (Nat.le_refl _) (by omega)
      have hle1:=Nu.le_upd (r:=w.heap.size) (K:=0) hn0
      have h1:=hs.h.new (K:=0) (w':={ w with heap:=w.heap.push (.loop { state:=.ready,pending:=none,fn,tmps:=a.tmps,params:=ps,assign:=as,body:=bo,defers:=lp.defers }) }) hn0 (b:=.loop .ready none s.T N ps as bo dd) (o:=.loop { state:=.ready,pending:=none,fn,tmps:=a.tmps,params:=ps,assign:=as,body:=bo,defers:=lp.defers }) ⟨rfl,rfl,hs.t,rfl,rfl,rfl,K',g8⟩ rfl rfl
      refine ⟨w.heap.size,_,_,_,enter_some g1,Nu.upd_self,.upd,h1,⟨rfl,rfl,rfl,by simp,λ k hk=>by omega⟩,hs.d.mono hle1,hle1⟩
  obtain ⟨l,mark,w1,ν1,g1,g2,g3,g4,g5,g6,g7⟩:=hlay
  have hgv:VRi ν (ael s.T g) (a.eval g):=(FE.mk hs.t hs.g:FE ν G N s.T a).ael hk
  rw [hg] at hgv
  obtain ⟨fn',f',c',e',r1,r2,r3⟩:=func_inv hgv
  cases r1
  refine ⟨l,mark,w1,{ target:=.fn (.func f) c',args:=f'++#[.func (.yield l) #[] #[]] },w1,f,⟨f'.toList++(.func (.yield l) #[] #[] :: c'.toList)⟩,w1,g1,?_,λ _ _=>trivial,?_,λ h=>(by cases h),?_⟩
  · have:=resolve_fn (P:=P) (c:=rangeCall g l) (ty:=0) (ρ:=a.eval) rfl e' w1
    rw [this]
    simp [Act.eval]
  · show (callFunc f (f'++#[.func (.yield l) #[] #[]]++c')).run P w1=_
    rw [callFunc_run hB]
    congr 2
    apply Array.ext'
    simp
  · have hf2:Fr ν1 (n1+1) n2:=g3.fr hf (by omega)
    refine Wr.calls ((hsp ν1 F w1 _ (hs.g.mono g7) hf2 g4 ((r2.mono g7).append (.cons (.func_of (.yield g2) .nil .nil) (r3.mono g7)))).mono ?_)
    rintro en w3 ⟨ν3,v',rfl,k1,k2,k3,k4⟩
    have hl3:ν3 n1=some (l,0):=k2.sub hf2 _ _ g2
    obtain ⟨lp,q1,q2,q3,q4,q5,q6,q7,K',q8⟩:=k3.loop hlp hl3
    refine ⟨lp.pending,_,endLoop_run q1 (by rw [q2];exact hst),?_⟩
    have hH3:HR ν3 (hset H2 n1 (some (.loop .exhausted pend T' N' ps' as' bo' d'))) F { w3 with heap:=w3.heap.setIfInBounds l (.loop { lp with state:=.exhausted }) } :=
      k3.setObj hlp rfl rfl hl3 ⟨rfl,q3,q4,q5,q6,q7,K',q8⟩
    have hExt:Ext ν ν3 s.n n2:=g3.trans k2
    have hfin:=hkk ν3 { a with defers:=mark++a.defers } { w3 with heap:=w3.heap.setIfInBounds l (.loop { lp with state:=.exhausted }) } hExt ⟨(hs.g.mono g7).mono (k2.sub hf2),(hs.t.mono g7).mono (k2.sub hf2),g6.mono (k2.sub hf2),hH3⟩ ((g5.trans k4).trans below_set)
    rcases hpend with ⟨hp,he⟩ | ⟨c,hp,he⟩
    · rw [q3.trans hp] at hfin ⊢
      subst he
      exact hfin
    · rw [q3.trans hp] at hfin ⊢
      exact jumpE_wp he hfin
theorem evC_ok (hih:IHok P G ih) (hm:P.follows .mixedOrders=true):∀ (c:Code) (s:St) (e:Ex) (s':St),evC P G ih r N c s=some (e,s') -> TaskOk P G (.code r N c s) (.cd e s'):=by
  have calm:∀ (c:Code) (s:St) (e:Ex),(∀ r' (Q:Exit -> Act -> World -> Prop) a w,Q e.out a w -> c.wpIn (Wr r') 0 P Q a w) -> TaskOk P G (.code r N c s) (.cd e s):=λ c s e h =>
    ⟨Nat.le_refl _,λ ν F a w r' Q hr hs hf hk=>h r' Q a w (hk ν a w (.refl _ _) hs (Below.refl _ _))⟩
  intro c
  induction c with
  | skip=>intro s e s' h;rw [evC] at h;cases h;exact calm _ _ _ λ r' Q a w hq=>wpIn_skip hq
  | label l=>intro s e s' h;rw [evC] at h;cases h;exact calm _ _ _ λ r' Q a w hq=>wpIn_label hq
  | exit id=>intro s e s' h;rw [evC] at h;cases h;exact calm _ _ _ λ r' Q a w hq=>wpIn_exit hq
  | ret=>intro s e s' h;rw [evC] at h;cases h;exact calm _ _ _ λ r' Q a w hq=>wpIn_ret hq
  | goto l=>intro s e s' h;rw [evC] at h;cases h
  | refuse y=>intro s e s' h;rw [evC] at h;cases h
  | region id ops draw =>
    intro s e s' h
    rw [evC.eq_def] at h
    simp only at h
    split at h
    · split at h
      · rename_i s1 h1
        cases h
        obtain ⟨q1,q2⟩:=evOps_ok hih _ _ _ h1
        exact ⟨q1,λ ν F a w r' Q hr hs hf hk=>wpIn_region_list (q2 ν F a w r' Q hr hs hf hk)⟩
      · cases h
    · split at h
      · rename_i s1 h1
        cases h
        exact evDr_ok hih hm h1
      · cases h
  | seq x y ihx ihy =>
    intro s e s' h
    rw [evC] at h
    split at h
    · rename_i s1 h1
      obtain ⟨q1,q2⟩:=ihx _ _ _ h1
      obtain ⟨p1,p2⟩:=ihy _ _ _ h
      refine ⟨by omega,λ ν F a w r' Q hr hs hf hk=>wpIn_seq ?_⟩
      refine q2 ν F a w r' _ hr hs (λ i a b=>hf i a (by omega)) (λ ν' a' w' k1 k2 k3=>?_)
      exact p2 ν' F a' w' r' Q (hr.mono (k1.sub' hf p1)) k2 (k1.fr hf p1) (λ ν2 a2 w2 g1 g2 g3=>hk ν2 a2 w2 (k1.trans g1) g2 (k3.trans g3))
    · rename_i hne
      obtain ⟨q1,q2⟩:=ihx _ _ _ h
      refine ⟨q1,λ ν F a w r' Q hr hs hf hk=>wpIn_seq ?_⟩
      refine q2 ν F a w r' _ hr hs hf (λ ν' a' w' k1 k2 k3=>?_)
      have:=hk ν' a' w' k1 k2 k3
      cases e with
      | normal=>exact (hne _ h).elim
      | exit id=>exact this
      | ret=>exact this
  | cond c x y ihx ihy =>
    intro s e s' h
    rw [evC] at h
    have hop:∀ ν F a w b,SR ν G N s F a w -> ael s.T c=.bool b -> a.eval c=.bool b:=λ ν F a w b hs he=>by
      cases c with
      | tmp t =>
        have:=(FE.mk hs.t hs.g:FE ν G N s.T a).ael (x:=.tmp t) rfl
        rw [he] at this
        exact this.plain_eq rfl
      | const v=>exact he
      | global g=>cases he
      | func f=>cases he
    split at h
    · rename_i he
      obtain ⟨q1,q2⟩:=ihx _ _ _ h
      exact ⟨q1,λ ν F a w r' Q hr hs hf hk=>wpIn_cond_true (hop _ _ _ _ _ hs he) (q2 ν F a w r' Q hr hs hf hk)⟩
    · rename_i he
      obtain ⟨q1,q2⟩:=ihy _ _ _ h
      exact ⟨q1,λ ν F a w r' Q hr hs hf hk=>wpIn_cond_false (hop _ _ _ _ _ hs he) (q2 ν F a w r' Q hr hs hf hk)⟩
    · cases h
  | block id c ihc =>
    intro s e s' h
    rw [evC] at h
    split at h
    · rename_i id' s1 h1
      obtain ⟨q1,q2⟩:=ihc _ _ _ h1
      split at h
      · rename_i hid
        cases h
        have hid':id'=id:=Nat.eq_of_beq_eq_true hid
        refine ⟨q1,λ ν F a w r' Q hr hs hf hk=>wpIn_block ?_⟩
        refine q2 ν F a w r' _ hr hs hf (λ ν' a' w' k1 k2 k3=>?_)
        show (if id'=id then _ else _)
        rw [if_pos hid']
        exact hk ν' a' w' k1 k2 k3
      · rename_i hid
        cases h
        refine ⟨q1,λ ν F a w r' Q hr hs hf hk=>wpIn_block ?_⟩
        refine q2 ν F a w r' _ hr hs hf (λ ν' a' w' k1 k2 k3=>?_)
        show (if id'=id then _ else _)
        rw [if_neg (λ e=>by subst e;simp at hid)]
        exact hk ν' a' w' k1 k2 k3
    · rename_i hne
      obtain ⟨q1,q2⟩:=ihc _ _ _ h
      refine ⟨q1,λ ν F a w r' Q hr hs hf hk=>wpIn_block ?_⟩
      refine q2 ν F a w r' _ hr hs hf (λ ν' a' w' k1 k2 k3=>?_)
      have:=hk ν' a' w' k1 k2 k3
      cases e with
      | normal=>exact this
      | exit id'=>exact (hne _ _ h).elim
      | ret=>exact this
  | loop c ihc =>
    intro s e s' h
    obtain ⟨q1,q2⟩:=evC_loop hih (λ s e s' h=>ihc s e s' h) h
    exact ⟨q1,λ ν F a w r' Q hr hs hf hk=>wpIn_loopX (q2 ν F a w r' Q hr hs hf hk)⟩
  | rangeFunc g ps as bo _ _=>intro s e s' h;exact evC_range hih h
  | scope c ihc =>
    intro s e s' h
    rw [evC] at h
    obtain ⟨q1,q2⟩:=ihc _ _ _ h
    refine ⟨q1,λ ν F a w r' Q hr hs hf hk=>wpIn_scope_straight ?_⟩
    refine q2 ν F a w r' _ hr hs hf (λ ν' a' w' k1 k2 k3=>?_)
    have:=hk ν' a' w' k1 k2 k3
    cases e <;> exact this
end code
end Go.Proofs.YtgibcbhfmomfbaaGreatDoor
