import Derived.Test.YtobflkidpfkcaaaGreatDoorY20
import Derived.Test.YtobflkidpfkcaaaGreatDoorY01
set_option maxHeartbeats 4000000
set_option maxRecDepth 100000
set_option linter.unusedSimpArgs false
set_option linter.unusedVariables false
namespace Go.Proofs.YtobflkidpfkcaaaGreatDoor
open Go.RowKit
section code
variable {ν ν':Nu} {P:Program} {G N:Nat} {T T':Tr Value} {a:Act} {H H':AH} {F:HL} {w w':World} {r r':Option Nat} {ih:Task -> Option Rs}
theorem Ext.sub' {n m k:Nat} (h1:Ext ν ν' n m) (hf:Fr ν n k) (hm:m <= k):ν.Le ν':=h1.sub λ i a b=>hf i a (by omega)
theorem wQ (hih:kc P G ih) {c:Code} (hc:∀ (s:St) e s',iQ P G ih r N c s=some (e,s') -> jq P G (.code r N c s) (.cd e s')) {s s':St} {e:Ex} (h:iQ P G ih r N (.loop c) s=some (e,s')):jq P G (.loop r N c s) (.cd e s'):=by
 rw [iQ] at h
 split at h
 ·rename_i s1 h1
  obtain ⟨q1,q2⟩:=hc _ _ _ h1
  split at h
  ·rename_i e2 s2 h2
   cases h
   obtain ⟨p1,p2⟩:=hih _ _ h2
   refine ⟨by omega,λ ν F a w r' Q hr hs hf hk=>wL ?_⟩
   refine q2 ν F a w r' _ hr hs (λ i a b=>hf i a (by omega)) (λ ν' a' w' k1 k2 k3=>?_)
   have hsub:=k1.sub' hf p1
   exact p2 ν' F a' w' r' Q (hr.mono hsub) k2 (k1.fr hf p1) (λ ν2 a2 w2 g1 g2 g3=>hk ν2 a2 w2 (k1.trans g1) g2 (k3.trans g3))
  ·cases h
 ·rename_i x hne
  obtain ⟨q1,q2⟩:=hc _ _ _ h
  refine ⟨q1,λ ν F a w r' Q hr hs hf hk=>wL ?_⟩
  refine q2 ν F a w r' _ hr hs hf (λ ν' a' w' k1 k2 k3=>?_)
  have:=hk ν' a' w' k1 k2 k3
  cases e with
  | normal=>exact (hne _ h).elim
  | exit id=>exact this
  | ret=>exact this
theorem FT {c:Code} {e:Ex} {Q:Exit -> Act -> World -> Prop} {a:Act} (h:Aj c=some e) (hq:Q e.out a w):c.wpIn (Wr r') 0 P Q a w:=by
 unfold Aj at h
 split at h
 ·cases h;exact wpIn_ret hq
 ·cases h;exact wpIn_exit hq
 ·cases h
theorem yS {fn:FuncId} {tm:Array Value} {ps:Array Tmp} {as bo:Code} {w:World}:(Instr.enterLoop fn tm ps as bo none).run P w =
  .ok (w.heap.size+1,[{ target:=.collected w.heap.size,args:=#[] }]) { w with heap:=(w.heap.push (.deferred (some []))).push (.loop { state:=.ready,pending:=none,fn,tmps:=tm,params:=ps,assign:=as,body:=bo,defers:=w.heap.size }) }:=by
 unfold Instr.enterLoop
 simp only [Sem.run_bind,eR,cE,Result.andThen_ok,Array.size_push]
theorem yT {fn:FuncId} {tm:Array Value} {ps:Array Tmp} {as bo:Code} {w:World} {l:Nat} {lp:Loop} (h:w.heap[l]?=some (.loop lp)):(Instr.enterLoop fn tm ps as bo (some l)).run P w =
  .ok (w.heap.size,[]) { w with heap:=w.heap.push (.loop { state:=.ready,pending:=none,fn,tmps:=tm,params:=ps,assign:=as,body:=bo,defers:=lp.defers }) }:=by
 unfold Instr.enterLoop
 simp only [Sem.run_bind,eR,cE,Result.andThen_ok,gz h]
theorem kW {l:Nat} {lp:Loop} {o:Obj} (h:w.heap[l]?=some (.loop lp)):(setObj l o).run P w=.ok () { w with heap:=w.heap.setIfInBounds l o }:=by
 unfold setObj
 rw [Sem.run.eq_def]
 simp only [h]
 rfl
theorem HR.setObj (hH:HR ν H F w) {h b K:Nat} {b0 b1:AB} {o':Obj} (hb:bO H h=some b0) (hw0:FB b0=true) (hw1:FB b1=true) (hν:ν h=some (b,K)) (ho:OR ν K b1 o'):HR ν (cP H h (some b1)) F { w with heap:=w.heap.setIfInBounds b o' }:=by
 have hlt:=hH.lt hb hν
 refine hH.upd hb hw0 hw1 hν (o':=o') ?_ ho (λ k hk=>?_)
 ·show (w.heap.setIfInBounds b o')[b]?=_
  rw [Array.getElem?_setIfInBounds_self_of_lt hlt]
 ·show (w.heap.setIfInBounds b o')[k]?=_
  rw [Array.getElem?_setIfInBounds_ne (Ne.symm hk)]
theorem lw {b:Nat} {o:Obj}:Below 0 w { w with heap:=w.heap.setIfInBounds b o }:=⟨rfl,rfl,rfl,by simp,λ k hk=>by omega⟩
theorem wR {l:Nat} {lp:Loop} (h:w.heap[l]?=some (.loop lp)) (hb:lp.state ≠ .busy):(Instr.endLoop l).run P w=.ok lp.pending { w with heap:=w.heap.setIfInBounds l (.loop { lp with state:=.exhausted }) }:=by
 unfold Instr.endLoop
 rw [Sem.run_bind,gz h]
 simp only [Result.andThen_ok]
 rw [if_neg (by simpa using hb)]
 rw [Sem.run_bind,kW h]
 rfl
theorem CL (hih:kc P G ih) {g:Operand} {ps:Array Tmp} {as bo:Code} {s s':St} {e:Ex} (h:iQ P G ih r N (.rangeFunc g ps as bo) s=some (e,s')):jq P G (.code r N (.rangeFunc g ps as bo) s) (.cd e s'):=by
 rw [iQ.eq_def] at h
 simp only at h
 split at h
 case h_2=>cases h
 rename_i f first captured hg hk
 split at h
 case h_2=>cases h
 rename_i hB
 split at h
 case h_2=>cases h
 rename_i d D H1 n1 hpre
 split at h
 case h_2=>cases h
 rename_i v H2 n2 hcall
 split at h
 case h_2=>cases h
 rename_i st pend T' N' ps' as' bo' d' hlp
 obtain ⟨hle,hsp⟩:=hih _ _ hcall
 have hn1:s.n <= n1:=by
  cases r with
  | none=>simp only [Option.some.injEq,Prod.mk.injEq] at hpre;omega
  | some l0 =>
   simp only at hpre
   split at hpre
   ·simp only [Option.some.injEq,Prod.mk.injEq] at hpre;omega
   ·cases hpre
 have hst:st ≠ .busy:=by
  rintro rfl
  simp at h
 have hs':s'=⟨s.T,D,cP H2 n1 (some (.loop .exhausted pend T' N' ps' as' bo' d')),n2⟩ /\ ((pend=none /\ e=.normal) \/ ∃ c,pend=some c /\ Aj c=some e):=by
  cases st with
  | busy=>exact (hst rfl).elim
  | _ =>
   cases pend with
   | none=>simp at h;exact ⟨h.2.symm,.inl ⟨rfl,h.1.symm⟩⟩
   | some c =>
    simp only at h
    split at h
    ·rename_i e1 he
     cases h
     exact ⟨rfl,.inr ⟨c,rfl,he⟩⟩
    ·cases h
 obtain ⟨rfl,hpend⟩:=hs'
 refine ⟨by simp only;omega,λ ν F a w r' Q hr hs hf hkk=>?_⟩
 simp only at hf hkk
 refine wpIn_rangeFunc λ fn _=>?_
 have hlay:∃ (l:Nat) (mark:List Deferred) (w1:World) (ν1:Nu),(Instr.enterLoop fn a.tmps ps as bo (Wr r').round).run P w=.ok (l,mark) w1 /\ ν1 n1=some (l,0) /\ Ext ν ν1 s.n (n1+1) /\ HR ν1 (cP H1 n1 (some (.loop .ready none s.T N ps as bo d))) F w1 /\ Below 0 w w1 /\ DsR ν1 D (mark++a.defers) /\ ν.Le ν1:=by
  cases hr with
  | none =>
   simp only [Option.some.injEq,Prod.mk.injEq] at hpre
   obtain ⟨e1,e2,e3,e4⟩:=hpre
   subst e1;subst e2;subst e3;subst e4
   have hn0:ν s.n=none:=hf _ (Nat.le_refl _) (by omega)
   have hx1:Ext ν (ν.upd s.n w.heap.size 0) s.n (s.n+1):=.upd
   have hle1:=jJ (r:=w.heap.size) (K:=0) hn0
   have h1:HR (ν.upd s.n w.heap.size 0) (cP s.H s.n (some (.dfr false))) F { w with heap:=w.heap.push (.deferred (some [])) }:=hs.h.new (K:=0) hn0 (b:=.dfr false) (o:=.deferred (some [])) rfl rfl rfl
   have hn2:(ν.upd s.n w.heap.size 0) (s.n+1)=none:=by rw [ez (by omega)];exact hf _ (by omega) (by omega)
   have hx2:Ext (ν.upd s.n w.heap.size 0) ((ν.upd s.n w.heap.size 0).upd (s.n+1) (w.heap.size+1) 0) (s.n+1) (s.n+1+1):=.upd
   have hle2:=jJ (r:=w.heap.size+1) (K:=0) hn2
   have h2:=h1.new (K:=0) (w':={ w with heap:=(w.heap.push (.deferred (some []))).push (.loop { state:=.ready,pending:=none,fn,tmps:=a.tmps,params:=ps,assign:=as,body:=bo,defers:=w.heap.size }) }) hn2 (b:=.loop .ready none s.T N ps as bo s.n) (o:=.loop { state:=.ready,pending:=none,fn,tmps:=a.tmps,params:=ps,assign:=as,body:=bo,defers:=w.heap.size }) ⟨rfl,rfl,hs.t.mono hle1,rfl,rfl,rfl,0,cm⟩ rfl rfl
   have hsz:({ w with heap:=w.heap.push (.deferred (some [])) }:World).heap.size=w.heap.size+1:=by simp
   rw [hsz] at h2
   refine ⟨w.heap.size+1,_,_,_,yS,cm,hx1.trans hx2,h2,⟨rfl,rfl,rfl,by simp;omega,λ k hk=>by omega⟩,.cons ⟨.coll (b:=w.heap.size) (K:=0) ?_,.nil⟩ ((hs.d.mono hle1).mono hle2),hle1.trans hle2⟩
   exact hle2 _ _ cm
  | @some l0 b0 K0 hν0 =>
   simp only at hpre
   split at hpre
   case h_2=>cases hpre
   rename_i _ _ _ _ _ _ _ dd hl0
   simp only [Option.some.injEq,Prod.mk.injEq] at hpre
   obtain ⟨e1,e2,e3,e4⟩:=hpre
   subst e1;subst e2;subst e3;subst e4
   obtain ⟨lp,g1,g2,g3,g4,g5,g6,g7,K',g8⟩:=hs.h.loop hl0 hν0
   have hn0:ν s.n=none:=hf _ (Nat.le_refl _) (by omega)
   have hle1:=jJ (r:=w.heap.size) (K:=0) hn0
   have h1:=hs.h.new (K:=0) (w':={ w with heap:=w.heap.push (.loop { state:=.ready,pending:=none,fn,tmps:=a.tmps,params:=ps,assign:=as,body:=bo,defers:=lp.defers }) }) hn0 (b:=.loop .ready none s.T N ps as bo dd) (o:=.loop { state:=.ready,pending:=none,fn,tmps:=a.tmps,params:=ps,assign:=as,body:=bo,defers:=lp.defers }) ⟨rfl,rfl,hs.t,rfl,rfl,rfl,K',g8⟩ rfl rfl
   refine ⟨w.heap.size,_,_,_,yT g1,cm,.upd,h1,⟨rfl,rfl,rfl,by simp,λ k hk=>by omega⟩,hs.d.mono hle1,hle1⟩
 obtain ⟨l,mark,w1,ν1,g1,g2,g3,g4,g5,g6,g7⟩:=hlay
 have hgv:VRi ν (ael s.T g) (a.eval g):=(FE.mk hs.t hs.g:FE ν G N s.T a).ael hk
 rw [hg] at hgv
 obtain ⟨fn',f',c',e',r1,r2,r3⟩:=qS hgv
 cases r1
 refine ⟨l,mark,w1,{ target:=.fn (.func f) c',args:=f'++#[.func (.yield l) #[] #[]] },w1,f,⟨f'.toList++(.func (.yield l) #[] #[] :: c'.toList)⟩,w1,g1,?_,λ _ _=>trivial,?_,λ h=>(by cases h),?_⟩
 ·have:=mC (P:=P) (c:=rangeCall g l) (ty:=0) (ρ:=a.eval) rfl e' w1
  rw [this]
  simp [Act.eval]
 ·show (callFunc f (f'++#[.func (.yield l) #[] #[]]++c')).run P w1=_
  rw [gT hB]
  congr 2
  apply Array.ext'
  simp
 ·have hf2:Fr ν1 (n1+1) n2:=g3.fr hf (by omega)
  refine js ((hsp ν1 F w1 _ (hs.g.mono g7) hf2 g4 ((r2.mono g7).append (.cons (.func_of (.yield g2) .nil .nil) (r3.mono g7)))).mono ?_)
  rintro en w3 ⟨ν3,v',rfl,k1,k2,k3,k4⟩
  have hl3:ν3 n1=some (l,0):=k2.sub hf2 _ _ g2
  obtain ⟨lp,q1,q2,q3,q4,q5,q6,q7,K',q8⟩:=k3.loop hlp hl3
  refine ⟨lp.pending,_,wR q1 (by rw [q2];exact hst),?_⟩
  have hH3:HR ν3 (cP H2 n1 (some (.loop .exhausted pend T' N' ps' as' bo' d'))) F { w3 with heap:=w3.heap.setIfInBounds l (.loop { lp with state:=.exhausted }) } :=
   k3.setObj hlp rfl rfl hl3 ⟨rfl,q3,q4,q5,q6,q7,K',q8⟩
  have hExt:Ext ν ν3 s.n n2:=g3.trans k2
  have hfin:=hkk ν3 { a with defers:=mark++a.defers } { w3 with heap:=w3.heap.setIfInBounds l (.loop { lp with state:=.exhausted }) } hExt ⟨(hs.g.mono g7).mono (k2.sub hf2),(hs.t.mono g7).mono (k2.sub hf2),g6.mono (k2.sub hf2),hH3⟩ ((g5.trans k4).trans lw)
  rcases hpend with ⟨hp,he⟩ | ⟨c,hp,he⟩
  ·rw [q3.trans hp] at hfin ⊢
   subst he
   exact hfin
  ·rw [q3.trans hp] at hfin ⊢
   exact FT he hfin
theorem om (hih:kc P G ih) (hm:P.follows .mixedOrders=true):∀ (c:Code) (s:St) (e:Ex) (s':St),iQ P G ih r N c s=some (e,s') -> jq P G (.code r N c s) (.cd e s'):=by
 have calm:∀ (c:Code) (s:St) (e:Ex),(∀ r' (Q:Exit -> Act -> World -> Prop) a w,Q e.out a w -> c.wpIn (Wr r') 0 P Q a w) -> jq P G (.code r N c s) (.cd e s):=λ c s e h =>
  ⟨Nat.le_refl _,λ ν F a w r' Q hr hs hf hk=>h r' Q a w (hk ν a w (.refl _ _) hs (Below.refl _ _))⟩
 intro c
 induction c with
 | skip=>intro s e s' h;rw [iQ] at h;cases h;exact calm _ _ _ λ r' Q a w hq=>wpIn_skip hq
 | label l=>intro s e s' h;rw [iQ] at h;cases h;exact calm _ _ _ λ r' Q a w hq=>wpIn_label hq
 | exit id=>intro s e s' h;rw [iQ] at h;cases h;exact calm _ _ _ λ r' Q a w hq=>wpIn_exit hq
 | ret=>intro s e s' h;rw [iQ] at h;cases h;exact calm _ _ _ λ r' Q a w hq=>wpIn_ret hq
 | goto l=>intro s e s' h;rw [iQ] at h;cases h
 | refuse y=>intro s e s' h;rw [iQ] at h;cases h
 | region id ops draw =>
  intro s e s' h
  rw [iQ.eq_def] at h
  simp only at h
  split at h
  ·split at h
   ·rename_i s1 h1
    cases h
    obtain ⟨q1,q2⟩:=nB hih _ _ _ h1
    exact ⟨q1,λ ν F a w r' Q hr hs hf hk=>wpIn_region_list (q2 ν F a w r' Q hr hs hf hk)⟩
   ·cases h
  ·split at h
   ·rename_i s1 h1
    cases h
    exact IV hih hm h1
   ·cases h
 | seq x y ihx ihy =>
  intro s e s' h
  rw [iQ] at h
  split at h
  ·rename_i s1 h1
   obtain ⟨q1,q2⟩:=ihx _ _ _ h1
   obtain ⟨p1,p2⟩:=ihy _ _ _ h
   refine ⟨by omega,λ ν F a w r' Q hr hs hf hk=>wpIn_seq ?_⟩
   refine q2 ν F a w r' _ hr hs (λ i a b=>hf i a (by omega)) (λ ν' a' w' k1 k2 k3=>?_)
   exact p2 ν' F a' w' r' Q (hr.mono (k1.sub' hf p1)) k2 (k1.fr hf p1) (λ ν2 a2 w2 g1 g2 g3=>hk ν2 a2 w2 (k1.trans g1) g2 (k3.trans g3))
  ·rename_i hne
   obtain ⟨q1,q2⟩:=ihx _ _ _ h
   refine ⟨q1,λ ν F a w r' Q hr hs hf hk=>wpIn_seq ?_⟩
   refine q2 ν F a w r' _ hr hs hf (λ ν' a' w' k1 k2 k3=>?_)
   have:=hk ν' a' w' k1 k2 k3
   cases e with
   | normal=>exact (hne _ h).elim
   | exit id=>exact this
   | ret=>exact this
 | cond c x y ihx ihy =>
  intro s e s' h
  rw [iQ] at h
  have hop:∀ ν F a w b,SR ν G N s F a w -> ael s.T c=.bool b -> a.eval c=.bool b:=λ ν F a w b hs he=>by
   cases c with
   | tmp t =>
    have:=(FE.mk hs.t hs.g:FE ν G N s.T a).ael (x:=.tmp t) rfl
    rw [he] at this
    exact this.plain_eq rfl
   | const v=>exact he
   | global g=>cases he
   | func f=>cases he
  split at h
  ·rename_i he
   obtain ⟨q1,q2⟩:=ihx _ _ _ h
   exact ⟨q1,λ ν F a w r' Q hr hs hf hk=>wpIn_cond_true (hop _ _ _ _ _ hs he) (q2 ν F a w r' Q hr hs hf hk)⟩
  ·rename_i he
   obtain ⟨q1,q2⟩:=ihy _ _ _ h
   exact ⟨q1,λ ν F a w r' Q hr hs hf hk=>wpIn_cond_false (hop _ _ _ _ _ hs he) (q2 ν F a w r' Q hr hs hf hk)⟩
  ·cases h
 | block id c ihc =>
  intro s e s' h
  rw [iQ] at h
  split at h
  ·rename_i id' s1 h1
   obtain ⟨q1,q2⟩:=ihc _ _ _ h1
   split at h
   ·rename_i hid
    cases h
    have hid':id'=id:=Nat.eq_of_beq_eq_true hid
    refine ⟨q1,λ ν F a w r' Q hr hs hf hk=>wpIn_block ?_⟩
    refine q2 ν F a w r' _ hr hs hf (λ ν' a' w' k1 k2 k3=>?_)
    show (if id'=id then _ else _)
    rw [if_pos hid']
    exact hk ν' a' w' k1 k2 k3
   ·rename_i hid
    cases h
    refine ⟨q1,λ ν F a w r' Q hr hs hf hk=>wpIn_block ?_⟩
    refine q2 ν F a w r' _ hr hs hf (λ ν' a' w' k1 k2 k3=>?_)
    show (if id'=id then _ else _)
    rw [if_neg (λ e=>by subst e;simp at hid)]
    exact hk ν' a' w' k1 k2 k3
  ·rename_i hne
   obtain ⟨q1,q2⟩:=ihc _ _ _ h
   refine ⟨q1,λ ν F a w r' Q hr hs hf hk=>wpIn_block ?_⟩
   refine q2 ν F a w r' _ hr hs hf (λ ν' a' w' k1 k2 k3=>?_)
   have:=hk ν' a' w' k1 k2 k3
   cases e with
   | normal=>exact this
   | exit id'=>exact (hne _ _ h).elim
   | ret=>exact this
 | loop c ihc =>
  intro s e s' h
  obtain ⟨q1,q2⟩:=wQ hih (λ s e s' h=>ihc s e s' h) h
  exact ⟨q1,λ ν F a w r' Q hr hs hf hk=>yQ (q2 ν F a w r' Q hr hs hf hk)⟩
 | rangeFunc g ps as bo _ _=>intro s e s' h;exact CL hih h
 | scope c ihc =>
  intro s e s' h
  rw [iQ] at h
  obtain ⟨q1,q2⟩:=ihc _ _ _ h
  refine ⟨q1,λ ν F a w r' Q hr hs hf hk=>gJ ?_⟩
  refine q2 ν F a w r' _ hr hs hf (λ ν' a' w' k1 k2 k3=>?_)
  have:=hk ν' a' w' k1 k2 k3
  cases e <;> exact this
end code
section fn
variable {ν ν':Nu} {P:Program} {G N:Nat} {T T':Tr Value} {a:Act} {H H':AH} {F:HL} {w w':World} {r r':Option Nat} {ih:Task -> Option Rs}
theorem ta {args args':List Value} (h:LR ν args args') (hl:fW args <= N):TRel ν N (lV args) ((⟨args'⟩:Array Value)++Array.replicate (N - (⟨args'⟩:Array Value).size) undef):=by
 rw [dW] at hl
 have hlen:=h.length
 refine ⟨by simp;omega,λ t ht=>?_,λ t ht=>?_⟩
 ·rcases Nat.lt_or_ge t args.length with h1 | h1
  ·obtain ⟨v',e,q⟩:=h.get (List.getElem?_eq_getElem h1)
   refine ⟨v',?_,?_⟩
   ·rw [Array.getElem?_append_left (by simp;omega)]
    simpa using e
   ·unfold lV;rw [kT h1];exact q
  ·refine ⟨undef,?_,?_⟩
   ·rw [Array.getElem?_append_right (by simp;omega),Array.getElem?_replicate]
    rw [if_pos (by simp;omega)]
   ·have:cQ (lV args) t=undef:=by
     unfold lV cQ
     rw [pM]
     rw [if_pos (Nat.zero_le _),dif_neg (by omega)]
     exact yG _
    rw [this];exact VRi.undef
 ·unfold lV cQ
  rw [pM,if_pos (Nat.zero_le _),dif_neg (by omega)]
  exact yG _
def FU (tm:Array Value):ResultVar -> Sem Value
 | .tmp t=>pure (tm.getD t undef)
 | .cell ad t=>do loadVar t (<- asAddr (tm.getD ad undef))
theorem oq (hE:FE ν G N T a) (hH:HR ν H F w):∀ {rs:List ResultVar} {vs:List Value},oa P T H rs=some vs -> ∃ vs',LR ν vs vs' /\ (rs.mapM (FU a.tmps)).run P w=.ok vs' w
 | [],vs,h=>by rw [oa] at h;cases h;exact ⟨[],.nil,rfl⟩
 | .tmp t :: rs,vs,h=>by
  rw [oa] at h
  split at h
  ·rename_i vs0 h0
   cases h
   obtain ⟨vs',q1,q2⟩:=oq hE hH h0
   have hv:VRi ν (cQ T t) (a.tmps.getD t undef):=hE.ael (x:=.tmp t) rfl
   haveI:=iJ
   refine ⟨_,.cons hv q1,?_⟩
   have h1:(FU a.tmps (.tmp t)).run P w=.ok (a.tmps.getD t undef) w:=rfl
   rw [List.mapM_cons,Sem.run_bind,h1]
   simp only [Result.andThen_ok]
   rw [Sem.run_bind,q2]
   rfl
  ·cases h
 | .cell ad t :: rs,vs,h=>by
  rw [oa] at h
  split at h
  ·rename_i ad' he
   split at h
   ·rename_i v vs0 hv h0
    cases h
    obtain ⟨vs',q1,q2⟩:=oq hE hH h0
    have hp:VRi ν (cQ T ad) (a.tmps.getD ad undef):=hE.ael (x:=.tmp ad) rfl
    rw [he] at hp
    generalize hu:a.tmps.getD ad undef=u at hp
    have hp2:=hp
    cases hp with
    | atom _ h=>simp [cz] at h
    | ptr o hν =>
     obtain ⟨v',r1,r2⟩:=wF (P:=P) (t:=t) hH hp2 hv
     haveI:=iJ
     refine ⟨_,.cons r1 q1,?_⟩
     have h1:(FU a.tmps (.cell ad t)).run P w=.ok v' w:=by
      show ((asAddr (a.tmps.getD ad undef)) >>= λ x=>loadVar t x).run P w=_
      rw [hu,Sem.run_bind]
      exact r2
     rw [List.mapM_cons,Sem.run_bind,h1]
     simp only [Result.andThen_ok]
     rw [Sem.run_bind,q2]
     rfl
   ·cases h
  ·cases h
theorem qW {fn:Func} {vs:List Value} (hE:FE ν G N T a) (hH:HR ν H F w) (h:oa P T H fn.results.toList=some vs):∃ v',VRi ν (wp vs) v' /\ (results fn a.tmps).run P w=.ok v' w:=by
 obtain ⟨vs',q1,q2⟩:=oq hE hH h
 haveI:=iJ
 have h5:(fn.results.mapM (FU a.tmps)).run P w=.ok ⟨vs'⟩ w:=by
  rw [Array.mapM_eq_mapM_toList,<- bind_pure_comp,Sem.run_bind,q2]
  rfl
 have h6:∀ v',(∀ W,(pure (if h:(⟨vs'⟩:Array Value).size=1 then (⟨vs'⟩:Array Value)[0] else .tuple ⟨vs'⟩):Sem Value).run P W=.ok v' W) -> (results fn a.tmps).run P w=.ok v' w:=λ v' hv=>by
  have:results fn a.tmps=(fn.results.mapM (FU a.tmps) >>= λ vs=>pure (if h:vs.size=1 then vs[0] else .tuple vs)):=rfl
  rw [this,Sem.run_bind,h5]
  exact hv w
 cases q1 with
 | nil=>exact ⟨_,.tuple_of .nil,h6 _ λ W=>rfl⟩
 | cons h1 h2 =>
  cases h2 with
  | nil=>exact ⟨_,h1,h6 _ λ W=>rfl⟩
  | cons h3 h4=>exact ⟨_,.tuple_of (.cons h1 (.cons h3 h4)),h6 _ λ W=>rfl⟩
theorem lx (hih:kc P G ih) {fn:Func} {tm:Array Value} {R:Ending -> World -> Prop}:∀ {D:List Deferred} {H:AH} {n:Nat} {H':AH} {n':Nat},j0 P ih D H n=some (H',n') -> n <= n' /\ ∀ ν D' w,Glb ν G -> DsR ν D D' -> HR ν H F w -> Fr ν n n' ->
  (∀ ν' w',Ext ν ν' n n' -> HR ν' H' F w' -> Below 0 w w' -> LeavesInM (Wr none) 0 P fn tm R [] .returning w') -> LeavesInM (Wr none) 0 P fn tm R D' .returning w
 | [],H,n,H',n',h=>by
  rw [j0] at h
  cases h
  exact ⟨Nat.le_refl _,λ ν D' w hg hd hH hf hk=>by cases hd;exact hk ν w (.refl _ _) hH (Below.refl _ _)⟩
 | d :: ds,H,n,H',n',h=>by
  rw [j0] at h
  split at h
  ·rename_i hd ht
   split at h
   ·rename_i hb
    obtain ⟨q1,q2⟩:=lx hih (fn:=fn) (tm:=tm) (R:=R) h
    refine ⟨q1,λ ν D' w hg hds hH hf hk=>?_⟩
    cases hds with
    | @cons _ d' _ l' hdr hl =>
    obtain ⟨hdt,hda⟩:=hdr
    rw [ht] at hdt
    generalize htt:d'.target=tt at hdt
    cases hdt with
    | @coll _ b K hν =>
    obtain ⟨rr,K',o,g1,g2,g3⟩:=hH.blk _ _ hb
    rw [hν] at g1
    cases g1
    unfold OR at g3
    split at g3
    ·rename_i e1;cases e1
    ·rename_i e1;cases e1
    ·rename_i e1;cases e1
    ·rename_i sh cc e1
     cases e1
     subst g3
     refine ⟨by simp,.inl ⟨b,{ w with heap:=w.heap.setIfInBounds b (.deferred none) },htt,?_,?_⟩⟩
     ·unfold Instr.takeDeferred
      rw [Sem.run_bind]
      have h1:(getObj b).run P w=.ok (.deferred (some [])) w:=by
       unfold getObj
       rw [Sem.run.eq_def]
       simp only [g2]
       rfl
      rw [h1]
      simp only [Result.andThen_ok]
      rw [Sem.run_bind]
      have h2:(setObj b (.deferred none)).run P w=.ok () { w with heap:=w.heap.setIfInBounds b (.deferred none) }:=by
       unfold setObj
       rw [Sem.run.eq_def]
       simp only [g2]
       rfl
      rw [h2]
      rfl
     ·have h3:HR ν (cP H hd (some (.dfr true))) F { w with heap:=w.heap.setIfInBounds b (.deferred none) }:=hH.setObj hb rfl rfl hν (b1:=.dfr true) (o':=.deferred none) rfl
      exact q2 ν l' _ hg hl h3 hf (λ ν' w' k1 k2 k3=>hk ν' w' k1 k2 (lw.trans k3))
    ·exact g3.elim
   ·cases h
  ·rename_i f captured ht
   split at h
   case h_2=>cases h
   rename_i hB
   split at h
   case h_2=>cases h
   rename_i v H1 n1 hc
   obtain ⟨p1,p2⟩:=hih _ _ hc
   obtain ⟨q1,q2⟩:=lx hih (fn:=fn) (tm:=tm) (R:=R) h
   refine ⟨by omega,λ ν D' w hg hds hH hf hk=>?_⟩
   cases hds with
   | @cons _ d' _ l' hdr hl =>
   obtain ⟨hdt,hda⟩:=hdr
   rw [ht] at hdt
   generalize htt:d'.target=tt at hdt
   cases hdt with
   | @fn _ f' _ c' hf1 hf2 =>
   cases hf1
   refine ⟨by simp,.inr ⟨λ h=>(by cases h),.func f,c',f,⟨d'.args.toList++c'.toList⟩,htt,?_,λ _ _=>trivial,?_⟩⟩
   ·rw [htt]
    show (callFunc f (d'.args++c')).run P w=_
    rw [gT hB]
    congr 2
    apply Array.ext'
    simp
   ·refine (p2 ν F w _ hg (λ i a b=>hf i a (by omega)) hH (hda.append hf2)).mono ?_
    rintro en u' w2 ⟨rfl,ν2,v',rfl,k1,k2,k3,k4⟩
    have hsub:=k2.sub' hf q1
    show LeavesInM (Wr none) 0 P fn tm R l' (settle .returning) w2
    exact q2 ν2 l' w2 (hg.mono hsub) (hl.mono hsub) k3 (k2.fr hf q1) (λ ν3 w3 g1 g2 g3=>hk ν3 w3 (k2.trans g1) g2 (k4.trans g3))
  ·cases h
theorem wS {f:FuncId} {fn:Func} {c:Code} (h:qH P f=some (fn,c)):P.funcs[f]?=some fn /\ fn.body=some c:=by
 unfold qH at h
 split at h
 ·rename_i fn' hf
  split at h
  ·rename_i c' hc
   cases h
   exact ⟨hf,hc⟩
  ·cases h
 ·cases h
theorem MU (hih:kc P G ih) (hm:P.follows .mixedOrders=true) {f:FuncId} {args:List Value} {H:AH} {n:Nat} {res:Rs} (h:gy P G ih (.fn f args H n)=some res):jq P G (.fn f args H n) res:=by
 simp only [gy] at h
 split at h
 case h_2=>cases h
 rename_i fn c hb
 split at h
 case h_2=>cases h
 rename_i hle
 obtain ⟨b1,b2⟩:=wS hb
 have fin:∀ e s H2 n2 vs,(e=.normal \/ e=.ret) -> iQ P G ih none fn.ntmps c ⟨lV args,[],H,n⟩=some (e,s) -> j0 P ih s.D s.H s.n=some (H2,n2) -> oa P s.T H2 fn.results.toList=some vs -> jq P G (.fn f args H n) (.fn (wp vs) H2 n2):=by
  intro e s H2 n2 vs he hev hlv hrs
  obtain ⟨q1,q2⟩:=om hih hm _ _ _ _ hev
  simp only at q1 q2
  have hlv0:=(lx (F:=[]) (fn:=fn) (tm:=#[]) (R:=λ _ _=>True) hih hlv).1
  refine ⟨by omega,λ ν F w args' hg hf hH hl=>?_⟩
  refine callsIn_wide.1 (callsIn_of_wp_marks (F:=Fence.wide) (n:=0) b1 b2 trivial ?_)
  have hlen:=hl.length
  refine q2 ν F _ w none _ .none ⟨hg,ta hl (bP hle),.nil,hH⟩ (λ i a b=>hf i a (by omega)) (λ ν' a' w' k1 k2 k3=>?_)
  have hsub:=k1.sub' hf hlv0
  have hlv2:=(lx (F:=F) (fn:=fn) (tm:=a'.tmps) (R:=FM ν (wp vs) n n2 H2 F w) hih hlv).2 ν' a'.defers w' k2.g k2.d k2.h (k1.fr hf hlv0) (λ ν2 w2 g1 g2 g3=>by
   have hsub2:=g1.sub (k1.fr hf hlv0)
   obtain ⟨v',r1,r2⟩:=qW (G:=G) (fn:=fn) (a:=a') (FE.mk (k2.t.mono hsub2) (k2.g.mono hsub2)) g2 hrs
   exact ⟨v',r2,ν2,v',rfl,r1,k1.trans g1,g2,k3.trans g3⟩)
  rcases he with rfl | rfl <;> exact hlv2
 split at h
 ·cases h
 ·rename_i e s hne hev
  split at h
  ·rename_i H2 n2 hlv
   split at h
   ·rename_i vs hrs
    cases h
    cases e with
    | normal=>exact fin _ _ _ _ _ (.inl rfl) hev hlv hrs
    | ret=>exact fin _ _ _ _ _ (.inr rfl) hev hlv hrs
    | exit id=>first | exact (hne _ _ rfl).elim | exact (hne _ rfl).elim | exact (hne _ _).elim
   ·cases h
  ·cases h
 ·cases h
theorem CM {b:Nat} {lp:Loop} (h:w.heap[b]?=some (.loop lp)) (hs:lp.state=.ready):(Instr.beginRound b).run P w=.ok () { w with heap:=w.heap.setIfInBounds b (.loop { lp with state:=.busy }) }:=by
 unfold Instr.beginRound
 rw [Sem.run_bind,gz h]
 simp only [Result.andThen_ok]
 rw [Sem.run_bind,kW h]
 simp only [Result.andThen_ok,hs]
 rfl
theorem IW {b:Nat} {lp:Loop} {j:Option Code} (h:w.heap[b]?=some (.loop lp)):(Instr.endRound b j).run P w=.ok (.bool j.isNone) { w with heap:=w.heap.setIfInBounds b (.loop { lp with state:=if j.isNone then .ready else .done,pending:=j }) }:=by
 unfold Instr.endRound
 rw [Sem.run_bind,gz h]
 simp only [Result.andThen_ok]
 rw [Sem.run_bind,kW h]
 rfl
def N8:Ex -> Option Code
 | .normal=>none
 | .ret=>some .ret
 | .exit id=>some (.exit id)
theorem un {b:Nat} {R:Ending -> World -> Prop} {e:Ex} (h:∃ v w',(Instr.endRound b (N8 e)).run P w=.ok v w' /\ R (.returned v) w'):roundPost P b R e.out a w:=by
 cases e <;> exact h
theorem K8 (hih:kc P G ih) (hm:P.follows .mixedOrders=true) {l:Nat} {T:Tr Value} {N:Nat} {as bo:Code} {H:AH} {n:Nat} {res:Rs} (h:gy P G ih (.rnd l T N as bo H n)=some res):jq P G (.rnd l T N as bo H n) res:=by
 simp only [gy] at h
 split at h
 case h_2=>cases h
 rename_i s1 h1
 split at h
 case h_2=>cases h
 rename_i pend T' N' ps as' bo' d hl1 hd1
 split at h
 case h_2=>cases h
 rename_i e s2 h2
 split at h
 case h_2=>cases h
 rename_i st2 pend2 T2 N2 ps2 as2 bo2 d2 hl2
 obtain ⟨q1,q2⟩:=om hih hm _ _ _ _ h1
 obtain ⟨p1,p2⟩:=om hih hm _ _ _ _ h2
 simp only at q1 q2 p1 p2
 have hres:res=.fn (.bool (N8 e).isNone) (cP s2.H l (some (.loop (if (N8 e).isNone then .ready else .done) (N8 e) T2 N2 ps2 as2 bo2 d2))) s2.n:=by
  cases e <;> (cases h;rfl)
 subst hres
 refine ⟨by omega,λ ν F w b K tm f r' hg hν hT hf hH=>?_⟩
 refine roundIn_of_wpIn trivial ?_
 show as.wpIn (Wr (some b)) 0 P _ _ _
 refine q2 ν F _ w (some b) _ (.some hν) ⟨hg,hT,.nil,hH⟩ (λ i x y=>hf i x (by omega)) (λ ν1 a1 w1 k1 k2 k3=>?_)
 have hsub1:=k1.sub' hf p1
 have hν1:=hsub1 _ _ hν
 obtain ⟨lp,g1,g2,g3,g4,g5,g6,g7,K',g8⟩:=k2.h.loop hl1 hν1
 refine ⟨_,CM g1 g2,?_⟩
 show bo.wpIn (Wr (some b)) 0 P _ _ _
 have hH1:HR ν1 (cP s1.H l (some (.loop .busy pend T' N' ps as' bo' d))) F { w1 with heap:=w1.heap.setIfInBounds b (.loop { lp with state:=.busy }) }:=k2.h.setObj hl1 rfl rfl hν1 ⟨rfl,g3,g4,g5,g6,g7,K',g8⟩
 have hd:DsR ν1 [] a1.defers:=by have:=k2.d;rw [hd1] at this;exact this
 refine p2 ν1 F a1 _ (some b) _ (.some hν1) ⟨k2.g,k2.t,hd,hH1⟩ (k1.fr hf p1) (λ ν2 a2 w2 j1 j2 j3=>?_)
 have hν2:=(j1.sub (k1.fr hf p1)) _ _ hν1
 obtain ⟨lp2,u1,u2,u3,u4,u5,u6,u7,K2,u8⟩:=j2.h.loop hl2 hν2
 refine un ⟨_,_,IW u1,ν2,_,rfl,.atom _ rfl,k1.trans j1,?_,((k3.trans lw).trans j3).trans lw⟩
 exact j2.h.setObj hl2 rfl rfl hν2 ⟨rfl,rfl,u4,u5,u6,u7,K2,u8⟩
theorem ly {ops:Array Oper} {c₀:Frame} {cs:List Frame} (hc:c₀.mode=.returning):∀ (rest:List Oper) (k:Nat) (s s':St),ops.toList.drop k=rest -> my P G N ops rest s=some s' -> s.n <= s'.n /\ ∀ ν F a w (Q:Exit -> Act -> List Frame -> World -> Prop),SR ν G N s F a w -> Fr ν s.n s'.n ->
  (∀ ν' a' w',Ext ν ν' s.n s'.n -> SR ν' G N s' F a' w' -> Below 0 w w' -> Q .normal a' (c₀ :: cs) w') -> wpOpsSIn (Wr none) 0 P ops Q (List.range' k rest.length) a (c₀ :: cs) w
 | [],k,s,s',hk,h=>by
  rw [my] at h
  cases h
  exact ⟨Nat.le_refl _,λ ν F a w Q hs hf hq=>hq ν a w (.refl _ _) hs (Below.refl _ _)⟩
 | o :: rest,k,s,s',hk,h=>by
  have hlt:k < ops.toList.length:=by
   rcases Nat.lt_or_ge k ops.toList.length with e | e
   ·exact e
   ·rw [List.drop_eq_nil_of_le e] at hk;cases hk
  have hk2:=hk
  rw [List.drop_eq_getElem_cons hlt] at hk2
  simp only [List.cons.injEq] at hk2
  obtain ⟨ho,hrest⟩:=hk2
  have ho':ops[k]?=some o:=by
   rw [Array.getElem?_eq_getElem (by simpa using hlt)]
   simpa using ho
  rw [my] at h
  split at h
  ·cases h
  ·rename_i hw
   split at h
   case h_2=>cases h
   rename_i T1 hp
   obtain ⟨h1,h2⟩:=ly hc rest (k+1) _ _ hrest h
   refine ⟨h1,λ ν F a w Q hs hf hq=>?_⟩
   rw [List.length_cons,List.range'_succ,wpOpsSIn]
   simp only [ho']
   refine ⟨λ _ _=>trivial,?_⟩
   rw [if_neg (by rw [jO hs.t hw];simp)]
   exact h2 ν F _ w Q ⟨hs.g,hs.t.put VRi.undef hp,by rw [fo];exact hs.d,hs.h⟩ hf hq
  ·rename_i hw
   split at h
   ·rename_i v H1 n1 hst
    split at h
    case h_2=>cases h
    rename_i T1 hp
    obtain ⟨h1,h2⟩:=ly hc rest (k+1) _ _ hrest h
    simp only at h1 h2
    have hle:=uk hst
    refine ⟨by omega,λ ν F a w Q hs hf hq=>?_⟩
    rw [List.length_cons,List.range'_succ,wpOpsSIn]
    simp only [ho']
    refine ⟨λ _ _=>trivial,?_⟩
    rw [if_pos (jO hs.t hw)]
    obtain ⟨ν',v',w',q,e1,e2,e3,e4,e5,e6⟩:=lu hs.op hs.h hst (λ v H' n' e=>by cases e;exact λ i x y=>hf i x (by omega))
    have hsub:=e4.sub' hf h1
    have hfin:=h2 ν' F (a.put o.dst v') w' Q ⟨hs.g.mono hsub,(hs.t.mono hsub).put e3 hp,by rw [fo];exact hs.d.mono hsub,e5⟩ (e4.fr hf h1) (λ ν2 a2 w2 g1 g2 g3=>hq ν2 a2 w2 (e4.trans g1) g2 (e6.trans g3))
    rw [e1]
    rcases e2 with rfl | ⟨rfl,rfl⟩
    ·exact hfin
    ·exact hfin
   ·rename_i hst
    split at h
    case h_2=>cases h
    rename_i T1 hp
    obtain ⟨h1,h2⟩:=ly hc rest (k+1) _ _ hrest h
    refine ⟨h1,λ ν F a w Q hs hf hq=>?_⟩
    rw [List.length_cons,List.range'_succ,wpOpsSIn]
    simp only [ho']
    refine ⟨λ _ _=>trivial,?_⟩
    rw [if_pos (jO hs.t hw)]
    have e1:=lu hs.op hs.h hst (λ v H' n' e=>by cases e)
    rw [show (execOp a.eval o).run P w=.ok .recover w from e1]
    have hrc:recoverD (c₀ :: cs)=none:=by simp [recoverD,hc]
    simp only [hrc]
    exact h2 ν F _ w Q ⟨hs.g,hs.t.put (.atom _ rfl) hp,by rw [fo];exact hs.d,hs.h⟩ hf hq
   ·cases h
theorem K9 (hih:kc P G ih) (hm:P.follows .mixedOrders=true) {c₀:Frame} {cs:List Frame} (hc:c₀.mode=.returning):∀ (c:Code) (s:St) (e:Ex) (s':St),Fs P G ih N c s=some (e,s') -> s.n <= s'.n /\ ∀ ν F a w (Q:Exit -> Act -> List Frame -> World -> Prop),SR ν G N s F a w -> Fr ν s.n s'.n ->
  (∀ ν' a' w',Ext ν ν' s.n s'.n -> SR ν' G N s' F a' w' -> Below 0 w w' -> Q e.out a' (c₀ :: cs) w') -> c.wpSIn (Wr none) 0 P Q a (c₀ :: cs) w:=by
 have plain:∀ (c:Code) (s:St) (e:Ex) (s':St),iQ P G ih none N c s=some (e,s') -> s.n <= s'.n /\ ∀ ν F a w (Q:Exit -> Act -> List Frame -> World -> Prop),SR ν G N s F a w -> Fr ν s.n s'.n ->
  (∀ ν' a' w',Ext ν ν' s.n s'.n -> SR ν' G N s' F a' w' -> Below 0 w w' -> Q e.out a' (c₀ :: cs) w') -> c.wpSIn (Wr none) 0 P Q a (c₀ :: cs) w:=λ c s e s' h=>by
  obtain ⟨q1,q2⟩:=om hih hm _ _ _ _ h
  exact ⟨q1,λ ν F a w Q hs hf hq=>wpSIn_of_wpIn rfl (q2 ν F a w none _ .none hs hf hq)⟩
 intro c
 induction c with
 | seq x y ihx ihy =>
  intro s e s' h
  rw [Fs] at h
  split at h
  ·rename_i s1 h1
   obtain ⟨q1,q2⟩:=ihx _ _ _ h1
   obtain ⟨p1,p2⟩:=ihy _ _ _ h
   refine ⟨by omega,λ ν F a w Q hs hf hk=>wpSIn_seq ?_⟩
   refine q2 ν F a w _ hs (λ i a b=>hf i a (by omega)) (λ ν' a' w' k1 k2 k3=>?_)
   exact p2 ν' F a' w' Q k2 (k1.fr hf p1) (λ ν2 a2 w2 g1 g2 g3=>hk ν2 a2 w2 (k1.trans g1) g2 (k3.trans g3))
  ·rename_i hne
   obtain ⟨q1,q2⟩:=ihx _ _ _ h
   refine ⟨q1,λ ν F a w Q hs hf hk=>wpSIn_seq ?_⟩
   refine q2 ν F a w _ hs hf (λ ν' a' w' k1 k2 k3=>?_)
   have:=hk ν' a' w' k1 k2 k3
   cases e with
   | normal=>exact (hne _ h).elim
   | exit id=>exact this
   | ret=>exact this
 | cond c x y ihx ihy =>
  intro s e s' h
  rw [Fs] at h
  have hop:∀ ν F a w b,SR ν G N s F a w -> ael s.T c=.bool b -> a.eval c=.bool b:=λ ν F a w b hs he=>by
   cases c with
   | tmp t =>
    have:=(FE.mk hs.t hs.g:FE ν G N s.T a).ael (x:=.tmp t) rfl
    rw [he] at this
    exact this.plain_eq rfl
   | const v=>exact he
   | global g=>cases he
   | func f=>cases he
  split at h
  ·rename_i he
   obtain ⟨q1,q2⟩:=ihx _ _ _ h
   exact ⟨q1,λ ν F a w Q hs hf hk=>wpSIn_cond (hop _ _ _ _ _ hs he) (q2 ν F a w Q hs hf hk)⟩
  ·rename_i he
   obtain ⟨q1,q2⟩:=ihy _ _ _ h
   exact ⟨q1,λ ν F a w Q hs hf hk=>wpSIn_cond (hop _ _ _ _ _ hs he) (q2 ν F a w Q hs hf hk)⟩
  ·cases h
 | region id ops draw =>
  intro s e s' h
  cases draw with
  | true=>rw [Fs] at h;exact plain _ _ _ _ h;all_goals simp
  | false =>
   rw [Fs] at h
   split at h
   ·rename_i s1 h1
    cases h
    obtain ⟨q1,q2⟩:=ly hc _ 0 _ _ (by simp) h1
    refine ⟨q1,λ ν F a w Q hs hf hk=>wpSIn_region ?_⟩
    have:=q2 ν F a w Q hs hf hk
    rw [List.range_eq_range']
    simpa using this
   ·split at h
    ·rename_i x h1
     cases h
     exact plain _ _ _ _ h1
    ·cases h
 | _=>intro s e s' h;rw [Fs] at h;exact plain _ _ _ _ h;all_goals simp
theorem Lb (hih:kc P G ih) (hm:P.follows .mixedOrders=true) {f:FuncId} {args:List Value} {H:AH} {n:Nat} {res:Rs} (h:gy P G ih (.dfn f args H n)=some res):jq P G (.dfn f args H n) res:=by
 simp only [gy] at h
 split at h
 case h_2=>cases h
 rename_i fn c hb
 split at h
 case h_2=>cases h
 rename_i hle
 obtain ⟨b1,b2⟩:=wS hb
 split at h
 ·cases h
 ·rename_i e s hne hev
  split at h
  ·rename_i hd
   split at h
   ·rename_i vs hrs
    cases h
    have hq:∀ (c₀:Frame) (cs:List Frame),c₀.mode=.returning -> _:=λ c₀ cs hc=>K9 (c₀:=c₀) (cs:=cs) hih hm hc _ _ _ _ hev
    have hn:n <= s.n:=(hq { (default:Frame) with mode:=.returning } [] rfl).1
    refine ⟨hn,λ ν F w args' hg hf hH hl=>?_⟩
    refine callsDIn_of_wpSIn b1 b2 trivial (λ c₀ cs hc=>?_)
    refine (hq c₀ cs hc).2 ν F _ w _ ⟨hg,ta hl (bP hle),.nil,hH⟩ hf (λ ν' a' w' k1 k2 k3=>?_)
    have hdd:a'.defers=[]:=by
     have:=k2.d
     rw [hd] at this
     generalize a'.defers=q at this
     cases this;rfl
    obtain ⟨v',r1,r2⟩:=qW (G:=G) (fn:=fn) (a:=a') (FE.mk k2.t k2.g) k2.h hrs
    have hcc:c₀ :: cs={ c₀ with mode:=.returning } :: cs:=by rw [<- hc]
    have hfin:a'.defers=[] /\ ∃ u',c₀ :: cs={ c₀ with mode:=u' } :: cs /\ ∃ v,(results fn a'.tmps).run P w'=.ok v w' /\ (u'=.returning /\ FM ν (wp vs) n s.n s.H F w (.returned v) w') :=
     ⟨hdd,.returning,hcc,v',r2,rfl,ν',v',rfl,r1,k1,k2.h,k3⟩
    cases e with
    | normal=>exact hfin
    | ret=>exact hfin
    | exit id=>first | exact (hne _ _ rfl).elim | exact (hne _ rfl).elim | exact (hne _ _).elim
   ·cases h
  ·cases h
 ·cases h
theorem FV (hih:kc P G ih) (hm:P.follows .mixedOrders=true):kc P G (gy P G ih):=by
 intro t res h
 cases t with
 | code r N c s =>
  simp only [gy] at h
  split at h
  ·rename_i h1;cases h;exact om hih hm _ _ _ _ h1
  ·cases h
 | loop r N c s =>
  simp only [gy] at h
  split at h
  ·rename_i h1;cases h;exact wQ hih (λ s e s' h=>om hih hm _ _ _ _ h) h1
  ·cases h
 | fn f args H n=>exact MU hih hm h
 | rnd l T N as bo H n=>exact K8 hih hm h
 | dfn f args H n=>exact Lb hih hm h
theorem Ap (hm:P.follows .mixedOrders=true):∀ k,kc P G (Ft P G k)
 | 0=>λ t res h=>by rw [Ft] at h;cases h
 | k+1=>by
  have:=FV (Ap hm k) hm
  intro t res h
  rw [Ft] at h
  exact this t res h
end fn
end Go.Proofs.YtobflkidpfkcaaaGreatDoor
