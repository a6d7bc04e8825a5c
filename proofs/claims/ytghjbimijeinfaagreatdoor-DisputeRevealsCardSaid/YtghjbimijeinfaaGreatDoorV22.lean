import Derived.Test.YtghjbimijeinfaaGreatDoorV21
set_option maxHeartbeats 4000000
set_option maxRecDepth 100000
set_option linter.all false
namespace Go.Proofs.YtghjbimijeinfaaGreatDoor
open Go.RowKit
section code
variable {ν ν':Nu} {P:Program} {G N:Nat} {T T':Tr Value} {a:Act} {H H':AH} {F:HL} {w w':World} {r r':Option Nat} {ih:Task -> Option Rs}
theorem Ext.sub'{n m k:Nat}(h1:Ext ν ν' n m)(hf:Fr ν n k)(hm:m <= k):ν.Le ν':=h1.sub λ i a b=>hf i a (by omega)
theorem zE(o_:ld P G ih){c:Code}(hc:∀ (s:St) e s',ju P G ih r N c s=some (e,s') -> jX P G (.code r N c s) (.cd e s')){s s':St}{e:Ex}(h:ju P G ih r N (.loop c) s=some (e,s')):jX P G (.loop r N c s) (.cd e s'):=by
 rw[ju] at h;split at h
 ·rename_i s1 h1;obtain⟨q1,q2⟩:=hc _ _ _ h1;split at h
  ·rename_i e2 s2 h2;cases h;obtain⟨p1,p2⟩:=o_ _ _ h2;refine⟨by omega,λ ν F a w r' Q hr hs hf hk=>zz ?_⟩;refine q2 ν F a w r' _ hr hs (λ i a b=>hf i a (by omega)) (λ ν' a' w' k1 k2 k3=>?_);have I_:=k1.sub' hf p1;exact p2 ν' F a' w' r' Q (hr.mono I_) k2 (k1.fr hf p1) (λ ν2 a2 w2 g1 g2 g3=>hk ν2 a2 w2 (k1.trans g1) g2 (k3.trans g3))
  ·cases h
 ·rename_i x u_;obtain⟨q1,q2⟩:=hc _ _ _ h;refine⟨q1,λ ν F a w r' Q hr hs hf hk=>zz ?_⟩;refine q2 ν F a w r' _ hr hs hf (λ ν' a' w' k1 k2 k3=>?_);have:=hk ν' a' w' k1 k2 k3;cases e with
  | normal=>exact(u_ _ h).elim
  | exit id=>exact this
  | ret=>exact this
theorem IX{c:Code}{e:Ex}{Q:Exit -> Act -> World -> Prop}{a:Act}(h:Da c=some e)(hq:Q e.out a w):c.wpIn (Wr r') 0 P Q a w:=by
 unfold Da at h;split at h
 ·cases h;exact wpIn_ret hq
 ·cases h;exact wpIn_exit hq
 ·cases h
theorem BQ{fn:FuncId}{tm:Array Value}{ps:Array Tmp}{aS0 bo:Code}{w:World}:(Instr.enterLoop fn tm ps aS0 bo none).run P w =
  .ok (w.heap.size+1,[{ target:=.collected w.heap.size,args:=#[] }]) { w with heap:=(w.heap.push (.deferred (some []))).push (.loop { state:=.ready,pending:=none,fn,tmps:=tm,params:=ps,assign:=aS0,body:=bo,defers:=w.heap.size }) }:=by
 unfold Instr.enterLoop;simp only[abp,fB,cf,abm,Array.size_push]
theorem BR{fn:FuncId}{tm:Array Value}{ps:Array Tmp}{aS0 bo:Code}{w:World}{l:Nat}{lp:Loop}(h:w.heap[l]?=some (.loop lp)):(Instr.enterLoop fn tm ps aS0 bo (some l)).run P w =
  .ok (w.heap.size,[]) { w with heap:=w.heap.push (.loop { state:=.ready,pending:=none,fn,tmps:=tm,params:=ps,assign:=aS0,body:=bo,defers:=lp.defers }) }:=by
 unfold Instr.enterLoop;simp only[abp,fB,cf,abm,gX h]
theorem mg{l:Nat}{lp:Loop}{o:Obj}(h:w.heap[l]?=some (.loop lp)):(setObj l o).run P w=.ok () { w with heap:=w.heap.setIfInBounds l o }:=by
 unfold setObj;rw[Sem.run.eq_def];simp only[h];rfl
theorem HR.setObj(hH:HR ν H F w){h b K:Nat}{b0 b1:AB}{o':Obj}(hb:bE H h=some b0)(hw0:IE b0=true)(hw1:IE b1=true)(hν:ν h=some (b,K))(ho:OR ν K b1 o'):HR ν (c9 H h (some b1)) F { w with heap:=w.heap.setIfInBounds b o' }:=by
 have g_:=hH.lt hb hν;refine hH.upd hb hw0 hw1 hν (o':=o') ?_ ho (λ k hk=>?_)
 ·show (w.heap.setIfInBounds b o')[b]?=_;rw[Array.getElem?_setIfInBounds_self_of_lt g_]
 ·show (w.heap.setIfInBounds b o')[k]?=_;rw[Array.getElem?_setIfInBounds_ne (Ne.symm hk)]
theorem mH{b:Nat}{o:Obj}:Below 0 w { w with heap:=w.heap.setIfInBounds b o }:=⟨rfl,rfl,rfl,by simp,λ k hk=>by omega⟩
theorem zF{l:Nat}{lp:Loop}(h:w.heap[l]?=some (.loop lp))(hb:lp.state ≠ .busy):(Instr.endLoop l).run P w=.ok lp.pending { w with heap:=w.heap.setIfInBounds l (.loop { lp with state:=.exhausted }) }:=by
 unfold Instr.endLoop;rw[abp,gX h];simp only[abm];rw[if_neg (by simpa using hb)];rw[abp,mg h];rfl
theorem Fx(o_:ld P G ih){g:Operand}{ps:Array Tmp}{aS0 bo:Code}{s s':St}{e:Ex}(h:ju P G ih r N (.rangeFunc g ps aS0 bo) s=some (e,s')):jX P G (.code r N (.rangeFunc g ps aS0 bo) s) (.cd e s'):=by
 rw[ju.eq_def] at h;simp only at h;split at h
 case h_2=>cases h
 rename_i f first captured hg hk
 split at h
 case h_2=>cases h
 rename_i hB;split at h
 case h_2=>cases h
 rename_i d D H1 n1 S4;split at h
 case h_2=>cases h
 rename_i v H2 n2 SU;split at h
 case h_2=>cases h
 rename_i st pend T' N' WE Wp bo' d' hlp;obtain⟨hle,Vu⟩:=o_ _ _ SU;have hn1:s.n <= n1:=by
  cases r with
  | none=>simp only[Option.some.injEq,Prod.mk.injEq] at S4;omega
  | some l0 =>
   simp only at S4;split at S4
   ·simp only[Option.some.injEq,Prod.mk.injEq] at S4;omega
   ·cases S4
 have hst:st ≠ .busy:=by
  rintro rfl;simp at h
 have O_:s'=⟨s.T,D,c9 H2 n1 (some (.loop .exhausted pend T' N' WE Wp bo' d')),n2⟩ /\ ((pend=none /\ e=.normal) \/ ∃c,pend=some c /\ Da c=some e):=by
  cases st with
  | busy=>exact(hst rfl).elim
  | _ =>
   cases pend with
   | none=>simp at h;exact⟨h.2.symm,.inl ⟨rfl,h.1.symm⟩⟩
   | some c =>
    simp only at h;split at h
    ·rename_i e1 he;cases h;exact⟨rfl,.inr ⟨c,rfl,he⟩⟩
    ·cases h
 obtain⟨rfl,adn⟩:=O_;refine⟨by simp only;omega,λ ν F a w r' Q hr hs hf hkk=>?_⟩;simp only at hf hkk;refine wpIn_rangeFunc λ fn _=>?_;have ahg:∃ (l:Nat) (mark:List Deferred) (w1:World) (ν1:Nu),(Instr.enterLoop fn a.tmps ps aS0 bo (Wr r').round).run P w=.ok (l,mark) w1 /\ ν1 n1=some (l,0) /\ Ext ν ν1 s.n (n1+1) /\ HR ν1 (c9 H1 n1 (some (.loop .ready none s.T N ps aS0 bo d))) F w1 /\ Below 0 w w1 /\ DsR ν1 D (mark++a.defers) /\ ν.Le ν1:=by
  cases hr with
  | none =>
   simp only[Option.some.injEq,Prod.mk.injEq] at S4;obtain⟨e1,e2,e3,e4⟩:=S4;subst e1;subst e2;subst e3;subst e4;have VY:ν s.n=none:=hf _ (aaS _) (by omega);have hx1:Ext ν (ν.upd s.n w.heap.size 0) s.n (s.n+1):=.upd;have Wb:=kq (r:=w.heap.size) (K:=0) VY;have h1:HR (ν.upd s.n w.heap.size 0) (c9 s.H s.n (some (.dfr false))) F { w with heap:=w.heap.push (.deferred (some [])) }:=hs.h.new (K:=0) VY (b:=.dfr false) (o:=.deferred (some [])) rfl rfl rfl;have hn2:(ν.upd s.n w.heap.size 0) (s.n+1)=none:=by rw[fd (by omega)];exact hf _ (by omega) (by omega)
   have UG:Ext (ν.upd s.n w.heap.size 0) ((ν.upd s.n w.heap.size 0).upd (s.n+1) (w.heap.size+1) 0) (s.n+1) (s.n+1+1):=.upd;have Xb:=kq (r:=w.heap.size+1) (K:=0) hn2;have h2:=h1.new (K:=0) (w':={ w with heap:=(w.heap.push (.deferred (some []))).push (.loop { state:=.ready,pending:=none,fn,tmps:=a.tmps,params:=ps,assign:=aS0,body:=bo,defers:=w.heap.size }) }) hn2 (b:=.loop .ready none s.T N ps aS0 bo s.n) (o:=.loop { state:=.ready,pending:=none,fn,tmps:=a.tmps,params:=ps,assign:=aS0,body:=bo,defers:=w.heap.size }) ⟨rfl,rfl,hs.t.mono Wb,rfl,rfl,rfl,0,cB⟩ rfl rfl;have C_:({ w with heap:=w.heap.push (.deferred (some [])) }:World).heap.size=w.heap.size+1:=by simp
   rw[C_] at h2;refine⟨w.heap.size+1,_,_,_,BQ,cB,hx1.trans UG,h2,⟨rfl,rfl,rfl,by simp;omega,λ k hk=>by omega⟩,.cons ⟨.coll (b:=w.heap.size) (K:=0) ?_,.nil⟩ ((hs.d.mono Wb).mono Xb),Wb.trans Xb⟩;exact Xb _ _ cB
  | @some l0 b0 K0 hν0 =>
   simp only at S4;split at S4
   case h_2=>cases S4
   rename_i _ _ _ _ _ _ _ dd UR;simp only[Option.some.injEq,Prod.mk.injEq] at S4;obtain⟨e1,e2,e3,e4⟩:=S4;subst e1;subst e2;subst e3;subst e4;obtain⟨lp,g1,g2,g3,g4,g5,g6,g7,K',g8⟩:=hs.h.loop UR hν0;have VY:ν s.n=none:=hf _ (aaS _) (by omega);have Wb:=kq (r:=w.heap.size) (K:=0) VY;have h1:=hs.h.new (K:=0) (w':={ w with heap:=w.heap.push (.loop { state:=.ready,pending:=none,fn,tmps:=a.tmps,params:=ps,assign:=aS0,body:=bo,defers:=lp.defers }) }) VY (b:=.loop .ready none s.T N ps aS0 bo dd) (o:=.loop { state:=.ready,pending:=none,fn,tmps:=a.tmps,params:=ps,assign:=aS0,body:=bo,defers:=lp.defers }) ⟨rfl,rfl,hs.t,rfl,rfl,rfl,K',g8⟩ rfl rfl;refine⟨w.heap.size,_,_,_,BR g1,cB,.upd,h1,⟨rfl,rfl,rfl,by simp,λ k hk=>by omega⟩,hs.d.mono Wb,Wb⟩
 obtain⟨l,mark,w1,ν1,g1,g2,g3,g4,g5,g6,g7⟩:=ahg;have hgv:VRi ν (ael s.T g) (a.eval g):=(FE.mk hs.t hs.g:FE ν G N s.T a).ael hk;rw[hg] at hgv;obtain⟨fn',f',c',e',r1,r2,r3⟩:=ti hgv;cases r1;refine⟨l,mark,w1,{ target:=.fn (.func f) c',args:=f'++#[.func (.yield l) #[] #[]] },w1,f,⟨f'.toList++(.func (.yield l) #[] #[]::c'.toList)⟩,w1,g1,?_,λ _ _=>trivial,?_,λ h=>(by cases h),?_⟩
 ·have:=oa (P:=P) (c:=rangeCall g l) (ty:=0) (ρ:=a.eval) rfl e' w1;rw[this];simp[Act.eval]
 ·show (callFunc f (f'++#[.func (.yield l) #[] #[]]++c')).run P w1=_;rw[iI hB];congr 2;apply Array.ext';simp
 ·have UJ:Fr ν1 (n1+1) n2:=g3.fr hf (by omega);refine j0 ((Vu ν1 F w1 _ (hs.g.mono g7) UJ g4 ((r2.mono g7).append (.cons (.func_of (.yield g2) .nil .nil) (r3.mono g7)))).mono ?_);rintro en w3 ⟨ν3,v',rfl,k1,k2,k3,k4⟩;have Wc:ν3 n1=some (l,0):=k2.sub UJ _ _ g2;obtain⟨lp,q1,q2,q3,q4,q5,q6,q7,K',q8⟩:=k3.loop hlp Wc;refine⟨lp.pending,_,zF q1 (by rw[q2];exact hst),?_⟩;have hH3:HR ν3 (c9 H2 n1 (some (.loop .exhausted pend T' N' WE Wp bo' d'))) F { w3 with heap:=w3.heap.setIfInBounds l (.loop { lp with state:=.exhausted }) } :=
   k3.setObj hlp rfl rfl Wc ⟨rfl,q3,q4,q5,q6,q7,K',q8⟩
  have aia:Ext ν ν3 s.n n2:=g3.trans k2;have Un:=hkk ν3 { a with defers:=mark++a.defers } { w3 with heap:=w3.heap.setIfInBounds l (.loop { lp with state:=.exhausted }) } aia ⟨(hs.g.mono g7).mono (k2.sub UJ),(hs.t.mono g7).mono (k2.sub UJ),g6.mono (k2.sub UJ),hH3⟩ ((g5.trans k4).trans mH);rcases adn with ⟨hp,he⟩|⟨c,hp,he⟩
  ·rw[q3.trans hp] at Un ⊢;subst he;exact Un
  ·rw[q3.trans hp] at Un ⊢;exact IX he Un
theorem qg(o_:ld P G ih)(hm:P.follows .mixedOrders=true):∀ (c:Code) (s:St) (e:Ex) (s':St),ju P G ih r N c s=some (e,s') -> jX P G (.code r N c s) (.cd e s'):=by
 have calm:∀ (c:Code) (s:St) (e:Ex),(∀r' (Q:Exit -> Act -> World -> Prop) a w,Q e.out a w -> c.wpIn (Wr r') 0 P Q a w) -> jX P G (.code r N c s) (.cd e s):=λ c s e h =>
  ⟨aaS _,λ ν F a w r' Q hr hs hf hk=>h r' Q a w (hk ν a w (.refl _ _) hs (Below.refl _ _))⟩
 intro c
 induction c with
 | skip=>intro s e s' h;rw[ju] at h;cases h;exact calm _ _ _ λ r' Q a w hq=>wpIn_skip hq
 | label l=>intro s e s' h;rw[ju] at h;cases h;exact calm _ _ _ λ r' Q a w hq=>wpIn_label hq
 | exit id=>intro s e s' h;rw[ju] at h;cases h;exact calm _ _ _ λ r' Q a w hq=>wpIn_exit hq
 | ret=>intro s e s' h;rw[ju] at h;cases h;exact calm _ _ _ λ r' Q a w hq=>wpIn_ret hq
 | goto l=>intro s e s' h;rw[ju] at h;cases h
 | refuse y=>intro s e s' h;rw[ju] at h;cases h
 | region id ops draw =>
  intro s e s' h;rw[ju.eq_def] at h;simp only at h;split at h
  ·split at h
   ·rename_i s1 h1;cases h;obtain⟨q1,q2⟩:=pi o_ _ _ _ h1;exact⟨q1,λ ν F a w r' Q hr hs hf hk=>wpIn_region_list (q2 ν F a w r' Q hr hs hf hk)⟩
   ·cases h
  ·split at h
   ·rename_i s1 h1;cases h;exact LN o_ hm h1
   ·cases h
 | seq x y Yb ZZ =>
  intro s e s' h;rw[ju] at h;split at h
  ·rename_i s1 h1;obtain⟨q1,q2⟩:=Yb _ _ _ h1;obtain⟨p1,p2⟩:=ZZ _ _ _ h;refine⟨by omega,λ ν F a w r' Q hr hs hf hk=>wpIn_seq ?_⟩;refine q2 ν F a w r' _ hr hs (λ i a b=>hf i a (by omega)) (λ ν' a' w' k1 k2 k3=>?_);exact p2 ν' F a' w' r' Q (hr.mono (k1.sub' hf p1)) k2 (k1.fr hf p1) (λ ν2 a2 w2 g1 g2 g3=>hk ν2 a2 w2 (k1.trans g1) g2 (k3.trans g3))
  ·rename_i u_;obtain⟨q1,q2⟩:=Yb _ _ _ h;refine⟨q1,λ ν F a w r' Q hr hs hf hk=>wpIn_seq ?_⟩;refine q2 ν F a w r' _ hr hs hf (λ ν' a' w' k1 k2 k3=>?_);have:=hk ν' a' w' k1 k2 k3;cases e with
   | normal=>exact(u_ _ h).elim
   | exit id=>exact this
   | ret=>exact this
 | cond c x y Yb ZZ =>
  intro s e s' h;rw[ju] at h;have j_:∀ν F a w b,SR ν G N s F a w -> ael s.T c=.bool b -> a.eval c=.bool b:=λ ν F a w b hs he=>by
   cases c with
   | tmp t =>
    have:=(FE.mk hs.t hs.g:FE ν G N s.T a).ael (x:=.tmp t) rfl;rw[he] at this;exact this.plain_eq rfl
   | const v=>exact he
   | global g=>cases he
   | func f=>cases he
  split at h
  ·rename_i he;obtain⟨q1,q2⟩:=Yb _ _ _ h;exact⟨q1,λ ν F a w r' Q hr hs hf hk=>wpIn_cond_true (j_ _ _ _ _ _ hs he) (q2 ν F a w r' Q hr hs hf hk)⟩
  ·rename_i he;obtain⟨q1,q2⟩:=ZZ _ _ _ h;exact⟨q1,λ ν F a w r' Q hr hs hf hk=>wpIn_cond_false (j_ _ _ _ _ _ hs he) (q2 ν F a w r' Q hr hs hf hk)⟩
  ·cases h
 | block id c ihc =>
  intro s e s' h;rw[ju] at h;split at h
  ·rename_i Vo s1 h1;obtain⟨q1,q2⟩:=ihc _ _ _ h1;split at h
   ·rename_i hid;cases h;have ahr:Vo=id:=abf hid;refine⟨q1,λ ν F a w r' Q hr hs hf hk=>wpIn_block ?_⟩;refine q2 ν F a w r' _ hr hs hf (λ ν' a' w' k1 k2 k3=>?_);show (if Vo=id then _ else _);rw[if_pos ahr];exact hk ν' a' w' k1 k2 k3
   ·rename_i hid;cases h;refine⟨q1,λ ν F a w r' Q hr hs hf hk=>wpIn_block ?_⟩;refine q2 ν F a w r' _ hr hs hf (λ ν' a' w' k1 k2 k3=>?_);show (if Vo=id then _ else _);rw[if_neg (λ e=>by subst e;simp at hid)];exact hk ν' a' w' k1 k2 k3
  ·rename_i u_;obtain⟨q1,q2⟩:=ihc _ _ _ h;refine⟨q1,λ ν F a w r' Q hr hs hf hk=>wpIn_block ?_⟩;refine q2 ν F a w r' _ hr hs hf (λ ν' a' w' k1 k2 k3=>?_);have:=hk ν' a' w' k1 k2 k3;cases e with
   | normal=>exact this
   | exit Vo=>exact(u_ _ _ h).elim
   | ret=>exact this
 | loop c ihc =>
  intro s e s' h;obtain⟨q1,q2⟩:=zE o_ (λ s e s' h=>ihc s e s' h) h;exact⟨q1,λ ν F a w r' Q hr hs hf hk=>BO (q2 ν F a w r' Q hr hs hf hk)⟩
 | rangeFunc g ps aS0 bo _ _=>intro s e s' h;exact Fx o_ h
 | scope c ihc =>
  intro s e s' h;rw[ju] at h;obtain⟨q1,q2⟩:=ihc _ _ _ h;refine⟨q1,λ ν F a w r' Q hr hs hf hk=>iu ?_⟩;refine q2 ν F a w r' _ hr hs hf (λ ν' a' w' k1 k2 k3=>?_);have:=hk ν' a' w' k1 k2 k3;cases e <;> exact this
end code
section fn
variable {ν ν':Nu} {P:Program} {G N:Nat} {T T':Tr Value} {a:Act} {H H':AH} {F:HL} {w w':World} {r r':Option Nat} {ih:Task -> Option Rs}
theorem vH{args iF:List Value}(h:LR ν args iF)(hl:gH args <= N):TRel ν N (nq args) ((⟨iF⟩:Array Value)++Array.replicate (N-(⟨iF⟩:Array Value).size) undef):=by
 rw[eo] at hl;have hlen:=h.length;refine⟨by simp;omega,λ t ht=>?_,λ t ht=>?_⟩
 ·rcases abd t args.length with h1|h1
  ·obtain⟨v',e,q⟩:=h.get (aa3 h1);refine⟨v',?_,?_⟩
   ·rw[Array.getElem?_append_left (by simp;omega)];simpa using e
   ·unfold nq;rw[md h1];exact q
  ·refine⟨undef,?_,?_⟩
   ·rw[Array.getElem?_append_right (by simp;omega),Array.getElem?_replicate];rw[if_pos (by simp;omega)]
   ·have:da (nq args) t=undef:=by
     unfold nq da;rw[rU];rw[if_pos (aaU _),dif_neg (by omega)];exact BE _
    rw[this];exact aat
 ·unfold nq da;rw[rU,if_pos (aaU _),dif_neg (by omega)];exact BE _
def IY(tm:Array Value):ResultVar -> Sem Value
 | .tmp t=>pure (tm.getD t undef)
 | .cell ad t=>do loadVar t (<- asAddr (tm.getD ad undef))
theorem qh(hE:FE ν G N T a)(hH:HR ν H F w):∀ {rs:List ResultVar} {vs:List Value},p8 P T H rs=some vs -> ∃IN,LR ν vs IN /\ (rs.mapM (IY a.tmps)).run P w=.ok IN w
 | [],vs,h=>by rw[p8] at h;cases h;exact⟨[],.nil,rfl⟩
 | .tmp t::rs,vs,h=>by
  rw[p8] at h;split at h
  ·rename_i vs0 h0;cases h;obtain⟨IN,q1,q2⟩:=qh hE hH h0;have hv:VRi ν (da T t) (a.tmps.getD t undef):=hE.ael (x:=.tmp t) rfl
   haveI:=ji
   refine⟨_,.cons hv q1,?_⟩;have h1:(IY a.tmps (.tmp t)).run P w=.ok (a.tmps.getD t undef) w:=rfl;rw[List.mapM_cons,abp,h1];simp only[abm];rw[abp,q2];rfl
  ·cases h
 | .cell ad t::rs,vs,h=>by
  rw[p8] at h;split at h
  ·rename_i ad' he;split at h
   ·rename_i v vs0 hv h0;cases h;obtain⟨IN,q1,q2⟩:=qh hE hH h0;have hp:VRi ν (da T ad) (a.tmps.getD ad undef):=hE.ael (x:=.tmp ad) rfl;rw[he] at hp;generalize hu:a.tmps.getD ad undef=u at hp;have hp2:=hp;cases hp with
    | atom _ h=>simp[cC] at h
    | ptr o hν =>
     obtain⟨v',r1,r2⟩:=zr (P:=P) (t:=t) hH hp2 hv
     haveI:=ji
     refine⟨_,.cons r1 q1,?_⟩;have h1:(IY a.tmps (.cell ad t)).run P w=.ok v' w:=by
      show ((asAddr (a.tmps.getD ad undef)) >>= λ x=>loadVar t x).run P w=_;rw[hu,abp];exact r2
     rw[List.mapM_cons,abp,h1];simp only[abm];rw[abp,q2];rfl
   ·cases h
  ·cases h
theorem tp{fn:Func}{vs:List Value}(hE:FE ν G N T a)(hH:HR ν H F w)(h:p8 P T H fn.results.toList=some vs):∃v',VRi ν (ze vs) v' /\ (results fn a.tmps).run P w=.ok v' w:=by
 obtain⟨IN,q1,q2⟩:=qh hE hH h
 haveI:=ji
 have h5:(fn.results.mapM (IY a.tmps)).run P w=.ok ⟨IN⟩ w:=by
  rw[Array.mapM_eq_mapM_toList,<- bind_pure_comp,abp,q2];rfl
 have h6:∀v',(∀W,(pure (if h:(⟨IN⟩:Array Value).size=1 then (⟨IN⟩:Array Value)[0] else .tuple ⟨IN⟩):Sem Value).run P W=.ok v' W) -> (results fn a.tmps).run P w=.ok v' w:=λ v' hv=>by
  have:results fn a.tmps=(fn.results.mapM (IY a.tmps) >>= λ vs=>pure (if h:vs.size=1 then vs[0] else .tuple vs)):=rfl;rw[this,abp,h5];exact hv w
 cases q1 with
 | nil=>exact⟨_,.tuple_of .nil,h6 _ λ W=>rfl⟩
 | cons h1 h2 =>
  cases h2 with
  | nil=>exact⟨_,h1,h6 _ λ W=>rfl⟩
  | cons h3 h4=>exact⟨_,.tuple_of (.cons h1 (.cons h3 h4)),h6 _ λ W=>rfl⟩
theorem mI(o_:ld P G ih){fn:Func}{tm:Array Value}{R:Ending -> World -> Prop}:∀ {D:List Deferred} {H:AH} {n:Nat} {H':AH} {n':Nat},kT P ih D H n=some (H',n') -> n <= n' /\ ∀ν D' w,Glb ν G -> DsR ν D D' -> HR ν H F w -> Fr ν n n' ->
  (∀ν' w',Ext ν ν' n n' -> HR ν' H' F w' -> Below 0 w w' -> LeavesInM (Wr none) 0 P fn tm R [] .returning w') -> LeavesInM (Wr none) 0 P fn tm R D' .returning w
 | [],H,n,H',n',h=>by
  rw[kT] at h;cases h;exact⟨aaS _,λ ν D' w hg hd hH hf hk=>by cases hd;exact hk ν w (.refl _ _) hH (Below.refl _ _)⟩
 | d::ds,H,n,H',n',h=>by
  rw[kT] at h;split at h
  ·rename_i hd ht;split at h
   ·rename_i hb;obtain⟨q1,q2⟩:=mI o_ (fn:=fn) (tm:=tm) (R:=R) h;refine⟨q1,λ ν D' w hg hds hH hf hk=>?_⟩;cases hds with
    | @cons _ d' _ l' hdr hl =>
    obtain⟨hdt,hda⟩:=hdr;rw[ht] at hdt;generalize htt:d'.target=tt at hdt;cases hdt with
    | @coll _ b K hν =>
    obtain⟨rr,K',o,g1,g2,g3⟩:=hH.blk _ _ hb;rw[hν] at g1;cases g1;unfold OR at g3;split at g3
    ·rename_i e1;cases e1
    ·rename_i e1;cases e1
    ·rename_i e1;cases e1
    ·rename_i sh cc e1;cases e1;subst g3;refine⟨by simp,.inl ⟨b,{ w with heap:=w.heap.setIfInBounds b (.deferred none) },htt,?_,?_⟩⟩
     ·unfold Instr.takeDeferred;rw[abp];have h1:(getObj b).run P w=.ok (.deferred (some [])) w:=by
       unfold getObj;rw[Sem.run.eq_def];simp only[g2];rfl
      rw[h1];simp only[abm];rw[abp];have h2:(setObj b (.deferred none)).run P w=.ok () { w with heap:=w.heap.setIfInBounds b (.deferred none) }:=by
       unfold setObj;rw[Sem.run.eq_def];simp only[g2];rfl
      rw[h2];rfl
     ·have h3:HR ν (c9 H hd (some (.dfr true))) F { w with heap:=w.heap.setIfInBounds b (.deferred none) }:=hH.setObj hb rfl rfl hν (b1:=.dfr true) (o':=.deferred none) rfl;exact q2 ν l' _ hg hl h3 hf (λ ν' w' k1 k2 k3=>hk ν' w' k1 k2 (mH.trans k3))
    ·exact g3.elim
   ·cases h
  ·rename_i f captured ht;split at h
   case h_2=>cases h
   rename_i hB;split at h
   case h_2=>cases h
   rename_i v H1 n1 hc;obtain⟨p1,p2⟩:=o_ _ _ hc;obtain⟨q1,q2⟩:=mI o_ (fn:=fn) (tm:=tm) (R:=R) h;refine⟨by omega,λ ν D' w hg hds hH hf hk=>?_⟩;cases hds with
   | @cons _ d' _ l' hdr hl =>
   obtain⟨hdt,hda⟩:=hdr;rw[ht] at hdt;generalize htt:d'.target=tt at hdt;cases hdt with
   | @fn _ f' _ c' hf1 UJ =>
   cases hf1;refine⟨by simp,.inr ⟨λ h=>(by cases h),.func f,c',f,⟨d'.args.toList++c'.toList⟩,htt,?_,λ _ _=>trivial,?_⟩⟩
   ·rw[htt];show (callFunc f (d'.args++c')).run P w=_;rw[iI hB];congr 2;apply Array.ext';simp
   ·refine(p2 ν F w _ hg (λ i a b=>hf i a (by omega)) hH (hda.append UJ)).mono ?_;rintro en u' w2 ⟨rfl,ν2,v',rfl,k1,k2,k3,k4⟩;have I_:=k2.sub' hf q1;show LeavesInM (Wr none) 0 P fn tm R l' (settle .returning) w2;exact q2 ν2 l' w2 (hg.mono I_) (hl.mono I_) k3 (k2.fr hf q1) (λ ν3 w3 g1 g2 g3=>hk ν3 w3 (k2.trans g1) g2 (k4.trans g3))
  ·cases h
theorem zG{f:FuncId}{fn:Func}{c:Code}(h:sY P f=some (fn,c)):P.funcs[f]?=some fn /\ fn.body=some c:=by
 unfold sY at h;split at h
 ·rename_i fn' hf;split at h
  ·rename_i c' hc;cases h;exact⟨hf,hc⟩
  ·cases h
 ·cases h
theorem QH(o_:ld P G ih)(hm:P.follows .mixedOrders=true){f:FuncId}{args:List Value}{H:AH}{n:Nat}{res:Rs}(h:gW P G ih (.fn f args H n)=some res):jX P G (.fn f args H n) res:=by
 simp only[gW] at h;split at h
 case h_2=>cases h
 rename_i fn c hb;split at h
 case h_2=>cases h
 rename_i hle;obtain⟨b1,b2⟩:=zG hb;have fin:∀e s H2 n2 vs,(e=.normal \/ e=.ret) -> ju P G ih none fn.ntmps c ⟨nq args,[],H,n⟩=some (e,s) -> kT P ih s.D s.H s.n=some (H2,n2) -> p8 P s.T H2 fn.results.toList=some vs -> jX P G (.fn f args H n) (.fn (ze vs) H2 n2):=by
  intro e s H2 n2 vs he Vf Xa Ww;obtain⟨q1,q2⟩:=qg o_ hm _ _ _ _ Vf;simp only at q1 q2;have aaQ:=(mI (F:=[]) (fn:=fn) (tm:=#[]) (R:=λ _ _=>True) o_ Xa).1;refine⟨by omega,λ ν F w iF hg hf hH hl=>?_⟩;refine callsIn_wide.1 (callsIn_of_wp_marks (F:=Fence.wide) (n:=0) b1 b2 trivial ?_);have hlen:=hl.length;refine q2 ν F _ w none _ .none ⟨hg,vH hl (bK hle),.nil,hH⟩ (λ i a b=>hf i a (by omega)) (λ ν' a' w' k1 k2 k3=>?_);have I_:=k1.sub' hf aaQ;have ahf:=(mI (F:=F) (fn:=fn) (tm:=a'.tmps) (R:=IO ν (ze vs) n n2 H2 F w) o_ Xa).2 ν' a'.defers w' k2.g k2.d k2.h (k1.fr hf aaQ) (λ ν2 w2 g1 g2 g3=>by
   have Zl:=g1.sub (k1.fr hf aaQ);obtain⟨v',r1,r2⟩:=tp (G:=G) (fn:=fn) (a:=a') (FE.mk (k2.t.mono Zl) (k2.g.mono Zl)) g2 Ww;exact⟨v',r2,ν2,v',rfl,r1,k1.trans g1,g2,k3.trans g3⟩)
  rcases he with rfl|rfl <;> exact ahf
 split at h
 ·cases h
 ·rename_i e s u_ Vf;split at h
  ·rename_i H2 n2 Xa;split at h
   ·rename_i vs Ww;cases h;cases e with
    | normal=>exact fin _ _ _ _ _ (.inl rfl) Vf Xa Ww
    | ret=>exact fin _ _ _ _ _ (.inr rfl) Vf Xa Ww
    | exit id=>first|exact(u_ _ _ rfl).elim|exact(u_ _ rfl).elim|exact(u_ _ _).elim
   ·cases h
  ·cases h
 ·cases h
theorem Fy{b:Nat}{lp:Loop}(h:w.heap[b]?=some (.loop lp))(hs:lp.state=.ready):(Instr.beginRound b).run P w=.ok () { w with heap:=w.heap.setIfInBounds b (.loop { lp with state:=.busy }) }:=by
 unfold Instr.beginRound;rw[abp,gX h];simp only[abm];rw[abp,mg h];simp only[abm,hs];rfl
theorem LO{b:Nat}{lp:Loop}{j:Option Code}(h:w.heap[b]?=some (.loop lp)):(Instr.endRound b j).run P w=.ok (.bool j.isNone) { w with heap:=w.heap.setIfInBounds b (.loop { lp with state:=if j.isNone then .ready else .done,pending:=j }) }:=by
 unfold Instr.endRound;rw[abp,gX h];simp only[abm];rw[abp,mg h];rfl
def RK:Ex -> Option Code
 | .normal=>none
 | .ret=>some .ret
 | .exit id=>some (.exit id)
theorem xb{b:Nat}{R:Ending -> World -> Prop}{e:Ex}(h:∃v w',(Instr.endRound b (RK e)).run P w=.ok v w' /\ R (.returned v) w'):roundPost P b R e.out a w:=by
 cases e <;> exact h
theorem OT(o_:ld P G ih)(hm:P.follows .mixedOrders=true){l:Nat}{T:Tr Value}{N:Nat}{aS0 bo:Code}{H:AH}{n:Nat}{res:Rs}(h:gW P G ih (.rnd l T N aS0 bo H n)=some res):jX P G (.rnd l T N aS0 bo H n) res:=by
 simp only[gW] at h;split at h
 case h_2=>cases h
 rename_i s1 h1;split at h
 case h_2=>cases h
 rename_i pend T' N' ps Wp bo' d hl1 hd1;split at h
 case h_2=>cases h
 rename_i e s2 h2;split at h
 case h_2=>cases h
 rename_i st2 ajR T2 N2 ps2 as2 bo2 d2 Of;obtain⟨q1,q2⟩:=qg o_ hm _ _ _ _ h1;obtain⟨p1,p2⟩:=qg o_ hm _ _ _ _ h2;simp only at q1 q2 p1 p2;have L_:res=.fn (.bool (RK e).isNone) (c9 s2.H l (some (.loop (if (RK e).isNone then .ready else .done) (RK e) T2 N2 ps2 as2 bo2 d2))) s2.n:=by
  cases e <;> (cases h;rfl)
 subst L_;refine⟨by omega,λ ν F w b K tm f r' hg hν hT hf hH=>?_⟩;refine roundIn_of_wpIn trivial ?_;show aS0.wpIn (Wr (some b)) 0 P _ _ _;refine q2 ν F _ w (some b) _ (.some hν) ⟨hg,hT,.nil,hH⟩ (λ i x y=>hf i x (by omega)) (λ ν1 a1 w1 k1 k2 k3=>?_);have acT:=k1.sub' hf p1;have Yd:=acT _ _ hν;obtain⟨lp,g1,g2,g3,g4,g5,g6,g7,K',g8⟩:=k2.h.loop hl1 Yd;refine⟨_,Fy g1 g2,?_⟩;show bo.wpIn (Wr (some b)) 0 P _ _ _;have hH1:HR ν1 (c9 s1.H l (some (.loop .busy pend T' N' ps Wp bo' d))) F { w1 with heap:=w1.heap.setIfInBounds b (.loop { lp with state:=.busy }) }:=k2.h.setObj hl1 rfl rfl Yd ⟨rfl,g3,g4,g5,g6,g7,K',g8⟩;have hd:DsR ν1 [] a1.defers:=by have:=k2.d;rw[hd1] at this;exact this
 refine p2 ν1 F a1 _ (some b) _ (.some Yd) ⟨k2.g,k2.t,hd,hH1⟩ (k1.fr hf p1) (λ ν2 a2 w2 j1 j2 j3=>?_);have hν2:=(j1.sub (k1.fr hf p1)) _ _ Yd;obtain⟨lp2,u1,u2,u3,u4,u5,u6,u7,K2,u8⟩:=j2.h.loop Of hν2;refine xb ⟨_,_,LO u1,ν2,_,rfl,.atom _ rfl,k1.trans j1,?_,((k3.trans mH).trans j3).trans mH⟩;exact j2.h.setObj Of rfl rfl hν2 ⟨rfl,rfl,u4,u5,u6,u7,K2,u8⟩
theorem mJ{ops:Array Oper}{c₀:Frame}{cs:List Frame}(hc:c₀.mode=.returning):∀ (rest:List Oper) (k:Nat) (s s':St),ops.toList.drop k=rest -> nW P G N ops rest s=some s' -> s.n <= s'.n /\ ∀ν F a w (Q:Exit -> Act -> List Frame -> World -> Prop),SR ν G N s F a w -> Fr ν s.n s'.n ->
  (∀ν' a' w',Ext ν ν' s.n s'.n -> SR ν' G N s' F a' w' -> Below 0 w w' -> Q .normal a' (c₀::cs) w') -> wpOpsSIn (Wr none) 0 P ops Q (List.range' k rest.length) a (c₀::cs) w
 | [],k,s,s',hk,h=>by
  rw[nW] at h;cases h;exact⟨aaS _,λ ν F a w Q hs hf hq=>hq ν a w (.refl _ _) hs (Below.refl _ _)⟩
 | o::rest,k,s,s',hk,h=>by
  have g_:k<ops.toList.length:=by
   rcases abd k ops.toList.length with e|e
   ·exact e
   ·rw[List.drop_eq_nil_of_le e] at hk;cases hk
  have hk2:=hk;rw[List.drop_eq_getElem_cons g_] at hk2;simp only[List.cons.injEq] at hk2;obtain⟨ho,W7⟩:=hk2;have By:ops[k]?=some o:=by
   rw[Array.getElem?_eq_getElem (by simpa using g_)];simpa using ho
  rw[nW] at h;split at h
  ·cases h
  ·rename_i hw;split at h
   case h_2=>cases h
   rename_i T1 hp;obtain⟨h1,h2⟩:=mJ hc rest (k+1) _ _ W7 h;refine⟨h1,λ ν F a w Q hs hf hq=>?_⟩;rw[aaY,List.range'_succ,wpOpsSIn];simp only[By];refine⟨λ _ _=>trivial,?_⟩;rw[if_neg (by rw[ky hs.t hw];simp)];exact h2 ν F _ w Q ⟨hs.g,hs.t.put aat hp,by rw[f9];exact hs.d,hs.h⟩ hf hq
  ·rename_i hw;split at h
   ·rename_i v H1 n1 hst;split at h
    case h_2=>cases h
    rename_i T1 hp;obtain⟨h1,h2⟩:=mJ hc rest (k+1) _ _ W7 h;simp only at h1 h2;have hle:=w7 hst;refine⟨by omega,λ ν F a w Q hs hf hq=>?_⟩;rw[aaY,List.range'_succ,wpOpsSIn];simp only[By];refine⟨λ _ _=>trivial,?_⟩;rw[if_pos (ky hs.t hw)];obtain⟨ν',v',w',q,e1,e2,e3,e4,e5,e6⟩:=mG hs.op hs.h hst (λ v H' n' e=>by cases e;exact λ i x y=>hf i x (by omega));have I_:=e4.sub' hf h1;have Un:=h2 ν' F (a.put o.dst v') w' Q ⟨hs.g.mono I_,(hs.t.mono I_).put e3 hp,by rw[f9];exact hs.d.mono I_,e5⟩ (e4.fr hf h1) (λ ν2 a2 w2 g1 g2 g3=>hq ν2 a2 w2 (e4.trans g1) g2 (e6.trans g3));rw[e1];rcases e2 with rfl|⟨rfl,rfl⟩
    ·exact Un
    ·exact Un
   ·rename_i hst;split at h
    case h_2=>cases h
    rename_i T1 hp;obtain⟨h1,h2⟩:=mJ hc rest (k+1) _ _ W7 h;refine⟨h1,λ ν F a w Q hs hf hq=>?_⟩;rw[aaY,List.range'_succ,wpOpsSIn];simp only[By];refine⟨λ _ _=>trivial,?_⟩;rw[if_pos (ky hs.t hw)];have e1:=mG hs.op hs.h hst (λ v H' n' e=>by cases e);rw[show (execOp a.eval o).run P w=.ok .recover w from e1];have hrc:recoverD (c₀::cs)=none:=by simp[recoverD,hc]
    simp only[hrc];exact h2 ν F _ w Q ⟨hs.g,hs.t.put (.atom _ rfl) hp,by rw[f9];exact hs.d,hs.h⟩ hf hq
   ·cases h
theorem OU(o_:ld P G ih)(hm:P.follows .mixedOrders=true){c₀:Frame}{cs:List Frame}(hc:c₀.mode=.returning):∀ (c:Code) (s:St) (e:Ex) (s':St),Iu P G ih N c s=some (e,s') -> s.n <= s'.n /\ ∀ν F a w (Q:Exit -> Act -> List Frame -> World -> Prop),SR ν G N s F a w -> Fr ν s.n s'.n ->
  (∀ν' a' w',Ext ν ν' s.n s'.n -> SR ν' G N s' F a' w' -> Below 0 w w' -> Q e.out a' (c₀::cs) w') -> c.wpSIn (Wr none) 0 P Q a (c₀::cs) w:=by
 have plain:∀ (c:Code) (s:St) (e:Ex) (s':St),ju P G ih none N c s=some (e,s') -> s.n <= s'.n /\ ∀ν F a w (Q:Exit -> Act -> List Frame -> World -> Prop),SR ν G N s F a w -> Fr ν s.n s'.n ->
  (∀ν' a' w',Ext ν ν' s.n s'.n -> SR ν' G N s' F a' w' -> Below 0 w w' -> Q e.out a' (c₀::cs) w') -> c.wpSIn (Wr none) 0 P Q a (c₀::cs) w:=λ c s e s' h=>by
  obtain⟨q1,q2⟩:=qg o_ hm _ _ _ _ h;exact⟨q1,λ ν F a w Q hs hf hq=>wpSIn_of_wpIn rfl (q2 ν F a w none _ .none hs hf hq)⟩
 intro c
 induction c with
 | seq x y Yb ZZ =>
  intro s e s' h;rw[Iu] at h;split at h
  ·rename_i s1 h1;obtain⟨q1,q2⟩:=Yb _ _ _ h1;obtain⟨p1,p2⟩:=ZZ _ _ _ h;refine⟨by omega,λ ν F a w Q hs hf hk=>wpSIn_seq ?_⟩;refine q2 ν F a w _ hs (λ i a b=>hf i a (by omega)) (λ ν' a' w' k1 k2 k3=>?_);exact p2 ν' F a' w' Q k2 (k1.fr hf p1) (λ ν2 a2 w2 g1 g2 g3=>hk ν2 a2 w2 (k1.trans g1) g2 (k3.trans g3))
  ·rename_i u_;obtain⟨q1,q2⟩:=Yb _ _ _ h;refine⟨q1,λ ν F a w Q hs hf hk=>wpSIn_seq ?_⟩;refine q2 ν F a w _ hs hf (λ ν' a' w' k1 k2 k3=>?_);have:=hk ν' a' w' k1 k2 k3;cases e with
   | normal=>exact(u_ _ h).elim
   | exit id=>exact this
   | ret=>exact this
 | cond c x y Yb ZZ =>
  intro s e s' h;rw[Iu] at h;have j_:∀ν F a w b,SR ν G N s F a w -> ael s.T c=.bool b -> a.eval c=.bool b:=λ ν F a w b hs he=>by
   cases c with
   | tmp t =>
    have:=(FE.mk hs.t hs.g:FE ν G N s.T a).ael (x:=.tmp t) rfl;rw[he] at this;exact this.plain_eq rfl
   | const v=>exact he
   | global g=>cases he
   | func f=>cases he
  split at h
  ·rename_i he;obtain⟨q1,q2⟩:=Yb _ _ _ h;exact⟨q1,λ ν F a w Q hs hf hk=>wpSIn_cond (j_ _ _ _ _ _ hs he) (q2 ν F a w Q hs hf hk)⟩
  ·rename_i he;obtain⟨q1,q2⟩:=ZZ _ _ _ h;exact⟨q1,λ ν F a w Q hs hf hk=>wpSIn_cond (j_ _ _ _ _ _ hs he) (q2 ν F a w Q hs hf hk)⟩
  ·cases h
 | region id ops draw =>
  intro s e s' h;cases draw with
  | true=>rw[Iu] at h;exact plain _ _ _ _ h;all_goals simp
  | false =>
   rw[Iu] at h;split at h
   ·rename_i s1 h1;cases h;obtain⟨q1,q2⟩:=mJ hc _ 0 _ _ (by simp) h1;refine⟨q1,λ ν F a w Q hs hf hk=>wpSIn_region ?_⟩;have:=q2 ν F a w Q hs hf hk;rw[List.range_eq_range'];simpa using this
   ·split at h
    ·rename_i x h1;cases h;exact plain _ _ _ _ h1
    ·cases h
 | _=>intro s e s' h;rw[Iu] at h;exact plain _ _ _ _ h;all_goals simp
theorem OV(o_:ld P G ih)(hm:P.follows .mixedOrders=true){f:FuncId}{args:List Value}{H:AH}{n:Nat}{res:Rs}(h:gW P G ih (.dfn f args H n)=some res):jX P G (.dfn f args H n) res:=by
 simp only[gW] at h;split at h
 case h_2=>cases h
 rename_i fn c hb;split at h
 case h_2=>cases h
 rename_i hle;obtain⟨b1,b2⟩:=zG hb;split at h
 ·cases h
 ·rename_i e s u_ Vf;split at h
  ·rename_i hd;split at h
   ·rename_i vs Ww;cases h;have hq:∀ (c₀:Frame) (cs:List Frame),c₀.mode=.returning -> _:=λ c₀ cs hc=>OU (c₀:=c₀) (cs:=cs) o_ hm hc _ _ _ _ Vf;have hn:n <= s.n:=(hq { (default:Frame) with mode:=.returning } [] rfl).1;refine⟨hn,λ ν F w iF hg hf hH hl=>?_⟩;refine callsDIn_of_wpSIn b1 b2 trivial (λ c₀ cs hc=>?_);refine(hq c₀ cs hc).2 ν F _ w _ ⟨hg,vH hl (bK hle),.nil,hH⟩ hf (λ ν' a' w' k1 k2 k3=>?_);have hdd:a'.defers=[]:=by
     have:=k2.d;rw[hd] at this;generalize a'.defers=q at this;cases this;rfl
    obtain⟨v',r1,r2⟩:=tp (G:=G) (fn:=fn) (a:=a') (FE.mk k2.t k2.g) k2.h Ww;have hcc:c₀::cs={ c₀ with mode:=.returning }::cs:=by rw[<- hc]
    have Un:a'.defers=[] /\ ∃u',c₀::cs={ c₀ with mode:=u' }::cs /\ ∃v,(results fn a'.tmps).run P w'=.ok v w' /\ (u'=.returning /\ IO ν (ze vs) n s.n s.H F w (.returned v) w') :=
     ⟨hdd,.returning,hcc,v',r2,rfl,ν',v',rfl,r1,k1,k2.h,k3⟩
    cases e with
    | normal=>exact Un
    | ret=>exact Un
    | exit id=>first|exact(u_ _ _ rfl).elim|exact(u_ _ rfl).elim|exact(u_ _ _).elim
   ·cases h
  ·cases h
 ·cases h
theorem IZ(o_:ld P G ih)(hm:P.follows .mixedOrders=true):ld P G (gW P G ih):=by
 intro t res h;cases t with
 | code r N c s =>
  simp only[gW] at h;split at h
  ·rename_i h1;cases h;exact qg o_ hm _ _ _ _ h1
  ·cases h
 | loop r N c s =>
  simp only[gW] at h;split at h
  ·rename_i h1;cases h;exact zE o_ (λ s e s' h=>qg o_ hm _ _ _ _ h) h1
  ·cases h
 | fn f args H n=>exact QH o_ hm h
 | rnd l T N aS0 bo H n=>exact OT o_ hm h
 | dfn f args H n=>exact OV o_ hm h
theorem rV(hm:P.follows .mixedOrders=true):∀k,ld P G (Iv P G k)
 | 0=>λ t res h=>by rw[Iv] at h;cases h
 | k+1=>by
  have:=IZ (rV hm k) hm;intro t res h;rw[Iv] at h;exact this t res h
end fn
noncomputable section
inductive CzV where|mk (f:Tr Value -> Value)
inductive CzS where|mk (f:Value -> Tr Value -> Tr Value)
abbrev Ih:=Task -> Option Rs
inductive CzR where|mk (f:Ih -> Option Nat -> Tr Value -> List Deferred -> AH -> Nat -> Option St)
inductive CzC where|mk (f:Ih -> Option Nat -> Tr Value -> List Deferred -> AH -> Nat -> Option (Ex × St))
inductive CzF where|mk (f:Ih -> List Value -> AH -> Nat -> Option Rs)
inductive CzA where|mk (f:Tr Value -> List Value)
def CzV.f:CzV -> Tr Value -> Value | .mk f=>f
def CzS.f:CzS -> Value -> Tr Value -> Tr Value | .mk f=>f
def CzR.f:CzR -> Ih -> Option Nat -> Tr Value -> List Deferred -> AH -> Nat -> Option St | .mk f=>f
def CzC.f:CzC -> Ih -> Option Nat -> Tr Value -> List Deferred -> AH -> Nat -> Option (Ex × St) | .mk f=>f
def CzF.f:CzF -> Ih -> List Value -> AH -> Nat -> Option Rs | .mk f=>f
def CzA.f:CzA -> Tr Value -> List Value | .mk f=>f
def fj{α:Type}(v:Value)(x:Value -> α):α:=match v with
 | .bool b=>x (.bool b)
 | .int k n=>x (.int k n)
 | .float k b=>x (.float k b)
 | .complex k a b=>x (.complex k a b)
 | .string s=>x (.string s)
 | .pointer a=>x (.pointer a)
 | .slice a l c=>x (.slice a l c)
 | .map r=>x (.map r)
 | .chan r=>x (.chan r)
 | .func f a c=>x (.func f a c)
 | .nilFunc=>x .nilFunc
 | .iface t v=>x (.iface t v)
 | .nilIface=>x .nilIface
 | .agg c=>x (.agg c)
 | .tuple c=>x (.tuple c)
theorem cM{α:Type}(v:Value)(x:Value -> α):fj v x=x v:=by cases v <;> rfl
def BS{α:Type}(l:List Value):(List Value -> α) -> α:=List.rec (motive:=λ _=>(List Value -> α) -> α) (λ x=>x []) (λ v _ ih x=>fj v λ v=>ih λ l=>x (v::l)) l
theorem vJ{α:Type}:∀ (l:List Value) (x:List Value -> α),BS l x=x l
 | [],x=>rfl
 | v::l,x=>by
  show fj v (λ v=>BS l λ l=>x (v::l))=_;rw[cM,vJ l]
def xc:List Bool -> CzV
 | []=>.mk λ T=>Tr.rec (motive:=λ _=>Value) undef (λ v _ _ _ _=>v) T
 | b::p=>match xc p with
  | .mk f=>match b with
   | true=>.mk λ T=>Tr.rec (motive:=λ _=>Value) undef (λ _ _ r _ _=>f r) T
   | false=>.mk λ T=>Tr.rec (motive:=λ _=>Value) undef (λ _ l _ _ _=>f l) T
theorem rX:∀ (p:List Bool) (T:Tr Value),(xc p).f T=gu undef p T
 | [],T=>by cases T <;> rfl
 | b::p,T=>by
  have ih:=rX p;cases h:xc p with
  | mk f =>
   rw[h] at ih;cases b <;> simp only[xc,h,CzV.f] <;> cases T <;> first|rfl|exact ih _
def BT:List Bool -> CzS
 | []=>.mk λ x T=>Tr.rec (motive:=λ _=>Tr Value) (.nd x .lf .lf) (λ _ l r _ _=>.nd x l r) T
 | b::p=>match BT p with
  | .mk f=>match b with
   | true=>.mk λ x T=>Tr.rec (motive:=λ _=>Tr Value) (.nd undef .lf (f x .lf)) (λ v l r _ _=>.nd v l (f x r)) T
   | false=>.mk λ x T=>Tr.rec (motive:=λ _=>Tr Value) (.nd undef (f x .lf) .lf) (λ v l r _ _=>.nd v (f x l) r) T
theorem Dg(x:Value):∀ (p:List Bool) (T:Tr Value),(BT p).f x T=Tr.setP undef x p T
 | [],T=>by cases T <;> rfl
 | b::p,T=>by
  have ih:=Dg x p;cases h:BT p with
  | mk f =>
   rw[h] at ih;simp only[CzS.f] at ih;cases b <;> simp only[BT,h,CzS.f] <;> cases T <;> simp only[ih] <;> rfl
def cv:Operand -> CzV
 | .tmp t=>xc (pth t)
 | .const v=>.mk λ _=>v
 | .global g=>.mk λ _=>.pointer (some ⟨g,0,none⟩)
 | .func f=>.mk λ _=>.func (.func f) #[] #[]
theorem Nz(x:Operand)(T:Tr Value):(cv x).f T=ael T x:=by
 cases x with
 | tmp t=>exact rX _ _
 | const v=>rfl
 | global g=>rfl
 | func f=>rfl
def ca:List Operand -> CzA
 | []=>.mk λ _=>[]
 | x::l=>match cv x,ca l with
  | .mk f,.mk g=>.mk λ T=>f T::g T
theorem NA:∀ (l:List Operand) (T:Tr Value),(ca l).f T=nU T l
 | [],T=>rfl
 | x::l,T=>by
  have h1:=Nz x T;have h2:=NA l T;cases hx:cv x with
  | mk f=>cases hl:ca l with
   | mk g =>
    rw[hx] at h1;rw[hl] at h2;simp only[CzV.f] at h1;simp only[CzA.f] at h2;simp only[ca,hx,hl,CzA.f,nU,h1,h2]
inductive CzD where
 | no
 | ok (f:Value -> Tr Value -> Tr Value)
 | bad
def iJ(N:Nat):Option Tmp -> CzD
 | none=>.no
 | some d=>match Nat.blt d N with
  | true=>match BT (pth d) with
   | .mk f=>.ok f
  | false=>.bad
theorem Dh{N:Nat}{d:Option Tmp}{f}(h:iJ N d=.ok f)(v:Value)(T:Tr Value):fI N d v T=some (f v T):=by
 cases d with
 | none=>simp[iJ] at h
 | some d =>
  simp only[iJ] at h;cases hb:Nat.blt d N <;> rw[hb] at h
  ·simp at h
  ·cases hs:BT (pth d) with
   | mk g =>
    simp only[hs,CzD.ok.injEq] at h;subst h;have:=Dg v (pth d) T;rw[hs] at this;simp only[CzS.f] at this;simp only[fI,hb,this];rfl
theorem Di{N:Nat}{d:Option Tmp}(h:iJ N d=.no)(v:Value)(T:Tr Value):fI N d v T=some T:=by
 cases d with
 | none=>rfl
 | some d =>
  simp only[iJ] at h;cases hb:Nat.blt d N <;> rw[hb] at h
  ·simp at h
  ·cases hs:BT (pth d) with
   | mk g=>simp[hs] at h
def de(P:Program)(G N:Nat)(ops:Array Oper)(o:Oper)(k:Ih -> Option Nat -> Tr Value -> List Deferred -> AH -> Nat -> Option St)(ih:Ih)(r:Option Nat)(T:Tr Value)(D:List Deferred)(H:AH)(n:Nat):Option St:=match eY ops o T with
 | none=>none
 | some false=>match fI N o.dst undef T with
  | some T=>k ih r T D H n
  | none=>none
 | some true=>match kl P G ih r o T H n with
  | none=>none
  | some (.val v H n)=>fj v λ v=>match fI N o.dst v T with
   | some T=>k ih r T D H n
   | none=>none
  | some (.dfr d)=>match fI N o.dst undef T with
   | some T=>k ih r T (d::D) H n
   | none=>none
def CzR.okL(P:Program)(G N:Nat)(ops:Array Oper)(l:List Oper)(k:Ih -> Option Nat -> Tr Value -> List Deferred -> AH -> Nat -> Option St):Prop:=∀ih r T D H n,k ih r T D H n=nk P G ih r N ops l ⟨T,D,H,n⟩
theorem LP{P:Program}{G N:Nat}{ops:Array Oper}{l:List Oper}{k}(h:CzR.okL P G N ops l k)(o:Oper):CzR.okL P G N ops (o::l) (de P G N ops o k):=by
 intro ih r T D H n;simp only[de,nk];cases eY ops o T with
 | none=>rfl
 | some b =>
  cases b with
  | false=>cases fI N o.dst undef T with
   | none=>rfl
   | some T'=>exact h _ _ _ _ _ _
  | true=>cases kl P G ih r o T H n with
   | none=>rfl
   | some x=>cases x with
    | val v H' n'=>simp only[cM];cases hp:fI N o.dst v T with
     | none=>simp only[hp]
     | some T'=>simp only[hp];exact h _ _ _ _ _ _
    | dfr d=>cases hp:fI N o.dst undef T with
     | none=>simp only[hp]
     | some T'=>simp only[hp];exact h _ _ _ _ _ _
def pj(N:Nat)(o:Oper)(k:Ih -> Option Nat -> Tr Value -> List Deferred -> AH -> Nat -> Option St)(ih:Ih)(r:Option Nat)(T:Tr Value)(D:List Deferred)(v:Value)(H:AH)(n:Nat):Option St:=match fI N o.dst v T with
 | some T=>k ih r T D H n
 | none=>none
theorem qi{P:Program}{G N:Nat}{ops:Array Oper}{o:Oper}{k}(hg:o.guard=none)(ho:oA G o=true)(hc:t8 P o.op=.pu)(ih:Ih)(r:Option Nat)(T:Tr Value)(D:List Deferred)(H:AH)(n:Nat) :
  de P G N ops o k ih r T D H n=match gU P o T with
   | some v=>pj N o k ih r T D v H n
   | none=>none:=by
 simp only[oA] at ho;cases hl:jf o.op with
 | none=>rw[hl] at ho;simp at ho
 | some l =>
  rw[hl] at ho;simp only at ho;simp only[de,eY,hg,kl,C7,hl,ho,hc];cases gU P o T with
  | none=>rfl
  | some v=>simp only[cM];rfl
theorem I0{P:Program}{G N:Nat}{ops:Array Oper}{o:Oper}{k}(hg:o.guard=none)(ho:oA G o=true)(hc:t8 P o.op=.lo)(ih:Ih)(r:Option Nat)(T:Tr Value)(D:List Deferred)(H:AH)(n:Nat) :
  de P G N ops o k ih r T D H n=match jM P o T H with
   | some v=>pj N o k ih r T D v H n
   | none=>none:=by
 simp only[oA] at ho;cases hl:jf o.op with
 | none=>rw[hl] at ho;simp at ho
 | some l =>
  rw[hl] at ho;simp only at ho;simp only[de,eY,hg,kl,C7,hl,ho,hc];cases jM P o T H with
  | none=>rfl
  | some v=>simp only[cM];rfl
theorem OW{P:Program}{G N:Nat}{ops:Array Oper}{o:Oper}{k}(hg:o.guard=none)(ho:oA G o=true)(hc:t8 P o.op=.nw)(ih:Ih)(r:Option Nat)(T:Tr Value)(D:List Deferred)(H:AH)(n:Nat) :
  de P G N ops o k ih r T D H n=match um P o T with
   | some (b,m)=>pj N o k ih r T D (m.val n) (c9 H n (some b)) (n+1)
   | none=>none:=by
 simp only[oA] at ho;cases hl:jf o.op with
 | none=>rw[hl] at ho;simp at ho
 | some l =>
  rw[hl] at ho;simp only at ho;simp only[de,eY,hg,kl,C7,hl,ho,hc];cases um P o T with
  | none=>rfl
  | some v=>simp only[OO,cM];rfl
theorem OX{P:Program}{G N:Nat}{ops:Array Oper}{o:Oper}{k}(hg:o.guard=none)(ho:oA G o=true)(hc:t8 P o.op=.ef)(ih:Ih)(r:Option Nat)(T:Tr Value)(D:List Deferred)(H:AH)(n:Nat){v:Value}{H':AH}{n':Nat}(he:nV P o T H n=some (.val v H' n')) :
  de P G N ops o k ih r T D H n=pj N o k ih r T D v H' n':=by
 simp only[oA] at ho;cases hl:jf o.op with
 | none=>rw[hl] at ho;simp at ho
 | some l =>
  rw[hl] at ho;simp only at ho;simp only[de,eY,hg,kl,C7,hl,ho,hc,he,cM];rfl
theorem Dj{P:Program}{G N:Nat}{ops:Array Oper}{o:Oper}{k}(hg:o.guard=none)(ho:oA G o=true)(hc:t8 P o.op=.ef)(ih:Ih)(r:Option Nat)(T:Tr Value)(D:List Deferred)(H:AH)(n:Nat){f:FuncId}{args:List Value}(he:nV P o T H n=some (.ent f args)) :
  de P G N ops o k ih r T D H n=match ih (.fn f args H n) with
   | some (.fn v H n)=>pj N o k ih r T D v H n
   | _=>none:=by
 simp only[oA] at ho;cases hl:jf o.op with
 | none=>rw[hl] at ho;simp at ho
 | some l =>
  rw[hl] at ho;simp only at ho;simp only[de,eY,hg,kl,C7,hl,ho,hc,he];cases ih (.fn f args H n) with
  | none=>rfl
  | some x=>cases x <;> simp only[cM] <;> rfl
end
noncomputable section
abbrev Kt:=Ih -> Option Nat -> Tr Value -> List Deferred -> AH -> Nat -> Option St
def kN(k:IntKind):Nat:=IntKind.rec (motive:=λ _=>Nat) 0 1 2 3 4 5 6 7 k
def Su(a b:IntKind):Bool:=Nat.beq (kN a) (kN b)
theorem OY(a b:IntKind):Su a b=decide (a=b):=by cases a <;> cases b <;> rfl
def PZ(a b:Int):Bool:=match a,b with
 | .ofNat m,.ofNat n=>Nat.blt m n
 | .negSucc _,.ofNat _=>true
 | .ofNat _,.negSucc _=>false
 | .negSucc m,.negSucc n=>Nat.blt n m
theorem Dk(m n:Nat):Nat.blt m n=decide (m<n):=by
 by_cases h:m<n
 ·simp[Nat.blt_eq,h]
 ·rw[abz h];cases hb:Nat.blt m n
  ·rfl
  ·exact absurd (Eq.mp Nat.blt_eq hb) h
theorem I1(a b:Int):PZ a b=decide (a<b):=by
 cases a with
 | ofNat m=>cases b with
  | ofNat n =>
   simp only[PZ,Dk];exact decide_eq_decide.2 (Int.ofNat_lt).symm
  | negSucc n=>exact(abz (show ¬ ((m:Int)<Int.negSucc n) by omega)).symm
 | negSucc m=>cases b with
  | ofNat n=>exact(abA (show Int.negSucc m<(n:Int) by omega)).symm
  | negSucc n =>
   simp only[PZ,Dk];exact decide_eq_decide.2 (by omega)
def OZ(b:Bool):Bool:=match b with
 | true=>false
 | false=>true
theorem Dl(b:Bool):OZ b=!b:=by cases b <;> rfl
def RL(a b:Int):Bool:=OZ (PZ b a)
theorem O0(a b:Int):RL a b=decide (a <= b):=by
 rw[RL,Dl,I1]
 by_cases h:b<a
 ·rw[abA h,abz (by omega)];rfl
 ·rw[abz h,abA (by omega)];rfl
def QI(a b:Int):Bool:=match a,b with
 | .ofNat m,.ofNat n=>Nat.beq m n
 | .negSucc m,.negSucc n=>Nat.beq m n
 | _,_=>false
theorem Dm(m n:Nat):Nat.beq m n=decide (m=n):=by
 by_cases h:m=n
 ·rw[abA h];exact Eq.mpr Nat.beq_eq h
 ·rw[abz h];cases hb:Nat.beq m n
  ·rfl
  ·exact absurd (Eq.mp Nat.beq_eq hb) h
theorem O2(a b:Int):QI a b=(a == b):=by
 have e:(a == b)=decide (a=b):=rfl;rw[e];cases a with
 | ofNat m=>cases b with
  | ofNat n =>
   simp only[QI,Dm];exact decide_eq_decide.2 (Int.ofNat_inj (m:=m) (n:=n)).symm
  | negSucc n=>rfl
 | negSucc m=>cases b with
  | ofNat n=>rfl
  | negSucc n =>
   simp only[QI,Dm];exact decide_eq_decide.2 (by simp)
def LQ:BinOp -> Option (Int -> Int -> Bool)
 | .lss=>some λ a b=>PZ a b
 | .leq=>some λ a b=>RL a b
 | .gtr=>some λ a b=>PZ b a
 | .geq=>some λ a b=>RL b a
 | .eql=>some λ a b=>QI a b
 | .neq=>some λ a b=>OZ (QI a b)
 | _=>none
theorem LS{op:BinOp}{q}(h:LQ op=some q)(a b:Int):Ic op a b=some (q a b):=by
 cases op <;> simp only[LQ,Option.some.injEq,reduceCtorEq] at h <;> subst h <;> simp only[Ic,I1,O0,O2,Dl] <;> rfl
section
variable (P:Program) (G N:Nat) (ops:Array Oper) (o:Oper) (k:Kt) (g:Value -> Tr Value -> Tr Value)
def RM(f:Tr Value -> Value)(ih:Ih)(r:Option Nat)(T:Tr Value)(D:List Deferred)(H:AH)(n:Nat):Option St:=fj (f T) λ v=>k ih r (g v T) D H n
def QJ(u:Value)(x y:Option St):Option St:=match u with
 | .bool b=>match b with
  | true=>x
  | false=>y
 | _=>none
def I2(f fa fb:Tr Value -> Value)(ih:Ih)(r:Option Nat)(T:Tr Value)(D:List Deferred)(H:AH)(n:Nat):Option St:=QJ (f T) (fj (fa T) λ v=>k ih r (g v T) D H n) (fj (fb T) λ v=>k ih r (g v T) D H n)
def QK(u:Value)(x y:Option St):Option St:=match u with
 | .pointer p=>match p with
  | some _=>x
  | none=>y
 | _=>y
def O3(f:Tr Value -> Value)(ih:Ih)(r:Option Nat)(T:Tr Value)(D:List Deferred)(H:AH)(n:Nat):Option St:=QK (f T) (fj (f T) λ v=>k ih r (g v T) D H n) (de P G N ops o k ih r T D H n)
def QL(q:Int -> Int -> Bool)(u v:Value)(x:Bool -> Option St)(y:Option St):Option St:=match u with
 | .int ka a=>match v with
  | .int kb b=>match Su ka kb with
   | true=>match q a b with
    | true=>x true
    | false=>x false
   | false=>y
  | _=>y
 | _=>y
def O4(q:Int -> Int -> Bool)(f1 f2:Tr Value -> Value)(ih:Ih)(r:Option Nat)(T:Tr Value)(D:List Deferred)(H:AH)(n:Nat):Option St:=QL q (f1 T) (f2 T) (λ b=>k ih r (g (.bool b) T) D H n) (de P G N ops o k ih r T D H n)
def Sv(c:Nat)(u:Value)(x:Value -> Option St):Option St:=match u with
 | .pointer p=>match p with
  | some a=>match a with
   | ⟨b,off,s⟩=>match c with
    | 0=>x (.pointer (some ⟨b,off,s⟩))
    | c+1=>x (.pointer (some ⟨b,off+(c+1),none⟩))
  | none=>none
 | _=>none
def O5(c:Nat)(f:Tr Value -> Value)(ih:Ih)(r:Option Nat)(T:Tr Value)(D:List Deferred)(H:AH)(n:Nat):Option St:=Sv c (f T) λ v=>k ih r (g v T) D H n
def ldB(off:Nat)(s:Option Nat)(b:Option AB)(x:Value -> Option St):Option St:=match s with
 | none=>match b with
  | some c=>match c with
   | .cells n tr _ _ _=>match Nat.blt off n with
    | true=>fj (da tr off) x
    | false=>none
   | _=>none
  | none=>none
 | some _=>none
def ldR(H:AH)(u:Value)(x:Value -> Option St):Option St:=match u with
 | .pointer p=>match p with
  | some a=>match a with
   | ⟨b,off,s⟩=>ldB off s (bE H b) x
  | none=>none
 | _=>none
def Sw(f:Tr Value -> Value)(ih:Ih)(r:Option Nat)(T:Tr Value)(D:List Deferred)(H:AH)(n:Nat):Option St:=ldR H (f T) λ v=>k ih r (g v T) D H n
def laB(off c:Nat)(s:Option Nat)(b:Option AB)(x:Value -> Option St):Option St:=match s with
 | none=>match b with
  | some ab=>match ab with
   | .cells n tr _ _ _=>match Nat.ble (off+c) n with
    | true=>BS (gV tr off c) λ l=>x (.agg ⟨l⟩)
    | false=>none
   | _=>none
  | none=>none
 | some _=>none
def laR(c:Nat)(H:AH)(u:Value)(x:Value -> Option St):Option St:=match u with
 | .pointer p=>match p with
  | some a=>match a with
   | ⟨b,off,s⟩=>laB off c s (bE H b) x
  | none=>none
 | _=>none
def Sx(c:Nat)(f:Tr Value -> Value)(ih:Ih)(r:Option Nat)(T:Tr Value)(D:List Deferred)(H:AH)(n:Nat):Option St:=laR c H (f T) λ v=>k ih r (g v T) D H n
def alF(b:AB)(ih:Ih)(r:Option Nat)(T:Tr Value)(D:List Deferred)(H:AH)(n:Nat):Option St:=k ih r (g (.pointer (some ⟨n,0,none⟩)) T) D (c9 H n (some b)) (n+1)
def ixR(c:Nat)(u i:Value)(x:Value -> Option St):Option St:=match u with
 | .slice p m _=>match p with
  | some a=>match i with
   | .int _ i=>match i with
    | .ofNat i=>match Nat.blt i m with
     | true=>match a with
      | ⟨b,off,s⟩=>match i*c with
       | 0=>x (.pointer (some ⟨b,off,s⟩))
       | j+1=>x (.pointer (some ⟨b,off+(j+1),none⟩))
     | false=>none
    | _=>none
   | _=>none
  | none=>none
 | _=>none
def Sy(c:Nat)(f1 f2:Tr Value -> Value)(ih:Ih)(r:Option Nat)(T:Tr Value)(D:List Deferred)(H:AH)(n:Nat):Option St:=ixR c (f1 T) (f2 T) λ v=>k ih r (g v T) D H n
def stB(off:Nat)(s:Option Nat)(v:Value)(b:Option AB)(x:AB -> Option St)(y:Option St):Option St:=match s with
 | none=>match b with
  | some c=>match c with
   | .cells n tr ty w ro=>match ro with
    | false=>match Nat.blt off n with
     | true=>x (.cells n (uk tr off v) ty w false)
     | false=>y
    | true=>y
   | _=>y
  | none=>y
 | some _=>y
def Dn(v:Value):Bool:=match v with
 | .agg _=>false
 | .tuple _=>false
 | _=>true
def stR(H:AH)(u v:Value)(x:Nat -> AB -> Option St)(y:Option St):Option St:=match Dn v with
 | true=>match u with
  | .pointer p=>match p with
   | some a=>match a with
    | ⟨b,off,s⟩=>fj v λ v=>stB off s v (bE H b) (x b) y
   | none=>y
  | _=>y
 | false=>y
def Sz(f1 f2:Tr Value -> Value)(ih:Ih)(r:Option Nat)(T:Tr Value)(D:List Deferred)(H:AH)(n:Nat):Option St:=stR H (f1 T) (f2 T) (λ b ab=>k ih r T D (c9 H b (some ab)) n) (de P G N ops o k ih r T D H n)
def RO(x:Option Rs)(y:Value -> AH -> Nat -> Option St):Option St:=match x with
 | some x=>match x with
  | .fn v H n=>fj v λ v=>y v H n
  | .cd _ _=>none
 | none=>none
def SA(f:FuncId)(aS0:Tr Value -> List Value)(ih:Ih)(r:Option Nat)(T:Tr Value)(D:List Deferred)(H:AH)(n:Nat):Option St:=RO (ih (.fn f (aS0 T) H n)) λ v H n=>k ih r (g v T) D H n
def SB(f:FuncId)(aS0:Tr Value -> List Value)(ih:Ih)(r:Option Nat)(T:Tr Value)(D:List Deferred)(H:AH)(n:Nat):Option St:=RO (ih (.fn f (aS0 T) H n)) λ v H n=>k ih r T D H n
end
section
variable {P:Program} {G N:Nat} {ops:Array Oper} {o:Oper} {k:Kt} {g:Value -> Tr Value -> Tr Value}
theorem fZ(hd:iJ N o.dst=.ok g)(ih:Ih)(r:Option Nat)(T:Tr Value)(D:List Deferred)(v:Value)(H:AH)(n:Nat):pj N o k ih r T D v H n=k ih r (g v T) D H n:=by
 rw[pj,Dh hd]
theorem Dp(hd:iJ N o.dst=.no)(ih:Ih)(r:Option Nat)(T:Tr Value)(D:List Deferred)(v:Value)(H:AH)(n:Nat):pj N o k ih r T D v H n=k ih r T D H n:=by
 rw[pj,Di hd]
theorem NB(hg:o.guard=none)(ho:oA G o=true)(hd:iJ N o.dst=.ok g){x:Operand}(hx:o.op=.move x \/ o.op=.assign x){f}(hf:∀T,f T=ael T x)(ih r T D H n):RM k g f ih r T D H n=de P G N ops o k ih r T D H n:=by
 have hc:t8 P o.op=.pu:=by cases hx with|inl h=>rw[h];rfl|inr h=>rw[h];rfl
 have hp:gU P o T=some (ael T x):=by unfold gU;cases hx with|inl h=>rw[h]|inr h=>rw[h]
 rw[qi hg ho hc,hp,RM,hf,cM];exact(fZ hd ..).symm
theorem LT(hg:o.guard=none)(ho:oA G o=true)(hd:iJ N o.dst=.ok g){c a b:Operand}(hx:o.op=.pick c a b){f fa fb}(hf:∀T,f T=ael T c)(hfa:∀T,fa T=ael T a)(hfb:∀T,fb T=ael T b)(ih r T D H n):I2 k g f fa fb ih r T D H n=de P G N ops o k ih r T D H n:=by
 rw[qi hg ho (by rw[hx];rfl)];unfold gU;rw[hx];simp only[I2,hf,hfa,hfb,cM];cases ael T c with
 | bool q=>cases q <;> exact(fZ hd ..).symm
 | _=>rfl
theorem O6(hg:o.guard=none)(ho:oA G o=true)(hd:iJ N o.dst=.ok g){x:Operand}(hx:o.op=.nilCheck x){f}(hf:∀T,f T=ael T x)(ih r T D H n):O3 P G N ops o k g f ih r T D H n=de P G N ops o k ih r T D H n:=by
 simp only[O3,hf];cases he:ael T x with
 | pointer p=>cases p with
  | none=>rfl
  | some a =>
   rw[qi hg ho (by rw[hx];rfl)];unfold gU;rw[hx];simp only[he,QK,cM];exact(fZ hd ..).symm
 | _=>rfl
theorem O7(hg:o.guard=none)(ho:oA G o=true)(hd:iJ N o.dst=.ok g){op t x y z}(hx:o.op=.binOp op t x y z){q}(hq:LQ op=some q){f1 f2}(hf1:∀T,f1 T=ael T x)(UJ:∀T,f2 T=ael T y)(ih r T D H n):O4 P G N ops o k g q f1 f2 ih r T D H n=de P G N ops o k ih r T D H n:=by
 simp only[O4,hf1,UJ];cases he:ael T x with
 | int ka a=>cases he2:ael T y with
  | int kb b =>
   simp only[QL];cases hk:Su ka kb with
   | false=>rfl
   | true =>
    rw[qi hg ho (by rw[hx];rfl)];unfold gU;rw[hx];rw[OY] at hk;simp only[he,he2,LS hq,hk];cases q a b <;> exact(fZ hd ..).symm
  | _=>rfl
 | _=>rfl
theorem O8(hg:o.guard=none)(ho:oA G o=true)(hd:iJ N o.dst=.ok g){t x j}(hx:o.op=.fieldAddr t x j){c ft}(hc:yX P t j=some (c,ft)){f}(hf:∀T,f T=ael T x)(ih r T D H n):O5 k g c f ih r T D H n=de P G N ops o k ih r T D H n:=by
 rw[qi hg ho (by rw[hx];rfl)];unfold gU;rw[hx];simp only[O5,hf,hc];cases he:ael T x with
 | pointer p=>cases p with
  | none=>rfl
  | some a=>cases a with
   | mk b off s=>cases c with
    | zero=>exact(fZ hd ..).symm
    | succ c=>exact(fZ hd ..).symm
 | _=>rfl
theorem QM(hg:o.guard=none)(ho:oA G o=true)(hd:iJ N o.dst=.ok g){t x}(hx:o.op=.load t x)(hc:yW P t=true){f}(hf:∀T,f T=ael T x)(ih r T D H n):Sw k g f ih r T D H n=de P G N ops o k ih r T D H n:=by
 rw[I0 hg ho (by rw[hx];rfl)];unfold jM;rw[hx];simp only[Sw,hf];cases he:ael T x with
 | pointer p=>cases p with
  | none=>rfl
  | some a=>cases a with
   | mk b off s =>
    cases s with
    | some s=>rfl
    | none =>
     simp only[ldR,vh];cases bE H b with
     | none=>rfl
     | some c=>cases c with
      | cells nn tr ty w ro =>
       simp only[ldB,hc];cases Nat.blt off nn
       ·rfl
       ·simp only[cM];exact(fZ hd ..).symm
      | _=>rfl
 | _=>rfl
theorem QN(hg:o.guard=none)(ho:oA G o=true)(hd:iJ N o.dst=.ok g){t x}(hx:o.op=.load t x)(hc:yW P t=false){c}(ha:Bv P t=some c){f}(hf:∀T,f T=ael T x)(ih r T D H n):Sx k g c f ih r T D H n=de P G N ops o k ih r T D H n:=by
 rw[I0 hg ho (by rw[hx];rfl)];unfold jM;rw[hx];simp only[Sx,hf];cases he:ael T x with
 | pointer p=>cases p with
  | none=>rfl
  | some a=>cases a with
   | mk b off s =>
    cases s with
    | some s=>rfl
    | none =>
     simp only[laR,vh];cases bE H b with
     | none=>rfl
     | some ab=>cases ab with
      | cells nn tr ty w ro =>
       simp only[laB,hc,ha];cases Nat.ble (off+c) nn
       ·rfl
       ·simp only[vJ];exact(fZ hd ..).symm
      | _=>rfl
 | _=>rfl
theorem QO(hg:o.guard=none)(ho:oA G o=true)(hd:iJ N o.dst=.ok g){t}(hx:o.op=.alloc t){z}(hz:lC P t=some z){b}(hb:jW z t=b)(ih r T D H n):alF k g b ih r T D H n=de P G N ops o k ih r T D H n:=by
 rw[OW hg ho (by rw[hx];rfl)];unfold um;rw[hx];simp only[hz,hb];exact(fZ hd ..).symm
theorem QP(hg:o.guard=none)(ho:oA G o=true)(hd:iJ N o.dst=.ok g){t x i}(hx:o.op=.indexAddr t x i){el c}(ht:P.underlying t=some (.slice el))(hc:fy P el=some c){f1 f2}(hf1:∀T,f1 T=ael T x)(UJ:∀T,f2 T=ael T i)(ih r T D H n):Sy k g c f1 f2 ih r T D H n=de P G N ops o k ih r T D H n:=by
 rw[qi hg ho (by rw[hx];rfl)];unfold gU;rw[hx];simp only[Sy,hf1,UJ,ht];cases he:ael T x with
 | slice p m cc=>cases p with
  | none=>rfl
  | some a=>cases a with
   | mk b off s=>cases he2:ael T i with
    | int ki i=>cases i with
     | ofNat i =>
      simp only[ixR,KD,hc];cases Nat.blt i m with
      | false=>rfl
      | true =>
       simp only[Bz];cases i*c with
       | zero=>exact(fZ hd ..).symm
       | succ j=>exact(fZ hd ..).symm
     | negSucc i=>rfl
    | _=>rfl
 | _=>cases he2:ael T i <;> rfl
theorem QQ(hg:o.guard=none)(ho:oA G o=true)(hd:iJ N o.dst=.no){t x y}(hx:o.op=.store t x y)(ht:fy P t=some 1){f1 f2}(hf1:∀T,f1 T=ael T x)(UJ:∀T,f2 T=ael T y)(ih r T D H n):Sz P G N ops o k f1 f2 ih r T D H n=de P G N ops o k ih r T D H n:=by
 simp only[Sz,hf1,UJ];unfold stR;cases TJ:Dn (ael T y) with
 | false=>rfl
 | true =>
  cases he:ael T x with
  | pointer p=>cases p with
   | none=>rfl
   | some a=>cases a with
    | mk b off s=>cases s with
     | some s=>simp only[cM];rfl
     | none =>
      simp only[cM];cases hb:bE H b with
      | none=>rfl
      | some c=>cases c with
       | cells nn tr ty w ro=>cases ro with
        | true=>rfl
        | false =>
         simp only[stB];cases g_:Nat.blt off nn with
         | false=>rfl
         | true =>
          have BY:ij (ael T y)=[ael T y]:=by
           cases hv:ael T y <;> first|rfl|(rw[hv] at TJ;simp[Dn] at TJ)
          have hff:kj [ael T y]=true:=by
           cases hv:ael T y <;> first|rfl|(rw[hv] at TJ;simp[Dn] at TJ)
          have hle:Nat.ble (off+1) nn=true:=g_;have Yz:nV P o T H n=some (.val undef (c9 H b (some (.cells nn (uk tr off (ael T y)) ty w false))) n):=by
           unfold nV;rw[hx];simp only[he,wW,ht,BY,gH,p7,hb,hle,hff];rfl
          rw[OX hg ho (by rw[hx];rfl) ih r T D H n Yz];exact(Dp hd ..).symm
       | _=>rfl
  | _=>rfl
theorem I3{f:FuncId}{c:Call}(hx:o.op=.call c)(hc:c.callee=.value (.func f))(hb:sU P f=true)(T H n):nV P o T H n=some (.ent f (nU T c.args.toList)):=by
 unfold nV;rw[hx];simp only[hc,ael,rS,hb];simp
theorem I4{f:FuncId}{c:Call}(hx:o.op=.call c)(hc:c.callee=.value (.func f)):t8 P o.op=.ef:=by
 rw[hx];obtain⟨ce,a,t⟩:=c;simp only at hc;subst hc;rfl
theorem QR(hg:o.guard=none)(ho:oA G o=true)(hd:iJ N o.dst=.ok g){f:FuncId}{c:Call}(hx:o.op=.call c)(hc:c.callee=.value (.func f))(hb:sU P f=true){aS0}(ha:∀T,aS0 T=nU T c.args.toList)(ih r T D H n):SA k g f aS0 ih r T D H n=de P G N ops o k ih r T D H n:=by
 rw[Dj hg ho (I4 hx hc) ih r T D H n (I3 hx hc hb T H n),SA,ha];cases ih (.fn f (nU T c.args.toList) H n) with
 | none=>rfl
 | some x=>cases x with
  | cd _ _=>rfl
  | fn v H n=>simp only[RO,cM];exact(fZ hd ..).symm
theorem O9(hg:o.guard=none)(ho:oA G o=true)(hd:iJ N o.dst=.no){f:FuncId}{c:Call}(hx:o.op=.call c)(hc:c.callee=.value (.func f))(hb:sU P f=true){aS0}(ha:∀T,aS0 T=nU T c.args.toList)(ih r T D H n):SB k f aS0 ih r T D H n=de P G N ops o k ih r T D H n:=by
 rw[Dj hg ho (I4 hx hc) ih r T D H n (I3 hx hc hb T H n),SB,ha];cases ih (.fn f (nU T c.args.toList) H n) with
 | none=>rfl
 | some x=>cases x with
  | cd _ _=>rfl
  | fn v H n=>simp only[RO,cM];exact(Dp hd ..).symm
end
end
end Go.Proofs.YtghjbimijeinfaaGreatDoor
