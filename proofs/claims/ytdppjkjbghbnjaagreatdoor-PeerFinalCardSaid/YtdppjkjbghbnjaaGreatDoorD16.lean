import Derived.Test.YtdppjkjbghbnjaaGreatDoorD15
set_option maxHeartbeats 4000000
set_option maxRecDepth 100000
set_option linter.all false
namespace Go.Proofs.YtdppjkjbghbnjaaGreatDoor
open Go.RowKit
section code
variable {ν ν':Nu} {P:Program} {G N:Nat} {T T':Tr Value} {a:Act} {H H':AH} {F:HL} {w w':World} {r r':Option Nat} {ih:Task -> Option Rs}
theorem Ext.sub'{n m k:Nat}(h1:Ext ν ν' n m)(hf:Fr ν n k)(hm:m <= k):ν.Le ν':=h1.sub λ i a b=>hf i a (by omega)
theorem yj(w_:kB P G ih){c:Code}(hc:∀ (s:St) e s',je P G ih r N c s=some (e,s') -> jG P G (.code r N c s) (.cd e s')){s s':St}{e:Ex}(h:je P G ih r N (.loop c) s=some (e,s')):jG P G (.loop r N c s) (.cd e s'):=by
 rw[je] at h;split at h
 ·rename_i s1 h1;obtain⟨q1,q2⟩:=hc _ _ _ h1;split at h
  ·rename_i e2 s2 h2;cases h;obtain⟨p1,p2⟩:=w_ _ _ h2;refine⟨by omega,λ ν F a w r' Q hr hs hf hk=>ye ?_⟩;refine q2 ν F a w r' _ hr hs (λ i a b=>hf i a (by omega)) (λ ν' a' w' k1 k2 k3=>?_);have K_:=k1.sub' hf p1;exact p2 ν' F a' w' r' Q (hr.mono K_) k2 (k1.fr hf p1) (λ ν2 a2 w2 g1 g2 g3=>hk ν2 a2 w2 (k1.trans g1) g2 (k3.trans g3))
  ·cases h
 ·rename_i x At;obtain⟨q1,q2⟩:=hc _ _ _ h;refine⟨q1,λ ν F a w r' Q hr hs hf hk=>ye ?_⟩;refine q2 ν F a w r' _ hr hs hf (λ ν' a' w' k1 k2 k3=>?_);have:=hk ν' a' w' k1 k2 k3;cases e with
  | normal=>exact(At _ h).elim
  | exit id=>exact this
  | ret=>exact this
theorem H5{c:Code}{e:Ex}{Q:Exit -> Act -> World -> Prop}{a:Act}(h:B3 c=some e)(hq:Q e.out a w):c.wpIn (Wr r') 0 P Q a w:=by
 unfold B3 at h;split at h
 ·cases h;exact wpIn_ret hq
 ·cases h;exact wpIn_exit hq
 ·cases h
theorem AG{fn:FuncId}{tm:Array Value}{ps:Array Tmp}{aZz bo:Code}{w:World}:(Instr.enterLoop fn tm ps aZz bo none).run P w =
  .ok (w.heap.size+1,[{ target:=.collected w.heap.size,args:=#[] }]) { w with heap:=(w.heap.push (.deferred (some []))).push (.loop { state:=.ready,pending:=none,fn,tmps:=tm,params:=ps,assign:=aZz,body:=bo,defers:=w.heap.size }) }:=by
 unfold Instr.enterLoop;simp only[ace,fl,cD,acd,Array.size_push]
theorem AJ{fn:FuncId}{tm:Array Value}{ps:Array Tmp}{aZz bo:Code}{w:World}{l:Nat}{lp:Loop}(h:w.heap[l]?=some (.loop lp)):(Instr.enterLoop fn tm ps aZz bo (some l)).run P w =
  .ok (w.heap.size,[]) { w with heap:=w.heap.push (.loop { state:=.ready,pending:=none,fn,tmps:=tm,params:=ps,assign:=aZz,body:=bo,defers:=lp.defers }) }:=by
 unfold Instr.enterLoop;simp only[ace,fl,cD,acd,gT h]
theorem ly{l:Nat}{lp:Loop}{o:Obj}(h:w.heap[l]?=some (.loop lp)):(setObj l o).run P w=.ok () { w with heap:=w.heap.setIfInBounds l o }:=by
 unfold setObj;rw[Sem.run.eq_def];simp only[h];rfl
theorem HR.setObj(hH:HR ν H F w){h b K:Nat}{b0 b1:AB}{o':Obj}(hb:b7 H h=some b0)(hw0:HK b0=true)(hw1:HK b1=true)(hν:ν h=some (b,K))(ho:OR ν K b1 o'):HR ν (cX H h (some b1)) F { w with heap:=w.heap.setIfInBounds b o' }:=by
 have iF:=hH.lt hb hν;refine hH.upd hb hw0 hw1 hν (o':=o') ?_ ho (λ k hk=>?_)
 ·show (w.heap.setIfInBounds b o')[b]?=_;rw[Array.getElem?_setIfInBounds_self_of_lt iF]
 ·show (w.heap.setIfInBounds b o')[k]?=_;rw[Array.getElem?_setIfInBounds_ne (Ne.symm hk)]
theorem lX{b:Nat}{o:Obj}:Below 0 w { w with heap:=w.heap.setIfInBounds b o }:=⟨rfl,rfl,rfl,by simp,λ k hk=>by omega⟩
theorem yl{l:Nat}{lp:Loop}(h:w.heap[l]?=some (.loop lp))(hb:lp.state ≠ .busy):(Instr.endLoop l).run P w=.ok lp.pending { w with heap:=w.heap.setIfInBounds l (.loop { lp with state:=.exhausted }) }:=by
 unfold Instr.endLoop;rw[ace,gT h];simp only[acd];rw[if_neg (by simpa using hb)];rw[ace,ly h];rfl
theorem Ey(w_:kB P G ih){g:Operand}{ps:Array Tmp}{aZz bo:Code}{s s':St}{e:Ex}(h:je P G ih r N (.rangeFunc g ps aZz bo) s=some (e,s')):jG P G (.code r N (.rangeFunc g ps aZz bo) s) (.cd e s'):=by
 rw[je.eq_def] at h;simp only at h;split at h
 case h_2=>cases h
 rename_i f first captured hg hk
 split at h
 case h_2=>cases h
 rename_i hB;split at h
 case h_2=>cases h
 rename_i d D H1 n1 RC;split at h
 case h_2=>cases h
 rename_i v H2 n2 Sq;split at h
 case h_2=>cases h
 rename_i st pend T' N' Vs Vd Zz d' hlp;obtain⟨hle,UG⟩:=w_ _ _ Sq;have TK:s.n <= n1:=by
  cases r with
  | none=>simp only[Option.some.injEq,Prod.mk.injEq] at RC;omega
  | some l0 =>
   simp only at RC;split at RC
   ·simp only[Option.some.injEq,Prod.mk.injEq] at RC;omega
   ·cases RC
 have n_:st ≠ .busy:=by
  rintro rfl;simp at h
 have Rq:s'=⟨s.T,D,cX H2 n1 (some (.loop .exhausted pend T' N' Vs Vd Zz d')),n2⟩ /\ ((pend=none /\ e=.normal) \/ ∃c,pend=some c /\ B3 c=some e):=by
  cases st with
  | busy=>exact(n_ rfl).elim
  | _ =>
   cases pend with
   | none=>simp at h;exact⟨h.2.symm,.inl ⟨rfl,h.1.symm⟩⟩
   | some c =>
    simp only at h;split at h
    ·rename_i e1 he;cases h;exact⟨rfl,.inr ⟨c,rfl,he⟩⟩
    ·cases h
 obtain⟨rfl,abb⟩:=Rq;refine⟨by simp only;omega,λ ν F a w r' Q hr hs hf hkk=>?_⟩;simp only at hf hkk;refine wpIn_rangeFunc λ fn _=>?_;have aeS:∃ (l:Nat) (mark:List Deferred) (w1:World) (ν1:Nu),(Instr.enterLoop fn a.tmps ps aZz bo (Wr r').round).run P w=.ok (l,mark) w1 /\ ν1 n1=some (l,0) /\ Ext ν ν1 s.n (n1+1) /\ HR ν1 (cX H1 n1 (some (.loop .ready none s.T N ps aZz bo d))) F w1 /\ Below 0 w w1 /\ DsR ν1 D (mark++a.defers) /\ ν.Le ν1:=by
  cases hr with
  | none =>
   simp only[Option.some.injEq,Prod.mk.injEq] at RC;obtain⟨e1,e2,e3,e4⟩:=RC;subst e1;subst e2;subst e3;subst e4;have Sd:ν s.n=none:=hf _ (aa0 _) (by omega);have hx1:Ext ν (ν.upd s.n w.heap.size 0) s.n (s.n+1):=.upd;have U0:=jX (r:=w.heap.size) (K:=0) Sd;have h1:HR (ν.upd s.n w.heap.size 0) (cX s.H s.n (some (.dfr false))) F { w with heap:=w.heap.push (.deferred (some [])) }:=hs.h.new (K:=0) Sd (b:=.dfr false) (o:=.deferred (some [])) rfl rfl rfl;have hn2:(ν.upd s.n w.heap.size 0) (s.n+1)=none:=by rw[eS (by omega)];exact hf _ (by omega) (by omega)
   have hx2:Ext (ν.upd s.n w.heap.size 0) ((ν.upd s.n w.heap.size 0).upd (s.n+1) (w.heap.size+1) 0) (s.n+1) (s.n+1+1):=.upd;have VP:=jX (r:=w.heap.size+1) (K:=0) hn2;have h2:=h1.new (K:=0) (w':={ w with heap:=(w.heap.push (.deferred (some []))).push (.loop { state:=.ready,pending:=none,fn,tmps:=a.tmps,params:=ps,assign:=aZz,body:=bo,defers:=w.heap.size }) }) hn2 (b:=.loop .ready none s.T N ps aZz bo s.n) (o:=.loop { state:=.ready,pending:=none,fn,tmps:=a.tmps,params:=ps,assign:=aZz,body:=bo,defers:=w.heap.size }) ⟨rfl,rfl,hs.t.mono U0,rfl,rfl,rfl,0,cB⟩ rfl rfl;have IT:({ w with heap:=w.heap.push (.deferred (some [])) }:World).heap.size=w.heap.size+1:=by simp
   rw[IT] at h2;refine⟨w.heap.size+1,_,_,_,AG,cB,hx1.trans hx2,h2,⟨rfl,rfl,rfl,by simp;omega,λ k hk=>by omega⟩,.cons ⟨.coll (b:=w.heap.size) (K:=0) ?_,.nil⟩ ((hs.d.mono U0).mono VP),U0.trans VP⟩;exact VP _ _ cB
  | @some l0 b0 K0 hν0 =>
   simp only at RC;split at RC
   case h_2=>cases RC
   rename_i _ _ _ _ _ _ _ dd UL;simp only[Option.some.injEq,Prod.mk.injEq] at RC;obtain⟨e1,e2,e3,e4⟩:=RC;subst e1;subst e2;subst e3;subst e4;obtain⟨lp,g1,g2,g3,g4,g5,g6,g7,K',g8⟩:=hs.h.loop UL hν0;have Sd:ν s.n=none:=hf _ (aa0 _) (by omega);have U0:=jX (r:=w.heap.size) (K:=0) Sd;have h1:=hs.h.new (K:=0) (w':={ w with heap:=w.heap.push (.loop { state:=.ready,pending:=none,fn,tmps:=a.tmps,params:=ps,assign:=aZz,body:=bo,defers:=lp.defers }) }) Sd (b:=.loop .ready none s.T N ps aZz bo dd) (o:=.loop { state:=.ready,pending:=none,fn,tmps:=a.tmps,params:=ps,assign:=aZz,body:=bo,defers:=lp.defers }) ⟨rfl,rfl,hs.t,rfl,rfl,rfl,K',g8⟩ rfl rfl;refine⟨w.heap.size,_,_,_,AJ g1,cB,.upd,h1,⟨rfl,rfl,rfl,by simp,λ k hk=>by omega⟩,hs.d.mono U0,U0⟩
 obtain⟨l,mark,w1,ν1,g1,g2,g3,g4,g5,g6,g7⟩:=aeS;have hgv:VRi ν (ael s.T g) (a.eval g):=(FE.mk hs.t hs.g:FE ν G N s.T a).ael hk;rw[hg] at hgv;obtain⟨fn',f',c',e',r1,r2,r3⟩:=rE hgv;cases r1;refine⟨l,mark,w1,{ target:=.fn (.func f) c',args:=f'++#[.func (.yield l) #[] #[]] },w1,f,⟨f'.toList++(.func (.yield l) #[] #[]::c'.toList)⟩,w1,g1,?_,λ _ _=>trivial,?_,λ h=>(by cases h),?_⟩
 ·have:=m5 (P:=P) (c:=rangeCall g l) (ty:=0) (ρ:=a.eval) rfl e' w1;rw[this];simp[Act.eval]
 ·show (callFunc f (f'++#[.func (.yield l) #[] #[]]++c')).run P w1=_;rw[iA hB];congr 2;apply Array.ext';simp
 ·have Tb:Fr ν1 (n1+1) n2:=g3.fr hf (by omega);refine jI ((UG ν1 F w1 _ (hs.g.mono g7) Tb g4 ((r2.mono g7).append (.cons (.func_of (.yield g2) .nil .nil) (r3.mono g7)))).mono ?_);rintro en w3 ⟨ν3,v',rfl,k1,k2,k3,k4⟩;have U1:ν3 n1=some (l,0):=k2.sub Tb _ _ g2;obtain⟨lp,q1,q2,q3,q4,q5,q6,q7,K',q8⟩:=k3.loop hlp U1;refine⟨lp.pending,_,yl q1 (by rw[q2];exact n_),?_⟩;have hH3:HR ν3 (cX H2 n1 (some (.loop .exhausted pend T' N' Vs Vd Zz d'))) F { w3 with heap:=w3.heap.setIfInBounds l (.loop { lp with state:=.exhausted }) } :=
   k3.setObj hlp rfl rfl U1 ⟨rfl,q3,q4,q5,q6,q7,K',q8⟩
  have af0:Ext ν ν3 s.n n2:=g3.trans k2;have SI:=hkk ν3 { a with defers:=mark++a.defers } { w3 with heap:=w3.heap.setIfInBounds l (.loop { lp with state:=.exhausted }) } af0 ⟨(hs.g.mono g7).mono (k2.sub Tb),(hs.t.mono g7).mono (k2.sub Tb),g6.mono (k2.sub Tb),hH3⟩ ((g5.trans k4).trans lX);rcases abb with ⟨hp,he⟩|⟨c,hp,he⟩
  ·rw[q3.trans hp] at SI ⊢;subst he;exact SI
  ·rw[q3.trans hp] at SI ⊢;exact H5 he SI
theorem oU(w_:kB P G ih)(hm:P.follows .mixedOrders=true):∀ (c:Code) (s:St) (e:Ex) (s':St),je P G ih r N c s=some (e,s') -> jG P G (.code r N c s) (.cd e s'):=by
 have calm:∀ (c:Code) (s:St) (e:Ex),(∀r' (Q:Exit -> Act -> World -> Prop) a w,Q e.out a w -> c.wpIn (Wr r') 0 P Q a w) -> jG P G (.code r N c s) (.cd e s):=λ c s e h =>
  ⟨aa0 _,λ ν F a w r' Q hr hs hf hk=>h r' Q a w (hk ν a w (.refl _ _) hs (Below.refl _ _))⟩
 intro c
 induction c with
 | skip=>intro s e s' h;rw[je] at h;cases h;exact calm _ _ _ λ r' Q a w hq=>wpIn_skip hq
 | label l=>intro s e s' h;rw[je] at h;cases h;exact calm _ _ _ λ r' Q a w hq=>wpIn_label hq
 | exit id=>intro s e s' h;rw[je] at h;cases h;exact calm _ _ _ λ r' Q a w hq=>wpIn_exit hq
 | ret=>intro s e s' h;rw[je] at h;cases h;exact calm _ _ _ λ r' Q a w hq=>wpIn_ret hq
 | goto l=>intro s e s' h;rw[je] at h;cases h
 | refuse y=>intro s e s' h;rw[je] at h;cases h
 | region id ops draw =>
  intro s e s' h;rw[je.eq_def] at h;simp only at h;split at h
  ·split at h
   ·rename_i s1 h1;cases h;obtain⟨q1,q2⟩:=nX w_ _ _ _ h1;exact⟨q1,λ ν F a w r' Q hr hs hf hk=>wpIn_region_list (q2 ν F a w r' Q hr hs hf hk)⟩
   ·cases h
  ·split at h
   ·rename_i s1 h1;cases h;exact KY w_ hm h1
   ·cases h
 | seq x y WN Yj =>
  intro s e s' h;rw[je] at h;split at h
  ·rename_i s1 h1;obtain⟨q1,q2⟩:=WN _ _ _ h1;obtain⟨p1,p2⟩:=Yj _ _ _ h;refine⟨by omega,λ ν F a w r' Q hr hs hf hk=>wpIn_seq ?_⟩;refine q2 ν F a w r' _ hr hs (λ i a b=>hf i a (by omega)) (λ ν' a' w' k1 k2 k3=>?_);exact p2 ν' F a' w' r' Q (hr.mono (k1.sub' hf p1)) k2 (k1.fr hf p1) (λ ν2 a2 w2 g1 g2 g3=>hk ν2 a2 w2 (k1.trans g1) g2 (k3.trans g3))
  ·rename_i At;obtain⟨q1,q2⟩:=WN _ _ _ h;refine⟨q1,λ ν F a w r' Q hr hs hf hk=>wpIn_seq ?_⟩;refine q2 ν F a w r' _ hr hs hf (λ ν' a' w' k1 k2 k3=>?_);have:=hk ν' a' w' k1 k2 k3;cases e with
   | normal=>exact(At _ h).elim
   | exit id=>exact this
   | ret=>exact this
 | cond c x y WN Yj =>
  intro s e s' h;rw[je] at h;have H_:∀ν F a w b,SR ν G N s F a w -> ael s.T c=.bool b -> a.eval c=.bool b:=λ ν F a w b hs he=>by
   cases c with
   | tmp t =>
    have:=(FE.mk hs.t hs.g:FE ν G N s.T a).ael (x:=.tmp t) rfl;rw[he] at this;exact this.plain_eq rfl
   | const v=>exact he
   | global g=>cases he
   | func f=>cases he
  split at h
  ·rename_i he;obtain⟨q1,q2⟩:=WN _ _ _ h;exact⟨q1,λ ν F a w r' Q hr hs hf hk=>wpIn_cond_true (H_ _ _ _ _ _ hs he) (q2 ν F a w r' Q hr hs hf hk)⟩
  ·rename_i he;obtain⟨q1,q2⟩:=Yj _ _ _ h;exact⟨q1,λ ν F a w r' Q hr hs hf hk=>wpIn_cond_false (H_ _ _ _ _ _ hs he) (q2 ν F a w r' Q hr hs hf hk)⟩
  ·cases h
 | block id c ZK =>
  intro s e s' h;rw[je] at h;split at h
  ·rename_i Uh s1 h1;obtain⟨q1,q2⟩:=ZK _ _ _ h1;split at h
   ·rename_i hid;cases h;have ae3:Uh=id:=ab8 hid;refine⟨q1,λ ν F a w r' Q hr hs hf hk=>wpIn_block ?_⟩;refine q2 ν F a w r' _ hr hs hf (λ ν' a' w' k1 k2 k3=>?_);show (if Uh=id then _ else _);rw[if_pos ae3];exact hk ν' a' w' k1 k2 k3
   ·rename_i hid;cases h;refine⟨q1,λ ν F a w r' Q hr hs hf hk=>wpIn_block ?_⟩;refine q2 ν F a w r' _ hr hs hf (λ ν' a' w' k1 k2 k3=>?_);show (if Uh=id then _ else _);rw[if_neg (λ e=>by subst e;simp at hid)];exact hk ν' a' w' k1 k2 k3
  ·rename_i At;obtain⟨q1,q2⟩:=ZK _ _ _ h;refine⟨q1,λ ν F a w r' Q hr hs hf hk=>wpIn_block ?_⟩;refine q2 ν F a w r' _ hr hs hf (λ ν' a' w' k1 k2 k3=>?_);have:=hk ν' a' w' k1 k2 k3;cases e with
   | normal=>exact this
   | exit Uh=>exact(At _ _ h).elim
   | ret=>exact this
 | loop c ZK =>
  intro s e s' h;obtain⟨q1,q2⟩:=yj w_ (λ s e s' h=>ZK s e s' h) h;exact⟨q1,λ ν F a w r' Q hr hs hf hk=>AE (q2 ν F a w r' Q hr hs hf hk)⟩
 | rangeFunc g ps aZz bo _ _=>intro s e s' h;exact Ey w_ h
 | scope c ZK =>
  intro s e s' h;rw[je] at h;obtain⟨q1,q2⟩:=ZK _ _ _ h;refine⟨q1,λ ν F a w r' Q hr hs hf hk=>ii ?_⟩;refine q2 ν F a w r' _ hr hs hf (λ ν' a' w' k1 k2 k3=>?_);have:=hk ν' a' w' k1 k2 k3;cases e <;> exact this
end code
section fn
variable {ν ν':Nu} {P:Program} {G N:Nat} {T T':Tr Value} {a:Act} {H H':AH} {F:HL} {w w':World} {r r':Option Nat} {ih:Task -> Option Rs}
theorem t1{args j_:List Value}(h:LR ν args j_)(hl:gq args <= N):TRel ν N (mC args) ((⟨j_⟩:Array Value)++Array.replicate (N-(⟨j_⟩:Array Value).size) undef):=by
 rw[ew] at hl;have hlen:=h.length;refine⟨by simp;omega,λ t ht=>?_,λ t ht=>?_⟩
 ·rcases abX t args.length with h1|h1
  ·obtain⟨v',e,q⟩:=h.get (abt h1);refine⟨v',?_,?_⟩
   ·rw[Array.getElem?_append_left (by simp;omega)];simpa using e
   ·unfold mC;rw[lu h1];exact q
  ·refine⟨undef,?_,?_⟩
   ·rw[Array.getElem?_append_right (by simp;omega),Array.getElem?_replicate];rw[if_pos (by simp;omega)]
   ·have:cY (mC args) t=undef:=by
     unfold mC cY;rw[ql];rw[if_pos (aa9 _),dif_neg (by omega)];exact Aq _
    rw[this];exact aau
 ·unfold mC cY;rw[ql,if_pos (aa9 _),dif_neg (by omega)];exact Aq _
def H6(tm:Array Value):ResultVar -> Sem Value
 | .tmp t=>pure (tm.getD t undef)
 | .cell ad t=>do loadVar t (<- asAddr (tm.getD ad undef))
theorem oV(hE:FE ν G N T a)(hH:HR ν H F w):∀ {rs:List ResultVar} {vs:List Value},oN P T H rs=some vs -> ∃No,LR ν vs No /\ (rs.mapM (H6 a.tmps)).run P w=.ok No w
 | [],vs,h=>by rw[oN] at h;cases h;exact⟨[],.nil,rfl⟩
 | .tmp t::rs,vs,h=>by
  rw[oN] at h;split at h
  ·rename_i vs0 h0;cases h;obtain⟨No,q1,q2⟩:=oV hE hH h0;have hv:VRi ν (cY T t) (a.tmps.getD t undef):=hE.ael (x:=.tmp t) rfl
   haveI:=ja
   refine⟨_,.cons hv q1,?_⟩;have h1:(H6 a.tmps (.tmp t)).run P w=.ok (a.tmps.getD t undef) w:=rfl;rw[List.mapM_cons,ace,h1];simp only[acd];rw[ace,q2];rfl
  ·cases h
 | .cell ad t::rs,vs,h=>by
  rw[oN] at h;split at h
  ·rename_i Z0 he;split at h
   ·rename_i v vs0 hv h0;cases h;obtain⟨No,q1,q2⟩:=oV hE hH h0;have hp:VRi ν (cY T ad) (a.tmps.getD ad undef):=hE.ael (x:=.tmp ad) rfl;rw[he] at hp;generalize hu:a.tmps.getD ad undef=u at hp;have hp2:=hp;cases hp with
    | atom _ h=>simp[cJ] at h
    | ptr o hν =>
     obtain⟨v',r1,r2⟩:=xY (P:=P) (t:=t) hH hp2 hv
     haveI:=ja
     refine⟨_,.cons r1 q1,?_⟩;have h1:(H6 a.tmps (.cell ad t)).run P w=.ok v' w:=by
      show ((asAddr (a.tmps.getD ad undef)) >>= λ x=>loadVar t x).run P w=_;rw[hu,ace];exact r2
     rw[List.mapM_cons,ace,h1];simp only[acd];rw[ace,q2];rfl
   ·cases h
  ·cases h
theorem rJ{fn:Func}{vs:List Value}(hE:FE ν G N T a)(hH:HR ν H F w)(h:oN P T H fn.results.toList=some vs):∃v',VRi ν (xL vs) v' /\ (results fn a.tmps).run P w=.ok v' w:=by
 obtain⟨No,q1,q2⟩:=oV hE hH h
 haveI:=ja
 have h5:(fn.results.mapM (H6 a.tmps)).run P w=.ok ⟨No⟩ w:=by
  rw[Array.mapM_eq_mapM_toList,<- bind_pure_comp,ace,q2];rfl
 have h6:∀v',(∀W,(pure (if h:(⟨No⟩:Array Value).size=1 then (⟨No⟩:Array Value)[0] else .tuple ⟨No⟩):Sem Value).run P W=.ok v' W) -> (results fn a.tmps).run P w=.ok v' w:=λ v' hv=>by
  have:results fn a.tmps=(fn.results.mapM (H6 a.tmps) >>= λ vs=>pure (if h:vs.size=1 then vs[0] else .tuple vs)):=rfl;rw[this,ace,h5];exact hv w
 cases q1 with
 | nil=>exact⟨_,.tuple_of .nil,h6 _ λ W=>rfl⟩
 | cons h1 h2 =>
  cases h2 with
  | nil=>exact⟨_,h1,h6 _ λ W=>rfl⟩
  | cons h3 h4=>exact⟨_,.tuple_of (.cons h1 (.cons h3 h4)),h6 _ λ W=>rfl⟩
theorem lY(w_:kB P G ih){fn:Func}{tm:Array Value}{R:Ending -> World -> Prop}:∀ {D:List Deferred} {H:AH} {n:Nat} {H':AH} {n':Nat},ko P ih D H n=some (H',n') -> n <= n' /\ ∀ν D' w,Glb ν G -> DsR ν D D' -> HR ν H F w -> Fr ν n n' ->
  (∀ν' w',Ext ν ν' n n' -> HR ν' H' F w' -> Below 0 w w' -> LeavesInM (Wr none) 0 P fn tm R [] .returning w') -> LeavesInM (Wr none) 0 P fn tm R D' .returning w
 | [],H,n,H',n',h=>by
  rw[ko] at h;cases h;exact⟨aa0 _,λ ν D' w hg hd hH hf hk=>by cases hd;exact hk ν w (.refl _ _) hH (Below.refl _ _)⟩
 | d::ds,H,n,H',n',h=>by
  rw[ko] at h;split at h
  ·rename_i hd ht;split at h
   ·rename_i hb;obtain⟨q1,q2⟩:=lY w_ (fn:=fn) (tm:=tm) (R:=R) h;refine⟨q1,λ ν D' w hg hds hH hf hk=>?_⟩;cases hds with
    | @cons _ d' _ l' hdr hl =>
    obtain⟨YY,hda⟩:=hdr;rw[ht] at YY;generalize htt:d'.target=tt at YY;cases YY with
    | @coll _ b K hν =>
    obtain⟨rr,K',o,g1,g2,g3⟩:=hH.blk _ _ hb;rw[hν] at g1;cases g1;unfold OR at g3;split at g3
    ·rename_i e1;cases e1
    ·rename_i e1;cases e1
    ·rename_i e1;cases e1
    ·rename_i sh cc e1;cases e1;subst g3;refine⟨by simp,.inl ⟨b,{ w with heap:=w.heap.setIfInBounds b (.deferred none) },htt,?_,?_⟩⟩
     ·unfold Instr.takeDeferred;rw[ace];have h1:(getObj b).run P w=.ok (.deferred (some [])) w:=by
       unfold getObj;rw[Sem.run.eq_def];simp only[g2];rfl
      rw[h1];simp only[acd];rw[ace];have h2:(setObj b (.deferred none)).run P w=.ok () { w with heap:=w.heap.setIfInBounds b (.deferred none) }:=by
       unfold setObj;rw[Sem.run.eq_def];simp only[g2];rfl
      rw[h2];rfl
     ·have h3:HR ν (cX H hd (some (.dfr true))) F { w with heap:=w.heap.setIfInBounds b (.deferred none) }:=hH.setObj hb rfl rfl hν (b1:=.dfr true) (o':=.deferred none) rfl;exact q2 ν l' _ hg hl h3 hf (λ ν' w' k1 k2 k3=>hk ν' w' k1 k2 (lX.trans k3))
    ·exact g3.elim
   ·cases h
  ·rename_i f captured ht;split at h
   case h_2=>cases h
   rename_i hB;split at h
   case h_2=>cases h
   rename_i v H1 n1 hc;obtain⟨p1,p2⟩:=w_ _ _ hc;obtain⟨q1,q2⟩:=lY w_ (fn:=fn) (tm:=tm) (R:=R) h;refine⟨by omega,λ ν D' w hg hds hH hf hk=>?_⟩;cases hds with
   | @cons _ d' _ l' hdr hl =>
   obtain⟨YY,hda⟩:=hdr;rw[ht] at YY;generalize htt:d'.target=tt at YY;cases YY with
   | @fn _ f' _ c' XV Tb =>
   cases XV;refine⟨by simp,.inr ⟨λ h=>(by cases h),.func f,c',f,⟨d'.args.toList++c'.toList⟩,htt,?_,λ _ _=>trivial,?_⟩⟩
   ·rw[htt];show (callFunc f (d'.args++c')).run P w=_;rw[iA hB];congr 2;apply Array.ext';simp
   ·refine(p2 ν F w _ hg (λ i a b=>hf i a (by omega)) hH (hda.append Tb)).mono ?_;rintro en u' w2 ⟨rfl,ν2,v',rfl,k1,k2,k3,k4⟩;have K_:=k2.sub' hf q1;show LeavesInM (Wr none) 0 P fn tm R l' (settle .returning) w2;exact q2 ν2 l' w2 (hg.mono K_) (hl.mono K_) k3 (k2.fr hf q1) (λ ν3 w3 g1 g2 g3=>hk ν3 w3 (k2.trans g1) g2 (k4.trans g3))
  ·cases h
theorem ym{f:FuncId}{fn:Func}{c:Code}(h:rp P f=some (fn,c)):P.funcs[f]?=some fn /\ fn.body=some c:=by
 unfold rp at h;split at h
 ·rename_i fn' hf;split at h
  ·rename_i c' hc;cases h;exact⟨hf,hc⟩
  ·cases h
 ·cases h
theorem Pn(w_:kB P G ih)(hm:P.follows .mixedOrders=true){f:FuncId}{args:List Value}{H:AH}{n:Nat}{res:Rs}(h:gS P G ih (.fn f args H n)=some res):jG P G (.fn f args H n) res:=by
 simp only[gS] at h;split at h
 case h_2=>cases h
 rename_i fn c hb;split at h
 case h_2=>cases h
 rename_i hle;obtain⟨b1,b2⟩:=ym hb;have fin:∀e s H2 n2 vs,(e=.normal \/ e=.ret) -> je P G ih none fn.ntmps c ⟨mC args,[],H,n⟩=some (e,s) -> ko P ih s.D s.H s.n=some (H2,n2) -> oN P s.T H2 fn.results.toList=some vs -> jG P G (.fn f args H n) (.fn (xL vs) H2 n2):=by
  intro e s H2 n2 vs he Uc VN Vg;obtain⟨q1,q2⟩:=oU w_ hm _ _ _ _ Uc;simp only at q1 q2;have YJ:=(lY (F:=[]) (fn:=fn) (tm:=#[]) (R:=λ _ _=>True) w_ VN).1;refine⟨by omega,λ ν F w j_ hg hf hH hl=>?_⟩;refine callsIn_wide.1 (callsIn_of_wp_marks (F:=Fence.wide) (n:=0) b1 b2 trivial ?_);have hlen:=hl.length;refine q2 ν F _ w none _ .none ⟨hg,t1 hl (bW hle),.nil,hH⟩ (λ i a b=>hf i a (by omega)) (λ ν' a' w' k1 k2 k3=>?_);have K_:=k1.sub' hf YJ;have aeM:=(lY (F:=F) (fn:=fn) (tm:=a'.tmps) (R:=HV ν (xL vs) n n2 H2 F w) w_ VN).2 ν' a'.defers w' k2.g k2.d k2.h (k1.fr hf YJ) (λ ν2 w2 g1 g2 g3=>by
   have XM:=g1.sub (k1.fr hf YJ);obtain⟨v',r1,r2⟩:=rJ (G:=G) (fn:=fn) (a:=a') (FE.mk (k2.t.mono XM) (k2.g.mono XM)) g2 Vg;exact⟨v',r2,ν2,v',rfl,r1,k1.trans g1,g2,k3.trans g3⟩)
  rcases he with rfl|rfl <;> exact aeM
 split at h
 ·cases h
 ·rename_i e s At Uc;split at h
  ·rename_i H2 n2 VN;split at h
   ·rename_i vs Vg;cases h;cases e with
    | normal=>exact fin _ _ _ _ _ (.inl rfl) Uc VN Vg
    | ret=>exact fin _ _ _ _ _ (.inr rfl) Uc VN Vg
    | exit id=>first|exact(At _ _ rfl).elim|exact(At _ rfl).elim|exact(At _ _).elim
   ·cases h
  ·cases h
 ·cases h
theorem Ez{b:Nat}{lp:Loop}(h:w.heap[b]?=some (.loop lp))(hs:lp.state=.ready):(Instr.beginRound b).run P w=.ok () { w with heap:=w.heap.setIfInBounds b (.loop { lp with state:=.busy }) }:=by
 unfold Instr.beginRound;rw[ace,gT h];simp only[acd];rw[ace,ly h];simp only[acd,hs];rfl
theorem KZ{b:Nat}{lp:Loop}{j:Option Code}(h:w.heap[b]?=some (.loop lp)):(Instr.endRound b j).run P w=.ok (.bool j.isNone) { w with heap:=w.heap.setIfInBounds b (.loop { lp with state:=if j.isNone then .ready else .done,pending:=j }) }:=by
 unfold Instr.endRound;rw[ace,gT h];simp only[acd];rw[ace,ly h];rfl
def Qj:Ex -> Option Code
 | .normal=>none
 | .ret=>some .ret
 | .exit id=>some (.exit id)
theorem vq{b:Nat}{R:Ending -> World -> Prop}{e:Ex}(h:∃v w',(Instr.endRound b (Qj e)).run P w=.ok v w' /\ R (.returned v) w'):roundPost P b R e.out a w:=by
 cases e <;> exact h
theorem Ny(w_:kB P G ih)(hm:P.follows .mixedOrders=true){l:Nat}{T:Tr Value}{N:Nat}{aZz bo:Code}{H:AH}{n:Nat}{res:Rs}(h:gS P G ih (.rnd l T N aZz bo H n)=some res):jG P G (.rnd l T N aZz bo H n) res:=by
 simp only[gS] at h;split at h
 case h_2=>cases h
 rename_i s1 h1;split at h
 case h_2=>cases h
 rename_i pend T' N' ps Vd Zz d W8 YZ;split at h
 case h_2=>cases h
 rename_i e s2 h2;split at h
 case h_2=>cases h
 rename_i st2 agL T2 N2 ps2 as2 bo2 d2 RX;obtain⟨q1,q2⟩:=oU w_ hm _ _ _ _ h1;obtain⟨p1,p2⟩:=oU w_ hm _ _ _ _ h2;simp only at q1 q2 p1 p2;have S8:res=.fn (.bool (Qj e).isNone) (cX s2.H l (some (.loop (if (Qj e).isNone then .ready else .done) (Qj e) T2 N2 ps2 as2 bo2 d2))) s2.n:=by
  cases e <;> (cases h;rfl)
 subst S8;refine⟨by omega,λ ν F w b K tm f r' hg hν hT hf hH=>?_⟩;refine roundIn_of_wpIn trivial ?_;show aZz.wpIn (Wr (some b)) 0 P _ _ _;refine q2 ν F _ w (some b) _ (.some hν) ⟨hg,hT,.nil,hH⟩ (λ i x y=>hf i x (by omega)) (λ ν1 a1 w1 k1 k2 k3=>?_);have aaS:=k1.sub' hf p1;have WQ:=aaS _ _ hν;obtain⟨lp,g1,g2,g3,g4,g5,g6,g7,K',g8⟩:=k2.h.loop W8 WQ;refine⟨_,Ez g1 g2,?_⟩;show bo.wpIn (Wr (some b)) 0 P _ _ _;have hH1:HR ν1 (cX s1.H l (some (.loop .busy pend T' N' ps Vd Zz d))) F { w1 with heap:=w1.heap.setIfInBounds b (.loop { lp with state:=.busy }) }:=k2.h.setObj W8 rfl rfl WQ ⟨rfl,g3,g4,g5,g6,g7,K',g8⟩;have hd:DsR ν1 [] a1.defers:=by have:=k2.d;rw[YZ] at this;exact this
 refine p2 ν1 F a1 _ (some b) _ (.some WQ) ⟨k2.g,k2.t,hd,hH1⟩ (k1.fr hf p1) (λ ν2 a2 w2 j1 j2 j3=>?_);have hν2:=(j1.sub (k1.fr hf p1)) _ _ WQ;obtain⟨lp2,u1,u2,u3,u4,u5,u6,u7,K2,u8⟩:=j2.h.loop RX hν2;refine vq ⟨_,_,KZ u1,ν2,_,rfl,.atom _ rfl,k1.trans j1,?_,((k3.trans lX).trans j3).trans lX⟩;exact j2.h.setObj RX rfl rfl hν2 ⟨rfl,rfl,u4,u5,u6,u7,K2,u8⟩
theorem lZ{ops:Array Oper}{c₀:Frame}{cs:List Frame}(hc:c₀.mode=.returning):∀ (rest:List Oper) (k:Nat) (s s':St),ops.toList.drop k=rest -> mX P G N ops rest s=some s' -> s.n <= s'.n /\ ∀ν F a w (Q:Exit -> Act -> List Frame -> World -> Prop),SR ν G N s F a w -> Fr ν s.n s'.n ->
  (∀ν' a' w',Ext ν ν' s.n s'.n -> SR ν' G N s' F a' w' -> Below 0 w w' -> Q .normal a' (c₀::cs) w') -> wpOpsSIn (Wr none) 0 P ops Q (List.range' k rest.length) a (c₀::cs) w
 | [],k,s,s',hk,h=>by
  rw[mX] at h;cases h;exact⟨aa0 _,λ ν F a w Q hs hf hq=>hq ν a w (.refl _ _) hs (Below.refl _ _)⟩
 | o::rest,k,s,s',hk,h=>by
  have iF:k<ops.toList.length:=by
   rcases abX k ops.toList.length with e|e
   ·exact e
   ·rw[List.drop_eq_nil_of_le e] at hk;cases hk
  have TZ:=hk;rw[List.drop_eq_getElem_cons iF] at TZ;simp only[List.cons.injEq] at TZ;obtain⟨ho,VG⟩:=TZ;have DO:ops[k]?=some o:=by
   rw[Array.getElem?_eq_getElem (by simpa using iF)];simpa using ho
  rw[mX] at h;split at h
  ·cases h
  ·rename_i hw;split at h
   case h_2=>cases h
   rename_i T1 hp;obtain⟨h1,h2⟩:=lZ hc rest (k+1) _ _ VG h;refine⟨h1,λ ν F a w Q hs hf hq=>?_⟩;rw[abr,List.range'_succ,wpOpsSIn];simp only[DO];refine⟨λ _ _=>trivial,?_⟩;rw[if_neg (by rw[j5 hs.t hw];simp)];exact h2 ν F _ w Q ⟨hs.g,hs.t.put aau hp,by rw[fK];exact hs.d,hs.h⟩ hf hq
  ·rename_i hw;split at h
   ·rename_i v H1 n1 n_;split at h
    case h_2=>cases h
    rename_i T1 hp;obtain⟨h1,h2⟩:=lZ hc rest (k+1) _ _ VG h;simp only at h1 h2;have hle:=vk n_;refine⟨by omega,λ ν F a w Q hs hf hq=>?_⟩;rw[abr,List.range'_succ,wpOpsSIn];simp only[DO];refine⟨λ _ _=>trivial,?_⟩;rw[if_pos (j5 hs.t hw)];obtain⟨ν',v',w',q,e1,e2,e3,e4,e5,e6⟩:=lW hs.op hs.h n_ (λ v H' n' e=>by cases e;exact λ i x y=>hf i x (by omega));have K_:=e4.sub' hf h1;have SI:=h2 ν' F (a.put o.dst v') w' Q ⟨hs.g.mono K_,(hs.t.mono K_).put e3 hp,by rw[fK];exact hs.d.mono K_,e5⟩ (e4.fr hf h1) (λ ν2 a2 w2 g1 g2 g3=>hq ν2 a2 w2 (e4.trans g1) g2 (e6.trans g3));rw[e1];rcases e2 with rfl|⟨rfl,rfl⟩
    ·exact SI
    ·exact SI
   ·rename_i n_;split at h
    case h_2=>cases h
    rename_i T1 hp;obtain⟨h1,h2⟩:=lZ hc rest (k+1) _ _ VG h;refine⟨h1,λ ν F a w Q hs hf hq=>?_⟩;rw[abr,List.range'_succ,wpOpsSIn];simp only[DO];refine⟨λ _ _=>trivial,?_⟩;rw[if_pos (j5 hs.t hw)];have e1:=lW hs.op hs.h n_ (λ v H' n' e=>by cases e);rw[show (execOp a.eval o).run P w=.ok .recover w from e1];have WX:recoverD (c₀::cs)=none:=by simp[recoverD,hc]
    simp only[WX];exact h2 ν F _ w Q ⟨hs.g,hs.t.put (.atom _ rfl) hp,by rw[fK];exact hs.d,hs.h⟩ hf hq
   ·cases h
theorem Nz(w_:kB P G ih)(hm:P.follows .mixedOrders=true){c₀:Frame}{cs:List Frame}(hc:c₀.mode=.returning):∀ (c:Code) (s:St) (e:Ex) (s':St),HC P G ih N c s=some (e,s') -> s.n <= s'.n /\ ∀ν F a w (Q:Exit -> Act -> List Frame -> World -> Prop),SR ν G N s F a w -> Fr ν s.n s'.n ->
  (∀ν' a' w',Ext ν ν' s.n s'.n -> SR ν' G N s' F a' w' -> Below 0 w w' -> Q e.out a' (c₀::cs) w') -> c.wpSIn (Wr none) 0 P Q a (c₀::cs) w:=by
 have plain:∀ (c:Code) (s:St) (e:Ex) (s':St),je P G ih none N c s=some (e,s') -> s.n <= s'.n /\ ∀ν F a w (Q:Exit -> Act -> List Frame -> World -> Prop),SR ν G N s F a w -> Fr ν s.n s'.n ->
  (∀ν' a' w',Ext ν ν' s.n s'.n -> SR ν' G N s' F a' w' -> Below 0 w w' -> Q e.out a' (c₀::cs) w') -> c.wpSIn (Wr none) 0 P Q a (c₀::cs) w:=λ c s e s' h=>by
  obtain⟨q1,q2⟩:=oU w_ hm _ _ _ _ h;exact⟨q1,λ ν F a w Q hs hf hq=>wpSIn_of_wpIn rfl (q2 ν F a w none _ .none hs hf hq)⟩
 intro c
 induction c with
 | seq x y WN Yj =>
  intro s e s' h;rw[HC] at h;split at h
  ·rename_i s1 h1;obtain⟨q1,q2⟩:=WN _ _ _ h1;obtain⟨p1,p2⟩:=Yj _ _ _ h;refine⟨by omega,λ ν F a w Q hs hf hk=>wpSIn_seq ?_⟩;refine q2 ν F a w _ hs (λ i a b=>hf i a (by omega)) (λ ν' a' w' k1 k2 k3=>?_);exact p2 ν' F a' w' Q k2 (k1.fr hf p1) (λ ν2 a2 w2 g1 g2 g3=>hk ν2 a2 w2 (k1.trans g1) g2 (k3.trans g3))
  ·rename_i At;obtain⟨q1,q2⟩:=WN _ _ _ h;refine⟨q1,λ ν F a w Q hs hf hk=>wpSIn_seq ?_⟩;refine q2 ν F a w _ hs hf (λ ν' a' w' k1 k2 k3=>?_);have:=hk ν' a' w' k1 k2 k3;cases e with
   | normal=>exact(At _ h).elim
   | exit id=>exact this
   | ret=>exact this
 | cond c x y WN Yj =>
  intro s e s' h;rw[HC] at h;have H_:∀ν F a w b,SR ν G N s F a w -> ael s.T c=.bool b -> a.eval c=.bool b:=λ ν F a w b hs he=>by
   cases c with
   | tmp t =>
    have:=(FE.mk hs.t hs.g:FE ν G N s.T a).ael (x:=.tmp t) rfl;rw[he] at this;exact this.plain_eq rfl
   | const v=>exact he
   | global g=>cases he
   | func f=>cases he
  split at h
  ·rename_i he;obtain⟨q1,q2⟩:=WN _ _ _ h;exact⟨q1,λ ν F a w Q hs hf hk=>wpSIn_cond (H_ _ _ _ _ _ hs he) (q2 ν F a w Q hs hf hk)⟩
  ·rename_i he;obtain⟨q1,q2⟩:=Yj _ _ _ h;exact⟨q1,λ ν F a w Q hs hf hk=>wpSIn_cond (H_ _ _ _ _ _ hs he) (q2 ν F a w Q hs hf hk)⟩
  ·cases h
 | region id ops draw =>
  intro s e s' h;cases draw with
  | true=>rw[HC] at h;exact plain _ _ _ _ h;all_goals simp
  | false =>
   rw[HC] at h;split at h
   ·rename_i s1 h1;cases h;obtain⟨q1,q2⟩:=lZ hc _ 0 _ _ (by simp) h1;refine⟨q1,λ ν F a w Q hs hf hk=>wpSIn_region ?_⟩;have:=q2 ν F a w Q hs hf hk;rw[List.range_eq_range'];simpa using this
   ·split at h
    ·rename_i x h1;cases h;exact plain _ _ _ _ h1
    ·cases h
 | _=>intro s e s' h;rw[HC] at h;exact plain _ _ _ _ h;all_goals simp
theorem NA(w_:kB P G ih)(hm:P.follows .mixedOrders=true){f:FuncId}{args:List Value}{H:AH}{n:Nat}{res:Rs}(h:gS P G ih (.dfn f args H n)=some res):jG P G (.dfn f args H n) res:=by
 simp only[gS] at h;split at h
 case h_2=>cases h
 rename_i fn c hb;split at h
 case h_2=>cases h
 rename_i hle;obtain⟨b1,b2⟩:=ym hb;split at h
 ·cases h
 ·rename_i e s At Uc;split at h
  ·rename_i hd;split at h
   ·rename_i vs Vg;cases h;have hq:∀ (c₀:Frame) (cs:List Frame),c₀.mode=.returning -> _:=λ c₀ cs hc=>Nz (c₀:=c₀) (cs:=cs) w_ hm hc _ _ _ _ Uc;have hn:n <= s.n:=(hq { (default:Frame) with mode:=.returning } [] rfl).1;refine⟨hn,λ ν F w j_ hg hf hH hl=>?_⟩;refine callsDIn_of_wpSIn b1 b2 trivial (λ c₀ cs hc=>?_);refine(hq c₀ cs hc).2 ν F _ w _ ⟨hg,t1 hl (bW hle),.nil,hH⟩ hf (λ ν' a' w' k1 k2 k3=>?_);have hdd:a'.defers=[]:=by
     have:=k2.d;rw[hd] at this;generalize a'.defers=q at this;cases this;rfl
    obtain⟨v',r1,r2⟩:=rJ (G:=G) (fn:=fn) (a:=a') (FE.mk k2.t k2.g) k2.h Vg;have hcc:c₀::cs={ c₀ with mode:=.returning }::cs:=by rw[<- hc]
    have SI:a'.defers=[] /\ ∃u',c₀::cs={ c₀ with mode:=u' }::cs /\ ∃v,(results fn a'.tmps).run P w'=.ok v w' /\ (u'=.returning /\ HV ν (xL vs) n s.n s.H F w (.returned v) w') :=
     ⟨hdd,.returning,hcc,v',r2,rfl,ν',v',rfl,r1,k1,k2.h,k3⟩
    cases e with
    | normal=>exact SI
    | ret=>exact SI
    | exit id=>first|exact(At _ _ rfl).elim|exact(At _ rfl).elim|exact(At _ _).elim
   ·cases h
  ·cases h
 ·cases h
theorem H7(w_:kB P G ih)(hm:P.follows .mixedOrders=true):kB P G (gS P G ih):=by
 intro t res h;cases t with
 | code r N c s =>
  simp only[gS] at h;split at h
  ·rename_i h1;cases h;exact oU w_ hm _ _ _ _ h1
  ·cases h
 | loop r N c s =>
  simp only[gS] at h;split at h
  ·rename_i h1;cases h;exact yj w_ (λ s e s' h=>oU w_ hm _ _ _ _ h) h1
  ·cases h
 | fn f args H n=>exact Pn w_ hm h
 | rnd l T N aZz bo H n=>exact Ny w_ hm h
 | dfn f args H n=>exact NA w_ hm h
theorem B9(hm:P.follows .mixedOrders=true):∀k,kB P G (HD P G k)
 | 0=>λ t res h=>by rw[HD] at h;cases h
 | k+1=>by
  have:=H7 (B9 hm k) hm;intro t res h;rw[HD] at h;exact this t res h
end fn
noncomputable section
inductive CzV where|mk (f:Tr Value -> Value)
inductive CzS where|mk (f:Value -> Tr Value -> Tr Value)
abbrev Ih:=Task -> Option Rs
inductive CzR where|mk (f:Ih -> Option Nat -> Tr Value -> List Deferred -> AH -> Nat -> Option St)
inductive CzC where|mk (f:Ih -> Option Nat -> Tr Value -> List Deferred -> AH -> Nat -> Option (Ex × St))
inductive CzF where|mk (f:Ih -> List Value -> AH -> Nat -> Option Rs)
inductive CzA where|mk (f:Tr Value -> List Value)
def CzV.f:CzV -> Tr Value -> Value | .mk f=>f
def CzS.f:CzS -> Value -> Tr Value -> Tr Value | .mk f=>f
def CzR.f:CzR -> Ih -> Option Nat -> Tr Value -> List Deferred -> AH -> Nat -> Option St | .mk f=>f
def CzC.f:CzC -> Ih -> Option Nat -> Tr Value -> List Deferred -> AH -> Nat -> Option (Ex × St) | .mk f=>f
def CzF.f:CzF -> Ih -> List Value -> AH -> Nat -> Option Rs | .mk f=>f
def CzA.f:CzA -> Tr Value -> List Value | .mk f=>f
def eV{α:Type}(v:Value)(x:Value -> α):α:=match v with
 | .bool b=>x (.bool b)
 | .int k n=>x (.int k n)
 | .float k b=>x (.float k b)
 | .complex k a b=>x (.complex k a b)
 | .string s=>x (.string s)
 | .pointer a=>x (.pointer a)
 | .slice a l c=>x (.slice a l c)
 | .map r=>x (.map r)
 | .chan r=>x (.chan r)
 | .func f a c=>x (.func f a c)
 | .nilFunc=>x .nilFunc
 | .iface t v=>x (.iface t v)
 | .nilIface=>x .nilIface
 | .agg c=>x (.agg c)
 | .tuple c=>x (.tuple c)
theorem cL{α:Type}(v:Value)(x:Value -> α):eV v x=x v:=by cases v <;> rfl
def AK{α:Type}(l:List Value):(List Value -> α) -> α:=List.rec (motive:=λ _=>(List Value -> α) -> α) (λ x=>x []) (λ v _ ih x=>eV v λ v=>ih λ l=>x (v::l)) l
theorem t2{α:Type}:∀ (l:List Value) (x:List Value -> α),AK l x=x l
 | [],x=>rfl
 | v::l,x=>by
  show eV v (λ v=>AK l λ l=>x (v::l))=_;rw[cL,t2 l]
def vt:List Bool -> CzV
 | []=>.mk λ T=>Tr.rec (motive:=λ _=>Value) undef (λ v _ _ _ _=>v) T
 | b::p=>match vt p with
  | .mk f=>match b with
   | true=>.mk λ T=>Tr.rec (motive:=λ _=>Value) undef (λ _ _ r _ _=>f r) T
   | false=>.mk λ T=>Tr.rec (motive:=λ _=>Value) undef (λ _ l _ _ _=>f l) T
theorem qm:∀ (p:List Bool) (T:Tr Value),(vt p).f T=fW undef p T
 | [],T=>by cases T <;> rfl
 | b::p,T=>by
  have ih:=qm p;cases h:vt p with
  | mk f =>
   rw[h] at ih;cases b <;> simp only[vt,h,CzV.f] <;> cases T <;> first|rfl|exact ih _
def AL:List Bool -> CzS
 | []=>.mk λ x T=>Tr.rec (motive:=λ _=>Tr Value) (.nd x .lf .lf) (λ _ l r _ _=>.nd x l r) T
 | b::p=>match AL p with
  | .mk f=>match b with
   | true=>.mk λ x T=>Tr.rec (motive:=λ _=>Tr Value) (.nd undef .lf (f x .lf)) (λ v l r _ _=>.nd v l (f x r)) T
   | false=>.mk λ x T=>Tr.rec (motive:=λ _=>Tr Value) (.nd undef (f x .lf) .lf) (λ v l r _ _=>.nd v (f x l) r) T
theorem Ca(x:Value):∀ (p:List Bool) (T:Tr Value),(AL p).f x T=dW undef x p T
 | [],T=>by cases T <;> rfl
 | b::p,T=>by
  have ih:=Ca x p;cases h:AL p with
  | mk f =>
   rw[h] at ih;simp only[CzS.f] at ih;cases b <;> simp only[AL,h,CzS.f] <;> cases T <;> simp only[ih] <;> rfl
def cv:Operand -> CzV
 | .tmp t=>vt (pth t)
 | .const v=>.mk λ _=>v
 | .global g=>.mk λ _=>.pointer (some ⟨g,0,none⟩)
 | .func f=>.mk λ _=>.func (.func f) #[] #[]
theorem Mg(x:Operand)(T:Tr Value):(cv x).f T=ael T x:=by
 cases x with
 | tmp t=>exact qm _ _
 | const v=>rfl
 | global g=>rfl
 | func f=>rfl
def ca:List Operand -> CzA
 | []=>.mk λ _=>[]
 | x::l=>match cv x,ca l with
  | .mk f,.mk g=>.mk λ T=>f T::g T
theorem Mh:∀ (l:List Operand) (T:Tr Value),(ca l).f T=mU T l
 | [],T=>rfl
 | x::l,T=>by
  have h1:=Mg x T;have h2:=Mh l T;cases hx:cv x with
  | mk f=>cases hl:ca l with
   | mk g =>
    rw[hx] at h1;rw[hl] at h2;simp only[CzV.f] at h1;simp only[CzA.f] at h2;simp only[ca,hx,hl,CzA.f,mU,h1,h2]
inductive CzD where
 | no
 | ok (f:Value -> Tr Value -> Tr Value)
 | bad
def iB(N:Nat):Option Tmp -> CzD
 | none=>.no
 | some d=>match Nat.blt d N with
  | true=>match AL (pth d) with
   | .mk f=>.ok f
  | false=>.bad
theorem Cb{N:Nat}{d:Option Tmp}{f}(h:iB N d=.ok f)(v:Value)(T:Tr Value):fq N d v T=some (f v T):=by
 cases d with
 | none=>simp[iB] at h
 | some d =>
  simp only[iB] at h;cases hb:Nat.blt d N <;> rw[hb] at h
  ·simp at h
  ·cases hs:AL (pth d) with
   | mk g =>
    simp only[hs,CzD.ok.injEq] at h;subst h;have:=Ca v (pth d) T;rw[hs] at this;simp only[CzS.f] at this;simp only[fq,hb,this];rfl
theorem Cc{N:Nat}{d:Option Tmp}(h:iB N d=.no)(v:Value)(T:Tr Value):fq N d v T=some T:=by
 cases d with
 | none=>rfl
 | some d =>
  simp only[iB] at h;cases hb:Nat.blt d N <;> rw[hb] at h
  ·simp at h
  ·cases hs:AL (pth d) with
   | mk g=>simp[hs] at h
def da(P:Program)(G N:Nat)(ops:Array Oper)(o:Oper)(k:Ih -> Option Nat -> Tr Value -> List Deferred -> AH -> Nat -> Option St)(ih:Ih)(r:Option Nat)(T:Tr Value)(D:List Deferred)(H:AH)(n:Nat):Option St:=match eR ops o T with
 | none=>none
 | some false=>match fq N o.dst undef T with
  | some T=>k ih r T D H n
  | none=>none
 | some true=>match jV P G ih r o T H n with
  | none=>none
  | some (.val v H n)=>eV v λ v=>match fq N o.dst v T with
   | some T=>k ih r T D H n
   | none=>none
  | some (.dfr d)=>match fq N o.dst undef T with
   | some T=>k ih r T (d::D) H n
   | none=>none
def CzR.okL(P:Program)(G N:Nat)(ops:Array Oper)(l:List Oper)(k:Ih -> Option Nat -> Tr Value -> List Deferred -> AH -> Nat -> Option St):Prop:=∀ih r T D H n,k ih r T D H n=mB P G ih r N ops l ⟨T,D,H,n⟩
theorem K3{P:Program}{G N:Nat}{ops:Array Oper}{l:List Oper}{k}(h:CzR.okL P G N ops l k)(o:Oper):CzR.okL P G N ops (o::l) (da P G N ops o k):=by
 intro ih r T D H n;simp only[da,mB];cases eR ops o T with
 | none=>rfl
 | some b =>
  cases b with
  | false=>cases fq N o.dst undef T with
   | none=>rfl
   | some T'=>exact h _ _ _ _ _ _
  | true=>cases jV P G ih r o T H n with
   | none=>rfl
   | some x=>cases x with
    | val v H' n'=>simp only[cL];cases hp:fq N o.dst v T with
     | none=>simp only[hp]
     | some T'=>simp only[hp];exact h _ _ _ _ _ _
    | dfr d=>cases hp:fq N o.dst undef T with
     | none=>simp only[hp]
     | some T'=>simp only[hp];exact h _ _ _ _ _ _
def nY(N:Nat)(o:Oper)(k:Ih -> Option Nat -> Tr Value -> List Deferred -> AH -> Nat -> Option St)(ih:Ih)(r:Option Nat)(T:Tr Value)(D:List Deferred)(v:Value)(H:AH)(n:Nat):Option St:=match fq N o.dst v T with
 | some T=>k ih r T D H n
 | none=>none
theorem oW{P:Program}{G N:Nat}{ops:Array Oper}{o:Oper}{k}(hg:o.guard=none)(ho:nq G o=true)(hc:sa P o.op=.pu)(ih:Ih)(r:Option Nat)(T:Tr Value)(D:List Deferred)(H:AH)(n:Nat) :
  da P G N ops o k ih r T D H n=match gQ P o T with
   | some v=>nY N o k ih r T D v H n
   | none=>none:=by
 simp only[nq] at ho;cases hl:i7 o.op with
 | none=>rw[hl] at ho;simp at ho
 | some l =>
  rw[hl] at ho;simp only at ho;simp only[da,eR,hg,jV,B0,hl,ho,hc];cases gQ P o T with
  | none=>rfl
  | some v=>simp only[cL];rfl
theorem H8{P:Program}{G N:Nat}{ops:Array Oper}{o:Oper}{k}(hg:o.guard=none)(ho:nq G o=true)(hc:sa P o.op=.lo)(ih:Ih)(r:Option Nat)(T:Tr Value)(D:List Deferred)(H:AH)(n:Nat) :
  da P G N ops o k ih r T D H n=match jx P o T H with
   | some v=>nY N o k ih r T D v H n
   | none=>none:=by
 simp only[nq] at ho;cases hl:i7 o.op with
 | none=>rw[hl] at ho;simp at ho
 | some l =>
  rw[hl] at ho;simp only at ho;simp only[da,eR,hg,jV,B0,hl,ho,hc];cases jx P o T H with
  | none=>rfl
  | some v=>simp only[cL];rfl
theorem NB{P:Program}{G N:Nat}{ops:Array Oper}{o:Oper}{k}(hg:o.guard=none)(ho:nq G o=true)(hc:sa P o.op=.nw)(ih:Ih)(r:Option Nat)(T:Tr Value)(D:List Deferred)(H:AH)(n:Nat) :
  da P G N ops o k ih r T D H n=match sy P o T with
   | some (b,m)=>nY N o k ih r T D (m.val n) (cX H n (some b)) (n+1)
   | none=>none:=by
 simp only[nq] at ho;cases hl:i7 o.op with
 | none=>rw[hl] at ho;simp at ho
 | some l =>
  rw[hl] at ho;simp only at ho;simp only[da,eR,hg,jV,B0,hl,ho,hc];cases sy P o T with
  | none=>rfl
  | some v=>simp only[Nr,cL];rfl
theorem NC{P:Program}{G N:Nat}{ops:Array Oper}{o:Oper}{k}(hg:o.guard=none)(ho:nq G o=true)(hc:sa P o.op=.ef)(ih:Ih)(r:Option Nat)(T:Tr Value)(D:List Deferred)(H:AH)(n:Nat){v:Value}{H':AH}{n':Nat}(he:mW P o T H n=some (.val v H' n')) :
  da P G N ops o k ih r T D H n=nY N o k ih r T D v H' n':=by
 simp only[nq] at ho;cases hl:i7 o.op with
 | none=>rw[hl] at ho;simp at ho
 | some l =>
  rw[hl] at ho;simp only at ho;simp only[da,eR,hg,jV,B0,hl,ho,hc,he,cL];rfl
theorem Cd{P:Program}{G N:Nat}{ops:Array Oper}{o:Oper}{k}(hg:o.guard=none)(ho:nq G o=true)(hc:sa P o.op=.ef)(ih:Ih)(r:Option Nat)(T:Tr Value)(D:List Deferred)(H:AH)(n:Nat){f:FuncId}{args:List Value}(he:mW P o T H n=some (.ent f args)) :
  da P G N ops o k ih r T D H n=match ih (.fn f args H n) with
   | some (.fn v H n)=>nY N o k ih r T D v H n
   | _=>none:=by
 simp only[nq] at ho;cases hl:i7 o.op with
 | none=>rw[hl] at ho;simp at ho
 | some l =>
  rw[hl] at ho;simp only at ho;simp only[da,eR,hg,jV,B0,hl,ho,hc,he];cases ih (.fn f args H n) with
  | none=>rfl
  | some x=>cases x <;> simp only[cL] <;> rfl
end
noncomputable section
abbrev Kt:=Ih -> Option Nat -> Tr Value -> List Deferred -> AH -> Nat -> Option St
def kN(k:IntKind):Nat:=IntKind.rec (motive:=λ _=>Nat) 0 1 2 3 4 5 6 7 k
def QT(a b:IntKind):Bool:=Nat.beq (kN a) (kN b)
theorem ND(a b:IntKind):QT a b=decide (a=b):=by cases a <;> cases b <;> rfl
def Ot(a b:Int):Bool:=match a,b with
 | .ofNat m,.ofNat n=>Nat.blt m n
 | .negSucc _,.ofNat _=>true
 | .ofNat _,.negSucc _=>false
 | .negSucc m,.negSucc n=>Nat.blt n m
theorem Ce(m n:Nat):Nat.blt m n=decide (m<n):=by
 by_cases h:m<n
 ·simp[Nat.blt_eq,h]
 ·rw[aco h];cases hb:Nat.blt m n
  ·rfl
  ·exact absurd (Eq.mp Nat.blt_eq hb) h
theorem H9(a b:Int):Ot a b=decide (a<b):=by
 cases a with
 | ofNat m=>cases b with
  | ofNat n =>
   simp only[Ot,Ce];exact decide_eq_decide.2 (Int.ofNat_lt).symm
  | negSucc n=>exact(aco (show ¬ ((m:Int)<Int.negSucc n) by omega)).symm
 | negSucc m=>cases b with
  | ofNat n=>exact(acr (show Int.negSucc m<(n:Int) by omega)).symm
  | negSucc n =>
   simp only[Ot,Ce];exact decide_eq_decide.2 (by omega)
def NE(b:Bool):Bool:=match b with
 | true=>false
 | false=>true
theorem Cf(b:Bool):NE b=!b:=by cases b <;> rfl
def Qk(a b:Int):Bool:=NE (Ot b a)
theorem NF(a b:Int):Qk a b=decide (a <= b):=by
 rw[Qk,Cf,H9]
 by_cases h:b<a
 ·rw[acr h,aco (by omega)];rfl
 ·rw[aco h,acr (by omega)];rfl
def Po(a b:Int):Bool:=match a,b with
 | .ofNat m,.ofNat n=>Nat.beq m n
 | .negSucc m,.negSucc n=>Nat.beq m n
 | _,_=>false
theorem Cg(m n:Nat):Nat.beq m n=decide (m=n):=by
 by_cases h:m=n
 ·rw[acr h];exact Eq.mpr Nat.beq_eq h
 ·rw[aco h];cases hb:Nat.beq m n
  ·rfl
  ·exact absurd (Eq.mp Nat.beq_eq hb) h
theorem NG(a b:Int):Po a b=(a == b):=by
 have e:(a == b)=decide (a=b):=rfl;rw[e];cases a with
 | ofNat m=>cases b with
  | ofNat n =>
   simp only[Po,Cg];exact decide_eq_decide.2 (Int.ofNat_inj (m:=m) (n:=n)).symm
  | negSucc n=>rfl
 | negSucc m=>cases b with
  | ofNat n=>rfl
  | negSucc n =>
   simp only[Po,Cg];exact decide_eq_decide.2 (by simp)
def K4:BinOp -> Option (Int -> Int -> Bool)
 | .lss=>some λ a b=>Ot a b
 | .leq=>some λ a b=>Qk a b
 | .gtr=>some λ a b=>Ot b a
 | .geq=>some λ a b=>Qk b a
 | .eql=>some λ a b=>Po a b
 | .neq=>some λ a b=>NE (Po a b)
 | _=>none
theorem K5{op:BinOp}{q}(h:K4 op=some q)(a b:Int):Hk op a b=some (q a b):=by
 cases op <;> simp only[K4,Option.some.injEq,reduceCtorEq] at h <;> subst h <;> simp only[Hk,H9,NF,NG,Cf] <;> rfl
section
variable (P:Program) (G N:Nat) (ops:Array Oper) (o:Oper) (k:Kt) (g:Value -> Tr Value -> Tr Value)
def Ql(f:Tr Value -> Value)(ih:Ih)(r:Option Nat)(T:Tr Value)(D:List Deferred)(H:AH)(n:Nat):Option St:=eV (f T) λ v=>k ih r (g v T) D H n
def Pp(u:Value)(x y:Option St):Option St:=match u with
 | .bool b=>match b with
  | true=>x
  | false=>y
 | _=>none
def Ib(f fa fb:Tr Value -> Value)(ih:Ih)(r:Option Nat)(T:Tr Value)(D:List Deferred)(H:AH)(n:Nat):Option St:=Pp (f T) (eV (fa T) λ v=>k ih r (g v T) D H n) (eV (fb T) λ v=>k ih r (g v T) D H n)
def Pq(u:Value)(x y:Option St):Option St:=match u with
 | .pointer p=>match p with
  | some _=>x
  | none=>y
 | _=>y
def NH(f:Tr Value -> Value)(ih:Ih)(r:Option Nat)(T:Tr Value)(D:List Deferred)(H:AH)(n:Nat):Option St:=Pq (f T) (eV (f T) λ v=>k ih r (g v T) D H n) (da P G N ops o k ih r T D H n)
def Pr(q:Int -> Int -> Bool)(u v:Value)(x:Bool -> Option St)(y:Option St):Option St:=match u with
 | .int ka a=>match v with
  | .int kb b=>match QT ka kb with
   | true=>match q a b with
    | true=>x true
    | false=>x false
   | false=>y
  | _=>y
 | _=>y
def NI(q:Int -> Int -> Bool)(f1 f2:Tr Value -> Value)(ih:Ih)(r:Option Nat)(T:Tr Value)(D:List Deferred)(H:AH)(n:Nat):Option St:=Pr q (f1 T) (f2 T) (λ b=>k ih r (g (.bool b) T) D H n) (da P G N ops o k ih r T D H n)
def QU(c:Nat)(u:Value)(x:Value -> Option St):Option St:=match u with
 | .pointer p=>match p with
  | some a=>match a with
   | ⟨b,off,s⟩=>match c with
    | 0=>x (.pointer (some ⟨b,off,s⟩))
    | c+1=>x (.pointer (some ⟨b,off+(c+1),none⟩))
  | none=>none
 | _=>none
def NJ(c:Nat)(f:Tr Value -> Value)(ih:Ih)(r:Option Nat)(T:Tr Value)(D:List Deferred)(H:AH)(n:Nat):Option St:=QU c (f T) λ v=>k ih r (g v T) D H n
def ldB(off:Nat)(s:Option Nat)(b:Option AB)(x:Value -> Option St):Option St:=match s with
 | none=>match b with
  | some c=>match c with
   | .cells n tr _ _ _=>match Nat.blt off n with
    | true=>eV (cY tr off) x
    | false=>none
   | _=>none
  | none=>none
 | some _=>none
def ldR(H:AH)(u:Value)(x:Value -> Option St):Option St:=match u with
 | .pointer p=>match p with
  | some a=>match a with
   | ⟨b,off,s⟩=>ldB off s (b7 H b) x
  | none=>none
 | _=>none
def QV(f:Tr Value -> Value)(ih:Ih)(r:Option Nat)(T:Tr Value)(D:List Deferred)(H:AH)(n:Nat):Option St:=ldR H (f T) λ v=>k ih r (g v T) D H n
def laB(off c:Nat)(s:Option Nat)(b:Option AB)(x:Value -> Option St):Option St:=match s with
 | none=>match b with
  | some ab=>match ab with
   | .cells n tr _ _ _=>match Nat.ble (off+c) n with
    | true=>AK (gR tr off c) λ l=>x (.agg ⟨l⟩)
    | false=>none
   | _=>none
  | none=>none
 | some _=>none
def laR(c:Nat)(H:AH)(u:Value)(x:Value -> Option St):Option St:=match u with
 | .pointer p=>match p with
  | some a=>match a with
   | ⟨b,off,s⟩=>laB off c s (b7 H b) x
  | none=>none
 | _=>none
def QW(c:Nat)(f:Tr Value -> Value)(ih:Ih)(r:Option Nat)(T:Tr Value)(D:List Deferred)(H:AH)(n:Nat):Option St:=laR c H (f T) λ v=>k ih r (g v T) D H n
def alF(b:AB)(ih:Ih)(r:Option Nat)(T:Tr Value)(D:List Deferred)(H:AH)(n:Nat):Option St:=k ih r (g (.pointer (some ⟨n,0,none⟩)) T) D (cX H n (some b)) (n+1)
def ixR(c:Nat)(u i:Value)(x:Value -> Option St):Option St:=match u with
 | .slice p m _=>match p with
  | some a=>match i with
   | .int _ i=>match i with
    | .ofNat i=>match Nat.blt i m with
     | true=>match a with
      | ⟨b,off,s⟩=>match i*c with
       | 0=>x (.pointer (some ⟨b,off,s⟩))
       | j+1=>x (.pointer (some ⟨b,off+(j+1),none⟩))
     | false=>none
    | _=>none
   | _=>none
  | none=>none
 | _=>none
def QX(c:Nat)(f1 f2:Tr Value -> Value)(ih:Ih)(r:Option Nat)(T:Tr Value)(D:List Deferred)(H:AH)(n:Nat):Option St:=ixR c (f1 T) (f2 T) λ v=>k ih r (g v T) D H n
def stB(off:Nat)(s:Option Nat)(v:Value)(b:Option AB)(x:AB -> Option St)(y:Option St):Option St:=match s with
 | none=>match b with
  | some c=>match c with
   | .cells n tr ty w ro=>match ro with
    | false=>match Nat.blt off n with
     | true=>x (.cells n (sw tr off v) ty w false)
     | false=>y
    | true=>y
   | _=>y
  | none=>y
 | some _=>y
def Ch(v:Value):Bool:=match v with
 | .agg _=>false
 | .tuple _=>false
 | _=>true
def stR(H:AH)(u v:Value)(x:Nat -> AB -> Option St)(y:Option St):Option St:=match Ch v with
 | true=>match u with
  | .pointer p=>match p with
   | some a=>match a with
    | ⟨b,off,s⟩=>eV v λ v=>stB off s v (b7 H b) (x b) y
   | none=>y
  | _=>y
 | false=>y
def QY(f1 f2:Tr Value -> Value)(ih:Ih)(r:Option Nat)(T:Tr Value)(D:List Deferred)(H:AH)(n:Nat):Option St:=stR H (f1 T) (f2 T) (λ b ab=>k ih r T D (cX H b (some ab)) n) (da P G N ops o k ih r T D H n)
def Qm(x:Option Rs)(y:Value -> AH -> Nat -> Option St):Option St:=match x with
 | some x=>match x with
  | .fn v H n=>eV v λ v=>y v H n
  | .cd _ _=>none
 | none=>none
def QZ(f:FuncId)(aZz:Tr Value -> List Value)(ih:Ih)(r:Option Nat)(T:Tr Value)(D:List Deferred)(H:AH)(n:Nat):Option St:=Qm (ih (.fn f (aZz T) H n)) λ v H n=>k ih r (g v T) D H n
def Q0(f:FuncId)(aZz:Tr Value -> List Value)(ih:Ih)(r:Option Nat)(T:Tr Value)(D:List Deferred)(H:AH)(n:Nat):Option St:=Qm (ih (.fn f (aZz T) H n)) λ v H n=>k ih r T D H n
end
section
variable {P:Program} {G N:Nat} {ops:Array Oper} {o:Oper} {k:Kt} {g:Value -> Tr Value -> Tr Value}
theorem fH(hd:iB N o.dst=.ok g)(ih:Ih)(r:Option Nat)(T:Tr Value)(D:List Deferred)(v:Value)(H:AH)(n:Nat):nY N o k ih r T D v H n=k ih r (g v T) D H n:=by
 rw[nY,Cb hd]
theorem Ci(hd:iB N o.dst=.no)(ih:Ih)(r:Option Nat)(T:Tr Value)(D:List Deferred)(v:Value)(H:AH)(n:Nat):nY N o k ih r T D v H n=k ih r T D H n:=by
 rw[nY,Cc hd]
theorem Mi(hg:o.guard=none)(ho:nq G o=true)(hd:iB N o.dst=.ok g){x:Operand}(hx:o.op=.move x \/ o.op=.assign x){f}(hf:∀T,f T=ael T x)(ih r T D H n):Ql k g f ih r T D H n=da P G N ops o k ih r T D H n:=by
 have hc:sa P o.op=.pu:=by cases hx with|inl h=>rw[h];rfl|inr h=>rw[h];rfl
 have hp:gQ P o T=some (ael T x):=by unfold gQ;cases hx with|inl h=>rw[h]|inr h=>rw[h]
 rw[oW hg ho hc,hp,Ql,hf,cL];exact(fH hd ..).symm
theorem K6(hg:o.guard=none)(ho:nq G o=true)(hd:iB N o.dst=.ok g){c a b:Operand}(hx:o.op=.pick c a b){f fa fb}(hf:∀T,f T=ael T c)(hfa:∀T,fa T=ael T a)(ZR:∀T,fb T=ael T b)(ih r T D H n):Ib k g f fa fb ih r T D H n=da P G N ops o k ih r T D H n:=by
 rw[oW hg ho (by rw[hx];rfl)];unfold gQ;rw[hx];simp only[Ib,hf,hfa,ZR,cL];cases ael T c with
 | bool q=>cases q <;> exact(fH hd ..).symm
 | _=>rfl
theorem NK(hg:o.guard=none)(ho:nq G o=true)(hd:iB N o.dst=.ok g){x:Operand}(hx:o.op=.nilCheck x){f}(hf:∀T,f T=ael T x)(ih r T D H n):NH P G N ops o k g f ih r T D H n=da P G N ops o k ih r T D H n:=by
 simp only[NH,hf];cases he:ael T x with
 | pointer p=>cases p with
  | none=>rfl
  | some a =>
   rw[oW hg ho (by rw[hx];rfl)];unfold gQ;rw[hx];simp only[he,Pq,cL];exact(fH hd ..).symm
 | _=>rfl
theorem NL(hg:o.guard=none)(ho:nq G o=true)(hd:iB N o.dst=.ok g){op t x y z}(hx:o.op=.binOp op t x y z){q}(hq:K4 op=some q){f1 f2}(XV:∀T,f1 T=ael T x)(Tb:∀T,f2 T=ael T y)(ih r T D H n):NI P G N ops o k g q f1 f2 ih r T D H n=da P G N ops o k ih r T D H n:=by
 simp only[NI,XV,Tb];cases he:ael T x with
 | int ka a=>cases he2:ael T y with
  | int kb b =>
   simp only[Pr];cases hk:QT ka kb with
   | false=>rfl
   | true =>
    rw[oW hg ho (by rw[hx];rfl)];unfold gQ;rw[hx];rw[ND] at hk;simp only[he,he2,K5 hq,hk];cases q a b <;> exact(fH hd ..).symm
  | _=>rfl
 | _=>rfl
theorem NM(hg:o.guard=none)(ho:nq G o=true)(hd:iB N o.dst=.ok g){t x j}(hx:o.op=.fieldAddr t x j){c ft}(hc:xE P t j=some (c,ft)){f}(hf:∀T,f T=ael T x)(ih r T D H n):NJ k g c f ih r T D H n=da P G N ops o k ih r T D H n:=by
 rw[oW hg ho (by rw[hx];rfl)];unfold gQ;rw[hx];simp only[NJ,hf,hc];cases he:ael T x with
 | pointer p=>cases p with
  | none=>rfl
  | some a=>cases a with
   | mk b off s=>cases c with
    | zero=>exact(fH hd ..).symm
    | succ c=>exact(fH hd ..).symm
 | _=>rfl
theorem Ps(hg:o.guard=none)(ho:nq G o=true)(hd:iB N o.dst=.ok g){t x}(hx:o.op=.load t x)(hc:xD P t=true){f}(hf:∀T,f T=ael T x)(ih r T D H n):QV k g f ih r T D H n=da P G N ops o k ih r T D H n:=by
 rw[H8 hg ho (by rw[hx];rfl)];unfold jx;rw[hx];simp only[QV,hf];cases he:ael T x with
 | pointer p=>cases p with
  | none=>rfl
  | some a=>cases a with
   | mk b off s =>
    cases s with
    | some s=>rfl
    | none =>
     simp only[ldR,tG];cases b7 H b with
     | none=>rfl
     | some c=>cases c with
      | cells nn tr ty w ro =>
       simp only[ldB,hc];cases Nat.blt off nn
       ·rfl
       ·simp only[cL];exact(fH hd ..).symm
      | _=>rfl
 | _=>rfl
theorem Pt(hg:o.guard=none)(ho:nq G o=true)(hd:iB N o.dst=.ok g){t x}(hx:o.op=.load t x)(hc:xD P t=false){c}(ha:Aj P t=some c){f}(hf:∀T,f T=ael T x)(ih r T D H n):QW k g c f ih r T D H n=da P G N ops o k ih r T D H n:=by
 rw[H8 hg ho (by rw[hx];rfl)];unfold jx;rw[hx];simp only[QW,hf];cases he:ael T x with
 | pointer p=>cases p with
  | none=>rfl
  | some a=>cases a with
   | mk b off s =>
    cases s with
    | some s=>rfl
    | none =>
     simp only[laR,tG];cases b7 H b with
     | none=>rfl
     | some ab=>cases ab with
      | cells nn tr ty w ro =>
       simp only[laB,hc,ha];cases Nat.ble (off+c) nn
       ·rfl
       ·simp only[t2];exact(fH hd ..).symm
      | _=>rfl
 | _=>rfl
theorem Pu(hg:o.guard=none)(ho:nq G o=true)(hd:iB N o.dst=.ok g){t}(hx:o.op=.alloc t){z}(hz:kO P t=some z){b}(hb:jF z t=b)(ih r T D H n):alF k g b ih r T D H n=da P G N ops o k ih r T D H n:=by
 rw[NB hg ho (by rw[hx];rfl)];unfold sy;rw[hx];simp only[hz,hb];exact(fH hd ..).symm
theorem Pv(hg:o.guard=none)(ho:nq G o=true)(hd:iB N o.dst=.ok g){t x i}(hx:o.op=.indexAddr t x i){el c}(ht:P.underlying t=some (.slice el))(hc:fi P el=some c){f1 f2}(XV:∀T,f1 T=ael T x)(Tb:∀T,f2 T=ael T i)(ih r T D H n):QX k g c f1 f2 ih r T D H n=da P G N ops o k ih r T D H n:=by
 rw[oW hg ho (by rw[hx];rfl)];unfold gQ;rw[hx];simp only[QX,XV,Tb,ht];cases he:ael T x with
 | slice p m cc=>cases p with
  | none=>rfl
  | some a=>cases a with
   | mk b off s=>cases he2:ael T i with
    | int ki i=>cases i with
     | ofNat i =>
      simp only[ixR,JO,hc];cases Nat.blt i m with
      | false=>rfl
      | true =>
       simp only[Al];cases i*c with
       | zero=>exact(fH hd ..).symm
       | succ j=>exact(fH hd ..).symm
     | negSucc i=>rfl
    | _=>rfl
 | _=>cases he2:ael T i <;> rfl
theorem Pw(hg:o.guard=none)(ho:nq G o=true)(hd:iB N o.dst=.no){t x y}(hx:o.op=.store t x y)(ht:fi P t=some 1){f1 f2}(XV:∀T,f1 T=ael T x)(Tb:∀T,f2 T=ael T y)(ih r T D H n):QY P G N ops o k f1 f2 ih r T D H n=da P G N ops o k ih r T D H n:=by
 simp only[QY,XV,Tb];unfold stR;cases RZ:Ch (ael T y) with
 | false=>rfl
 | true =>
  cases he:ael T x with
  | pointer p=>cases p with
   | none=>rfl
   | some a=>cases a with
    | mk b off s=>cases s with
     | some s=>simp only[cL];rfl
     | none =>
      simp only[cL];cases hb:b7 H b with
      | none=>rfl
      | some c=>cases c with
       | cells nn tr ty w ro=>cases ro with
        | true=>rfl
        | false =>
         simp only[stB];cases iF:Nat.blt off nn with
         | false=>rfl
         | true =>
          have Of:hO (ael T y)=[ael T y]:=by
           cases hv:ael T y <;> first|rfl|(rw[hv] at RZ;simp[Ch] at RZ)
          have hff:jU [ael T y]=true:=by
           cases hv:ael T y <;> first|rfl|(rw[hv] at RZ;simp[Ch] at RZ)
          have hle:Nat.ble (off+1) nn=true:=iF;have Xd:mW P o T H n=some (.val undef (cX H b (some (.cells nn (sw tr off (ael T y)) ty w false))) n):=by
           unfold mW;rw[hx];simp only[he,vg,ht,Of,gq,oM,hb,hle,hff];rfl
          rw[NC hg ho (by rw[hx];rfl) ih r T D H n Xd];exact(Ci hd ..).symm
       | _=>rfl
  | _=>rfl
theorem Ic{f:FuncId}{c:Call}(hx:o.op=.call c)(hc:c.callee=.value (.func f))(hb:ri P f=true)(T H n):mW P o T H n=some (.ent f (mU T c.args.toList)):=by
 unfold mW;rw[hx];simp only[hc,ael,qj,hb];simp
theorem Ie{f:FuncId}{c:Call}(hx:o.op=.call c)(hc:c.callee=.value (.func f)):sa P o.op=.ef:=by
 rw[hx];obtain⟨ce,a,t⟩:=c;simp only at hc;subst hc;rfl
theorem Px(hg:o.guard=none)(ho:nq G o=true)(hd:iB N o.dst=.ok g){f:FuncId}{c:Call}(hx:o.op=.call c)(hc:c.callee=.value (.func f))(hb:ri P f=true){aZz}(ha:∀T,aZz T=mU T c.args.toList)(ih r T D H n):QZ k g f aZz ih r T D H n=da P G N ops o k ih r T D H n:=by
 rw[Cd hg ho (Ie hx hc) ih r T D H n (Ic hx hc hb T H n),QZ,ha];cases ih (.fn f (mU T c.args.toList) H n) with
 | none=>rfl
 | some x=>cases x with
  | cd _ _=>rfl
  | fn v H n=>simp only[Qm,cL];exact(fH hd ..).symm
theorem NN(hg:o.guard=none)(ho:nq G o=true)(hd:iB N o.dst=.no){f:FuncId}{c:Call}(hx:o.op=.call c)(hc:c.callee=.value (.func f))(hb:ri P f=true){aZz}(ha:∀T,aZz T=mU T c.args.toList)(ih r T D H n):Q0 k f aZz ih r T D H n=da P G N ops o k ih r T D H n:=by
 rw[Cd hg ho (Ie hx hc) ih r T D H n (Ic hx hc hb T H n),Q0,ha];cases ih (.fn f (mU T c.args.toList) H n) with
 | none=>rfl
 | some x=>cases x with
  | cd _ _=>rfl
  | fn v H n=>simp only[Qm,cL];exact(Ci hd ..).symm
end
end
noncomputable section
def Q1(P:Program)(G N:Nat)(ops:Array Oper)(o:Oper)(k:Kt)(g:Value -> Tr Value -> Tr Value):CzR:=match o.op with
 | .move x=>match cv x with
  | .mk f=>.mk (Ql k g f)
 | .assign x=>match cv x with
  | .mk f=>.mk (Ql k g f)
 | .pick c a b=>match cv c with
  | .mk f=>match cv a with
   | .mk fa=>match cv b with
    | .mk fb=>.mk (Ib k g f fa fb)
 | .nilCheck x=>match cv x with
  | .mk f=>.mk (NH P G N ops o k g f)
 | .binOp op _ x y _=>match K4 op with
  | some q=>match cv x with
   | .mk f1=>match cv y with
    | .mk f2=>.mk (NI P G N ops o k g q f1 f2)
  | none=>.mk (da P G N ops o k)
 | .fieldAddr t x j=>match xE P t j with
  | some (c,_)=>match cv x with
   | .mk f=>.mk (NJ k g c f)
  | none=>.mk (da P G N ops o k)
 | .load t x=>match xD P t with
  | true=>match cv x with
   | .mk f=>.mk (QV k g f)
  | false=>match Aj P t with
   | some c=>match cv x with
    | .mk f=>.mk (QW k g c f)
   | none=>.mk (da P G N ops o k)
 | .alloc t=>match kO P t with
  | some z=>match jF z t with
   | .cells a b c d e=>.mk (alF k g (.cells a b c d e))
   | _=>.mk (da P G N ops o k)
  | none=>.mk (da P G N ops o k)
 | .indexAddr t x i=>match P.underlying t with
  | some (.slice el)=>match fi P el with
   | some c=>match cv x with
    | .mk f1=>match cv i with
     | .mk f2=>.mk (QX k g c f1 f2)
   | none=>.mk (da P G N ops o k)
  | _=>.mk (da P G N ops o k)
 | .call c=>match c.callee with
  | .value (.func f)=>match ri P f with
   | true=>match ca c.args.toList with
    | .mk aZz=>.mk (QZ k g f aZz)
   | false=>.mk (da P G N ops o k)
  | _=>.mk (da P G N ops o k)
 | _=>.mk (da P G N ops o k)
def Q2(P:Program)(G N:Nat)(ops:Array Oper)(o:Oper)(k:Kt):CzR:=match o.op with
 | .store t x y=>match fi P t with
  | some 1=>match cv x with
   | .mk f1=>match cv y with
    | .mk f2=>.mk (QY P G N ops o k f1 f2)
  | _=>.mk (da P G N ops o k)
 | .call c=>match c.callee with
  | .value (.func f)=>match ri P f with
   | true=>match ca c.args.toList with
    | .mk aZz=>.mk (Q0 k f aZz)
   | false=>.mk (da P G N ops o k)
  | _=>.mk (da P G N ops o k)
 | _=>.mk (da P G N ops o k)
def Ig(P:Program)(G N:Nat)(ops:Array Oper)(o:Oper)(k:Kt):CzR:=match nq G o with
 | true=>match iB N o.dst with
  | .ok g=>Q1 P G N ops o k g
  | .no=>Q2 P G N ops o k
  | .bad=>.mk (da P G N ops o k)
 | false=>.mk (da P G N ops o k)
def Fg(o:Oper):Oper:=⟨o.dst,o.op,o.type,o.pos,o.after,none⟩
def Q3(want:Bool)(u:Value)(x y:Option St):Option St:=match u with
 | .bool b=>match b with
  | true=>match want with
   | true=>x
   | false=>y
  | false=>match want with
   | true=>y
   | false=>x
 | .tuple _=>y
 | _=>none
def guF(want:Bool)(f:Tr Value -> Value)(h:Kt)(k:Kt)(g:Value -> Tr Value -> Tr Value)(ih:Ih)(r:Option Nat)(T:Tr Value)(D:List Deferred)(H:AH)(n:Nat):Option St:=Q3 want (f T) (h ih r T D H n) (k ih r (g undef T) D H n)
def guN(want:Bool)(f:Tr Value -> Value)(h:Kt)(k:Kt)(ih:Ih)(r:Option Nat)(T:Tr Value)(D:List Deferred)(H:AH)(n:Nat):Option St:=Q3 want (f T) (h ih r T D H n) (k ih r T D H n)
def NO(P:Program)(G N:Nat)(ops:Array Oper)(o:Oper)(nx:CzR):CzR:=match nx with
 | .mk k=>match o.guard with
  | none=>Ig P G N ops o k
  | some (j,want)=>match (ops[j]?).bind (·.dst) with
   | some d=>match vt (pth d) with
    | .mk f=>match Ig P G N ops (Fg o) k with
     | .mk h=>match iB N o.dst with
      | .ok g=>.mk (guF want f h k g)
      | .no=>.mk (guN want f h k)
      | .bad=>.mk (da P G N ops o k)
   | none=>.mk (da P G N ops o k)
def EA(P:Program)(G N:Nat)(ops:Array Oper):List Oper -> CzR
 | []=>.mk λ _ _ T D H n=>some ⟨T,D,H,n⟩
 | o::l=>NO P G N ops o (EA P G N ops l)
def Ii(P:Program)(G N:Nat)(ops:Array Oper)(o:Oper)(k:Kt)(c:CzR):Prop:=∀ih r T D H n,c.f ih r T D H n=da P G N ops o k ih r T D H n
theorem dN{P:Program}{G N:Nat}{ops:Array Oper}{o:Oper}{k:Kt}:Ii P G N ops o k (.mk (da P G N ops o k)):=λ _ _ _ _ _ _=>rfl
theorem zf{x:Operand}{f}(h:cv x=.mk f)(T:Tr Value):f T=ael T x:=by
 have:=Mg x T;rw[h] at this;exact this
theorem cam{x:List Operand}{f}(h:ca x=.mk f)(T:Tr Value):f T=mU T x:=by
 have:=Mh x T;rw[h] at this;exact this
theorem NP{P:Program}{G N:Nat}{ops:Array Oper}{o:Oper}{k:Kt}{g}(hg:o.guard=none)(ho:nq G o=true)(hd:iB N o.dst=.ok g):Ii P G N ops o k (Q1 P G N ops o k g):=by
 unfold Q1;split
 ·rename_i x hx;split;rename_i f hf;exact λ ih r T D H n=>Mi hg ho hd (.inl hx) (zf hf) ih r T D H n
 ·rename_i x hx;split;rename_i f hf;exact λ ih r T D H n=>Mi hg ho hd (.inr hx) (zf hf) ih r T D H n
 ·rename_i c a b hx;split;rename_i f hf;split;rename_i fa hfa;split;rename_i fb ZR;exact λ ih r T D H n=>K6 hg ho hd hx (zf hf) (zf hfa) (zf ZR) ih r T D H n
 ·rename_i x hx;split;rename_i f hf;exact λ ih r T D H n=>NK hg ho hd hx (zf hf) ih r T D H n
 ·rename_i op t x y z hx;split
  ·rename_i q hq;split;rename_i f hf;split;rename_i f2 Tb;exact λ ih r T D H n=>NL hg ho hd hx hq (zf hf) (zf Tb) ih r T D H n
  ·exact dN
 ·rename_i t x j hx;split
  ·rename_i c ft hc;split;rename_i f hf;exact λ ih r T D H n=>NM hg ho hd hx hc (zf hf) ih r T D H n
  ·exact dN
 ·rename_i t x hx;split
  ·rename_i hc;split;rename_i f hf;exact λ ih r T D H n=>Ps hg ho hd hx hc (zf hf) ih r T D H n
  ·rename_i hc;split
   ·rename_i c ha;split;rename_i f hf;exact λ ih r T D H n=>Pt hg ho hd hx hc ha (zf hf) ih r T D H n
   ·exact dN
 ·rename_i t hx;split
  ·rename_i z hz;split
   ·rename_i a b c d e hb;exact λ ih r T D H n=>Pu hg ho hd hx hz hb ih r T D H n
   ·exact dN
  ·exact dN
 ·rename_i t x i hx;split
  ·rename_i el ht;split
   ·rename_i c hc;split;rename_i f hf;split;rename_i f2 Tb;exact λ ih r T D H n=>Pv hg ho hd hx ht hc (zf hf) (zf Tb) ih r T D H n
   ·exact dN
  ·exact dN
 ·rename_i c hx;split
  ·rename_i f hc;split
   ·rename_i hb;split;rename_i aZz ha;exact λ ih r T D H n=>Px hg ho hd hx hc hb (cam ha) ih r T D H n
   ·exact dN
  ·exact dN
 ·exact dN
theorem NQ{P:Program}{G N:Nat}{ops:Array Oper}{o:Oper}{k:Kt}(hg:o.guard=none)(ho:nq G o=true)(hd:iB N o.dst=.no):Ii P G N ops o k (Q2 P G N ops o k):=by
 unfold Q2;split
 ·rename_i t x y hx;split
  ·rename_i hc;split;rename_i f hf;split;rename_i f2 Tb;exact λ ih r T D H n=>Pw hg ho hd hx hc (zf hf) (zf Tb) ih r T D H n
  ·exact dN
 ·rename_i c hx;split
  ·rename_i f hc;split
   ·rename_i hb;split;rename_i aZz ha;exact λ ih r T D H n=>NN hg ho hd hx hc hb (cam ha) ih r T D H n
   ·exact dN
  ·exact dN
 ·exact dN
theorem Cj{P:Program}{G N:Nat}{ops:Array Oper}{o:Oper}{k:Kt}(hg:o.guard=none):Ii P G N ops o k (Ig P G N ops o k):=by
 unfold Ig;split
 ·rename_i ho;split
  ·rename_i g hd;exact NP hg ho hd
  ·rename_i hd;exact NQ hg ho hd
  ·exact dN
 ·exact dN
theorem m6(P:Program)(T:Tr Value)(o:Oper):gt P T (Fg o)=gt P T o:=by
 have e:execOp (ael T) (Fg o)=execOp (ael T) o:=by
  obtain⟨dst,op,type,pos,after,guard⟩:=o;cases op <;> rfl
 unfold gt;rw[e];rfl
theorem EB(P:Program)(T:Tr Value)(o:Oper):gQ P (Fg o) T=gQ P o T:=by
 unfold gQ;simp only[m6];rfl
theorem EC(P:Program)(T:Tr Value)(H:AH)(o:Oper):jx P (Fg o) T H=jx P o T H:=by
 unfold jx;simp only[m6];rfl
theorem Ij(P:Program)(T:Tr Value)(H:AH)(n:Nat)(o:Oper):mW P (Fg o) T H n=mW P o T H n:=by
 unfold mW;simp only[m6];rfl
theorem Ik(P:Program)(G:Nat)(ih:Ih)(r:Option Nat)(T:Tr Value)(H:AH)(n:Nat)(o:Oper):jV P G ih r (Fg o) T H n=jV P G ih r o T H n:=by
 unfold jV B0;simp only[EB,EC,Ij];rfl
theorem rK{P:Program}{G N:Nat}{ops:Array Oper}{o:Oper}{k:Kt}{j:Nat}{want:Bool}(hg:o.guard=some (j,want)){d:Tmp}(hd:(ops[j]?).bind (·.dst)=some d){f:Tr Value -> Value}(hf:∀T,f T=cY T d){h:Kt}(hh:∀ih r T D H n,h ih r T D H n=da P G N ops (Fg o) k ih r T D H n)(ih r T D H n) :
  da P G N ops o k ih r T D H n=Q3 want (f T) (h ih r T D H n) (match fq N o.dst undef T with|some T=>k ih r T D H n|none=>none):=by
 rw[hh,hf];have e:da P G N ops (Fg o) k ih r T D H n=match jV P G ih r o T H n with
  | none=>none
  | some (.val v H n)=>eV v λ v=>match fq N o.dst v T with
   | some T=>k ih r T D H n
   | none=>none
  | some (.dfr d)=>match fq N o.dst undef T with
   | some T=>k ih r T (d::D) H n
   | none=>none:=by
  simp only[da,eR,Fg];rw[<- Ik P G ih r T H n o];rfl
 rw[e];simp only[da,eR,hg,hd];cases cY T d with
 | bool b=>cases b <;> cases want <;> rfl
 | _=>rfl
theorem NR{P:Program}{G N:Nat}{ops:Array Oper}{o:Oper}{k:Kt}:Ii P G N ops o k (NO P G N ops o (.mk k)):=by
 cases hg:o.guard with
 | none=>simp only[NO,hg];exact Cj hg
 | some jw =>
  obtain⟨j,want⟩:=jw;cases hd:(ops[j]?).bind (·.dst) with
  | none=>simp only[NO,hg,hd];exact dN
  | some d =>
   cases hf:vt (pth d) with
   | mk f=>cases hh:Ig P G N ops (Fg o) k with
    | mk h =>
     have hf':∀T,f T=cY T d:=λ T=>by have:=qm (pth d) T;rw[hf] at this;exact this
     have hh':=Cj (P:=P) (G:=G) (N:=N) (ops:=ops) (o:=Fg o) (k:=k) rfl;rw[hh] at hh';cases hdk:iB N o.dst with
     | ok g =>
      simp only[NO,hg,hd,hf,hh,hdk];intro ih r T D H n;rw[rK hg hd hf' hh',Cb hdk];rfl
     | no =>
      simp only[NO,hg,hd,hf,hh,hdk];intro ih r T D H n;rw[rK hg hd hf' hh',Cc hdk];rfl
     | bad=>simp only[NO,hg,hd,hf,hh,hdk];exact dN
theorem Ck(P:Program)(G N:Nat)(ops:Array Oper):∀l,CzR.okL P G N ops l (EA P G N ops l).f
 | []=>λ ih r T D H n=>rfl
 | o::l=>by
  have h:=Ck P G N ops l;cases hk:EA P G N ops l with
  | mk k =>
   rw[hk] at h;intro ih r T D H n;simp only[EA,hk];rw[NR];exact K3 h o ih r T D H n
def Qn(P:Program)(G N:Nat)(c:Code)(ih:Ih)(r:Option Nat)(T:Tr Value)(D:List Deferred)(H:AH)(n:Nat):Option (Ex × St):=je P G ih r N c ⟨T,D,H,n⟩
def Py(k:Kt)(ih:Ih)(r:Option Nat)(T:Tr Value)(D:List Deferred)(H:AH)(n:Nat):Option (Ex × St):=match k ih r T D H n with
 | some s=>some (.normal,s)
 | none=>none
abbrev Kc:=Ih -> Option Nat -> Tr Value -> List Deferred -> AH -> Nat -> Option (Ex × St)
def Q4(x:Option (Ex × St))(y:Tr Value -> List Deferred -> AH -> Nat -> Option (Ex × St)):Option (Ex × St):=match x with
 | some p=>match p with
  | (e,s)=>match e with
   | .normal=>match s with
    | ⟨T,D,H,n⟩=>y T D H n
   | .exit id=>some (.exit id,s)
   | .ret=>some (.ret,s)
 | none=>none
def Pz(a b:Kc)(ih:Ih)(r:Option Nat)(T:Tr Value)(D:List Deferred)(H:AH)(n:Nat):Option (Ex × St):=Q4 (a ih r T D H n) λ T D H n=>b ih r T D H n
def PA(u:Value)(x y:Option (Ex × St)):Option (Ex × St):=match u with
 | .bool b=>match b with
  | true=>x
  | false=>y
 | _=>none
def Mj(f:Tr Value -> Value)(a b:Kc)(ih:Ih)(r:Option Nat)(T:Tr Value)(D:List Deferred)(H:AH)(n:Nat):Option (Ex × St):=PA (f T) (a ih r T D H n) (b ih r T D H n)
def PC(id:Nat)(x:Option (Ex × St)):Option (Ex × St):=match x with
 | some p=>match p with
  | (e,s)=>match e with
   | .exit Uh=>match Nat.beq Uh id with
    | true=>some (.normal,s)
    | false=>some (.exit Uh,s)
   | .normal=>some (.normal,s)
   | .ret=>some (.ret,s)
 | none=>none
def PD(id:Nat)(a:Kc)(ih:Ih)(r:Option Nat)(T:Tr Value)(D:List Deferred)(H:AH)(n:Nat):Option (Ex × St):=PC id (a ih r T D H n)
def PE(x:Option (Ex × St))(y:St -> Option Rs):Option (Ex × St):=match x with
 | some p=>match p with
  | (e,s)=>match e with
   | .normal=>match y s with
    | some q=>match q with
     | .cd e s=>some (e,s)
     | .fn _ _ _=>none
    | none=>none
   | .exit id=>some (.exit id,s)
   | .ret=>some (.ret,s)
 | none=>none
def PF(N:Nat)(c:Code)(a:Kc)(ih:Ih)(r:Option Nat)(T:Tr Value)(D:List Deferred)(H:AH)(n:Nat):Option (Ex × St):=PE (a ih r T D H n) λ s=>ih (.loop r N c s)
def iC(P:Program)(G N:Nat):Code -> CzC
 | .skip=>.mk λ _ _ T D H n=>some (.normal,⟨T,D,H,n⟩)
 | .label _=>.mk λ _ _ T D H n=>some (.normal,⟨T,D,H,n⟩)
 | .region id ops draw=>match draw with
  | false=>match EA P G N ops ops.toList with
   | .mk k=>.mk (Py k)
  | true=>.mk (Qn P G N (.region id ops true))
 | .seq a b=>match iC P G N a with
  | .mk fa=>match iC P G N b with
   | .mk fb=>.mk (Pz fa fb)
 | .cond c a b=>match cv c with
  | .mk f=>match iC P G N a with
   | .mk fa=>match iC P G N b with
    | .mk fb=>.mk (Mj f fa fb)
 | .block id c=>match iC P G N c with
  | .mk fa=>.mk (PD id fa)
 | .loop c=>match iC P G N c with
  | .mk fa=>.mk (PF N c fa)
 | .rangeFunc g ps assign body=>.mk (Qn P G N (.rangeFunc g ps assign body))
 | .exit id=>.mk λ _ _ T D H n=>some (.exit id,⟨T,D,H,n⟩)
 | .scope c=>iC P G N c
 | .goto l=>.mk (Qn P G N (.goto l))
 | .ret=>.mk λ _ _ T D H n=>some (.ret,⟨T,D,H,n⟩)
 | .refuse x=>.mk (Qn P G N (.refuse x))
def PG(P:Program)(G N:Nat)(c:Code)(f:Kc):Prop:=∀ih r T D H n,f ih r T D H n=je P G ih r N c ⟨T,D,H,n⟩
theorem iE(P:Program)(G N:Nat):∀c,PG P G N c (iC P G N c).f
 | .skip=>λ _ _ _ _ _ _=>rfl
 | .label _=>λ _ _ _ _ _ _=>rfl
 | .region id ops draw=>by
  cases draw with
  | true=>exact λ _ _ _ _ _ _=>rfl
  | false =>
   have h:=Ck P G N ops ops.toList;cases hk:EA P G N ops ops.toList with
   | mk k =>
    rw[hk] at h;intro ih r T D H n;simp only[iC,hk,CzC.f,Py,je];have:=h ih r T D H n;simp only[CzR.f] at this;rw[this];cases mB P G ih r N ops ops.toList ⟨T,D,H,n⟩ <;> rfl
 | .seq a b=>by
  have h1:=iE P G N a;have h2:=iE P G N b;cases ha:iC P G N a with
  | mk fa=>cases hb:iC P G N b with
   | mk fb =>
    rw[ha] at h1;rw[hb] at h2;intro ih r T D H n;have e1:=h1 ih r T D H n;simp only[CzC.f] at e1;simp only[iC,ha,hb,CzC.f,Pz,je,e1];cases je P G ih r N a ⟨T,D,H,n⟩ with
    | none=>rfl
    | some p=>obtain⟨e,s⟩:=p;cases e with
     | normal=>obtain⟨T,D,H,n⟩:=s;exact h2 ih r T D H n
     | exit id=>rfl
     | ret=>rfl
 | .cond c a b=>by
  have h1:=iE P G N a;have h2:=iE P G N b;cases hc:cv c with
  | mk f=>cases ha:iC P G N a with
   | mk fa=>cases hb:iC P G N b with
    | mk fb =>
     rw[ha] at h1;rw[hb] at h2;intro ih r T D H n;simp only[iC,hc,ha,hb,CzC.f,Mj,je,zf hc];cases ael T c with
     | bool q=>cases q with
      | true=>exact h1 ih r T D H n
      | false=>exact h2 ih r T D H n
     | _=>rfl
 | .block id c=>by
  have h1:=iE P G N c;cases ha:iC P G N c with
  | mk fa =>
   rw[ha] at h1;intro ih r T D H n;have e1:=h1 ih r T D H n;simp only[CzC.f] at e1;simp only[iC,ha,CzC.f,PD,je,e1];cases je P G ih r N c ⟨T,D,H,n⟩ with
   | none=>rfl
   | some p=>obtain⟨e,s⟩:=p;cases e with
    | normal=>rfl
    | exit Uh=>simp only[PC];cases Nat.beq Uh id <;> rfl
    | ret=>rfl
 | .loop c=>by
  have h1:=iE P G N c;cases ha:iC P G N c with
  | mk fa =>
   rw[ha] at h1;intro ih r T D H n;have e1:=h1 ih r T D H n;simp only[CzC.f] at e1;simp only[iC,ha,CzC.f,PF,je,e1];cases je P G ih r N c ⟨T,D,H,n⟩ with
   | none=>rfl
   | some p=>obtain⟨e,s⟩:=p;cases e with
    | normal =>
     simp only[PE];cases ih (.loop r N c s) with
     | none=>rfl
     | some q=>cases q <;> rfl
    | exit Uh=>rfl
    | ret=>rfl
 | .rangeFunc g ps assign body=>λ _ _ _ _ _ _=>rfl
 | .exit id=>λ _ _ _ _ _ _=>rfl
 | .scope c=>by
  intro ih r T D H n;simp only[iC,je];exact iE P G N c ih r T D H n
 | .goto l=>λ _ _ _ _ _ _=>rfl
 | .ret=>λ _ _ _ _ _ _=>rfl
 | .refuse x=>λ _ _ _ _ _ _=>rfl
def K7:List ResultVar -> Option CzA
 | []=>some (.mk λ _=>[])
 | x::l=>match x with
  | .tmp t=>match vt (pth t) with
   | .mk f=>match K7 l with
    | some c=>match c with
     | .mk h=>some (.mk λ T=>f T::h T)
    | none=>none
  | .cell _ _=>none
theorem Il(P:Program)(H:AH)(T:Tr Value):∀ {l:List ResultVar} {h},K7 l=some (.mk h) -> oN P T H l=some (h T)
 | [],h,e=>by simp only[K7,Option.some.injEq,CzA.mk.injEq] at e;subst e;rfl
 | .cell _ _::l,h,e=>by simp[K7] at e
 | .tmp t::l,h,e=>by
  simp only[K7] at e;cases hf:vt (pth t) with
  | mk f =>
   rw[hf] at e;simp only at e;cases hl:K7 l with
   | none=>rw[hl] at e;simp at e
   | some c=>cases c with
    | mk h' =>
     rw[hl] at e;simp only[Option.some.injEq,CzA.mk.injEq] at e;subst e;have:=qm (pth t) T;rw[hf] at this;simp only[CzV.f] at this;simp only[oN,Il P H T hl,this];rfl
def NS(l:List Value):Nat -> Tr Value -> Tr Value:=List.rec (motive:=λ _=>Nat -> Tr Value -> Tr Value) (λ _ t=>t) (λ x _ ih i t=>eV x λ x=>ih (i+1) (dW undef x (pth i) t)) l
theorem Cm:∀ (l:List Value) (i:Nat) (t:Tr Value),NS l i t=dS undef l i t
 | [],i,t=>rfl
 | x::l,i,t=>by
  have:=Cm l (i+1) (dW undef x (pth i) t);show (eV x λ x=>NS l (i+1) (dW undef x (pth i) t))=_;rw[cL,this,dS];have e:Tr.set undef x t i=dW undef x (pth i) t:=rfl;rw[e];cases dW undef x (pth i) t <;> rfl
def PH(h:List Value):Value:=match h with
 | []=>.tuple ⟨[]⟩
 | v::l=>match l with
  | []=>v
  | w::l=>.tuple ⟨v::w::l⟩
theorem K8(h:List Value):PH h=xL h:=by
 cases h with
 | nil=>rfl
 | cons v l=>cases l <;> rfl
def PI(P:Program)(fn:Func)(ih:Ih)(s:St):Option Rs:=match ko P ih s.D s.H s.n with
 | some (H,n)=>match oN P s.T H fn.results.toList with
  | some vs=>some (.fn (xL vs) H n)
  | none=>none
 | none=>none
def Q5(P:Program)(fn:Func)(h:Tr Value -> List Value)(ih:Ih)(s:St):Option Rs:=match s with
 | ⟨T,D,H,n⟩=>match D with
  | []=>some (.fn (PH (h T)) H n)
  | d::D=>PI P fn ih ⟨T,d::D,H,n⟩
def fnR(x:Option (Ex × St))(y:St -> Option Rs):Option Rs:=match x with
 | some p=>match p with
  | (e,s)=>match e with
   | .exit _=>none
   | .normal=>y s
   | .ret=>y s
 | none=>none
def Qo(N:Nat)(k:Kc)(y:Ih -> St -> Option Rs)(ih:Ih)(args:List Value)(H:AH)(n:Nat):Option Rs:=match Nat.ble (gq args) N with
 | true=>fnR (k ih none (NS args 0 .lf) [] H n) (y ih)
 | false=>none
def ED(P:Program)(G:Nat)(f:FuncId):CzF:=match rp P f with
 | some (fn,c)=>match iC P G fn.ntmps c with
  | .mk k=>match K7 fn.results.toList with
   | some h=>match h with
    | .mk h=>.mk (Qo fn.ntmps k (Q5 P fn h))
   | none=>.mk (Qo fn.ntmps k (PI P fn))
 | none=>.mk λ _ _ _ _=>none
theorem NT{P:Program}{fn:Func}{h}(e:K7 fn.results.toList=some (.mk h))(ih:Ih)(s:St):Q5 P fn h ih s=PI P fn ih s:=by
 obtain⟨T,D,H,n⟩:=s;cases D with
 | cons d D=>rfl
 | nil=>simp only[Q5,PI,ko,Il P H T e,K8]
theorem Im{P:Program}{G:Nat}{fn:Func}{c:Code}{f:FuncId}(hb:rp P f=some (fn,c)){k:Kc}(hk:PG P G fn.ntmps c k){y:Ih -> St -> Option Rs}(hy:∀ih s,y ih s=PI P fn ih s)(ih:Ih)(args:List Value)(H:AH)(n:Nat):Qo fn.ntmps k y ih args H n=gS P G ih (.fn f args H n):=by
 simp only[Qo,gS,hb];cases Nat.ble (gq args) fn.ntmps with
 | false=>rfl
 | true =>
  simp only[hk ih,Cm];rw[show dS undef args 0 .lf=mC args from rfl];cases je P G ih none fn.ntmps c ⟨mC args,[],H,n⟩ with
  | none=>rfl
  | some p=>obtain⟨e,s⟩:=p;cases e with
   | exit _=>rfl
   | normal=>exact hy ih s
   | ret=>exact hy ih s
theorem K9(P:Program)(G:Nat)(f:FuncId)(ih:Ih)(args:List Value)(H:AH)(n:Nat):(ED P G f).f ih args H n=gS P G ih (.fn f args H n):=by
 cases hb:rp P f with
 | none=>simp only[ED,hb,CzF.f,gS]
 | some p =>
  obtain⟨fn,c⟩:=p;have h1:=iE P G fn.ntmps c;cases hk:iC P G fn.ntmps c with
  | mk k =>
   rw[hk] at h1;cases hr:K7 fn.results.toList with
   | none =>
    simp only[ED,hb,hk,hr,CzF.f];exact Im hb h1 (λ _ _=>rfl) ih args H n
   | some h=>cases h with
    | mk h =>
     simp only[ED,hb,hk,hr,CzF.f];exact Im hb h1 (λ ih s=>NT hr ih s) ih args H n
def yn(P:Program)(G:Nat)(ih:Ih)(t:Task):Option Rs:=match t with
 | .loop r N c s=>match iC P G N (.loop c) with
  | .mk k=>match s with
   | ⟨T,D,H,n⟩=>match k ih r T D H n with
    | some p=>match p with
     | (e,s)=>some (.cd e s)
    | none=>none
 | .fn f args H n=>match ED P G f with
  | .mk k=>k ih args H n
 | t=>gS P G ih t
theorem Io(P:Program)(G:Nat)(ih:Ih)(t:Task):yn P G ih t=gS P G ih t:=by
 cases t with
 | loop r N c s =>
  obtain⟨T,D,H,n⟩:=s;have h1:=iE P G N (.loop c);cases hk:iC P G N (.loop c) with
  | mk k =>
   rw[hk] at h1;have:=h1 ih r T D H n;simp only[CzC.f] at this;simp only[yn,hk,gS,this];cases je P G ih r N (.loop c) ⟨T,D,H,n⟩ with
   | none=>rfl
   | some p=>rfl
 | fn f args H n =>
  have:=K9 P G f ih args H n;cases hk:ED P G f with
  | mk k =>
   rw[hk] at this;simp only[yn,hk];exact this
 | _=>rfl
def Ip(P:Program)(G:Nat)(k:Nat):Ih:=Nat.rec (motive:=λ _=>Ih) (λ _=>none) (λ _ ih t=>yn P G ih t) k
theorem Cn(P:Program)(G:Nat):∀k,Ip P G k=HD P G k
 | 0=>rfl
 | k+1=>by
  funext t;show yn P G (Ip P G k) t=_;rw[Io,Cn P G k];rfl
end
end Go.Proofs.YtdppjkjbghbnjaaGreatDoor
