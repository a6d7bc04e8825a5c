import Derived.Test.YtjokannbjmndfaaGreatDoorZ28
import Derived.Test.YtjokannbjmndfaaGreatDoorZ02
set_option linter.all false
set_option maxHeartbeats 4000000
set_option maxRecDepth 100000
namespace Go.Proofs.YtjokannbjmndfaaGreatDoor
open Go.RowKit
variable {args:List Value} {as bo:Code} {b n:Nat} {e:Ex} {fn:FuncId} {o:Obj} {ps:Array Tmp} {res:Rs} {s s':St} {tm:Array Value}
section code
variable {ν ν':Nu} {P:Program} {G N:Nat} {T T':Tr Value} {a:Act} {H H':AH} {F:HL} {w w':World} {r r':Option Nat} {ih:Task->Option Rs}
theorem Ext.sub'{m k:Nat}(h1:Ext ν ν' n m)(hf:Fr ν n k)(hm:m<=k):ν.Le ν':=h1.sub λ i a b=>hf i a (by omega)
theorem zz(By:kD P G ih){c:Code}(hc:∀ (s:St) e s',jh P G ih r N c s=some (e,s')->jH P G (.code r N c s) (.cd e s'))(h:jh P G ih r N (.loop c) s=some (e,s')):jH P G (.loop r N c s) (.cd e s'):=by
 rw[jh] at h;split at h
 ·rename_i s1 h1;obtain⟨q1,q2⟩:=hc _ _ _ h1;split at h
  ·rename_i e2 s2 h2;cases h;obtain⟨p1,p2⟩:=By _ _ h2;refine⟨by omega,λ ν F a w r' Q hr hs hf hk=>zt ?_⟩;refine q2 ν F a w r' _ hr hs (λ i a b=>hf i a (by omega)) (λ ν' a' w' k1 k2 k3=>?_);have No:=k1.sub' hf p1;exact p2 ν' F a' w' r' Q (hr.mono No) k2 (k1.fr hf p1) (λ ν2 a2 w2 g1 g2 g3=>hk ν2 a2 w2 (k1.trans g1) g2 (k3.trans g3))
  ·cases h
 ·rename_i x u_;obtain⟨q1,q2⟩:=hc _ _ _ h;refine⟨q1,λ ν F a w r' Q hr hs hf hk=>zt ?_⟩;refine q2 ν F a w r' _ hr hs hf (λ ν' a' w' k1 k2 k3=>?_);have:=hk ν' a' w' k1 k2 k3;cases e with
  |normal=>exact(u_ _ h).elim
  |exit id=>exact this
  |ret=>exact this
theorem JD{c:Code}{Q:Exit->Act->World->Prop}{a:Act}(h:Dh c=some e)(hq:Q e.out a w):c.wpIn (Wr r') 0 P Q a w:=by
 unfold Dh at h;split at h
 ·cases h;exact wpIn_ret hq
 ·cases h;exact wpIn_exit hq
 ·cases h
theorem B8{w:World}:(Instr.enterLoop fn tm ps as bo none).run P w=
  .ok (w.heap.size+1,[{ target:=.collected w.heap.size,args:=#[] }]) { w with heap:=(w.heap.push (.deferred (some []))).push (.loop { state:=.ready,pending:=none,fn,tmps:=tm,params:=ps,assign:=as,body:=bo,defers:=w.heap.size }) }:=by
 unfold Instr.enterLoop;simp only[abg,fd,b7,abf,Array.size_push]
theorem B9{w:World}{l:Nat}{lp:Loop}(h:w.heap[l]?=some (.loop lp)):(Instr.enterLoop fn tm ps as bo (some l)).run P w=
  .ok (w.heap.size,[]) { w with heap:=w.heap.push (.loop { state:=.ready,pending:=none,fn,tmps:=tm,params:=ps,assign:=as,body:=bo,defers:=lp.defers }) }:=by
 unfold Instr.enterLoop;simp only[abg,fd,b7,abf,gT h]
theorem lK{l:Nat}{lp:Loop}(h:w.heap[l]?=some (.loop lp)):(setObj l o).run P w=.ok () { w with heap:=w.heap.setIfInBounds l o }:=by
 unfold setObj;rw[acW];simp only[h];rfl
theorem HR.setObj(hH:HR ν H F w){h K:Nat}{b0 b1:AB}{o':Obj}(hb:bS H h=some b0)(hw0:Jm b0=true)(hw1:Jm b1=true)(hν:ν h=some (b,K))(ho:OR ν K b1 o'):HR ν (cJ H h (some b1)) F { w with heap:=w.heap.setIfInBounds b o' }:=by
 have iN:=hH.lt hb hν;refine hH.upd hb hw0 hw1 hν (o':=o') ?_ ho (λ k hk=>?_)
 ·show (w.heap.setIfInBounds b o')[b]?=_;rw[lv iN]
 ·show (w.heap.setIfInBounds b o')[k]?=_;rw[vo (Ne.symm hk)]
theorem mj:Below 0 w { w with heap:=w.heap.setIfInBounds b o }:=⟨rfl,rfl,rfl,by simp,λ k hk=>by omega⟩
theorem zA{l:Nat}{lp:Loop}(h:w.heap[l]?=some (.loop lp))(hb:lp.state≠ .busy):(Instr.endLoop l).run P w=.ok lp.pending { w with heap:=w.heap.setIfInBounds l (.loop { lp with state:=.exhausted }) }:=by
 unfold Instr.endLoop;rw[abg,gT h];simp only[abf];rw[if_neg (by simpa using hb)];rw[abg,lK h];rfl
theorem FT(By:kD P G ih){g:Operand}(h:jh P G ih r N (.rangeFunc g ps as bo) s=some (e,s')):jH P G (.code r N (.rangeFunc g ps as bo) s) (.cd e s'):=by
 rw[jh.eq_def] at h;simp only at h;split at h
 case h_2=>cases h
 rename_i f first captured hg hk
 split at h
 case h_2=>cases h
 rename_i hB;split at h
 case h_2=>cases h
 rename_i d D H1 n1 Uw;split at h
 case h_2=>cases h
 rename_i v H2 n2 Vz;split at h
 case h_2=>cases h
 rename_i st pend T' N' Yc X0 bo' d' hlp;obtain⟨hle,Xw⟩:=By _ _ Vz;have WE:s.n<=n1:=by
  cases r with
  |none=>simp only[de,df] at Uw;omega
  |some l0=>
   simp only at Uw;split at Uw
   ·simp only[de,df] at Uw;omega
   ·cases Uw
 have n_:st≠ .busy:=by
  rintro rfl;simp at h
 have Ug:s'=⟨s.T,D,cJ H2 n1 (some (.loop .exhausted pend T' N' Yc X0 bo' d')),n2⟩/\((pend=none/\e=.normal)\/∃c,pend=some c/\Dh c=some e):=by
  cases st with
  |busy=>exact(n_ rfl).elim
  |_=>
   cases pend with
   |none=>simp at h;exact⟨h.2.symm,.inl ⟨rfl,h.1.symm⟩⟩
   |some c=>
    simp only at h;split at h
    ·rename_i e1 he;cases h;exact⟨rfl,.inr ⟨c,rfl,he⟩⟩
    ·cases h
 obtain⟨rfl,aed⟩:=Ug;refine⟨by simp only;omega,λ ν F a w r' Q hr hs hf hkk=>?_⟩;simp only at hf hkk;refine wpIn_rangeFunc λ fn _=>?_;have ahQ:∃ (l:Nat) (mark:List Deferred) (w1:World) (ν1:Nu),(Instr.enterLoop fn a.tmps ps as bo (Wr r').round).run P w=.ok (l,mark) w1/\ν1 n1=some (l,0)/\Ext ν ν1 s.n (n1+1)/\HR ν1 (cJ H1 n1 (some (.loop .ready none s.T N ps as bo d))) F w1/\Below 0 w w1/\DsR ν1 D (mark++a.defers)/\ν.Le ν1:=by
  cases hr with
  |none=>
   simp only[de,df] at Uw;obtain⟨e1,e2,e3,e4⟩:=Uw;subst e1;subst e2;subst e3;subst e4;have Vk:ν s.n=none:=hf _ (aaI _) (by omega);have hx1:Ext ν (ν.upd s.n w.heap.size 0) s.n (s.n+1):=.upd;have XS:=jY (r:=w.heap.size) (K:=0) Vk;have h1:HR (ν.upd s.n w.heap.size 0) (cJ s.H s.n (some (.dfr false))) F { w with heap:=w.heap.push (.deferred (some [])) }:=hs.h.new (K:=0) Vk (b:=.dfr false) (o:=.deferred (some [])) rfl rfl rfl;have hn2:(ν.upd s.n w.heap.size 0) (s.n+1)=none:=by rw[eE (by omega)];exact hf _ (by omega) (by omega)
   have hx2:Ext (ν.upd s.n w.heap.size 0) ((ν.upd s.n w.heap.size 0).upd (s.n+1) (w.heap.size+1) 0) (s.n+1) (s.n+1+1):=.upd;have YD:=jY (r:=w.heap.size+1) (K:=0) hn2;have h2:=h1.new (K:=0) (w':={ w with heap:=(w.heap.push (.deferred (some []))).push (.loop { state:=.ready,pending:=none,fn,tmps:=a.tmps,params:=ps,assign:=as,body:=bo,defers:=w.heap.size }) }) hn2 (b:=.loop .ready none s.T N ps as bo s.n) (o:=.loop { state:=.ready,pending:=none,fn,tmps:=a.tmps,params:=ps,assign:=as,body:=bo,defers:=w.heap.size }) ⟨rfl,rfl,hs.t.mono XS,rfl,rfl,rfl,0,b6⟩ rfl rfl;have L_:({ w with heap:=w.heap.push (.deferred (some [])) }:World).heap.size=w.heap.size+1:=by simp
   rw[L_] at h2;refine⟨w.heap.size+1,_,_,_,B8,b6,hx1.trans hx2,h2,⟨rfl,rfl,rfl,by simp;omega,λ k hk=>by omega⟩,.cons ⟨.coll (b:=w.heap.size) (K:=0) ?_,.nil⟩ ((hs.d.mono XS).mono YD),XS.trans YD⟩;exact YD _ _ b6
  | @some l0 b0 K0 hν0=>
   simp only at Uw;split at Uw
   case h_2=>cases Uw
   rename_i _ _ _ _ _ _ _ dd XA;simp only[de,df] at Uw;obtain⟨e1,e2,e3,e4⟩:=Uw;subst e1;subst e2;subst e3;subst e4;obtain⟨lp,g1,g2,g3,g4,g5,g6,g7,K',g8⟩:=hs.h.loop XA hν0;have Vk:ν s.n=none:=hf _ (aaI _) (by omega);have XS:=jY (r:=w.heap.size) (K:=0) Vk;have h1:=hs.h.new (K:=0) (w':={ w with heap:=w.heap.push (.loop { state:=.ready,pending:=none,fn,tmps:=a.tmps,params:=ps,assign:=as,body:=bo,defers:=lp.defers }) }) Vk (b:=.loop .ready none s.T N ps as bo dd) (o:=.loop { state:=.ready,pending:=none,fn,tmps:=a.tmps,params:=ps,assign:=as,body:=bo,defers:=lp.defers }) ⟨rfl,rfl,hs.t,rfl,rfl,rfl,K',g8⟩ rfl rfl;refine⟨w.heap.size,_,_,_,B9 g1,b6,.upd,h1,⟨rfl,rfl,rfl,by simp,λ k hk=>by omega⟩,hs.d.mono XS,XS⟩
 obtain⟨l,mark,w1,ν1,g1,g2,g3,g4,g5,g6,g7⟩:=ahQ;have hgv:VRi ν (ael s.T g) (a.eval g):=(FE.mk hs.t hs.g:FE ν G N s.T a).ael hk;rw[hg] at hgv;obtain⟨fn',f',c',e',r1,r2,r3⟩:=sF hgv;cases r1;refine⟨l,mark,w1,{ target:=.fn (.func f) c',args:=f'++#[.func (.yield l) #[] #[]] },w1,f,⟨f'.toList++(.func (.yield l) #[] #[]::c'.toList)⟩,w1,g1,?_,λ _ _=>trivial,?_,λ h=>(by cases h),?_⟩
 ·have:=nv (P:=P) (c:=rangeCall g l) (ty:=0) (ρ:=a.eval) rfl e' w1;rw[this];simp[Act.eval]
 ·show (callFunc f (f'++#[.func (.yield l) #[] #[]]++c')).run P w1=_;rw[iC hB];congr 2;apply Array.ext';simp
 ·have Wi:Fr ν1 (n1+1) n2:=g3.fr hf (by omega);refine jJ ((Xw ν1 F w1 _ (hs.g.mono g7) Wi g4 ((r2.mono g7).append (.cons (.func_of (.yield g2) .nil .nil) (r3.mono g7)))).mono ?_);rintro en w3 ⟨ν3,v',rfl,k1,k2,k3,k4⟩;have We:ν3 n1=some (l,0):=k2.sub Wi _ _ g2;obtain⟨lp,q1,q2,q3,q4,q5,q6,q7,K',q8⟩:=k3.loop hlp We;refine⟨lp.pending,_,zA q1 (by rw[q2];exact n_),?_⟩;have hH3:HR ν3 (cJ H2 n1 (some (.loop .exhausted pend T' N' Yc X0 bo' d'))) F { w3 with heap:=w3.heap.setIfInBounds l (.loop { lp with state:=.exhausted }) } :=
   k3.setObj hlp rfl rfl We ⟨rfl,q3,q4,q5,q6,q7,K',q8⟩
  have ai8:Ext ν ν3 s.n n2:=g3.trans k2;have VW:=hkk ν3 { a with defers:=mark++a.defers } { w3 with heap:=w3.heap.setIfInBounds l (.loop { lp with state:=.exhausted }) } ai8 ⟨(hs.g.mono g7).mono (k2.sub Wi),(hs.t.mono g7).mono (k2.sub Wi),g6.mono (k2.sub Wi),hH3⟩ ((g5.trans k4).trans mj);rcases aed with ⟨hp,he⟩|⟨c,hp,he⟩
  ·rw[q3.trans hp] at VW ⊢;subst he;exact VW
  ·rw[q3.trans hp] at VW ⊢;exact JD he VW
theorem pJ(By:kD P G ih)(hm:P.follows .mixedOrders=true):∀ (c:Code) (s:St) (e:Ex) (s':St),jh P G ih r N c s=some (e,s')->jH P G (.code r N c s) (.cd e s'):=by
 have calm:∀ (c:Code) (s:St) (e:Ex),(∀r' (Q:Exit->Act->World->Prop) a w,Q e.out a w->c.wpIn (Wr r') 0 P Q a w)->jH P G (.code r N c s) (.cd e s):=λ c s e h=>
  ⟨aaI _,λ ν F a w r' Q hr hs hf hk=>h r' Q a w (hk ν a w (.refl _ _) hs (jt _ _))⟩
 intro c
 induction c with
 |skip=>intro s e s' h;rw[jh] at h;cases h;exact calm _ _ _ λ r' Q a w hq=>wpIn_skip hq
 |label l=>intro s e s' h;rw[jh] at h;cases h;exact calm _ _ _ λ r' Q a w hq=>wpIn_label hq
 |exit id=>intro s e s' h;rw[jh] at h;cases h;exact calm _ _ _ λ r' Q a w hq=>wpIn_exit hq
 |ret=>intro s e s' h;rw[jh] at h;cases h;exact calm _ _ _ λ r' Q a w hq=>wpIn_ret hq
 |goto l=>intro s e s' h;rw[jh] at h;cases h
 |refuse y=>intro s e s' h;rw[jh] at h;cases h
 |region id ops draw=>
  intro s e s' h;rw[jh.eq_def] at h;simp only at h;split at h
  ·split at h
   ·rename_i s1 h1;cases h;obtain⟨q1,q2⟩:=oB By _ _ _ h1;exact⟨q1,λ ν F a w r' Q hr hs hf hk=>wpIn_region_list (q2 ν F a w r' Q hr hs hf hk)⟩
   ·cases h
  ·split at h
   ·rename_i s1 h1;cases h;exact ME By hm h1
   ·cases h
 |seq x y ZD ihy=>
  intro s e s' h;rw[jh] at h;split at h
  ·rename_i s1 h1;obtain⟨q1,q2⟩:=ZD _ _ _ h1;obtain⟨p1,p2⟩:=ihy _ _ _ h;refine⟨by omega,λ ν F a w r' Q hr hs hf hk=>wpIn_seq ?_⟩;refine q2 ν F a w r' _ hr hs (λ i a b=>hf i a (by omega)) (λ ν' a' w' k1 k2 k3=>?_);exact p2 ν' F a' w' r' Q (hr.mono (k1.sub' hf p1)) k2 (k1.fr hf p1) (λ ν2 a2 w2 g1 g2 g3=>hk ν2 a2 w2 (k1.trans g1) g2 (k3.trans g3))
  ·rename_i u_;obtain⟨q1,q2⟩:=ZD _ _ _ h;refine⟨q1,λ ν F a w r' Q hr hs hf hk=>wpIn_seq ?_⟩;refine q2 ν F a w r' _ hr hs hf (λ ν' a' w' k1 k2 k3=>?_);have:=hk ν' a' w' k1 k2 k3;cases e with
   |normal=>exact(u_ _ h).elim
   |exit id=>exact this
   |ret=>exact this
 |cond c x y ZD ihy=>
  intro s e s' h;rw[jh] at h;have C_:∀ν F a w b,SR ν G N s F a w->ael s.T c=.bool b->a.eval c=.bool b:=λ ν F a w b hs he=>by
   cases c with
   |tmp t=>
    have:=(FE.mk hs.t hs.g:FE ν G N s.T a).ael (x:=.tmp t) rfl;rw[he] at this;exact this.plain_eq rfl
   |const v=>exact he
   |global g=>cases he
   |func f=>cases he
  split at h
  ·rename_i he;obtain⟨q1,q2⟩:=ZD _ _ _ h;exact⟨q1,λ ν F a w r' Q hr hs hf hk=>wpIn_cond_true (C_ _ _ _ _ _ hs he) (q2 ν F a w r' Q hr hs hf hk)⟩
  ·rename_i he;obtain⟨q1,q2⟩:=ihy _ _ _ h;exact⟨q1,λ ν F a w r' Q hr hs hf hk=>wpIn_cond_false (C_ _ _ _ _ _ hs he) (q2 ν F a w r' Q hr hs hf hk)⟩
  ·cases h
 |block id c ihc=>
  intro s e s' h;rw[jh] at h;split at h
  ·rename_i W_ s1 h1;obtain⟨q1,q2⟩:=ihc _ _ _ h1;split at h
   ·rename_i hid;cases h;have ah3:W_=id:=abd hid;refine⟨q1,λ ν F a w r' Q hr hs hf hk=>wpIn_block ?_⟩;refine q2 ν F a w r' _ hr hs hf (λ ν' a' w' k1 k2 k3=>?_);show (if W_=id then _ else _);rw[if_pos ah3];exact hk ν' a' w' k1 k2 k3
   ·rename_i hid;cases h;refine⟨q1,λ ν F a w r' Q hr hs hf hk=>wpIn_block ?_⟩;refine q2 ν F a w r' _ hr hs hf (λ ν' a' w' k1 k2 k3=>?_);show (if W_=id then _ else _);rw[if_neg (λ e=>by subst e;simp at hid)];exact hk ν' a' w' k1 k2 k3
  ·rename_i u_;obtain⟨q1,q2⟩:=ihc _ _ _ h;refine⟨q1,λ ν F a w r' Q hr hs hf hk=>wpIn_block ?_⟩;refine q2 ν F a w r' _ hr hs hf (λ ν' a' w' k1 k2 k3=>?_);have:=hk ν' a' w' k1 k2 k3;cases e with
   |normal=>exact this
   |exit W_=>exact(u_ _ _ h).elim
   |ret=>exact this
 |loop c ihc=>
  intro s e s' h;obtain⟨q1,q2⟩:=zz By (λ s e s' h=>ihc s e s' h) h;exact⟨q1,λ ν F a w r' Q hr hs hf hk=>B6 (q2 ν F a w r' Q hr hs hf hk)⟩
 |rangeFunc g ps as bo _ _=>intro s e s' h;exact FT By h
 |scope c ihc=>
  intro s e s' h;rw[jh] at h;obtain⟨q1,q2⟩:=ihc _ _ _ h;refine⟨q1,λ ν F a w r' Q hr hs hf hk=>ij ?_⟩;refine q2 ν F a w r' _ hr hs hf (λ ν' a' w' k1 k2 k3=>?_);have:=hk ν' a' w' k1 k2 k3;cases e <;> exact this
end code
section fn
variable {ν ν':Nu} {P:Program} {G N:Nat} {T T':Tr Value} {a:Act} {H H':AH} {F:HL} {w w':World} {r r':Option Nat} {ih:Task->Option Rs}
theorem ve{q_:List Value}(h:LR ν args q_)(hl:gv args<=N):TRel ν N (mO args) ((⟨q_⟩:Array Value)++Array.replicate (N-(⟨q_⟩:Array Value).size) undef):=by
 rw[dU] at hl;have hlen:=h.length;refine⟨by simp;omega,λ t ht=>?_,λ t ht=>?_⟩
 ·rcases aa9 t args.length with h1|h1
  ·obtain⟨v',e,q⟩:=h.get (aa1 h1);refine⟨v',?_,?_⟩
   ·rw[acR (by simp;omega)];simpa using e
   ·unfold mO;rw[lH h1];exact q
  ·refine⟨undef,?_,?_⟩
   ·rw[Array.getElem?_append_right (by simp;omega),Array.getElem?_replicate];rw[if_pos (by simp;omega)]
   ·have:cK (mO args) t=undef:=by
     unfold mO cK;rw[qY];rw[if_pos (aaJ _),dif_neg (by omega)];exact BU
    rw[this];exact aau
 ·unfold mO cK;rw[qY,if_pos (aaJ _),dif_neg (by omega)];exact BU
def JE(tm:Array Value):ResultVar->Sem Value
 | .tmp t=>pure (tm.getD t undef)
 | .cell ad t=>do loadVar t (<- asAddr (tm.getD ad undef))
theorem pK(hE:FE ν G N T a)(hH:HR ν H F w):∀ {rs:List ResultVar} {vs:List Value},pD P T H rs=some vs->∃O_,LR ν vs O_/\(rs.mapM (JE a.tmps)).run P w=.ok O_ w
 | [],vs,h=>by rw[pD] at h;cases h;exact⟨[],.nil,rfl⟩
 | .tmp t::rs,vs,h=>by
  rw[pD] at h;split at h
  ·rename_i vs0 h0;cases h;obtain⟨O_,q1,q2⟩:=pK hE hH h0;have hv:VRi ν (cK T t) (a.tmps.getD t undef):=hE.ael (x:=.tmp t) rfl
   haveI:=jc
   refine⟨_,.cons hv q1,?_⟩;have h1:(JE a.tmps (.tmp t)).run P w=.ok (a.tmps.getD t undef) w:=rfl;rw[aey,abg,h1];simp only[abf];rw[abg,q2];rfl
  ·cases h
 | .cell ad t::rs,vs,h=>by
  rw[pD] at h;split at h
  ·rename_i ad' he;split at h
   ·rename_i v vs0 hv h0;cases h;obtain⟨O_,q1,q2⟩:=pK hE hH h0;have hp:VRi ν (cK T ad) (a.tmps.getD ad undef):=hE.ael (x:=.tmp ad) rfl;rw[he] at hp;generalize hu:a.tmps.getD ad undef=u at hp;have hp2:=hp;cases hp with
    |atom _ h=>simp[cq] at h
    |ptr o hν=>
     obtain⟨v',r1,r2⟩:=zm (P:=P) (t:=t) hH hp2 hv
     haveI:=jc
     refine⟨_,.cons r1 q1,?_⟩;have h1:(JE a.tmps (.cell ad t)).run P w=.ok v' w:=by
      show ((asAddr (a.tmps.getD ad undef)) >>=λ x=>loadVar t x).run P w=_;rw[hu,abg];exact r2
     rw[aey,abg,h1];simp only[abf];rw[abg,q2];rfl
   ·cases h
  ·cases h
theorem sJ{fn:Func}{vs:List Value}(hE:FE ν G N T a)(hH:HR ν H F w)(h:pD P T H fn.results.toList=some vs):∃v',VRi ν (yZ vs) v'/\(results fn a.tmps).run P w=.ok v' w:=by
 obtain⟨O_,q1,q2⟩:=pK hE hH h
 haveI:=jc
 have h5:(fn.results.mapM (JE a.tmps)).run P w=.ok ⟨O_⟩ w:=by
  rw[Array.mapM_eq_mapM_toList,<- bind_pure_comp,abg,q2];rfl
 have h6:∀v',(∀W,(pure (if h:(⟨O_⟩:Array Value).size=1 then (⟨O_⟩:Array Value)[0] else .tuple ⟨O_⟩):Sem Value).run P W=.ok v' W)->(results fn a.tmps).run P w=.ok v' w:=λ v' hv=>by
  have:results fn a.tmps=(fn.results.mapM (JE a.tmps) >>=λ vs=>pure (if h:vs.size=1 then vs[0] else .tuple vs)):=rfl;rw[this,abg,h5];exact hv w
 cases q1 with
 |nil=>exact⟨_,.tuple_of .nil,h6 _ λ W=>rfl⟩
 |cons h1 h2=>
  cases h2 with
  |nil=>exact⟨_,h1,h6 _ λ W=>rfl⟩
  |cons h3 h4=>exact⟨_,.tuple_of (.cons h1 (.cons h3 h4)),h6 _ λ W=>rfl⟩
theorem ml(By:kD P G ih){fn:Func}{tm:Array Value}{R:Ending->World->Prop}:∀ {D:List Deferred} {H:AH} {n:Nat} {H':AH} {n':Nat},kr P ih D H n=some (H',n')->n<=n'/\∀ν D' w,Glb ν G->DsR ν D D'->HR ν H F w->Fr ν n n'->
  (∀ν' w',Ext ν ν' n n'->HR ν' H' F w'->Below 0 w w'->LeavesInM (Wr none) 0 P fn tm R [] .returning w')->LeavesInM (Wr none) 0 P fn tm R D' .returning w
 | [],H,n,H',n',h=>by
  rw[kr] at h;cases h;exact⟨aaI _,λ ν D' w hg hd hH hf hk=>by cases hd;exact hk ν w (.refl _ _) hH (jt _ _)⟩
 |d::ds,H,n,H',n',h=>by
  rw[kr] at h;split at h
  ·rename_i hd ht;split at h
   ·rename_i hb;obtain⟨q1,q2⟩:=ml By (fn:=fn) (tm:=tm) (R:=R) h;refine⟨q1,λ ν D' w hg hds hH hf hk=>?_⟩;cases hds with
    | @cons _ d' _ l' hdr hl=>
    obtain⟨hdt,hda⟩:=hdr;rw[ht] at hdt;generalize htt:d'.target=tt at hdt;cases hdt with
    | @coll _ b K hν=>
    obtain⟨rr,K',o,g1,g2,g3⟩:=hH.blk _ _ hb;rw[hν] at g1;cases g1;unfold OR at g3;split at g3
    ·rename_i e1;cases e1
    ·rename_i e1;cases e1
    ·rename_i e1;cases e1
    ·rename_i sh cc e1;cases e1;subst g3;refine⟨by simp,.inl ⟨b,{ w with heap:=w.heap.setIfInBounds b (.deferred none) },htt,?_,?_⟩⟩
     ·unfold Instr.takeDeferred;rw[abg];have h1:(getObj b).run P w=.ok (.deferred (some [])) w:=by
       unfold getObj;rw[acW];simp only[g2];rfl
      rw[h1];simp only[abf];rw[abg];have h2:(setObj b (.deferred none)).run P w=.ok () { w with heap:=w.heap.setIfInBounds b (.deferred none) }:=by
       unfold setObj;rw[acW];simp only[g2];rfl
      rw[h2];rfl
     ·have h3:HR ν (cJ H hd (some (.dfr true))) F { w with heap:=w.heap.setIfInBounds b (.deferred none) }:=hH.setObj hb rfl rfl hν (b1:=.dfr true) (o':=.deferred none) rfl;exact q2 ν l' _ hg hl h3 hf (λ ν' w' k1 k2 k3=>hk ν' w' k1 k2 (mj.trans k3))
    ·exact g3.elim
   ·cases h
  ·rename_i f captured ht;split at h
   case h_2=>cases h
   rename_i hB;split at h
   case h_2=>cases h
   rename_i v H1 n1 hc;obtain⟨p1,p2⟩:=By _ _ hc;obtain⟨q1,q2⟩:=ml By (fn:=fn) (tm:=tm) (R:=R) h;refine⟨by omega,λ ν D' w hg hds hH hf hk=>?_⟩;cases hds with
   | @cons _ d' _ l' hdr hl=>
   obtain⟨hdt,hda⟩:=hdr;rw[ht] at hdt;generalize htt:d'.target=tt at hdt;cases hdt with
   | @fn _ f' _ c' hf1 Wi=>
   cases hf1;refine⟨by simp,.inr ⟨λ h=>(by cases h),.func f,c',f,⟨d'.args.toList++c'.toList⟩,htt,?_,λ _ _=>trivial,?_⟩⟩
   ·rw[htt];show (callFunc f (d'.args++c')).run P w=_;rw[iC hB];congr 2;apply Array.ext';simp
   ·refine(p2 ν F w _ hg (λ i a b=>hf i a (by omega)) hH (hda.append Wi)).mono ?_;rintro en u' w2 ⟨rfl,ν2,v',rfl,k1,k2,k3,k4⟩;have No:=k2.sub' hf q1;show LeavesInM (Wr none) 0 P fn tm R l' (settle .returning) w2;exact q2 ν2 l' w2 (hg.mono No) (hl.mono No) k3 (k2.fr hf q1) (λ ν3 w3 g1 g2 g3=>hk ν3 w3 (k2.trans g1) g2 (k4.trans g3))
  ·cases h
theorem zB{f:FuncId}{fn:Func}{c:Code}(h:so P f=some (fn,c)):P.funcs[f]?=some fn/\fn.body=some c:=by
 unfold so at h;split at h
 ·rename_i fn' hf;split at h
  ·rename_i c' hc;cases h;exact⟨hf,hc⟩
  ·cases h
 ·cases h
theorem RA(By:kD P G ih)(hm:P.follows .mixedOrders=true){f:FuncId}{H:AH}(h:gS P G ih (.fn f args H n)=some res):jH P G (.fn f args H n) res:=by
 simp only[gS] at h;split at h
 case h_2=>cases h
 rename_i fn c hb;split at h
 case h_2=>cases h
 rename_i hle;obtain⟨b1,b2⟩:=zB hb;have fin:∀e s H2 n2 vs,(e=.normal\/e=.ret)->jh P G ih none fn.ntmps c ⟨mO args,[],H,n⟩=some (e,s)->kr P ih s.D s.H s.n=some (H2,n2)->pD P s.T H2 fn.results.toList=some vs->jH P G (.fn f args H n) (.fn (yZ vs) H2 n2):=by
  intro e s H2 n2 vs he Ux YC X4;obtain⟨q1,q2⟩:=pJ By hm _ _ _ _ Ux;simp only at q1 q2;have abT:=(ml (F:=[]) (fn:=fn) (tm:=#[]) (R:=λ _ _=>True) By YC).1;refine⟨by omega,λ ν F w q_ hg hf hH hl=>?_⟩;refine callsIn_wide.1 (callsIn_of_wp_marks (F:=Fence.wide) (n:=0) b1 b2 trivial ?_);have hlen:=hl.length;refine q2 ν F _ w none _ .none ⟨hg,ve hl (bK hle),.nil,hH⟩ (λ i a b=>hf i a (by omega)) (λ ν' a' w' k1 k2 k3=>?_);have No:=k1.sub' hf abT;have ahN:=(ml (F:=F) (fn:=fn) (tm:=a'.tmps) (R:=Jv ν (yZ vs) n n2 H2 F w) By YC).2 ν' a'.defers w' k2.g k2.d k2.h (k1.fr hf abT) (λ ν2 w2 g1 g2 g3=>by
   have aaQ:=g1.sub (k1.fr hf abT);obtain⟨v',r1,r2⟩:=sJ (G:=G) (fn:=fn) (a:=a') (FE.mk (k2.t.mono aaQ) (k2.g.mono aaQ)) g2 X4;exact⟨v',r2,ν2,v',rfl,r1,k1.trans g1,g2,k3.trans g3⟩)
  rcases he with rfl|rfl <;> exact ahN
 split at h
 ·cases h
 ·rename_i e s u_ Ux;split at h
  ·rename_i H2 n2 YC;split at h
   ·rename_i vs X4;cases h;cases e with
    |normal=>exact fin _ _ _ _ _ (.inl rfl) Ux YC X4
    |ret=>exact fin _ _ _ _ _ (.inr rfl) Ux YC X4
    |exit id=>first|exact(u_ _ _ rfl).elim|exact(u_ _ rfl).elim|exact(u_ _ _).elim
   ·cases h
  ·cases h
 ·cases h
theorem FU{lp:Loop}(h:w.heap[b]?=some (.loop lp))(hs:lp.state=.ready):(Instr.beginRound b).run P w=.ok () { w with heap:=w.heap.setIfInBounds b (.loop { lp with state:=.busy }) }:=by
 unfold Instr.beginRound;rw[abg,gT h];simp only[abf];rw[abg,lK h];simp only[abf,hs];rfl
theorem MF{lp:Loop}{j:Option Code}(h:w.heap[b]?=some (.loop lp)):(Instr.endRound b j).run P w=.ok (.bool j.isNone) { w with heap:=w.heap.setIfInBounds b (.loop { lp with state:=if j.isNone then .ready else .done,pending:=j }) }:=by
 unfold Instr.endRound;rw[abg,gT h];simp only[abf];rw[abg,lK h];rfl
def SD:Ex->Option Code
 | .normal=>none
 | .ret=>some .ret
 | .exit id=>some (.exit id)
theorem wG{R:Ending->World->Prop}(h:∃v w',(Instr.endRound b (SD e)).run P w=.ok v w'/\R (.returned v) w'):roundPost P b R e.out a w:=by
 cases e <;> exact h
theorem Py(By:kD P G ih)(hm:P.follows .mixedOrders=true){l:Nat}{T:Tr Value}{N:Nat}{H:AH}(h:gS P G ih (.rnd l T N as bo H n)=some res):jH P G (.rnd l T N as bo H n) res:=by
 simp only[gS] at h;split at h
 case h_2=>cases h
 rename_i s1 h1;split at h
 case h_2=>cases h
 rename_i pend T' N' ps X0 bo' d ZX hd1;split at h
 case h_2=>cases h
 rename_i e s2 h2;split at h
 case h_2=>cases h
 rename_i st2 aj9 T2 N2 ps2 as2 bo2 d2 Uy;obtain⟨q1,q2⟩:=pJ By hm _ _ _ _ h1;obtain⟨p1,p2⟩:=pJ By hm _ _ _ _ h2;simp only at q1 q2 p1 p2;have Wb:res=.fn (.bool (SD e).isNone) (cJ s2.H l (some (.loop (if (SD e).isNone then .ready else .done) (SD e) T2 N2 ps2 as2 bo2 d2))) s2.n:=by
  cases e <;> (cases h;rfl)
 subst Wb;refine⟨by omega,λ ν F w b K tm f r' hg hν hT hf hH=>?_⟩;refine roundIn_of_wpIn trivial ?_;show as.wpIn (Wr (some b)) 0 P _ _ _;refine q2 ν F _ w (some b) _ (.some hν) ⟨hg,hT,.nil,hH⟩ (λ i x y=>hf i x (by omega)) (λ ν1 a1 w1 k1 k2 k3=>?_);have adT:=k1.sub' hf p1;have ZF:=adT _ _ hν;obtain⟨lp,g1,g2,g3,g4,g5,g6,g7,K',g8⟩:=k2.h.loop ZX ZF;refine⟨_,FU g1 g2,?_⟩;show bo.wpIn (Wr (some b)) 0 P _ _ _;have hH1:HR ν1 (cJ s1.H l (some (.loop .busy pend T' N' ps X0 bo' d))) F { w1 with heap:=w1.heap.setIfInBounds b (.loop { lp with state:=.busy }) }:=k2.h.setObj ZX rfl rfl ZF ⟨rfl,g3,g4,g5,g6,g7,K',g8⟩;have hd:DsR ν1 [] a1.defers:=by have:=k2.d;rw[hd1] at this;exact this
 refine p2 ν1 F a1 _ (some b) _ (.some ZF) ⟨k2.g,k2.t,hd,hH1⟩ (k1.fr hf p1) (λ ν2 a2 w2 j1 j2 j3=>?_);have hν2:=(j1.sub (k1.fr hf p1)) _ _ ZF;obtain⟨lp2,u1,u2,u3,u4,u5,u6,u7,K2,u8⟩:=j2.h.loop Uy hν2;refine wG ⟨_,_,MF u1,ν2,_,rfl,.atom _ rfl,k1.trans j1,?_,((k3.trans mj).trans j3).trans mj⟩;exact j2.h.setObj Uy rfl rfl hν2 ⟨rfl,rfl,u4,u5,u6,u7,K2,u8⟩
theorem mm{ops:Array Oper}{c₀:Frame}{cs:List Frame}(hc:c₀.mode=.returning):∀ (rest:List Oper) (k:Nat) (s s':St),ops.toList.drop k=rest->nl P G N ops rest s=some s'->s.n<=s'.n/\∀ν F a w (Q:Exit->Act->List Frame->World->Prop),SR ν G N s F a w->Fr ν s.n s'.n->
  (∀ν' a' w',Ext ν ν' s.n s'.n->SR ν' G N s' F a' w'->Below 0 w w'->Q .normal a' (c₀::cs) w')->wpOpsSIn (Wr none) 0 P ops Q (List.range' k rest.length) a (c₀::cs) w
 | [],k,s,s',hk,h=>by
  rw[nl] at h;cases h;exact⟨aaI _,λ ν F a w Q hs hf hq=>hq ν a w (.refl _ _) hs (jt _ _)⟩
 |o::rest,k,s,s',hk,h=>by
  have iN:k<ops.toList.length:=by
   rcases aa9 k ops.toList.length with e|e
   ·exact e
   ·rw[aco e] at hk;cases hk
  have WZ:=hk;rw[eB iN] at WZ;simp only[acM] at WZ;obtain⟨ho,Yv⟩:=WZ;have ID:ops[k]?=some o:=by
   rw[sv (by simpa using iN)];simpa using ho
  rw[nl] at h;split at h
  ·cases h
  ·rename_i hw;split at h
   case h_2=>cases h
   rename_i T1 hp;obtain⟨h1,h2⟩:=mm hc rest (k+1) _ _ Yv h;refine⟨h1,λ ν F a w Q hs hf hq=>?_⟩;rw[aaZ,afW,wpOpsSIn];simp only[ID];refine⟨λ _ _=>trivial,?_⟩;rw[if_neg (by rw[j6 hs.t hw];simp)];exact h2 ν F _ w Q ⟨hs.g,hs.t.put aau hp,by rw[fJ];exact hs.d,hs.h⟩ hf hq
  ·rename_i hw;split at h
   ·rename_i v H1 n1 n_;split at h
    case h_2=>cases h
    rename_i T1 hp;obtain⟨h1,h2⟩:=mm hc rest (k+1) _ _ Yv h;simp only at h1 h2;have hle:=wD n_;refine⟨by omega,λ ν F a w Q hs hf hq=>?_⟩;rw[aaZ,afW,wpOpsSIn];simp only[ID];refine⟨λ _ _=>trivial,?_⟩;rw[if_pos (j6 hs.t hw)];obtain⟨ν',v',w',q,e1,e2,e3,e4,e5,e6⟩:=mh hs.op hs.h n_ (λ v H' n' e=>by cases e;exact λ i x y=>hf i x (by omega));have No:=e4.sub' hf h1;have VW:=h2 ν' F (a.put o.dst v') w' Q ⟨hs.g.mono No,(hs.t.mono No).put e3 hp,by rw[fJ];exact hs.d.mono No,e5⟩ (e4.fr hf h1) (λ ν2 a2 w2 g1 g2 g3=>hq ν2 a2 w2 (e4.trans g1) g2 (e6.trans g3));rw[e1];rcases e2 with rfl|⟨rfl,rfl⟩
    ·exact VW
    ·exact VW
   ·rename_i n_;split at h
    case h_2=>cases h
    rename_i T1 hp;obtain⟨h1,h2⟩:=mm hc rest (k+1) _ _ Yv h;refine⟨h1,λ ν F a w Q hs hf hq=>?_⟩;rw[aaZ,afW,wpOpsSIn];simp only[ID];refine⟨λ _ _=>trivial,?_⟩;rw[if_pos (j6 hs.t hw)];have e1:=mh hs.op hs.h n_ (λ v H' n' e=>by cases e);rw[show (execOp a.eval o).run P w=.ok .recover w from e1];have hrc:recoverD (c₀::cs)=none:=by simp[recoverD,hc]
    simp only[hrc];exact h2 ν F _ w Q ⟨hs.g,hs.t.put (.atom _ rfl) hp,by rw[fJ];exact hs.d,hs.h⟩ hf hq
   ·cases h
theorem Pz(By:kD P G ih)(hm:P.follows .mixedOrders=true){c₀:Frame}{cs:List Frame}(hc:c₀.mode=.returning):∀ (c:Code) (s:St) (e:Ex) (s':St),Je P G ih N c s=some (e,s')->s.n<=s'.n/\∀ν F a w (Q:Exit->Act->List Frame->World->Prop),SR ν G N s F a w->Fr ν s.n s'.n->
  (∀ν' a' w',Ext ν ν' s.n s'.n->SR ν' G N s' F a' w'->Below 0 w w'->Q e.out a' (c₀::cs) w')->c.wpSIn (Wr none) 0 P Q a (c₀::cs) w:=by
 have plain:∀ (c:Code) (s:St) (e:Ex) (s':St),jh P G ih none N c s=some (e,s')->s.n<=s'.n/\∀ν F a w (Q:Exit->Act->List Frame->World->Prop),SR ν G N s F a w->Fr ν s.n s'.n->
  (∀ν' a' w',Ext ν ν' s.n s'.n->SR ν' G N s' F a' w'->Below 0 w w'->Q e.out a' (c₀::cs) w')->c.wpSIn (Wr none) 0 P Q a (c₀::cs) w:=λ c s e s' h=>by
  obtain⟨q1,q2⟩:=pJ By hm _ _ _ _ h;exact⟨q1,λ ν F a w Q hs hf hq=>wpSIn_of_wpIn rfl (q2 ν F a w none _ .none hs hf hq)⟩
 intro c
 induction c with
 |seq x y ZD ihy=>
  intro s e s' h;rw[Je] at h;split at h
  ·rename_i s1 h1;obtain⟨q1,q2⟩:=ZD _ _ _ h1;obtain⟨p1,p2⟩:=ihy _ _ _ h;refine⟨by omega,λ ν F a w Q hs hf hk=>wpSIn_seq ?_⟩;refine q2 ν F a w _ hs (λ i a b=>hf i a (by omega)) (λ ν' a' w' k1 k2 k3=>?_);exact p2 ν' F a' w' Q k2 (k1.fr hf p1) (λ ν2 a2 w2 g1 g2 g3=>hk ν2 a2 w2 (k1.trans g1) g2 (k3.trans g3))
  ·rename_i u_;obtain⟨q1,q2⟩:=ZD _ _ _ h;refine⟨q1,λ ν F a w Q hs hf hk=>wpSIn_seq ?_⟩;refine q2 ν F a w _ hs hf (λ ν' a' w' k1 k2 k3=>?_);have:=hk ν' a' w' k1 k2 k3;cases e with
   |normal=>exact(u_ _ h).elim
   |exit id=>exact this
   |ret=>exact this
 |cond c x y ZD ihy=>
  intro s e s' h;rw[Je] at h;have C_:∀ν F a w b,SR ν G N s F a w->ael s.T c=.bool b->a.eval c=.bool b:=λ ν F a w b hs he=>by
   cases c with
   |tmp t=>
    have:=(FE.mk hs.t hs.g:FE ν G N s.T a).ael (x:=.tmp t) rfl;rw[he] at this;exact this.plain_eq rfl
   |const v=>exact he
   |global g=>cases he
   |func f=>cases he
  split at h
  ·rename_i he;obtain⟨q1,q2⟩:=ZD _ _ _ h;exact⟨q1,λ ν F a w Q hs hf hk=>wpSIn_cond (C_ _ _ _ _ _ hs he) (q2 ν F a w Q hs hf hk)⟩
  ·rename_i he;obtain⟨q1,q2⟩:=ihy _ _ _ h;exact⟨q1,λ ν F a w Q hs hf hk=>wpSIn_cond (C_ _ _ _ _ _ hs he) (q2 ν F a w Q hs hf hk)⟩
  ·cases h
 |region id ops draw=>
  intro s e s' h;cases draw with
  |true=>rw[Je] at h;exact plain _ _ _ _ h;all_goals simp
  |false=>
   rw[Je] at h;split at h
   ·rename_i s1 h1;cases h;obtain⟨q1,q2⟩:=mm hc _ 0 _ _ (by simp) h1;refine⟨q1,λ ν F a w Q hs hf hk=>wpSIn_region ?_⟩;have:=q2 ν F a w Q hs hf hk;rw[List.range_eq_range'];simpa using this
   ·split at h
    ·rename_i x h1;cases h;exact plain _ _ _ _ h1
    ·cases h
 |_=>intro s e s' h;rw[Je] at h;exact plain _ _ _ _ h;all_goals simp
theorem PA(By:kD P G ih)(hm:P.follows .mixedOrders=true){f:FuncId}{H:AH}(h:gS P G ih (.dfn f args H n)=some res):jH P G (.dfn f args H n) res:=by
 simp only[gS] at h;split at h
 case h_2=>cases h
 rename_i fn c hb;split at h
 case h_2=>cases h
 rename_i hle;obtain⟨b1,b2⟩:=zB hb;split at h
 ·cases h
 ·rename_i e s u_ Ux;split at h
  ·rename_i hd;split at h
   ·rename_i vs X4;cases h;have hq:∀ (c₀:Frame) (cs:List Frame),c₀.mode=.returning->_:=λ c₀ cs hc=>Pz (c₀:=c₀) (cs:=cs) By hm hc _ _ _ _ Ux;have hn:n<=s.n:=(hq { (default:Frame) with mode:=.returning } [] rfl).1;refine⟨hn,λ ν F w q_ hg hf hH hl=>?_⟩;refine callsDIn_of_wpSIn b1 b2 trivial (λ c₀ cs hc=>?_);refine(hq c₀ cs hc).2 ν F _ w _ ⟨hg,ve hl (bK hle),.nil,hH⟩ hf (λ ν' a' w' k1 k2 k3=>?_);have hdd:a'.defers=[]:=by
     have:=k2.d;rw[hd] at this;generalize a'.defers=q at this;cases this;rfl
    obtain⟨v',r1,r2⟩:=sJ (G:=G) (fn:=fn) (a:=a') (FE.mk k2.t k2.g) k2.h X4;have hcc:c₀::cs={ c₀ with mode:=.returning }::cs:=by rw[<- hc]
    have VW:a'.defers=[]/\∃u',c₀::cs={ c₀ with mode:=u' }::cs/\∃v,(results fn a'.tmps).run P w'=.ok v w'/\(u'=.returning/\Jv ν (yZ vs) n s.n s.H F w (.returned v) w') :=
     ⟨hdd,.returning,hcc,v',r2,rfl,ν',v',rfl,r1,k1,k2.h,k3⟩
    cases e with
    |normal=>exact VW
    |ret=>exact VW
    |exit id=>first|exact(u_ _ _ rfl).elim|exact(u_ _ rfl).elim|exact(u_ _ _).elim
   ·cases h
  ·cases h
 ·cases h
theorem JF(By:kD P G ih)(hm:P.follows .mixedOrders=true):kD P G (gS P G ih):=by
 intro t res h;cases t with
 |code r N c s=>
  simp only[gS] at h;split at h
  ·rename_i h1;cases h;exact pJ By hm _ _ _ _ h1
  ·cases h
 |loop r N c s=>
  simp only[gS] at h;split at h
  ·rename_i h1;cases h;exact zz By (λ s e s' h=>pJ By hm _ _ _ _ h) h1
  ·cases h
 |fn f args H n=>exact RA By hm h
 |rnd l T N as bo H n=>exact Py By hm h
 |dfn f args H n=>exact PA By hm h
theorem Dn(hm:P.follows .mixedOrders=true):∀k,kD P G (Jf P G k)
 |0=>λ t res h=>by rw[Jf] at h;cases h
 |k+1=>by
  have:=JF (Dn hm k) hm;intro t res h;rw[Jf] at h;exact this t res h
end fn
end Go.Proofs.YtjokannbjmndfaaGreatDoor
