import Derived.Test.YtdppjkjbghbnjaaGreatDoorZ14
set_option maxHeartbeats 4000000
set_option maxRecDepth 100000
set_option linter.all false
namespace Go.Proofs.YtdppjkjbghbnjaaGreatDoor
open Go.RowKit
section code
variable {ν ν':Nu} {P:Program} {G N:Nat} {T T':Tr Value} {a:Act} {H H':AH} {F:HL} {w w':World} {r r':Option Nat} {ih:Task -> Option Rs}
theorem Ext.sub'{n m k:Nat}(h1:Ext ν ν' n m)(hf:Fr ν n k)(hm:m <= k):ν.Le ν':=h1.sub λ i a b=>hf i a (by omega)
theorem yG(u_:kC P G ih){c:Code}(hc:∀ (s:St) e s',ji P G ih r N c s=some (e,s') -> jJ P G (.code r N c s) (.cd e s')){s s':St}{e:Ex}(h:ji P G ih r N (.loop c) s=some (e,s')):jJ P G (.loop r N c s) (.cd e s'):=by
 rw[ji] at h;split at h
 ·rename_i s1 h1;obtain⟨q1,q2⟩:=hc _ _ _ h1;split at h
  ·rename_i e2 s2 h2;cases h;obtain⟨p1,p2⟩:=u_ _ _ h2;refine⟨by omega,λ ν F a w r' Q hr hs hf hk=>yB ?_⟩;refine q2 ν F a w r' _ hr hs (λ i a b=>hf i a (by omega)) (λ ν' a' w' k1 k2 k3=>?_);have IT:=k1.sub' hf p1;exact p2 ν' F a' w' r' Q (hr.mono IT) k2 (k1.fr hf p1) (λ ν2 a2 w2 g1 g2 g3=>hk ν2 a2 w2 (k1.trans g1) g2 (k3.trans g3))
  ·cases h
 ·rename_i x z_;obtain⟨q1,q2⟩:=hc _ _ _ h;refine⟨q1,λ ν F a w r' Q hr hs hf hk=>yB ?_⟩;refine q2 ν F a w r' _ hr hs hf (λ ν' a' w' k1 k2 k3=>?_);have:=hk ν' a' w' k1 k2 k3;cases e with
  | normal=>exact(z_ _ h).elim
  | exit id=>exact this
  | ret=>exact this
theorem Iq{c:Code}{e:Ex}{Q:Exit -> Act -> World -> Prop}{a:Act}(h:Ck c=some e)(hq:Q e.out a w):c.wpIn (Wr r') 0 P Q a w:=by
 unfold Ck at h;split at h
 ·cases h;exact wpIn_ret hq
 ·cases h;exact wpIn_exit hq
 ·cases h
theorem AY{fn:FuncId}{tm:Array Value}{ps:Array Tmp}{aZz bo:Code}{w:World}:(Instr.enterLoop fn tm ps aZz bo none).run P w =
  .ok (w.heap.size+1,[{ target:=.collected w.heap.size,args:=#[] }]) { w with heap:=(w.heap.push (.deferred (some []))).push (.loop { state:=.ready,pending:=none,fn,tmps:=tm,params:=ps,assign:=aZz,body:=bo,defers:=w.heap.size }) }:=by
 unfold Instr.enterLoop;simp only[aaZ,fj,cD,aaY,Array.size_push]
theorem AZ{fn:FuncId}{tm:Array Value}{ps:Array Tmp}{aZz bo:Code}{w:World}{l:Nat}{lp:Loop}(h:w.heap[l]?=some (.loop lp)):(Instr.enterLoop fn tm ps aZz bo (some l)).run P w =
  .ok (w.heap.size,[]) { w with heap:=w.heap.push (.loop { state:=.ready,pending:=none,fn,tmps:=tm,params:=ps,assign:=aZz,body:=bo,defers:=lp.defers }) }:=by
 unfold Instr.enterLoop;simp only[aaZ,fj,cD,aaY,gT h]
theorem lC{l:Nat}{lp:Loop}{o:Obj}(h:w.heap[l]?=some (.loop lp)):(setObj l o).run P w=.ok () { w with heap:=w.heap.setIfInBounds l o }:=by
 unfold setObj;rw[Sem.run.eq_def];simp only[h];rfl
theorem HR.setObj(hH:HR ν H F w){h b K:Nat}{b0 b1:AB}{o':Obj}(hb:b7 H h=some b0)(hw0:H5 b0=true)(hw1:H5 b1=true)(hν:ν h=some (b,K))(ho:OR ν K b1 o'):HR ν (cX H h (some b1)) F { w with heap:=w.heap.setIfInBounds b o' }:=by
 have iN:=hH.lt hb hν;refine hH.upd hb hw0 hw1 hν (o':=o') ?_ ho (λ k hk=>?_)
 ·show (w.heap.setIfInBounds b o')[b]?=_;rw[Array.getElem?_setIfInBounds_self_of_lt iN]
 ·show (w.heap.setIfInBounds b o')[k]?=_;rw[Array.getElem?_setIfInBounds_ne (Ne.symm hk)]
theorem l8{b:Nat}{o:Obj}:Below 0 w { w with heap:=w.heap.setIfInBounds b o }:=⟨rfl,rfl,rfl,by simp,λ k hk=>by omega⟩
theorem yH{l:Nat}{lp:Loop}(h:w.heap[l]?=some (.loop lp))(hb:lp.state ≠ .busy):(Instr.endLoop l).run P w=.ok lp.pending { w with heap:=w.heap.setIfInBounds l (.loop { lp with state:=.exhausted }) }:=by
 unfold Instr.endLoop;rw[aaZ,gT h];simp only[aaY];rw[if_neg (by simpa using hb)];rw[aaZ,lC h];rfl
theorem EO(u_:kC P G ih){g:Operand}{ps:Array Tmp}{aZz bo:Code}{s s':St}{e:Ex}(h:ji P G ih r N (.rangeFunc g ps aZz bo) s=some (e,s')):jJ P G (.code r N (.rangeFunc g ps aZz bo) s) (.cd e s'):=by
 rw[ji.eq_def] at h;simp only at h;split at h
 case h_2=>cases h
 rename_i f first captured hg hk
 split at h
 case h_2=>cases h
 rename_i hB;split at h
 case h_2=>cases h
 rename_i d D H1 n1 R0;split at h
 case h_2=>cases h
 rename_i v H2 n2 SV;split at h
 case h_2=>cases h
 rename_i st pend T' N' VS VB bo' d' hlp;obtain⟨hle,Vc⟩:=u_ _ _ SV;have Uo:s.n <= n1:=by
  cases r with
  | none=>simp only[Option.some.injEq,Prod.mk.injEq] at R0;omega
  | some l0 =>
   simp only at R0;split at R0
   ·simp only[Option.some.injEq,Prod.mk.injEq] at R0;omega
   ·cases R0
 have n_:st ≠ .busy:=by
  rintro rfl;simp at h
 have RS:s'=⟨s.T,D,cX H2 n1 (some (.loop .exhausted pend T' N' VS VB bo' d')),n2⟩ /\ ((pend=none /\ e=.normal) \/ ∃c,pend=some c /\ Ck c=some e):=by
  cases st with
  | busy=>exact(n_ rfl).elim
  | _ =>
   cases pend with
   | none=>simp at h;exact⟨h.2.symm,.inl ⟨rfl,h.1.symm⟩⟩
   | some c =>
    simp only at h;split at h
    ·rename_i e1 he;cases h;exact⟨rfl,.inr ⟨c,rfl,he⟩⟩
    ·cases h
 obtain⟨rfl,abZ⟩:=RS;refine⟨by simp only;omega,λ ν F a w r' Q hr hs hf hkk=>?_⟩;simp only at hf hkk;refine wpIn_rangeFunc λ fn _=>?_;have af2:∃ (l:Nat) (mark:List Deferred) (w1:World) (ν1:Nu),(Instr.enterLoop fn a.tmps ps aZz bo (Wr r').round).run P w=.ok (l,mark) w1 /\ ν1 n1=some (l,0) /\ Ext ν ν1 s.n (n1+1) /\ HR ν1 (cX H1 n1 (some (.loop .ready none s.T N ps aZz bo d))) F w1 /\ Below 0 w w1 /\ DsR ν1 D (mark++a.defers) /\ ν.Le ν1:=by
  cases hr with
  | none =>
   simp only[Option.some.injEq,Prod.mk.injEq] at R0;obtain⟨e1,e2,e3,e4⟩:=R0;subst e1;subst e2;subst e3;subst e4;have SE:ν s.n=none:=hf _ (aaI _) (by omega);have hx1:Ext ν (ν.upd s.n w.heap.size 0) s.n (s.n+1):=.upd;have Vs:=j4 (r:=w.heap.size) (K:=0) SE;have h1:HR (ν.upd s.n w.heap.size 0) (cX s.H s.n (some (.dfr false))) F { w with heap:=w.heap.push (.deferred (some [])) }:=hs.h.new (K:=0) SE (b:=.dfr false) (o:=.deferred (some [])) rfl rfl rfl;have hn2:(ν.upd s.n w.heap.size 0) (s.n+1)=none:=by rw[eR (by omega)];exact hf _ (by omega) (by omega)
   have hx2:Ext (ν.upd s.n w.heap.size 0) ((ν.upd s.n w.heap.size 0).upd (s.n+1) (w.heap.size+1) 0) (s.n+1) (s.n+1+1):=.upd;have Wh:=j4 (r:=w.heap.size+1) (K:=0) hn2;have h2:=h1.new (K:=0) (w':={ w with heap:=(w.heap.push (.deferred (some []))).push (.loop { state:=.ready,pending:=none,fn,tmps:=a.tmps,params:=ps,assign:=aZz,body:=bo,defers:=w.heap.size }) }) hn2 (b:=.loop .ready none s.T N ps aZz bo s.n) (o:=.loop { state:=.ready,pending:=none,fn,tmps:=a.tmps,params:=ps,assign:=aZz,body:=bo,defers:=w.heap.size }) ⟨rfl,rfl,hs.t.mono Vs,rfl,rfl,rfl,0,cB⟩ rfl rfl;have IN:({ w with heap:=w.heap.push (.deferred (some [])) }:World).heap.size=w.heap.size+1:=by simp
   rw[IN] at h2;refine⟨w.heap.size+1,_,_,_,AY,cB,hx1.trans hx2,h2,⟨rfl,rfl,rfl,by simp;omega,λ k hk=>by omega⟩,.cons ⟨.coll (b:=w.heap.size) (K:=0) ?_,.nil⟩ ((hs.d.mono Vs).mono Wh),Vs.trans Wh⟩;exact Wh _ _ cB
  | @some l0 b0 K0 hν0 =>
   simp only at R0;split at R0
   case h_2=>cases R0
   rename_i _ _ _ _ _ _ _ dd Vh;simp only[Option.some.injEq,Prod.mk.injEq] at R0;obtain⟨e1,e2,e3,e4⟩:=R0;subst e1;subst e2;subst e3;subst e4;obtain⟨lp,g1,g2,g3,g4,g5,g6,g7,K',g8⟩:=hs.h.loop Vh hν0;have SE:ν s.n=none:=hf _ (aaI _) (by omega);have Vs:=j4 (r:=w.heap.size) (K:=0) SE;have h1:=hs.h.new (K:=0) (w':={ w with heap:=w.heap.push (.loop { state:=.ready,pending:=none,fn,tmps:=a.tmps,params:=ps,assign:=aZz,body:=bo,defers:=lp.defers }) }) SE (b:=.loop .ready none s.T N ps aZz bo dd) (o:=.loop { state:=.ready,pending:=none,fn,tmps:=a.tmps,params:=ps,assign:=aZz,body:=bo,defers:=lp.defers }) ⟨rfl,rfl,hs.t,rfl,rfl,rfl,K',g8⟩ rfl rfl;refine⟨w.heap.size,_,_,_,AZ g1,cB,.upd,h1,⟨rfl,rfl,rfl,by simp,λ k hk=>by omega⟩,hs.d.mono Vs,Vs⟩
 obtain⟨l,mark,w1,ν1,g1,g2,g3,g4,g5,g6,g7⟩:=af2;have hgv:VRi ν (ael s.T g) (a.eval g):=(FE.mk hs.t hs.g:FE ν G N s.T a).ael hk;rw[hg] at hgv;obtain⟨fn',f',c',e',r1,r2,r3⟩:=rO hgv;cases r1;refine⟨l,mark,w1,{ target:=.fn (.func f) c',args:=f'++#[.func (.yield l) #[] #[]] },w1,f,⟨f'.toList++(.func (.yield l) #[] #[]::c'.toList)⟩,w1,g1,?_,λ _ _=>trivial,?_,λ h=>(by cases h),?_⟩
 ·have:=ng (P:=P) (c:=rangeCall g l) (ty:=0) (ρ:=a.eval) rfl e' w1;rw[this];simp[Act.eval]
 ·show (callFunc f (f'++#[.func (.yield l) #[] #[]]++c')).run P w1=_;rw[iB hB];congr 2;apply Array.ext';simp
 ·have TY:Fr ν1 (n1+1) n2:=g3.fr hf (by omega);refine jL ((Vc ν1 F w1 _ (hs.g.mono g7) TY g4 ((r2.mono g7).append (.cons (.func_of (.yield g2) .nil .nil) (r3.mono g7)))).mono ?_);rintro en w3 ⟨ν3,v',rfl,k1,k2,k3,k4⟩;have Vt:ν3 n1=some (l,0):=k2.sub TY _ _ g2;obtain⟨lp,q1,q2,q3,q4,q5,q6,q7,K',q8⟩:=k3.loop hlp Vt;refine⟨lp.pending,_,yH q1 (by rw[q2];exact n_),?_⟩;have hH3:HR ν3 (cX H2 n1 (some (.loop .exhausted pend T' N' VS VB bo' d'))) F { w3 with heap:=w3.heap.setIfInBounds l (.loop { lp with state:=.exhausted }) } :=
   k3.setObj hlp rfl rfl Vt ⟨rfl,q3,q4,q5,q6,q7,K',q8⟩
  have ahg:Ext ν ν3 s.n n2:=g3.trans k2;have Tl:=hkk ν3 { a with defers:=mark++a.defers } { w3 with heap:=w3.heap.setIfInBounds l (.loop { lp with state:=.exhausted }) } ahg ⟨(hs.g.mono g7).mono (k2.sub TY),(hs.t.mono g7).mono (k2.sub TY),g6.mono (k2.sub TY),hH3⟩ ((g5.trans k4).trans l8);rcases abZ with ⟨hp,he⟩|⟨c,hp,he⟩
  ·rw[q3.trans hp] at Tl ⊢;subst he;exact Tl
  ·rw[q3.trans hp] at Tl ⊢;exact Iq he Tl
theorem o0(u_:kC P G ih)(hm:P.follows .mixedOrders=true):∀ (c:Code) (s:St) (e:Ex) (s':St),ji P G ih r N c s=some (e,s') -> jJ P G (.code r N c s) (.cd e s'):=by
 have calm:∀ (c:Code) (s:St) (e:Ex),(∀r' (Q:Exit -> Act -> World -> Prop) a w,Q e.out a w -> c.wpIn (Wr r') 0 P Q a w) -> jJ P G (.code r N c s) (.cd e s):=λ c s e h =>
  ⟨aaI _,λ ν F a w r' Q hr hs hf hk=>h r' Q a w (hk ν a w (.refl _ _) hs (Below.refl _ _))⟩
 intro c
 induction c with
 | skip=>intro s e s' h;rw[ji] at h;cases h;exact calm _ _ _ λ r' Q a w hq=>wpIn_skip hq
 | label l=>intro s e s' h;rw[ji] at h;cases h;exact calm _ _ _ λ r' Q a w hq=>wpIn_label hq
 | exit id=>intro s e s' h;rw[ji] at h;cases h;exact calm _ _ _ λ r' Q a w hq=>wpIn_exit hq
 | ret=>intro s e s' h;rw[ji] at h;cases h;exact calm _ _ _ λ r' Q a w hq=>wpIn_ret hq
 | goto l=>intro s e s' h;rw[ji] at h;cases h
 | refuse y=>intro s e s' h;rw[ji] at h;cases h
 | region id ops draw =>
  intro s e s' h;rw[ji.eq_def] at h;simp only at h;split at h
  ·split at h
   ·rename_i s1 h1;cases h;obtain⟨q1,q2⟩:=nZ u_ _ _ _ h1;exact⟨q1,λ ν F a w r' Q hr hs hf hk=>wpIn_region_list (q2 ν F a w r' Q hr hs hf hk)⟩
   ·cases h
  ·split at h
   ·rename_i s1 h1;cases h;exact Ll u_ hm h1
   ·cases h
 | seq x y Xg YY =>
  intro s e s' h;rw[ji] at h;split at h
  ·rename_i s1 h1;obtain⟨q1,q2⟩:=Xg _ _ _ h1;obtain⟨p1,p2⟩:=YY _ _ _ h;refine⟨by omega,λ ν F a w r' Q hr hs hf hk=>wpIn_seq ?_⟩;refine q2 ν F a w r' _ hr hs (λ i a b=>hf i a (by omega)) (λ ν' a' w' k1 k2 k3=>?_);exact p2 ν' F a' w' r' Q (hr.mono (k1.sub' hf p1)) k2 (k1.fr hf p1) (λ ν2 a2 w2 g1 g2 g3=>hk ν2 a2 w2 (k1.trans g1) g2 (k3.trans g3))
  ·rename_i z_;obtain⟨q1,q2⟩:=Xg _ _ _ h;refine⟨q1,λ ν F a w r' Q hr hs hf hk=>wpIn_seq ?_⟩;refine q2 ν F a w r' _ hr hs hf (λ ν' a' w' k1 k2 k3=>?_);have:=hk ν' a' w' k1 k2 k3;cases e with
   | normal=>exact(z_ _ h).elim
   | exit id=>exact this
   | ret=>exact this
 | cond c x y Xg YY =>
  intro s e s' h;rw[ji] at h;have D_:∀ν F a w b,SR ν G N s F a w -> ael s.T c=.bool b -> a.eval c=.bool b:=λ ν F a w b hs he=>by
   cases c with
   | tmp t =>
    have:=(FE.mk hs.t hs.g:FE ν G N s.T a).ael (x:=.tmp t) rfl;rw[he] at this;exact this.plain_eq rfl
   | const v=>exact he
   | global g=>cases he
   | func f=>cases he
  split at h
  ·rename_i he;obtain⟨q1,q2⟩:=Xg _ _ _ h;exact⟨q1,λ ν F a w r' Q hr hs hf hk=>wpIn_cond_true (D_ _ _ _ _ _ hs he) (q2 ν F a w r' Q hr hs hf hk)⟩
  ·rename_i he;obtain⟨q1,q2⟩:=YY _ _ _ h;exact⟨q1,λ ν F a w r' Q hr hs hf hk=>wpIn_cond_false (D_ _ _ _ _ _ hs he) (q2 ν F a w r' Q hr hs hf hk)⟩
  ·cases h
 | block id c ihc =>
  intro s e s' h;rw[ji] at h;split at h
  ·rename_i UP s1 h1;obtain⟨q1,q2⟩:=ihc _ _ _ h1;split at h
   ·rename_i hid;cases h;have agc:UP=id:=aaW hid;refine⟨q1,λ ν F a w r' Q hr hs hf hk=>wpIn_block ?_⟩;refine q2 ν F a w r' _ hr hs hf (λ ν' a' w' k1 k2 k3=>?_);show (if UP=id then _ else _);rw[if_pos agc];exact hk ν' a' w' k1 k2 k3
   ·rename_i hid;cases h;refine⟨q1,λ ν F a w r' Q hr hs hf hk=>wpIn_block ?_⟩;refine q2 ν F a w r' _ hr hs hf (λ ν' a' w' k1 k2 k3=>?_);show (if UP=id then _ else _);rw[if_neg (λ e=>by subst e;simp at hid)];exact hk ν' a' w' k1 k2 k3
  ·rename_i z_;obtain⟨q1,q2⟩:=ihc _ _ _ h;refine⟨q1,λ ν F a w r' Q hr hs hf hk=>wpIn_block ?_⟩;refine q2 ν F a w r' _ hr hs hf (λ ν' a' w' k1 k2 k3=>?_);have:=hk ν' a' w' k1 k2 k3;cases e with
   | normal=>exact this
   | exit UP=>exact(z_ _ _ h).elim
   | ret=>exact this
 | loop c ihc =>
  intro s e s' h;obtain⟨q1,q2⟩:=yG u_ (λ s e s' h=>ihc s e s' h) h;exact⟨q1,λ ν F a w r' Q hr hs hf hk=>AW (q2 ν F a w r' Q hr hs hf hk)⟩
 | rangeFunc g ps aZz bo _ _=>intro s e s' h;exact EO u_ h
 | scope c ihc =>
  intro s e s' h;rw[ji] at h;obtain⟨q1,q2⟩:=ihc _ _ _ h;refine⟨q1,λ ν F a w r' Q hr hs hf hk=>ii ?_⟩;refine q2 ν F a w r' _ hr hs hf (λ ν' a' w' k1 k2 k3=>?_);have:=hk ν' a' w' k1 k2 k3;cases e <;> exact this
end code
section fn
variable {ν ν':Nu} {P:Program} {G N:Nat} {T T':Tr Value} {a:Act} {H H':AH} {F:HL} {w w':World} {r r':Option Nat} {ih:Task -> Option Rs}
theorem uk{args j_:List Value}(h:LR ν args j_)(hl:gt args <= N):TRel ν N (mG args) ((⟨j_⟩:Array Value)++Array.replicate (N-(⟨j_⟩:Array Value).size) undef):=by
 rw[ep] at hl;have hlen:=h.length;refine⟨by simp;omega,λ t ht=>?_,λ t ht=>?_⟩
 ·rcases aaU t args.length with h1|h1
  ·obtain⟨v',e,q⟩:=h.get (aaO h1);refine⟨v',?_,?_⟩
   ·rw[Array.getElem?_append_left (by simp;omega)];simpa using e
   ·unfold mG;rw[lz h1];exact q
  ·refine⟨undef,?_,?_⟩
   ·rw[Array.getElem?_append_right (by simp;omega),Array.getElem?_replicate];rw[if_pos (by simp;omega)]
   ·have:cY (mG args) t=undef:=by
     unfold mG cY;rw[qy];rw[if_pos (aaJ _),dif_neg (by omega)];exact AJ _
    rw[this];exact aau
 ·unfold mG cY;rw[qy,if_pos (aaJ _),dif_neg (by omega)];exact AJ _
def Ir(tm:Array Value):ResultVar -> Sem Value
 | .tmp t=>pure (tm.getD t undef)
 | .cell ad t=>do loadVar t (<- asAddr (tm.getD ad undef))
theorem o7(hE:FE ν G N T a)(hH:HR ν H F w):∀ {rs:List ResultVar} {vs:List Value},oU P T H rs=some vs -> ∃K_,LR ν vs K_ /\ (rs.mapM (Ir a.tmps)).run P w=.ok K_ w
 | [],vs,h=>by rw[oU] at h;cases h;exact⟨[],.nil,rfl⟩
 | .tmp t::rs,vs,h=>by
  rw[oU] at h;split at h
  ·rename_i vs0 h0;cases h;obtain⟨K_,q1,q2⟩:=o7 hE hH h0;have hv:VRi ν (cY T t) (a.tmps.getD t undef):=hE.ael (x:=.tmp t) rfl
   haveI:=jc
   refine⟨_,.cons hv q1,?_⟩;have h1:(Ir a.tmps (.tmp t)).run P w=.ok (a.tmps.getD t undef) w:=rfl;rw[List.mapM_cons,aaZ,h1];simp only[aaY];rw[aaZ,q2];rfl
  ·cases h
 | .cell ad t::rs,vs,h=>by
  rw[oU] at h;split at h
  ·rename_i ad' he;split at h
   ·rename_i v vs0 hv h0;cases h;obtain⟨K_,q1,q2⟩:=o7 hE hH h0;have hp:VRi ν (cY T ad) (a.tmps.getD ad undef):=hE.ael (x:=.tmp ad) rfl;rw[he] at hp;generalize hu:a.tmps.getD ad undef=u at hp;have hp2:=hp;cases hp with
    | atom _ h=>simp[cI] at h
    | ptr o hν =>
     obtain⟨v',r1,r2⟩:=yu (P:=P) (t:=t) hH hp2 hv
     haveI:=jc
     refine⟨_,.cons r1 q1,?_⟩;have h1:(Ir a.tmps (.cell ad t)).run P w=.ok v' w:=by
      show ((asAddr (a.tmps.getD ad undef)) >>= λ x=>loadVar t x).run P w=_;rw[hu,aaZ];exact r2
     rw[List.mapM_cons,aaZ,h1];simp only[aaY];rw[aaZ,q2];rfl
   ·cases h
  ·cases h
theorem rS{fn:Func}{vs:List Value}(hE:FE ν G N T a)(hH:HR ν H F w)(h:oU P T H fn.results.toList=some vs):∃v',VRi ν (yf vs) v' /\ (results fn a.tmps).run P w=.ok v' w:=by
 obtain⟨K_,q1,q2⟩:=o7 hE hH h
 haveI:=jc
 have h5:(fn.results.mapM (Ir a.tmps)).run P w=.ok ⟨K_⟩ w:=by
  rw[Array.mapM_eq_mapM_toList,<- bind_pure_comp,aaZ,q2];rfl
 have h6:∀v',(∀W,(pure (if h:(⟨K_⟩:Array Value).size=1 then (⟨K_⟩:Array Value)[0] else .tuple ⟨K_⟩):Sem Value).run P W=.ok v' W) -> (results fn a.tmps).run P w=.ok v' w:=λ v' hv=>by
  have:results fn a.tmps=(fn.results.mapM (Ir a.tmps) >>= λ vs=>pure (if h:vs.size=1 then vs[0] else .tuple vs)):=rfl;rw[this,aaZ,h5];exact hv w
 cases q1 with
 | nil=>exact⟨_,.tuple_of .nil,h6 _ λ W=>rfl⟩
 | cons h1 h2 =>
  cases h2 with
  | nil=>exact⟨_,h1,h6 _ λ W=>rfl⟩
  | cons h3 h4=>exact⟨_,.tuple_of (.cons h1 (.cons h3 h4)),h6 _ λ W=>rfl⟩
theorem l9(u_:kC P G ih){fn:Func}{tm:Array Value}{R:Ending -> World -> Prop}:∀ {D:List Deferred} {H:AH} {n:Nat} {H':AH} {n':Nat},kq P ih D H n=some (H',n') -> n <= n' /\ ∀ν D' w,Glb ν G -> DsR ν D D' -> HR ν H F w -> Fr ν n n' ->
  (∀ν' w',Ext ν ν' n n' -> HR ν' H' F w' -> Below 0 w w' -> LeavesInM (Wr none) 0 P fn tm R [] .returning w') -> LeavesInM (Wr none) 0 P fn tm R D' .returning w
 | [],H,n,H',n',h=>by
  rw[kq] at h;cases h;exact⟨aaI _,λ ν D' w hg hd hH hf hk=>by cases hd;exact hk ν w (.refl _ _) hH (Below.refl _ _)⟩
 | d::ds,H,n,H',n',h=>by
  rw[kq] at h;split at h
  ·rename_i hd ht;split at h
   ·rename_i hb;obtain⟨q1,q2⟩:=l9 u_ (fn:=fn) (tm:=tm) (R:=R) h;refine⟨q1,λ ν D' w hg hds hH hf hk=>?_⟩;cases hds with
    | @cons _ d' _ l' hdr hl =>
    obtain⟨ZN,hda⟩:=hdr;rw[ht] at ZN;generalize htt:d'.target=tt at ZN;cases ZN with
    | @coll _ b K hν =>
    obtain⟨rr,K',o,g1,g2,g3⟩:=hH.blk _ _ hb;rw[hν] at g1;cases g1;unfold OR at g3;split at g3
    ·rename_i e1;cases e1
    ·rename_i e1;cases e1
    ·rename_i e1;cases e1
    ·rename_i sh cc e1;cases e1;subst g3;refine⟨by simp,.inl ⟨b,{ w with heap:=w.heap.setIfInBounds b (.deferred none) },htt,?_,?_⟩⟩
     ·unfold Instr.takeDeferred;rw[aaZ];have h1:(getObj b).run P w=.ok (.deferred (some [])) w:=by
       unfold getObj;rw[Sem.run.eq_def];simp only[g2];rfl
      rw[h1];simp only[aaY];rw[aaZ];have h2:(setObj b (.deferred none)).run P w=.ok () { w with heap:=w.heap.setIfInBounds b (.deferred none) }:=by
       unfold setObj;rw[Sem.run.eq_def];simp only[g2];rfl
      rw[h2];rfl
     ·have h3:HR ν (cX H hd (some (.dfr true))) F { w with heap:=w.heap.setIfInBounds b (.deferred none) }:=hH.setObj hb rfl rfl hν (b1:=.dfr true) (o':=.deferred none) rfl;exact q2 ν l' _ hg hl h3 hf (λ ν' w' k1 k2 k3=>hk ν' w' k1 k2 (l8.trans k3))
    ·exact g3.elim
   ·cases h
  ·rename_i f captured ht;split at h
   case h_2=>cases h
   rename_i hB;split at h
   case h_2=>cases h
   rename_i v H1 n1 hc;obtain⟨p1,p2⟩:=u_ _ _ hc;obtain⟨q1,q2⟩:=l9 u_ (fn:=fn) (tm:=tm) (R:=R) h;refine⟨by omega,λ ν D' w hg hds hH hf hk=>?_⟩;cases hds with
   | @cons _ d' _ l' hdr hl =>
   obtain⟨ZN,hda⟩:=hdr;rw[ht] at ZN;generalize htt:d'.target=tt at ZN;cases ZN with
   | @fn _ f' _ c' YA TY =>
   cases YA;refine⟨by simp,.inr ⟨λ h=>(by cases h),.func f,c',f,⟨d'.args.toList++c'.toList⟩,htt,?_,λ _ _=>trivial,?_⟩⟩
   ·rw[htt];show (callFunc f (d'.args++c')).run P w=_;rw[iB hB];congr 2;apply Array.ext';simp
   ·refine(p2 ν F w _ hg (λ i a b=>hf i a (by omega)) hH (hda.append TY)).mono ?_;rintro en u' w2 ⟨rfl,ν2,v',rfl,k1,k2,k3,k4⟩;have IT:=k2.sub' hf q1;show LeavesInM (Wr none) 0 P fn tm R l' (settle .returning) w2;exact q2 ν2 l' w2 (hg.mono IT) (hl.mono IT) k3 (k2.fr hf q1) (λ ν3 w3 g1 g2 g3=>hk ν3 w3 (k2.trans g1) g2 (k4.trans g3))
  ·cases h
theorem yI{f:FuncId}{fn:Func}{c:Code}(h:rC P f=some (fn,c)):P.funcs[f]?=some fn /\ fn.body=some c:=by
 unfold rC at h;split at h
 ·rename_i fn' hf;split at h
  ·rename_i c' hc;cases h;exact⟨hf,hc⟩
  ·cases h
 ·cases h
theorem PH(u_:kC P G ih)(hm:P.follows .mixedOrders=true){f:FuncId}{args:List Value}{H:AH}{n:Nat}{res:Rs}(h:gS P G ih (.fn f args H n)=some res):jJ P G (.fn f args H n) res:=by
 simp only[gS] at h;split at h
 case h_2=>cases h
 rename_i fn c hb;split at h
 case h_2=>cases h
 rename_i hle;obtain⟨b1,b2⟩:=yI hb;have fin:∀e s H2 n2 vs,(e=.normal \/ e=.ret) -> ji P G ih none fn.ntmps c ⟨mG args,[],H,n⟩=some (e,s) -> kq P ih s.D s.H s.n=some (H2,n2) -> oU P s.T H2 fn.results.toList=some vs -> jJ P G (.fn f args H n) (.fn (yf vs) H2 n2):=by
  intro e s H2 n2 vs he UH Wg VE;obtain⟨q1,q2⟩:=o0 u_ hm _ _ _ _ UH;simp only at q1 q2;have Zw:=(l9 (F:=[]) (fn:=fn) (tm:=#[]) (R:=λ _ _=>True) u_ Wg).1;refine⟨by omega,λ ν F w j_ hg hf hH hl=>?_⟩;refine callsIn_wide.1 (callsIn_of_wp_marks (F:=Fence.wide) (n:=0) b1 b2 trivial ?_);have hlen:=hl.length;refine q2 ν F _ w none _ .none ⟨hg,uk hl (bW hle),.nil,hH⟩ (λ i a b=>hf i a (by omega)) (λ ν' a' w' k1 k2 k3=>?_);have IT:=k1.sub' hf Zw;have afW:=(l9 (F:=F) (fn:=fn) (tm:=a'.tmps) (R:=Ii ν (yf vs) n n2 H2 F w) u_ Wg).2 ν' a'.defers w' k2.g k2.d k2.h (k1.fr hf Zw) (λ ν2 w2 g1 g2 g3=>by
   have Yn:=g1.sub (k1.fr hf Zw);obtain⟨v',r1,r2⟩:=rS (G:=G) (fn:=fn) (a:=a') (FE.mk (k2.t.mono Yn) (k2.g.mono Yn)) g2 VE;exact⟨v',r2,ν2,v',rfl,r1,k1.trans g1,g2,k3.trans g3⟩)
  rcases he with rfl|rfl <;> exact afW
 split at h
 ·cases h
 ·rename_i e s z_ UH;split at h
  ·rename_i H2 n2 Wg;split at h
   ·rename_i vs VE;cases h;cases e with
    | normal=>exact fin _ _ _ _ _ (.inl rfl) UH Wg VE
    | ret=>exact fin _ _ _ _ _ (.inr rfl) UH Wg VE
    | exit id=>first|exact(z_ _ _ rfl).elim|exact(z_ _ rfl).elim|exact(z_ _ _).elim
   ·cases h
  ·cases h
 ·cases h
theorem EP{b:Nat}{lp:Loop}(h:w.heap[b]?=some (.loop lp))(hs:lp.state=.ready):(Instr.beginRound b).run P w=.ok () { w with heap:=w.heap.setIfInBounds b (.loop { lp with state:=.busy }) }:=by
 unfold Instr.beginRound;rw[aaZ,gT h];simp only[aaY];rw[aaZ,lC h];simp only[aaY,hs];rfl
theorem Lm{b:Nat}{lp:Loop}{j:Option Code}(h:w.heap[b]?=some (.loop lp)):(Instr.endRound b j).run P w=.ok (.bool j.isNone) { w with heap:=w.heap.setIfInBounds b (.loop { lp with state:=if j.isNone then .ready else .done,pending:=j }) }:=by
 unfold Instr.endRound;rw[aaZ,gT h];simp only[aaY];rw[aaZ,lC h];rfl
def QB:Ex -> Option Code
 | .normal=>none
 | .ret=>some .ret
 | .exit id=>some (.exit id)
theorem vK{b:Nat}{R:Ending -> World -> Prop}{e:Ex}(h:∃v w',(Instr.endRound b (QB e)).run P w=.ok v w' /\ R (.returned v) w'):roundPost P b R e.out a w:=by
 cases e <;> exact h
theorem NS(u_:kC P G ih)(hm:P.follows .mixedOrders=true){l:Nat}{T:Tr Value}{N:Nat}{aZz bo:Code}{H:AH}{n:Nat}{res:Rs}(h:gS P G ih (.rnd l T N aZz bo H n)=some res):jJ P G (.rnd l T N aZz bo H n) res:=by
 simp only[gS] at h;split at h
 case h_2=>cases h
 rename_i s1 h1;split at h
 case h_2=>cases h
 rename_i pend T' N' ps VB bo' d Tj ZO;split at h
 case h_2=>cases h
 rename_i e s2 h2;split at h
 case h_2=>cases h
 rename_i st2 aih T2 N2 ps2 as2 bo2 d2 R3;obtain⟨q1,q2⟩:=o0 u_ hm _ _ _ _ h1;obtain⟨p1,p2⟩:=o0 u_ hm _ _ _ _ h2;simp only at q1 q2 p1 p2;have TT:res=.fn (.bool (QB e).isNone) (cX s2.H l (some (.loop (if (QB e).isNone then .ready else .done) (QB e) T2 N2 ps2 as2 bo2 d2))) s2.n:=by
  cases e <;> (cases h;rfl)
 subst TT;refine⟨by omega,λ ν F w b K tm f r' hg hν hT hf hH=>?_⟩;refine roundIn_of_wpIn trivial ?_;show aZz.wpIn (Wr (some b)) 0 P _ _ _;refine q2 ν F _ w (some b) _ (.some hν) ⟨hg,hT,.nil,hH⟩ (λ i x y=>hf i x (by omega)) (λ ν1 a1 w1 k1 k2 k3=>?_);have abA:=k1.sub' hf p1;have Xi:=abA _ _ hν;obtain⟨lp,g1,g2,g3,g4,g5,g6,g7,K',g8⟩:=k2.h.loop Tj Xi;refine⟨_,EP g1 g2,?_⟩;show bo.wpIn (Wr (some b)) 0 P _ _ _;have hH1:HR ν1 (cX s1.H l (some (.loop .busy pend T' N' ps VB bo' d))) F { w1 with heap:=w1.heap.setIfInBounds b (.loop { lp with state:=.busy }) }:=k2.h.setObj Tj rfl rfl Xi ⟨rfl,g3,g4,g5,g6,g7,K',g8⟩;have hd:DsR ν1 [] a1.defers:=by have:=k2.d;rw[ZO] at this;exact this
 refine p2 ν1 F a1 _ (some b) _ (.some Xi) ⟨k2.g,k2.t,hd,hH1⟩ (k1.fr hf p1) (λ ν2 a2 w2 j1 j2 j3=>?_);have hν2:=(j1.sub (k1.fr hf p1)) _ _ Xi;obtain⟨lp2,u1,u2,u3,u4,u5,u6,u7,K2,u8⟩:=j2.h.loop R3 hν2;refine vK ⟨_,_,Lm u1,ν2,_,rfl,.atom _ rfl,k1.trans j1,?_,((k3.trans l8).trans j3).trans l8⟩;exact j2.h.setObj R3 rfl rfl hν2 ⟨rfl,rfl,u4,u5,u6,u7,K2,u8⟩
theorem ma{ops:Array Oper}{c₀:Frame}{cs:List Frame}(hc:c₀.mode=.returning):∀ (rest:List Oper) (k:Nat) (s s':St),ops.toList.drop k=rest -> m6 P G N ops rest s=some s' -> s.n <= s'.n /\ ∀ν F a w (Q:Exit -> Act -> List Frame -> World -> Prop),SR ν G N s F a w -> Fr ν s.n s'.n ->
  (∀ν' a' w',Ext ν ν' s.n s'.n -> SR ν' G N s' F a' w' -> Below 0 w w' -> Q .normal a' (c₀::cs) w') -> wpOpsSIn (Wr none) 0 P ops Q (List.range' k rest.length) a (c₀::cs) w
 | [],k,s,s',hk,h=>by
  rw[m6] at h;cases h;exact⟨aaI _,λ ν F a w Q hs hf hq=>hq ν a w (.refl _ _) hs (Below.refl _ _)⟩
 | o::rest,k,s,s',hk,h=>by
  have iN:k<ops.toList.length:=by
   rcases aaU k ops.toList.length with e|e
   ·exact e
   ·rw[List.drop_eq_nil_of_le e] at hk;cases hk
  have UE:=hk;rw[List.drop_eq_getElem_cons iN] at UE;simp only[List.cons.injEq] at UE;obtain⟨ho,V7⟩:=UE;have BY:ops[k]?=some o:=by
   rw[Array.getElem?_eq_getElem (by simpa using iN)];simpa using ho
  rw[m6] at h;split at h
  ·cases h
  ·rename_i hw;split at h
   case h_2=>cases h
   rename_i T1 hp;obtain⟨h1,h2⟩:=ma hc rest (k+1) _ _ V7 h;refine⟨h1,λ ν F a w Q hs hf hq=>?_⟩;rw[aaN,List.range'_succ,wpOpsSIn];simp only[BY];refine⟨λ _ _=>trivial,?_⟩;rw[if_neg (by rw[j9 hs.t hw];simp)];exact h2 ν F _ w Q ⟨hs.g,hs.t.put aau hp,by rw[fM];exact hs.d,hs.h⟩ hf hq
  ·rename_i hw;split at h
   ·rename_i v H1 n1 n_;split at h
    case h_2=>cases h
    rename_i T1 hp;obtain⟨h1,h2⟩:=ma hc rest (k+1) _ _ V7 h;simp only at h1 h2;have hle:=vG n_;refine⟨by omega,λ ν F a w Q hs hf hq=>?_⟩;rw[aaN,List.range'_succ,wpOpsSIn];simp only[BY];refine⟨λ _ _=>trivial,?_⟩;rw[if_pos (j9 hs.t hw)];obtain⟨ν',v',w',q,e1,e2,e3,e4,e5,e6⟩:=l7 hs.op hs.h n_ (λ v H' n' e=>by cases e;exact λ i x y=>hf i x (by omega));have IT:=e4.sub' hf h1;have Tl:=h2 ν' F (a.put o.dst v') w' Q ⟨hs.g.mono IT,(hs.t.mono IT).put e3 hp,by rw[fM];exact hs.d.mono IT,e5⟩ (e4.fr hf h1) (λ ν2 a2 w2 g1 g2 g3=>hq ν2 a2 w2 (e4.trans g1) g2 (e6.trans g3));rw[e1];rcases e2 with rfl|⟨rfl,rfl⟩
    ·exact Tl
    ·exact Tl
   ·rename_i n_;split at h
    case h_2=>cases h
    rename_i T1 hp;obtain⟨h1,h2⟩:=ma hc rest (k+1) _ _ V7 h;refine⟨h1,λ ν F a w Q hs hf hq=>?_⟩;rw[aaN,List.range'_succ,wpOpsSIn];simp only[BY];refine⟨λ _ _=>trivial,?_⟩;rw[if_pos (j9 hs.t hw)];have e1:=l7 hs.op hs.h n_ (λ v H' n' e=>by cases e);rw[show (execOp a.eval o).run P w=.ok .recover w from e1];have Xr:recoverD (c₀::cs)=none:=by simp[recoverD,hc]
    simp only[Xr];exact h2 ν F _ w Q ⟨hs.g,hs.t.put (.atom _ rfl) hp,by rw[fM];exact hs.d,hs.h⟩ hf hq
   ·cases h
theorem NT(u_:kC P G ih)(hm:P.follows .mixedOrders=true){c₀:Frame}{cs:List Frame}(hc:c₀.mode=.returning):∀ (c:Code) (s:St) (e:Ex) (s':St),HU P G ih N c s=some (e,s') -> s.n <= s'.n /\ ∀ν F a w (Q:Exit -> Act -> List Frame -> World -> Prop),SR ν G N s F a w -> Fr ν s.n s'.n ->
  (∀ν' a' w',Ext ν ν' s.n s'.n -> SR ν' G N s' F a' w' -> Below 0 w w' -> Q e.out a' (c₀::cs) w') -> c.wpSIn (Wr none) 0 P Q a (c₀::cs) w:=by
 have plain:∀ (c:Code) (s:St) (e:Ex) (s':St),ji P G ih none N c s=some (e,s') -> s.n <= s'.n /\ ∀ν F a w (Q:Exit -> Act -> List Frame -> World -> Prop),SR ν G N s F a w -> Fr ν s.n s'.n ->
  (∀ν' a' w',Ext ν ν' s.n s'.n -> SR ν' G N s' F a' w' -> Below 0 w w' -> Q e.out a' (c₀::cs) w') -> c.wpSIn (Wr none) 0 P Q a (c₀::cs) w:=λ c s e s' h=>by
  obtain⟨q1,q2⟩:=o0 u_ hm _ _ _ _ h;exact⟨q1,λ ν F a w Q hs hf hq=>wpSIn_of_wpIn rfl (q2 ν F a w none _ .none hs hf hq)⟩
 intro c
 induction c with
 | seq x y Xg YY =>
  intro s e s' h;rw[HU] at h;split at h
  ·rename_i s1 h1;obtain⟨q1,q2⟩:=Xg _ _ _ h1;obtain⟨p1,p2⟩:=YY _ _ _ h;refine⟨by omega,λ ν F a w Q hs hf hk=>wpSIn_seq ?_⟩;refine q2 ν F a w _ hs (λ i a b=>hf i a (by omega)) (λ ν' a' w' k1 k2 k3=>?_);exact p2 ν' F a' w' Q k2 (k1.fr hf p1) (λ ν2 a2 w2 g1 g2 g3=>hk ν2 a2 w2 (k1.trans g1) g2 (k3.trans g3))
  ·rename_i z_;obtain⟨q1,q2⟩:=Xg _ _ _ h;refine⟨q1,λ ν F a w Q hs hf hk=>wpSIn_seq ?_⟩;refine q2 ν F a w _ hs hf (λ ν' a' w' k1 k2 k3=>?_);have:=hk ν' a' w' k1 k2 k3;cases e with
   | normal=>exact(z_ _ h).elim
   | exit id=>exact this
   | ret=>exact this
 | cond c x y Xg YY =>
  intro s e s' h;rw[HU] at h;have D_:∀ν F a w b,SR ν G N s F a w -> ael s.T c=.bool b -> a.eval c=.bool b:=λ ν F a w b hs he=>by
   cases c with
   | tmp t =>
    have:=(FE.mk hs.t hs.g:FE ν G N s.T a).ael (x:=.tmp t) rfl;rw[he] at this;exact this.plain_eq rfl
   | const v=>exact he
   | global g=>cases he
   | func f=>cases he
  split at h
  ·rename_i he;obtain⟨q1,q2⟩:=Xg _ _ _ h;exact⟨q1,λ ν F a w Q hs hf hk=>wpSIn_cond (D_ _ _ _ _ _ hs he) (q2 ν F a w Q hs hf hk)⟩
  ·rename_i he;obtain⟨q1,q2⟩:=YY _ _ _ h;exact⟨q1,λ ν F a w Q hs hf hk=>wpSIn_cond (D_ _ _ _ _ _ hs he) (q2 ν F a w Q hs hf hk)⟩
  ·cases h
 | region id ops draw =>
  intro s e s' h;cases draw with
  | true=>rw[HU] at h;exact plain _ _ _ _ h;all_goals simp
  | false =>
   rw[HU] at h;split at h
   ·rename_i s1 h1;cases h;obtain⟨q1,q2⟩:=ma hc _ 0 _ _ (by simp) h1;refine⟨q1,λ ν F a w Q hs hf hk=>wpSIn_region ?_⟩;have:=q2 ν F a w Q hs hf hk;rw[List.range_eq_range'];simpa using this
   ·split at h
    ·rename_i x h1;cases h;exact plain _ _ _ _ h1
    ·cases h
 | _=>intro s e s' h;rw[HU] at h;exact plain _ _ _ _ h;all_goals simp
theorem NU(u_:kC P G ih)(hm:P.follows .mixedOrders=true){f:FuncId}{args:List Value}{H:AH}{n:Nat}{res:Rs}(h:gS P G ih (.dfn f args H n)=some res):jJ P G (.dfn f args H n) res:=by
 simp only[gS] at h;split at h
 case h_2=>cases h
 rename_i fn c hb;split at h
 case h_2=>cases h
 rename_i hle;obtain⟨b1,b2⟩:=yI hb;split at h
 ·cases h
 ·rename_i e s z_ UH;split at h
  ·rename_i hd;split at h
   ·rename_i vs VE;cases h;have hq:∀ (c₀:Frame) (cs:List Frame),c₀.mode=.returning -> _:=λ c₀ cs hc=>NT (c₀:=c₀) (cs:=cs) u_ hm hc _ _ _ _ UH;have hn:n <= s.n:=(hq { (default:Frame) with mode:=.returning } [] rfl).1;refine⟨hn,λ ν F w j_ hg hf hH hl=>?_⟩;refine callsDIn_of_wpSIn b1 b2 trivial (λ c₀ cs hc=>?_);refine(hq c₀ cs hc).2 ν F _ w _ ⟨hg,uk hl (bW hle),.nil,hH⟩ hf (λ ν' a' w' k1 k2 k3=>?_);have hdd:a'.defers=[]:=by
     have:=k2.d;rw[hd] at this;generalize a'.defers=q at this;cases this;rfl
    obtain⟨v',r1,r2⟩:=rS (G:=G) (fn:=fn) (a:=a') (FE.mk k2.t k2.g) k2.h VE;have hcc:c₀::cs={ c₀ with mode:=.returning }::cs:=by rw[<- hc]
    have Tl:a'.defers=[] /\ ∃u',c₀::cs={ c₀ with mode:=u' }::cs /\ ∃v,(results fn a'.tmps).run P w'=.ok v w' /\ (u'=.returning /\ Ii ν (yf vs) n s.n s.H F w (.returned v) w') :=
     ⟨hdd,.returning,hcc,v',r2,rfl,ν',v',rfl,r1,k1,k2.h,k3⟩
    cases e with
    | normal=>exact Tl
    | ret=>exact Tl
    | exit id=>first|exact(z_ _ _ rfl).elim|exact(z_ _ rfl).elim|exact(z_ _ _).elim
   ·cases h
  ·cases h
 ·cases h
theorem Iu(u_:kC P G ih)(hm:P.follows .mixedOrders=true):kC P G (gS P G ih):=by
 intro t res h;cases t with
 | code r N c s =>
  simp only[gS] at h;split at h
  ·rename_i h1;cases h;exact o0 u_ hm _ _ _ _ h1
  ·cases h
 | loop r N c s =>
  simp only[gS] at h;split at h
  ·rename_i h1;cases h;exact yG u_ (λ s e s' h=>o0 u_ hm _ _ _ _ h) h1
  ·cases h
 | fn f args H n=>exact PH u_ hm h
 | rnd l T N aZz bo H n=>exact NS u_ hm h
 | dfn f args H n=>exact NU u_ hm h
theorem Cr(hm:P.follows .mixedOrders=true):∀k,kC P G (HV P G k)
 | 0=>λ t res h=>by rw[HV] at h;cases h
 | k+1=>by
  have:=Iu (Cr hm k) hm;intro t res h;rw[HV] at h;exact this t res h
end fn
noncomputable section
inductive CzV where|mk (f:Tr Value -> Value)
inductive CzS where|mk (f:Value -> Tr Value -> Tr Value)
abbrev Ih:=Task -> Option Rs
inductive CzR where|mk (f:Ih -> Option Nat -> Tr Value -> List Deferred -> AH -> Nat -> Option St)
inductive CzC where|mk (f:Ih -> Option Nat -> Tr Value -> List Deferred -> AH -> Nat -> Option (Ex × St))
inductive CzF where|mk (f:Ih -> List Value -> AH -> Nat -> Option Rs)
inductive CzA where|mk (f:Tr Value -> List Value)
def CzV.f:CzV -> Tr Value -> Value | .mk f=>f
def CzS.f:CzS -> Value -> Tr Value -> Tr Value | .mk f=>f
def CzR.f:CzR -> Ih -> Option Nat -> Tr Value -> List Deferred -> AH -> Nat -> Option St | .mk f=>f
def CzC.f:CzC -> Ih -> Option Nat -> Tr Value -> List Deferred -> AH -> Nat -> Option (Ex × St) | .mk f=>f
def CzF.f:CzF -> Ih -> List Value -> AH -> Nat -> Option Rs | .mk f=>f
def CzA.f:CzA -> Tr Value -> List Value | .mk f=>f
def eU{α:Type}(v:Value)(x:Value -> α):α:=match v with
 | .bool b=>x (.bool b)
 | .int k n=>x (.int k n)
 | .float k b=>x (.float k b)
 | .complex k a b=>x (.complex k a b)
 | .string s=>x (.string s)
 | .pointer a=>x (.pointer a)
 | .slice a l c=>x (.slice a l c)
 | .map r=>x (.map r)
 | .chan r=>x (.chan r)
 | .func f a c=>x (.func f a c)
 | .nilFunc=>x .nilFunc
 | .iface t v=>x (.iface t v)
 | .nilIface=>x .nilIface
 | .agg c=>x (.agg c)
 | .tuple c=>x (.tuple c)
theorem cK{α:Type}(v:Value)(x:Value -> α):eU v x=x v:=by cases v <;> rfl
def Ba{α:Type}(l:List Value):(List Value -> α) -> α:=List.rec (motive:=λ _=>(List Value -> α) -> α) (λ x=>x []) (λ v _ ih x=>eU v λ v=>ih λ l=>x (v::l)) l
theorem um{α:Type}:∀ (l:List Value) (x:List Value -> α),Ba l x=x l
 | [],x=>rfl
 | v::l,x=>by
  show eU v (λ v=>Ba l λ l=>x (v::l))=_;rw[cK,um l]
def vL:List Bool -> CzV
 | []=>.mk λ T=>Tr.rec (motive:=λ _=>Value) undef (λ v _ _ _ _=>v) T
 | b::p=>match vL p with
  | .mk f=>match b with
   | true=>.mk λ T=>Tr.rec (motive:=λ _=>Value) undef (λ _ _ r _ _=>f r) T
   | false=>.mk λ T=>Tr.rec (motive:=λ _=>Value) undef (λ _ l _ _ _=>f l) T
theorem qz:∀ (p:List Bool) (T:Tr Value),(vL p).f T=fZ undef p T
 | [],T=>by cases T <;> rfl
 | b::p,T=>by
  have ih:=qz p;cases h:vL p with
  | mk f =>
   rw[h] at ih;cases b <;> simp only[vL,h,CzV.f] <;> cases T <;> first|rfl|exact ih _
def Bb:List Bool -> CzS
 | []=>.mk λ x T=>Tr.rec (motive:=λ _=>Tr Value) (.nd x .lf .lf) (λ _ l r _ _=>.nd x l r) T
 | b::p=>match Bb p with
  | .mk f=>match b with
   | true=>.mk λ x T=>Tr.rec (motive:=λ _=>Tr Value) (.nd undef .lf (f x .lf)) (λ v l r _ _=>.nd v l (f x r)) T
   | false=>.mk λ x T=>Tr.rec (motive:=λ _=>Tr Value) (.nd undef (f x .lf) .lf) (λ v l r _ _=>.nd v (f x l) r) T
theorem Cs(x:Value):∀ (p:List Bool) (T:Tr Value),(Bb p).f x T=dV undef x p T
 | [],T=>by cases T <;> rfl
 | b::p,T=>by
  have ih:=Cs x p;cases h:Bb p with
  | mk f =>
   rw[h] at ih;simp only[CzS.f] at ih;cases b <;> simp only[Bb,h,CzS.f] <;> cases T <;> simp only[ih] <;> rfl
def cv:Operand -> CzV
 | .tmp t=>vL (pth t)
 | .const v=>.mk λ _=>v
 | .global g=>.mk λ _=>.pointer (some ⟨g,0,none⟩)
 | .func f=>.mk λ _=>.func (.func f) #[] #[]
theorem MB(x:Operand)(T:Tr Value):(cv x).f T=ael T x:=by
 cases x with
 | tmp t=>exact qz _ _
 | const v=>rfl
 | global g=>rfl
 | func f=>rfl
def ca:List Operand -> CzA
 | []=>.mk λ _=>[]
 | x::l=>match cv x,ca l with
  | .mk f,.mk g=>.mk λ T=>f T::g T
theorem MC:∀ (l:List Operand) (T:Tr Value),(ca l).f T=m0 T l
 | [],T=>rfl
 | x::l,T=>by
  have h1:=MB x T;have h2:=MC l T;cases hx:cv x with
  | mk f=>cases hl:ca l with
   | mk g =>
    rw[hx] at h1;rw[hl] at h2;simp only[CzV.f] at h1;simp only[CzA.f] at h2;simp only[ca,hx,hl,CzA.f,m0,h1,h2]
inductive CzD where
 | no
 | ok (f:Value -> Tr Value -> Tr Value)
 | bad
def iC(N:Nat):Option Tmp -> CzD
 | none=>.no
 | some d=>match Nat.blt d N with
  | true=>match Bb (pth d) with
   | .mk f=>.ok f
  | false=>.bad
theorem Ct{N:Nat}{d:Option Tmp}{f}(h:iC N d=.ok f)(v:Value)(T:Tr Value):fp N d v T=some (f v T):=by
 cases d with
 | none=>simp[iC] at h
 | some d =>
  simp only[iC] at h;cases hb:Nat.blt d N <;> rw[hb] at h
  ·simp at h
  ·cases hs:Bb (pth d) with
   | mk g =>
    simp only[hs,CzD.ok.injEq] at h;subst h;have:=Cs v (pth d) T;rw[hs] at this;simp only[CzS.f] at this;simp only[fp,hb,this];rfl
theorem Cu{N:Nat}{d:Option Tmp}(h:iC N d=.no)(v:Value)(T:Tr Value):fp N d v T=some T:=by
 cases d with
 | none=>rfl
 | some d =>
  simp only[iC] at h;cases hb:Nat.blt d N <;> rw[hb] at h
  ·simp at h
  ·cases hs:Bb (pth d) with
   | mk g=>simp[hs] at h
def da(P:Program)(G N:Nat)(ops:Array Oper)(o:Oper)(k:Ih -> Option Nat -> Tr Value -> List Deferred -> AH -> Nat -> Option St)(ih:Ih)(r:Option Nat)(T:Tr Value)(D:List Deferred)(H:AH)(n:Nat):Option St:=match eO ops o T with
 | none=>none
 | some false=>match fp N o.dst undef T with
  | some T=>k ih r T D H n
  | none=>none
 | some true=>match jZ P G ih r o T H n with
  | none=>none
  | some (.val v H n)=>eU v λ v=>match fp N o.dst v T with
   | some T=>k ih r T D H n
   | none=>none
  | some (.dfr d)=>match fp N o.dst undef T with
   | some T=>k ih r T (d::D) H n
   | none=>none
def CzR.okL(P:Program)(G N:Nat)(ops:Array Oper)(l:List Oper)(k:Ih -> Option Nat -> Tr Value -> List Deferred -> AH -> Nat -> Option St):Prop:=∀ih r T D H n,k ih r T D H n=mF P G ih r N ops l ⟨T,D,H,n⟩
theorem Ln{P:Program}{G N:Nat}{ops:Array Oper}{l:List Oper}{k}(h:CzR.okL P G N ops l k)(o:Oper):CzR.okL P G N ops (o::l) (da P G N ops o k):=by
 intro ih r T D H n;simp only[da,mF];cases eO ops o T with
 | none=>rfl
 | some b =>
  cases b with
  | false=>cases fp N o.dst undef T with
   | none=>rfl
   | some T'=>exact h _ _ _ _ _ _
  | true=>cases jZ P G ih r o T H n with
   | none=>rfl
   | some x=>cases x with
    | val v H' n'=>simp only[cK];cases hp:fp N o.dst v T with
     | none=>simp only[hp]
     | some T'=>simp only[hp];exact h _ _ _ _ _ _
    | dfr d=>cases hp:fp N o.dst undef T with
     | none=>simp only[hp]
     | some T'=>simp only[hp];exact h _ _ _ _ _ _
def oa(N:Nat)(o:Oper)(k:Ih -> Option Nat -> Tr Value -> List Deferred -> AH -> Nat -> Option St)(ih:Ih)(r:Option Nat)(T:Tr Value)(D:List Deferred)(v:Value)(H:AH)(n:Nat):Option St:=match fp N o.dst v T with
 | some T=>k ih r T D H n
 | none=>none
theorem o8{P:Program}{G N:Nat}{ops:Array Oper}{o:Oper}{k}(hg:o.guard=none)(ho:nv G o=true)(hc:sA P o.op=.pu)(ih:Ih)(r:Option Nat)(T:Tr Value)(D:List Deferred)(H:AH)(n:Nat) :
  da P G N ops o k ih r T D H n=match gQ P o T with
   | some v=>oa N o k ih r T D v H n
   | none=>none:=by
 simp only[nv] at ho;cases hl:i9 o.op with
 | none=>rw[hl] at ho;simp at ho
 | some l =>
  rw[hl] at ho;simp only at ho;simp only[da,eO,hg,jZ,Ch,hl,ho,hc];cases gQ P o T with
  | none=>rfl
  | some v=>simp only[cK];rfl
theorem Iv{P:Program}{G N:Nat}{ops:Array Oper}{o:Oper}{k}(hg:o.guard=none)(ho:nv G o=true)(hc:sA P o.op=.lo)(ih:Ih)(r:Option Nat)(T:Tr Value)(D:List Deferred)(H:AH)(n:Nat) :
  da P G N ops o k ih r T D H n=match jA P o T H with
   | some v=>oa N o k ih r T D v H n
   | none=>none:=by
 simp only[nv] at ho;cases hl:i9 o.op with
 | none=>rw[hl] at ho;simp at ho
 | some l =>
  rw[hl] at ho;simp only at ho;simp only[da,eO,hg,jZ,Ch,hl,ho,hc];cases jA P o T H with
  | none=>rfl
  | some v=>simp only[cK];rfl
theorem NV{P:Program}{G N:Nat}{ops:Array Oper}{o:Oper}{k}(hg:o.guard=none)(ho:nv G o=true)(hc:sA P o.op=.nw)(ih:Ih)(r:Option Nat)(T:Tr Value)(D:List Deferred)(H:AH)(n:Nat) :
  da P G N ops o k ih r T D H n=match sO P o T with
   | some (b,m)=>oa N o k ih r T D (m.val n) (cX H n (some b)) (n+1)
   | none=>none:=by
 simp only[nv] at ho;cases hl:i9 o.op with
 | none=>rw[hl] at ho;simp at ho
 | some l =>
  rw[hl] at ho;simp only at ho;simp only[da,eO,hg,jZ,Ch,hl,ho,hc];cases sO P o T with
  | none=>rfl
  | some v=>simp only[NO,cK];rfl
theorem NW{P:Program}{G N:Nat}{ops:Array Oper}{o:Oper}{k}(hg:o.guard=none)(ho:nv G o=true)(hc:sA P o.op=.ef)(ih:Ih)(r:Option Nat)(T:Tr Value)(D:List Deferred)(H:AH)(n:Nat){v:Value}{H':AH}{n':Nat}(he:m5 P o T H n=some (.val v H' n')) :
  da P G N ops o k ih r T D H n=oa N o k ih r T D v H' n':=by
 simp only[nv] at ho;cases hl:i9 o.op with
 | none=>rw[hl] at ho;simp at ho
 | some l =>
  rw[hl] at ho;simp only at ho;simp only[da,eO,hg,jZ,Ch,hl,ho,hc,he,cK];rfl
theorem Cv{P:Program}{G N:Nat}{ops:Array Oper}{o:Oper}{k}(hg:o.guard=none)(ho:nv G o=true)(hc:sA P o.op=.ef)(ih:Ih)(r:Option Nat)(T:Tr Value)(D:List Deferred)(H:AH)(n:Nat){f:FuncId}{args:List Value}(he:m5 P o T H n=some (.ent f args)) :
  da P G N ops o k ih r T D H n=match ih (.fn f args H n) with
   | some (.fn v H n)=>oa N o k ih r T D v H n
   | _=>none:=by
 simp only[nv] at ho;cases hl:i9 o.op with
 | none=>rw[hl] at ho;simp at ho
 | some l =>
  rw[hl] at ho;simp only at ho;simp only[da,eO,hg,jZ,Ch,hl,ho,hc,he];cases ih (.fn f args H n) with
  | none=>rfl
  | some x=>cases x <;> simp only[cK] <;> rfl
end
noncomputable section
abbrev Kt:=Ih -> Option Nat -> Tr Value -> List Deferred -> AH -> Nat -> Option St
def kN(k:IntKind):Nat:=IntKind.rec (motive:=λ _=>Nat) 0 1 2 3 4 5 6 7 k
def Rb(a b:IntKind):Bool:=Nat.beq (kN a) (kN b)
theorem NX(a b:IntKind):Rb a b=decide (a=b):=by cases a <;> cases b <;> rfl
def OO(a b:Int):Bool:=match a,b with
 | .ofNat m,.ofNat n=>Nat.blt m n
 | .negSucc _,.ofNat _=>true
 | .ofNat _,.negSucc _=>false
 | .negSucc m,.negSucc n=>Nat.blt n m
theorem Cw(m n:Nat):Nat.blt m n=decide (m<n):=by
 by_cases h:m<n
 ·simp[Nat.blt_eq,h]
 ·rw[aa4 h];cases hb:Nat.blt m n
  ·rfl
  ·exact absurd (Eq.mp Nat.blt_eq hb) h
theorem Iw(a b:Int):OO a b=decide (a<b):=by
 cases a with
 | ofNat m=>cases b with
  | ofNat n =>
   simp only[OO,Cw];exact decide_eq_decide.2 (Int.ofNat_lt).symm
  | negSucc n=>exact(aa4 (show ¬ ((m:Int)<Int.negSucc n) by omega)).symm
 | negSucc m=>cases b with
  | ofNat n=>exact(aa5 (show Int.negSucc m<(n:Int) by omega)).symm
  | negSucc n =>
   simp only[OO,Cw];exact decide_eq_decide.2 (by omega)
def NY(b:Bool):Bool:=match b with
 | true=>false
 | false=>true
theorem Cx(b:Bool):NY b=!b:=by cases b <;> rfl
def QC(a b:Int):Bool:=NY (OO b a)
theorem NZ(a b:Int):QC a b=decide (a <= b):=by
 rw[QC,Cx,Iw]
 by_cases h:b<a
 ·rw[aa5 h,aa4 (by omega)];rfl
 ·rw[aa4 h,aa5 (by omega)];rfl
def PI(a b:Int):Bool:=match a,b with
 | .ofNat m,.ofNat n=>Nat.beq m n
 | .negSucc m,.negSucc n=>Nat.beq m n
 | _,_=>false
theorem Cy(m n:Nat):Nat.beq m n=decide (m=n):=by
 by_cases h:m=n
 ·rw[aa5 h];exact Eq.mpr Nat.beq_eq h
 ·rw[aa4 h];cases hb:Nat.beq m n
  ·rfl
  ·exact absurd (Eq.mp Nat.beq_eq hb) h
theorem N0(a b:Int):PI a b=(a == b):=by
 have e:(a == b)=decide (a=b):=rfl;rw[e];cases a with
 | ofNat m=>cases b with
  | ofNat n =>
   simp only[PI,Cy];exact decide_eq_decide.2 (Int.ofNat_inj (m:=m) (n:=n)).symm
  | negSucc n=>rfl
 | negSucc m=>cases b with
  | ofNat n=>rfl
  | negSucc n =>
   simp only[PI,Cy];exact decide_eq_decide.2 (by simp)
def Lo:BinOp -> Option (Int -> Int -> Bool)
 | .lss=>some λ a b=>OO a b
 | .leq=>some λ a b=>QC a b
 | .gtr=>some λ a b=>OO b a
 | .geq=>some λ a b=>QC b a
 | .eql=>some λ a b=>PI a b
 | .neq=>some λ a b=>NY (PI a b)
 | _=>none
theorem Lp{op:BinOp}{q}(h:Lo op=some q)(a b:Int):HG op a b=some (q a b):=by
 cases op <;> simp only[Lo,Option.some.injEq,reduceCtorEq] at h <;> subst h <;> simp only[HG,Iw,NZ,N0,Cx] <;> rfl
section
variable (P:Program) (G N:Nat) (ops:Array Oper) (o:Oper) (k:Kt) (g:Value -> Tr Value -> Tr Value)
def QD(f:Tr Value -> Value)(ih:Ih)(r:Option Nat)(T:Tr Value)(D:List Deferred)(H:AH)(n:Nat):Option St:=eU (f T) λ v=>k ih r (g v T) D H n
def PJ(u:Value)(x y:Option St):Option St:=match u with
 | .bool b=>match b with
  | true=>x
  | false=>y
 | _=>none
def Iy(f fa fb:Tr Value -> Value)(ih:Ih)(r:Option Nat)(T:Tr Value)(D:List Deferred)(H:AH)(n:Nat):Option St:=PJ (f T) (eU (fa T) λ v=>k ih r (g v T) D H n) (eU (fb T) λ v=>k ih r (g v T) D H n)
def PK(u:Value)(x y:Option St):Option St:=match u with
 | .pointer p=>match p with
  | some _=>x
  | none=>y
 | _=>y
def N3(f:Tr Value -> Value)(ih:Ih)(r:Option Nat)(T:Tr Value)(D:List Deferred)(H:AH)(n:Nat):Option St:=PK (f T) (eU (f T) λ v=>k ih r (g v T) D H n) (da P G N ops o k ih r T D H n)
def PL(q:Int -> Int -> Bool)(u v:Value)(x:Bool -> Option St)(y:Option St):Option St:=match u with
 | .int ka a=>match v with
  | .int kb b=>match Rb ka kb with
   | true=>match q a b with
    | true=>x true
    | false=>x false
   | false=>y
  | _=>y
 | _=>y
def N4(q:Int -> Int -> Bool)(f1 f2:Tr Value -> Value)(ih:Ih)(r:Option Nat)(T:Tr Value)(D:List Deferred)(H:AH)(n:Nat):Option St:=PL q (f1 T) (f2 T) (λ b=>k ih r (g (.bool b) T) D H n) (da P G N ops o k ih r T D H n)
def Rc(c:Nat)(u:Value)(x:Value -> Option St):Option St:=match u with
 | .pointer p=>match p with
  | some a=>match a with
   | ⟨b,off,s⟩=>match c with
    | 0=>x (.pointer (some ⟨b,off,s⟩))
    | c+1=>x (.pointer (some ⟨b,off+(c+1),none⟩))
  | none=>none
 | _=>none
def N5(c:Nat)(f:Tr Value -> Value)(ih:Ih)(r:Option Nat)(T:Tr Value)(D:List Deferred)(H:AH)(n:Nat):Option St:=Rc c (f T) λ v=>k ih r (g v T) D H n
def ldB(off:Nat)(s:Option Nat)(b:Option AB)(x:Value -> Option St):Option St:=match s with
 | none=>match b with
  | some c=>match c with
   | .cells n tr _ _ _=>match Nat.blt off n with
    | true=>eU (cY tr off) x
    | false=>none
   | _=>none
  | none=>none
 | some _=>none
def ldR(H:AH)(u:Value)(x:Value -> Option St):Option St:=match u with
 | .pointer p=>match p with
  | some a=>match a with
   | ⟨b,off,s⟩=>ldB off s (b7 H b) x
  | none=>none
 | _=>none
def Re(f:Tr Value -> Value)(ih:Ih)(r:Option Nat)(T:Tr Value)(D:List Deferred)(H:AH)(n:Nat):Option St:=ldR H (f T) λ v=>k ih r (g v T) D H n
def laB(off c:Nat)(s:Option Nat)(b:Option AB)(x:Value -> Option St):Option St:=match s with
 | none=>match b with
  | some ab=>match ab with
   | .cells n tr _ _ _=>match Nat.ble (off+c) n with
    | true=>Ba (gR tr off c) λ l=>x (.agg ⟨l⟩)
    | false=>none
   | _=>none
  | none=>none
 | some _=>none
def laR(c:Nat)(H:AH)(u:Value)(x:Value -> Option St):Option St:=match u with
 | .pointer p=>match p with
  | some a=>match a with
   | ⟨b,off,s⟩=>laB off c s (b7 H b) x
  | none=>none
 | _=>none
def Rf(c:Nat)(f:Tr Value -> Value)(ih:Ih)(r:Option Nat)(T:Tr Value)(D:List Deferred)(H:AH)(n:Nat):Option St:=laR c H (f T) λ v=>k ih r (g v T) D H n
def alF(b:AB)(ih:Ih)(r:Option Nat)(T:Tr Value)(D:List Deferred)(H:AH)(n:Nat):Option St:=k ih r (g (.pointer (some ⟨n,0,none⟩)) T) D (cX H n (some b)) (n+1)
def ixR(c:Nat)(u i:Value)(x:Value -> Option St):Option St:=match u with
 | .slice p m _=>match p with
  | some a=>match i with
   | .int _ i=>match i with
    | .ofNat i=>match Nat.blt i m with
     | true=>match a with
      | ⟨b,off,s⟩=>match i*c with
       | 0=>x (.pointer (some ⟨b,off,s⟩))
       | j+1=>x (.pointer (some ⟨b,off+(j+1),none⟩))
     | false=>none
    | _=>none
   | _=>none
  | none=>none
 | _=>none
def Rg(c:Nat)(f1 f2:Tr Value -> Value)(ih:Ih)(r:Option Nat)(T:Tr Value)(D:List Deferred)(H:AH)(n:Nat):Option St:=ixR c (f1 T) (f2 T) λ v=>k ih r (g v T) D H n
def stB(off:Nat)(s:Option Nat)(v:Value)(b:Option AB)(x:AB -> Option St)(y:Option St):Option St:=match s with
 | none=>match b with
  | some c=>match c with
   | .cells n tr ty w ro=>match ro with
    | false=>match Nat.blt off n with
     | true=>x (.cells n (sM tr off v) ty w false)
     | false=>y
    | true=>y
   | _=>y
  | none=>y
 | some _=>y
def Cz(v:Value):Bool:=match v with
 | .agg _=>false
 | .tuple _=>false
 | _=>true
def stR(H:AH)(u v:Value)(x:Nat -> AB -> Option St)(y:Option St):Option St:=match Cz v with
 | true=>match u with
  | .pointer p=>match p with
   | some a=>match a with
    | ⟨b,off,s⟩=>eU v λ v=>stB off s v (b7 H b) (x b) y
   | none=>y
  | _=>y
 | false=>y
def Rh(f1 f2:Tr Value -> Value)(ih:Ih)(r:Option Nat)(T:Tr Value)(D:List Deferred)(H:AH)(n:Nat):Option St:=stR H (f1 T) (f2 T) (λ b ab=>k ih r T D (cX H b (some ab)) n) (da P G N ops o k ih r T D H n)
def QE(x:Option Rs)(y:Value -> AH -> Nat -> Option St):Option St:=match x with
 | some x=>match x with
  | .fn v H n=>eU v λ v=>y v H n
  | .cd _ _=>none
 | none=>none
def Ri(f:FuncId)(aZz:Tr Value -> List Value)(ih:Ih)(r:Option Nat)(T:Tr Value)(D:List Deferred)(H:AH)(n:Nat):Option St:=QE (ih (.fn f (aZz T) H n)) λ v H n=>k ih r (g v T) D H n
def Rj(f:FuncId)(aZz:Tr Value -> List Value)(ih:Ih)(r:Option Nat)(T:Tr Value)(D:List Deferred)(H:AH)(n:Nat):Option St:=QE (ih (.fn f (aZz T) H n)) λ v H n=>k ih r T D H n
end
section
variable {P:Program} {G N:Nat} {ops:Array Oper} {o:Oper} {k:Kt} {g:Value -> Tr Value -> Tr Value}
theorem fJ(hd:iC N o.dst=.ok g)(ih:Ih)(r:Option Nat)(T:Tr Value)(D:List Deferred)(v:Value)(H:AH)(n:Nat):oa N o k ih r T D v H n=k ih r (g v T) D H n:=by
 rw[oa,Ct hd]
theorem CA(hd:iC N o.dst=.no)(ih:Ih)(r:Option Nat)(T:Tr Value)(D:List Deferred)(v:Value)(H:AH)(n:Nat):oa N o k ih r T D v H n=k ih r T D H n:=by
 rw[oa,Cu hd]
theorem MD(hg:o.guard=none)(ho:nv G o=true)(hd:iC N o.dst=.ok g){x:Operand}(hx:o.op=.move x \/ o.op=.assign x){f}(hf:∀T,f T=ael T x)(ih r T D H n):QD k g f ih r T D H n=da P G N ops o k ih r T D H n:=by
 have hc:sA P o.op=.pu:=by cases hx with|inl h=>rw[h];rfl|inr h=>rw[h];rfl
 have hp:gQ P o T=some (ael T x):=by unfold gQ;cases hx with|inl h=>rw[h]|inr h=>rw[h]
 rw[o8 hg ho hc,hp,QD,hf,cK];exact(fJ hd ..).symm
theorem Lq(hg:o.guard=none)(ho:nv G o=true)(hd:iC N o.dst=.ok g){c a b:Operand}(hx:o.op=.pick c a b){f fa fb}(hf:∀T,f T=ael T c)(hfa:∀T,fa T=ael T a)(hfb:∀T,fb T=ael T b)(ih r T D H n):Iy k g f fa fb ih r T D H n=da P G N ops o k ih r T D H n:=by
 rw[o8 hg ho (by rw[hx];rfl)];unfold gQ;rw[hx];simp only[Iy,hf,hfa,hfb,cK];cases ael T c with
 | bool q=>cases q <;> exact(fJ hd ..).symm
 | _=>rfl
theorem N6(hg:o.guard=none)(ho:nv G o=true)(hd:iC N o.dst=.ok g){x:Operand}(hx:o.op=.nilCheck x){f}(hf:∀T,f T=ael T x)(ih r T D H n):N3 P G N ops o k g f ih r T D H n=da P G N ops o k ih r T D H n:=by
 simp only[N3,hf];cases he:ael T x with
 | pointer p=>cases p with
  | none=>rfl
  | some a =>
   rw[o8 hg ho (by rw[hx];rfl)];unfold gQ;rw[hx];simp only[he,PK,cK];exact(fJ hd ..).symm
 | _=>rfl
theorem N7(hg:o.guard=none)(ho:nv G o=true)(hd:iC N o.dst=.ok g){op t x y z}(hx:o.op=.binOp op t x y z){q}(hq:Lo op=some q){f1 f2}(YA:∀T,f1 T=ael T x)(TY:∀T,f2 T=ael T y)(ih r T D H n):N4 P G N ops o k g q f1 f2 ih r T D H n=da P G N ops o k ih r T D H n:=by
 simp only[N4,YA,TY];cases he:ael T x with
 | int ka a=>cases he2:ael T y with
  | int kb b =>
   simp only[PL];cases hk:Rb ka kb with
   | false=>rfl
   | true =>
    rw[o8 hg ho (by rw[hx];rfl)];unfold gQ;rw[hx];rw[NX] at hk;simp only[he,he2,Lp hq,hk];cases q a b <;> exact(fJ hd ..).symm
  | _=>rfl
 | _=>rfl
theorem N8(hg:o.guard=none)(ho:nv G o=true)(hd:iC N o.dst=.ok g){t x j}(hx:o.op=.fieldAddr t x j){c ft}(hc:xY P t j=some (c,ft)){f}(hf:∀T,f T=ael T x)(ih r T D H n):N5 k g c f ih r T D H n=da P G N ops o k ih r T D H n:=by
 rw[o8 hg ho (by rw[hx];rfl)];unfold gQ;rw[hx];simp only[N5,hf,hc];cases he:ael T x with
 | pointer p=>cases p with
  | none=>rfl
  | some a=>cases a with
   | mk b off s=>cases c with
    | zero=>exact(fJ hd ..).symm
    | succ c=>exact(fJ hd ..).symm
 | _=>rfl
theorem PM(hg:o.guard=none)(ho:nv G o=true)(hd:iC N o.dst=.ok g){t x}(hx:o.op=.load t x)(hc:xX P t=true){f}(hf:∀T,f T=ael T x)(ih r T D H n):Re k g f ih r T D H n=da P G N ops o k ih r T D H n:=by
 rw[Iv hg ho (by rw[hx];rfl)];unfold jA;rw[hx];simp only[Re,hf];cases he:ael T x with
 | pointer p=>cases p with
  | none=>rfl
  | some a=>cases a with
   | mk b off s =>
    cases s with
    | some s=>rfl
    | none =>
     simp only[ldR,tV];cases b7 H b with
     | none=>rfl
     | some c=>cases c with
      | cells nn tr ty w ro =>
       simp only[ldB,hc];cases Nat.blt off nn
       ·rfl
       ·simp only[cK];exact(fJ hd ..).symm
      | _=>rfl
 | _=>rfl
theorem PN(hg:o.guard=none)(ho:nv G o=true)(hd:iC N o.dst=.ok g){t x}(hx:o.op=.load t x)(hc:xX P t=false){c}(ha:Az P t=some c){f}(hf:∀T,f T=ael T x)(ih r T D H n):Rf k g c f ih r T D H n=da P G N ops o k ih r T D H n:=by
 rw[Iv hg ho (by rw[hx];rfl)];unfold jA;rw[hx];simp only[Rf,hf];cases he:ael T x with
 | pointer p=>cases p with
  | none=>rfl
  | some a=>cases a with
   | mk b off s =>
    cases s with
    | some s=>rfl
    | none =>
     simp only[laR,tV];cases b7 H b with
     | none=>rfl
     | some ab=>cases ab with
      | cells nn tr ty w ro =>
       simp only[laB,hc,ha];cases Nat.ble (off+c) nn
       ·rfl
       ·simp only[um];exact(fJ hd ..).symm
      | _=>rfl
 | _=>rfl
theorem PO(hg:o.guard=none)(ho:nv G o=true)(hd:iC N o.dst=.ok g){t}(hx:o.op=.alloc t){z}(hz:kQ P t=some z){b}(hb:jI z t=b)(ih r T D H n):alF k g b ih r T D H n=da P G N ops o k ih r T D H n:=by
 rw[NV hg ho (by rw[hx];rfl)];unfold sO;rw[hx];simp only[hz,hb];exact(fJ hd ..).symm
theorem PP(hg:o.guard=none)(ho:nv G o=true)(hd:iC N o.dst=.ok g){t x i}(hx:o.op=.indexAddr t x i){el c}(ht:P.underlying t=some (.slice el))(hc:fh P el=some c){f1 f2}(YA:∀T,f1 T=ael T x)(TY:∀T,f2 T=ael T i)(ih r T D H n):Rg k g c f1 f2 ih r T D H n=da P G N ops o k ih r T D H n:=by
 rw[o8 hg ho (by rw[hx];rfl)];unfold gQ;rw[hx];simp only[Rg,YA,TY,ht];cases he:ael T x with
 | slice p m cc=>cases p with
  | none=>rfl
  | some a=>cases a with
   | mk b off s=>cases he2:ael T i with
    | int ki i=>cases i with
     | ofNat i =>
      simp only[ixR,J7,hc];cases Nat.blt i m with
      | false=>rfl
      | true =>
       simp only[AC];cases i*c with
       | zero=>exact(fJ hd ..).symm
       | succ j=>exact(fJ hd ..).symm
     | negSucc i=>rfl
    | _=>rfl
 | _=>cases he2:ael T i <;> rfl
theorem PQ(hg:o.guard=none)(ho:nv G o=true)(hd:iC N o.dst=.no){t x y}(hx:o.op=.store t x y)(ht:fh P t=some 1){f1 f2}(YA:∀T,f1 T=ael T x)(TY:∀T,f2 T=ael T y)(ih r T D H n):Rh P G N ops o k f1 f2 ih r T D H n=da P G N ops o k ih r T D H n:=by
 simp only[Rh,YA,TY];unfold stR;cases Sl:Cz (ael T y) with
 | false=>rfl
 | true =>
  cases he:ael T x with
  | pointer p=>cases p with
   | none=>rfl
   | some a=>cases a with
    | mk b off s=>cases s with
     | some s=>simp only[cK];rfl
     | none =>
      simp only[cK];cases hb:b7 H b with
      | none=>rfl
      | some c=>cases c with
       | cells nn tr ty w ro=>cases ro with
        | true=>rfl
        | false =>
         simp only[stB];cases iN:Nat.blt off nn with
         | false=>rfl
         | true =>
          have L_:hO (ael T y)=[ael T y]:=by
           cases hv:ael T y <;> first|rfl|(rw[hv] at Sl;simp[Cz] at Sl)
          have hff:jY [ael T y]=true:=by
           cases hv:ael T y <;> first|rfl|(rw[hv] at Sl;simp[Cz] at Sl)
          have hle:Nat.ble (off+1) nn=true:=iN;have XH:m5 P o T H n=some (.val undef (cX H b (some (.cells nn (sM tr off (ael T y)) ty w false))) n):=by
           unfold m5;rw[hx];simp only[he,vC,ht,L_,gt,oT,hb,hle,hff];rfl
          rw[NW hg ho (by rw[hx];rfl) ih r T D H n XH];exact(CA hd ..).symm
       | _=>rfl
  | _=>rfl
theorem Iz{f:FuncId}{c:Call}(hx:o.op=.call c)(hc:c.callee=.value (.func f))(hb:rx P f=true)(T H n):m5 P o T H n=some (.ent f (m0 T c.args.toList)):=by
 unfold m5;rw[hx];simp only[hc,ael,qu,hb];simp
theorem IA{f:FuncId}{c:Call}(hx:o.op=.call c)(hc:c.callee=.value (.func f)):sA P o.op=.ef:=by
 rw[hx];obtain⟨ce,a,t⟩:=c;simp only at hc;subst hc;rfl
theorem PT(hg:o.guard=none)(ho:nv G o=true)(hd:iC N o.dst=.ok g){f:FuncId}{c:Call}(hx:o.op=.call c)(hc:c.callee=.value (.func f))(hb:rx P f=true){aZz}(ha:∀T,aZz T=m0 T c.args.toList)(ih r T D H n):Ri k g f aZz ih r T D H n=da P G N ops o k ih r T D H n:=by
 rw[Cv hg ho (IA hx hc) ih r T D H n (Iz hx hc hb T H n),Ri,ha];cases ih (.fn f (m0 T c.args.toList) H n) with
 | none=>rfl
 | some x=>cases x with
  | cd _ _=>rfl
  | fn v H n=>simp only[QE,cK];exact(fJ hd ..).symm
theorem N9(hg:o.guard=none)(ho:nv G o=true)(hd:iC N o.dst=.no){f:FuncId}{c:Call}(hx:o.op=.call c)(hc:c.callee=.value (.func f))(hb:rx P f=true){aZz}(ha:∀T,aZz T=m0 T c.args.toList)(ih r T D H n):Rj k f aZz ih r T D H n=da P G N ops o k ih r T D H n:=by
 rw[Cv hg ho (IA hx hc) ih r T D H n (Iz hx hc hb T H n),Rj,ha];cases ih (.fn f (m0 T c.args.toList) H n) with
 | none=>rfl
 | some x=>cases x with
  | cd _ _=>rfl
  | fn v H n=>simp only[QE,cK];exact(CA hd ..).symm
end
end
noncomputable section
def Rk(P:Program)(G N:Nat)(ops:Array Oper)(o:Oper)(k:Kt)(g:Value -> Tr Value -> Tr Value):CzR:=match o.op with
 | .move x=>match cv x with
  | .mk f=>.mk (QD k g f)
 | .assign x=>match cv x with
  | .mk f=>.mk (QD k g f)
 | .pick c a b=>match cv c with
  | .mk f=>match cv a with
   | .mk fa=>match cv b with
    | .mk fb=>.mk (Iy k g f fa fb)
 | .nilCheck x=>match cv x with
  | .mk f=>.mk (N3 P G N ops o k g f)
 | .binOp op _ x y _=>match Lo op with
  | some q=>match cv x with
   | .mk f1=>match cv y with
    | .mk f2=>.mk (N4 P G N ops o k g q f1 f2)
  | none=>.mk (da P G N ops o k)
 | .fieldAddr t x j=>match xY P t j with
  | some (c,_)=>match cv x with
   | .mk f=>.mk (N5 k g c f)
  | none=>.mk (da P G N ops o k)
 | .load t x=>match xX P t with
  | true=>match cv x with
   | .mk f=>.mk (Re k g f)
  | false=>match Az P t with
   | some c=>match cv x with
    | .mk f=>.mk (Rf k g c f)
   | none=>.mk (da P G N ops o k)
 | .alloc t=>match kQ P t with
  | some z=>match jI z t with
   | .cells a b c d e=>.mk (alF k g (.cells a b c d e))
   | _=>.mk (da P G N ops o k)
  | none=>.mk (da P G N ops o k)
 | .indexAddr t x i=>match P.underlying t with
  | some (.slice el)=>match fh P el with
   | some c=>match cv x with
    | .mk f1=>match cv i with
     | .mk f2=>.mk (Rg k g c f1 f2)
   | none=>.mk (da P G N ops o k)
  | _=>.mk (da P G N ops o k)
 | .call c=>match c.callee with
  | .value (.func f)=>match rx P f with
   | true=>match ca c.args.toList with
    | .mk aZz=>.mk (Ri k g f aZz)
   | false=>.mk (da P G N ops o k)
  | _=>.mk (da P G N ops o k)
 | _=>.mk (da P G N ops o k)
def Rl(P:Program)(G N:Nat)(ops:Array Oper)(o:Oper)(k:Kt):CzR:=match o.op with
 | .store t x y=>match fh P t with
  | some 1=>match cv x with
   | .mk f1=>match cv y with
    | .mk f2=>.mk (Rh P G N ops o k f1 f2)
  | _=>.mk (da P G N ops o k)
 | .call c=>match c.callee with
  | .value (.func f)=>match rx P f with
   | true=>match ca c.args.toList with
    | .mk aZz=>.mk (Rj k f aZz)
   | false=>.mk (da P G N ops o k)
  | _=>.mk (da P G N ops o k)
 | _=>.mk (da P G N ops o k)
def IB(P:Program)(G N:Nat)(ops:Array Oper)(o:Oper)(k:Kt):CzR:=match nv G o with
 | true=>match iC N o.dst with
  | .ok g=>Rk P G N ops o k g
  | .no=>Rl P G N ops o k
  | .bad=>.mk (da P G N ops o k)
 | false=>.mk (da P G N ops o k)
def FC(o:Oper):Oper:=⟨o.dst,o.op,o.type,o.pos,o.after,none⟩
def Rm(want:Bool)(u:Value)(x y:Option St):Option St:=match u with
 | .bool b=>match b with
  | true=>match want with
   | true=>x
   | false=>y
  | false=>match want with
   | true=>y
   | false=>x
 | .tuple _=>y
 | _=>none
def guF(want:Bool)(f:Tr Value -> Value)(h:Kt)(k:Kt)(g:Value -> Tr Value -> Tr Value)(ih:Ih)(r:Option Nat)(T:Tr Value)(D:List Deferred)(H:AH)(n:Nat):Option St:=Rm want (f T) (h ih r T D H n) (k ih r (g undef T) D H n)
def guN(want:Bool)(f:Tr Value -> Value)(h:Kt)(k:Kt)(ih:Ih)(r:Option Nat)(T:Tr Value)(D:List Deferred)(H:AH)(n:Nat):Option St:=Rm want (f T) (h ih r T D H n) (k ih r T D H n)
def Oa(P:Program)(G N:Nat)(ops:Array Oper)(o:Oper)(nx:CzR):CzR:=match nx with
 | .mk k=>match o.guard with
  | none=>IB P G N ops o k
  | some (j,want)=>match (ops[j]?).bind (·.dst) with
   | some d=>match vL (pth d) with
    | .mk f=>match IB P G N ops (FC o) k with
     | .mk h=>match iC N o.dst with
      | .ok g=>.mk (guF want f h k g)
      | .no=>.mk (guN want f h k)
      | .bad=>.mk (da P G N ops o k)
   | none=>.mk (da P G N ops o k)
def EQ(P:Program)(G N:Nat)(ops:Array Oper):List Oper -> CzR
 | []=>.mk λ _ _ T D H n=>some ⟨T,D,H,n⟩
 | o::l=>Oa P G N ops o (EQ P G N ops l)
def IC(P:Program)(G N:Nat)(ops:Array Oper)(o:Oper)(k:Kt)(c:CzR):Prop:=∀ih r T D H n,c.f ih r T D H n=da P G N ops o k ih r T D H n
theorem dN{P:Program}{G N:Nat}{ops:Array Oper}{o:Oper}{k:Kt}:IC P G N ops o k (.mk (da P G N ops o k)):=λ _ _ _ _ _ _=>rfl
theorem zu{x:Operand}{f}(h:cv x=.mk f)(T:Tr Value):f T=ael T x:=by
 have:=MB x T;rw[h] at this;exact this
theorem cam{x:List Operand}{f}(h:ca x=.mk f)(T:Tr Value):f T=m0 T x:=by
 have:=MC x T;rw[h] at this;exact this
theorem Oc{P:Program}{G N:Nat}{ops:Array Oper}{o:Oper}{k:Kt}{g}(hg:o.guard=none)(ho:nv G o=true)(hd:iC N o.dst=.ok g):IC P G N ops o k (Rk P G N ops o k g):=by
 unfold Rk;split
 ·rename_i x hx;split;rename_i f hf;exact λ ih r T D H n=>MD hg ho hd (.inl hx) (zu hf) ih r T D H n
 ·rename_i x hx;split;rename_i f hf;exact λ ih r T D H n=>MD hg ho hd (.inr hx) (zu hf) ih r T D H n
 ·rename_i c a b hx;split;rename_i f hf;split;rename_i fa hfa;split;rename_i fb hfb;exact λ ih r T D H n=>Lq hg ho hd hx (zu hf) (zu hfa) (zu hfb) ih r T D H n
 ·rename_i x hx;split;rename_i f hf;exact λ ih r T D H n=>N6 hg ho hd hx (zu hf) ih r T D H n
 ·rename_i op t x y z hx;split
  ·rename_i q hq;split;rename_i f hf;split;rename_i f2 TY;exact λ ih r T D H n=>N7 hg ho hd hx hq (zu hf) (zu TY) ih r T D H n
  ·exact dN
 ·rename_i t x j hx;split
  ·rename_i c ft hc;split;rename_i f hf;exact λ ih r T D H n=>N8 hg ho hd hx hc (zu hf) ih r T D H n
  ·exact dN
 ·rename_i t x hx;split
  ·rename_i hc;split;rename_i f hf;exact λ ih r T D H n=>PM hg ho hd hx hc (zu hf) ih r T D H n
  ·rename_i hc;split
   ·rename_i c ha;split;rename_i f hf;exact λ ih r T D H n=>PN hg ho hd hx hc ha (zu hf) ih r T D H n
   ·exact dN
 ·rename_i t hx;split
  ·rename_i z hz;split
   ·rename_i a b c d e hb;exact λ ih r T D H n=>PO hg ho hd hx hz hb ih r T D H n
   ·exact dN
  ·exact dN
 ·rename_i t x i hx;split
  ·rename_i el ht;split
   ·rename_i c hc;split;rename_i f hf;split;rename_i f2 TY;exact λ ih r T D H n=>PP hg ho hd hx ht hc (zu hf) (zu TY) ih r T D H n
   ·exact dN
  ·exact dN
 ·rename_i c hx;split
  ·rename_i f hc;split
   ·rename_i hb;split;rename_i aZz ha;exact λ ih r T D H n=>PT hg ho hd hx hc hb (cam ha) ih r T D H n
   ·exact dN
  ·exact dN
 ·exact dN
theorem Od{P:Program}{G N:Nat}{ops:Array Oper}{o:Oper}{k:Kt}(hg:o.guard=none)(ho:nv G o=true)(hd:iC N o.dst=.no):IC P G N ops o k (Rl P G N ops o k):=by
 unfold Rl;split
 ·rename_i t x y hx;split
  ·rename_i hc;split;rename_i f hf;split;rename_i f2 TY;exact λ ih r T D H n=>PQ hg ho hd hx hc (zu hf) (zu TY) ih r T D H n
  ·exact dN
 ·rename_i c hx;split
  ·rename_i f hc;split
   ·rename_i hb;split;rename_i aZz ha;exact λ ih r T D H n=>N9 hg ho hd hx hc hb (cam ha) ih r T D H n
   ·exact dN
  ·exact dN
 ·exact dN
theorem CB{P:Program}{G N:Nat}{ops:Array Oper}{o:Oper}{k:Kt}(hg:o.guard=none):IC P G N ops o k (IB P G N ops o k):=by
 unfold IB;split
 ·rename_i ho;split
  ·rename_i g hd;exact Oc hg ho hd
  ·rename_i hd;exact Od hg ho hd
  ·exact dN
 ·exact dN
theorem nh(P:Program)(T:Tr Value)(o:Oper):gu P T (FC o)=gu P T o:=by
 have e:execOp (ael T) (FC o)=execOp (ael T) o:=by
  obtain⟨dst,op,type,pos,after,guard⟩:=o;cases op <;> rfl
 unfold gu;rw[e];rfl
theorem ES(P:Program)(T:Tr Value)(o:Oper):gQ P (FC o) T=gQ P o T:=by
 unfold gQ;simp only[nh];rfl
theorem ET(P:Program)(T:Tr Value)(H:AH)(o:Oper):jA P (FC o) T H=jA P o T H:=by
 unfold jA;simp only[nh];rfl
theorem IE(P:Program)(T:Tr Value)(H:AH)(n:Nat)(o:Oper):m5 P (FC o) T H n=m5 P o T H n:=by
 unfold m5;simp only[nh];rfl
theorem IG(P:Program)(G:Nat)(ih:Ih)(r:Option Nat)(T:Tr Value)(H:AH)(n:Nat)(o:Oper):jZ P G ih r (FC o) T H n=jZ P G ih r o T H n:=by
 unfold jZ Ch;simp only[ES,ET,IE];rfl
theorem rT{P:Program}{G N:Nat}{ops:Array Oper}{o:Oper}{k:Kt}{j:Nat}{want:Bool}(hg:o.guard=some (j,want)){d:Tmp}(hd:(ops[j]?).bind (·.dst)=some d){f:Tr Value -> Value}(hf:∀T,f T=cY T d){h:Kt}(hh:∀ih r T D H n,h ih r T D H n=da P G N ops (FC o) k ih r T D H n)(ih r T D H n) :
  da P G N ops o k ih r T D H n=Rm want (f T) (h ih r T D H n) (match fp N o.dst undef T with|some T=>k ih r T D H n|none=>none):=by
 rw[hh,hf];have e:da P G N ops (FC o) k ih r T D H n=match jZ P G ih r o T H n with
  | none=>none
  | some (.val v H n)=>eU v λ v=>match fp N o.dst v T with
   | some T=>k ih r T D H n
   | none=>none
  | some (.dfr d)=>match fp N o.dst undef T with
   | some T=>k ih r T (d::D) H n
   | none=>none:=by
  simp only[da,eO,FC];rw[<- IG P G ih r T H n o];rfl
 rw[e];simp only[da,eO,hg,hd];cases cY T d with
 | bool b=>cases b <;> cases want <;> rfl
 | _=>rfl
theorem Oe{P:Program}{G N:Nat}{ops:Array Oper}{o:Oper}{k:Kt}:IC P G N ops o k (Oa P G N ops o (.mk k)):=by
 cases hg:o.guard with
 | none=>simp only[Oa,hg];exact CB hg
 | some jw =>
  obtain⟨j,want⟩:=jw;cases hd:(ops[j]?).bind (·.dst) with
  | none=>simp only[Oa,hg,hd];exact dN
  | some d =>
   cases hf:vL (pth d) with
   | mk f=>cases hh:IB P G N ops (FC o) k with
    | mk h =>
     have hf':∀T,f T=cY T d:=λ T=>by have:=qz (pth d) T;rw[hf] at this;exact this
     have hh':=CB (P:=P) (G:=G) (N:=N) (ops:=ops) (o:=FC o) (k:=k) rfl;rw[hh] at hh';cases hdk:iC N o.dst with
     | ok g =>
      simp only[Oa,hg,hd,hf,hh,hdk];intro ih r T D H n;rw[rT hg hd hf' hh',Ct hdk];rfl
     | no =>
      simp only[Oa,hg,hd,hf,hh,hdk];intro ih r T D H n;rw[rT hg hd hf' hh',Cu hdk];rfl
     | bad=>simp only[Oa,hg,hd,hf,hh,hdk];exact dN
theorem CC(P:Program)(G N:Nat)(ops:Array Oper):∀l,CzR.okL P G N ops l (EQ P G N ops l).f
 | []=>λ ih r T D H n=>rfl
 | o::l=>by
  have h:=CC P G N ops l;cases hk:EQ P G N ops l with
  | mk k =>
   rw[hk] at h;intro ih r T D H n;simp only[EQ,hk];rw[Oe];exact Ln h o ih r T D H n
def QF(P:Program)(G N:Nat)(c:Code)(ih:Ih)(r:Option Nat)(T:Tr Value)(D:List Deferred)(H:AH)(n:Nat):Option (Ex × St):=ji P G ih r N c ⟨T,D,H,n⟩
def PU(k:Kt)(ih:Ih)(r:Option Nat)(T:Tr Value)(D:List Deferred)(H:AH)(n:Nat):Option (Ex × St):=match k ih r T D H n with
 | some s=>some (.normal,s)
 | none=>none
abbrev Kc:=Ih -> Option Nat -> Tr Value -> List Deferred -> AH -> Nat -> Option (Ex × St)
def Rn(x:Option (Ex × St))(y:Tr Value -> List Deferred -> AH -> Nat -> Option (Ex × St)):Option (Ex × St):=match x with
 | some p=>match p with
  | (e,s)=>match e with
   | .normal=>match s with
    | ⟨T,D,H,n⟩=>y T D H n
   | .exit id=>some (.exit id,s)
   | .ret=>some (.ret,s)
 | none=>none
def PV(a b:Kc)(ih:Ih)(r:Option Nat)(T:Tr Value)(D:List Deferred)(H:AH)(n:Nat):Option (Ex × St):=Rn (a ih r T D H n) λ T D H n=>b ih r T D H n
def PW(u:Value)(x y:Option (Ex × St)):Option (Ex × St):=match u with
 | .bool b=>match b with
  | true=>x
  | false=>y
 | _=>none
def ME(f:Tr Value -> Value)(a b:Kc)(ih:Ih)(r:Option Nat)(T:Tr Value)(D:List Deferred)(H:AH)(n:Nat):Option (Ex × St):=PW (f T) (a ih r T D H n) (b ih r T D H n)
def PX(id:Nat)(x:Option (Ex × St)):Option (Ex × St):=match x with
 | some p=>match p with
  | (e,s)=>match e with
   | .exit UP=>match Nat.beq UP id with
    | true=>some (.normal,s)
    | false=>some (.exit UP,s)
   | .normal=>some (.normal,s)
   | .ret=>some (.ret,s)
 | none=>none
def PY(id:Nat)(a:Kc)(ih:Ih)(r:Option Nat)(T:Tr Value)(D:List Deferred)(H:AH)(n:Nat):Option (Ex × St):=PX id (a ih r T D H n)
def PZ(x:Option (Ex × St))(y:St -> Option Rs):Option (Ex × St):=match x with
 | some p=>match p with
  | (e,s)=>match e with
   | .normal=>match y s with
    | some q=>match q with
     | .cd e s=>some (e,s)
     | .fn _ _ _=>none
    | none=>none
   | .exit id=>some (.exit id,s)
   | .ret=>some (.ret,s)
 | none=>none
def P0(N:Nat)(c:Code)(a:Kc)(ih:Ih)(r:Option Nat)(T:Tr Value)(D:List Deferred)(H:AH)(n:Nat):Option (Ex × St):=PZ (a ih r T D H n) λ s=>ih (.loop r N c s)
def iE(P:Program)(G N:Nat):Code -> CzC
 | .skip=>.mk λ _ _ T D H n=>some (.normal,⟨T,D,H,n⟩)
 | .label _=>.mk λ _ _ T D H n=>some (.normal,⟨T,D,H,n⟩)
 | .region id ops draw=>match draw with
  | false=>match EQ P G N ops ops.toList with
   | .mk k=>.mk (PU k)
  | true=>.mk (QF P G N (.region id ops true))
 | .seq a b=>match iE P G N a with
  | .mk fa=>match iE P G N b with
   | .mk fb=>.mk (PV fa fb)
 | .cond c a b=>match cv c with
  | .mk f=>match iE P G N a with
   | .mk fa=>match iE P G N b with
    | .mk fb=>.mk (ME f fa fb)
 | .block id c=>match iE P G N c with
  | .mk fa=>.mk (PY id fa)
 | .loop c=>match iE P G N c with
  | .mk fa=>.mk (P0 N c fa)
 | .rangeFunc g ps assign body=>.mk (QF P G N (.rangeFunc g ps assign body))
 | .exit id=>.mk λ _ _ T D H n=>some (.exit id,⟨T,D,H,n⟩)
 | .scope c=>iE P G N c
 | .goto l=>.mk (QF P G N (.goto l))
 | .ret=>.mk λ _ _ T D H n=>some (.ret,⟨T,D,H,n⟩)
 | .refuse x=>.mk (QF P G N (.refuse x))
def P2(P:Program)(G N:Nat)(c:Code)(f:Kc):Prop:=∀ih r T D H n,f ih r T D H n=ji P G ih r N c ⟨T,D,H,n⟩
theorem iG(P:Program)(G N:Nat):∀c,P2 P G N c (iE P G N c).f
 | .skip=>λ _ _ _ _ _ _=>rfl
 | .label _=>λ _ _ _ _ _ _=>rfl
 | .region id ops draw=>by
  cases draw with
  | true=>exact λ _ _ _ _ _ _=>rfl
  | false =>
   have h:=CC P G N ops ops.toList;cases hk:EQ P G N ops ops.toList with
   | mk k =>
    rw[hk] at h;intro ih r T D H n;simp only[iE,hk,CzC.f,PU,ji];have:=h ih r T D H n;simp only[CzR.f] at this;rw[this];cases mF P G ih r N ops ops.toList ⟨T,D,H,n⟩ <;> rfl
 | .seq a b=>by
  have h1:=iG P G N a;have h2:=iG P G N b;cases ha:iE P G N a with
  | mk fa=>cases hb:iE P G N b with
   | mk fb =>
    rw[ha] at h1;rw[hb] at h2;intro ih r T D H n;have e1:=h1 ih r T D H n;simp only[CzC.f] at e1;simp only[iE,ha,hb,CzC.f,PV,ji,e1];cases ji P G ih r N a ⟨T,D,H,n⟩ with
    | none=>rfl
    | some p=>obtain⟨e,s⟩:=p;cases e with
     | normal=>obtain⟨T,D,H,n⟩:=s;exact h2 ih r T D H n
     | exit id=>rfl
     | ret=>rfl
 | .cond c a b=>by
  have h1:=iG P G N a;have h2:=iG P G N b;cases hc:cv c with
  | mk f=>cases ha:iE P G N a with
   | mk fa=>cases hb:iE P G N b with
    | mk fb =>
     rw[ha] at h1;rw[hb] at h2;intro ih r T D H n;simp only[iE,hc,ha,hb,CzC.f,ME,ji,zu hc];cases ael T c with
     | bool q=>cases q with
      | true=>exact h1 ih r T D H n
      | false=>exact h2 ih r T D H n
     | _=>rfl
 | .block id c=>by
  have h1:=iG P G N c;cases ha:iE P G N c with
  | mk fa =>
   rw[ha] at h1;intro ih r T D H n;have e1:=h1 ih r T D H n;simp only[CzC.f] at e1;simp only[iE,ha,CzC.f,PY,ji,e1];cases ji P G ih r N c ⟨T,D,H,n⟩ with
   | none=>rfl
   | some p=>obtain⟨e,s⟩:=p;cases e with
    | normal=>rfl
    | exit UP=>simp only[PX];cases Nat.beq UP id <;> rfl
    | ret=>rfl
 | .loop c=>by
  have h1:=iG P G N c;cases ha:iE P G N c with
  | mk fa =>
   rw[ha] at h1;intro ih r T D H n;have e1:=h1 ih r T D H n;simp only[CzC.f] at e1;simp only[iE,ha,CzC.f,P0,ji,e1];cases ji P G ih r N c ⟨T,D,H,n⟩ with
   | none=>rfl
   | some p=>obtain⟨e,s⟩:=p;cases e with
    | normal =>
     simp only[PZ];cases ih (.loop r N c s) with
     | none=>rfl
     | some q=>cases q <;> rfl
    | exit UP=>rfl
    | ret=>rfl
 | .rangeFunc g ps assign body=>λ _ _ _ _ _ _=>rfl
 | .exit id=>λ _ _ _ _ _ _=>rfl
 | .scope c=>by
  intro ih r T D H n;simp only[iE,ji];exact iG P G N c ih r T D H n
 | .goto l=>λ _ _ _ _ _ _=>rfl
 | .ret=>λ _ _ _ _ _ _=>rfl
 | .refuse x=>λ _ _ _ _ _ _=>rfl
def Lr:List ResultVar -> Option CzA
 | []=>some (.mk λ _=>[])
 | x::l=>match x with
  | .tmp t=>match vL (pth t) with
   | .mk f=>match Lr l with
    | some c=>match c with
     | .mk h=>some (.mk λ T=>f T::h T)
    | none=>none
  | .cell _ _=>none
theorem IH(P:Program)(H:AH)(T:Tr Value):∀ {l:List ResultVar} {h},Lr l=some (.mk h) -> oU P T H l=some (h T)
 | [],h,e=>by simp only[Lr,Option.some.injEq,CzA.mk.injEq] at e;subst e;rfl
 | .cell _ _::l,h,e=>by simp[Lr] at e
 | .tmp t::l,h,e=>by
  simp only[Lr] at e;cases hf:vL (pth t) with
  | mk f =>
   rw[hf] at e;simp only at e;cases hl:Lr l with
   | none=>rw[hl] at e;simp at e
   | some c=>cases c with
    | mk h' =>
     rw[hl] at e;simp only[Option.some.injEq,CzA.mk.injEq] at e;subst e;have:=qz (pth t) T;rw[hf] at this;simp only[CzV.f] at this;simp only[oU,IH P H T hl,this];rfl
def Og(l:List Value):Nat -> Tr Value -> Tr Value:=List.rec (motive:=λ _=>Nat -> Tr Value -> Tr Value) (λ _ t=>t) (λ x _ ih i t=>eU x λ x=>ih (i+1) (dV undef x (pth i) t)) l
theorem CD:∀ (l:List Value) (i:Nat) (t:Tr Value),Og l i t=dR undef l i t
 | [],i,t=>rfl
 | x::l,i,t=>by
  have:=CD l (i+1) (dV undef x (pth i) t);show (eU x λ x=>Og l (i+1) (dV undef x (pth i) t))=_;rw[cK,this,dR];have e:Tr.set undef x t i=dV undef x (pth i) t:=rfl;rw[e];cases dV undef x (pth i) t <;> rfl
def P3(h:List Value):Value:=match h with
 | []=>.tuple ⟨[]⟩
 | v::l=>match l with
  | []=>v
  | w::l=>.tuple ⟨v::w::l⟩
theorem Ls(h:List Value):P3 h=yf h:=by
 cases h with
 | nil=>rfl
 | cons v l=>cases l <;> rfl
def P4(P:Program)(fn:Func)(ih:Ih)(s:St):Option Rs:=match kq P ih s.D s.H s.n with
 | some (H,n)=>match oU P s.T H fn.results.toList with
  | some vs=>some (.fn (yf vs) H n)
  | none=>none
 | none=>none
def Rp(P:Program)(fn:Func)(h:Tr Value -> List Value)(ih:Ih)(s:St):Option Rs:=match s with
 | ⟨T,D,H,n⟩=>match D with
  | []=>some (.fn (P3 (h T)) H n)
  | d::D=>P4 P fn ih ⟨T,d::D,H,n⟩
def fnR(x:Option (Ex × St))(y:St -> Option Rs):Option Rs:=match x with
 | some p=>match p with
  | (e,s)=>match e with
   | .exit _=>none
   | .normal=>y s
   | .ret=>y s
 | none=>none
def QG(N:Nat)(k:Kc)(y:Ih -> St -> Option Rs)(ih:Ih)(args:List Value)(H:AH)(n:Nat):Option Rs:=match Nat.ble (gt args) N with
 | true=>fnR (k ih none (Og args 0 .lf) [] H n) (y ih)
 | false=>none
def EU(P:Program)(G:Nat)(f:FuncId):CzF:=match rC P f with
 | some (fn,c)=>match iE P G fn.ntmps c with
  | .mk k=>match Lr fn.results.toList with
   | some h=>match h with
    | .mk h=>.mk (QG fn.ntmps k (Rp P fn h))
   | none=>.mk (QG fn.ntmps k (P4 P fn))
 | none=>.mk λ _ _ _ _=>none
theorem Oh{P:Program}{fn:Func}{h}(e:Lr fn.results.toList=some (.mk h))(ih:Ih)(s:St):Rp P fn h ih s=P4 P fn ih s:=by
 obtain⟨T,D,H,n⟩:=s;cases D with
 | cons d D=>rfl
 | nil=>simp only[Rp,P4,kq,IH P H T e,Ls]
theorem II{P:Program}{G:Nat}{fn:Func}{c:Code}{f:FuncId}(hb:rC P f=some (fn,c)){k:Kc}(hk:P2 P G fn.ntmps c k){y:Ih -> St -> Option Rs}(hy:∀ih s,y ih s=P4 P fn ih s)(ih:Ih)(args:List Value)(H:AH)(n:Nat):QG fn.ntmps k y ih args H n=gS P G ih (.fn f args H n):=by
 simp only[QG,gS,hb];cases Nat.ble (gt args) fn.ntmps with
 | false=>rfl
 | true =>
  simp only[hk ih,CD];rw[show dR undef args 0 .lf=mG args from rfl];cases ji P G ih none fn.ntmps c ⟨mG args,[],H,n⟩ with
  | none=>rfl
  | some p=>obtain⟨e,s⟩:=p;cases e with
   | exit _=>rfl
   | normal=>exact hy ih s
   | ret=>exact hy ih s
theorem Lt(P:Program)(G:Nat)(f:FuncId)(ih:Ih)(args:List Value)(H:AH)(n:Nat):(EU P G f).f ih args H n=gS P G ih (.fn f args H n):=by
 cases hb:rC P f with
 | none=>simp only[EU,hb,CzF.f,gS]
 | some p =>
  obtain⟨fn,c⟩:=p;have h1:=iG P G fn.ntmps c;cases hk:iE P G fn.ntmps c with
  | mk k =>
   rw[hk] at h1;cases hr:Lr fn.results.toList with
   | none =>
    simp only[EU,hb,hk,hr,CzF.f];exact II hb h1 (λ _ _=>rfl) ih args H n
   | some h=>cases h with
    | mk h =>
     simp only[EU,hb,hk,hr,CzF.f];exact II hb h1 (λ ih s=>Oh hr ih s) ih args H n
def yJ(P:Program)(G:Nat)(ih:Ih)(t:Task):Option Rs:=match t with
 | .loop r N c s=>match iE P G N (.loop c) with
  | .mk k=>match s with
   | ⟨T,D,H,n⟩=>match k ih r T D H n with
    | some p=>match p with
     | (e,s)=>some (.cd e s)
    | none=>none
 | .fn f args H n=>match EU P G f with
  | .mk k=>k ih args H n
 | t=>gS P G ih t
theorem IJ(P:Program)(G:Nat)(ih:Ih)(t:Task):yJ P G ih t=gS P G ih t:=by
 cases t with
 | loop r N c s =>
  obtain⟨T,D,H,n⟩:=s;have h1:=iG P G N (.loop c);cases hk:iE P G N (.loop c) with
  | mk k =>
   rw[hk] at h1;have:=h1 ih r T D H n;simp only[CzC.f] at this;simp only[yJ,hk,gS,this];cases ji P G ih r N (.loop c) ⟨T,D,H,n⟩ with
   | none=>rfl
   | some p=>rfl
 | fn f args H n =>
  have:=Lt P G f ih args H n;cases hk:EU P G f with
  | mk k =>
   rw[hk] at this;simp only[yJ,hk];exact this
 | _=>rfl
def IK(P:Program)(G:Nat)(k:Nat):Ih:=Nat.rec (motive:=λ _=>Ih) (λ _=>none) (λ _ ih t=>yJ P G ih t) k
theorem CE(P:Program)(G:Nat):∀k,IK P G k=HV P G k
 | 0=>rfl
 | k+1=>by
  funext t;show yJ P G (IK P G k) t=_;rw[IJ,CE P G k];rfl
end
end Go.Proofs.YtdppjkjbghbnjaaGreatDoor
