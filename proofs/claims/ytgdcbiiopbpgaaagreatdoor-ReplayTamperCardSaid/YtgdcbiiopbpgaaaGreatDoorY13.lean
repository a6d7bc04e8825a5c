import Derived.Test.YtgdcbiiopbpgaaaGreatDoorY12
import Derived.Test.YtgdcbiiopbpgaaaGreatDoorY00
import Derived.Test.YtgdcbiiopbpgaaaGreatDoorY09
set_option maxHeartbeats 4000000
set_option maxRecDepth 100000
set_option linter.unusedSimpArgs false
set_option linter.unusedVariables false
namespace Go.Proofs.YtgdcbiiopbpgaaaGreatDoor
open Go.RowKit
section code
variable {ν ν':Nu} {P:Program} {G N:Nat} {T T':Tr Value} {a:Act} {H H':AH} {F:HL} {w w':World} {r r':Option Nat} {ih:Task -> Option Rs}
theorem Ext.sub'{n m k:Nat}(h1:Ext ν ν' n m)(hf:Fr ν n k)(hm:m <= k):ν.Le ν':=h1.sub λ i a b=>hf i a (by omega)
theorem ya(r_:kM P G ih){c:Code}(hc:∀ (s:St) e s',je P G ih r N c s=some (e,s') -> jP P G (.code r N c s) (.cd e s')){s s':St}{e:Ex}(h:je P G ih r N (.loop c) s=some (e,s')):jP P G (.loop r N c s) (.cd e s'):=by
 rw[je] at h
 split at h
 ·rename_i s1 h1
  obtain⟨q1,q2⟩:=hc _ _ _ h1
  split at h
  ·rename_i e2 s2 h2
   cases h
   obtain⟨p1,p2⟩:=r_ _ _ h2
   refine⟨by omega,λ ν F a w r' Q hr hs hf hk=>xV ?_⟩
   refine q2 ν F a w r' _ hr hs (λ i a b=>hf i a (by omega)) (λ ν' a' w' k1 k2 k3=>?_)
   have Q2:=k1.sub' hf p1
   exact p2 ν' F a' w' r' Q (hr.mono Q2) k2 (k1.fr hf p1) (λ ν2 a2 w2 g1 g2 g3=>hk ν2 a2 w2 (k1.trans g1) g2 (k3.trans g3))
  ·cases h
 ·rename_i x G_
  obtain⟨q1,q2⟩:=hc _ _ _ h
  refine⟨q1,λ ν F a w r' Q hr hs hf hk=>xV ?_⟩
  refine q2 ν F a w r' _ hr hs hf (λ ν' a' w' k1 k2 k3=>?_)
  have:=hk ν' a' w' k1 k2 k3
  cases e with
  | normal=>exact(G_ _ h).elim
  | exit id=>exact this
  | ret=>exact this
theorem Hf{c:Code}{e:Ex}{Q:Exit -> Act -> World -> Prop}{a:Act}(h:BK c=some e)(hq:Q e.out a w):c.wpIn (Wr r') 0 P Q a w:=by
 unfold BK at h
 split at h
 ·cases h;exact wpIn_ret hq
 ·cases h;exact wpIn_exit hq
 ·cases h
theorem Ac{fn:FuncId}{tm:Array Value}{ps:Array Tmp}{as bo:Code}{w:World}:(Instr.enterLoop fn tm ps as bo none).run P w =
  .ok (w.heap.size+1,[{ target:=.collected w.heap.size,args:=#[] }]) { w with heap:=(w.heap.push (.deferred (some []))).push (.loop { state:=.ready,pending:=none,fn,tmps:=tm,params:=ps,assign:=as,body:=bo,defers:=w.heap.size }) }:=by
 unfold Instr.enterLoop
 simp only[Sem.run_bind,fe,cJ,Result.andThen_ok,Array.size_push]
theorem Ad{fn:FuncId}{tm:Array Value}{ps:Array Tmp}{as bo:Code}{w:World}{l:Nat}{lp:Loop}(h:w.heap[l]?=some (.loop lp)):(Instr.enterLoop fn tm ps as bo (some l)).run P w =
  .ok (w.heap.size,[]) { w with heap:=w.heap.push (.loop { state:=.ready,pending:=none,fn,tmps:=tm,params:=ps,assign:=as,body:=bo,defers:=lp.defers }) }:=by
 unfold Instr.enterLoop
 simp only[Sem.run_bind,fe,cJ,Result.andThen_ok,gP h]
theorem lK{l:Nat}{lp:Loop}{o:Obj}(h:w.heap[l]?=some (.loop lp)):(setObj l o).run P w=.ok () { w with heap:=w.heap.setIfInBounds l o }:=by
 unfold setObj
 rw[Sem.run.eq_def]
 simp only[h]
 rfl
theorem HR.setObj(hH:HR ν H F w){h b K:Nat}{b0 b1:AB}{o':Obj}(hb:bP H h=some b0)(hw0:GW b0=true)(hw1:GW b1=true)(hν:ν h=some (b,K))(ho:OR ν K b1 o'):HR ν (cV H h (some b1)) F { w with heap:=w.heap.setIfInBounds b o' }:=by
 have iF:=hH.lt hb hν
 refine hH.upd hb hw0 hw1 hν (o':=o') ?_ ho (λ k hk=>?_)
 ·show (w.heap.setIfInBounds b o')[b]?=_
  rw[Array.getElem?_setIfInBounds_self_of_lt iF]
 ·show (w.heap.setIfInBounds b o')[k]?=_
  rw[Array.getElem?_setIfInBounds_ne (Ne.symm hk)]
theorem mi{b:Nat}{o:Obj}:Below 0 w { w with heap:=w.heap.setIfInBounds b o }:=⟨rfl,rfl,rfl,by simp,λ k hk=>by omega⟩
theorem yb{l:Nat}{lp:Loop}(h:w.heap[l]?=some (.loop lp))(hb:lp.state ≠ .busy):(Instr.endLoop l).run P w=.ok lp.pending { w with heap:=w.heap.setIfInBounds l (.loop { lp with state:=.exhausted }) }:=by
 unfold Instr.endLoop
 rw[Sem.run_bind,gP h]
 simp only[Result.andThen_ok]
 rw[if_neg (by simpa using hb)]
 rw[Sem.run_bind,lK h]
 rfl
theorem DU(r_:kM P G ih){g:Operand}{ps:Array Tmp}{as bo:Code}{s s':St}{e:Ex}(h:je P G ih r N (.rangeFunc g ps as bo) s=some (e,s')):jP P G (.code r N (.rangeFunc g ps as bo) s) (.cd e s'):=by
 rw[je.eq_def] at h
 simp only at h
 split at h
 case h_2=>cases h
 rename_i f first captured hg hk
 split at h
 case h_2=>cases h
 rename_i hB
 split at h
 case h_2=>cases h
 rename_i d D H1 n1 Rb
 split at h
 case h_2=>cases h
 rename_i v H2 n2 R5
 split at h
 case h_2=>cases h
 rename_i st pend T' N' U1 UQ Zd d' hlp
 obtain⟨hle,Un⟩:=r_ _ _ R5
 have hn1:s.n <= n1:=by
  cases r with
  | none=>simp only[Option.some.injEq,Prod.mk.injEq] at Rb;omega
  | some l0 =>
   simp only at Rb
   split at Rb
   ·simp only[Option.some.injEq,Prod.mk.injEq] at Rb;omega
   ·cases Rb
 have iS:st ≠ .busy:=by
  rintro rfl
  simp at h
 have OF:s'=⟨s.T,D,cV H2 n1 (some (.loop .exhausted pend T' N' U1 UQ Zd d')),n2⟩ /\ ((pend=none /\ e=.normal) \/ ∃c,pend=some c /\ BK c=some e):=by
  cases st with
  | busy=>exact(iS rfl).elim
  | _ =>
   cases pend with
   | none=>simp at h;exact⟨h.2.symm,.inl ⟨rfl,h.1.symm⟩⟩
   | some c =>
    simp only at h
    split at h
    ·rename_i e1 he
     cases h
     exact⟨rfl,.inr ⟨c,rfl,he⟩⟩
    ·cases h
 obtain⟨rfl,hpend⟩:=OF
 refine⟨by simp only;omega,λ ν F a w r' Q hr hs hf hkk=>?_⟩
 simp only at hf hkk
 refine wpIn_rangeFunc λ fn _=>?_
 have hlay:∃ (l:Nat) (mark:List Deferred) (w1:World) (ν1:Nu),(Instr.enterLoop fn a.tmps ps as bo (Wr r').round).run P w=.ok (l,mark) w1 /\ ν1 n1=some (l,0) /\ Ext ν ν1 s.n (n1+1) /\ HR ν1 (cV H1 n1 (some (.loop .ready none s.T N ps as bo d))) F w1 /\ Below 0 w w1 /\ DsR ν1 D (mark++a.defers) /\ ν.Le ν1:=by
  cases hr with
  | none =>
   simp only[Option.some.injEq,Prod.mk.injEq] at Rb
   obtain⟨e1,e2,e3,e4⟩:=Rb
   subst e1;subst e2;subst e3;subst e4
   have Vo:ν s.n=none:=hf _ (Nat.le_refl _) (by omega)
   have hx1:Ext ν (ν.upd s.n w.heap.size 0) s.n (s.n+1):=.upd
   have UD:=j9 (r:=w.heap.size) (K:=0) Vo
   have h1:HR (ν.upd s.n w.heap.size 0) (cV s.H s.n (some (.dfr false))) F { w with heap:=w.heap.push (.deferred (some [])) }:=hs.h.new (K:=0) Vo (b:=.dfr false) (o:=.deferred (some [])) rfl rfl rfl
   have hn2:(ν.upd s.n w.heap.size 0) (s.n+1)=none:=by rw[eK (by omega)];exact hf _ (by omega) (by omega)
   have Xt:Ext (ν.upd s.n w.heap.size 0) ((ν.upd s.n w.heap.size 0).upd (s.n+1) (w.heap.size+1) 0) (s.n+1) (s.n+1+1):=.upd
   have Vr:=j9 (r:=w.heap.size+1) (K:=0) hn2
   have h2:=h1.new (K:=0) (w':={ w with heap:=(w.heap.push (.deferred (some []))).push (.loop { state:=.ready,pending:=none,fn,tmps:=a.tmps,params:=ps,assign:=as,body:=bo,defers:=w.heap.size }) }) hn2 (b:=.loop .ready none s.T N ps as bo s.n) (o:=.loop { state:=.ready,pending:=none,fn,tmps:=a.tmps,params:=ps,assign:=as,body:=bo,defers:=w.heap.size }) ⟨rfl,rfl,hs.t.mono UD,rfl,rfl,rfl,0,cr⟩ rfl rfl
   have ID:({ w with heap:=w.heap.push (.deferred (some [])) }:World).heap.size=w.heap.size+1:=by simp
   rw[ID] at h2
   refine⟨w.heap.size+1,_,_,_,Ac,cr,hx1.trans Xt,h2,⟨rfl,rfl,rfl,by simp;omega,λ k hk=>by omega⟩,.cons ⟨.coll (b:=w.heap.size) (K:=0) ?_,.nil⟩ ((hs.d.mono UD).mono Vr),UD.trans Vr⟩
   exact Vr _ _ cr
  | @some l0 b0 K0 hν0 =>
   simp only at Rb
   split at Rb
   case h_2=>cases Rb
   rename_i _ _ _ _ _ _ _ dd Uq
   simp only[Option.some.injEq,Prod.mk.injEq] at Rb
   obtain⟨e1,e2,e3,e4⟩:=Rb
   subst e1;subst e2;subst e3;subst e4
   obtain⟨lp,g1,g2,g3,g4,g5,g6,g7,K',g8⟩:=hs.h.loop Uq hν0
   have Vo:ν s.n=none:=hf _ (Nat.le_refl _) (by omega)
   have UD:=j9 (r:=w.heap.size) (K:=0) Vo
   have h1:=hs.h.new (K:=0) (w':={ w with heap:=w.heap.push (.loop { state:=.ready,pending:=none,fn,tmps:=a.tmps,params:=ps,assign:=as,body:=bo,defers:=lp.defers }) }) Vo (b:=.loop .ready none s.T N ps as bo dd) (o:=.loop { state:=.ready,pending:=none,fn,tmps:=a.tmps,params:=ps,assign:=as,body:=bo,defers:=lp.defers }) ⟨rfl,rfl,hs.t,rfl,rfl,rfl,K',g8⟩ rfl rfl
   refine⟨w.heap.size,_,_,_,Ad g1,cr,.upd,h1,⟨rfl,rfl,rfl,by simp,λ k hk=>by omega⟩,hs.d.mono UD,UD⟩
 obtain⟨l,mark,w1,ν1,g1,g2,g3,g4,g5,g6,g7⟩:=hlay
 have hgv:VRi ν (ael s.T g) (a.eval g):=(FE.mk hs.t hs.g:FE ν G N s.T a).ael hk
 rw[hg] at hgv
 obtain⟨fn',f',c',e',r1,r2,r3⟩:=rS hgv
 cases r1
 refine⟨l,mark,w1,{ target:=.fn (.func f) c',args:=f'++#[.func (.yield l) #[] #[]] },w1,f,⟨f'.toList++(.func (.yield l) #[] #[]::c'.toList)⟩,w1,g1,?_,λ _ _=>trivial,?_,λ h=>(by cases h),?_⟩
 ·have:=nu (P:=P) (c:=rangeCall g l) (ty:=0) (ρ:=a.eval) rfl e' w1
  rw[this]
  simp[Act.eval]
 ·show (callFunc f (f'++#[.func (.yield l) #[] #[]]++c')).run P w1=_
  rw[iy hB]
  congr 2
  apply Array.ext'
  simp
 ·have SI:Fr ν1 (n1+1) n2:=g3.fr hf (by omega)
  refine iL ((Un ν1 F w1 _ (hs.g.mono g7) SI g4 ((r2.mono g7).append (.cons (.func_of (.yield g2) .nil .nil) (r3.mono g7)))).mono ?_)
  rintro en w3 ⟨ν3,v',rfl,k1,k2,k3,k4⟩
  have Sf:ν3 n1=some (l,0):=k2.sub SI _ _ g2
  obtain⟨lp,q1,q2,q3,q4,q5,q6,q7,K',q8⟩:=k3.loop hlp Sf
  refine⟨lp.pending,_,yb q1 (by rw[q2];exact iS),?_⟩
  have hH3:HR ν3 (cV H2 n1 (some (.loop .exhausted pend T' N' U1 UQ Zd d'))) F { w3 with heap:=w3.heap.setIfInBounds l (.loop { lp with state:=.exhausted }) } :=
   k3.setObj hlp rfl rfl Sf ⟨rfl,q3,q4,q5,q6,q7,K',q8⟩
  have hExt:Ext ν ν3 s.n n2:=g3.trans k2
  have Sj:=hkk ν3 { a with defers:=mark++a.defers } { w3 with heap:=w3.heap.setIfInBounds l (.loop { lp with state:=.exhausted }) } hExt ⟨(hs.g.mono g7).mono (k2.sub SI),(hs.t.mono g7).mono (k2.sub SI),g6.mono (k2.sub SI),hH3⟩ ((g5.trans k4).trans mi)
  rcases hpend with ⟨hp,he⟩|⟨c,hp,he⟩
  ·rw[q3.trans hp] at Sj ⊢
   subst he
   exact Sj
  ·rw[q3.trans hp] at Sj ⊢
   exact Hf he Sj
theorem pm(r_:kM P G ih)(hm:P.follows .mixedOrders=true):∀ (c:Code) (s:St) (e:Ex) (s':St),je P G ih r N c s=some (e,s') -> jP P G (.code r N c s) (.cd e s'):=by
 have calm:∀ (c:Code) (s:St) (e:Ex),(∀r' (Q:Exit -> Act -> World -> Prop) a w,Q e.out a w -> c.wpIn (Wr r') 0 P Q a w) -> jP P G (.code r N c s) (.cd e s):=λ c s e h =>
  ⟨Nat.le_refl _,λ ν F a w r' Q hr hs hf hk=>h r' Q a w (hk ν a w (.refl _ _) hs (Below.refl _ _))⟩
 intro c
 induction c with
 | skip=>intro s e s' h;rw[je] at h;cases h;exact calm _ _ _ λ r' Q a w hq=>wpIn_skip hq
 | label l=>intro s e s' h;rw[je] at h;cases h;exact calm _ _ _ λ r' Q a w hq=>wpIn_label hq
 | exit id=>intro s e s' h;rw[je] at h;cases h;exact calm _ _ _ λ r' Q a w hq=>wpIn_exit hq
 | ret=>intro s e s' h;rw[je] at h;cases h;exact calm _ _ _ λ r' Q a w hq=>wpIn_ret hq
 | goto l=>intro s e s' h;rw[je] at h;cases h
 | refuse y=>intro s e s' h;rw[je] at h;cases h
 | region id ops draw =>
  intro s e s' h
  rw[je.eq_def] at h
  simp only at h
  split at h
  ·split at h
   ·rename_i s1 h1
    cases h
    obtain⟨q1,q2⟩:=oz r_ _ _ _ h1
    exact⟨q1,λ ν F a w r' Q hr hs hf hk=>wpIn_region_list (q2 ν F a w r' Q hr hs hf hk)⟩
   ·cases h
  ·split at h
   ·rename_i s1 h1
    cases h
    exact Ks r_ hm h1
   ·cases h
 | seq x y Wx X4 =>
  intro s e s' h
  rw[je] at h
  split at h
  ·rename_i s1 h1
   obtain⟨q1,q2⟩:=Wx _ _ _ h1
   obtain⟨p1,p2⟩:=X4 _ _ _ h
   refine⟨by omega,λ ν F a w r' Q hr hs hf hk=>wpIn_seq ?_⟩
   refine q2 ν F a w r' _ hr hs (λ i a b=>hf i a (by omega)) (λ ν' a' w' k1 k2 k3=>?_)
   exact p2 ν' F a' w' r' Q (hr.mono (k1.sub' hf p1)) k2 (k1.fr hf p1) (λ ν2 a2 w2 g1 g2 g3=>hk ν2 a2 w2 (k1.trans g1) g2 (k3.trans g3))
  ·rename_i G_
   obtain⟨q1,q2⟩:=Wx _ _ _ h
   refine⟨q1,λ ν F a w r' Q hr hs hf hk=>wpIn_seq ?_⟩
   refine q2 ν F a w r' _ hr hs hf (λ ν' a' w' k1 k2 k3=>?_)
   have:=hk ν' a' w' k1 k2 k3
   cases e with
   | normal=>exact(G_ _ h).elim
   | exit id=>exact this
   | ret=>exact this
 | cond c x y Wx X4 =>
  intro s e s' h
  rw[je] at h
  have I_:∀ν F a w b,SR ν G N s F a w -> ael s.T c=.bool b -> a.eval c=.bool b:=λ ν F a w b hs he=>by
   cases c with
   | tmp t =>
    have:=(FE.mk hs.t hs.g:FE ν G N s.T a).ael (x:=.tmp t) rfl
    rw[he] at this
    exact this.plain_eq rfl
   | const v=>exact he
   | global g=>cases he
   | func f=>cases he
  split at h
  ·rename_i he
   obtain⟨q1,q2⟩:=Wx _ _ _ h
   exact⟨q1,λ ν F a w r' Q hr hs hf hk=>wpIn_cond_true (I_ _ _ _ _ _ hs he) (q2 ν F a w r' Q hr hs hf hk)⟩
  ·rename_i he
   obtain⟨q1,q2⟩:=X4 _ _ _ h
   exact⟨q1,λ ν F a w r' Q hr hs hf hk=>wpIn_cond_false (I_ _ _ _ _ _ hs he) (q2 ν F a w r' Q hr hs hf hk)⟩
  ·cases h
 | block id c Zl =>
  intro s e s' h
  rw[je] at h
  split at h
  ·rename_i TJ s1 h1
   obtain⟨q1,q2⟩:=Zl _ _ _ h1
   split at h
   ·rename_i hid
    cases h
    have hid':TJ=id:=Nat.eq_of_beq_eq_true hid
    refine⟨q1,λ ν F a w r' Q hr hs hf hk=>wpIn_block ?_⟩
    refine q2 ν F a w r' _ hr hs hf (λ ν' a' w' k1 k2 k3=>?_)
    show (if TJ=id then _ else _)
    rw[if_pos hid']
    exact hk ν' a' w' k1 k2 k3
   ·rename_i hid
    cases h
    refine⟨q1,λ ν F a w r' Q hr hs hf hk=>wpIn_block ?_⟩
    refine q2 ν F a w r' _ hr hs hf (λ ν' a' w' k1 k2 k3=>?_)
    show (if TJ=id then _ else _)
    rw[if_neg (λ e=>by subst e;simp at hid)]
    exact hk ν' a' w' k1 k2 k3
  ·rename_i G_
   obtain⟨q1,q2⟩:=Zl _ _ _ h
   refine⟨q1,λ ν F a w r' Q hr hs hf hk=>wpIn_block ?_⟩
   refine q2 ν F a w r' _ hr hs hf (λ ν' a' w' k1 k2 k3=>?_)
   have:=hk ν' a' w' k1 k2 k3
   cases e with
   | normal=>exact this
   | exit TJ=>exact(G_ _ _ h).elim
   | ret=>exact this
 | loop c Zl =>
  intro s e s' h
  obtain⟨q1,q2⟩:=ya r_ (λ s e s' h=>Zl s e s' h) h
  exact⟨q1,λ ν F a w r' Q hr hs hf hk=>z7 (q2 ν F a w r' Q hr hs hf hk)⟩
 | rangeFunc g ps as bo _ _=>intro s e s' h;exact DU r_ h
 | scope c Zl =>
  intro s e s' h
  rw[je] at h
  obtain⟨q1,q2⟩:=Zl _ _ _ h
  refine⟨q1,λ ν F a w r' Q hr hs hf hk=>g9 ?_⟩
  refine q2 ν F a w r' _ hr hs hf (λ ν' a' w' k1 k2 k3=>?_)
  have:=hk ν' a' w' k1 k2 k3
  cases e <;> exact this
end code
section fn
variable {ν ν':Nu} {P:Program} {G N:Nat} {T T':Tr Value} {a:Act} {H H':AH} {F:HL} {w w':World} {r r':Option Nat} {ih:Task -> Option Rs}
theorem un{args iN:List Value}(h:LR ν args iN)(hl:gu args <= N):TRel ν N (mL args) ((⟨iN⟩:Array Value)++Array.replicate (N-(⟨iN⟩:Array Value).size) undef):=by
 rw[eh] at hl
 have hlen:=h.length
 refine⟨by simp;omega,λ t ht=>?_,λ t ht=>?_⟩
 ·rcases Nat.lt_or_ge t args.length with h1|h1
  ·obtain⟨v',e,q⟩:=h.get (List.getElem?_eq_getElem h1)
   refine⟨v',?_,?_⟩
   ·rw[Array.getElem?_append_left (by simp;omega)]
    simpa using e
   ·unfold mL;rw[lH h1];exact q
  ·refine⟨undef,?_,?_⟩
   ·rw[Array.getElem?_append_right (by simp;omega),Array.getElem?_replicate]
    rw[if_pos (by simp;omega)]
   ·have:cW (mL args) t=undef:=by
     unfold mL cW
     rw[qA]
     rw[if_pos (Nat.zero_le _),dif_neg (by omega)]
     exact zS _
    rw[this];exact VRi.undef
 ·unfold mL cW
  rw[qA,if_pos (Nat.zero_le _),dif_neg (by omega)]
  exact zS _
def Hg(tm:Array Value):ResultVar -> Sem Value
 | .tmp t=>pure (tm.getD t undef)
 | .cell ad t=>do loadVar t (<- asAddr (tm.getD ad undef))
theorem po(hE:FE ν G N T a)(hH:HR ν H F w):∀ {rs:List ResultVar} {vs:List Value},pd P T H rs=some vs -> ∃P_,LR ν vs P_ /\ (rs.mapM (Hg a.tmps)).run P w=.ok P_ w
 | [],vs,h=>by rw[pd] at h;cases h;exact⟨[],.nil,rfl⟩
 | .tmp t::rs,vs,h=>by
  rw[pd] at h
  split at h
  ·rename_i vs0 h0
   cases h
   obtain⟨P_,q1,q2⟩:=po hE hH h0
   have hv:VRi ν (cW T t) (a.tmps.getD t undef):=hE.ael (x:=.tmp t) rfl
   haveI:=i9
   refine⟨_,.cons hv q1,?_⟩
   have h1:(Hg a.tmps (.tmp t)).run P w=.ok (a.tmps.getD t undef) w:=rfl
   rw[List.mapM_cons,Sem.run_bind,h1]
   simp only[Result.andThen_ok]
   rw[Sem.run_bind,q2]
   rfl
  ·cases h
 | .cell ad t::rs,vs,h=>by
  rw[pd] at h
  split at h
  ·rename_i ZF he
   split at h
   ·rename_i v vs0 hv h0
    cases h
    obtain⟨P_,q1,q2⟩:=po hE hH h0
    have hp:VRi ν (cW T ad) (a.tmps.getD ad undef):=hE.ael (x:=.tmp ad) rfl
    rw[he] at hp
    generalize hu:a.tmps.getD ad undef=u at hp
    have hp2:=hp
    cases hp with
    | atom _ h=>simp[cD] at h
    | ptr o hν =>
     obtain⟨v',r1,r2⟩:=xP (P:=P) (t:=t) hH hp2 hv
     haveI:=i9
     refine⟨_,.cons r1 q1,?_⟩
     have h1:(Hg a.tmps (.cell ad t)).run P w=.ok v' w:=by
      show ((asAddr (a.tmps.getD ad undef)) >>= λ x=>loadVar t x).run P w=_
      rw[hu,Sem.run_bind]
      exact r2
     rw[List.mapM_cons,Sem.run_bind,h1]
     simp only[Result.andThen_ok]
     rw[Sem.run_bind,q2]
     rfl
   ·cases h
  ·cases h
theorem rX{fn:Func}{vs:List Value}(hE:FE ν G N T a)(hH:HR ν H F w)(h:pd P T H fn.results.toList=some vs):∃v',VRi ν (xB vs) v' /\ (results fn a.tmps).run P w=.ok v' w:=by
 obtain⟨P_,q1,q2⟩:=po hE hH h
 haveI:=i9
 have h5:(fn.results.mapM (Hg a.tmps)).run P w=.ok ⟨P_⟩ w:=by
  rw[Array.mapM_eq_mapM_toList,<- bind_pure_comp,Sem.run_bind,q2]
  rfl
 have h6:∀v',(∀W,(pure (if h:(⟨P_⟩:Array Value).size=1 then (⟨P_⟩:Array Value)[0] else .tuple ⟨P_⟩):Sem Value).run P W=.ok v' W) -> (results fn a.tmps).run P w=.ok v' w:=λ v' hv=>by
  have:results fn a.tmps=(fn.results.mapM (Hg a.tmps) >>= λ vs=>pure (if h:vs.size=1 then vs[0] else .tuple vs)):=rfl
  rw[this,Sem.run_bind,h5]
  exact hv w
 cases q1 with
 | nil=>exact⟨_,.tuple_of .nil,h6 _ λ W=>rfl⟩
 | cons h1 h2 =>
  cases h2 with
  | nil=>exact⟨_,h1,h6 _ λ W=>rfl⟩
  | cons h3 h4=>exact⟨_,.tuple_of (.cons h1 (.cons h3 h4)),h6 _ λ W=>rfl⟩
theorem mj(r_:kM P G ih){fn:Func}{tm:Array Value}{R:Ending -> World -> Prop}:∀ {D:List Deferred} {H:AH} {n:Nat} {H':AH} {n':Nat},kF P ih D H n=some (H',n') -> n <= n' /\ ∀ν D' w,Glb ν G -> DsR ν D D' -> HR ν H F w -> Fr ν n n' ->
  (∀ν' w',Ext ν ν' n n' -> HR ν' H' F w' -> Below 0 w w' -> LeavesInM (Wr none) 0 P fn tm R [] .returning w') -> LeavesInM (Wr none) 0 P fn tm R D' .returning w
 | [],H,n,H',n',h=>by
  rw[kF] at h
  cases h
  exact⟨Nat.le_refl _,λ ν D' w hg hd hH hf hk=>by cases hd;exact hk ν w (.refl _ _) hH (Below.refl _ _)⟩
 | d::ds,H,n,H',n',h=>by
  rw[kF] at h
  split at h
  ·rename_i hd ht
   split at h
   ·rename_i hb
    obtain⟨q1,q2⟩:=mj r_ (fn:=fn) (tm:=tm) (R:=R) h
    refine⟨q1,λ ν D' w hg hds hH hf hk=>?_⟩
    cases hds with
    | @cons _ d' _ l' hdr hl =>
    obtain⟨YE,hda⟩:=hdr
    rw[ht] at YE
    generalize htt:d'.target=tt at YE
    cases YE with
    | @coll _ b K hν =>
    obtain⟨rr,K',o,g1,g2,g3⟩:=hH.blk _ _ hb
    rw[hν] at g1
    cases g1
    unfold OR at g3
    split at g3
    ·rename_i e1;cases e1
    ·rename_i e1;cases e1
    ·rename_i e1;cases e1
    ·rename_i sh cc e1
     cases e1
     subst g3
     refine⟨by simp,.inl ⟨b,{ w with heap:=w.heap.setIfInBounds b (.deferred none) },htt,?_,?_⟩⟩
     ·unfold Instr.takeDeferred
      rw[Sem.run_bind]
      have h1:(getObj b).run P w=.ok (.deferred (some [])) w:=by
       unfold getObj
       rw[Sem.run.eq_def]
       simp only[g2]
       rfl
      rw[h1]
      simp only[Result.andThen_ok]
      rw[Sem.run_bind]
      have h2:(setObj b (.deferred none)).run P w=.ok () { w with heap:=w.heap.setIfInBounds b (.deferred none) }:=by
       unfold setObj
       rw[Sem.run.eq_def]
       simp only[g2]
       rfl
      rw[h2]
      rfl
     ·have h3:HR ν (cV H hd (some (.dfr true))) F { w with heap:=w.heap.setIfInBounds b (.deferred none) }:=hH.setObj hb rfl rfl hν (b1:=.dfr true) (o':=.deferred none) rfl
      exact q2 ν l' _ hg hl h3 hf (λ ν' w' k1 k2 k3=>hk ν' w' k1 k2 (mi.trans k3))
    ·exact g3.elim
   ·cases h
  ·rename_i f captured ht
   split at h
   case h_2=>cases h
   rename_i hB
   split at h
   case h_2=>cases h
   rename_i v H1 n1 hc
   obtain⟨p1,p2⟩:=r_ _ _ hc
   obtain⟨q1,q2⟩:=mj r_ (fn:=fn) (tm:=tm) (R:=R) h
   refine⟨by omega,λ ν D' w hg hds hH hf hk=>?_⟩
   cases hds with
   | @cons _ d' _ l' hdr hl =>
   obtain⟨YE,hda⟩:=hdr
   rw[ht] at YE
   generalize htt:d'.target=tt at YE
   cases YE with
   | @fn _ f' _ c' Yz SI =>
   cases Yz
   refine⟨by simp,.inr ⟨λ h=>(by cases h),.func f,c',f,⟨d'.args.toList++c'.toList⟩,htt,?_,λ _ _=>trivial,?_⟩⟩
   ·rw[htt]
    show (callFunc f (d'.args++c')).run P w=_
    rw[iy hB]
    congr 2
    apply Array.ext'
    simp
   ·refine(p2 ν F w _ hg (λ i a b=>hf i a (by omega)) hH (hda.append SI)).mono ?_
    rintro en u' w2 ⟨rfl,ν2,v',rfl,k1,k2,k3,k4⟩
    have Q2:=k2.sub' hf q1
    show LeavesInM (Wr none) 0 P fn tm R l' (settle .returning) w2
    exact q2 ν2 l' w2 (hg.mono Q2) (hl.mono Q2) k3 (k2.fr hf q1) (λ ν3 w3 g1 g2 g3=>hk ν3 w3 (k2.trans g1) g2 (k4.trans g3))
  ·cases h
theorem yc{f:FuncId}{fn:Func}{c:Code}(h:rH P f=some (fn,c)):P.funcs[f]?=some fn /\ fn.body=some c:=by
 unfold rH at h
 split at h
 ·rename_i fn' hf
  split at h
  ·rename_i c' hc
   cases h
   exact⟨hf,hc⟩
  ·cases h
 ·cases h
theorem OL(r_:kM P G ih)(hm:P.follows .mixedOrders=true){f:FuncId}{args:List Value}{H:AH}{n:Nat}{res:Rs}(h:gO P G ih (.fn f args H n)=some res):jP P G (.fn f args H n) res:=by
 simp only[gO] at h
 split at h
 case h_2=>cases h
 rename_i fn c hb
 split at h
 case h_2=>cases h
 rename_i hle
 obtain⟨b1,b2⟩:=yc hb
 have fin:∀e s H2 n2 vs,(e=.normal \/ e=.ret) -> je P G ih none fn.ntmps c ⟨mL args,[],H,n⟩=some (e,s) -> kF P ih s.D s.H s.n=some (H2,n2) -> pd P s.T H2 fn.results.toList=some vs -> jP P G (.fn f args H n) (.fn (xB vs) H2 n2):=by
  intro e s H2 n2 vs he No Vp UW
  obtain⟨q1,q2⟩:=pm r_ hm _ _ _ _ No
  simp only at q1 q2
  have Yq:=(mj (F:=[]) (fn:=fn) (tm:=#[]) (R:=λ _ _=>True) r_ Vp).1
  refine⟨by omega,λ ν F w iN hg hf hH hl=>?_⟩
  refine callsIn_wide.1 (callsIn_of_wp_marks (F:=Fence.wide) (n:=0) b1 b2 trivial ?_)
  have hlen:=hl.length
  refine q2 ν F _ w none _ .none ⟨hg,un hl (bQ hle),.nil,hH⟩ (λ i a b=>hf i a (by omega)) (λ ν' a' w' k1 k2 k3=>?_)
  have Q2:=k1.sub' hf Yq
  have hlv2:=(mj (F:=F) (fn:=fn) (tm:=a'.tmps) (R:=G6 ν (xB vs) n n2 H2 F w) r_ Vp).2 ν' a'.defers w' k2.g k2.d k2.h (k1.fr hf Yq) (λ ν2 w2 g1 g2 g3=>by
   have Xw:=g1.sub (k1.fr hf Yq)
   obtain⟨v',r1,r2⟩:=rX (G:=G) (fn:=fn) (a:=a') (FE.mk (k2.t.mono Xw) (k2.g.mono Xw)) g2 UW
   exact⟨v',r2,ν2,v',rfl,r1,k1.trans g1,g2,k3.trans g3⟩)
  rcases he with rfl|rfl <;> exact hlv2
 split at h
 ·cases h
 ·rename_i e s G_ No
  split at h
  ·rename_i H2 n2 Vp
   split at h
   ·rename_i vs UW
    cases h
    cases e with
    | normal=>exact fin _ _ _ _ _ (.inl rfl) No Vp UW
    | ret=>exact fin _ _ _ _ _ (.inr rfl) No Vp UW
    | exit id=>first|exact(G_ _ _ rfl).elim|exact(G_ _ rfl).elim|exact(G_ _ _).elim
   ·cases h
  ·cases h
 ·cases h
theorem DV{b:Nat}{lp:Loop}(h:w.heap[b]?=some (.loop lp))(hs:lp.state=.ready):(Instr.beginRound b).run P w=.ok () { w with heap:=w.heap.setIfInBounds b (.loop { lp with state:=.busy }) }:=by
 unfold Instr.beginRound
 rw[Sem.run_bind,gP h]
 simp only[Result.andThen_ok]
 rw[Sem.run_bind,lK h]
 simp only[Result.andThen_ok,hs]
 rfl
theorem Ku{b:Nat}{lp:Loop}{j:Option Code}(h:w.heap[b]?=some (.loop lp)):(Instr.endRound b j).run P w=.ok (.bool j.isNone) { w with heap:=w.heap.setIfInBounds b (.loop { lp with state:=if j.isNone then .ready else .done,pending:=j }) }:=by
 unfold Instr.endRound
 rw[Sem.run_bind,gP h]
 simp only[Result.andThen_ok]
 rw[Sem.run_bind,lK h]
 rfl
def P2:Ex -> Option Code
 | .normal=>none
 | .ret=>some .ret
 | .exit id=>some (.exit id)
theorem vD{b:Nat}{R:Ending -> World -> Prop}{e:Ex}(h:∃v w',(Instr.endRound b (P2 e)).run P w=.ok v w' /\ R (.returned v) w'):roundPost P b R e.out a w:=by
 cases e <;> exact h
theorem MX(r_:kM P G ih)(hm:P.follows .mixedOrders=true){l:Nat}{T:Tr Value}{N:Nat}{as bo:Code}{H:AH}{n:Nat}{res:Rs}(h:gO P G ih (.rnd l T N as bo H n)=some res):jP P G (.rnd l T N as bo H n) res:=by
 simp only[gO] at h
 split at h
 case h_2=>cases h
 rename_i s1 h1
 split at h
 case h_2=>cases h
 rename_i pend T' N' ps UQ Zd d Yt UG
 split at h
 case h_2=>cases h
 rename_i e s2 h2
 split at h
 case h_2=>cases h
 rename_i st2 pend2 T2 N2 ps2 as2 bo2 d2 Rg
 obtain⟨q1,q2⟩:=pm r_ hm _ _ _ _ h1
 obtain⟨p1,p2⟩:=pm r_ hm _ _ _ _ h2
 simp only at q1 q2 p1 p2
 have SD:res=.fn (.bool (P2 e).isNone) (cV s2.H l (some (.loop (if (P2 e).isNone then .ready else .done) (P2 e) T2 N2 ps2 as2 bo2 d2))) s2.n:=by
  cases e <;> (cases h;rfl)
 subst SD
 refine⟨by omega,λ ν F w b K tm f r' hg hν hT hf hH=>?_⟩
 refine roundIn_of_wpIn trivial ?_
 show as.wpIn (Wr (some b)) 0 P _ _ _
 refine q2 ν F _ w (some b) _ (.some hν) ⟨hg,hT,.nil,hH⟩ (λ i x y=>hf i x (by omega)) (λ ν1 a1 w1 k1 k2 k3=>?_)
 have Z4:=k1.sub' hf p1
 have Wz:=Z4 _ _ hν
 obtain⟨lp,g1,g2,g3,g4,g5,g6,g7,K',g8⟩:=k2.h.loop Yt Wz
 refine⟨_,DV g1 g2,?_⟩
 show bo.wpIn (Wr (some b)) 0 P _ _ _
 have hH1:HR ν1 (cV s1.H l (some (.loop .busy pend T' N' ps UQ Zd d))) F { w1 with heap:=w1.heap.setIfInBounds b (.loop { lp with state:=.busy }) }:=k2.h.setObj Yt rfl rfl Wz ⟨rfl,g3,g4,g5,g6,g7,K',g8⟩
 have hd:DsR ν1 [] a1.defers:=by have:=k2.d;rw[UG] at this;exact this
 refine p2 ν1 F a1 _ (some b) _ (.some Wz) ⟨k2.g,k2.t,hd,hH1⟩ (k1.fr hf p1) (λ ν2 a2 w2 j1 j2 j3=>?_)
 have ZO:=(j1.sub (k1.fr hf p1)) _ _ Wz
 obtain⟨lp2,u1,u2,u3,u4,u5,u6,u7,K2,u8⟩:=j2.h.loop Rg ZO
 refine vD ⟨_,_,Ku u1,ν2,_,rfl,.atom _ rfl,k1.trans j1,?_,((k3.trans mi).trans j3).trans mi⟩
 exact j2.h.setObj Rg rfl rfl ZO ⟨rfl,rfl,u4,u5,u6,u7,K2,u8⟩
theorem ml{ops:Array Oper}{c₀:Frame}{cs:List Frame}(hc:c₀.mode=.returning):∀ (rest:List Oper) (k:Nat) (s s':St),ops.toList.drop k=rest -> nk P G N ops rest s=some s' -> s.n <= s'.n /\ ∀ν F a w (Q:Exit -> Act -> List Frame -> World -> Prop),SR ν G N s F a w -> Fr ν s.n s'.n ->
  (∀ν' a' w',Ext ν ν' s.n s'.n -> SR ν' G N s' F a' w' -> Below 0 w w' -> Q .normal a' (c₀::cs) w') -> wpOpsSIn (Wr none) 0 P ops Q (List.range' k rest.length) a (c₀::cs) w
 | [],k,s,s',hk,h=>by
  rw[nk] at h
  cases h
  exact⟨Nat.le_refl _,λ ν F a w Q hs hf hq=>hq ν a w (.refl _ _) hs (Below.refl _ _)⟩
 | o::rest,k,s,s',hk,h=>by
  have iF:k<ops.toList.length:=by
   rcases Nat.lt_or_ge k ops.toList.length with e|e
   ·exact e
   ·rw[List.drop_eq_nil_of_le e] at hk;cases hk
  have hk2:=hk
  rw[List.drop_eq_getElem_cons iF] at hk2
  simp only[List.cons.injEq] at hk2
  obtain⟨ho,Vi⟩:=hk2
  have By:ops[k]?=some o:=by
   rw[Array.getElem?_eq_getElem (by simpa using iF)]
   simpa using ho
  rw[nk] at h
  split at h
  ·cases h
  ·rename_i hw
   split at h
   case h_2=>cases h
   rename_i T1 hp
   obtain⟨h1,h2⟩:=ml hc rest (k+1) _ _ Vi h
   refine⟨h1,λ ν F a w Q hs hf hq=>?_⟩
   rw[List.length_cons,List.range'_succ,wpOpsSIn]
   simp only[By]
   refine⟨λ _ _=>trivial,?_⟩
   rw[if_neg (by rw[kh hs.t hw];simp)]
   exact h2 ν F _ w Q ⟨hs.g,hs.t.put VRi.undef hp,by rw[fG];exact hs.d,hs.h⟩ hf hq
  ·rename_i hw
   split at h
   ·rename_i v H1 n1 iS
    split at h
    case h_2=>cases h
    rename_i T1 hp
    obtain⟨h1,h2⟩:=ml hc rest (k+1) _ _ Vi h
    simp only at h1 h2
    have hle:=vA iS
    refine⟨by omega,λ ν F a w Q hs hf hq=>?_⟩
    rw[List.length_cons,List.range'_succ,wpOpsSIn]
    simp only[By]
    refine⟨λ _ _=>trivial,?_⟩
    rw[if_pos (kh hs.t hw)]
    obtain⟨ν',v',w',q,e1,e2,e3,e4,e5,e6⟩:=mh hs.op hs.h iS (λ v H' n' e=>by cases e;exact λ i x y=>hf i x (by omega))
    have Q2:=e4.sub' hf h1
    have Sj:=h2 ν' F (a.put o.dst v') w' Q ⟨hs.g.mono Q2,(hs.t.mono Q2).put e3 hp,by rw[fG];exact hs.d.mono Q2,e5⟩ (e4.fr hf h1) (λ ν2 a2 w2 g1 g2 g3=>hq ν2 a2 w2 (e4.trans g1) g2 (e6.trans g3))
    rw[e1]
    rcases e2 with rfl|⟨rfl,rfl⟩
    ·exact Sj
    ·exact Sj
   ·rename_i iS
    split at h
    case h_2=>cases h
    rename_i T1 hp
    obtain⟨h1,h2⟩:=ml hc rest (k+1) _ _ Vi h
    refine⟨h1,λ ν F a w Q hs hf hq=>?_⟩
    rw[List.length_cons,List.range'_succ,wpOpsSIn]
    simp only[By]
    refine⟨λ _ _=>trivial,?_⟩
    rw[if_pos (kh hs.t hw)]
    have e1:=mh hs.op hs.h iS (λ v H' n' e=>by cases e)
    rw[show (execOp a.eval o).run P w=.ok .recover w from e1]
    have hrc:recoverD (c₀::cs)=none:=by simp[recoverD,hc]
    simp only[hrc]
    exact h2 ν F _ w Q ⟨hs.g,hs.t.put (.atom _ rfl) hp,by rw[fG];exact hs.d,hs.h⟩ hf hq
   ·cases h
theorem MY(r_:kM P G ih)(hm:P.follows .mixedOrders=true){c₀:Frame}{cs:List Frame}(hc:c₀.mode=.returning):∀ (c:Code) (s:St) (e:Ex) (s':St),GO P G ih N c s=some (e,s') -> s.n <= s'.n /\ ∀ν F a w (Q:Exit -> Act -> List Frame -> World -> Prop),SR ν G N s F a w -> Fr ν s.n s'.n ->
  (∀ν' a' w',Ext ν ν' s.n s'.n -> SR ν' G N s' F a' w' -> Below 0 w w' -> Q e.out a' (c₀::cs) w') -> c.wpSIn (Wr none) 0 P Q a (c₀::cs) w:=by
 have plain:∀ (c:Code) (s:St) (e:Ex) (s':St),je P G ih none N c s=some (e,s') -> s.n <= s'.n /\ ∀ν F a w (Q:Exit -> Act -> List Frame -> World -> Prop),SR ν G N s F a w -> Fr ν s.n s'.n ->
  (∀ν' a' w',Ext ν ν' s.n s'.n -> SR ν' G N s' F a' w' -> Below 0 w w' -> Q e.out a' (c₀::cs) w') -> c.wpSIn (Wr none) 0 P Q a (c₀::cs) w:=λ c s e s' h=>by
  obtain⟨q1,q2⟩:=pm r_ hm _ _ _ _ h
  exact⟨q1,λ ν F a w Q hs hf hq=>wpSIn_of_wpIn rfl (q2 ν F a w none _ .none hs hf hq)⟩
 intro c
 induction c with
 | seq x y Wx X4 =>
  intro s e s' h
  rw[GO] at h
  split at h
  ·rename_i s1 h1
   obtain⟨q1,q2⟩:=Wx _ _ _ h1
   obtain⟨p1,p2⟩:=X4 _ _ _ h
   refine⟨by omega,λ ν F a w Q hs hf hk=>wpSIn_seq ?_⟩
   refine q2 ν F a w _ hs (λ i a b=>hf i a (by omega)) (λ ν' a' w' k1 k2 k3=>?_)
   exact p2 ν' F a' w' Q k2 (k1.fr hf p1) (λ ν2 a2 w2 g1 g2 g3=>hk ν2 a2 w2 (k1.trans g1) g2 (k3.trans g3))
  ·rename_i G_
   obtain⟨q1,q2⟩:=Wx _ _ _ h
   refine⟨q1,λ ν F a w Q hs hf hk=>wpSIn_seq ?_⟩
   refine q2 ν F a w _ hs hf (λ ν' a' w' k1 k2 k3=>?_)
   have:=hk ν' a' w' k1 k2 k3
   cases e with
   | normal=>exact(G_ _ h).elim
   | exit id=>exact this
   | ret=>exact this
 | cond c x y Wx X4 =>
  intro s e s' h
  rw[GO] at h
  have I_:∀ν F a w b,SR ν G N s F a w -> ael s.T c=.bool b -> a.eval c=.bool b:=λ ν F a w b hs he=>by
   cases c with
   | tmp t =>
    have:=(FE.mk hs.t hs.g:FE ν G N s.T a).ael (x:=.tmp t) rfl
    rw[he] at this
    exact this.plain_eq rfl
   | const v=>exact he
   | global g=>cases he
   | func f=>cases he
  split at h
  ·rename_i he
   obtain⟨q1,q2⟩:=Wx _ _ _ h
   exact⟨q1,λ ν F a w Q hs hf hk=>wpSIn_cond (I_ _ _ _ _ _ hs he) (q2 ν F a w Q hs hf hk)⟩
  ·rename_i he
   obtain⟨q1,q2⟩:=X4 _ _ _ h
   exact⟨q1,λ ν F a w Q hs hf hk=>wpSIn_cond (I_ _ _ _ _ _ hs he) (q2 ν F a w Q hs hf hk)⟩
  ·cases h
 | region id ops draw =>
  intro s e s' h
  cases draw with
  | true=>rw[GO] at h;exact plain _ _ _ _ h;all_goals simp
  | false =>
   rw[GO] at h
   split at h
   ·rename_i s1 h1
    cases h
    obtain⟨q1,q2⟩:=ml hc _ 0 _ _ (by simp) h1
    refine⟨q1,λ ν F a w Q hs hf hk=>wpSIn_region ?_⟩
    have:=q2 ν F a w Q hs hf hk
    rw[List.range_eq_range']
    simpa using this
   ·split at h
    ·rename_i x h1
     cases h
     exact plain _ _ _ _ h1
    ·cases h
 | _=>intro s e s' h;rw[GO] at h;exact plain _ _ _ _ h;all_goals simp
theorem MZ(r_:kM P G ih)(hm:P.follows .mixedOrders=true){f:FuncId}{args:List Value}{H:AH}{n:Nat}{res:Rs}(h:gO P G ih (.dfn f args H n)=some res):jP P G (.dfn f args H n) res:=by
 simp only[gO] at h
 split at h
 case h_2=>cases h
 rename_i fn c hb
 split at h
 case h_2=>cases h
 rename_i hle
 obtain⟨b1,b2⟩:=yc hb
 split at h
 ·cases h
 ·rename_i e s G_ No
  split at h
  ·rename_i hd
   split at h
   ·rename_i vs UW
    cases h
    have hq:∀ (c₀:Frame) (cs:List Frame),c₀.mode=.returning -> _:=λ c₀ cs hc=>MY (c₀:=c₀) (cs:=cs) r_ hm hc _ _ _ _ No
    have hn:n <= s.n:=(hq { (default:Frame) with mode:=.returning } [] rfl).1
    refine⟨hn,λ ν F w iN hg hf hH hl=>?_⟩
    refine callsDIn_of_wpSIn b1 b2 trivial (λ c₀ cs hc=>?_)
    refine(hq c₀ cs hc).2 ν F _ w _ ⟨hg,un hl (bQ hle),.nil,hH⟩ hf (λ ν' a' w' k1 k2 k3=>?_)
    have hdd:a'.defers=[]:=by
     have:=k2.d
     rw[hd] at this
     generalize a'.defers=q at this
     cases this;rfl
    obtain⟨v',r1,r2⟩:=rX (G:=G) (fn:=fn) (a:=a') (FE.mk k2.t k2.g) k2.h UW
    have hcc:c₀::cs={ c₀ with mode:=.returning }::cs:=by rw[<- hc]
    have Sj:a'.defers=[] /\ ∃u',c₀::cs={ c₀ with mode:=u' }::cs /\ ∃v,(results fn a'.tmps).run P w'=.ok v w' /\ (u'=.returning /\ G6 ν (xB vs) n s.n s.H F w (.returned v) w') :=
     ⟨hdd,.returning,hcc,v',r2,rfl,ν',v',rfl,r1,k1,k2.h,k3⟩
    cases e with
    | normal=>exact Sj
    | ret=>exact Sj
    | exit id=>first|exact(G_ _ _ rfl).elim|exact(G_ _ rfl).elim|exact(G_ _ _).elim
   ·cases h
  ·cases h
 ·cases h
theorem Hh(r_:kM P G ih)(hm:P.follows .mixedOrders=true):kM P G (gO P G ih):=by
 intro t res h
 cases t with
 | code r N c s =>
  simp only[gO] at h
  split at h
  ·rename_i h1;cases h;exact pm r_ hm _ _ _ _ h1
  ·cases h
 | loop r N c s =>
  simp only[gO] at h
  split at h
  ·rename_i h1;cases h;exact ya r_ (λ s e s' h=>pm r_ hm _ _ _ _ h) h1
  ·cases h
 | fn f args H n=>exact OL r_ hm h
 | rnd l T N as bo H n=>exact MX r_ hm h
 | dfn f args H n=>exact MZ r_ hm h
theorem BQ(hm:P.follows .mixedOrders=true):∀k,kM P G (GP P G k)
 | 0=>λ t res h=>by rw[GP] at h;cases h
 | k+1=>by
  have:=Hh (BQ hm k) hm
  intro t res h
  rw[GP] at h
  exact this t res h
end fn
noncomputable section
inductive CzV where|mk (f:Tr Value -> Value)
inductive CzS where|mk (f:Value -> Tr Value -> Tr Value)
abbrev Ih:=Task -> Option Rs
inductive CzR where|mk (f:Ih -> Option Nat -> Tr Value -> List Deferred -> AH -> Nat -> Option St)
inductive CzC where|mk (f:Ih -> Option Nat -> Tr Value -> List Deferred -> AH -> Nat -> Option (Ex × St))
inductive CzF where|mk (f:Ih -> List Value -> AH -> Nat -> Option Rs)
inductive CzA where|mk (f:Tr Value -> List Value)
def CzV.f:CzV -> Tr Value -> Value | .mk f=>f
def CzS.f:CzS -> Value -> Tr Value -> Tr Value | .mk f=>f
def CzR.f:CzR -> Ih -> Option Nat -> Tr Value -> List Deferred -> AH -> Nat -> Option St | .mk f=>f
def CzC.f:CzC -> Ih -> Option Nat -> Tr Value -> List Deferred -> AH -> Nat -> Option (Ex × St) | .mk f=>f
def CzF.f:CzF -> Ih -> List Value -> AH -> Nat -> Option Rs | .mk f=>f
def CzA.f:CzA -> Tr Value -> List Value | .mk f=>f
def eO{α:Type}(v:Value)(x:Value -> α):α:=match v with
 | .bool b=>x (.bool b)
 | .int k n=>x (.int k n)
 | .float k b=>x (.float k b)
 | .complex k a b=>x (.complex k a b)
 | .string s=>x (.string s)
 | .pointer a=>x (.pointer a)
 | .slice a l c=>x (.slice a l c)
 | .map r=>x (.map r)
 | .chan r=>x (.chan r)
 | .func f a c=>x (.func f a c)
 | .nilFunc=>x .nilFunc
 | .iface t v=>x (.iface t v)
 | .nilIface=>x .nilIface
 | .agg c=>x (.agg c)
 | .tuple c=>x (.tuple c)
theorem cF{α:Type}(v:Value)(x:Value -> α):eO v x=x v:=by cases v <;> rfl
def Ae{α:Type}(l:List Value):(List Value -> α) -> α:=List.rec (motive:=λ _=>(List Value -> α) -> α) (λ x=>x []) (λ v _ ih x=>eO v λ v=>ih λ l=>x (v::l)) l
theorem uo{α:Type}:∀ (l:List Value) (x:List Value -> α),Ae l x=x l
 | [],x=>rfl
 | v::l,x=>by
  show eO v (λ v=>Ae l λ l=>x (v::l))=_
  rw[cF,uo l]
def vE:List Bool -> CzV
 | []=>.mk λ T=>Tr.rec (motive:=λ _=>Value) undef (λ v _ _ _ _=>v) T
 | b::p=>match vE p with
  | .mk f=>match b with
   | true=>.mk λ T=>Tr.rec (motive:=λ _=>Value) undef (λ _ _ r _ _=>f r) T
   | false=>.mk λ T=>Tr.rec (motive:=λ _=>Value) undef (λ _ l _ _ _=>f l) T
theorem qB:∀ (p:List Bool) (T:Tr Value),(vE p).f T=fT undef p T
 | [],T=>by cases T <;> rfl
 | b::p,T=>by
  have ih:=qB p
  cases h:vE p with
  | mk f =>
   rw[h] at ih
   cases b <;> simp only[vE,h,CzV.f] <;> cases T <;> first|rfl|exact ih _
def Af:List Bool -> CzS
 | []=>.mk λ x T=>Tr.rec (motive:=λ _=>Tr Value) (.nd x .lf .lf) (λ _ l r _ _=>.nd x l r) T
 | b::p=>match Af p with
  | .mk f=>match b with
   | true=>.mk λ x T=>Tr.rec (motive:=λ _=>Tr Value) (.nd undef .lf (f x .lf)) (λ v l r _ _=>.nd v l (f x r)) T
   | false=>.mk λ x T=>Tr.rec (motive:=λ _=>Tr Value) (.nd undef (f x .lf) .lf) (λ v l r _ _=>.nd v (f x l) r) T
theorem BR(x:Value):∀ (p:List Bool) (T:Tr Value),(Af p).f x T=dR undef x p T
 | [],T=>by cases T <;> rfl
 | b::p,T=>by
  have ih:=BR x p
  cases h:Af p with
  | mk f =>
   rw[h] at ih
   simp only[CzS.f] at ih
   cases b <;> simp only[Af,h,CzS.f] <;> cases T <;> simp only[ih] <;> rfl
def cv:Operand -> CzV
 | .tmp t=>vE (pth t)
 | .const v=>.mk λ _=>v
 | .global g=>.mk λ _=>.pointer (some ⟨g,0,none⟩)
 | .func f=>.mk λ _=>.func (.func f) #[] #[]
theorem LS(x:Operand)(T:Tr Value):(cv x).f T=ael T x:=by
 cases x with
 | tmp t=>exact qB _ _
 | const v=>rfl
 | global g=>rfl
 | func f=>rfl
def ca:List Operand -> CzA
 | []=>.mk λ _=>[]
 | x::l=>match cv x,ca l with
  | .mk f,.mk g=>.mk λ T=>f T::g T
theorem LT:∀ (l:List Operand) (T:Tr Value),(ca l).f T=nh T l
 | [],T=>rfl
 | x::l,T=>by
  have h1:=LS x T
  have h2:=LT l T
  cases hx:cv x with
  | mk f=>cases hl:ca l with
   | mk g =>
    rw[hx] at h1;rw[hl] at h2
    simp only[CzV.f] at h1;simp only[CzA.f] at h2
    simp only[ca,hx,hl,CzA.f,nh,h1,h2]
inductive CzD where
 | no
 | ok (f:Value -> Tr Value -> Tr Value)
 | bad
def iz(N:Nat):Option Tmp -> CzD
 | none=>.no
 | some d=>match Nat.blt d N with
  | true=>match Af (pth d) with
   | .mk f=>.ok f
  | false=>.bad
theorem BS{N:Nat}{d:Option Tmp}{f}(h:iz N d=.ok f)(v:Value)(T:Tr Value):fm N d v T=some (f v T):=by
 cases d with
 | none=>simp[iz] at h
 | some d =>
  simp only[iz] at h
  cases hb:Nat.blt d N <;> rw[hb] at h
  ·simp at h
  ·cases hs:Af (pth d) with
   | mk g =>
    simp only[hs,CzD.ok.injEq] at h
    subst h
    have:=BR v (pth d) T
    rw[hs] at this
    simp only[CzS.f] at this
    simp only[fm,hb,this]
    rfl
theorem BT{N:Nat}{d:Option Tmp}(h:iz N d=.no)(v:Value)(T:Tr Value):fm N d v T=some T:=by
 cases d with
 | none=>rfl
 | some d =>
  simp only[iz] at h
  cases hb:Nat.blt d N <;> rw[hb] at h
  ·simp at h
  ·cases hs:Af (pth d) with
   | mk g=>simp[hs] at h
def cX(P:Program)(G N:Nat)(ops:Array Oper)(o:Oper)(k:Ih -> Option Nat -> Tr Value -> List Deferred -> AH -> Nat -> Option St)(ih:Ih)(r:Option Nat)(T:Tr Value)(D:List Deferred)(H:AH)(n:Nat):Option St:=match eH ops o T with
 | none=>none
 | some false=>match fm N o.dst undef T with
  | some T=>k ih r T D H n
  | none=>none
 | some true=>match j7 P G ih r o T H n with
  | none=>none
  | some (.val v H n)=>eO v λ v=>match fm N o.dst v T with
   | some T=>k ih r T D H n
   | none=>none
  | some (.dfr d)=>match fm N o.dst undef T with
   | some T=>k ih r T (d::D) H n
   | none=>none
def CzR.okL(P:Program)(G N:Nat)(ops:Array Oper)(l:List Oper)(k:Ih -> Option Nat -> Tr Value -> List Deferred -> AH -> Nat -> Option St):Prop:=∀ih r T D H n,k ih r T D H n=mK P G ih r N ops l ⟨T,D,H,n⟩
theorem Kv{P:Program}{G N:Nat}{ops:Array Oper}{l:List Oper}{k}(h:CzR.okL P G N ops l k)(o:Oper):CzR.okL P G N ops (o::l) (cX P G N ops o k):=by
 intro ih r T D H n
 simp only[cX,mK]
 cases eH ops o T with
 | none=>rfl
 | some b =>
  cases b with
  | false=>cases fm N o.dst undef T with
   | none=>rfl
   | some T'=>exact h _ _ _ _ _ _
  | true=>cases j7 P G ih r o T H n with
   | none=>rfl
   | some x=>cases x with
    | val v H' n'=>simp only[cF];cases hp:fm N o.dst v T with
     | none=>simp only[hp]
     | some T'=>simp only[hp];exact h _ _ _ _ _ _
    | dfr d=>cases hp:fm N o.dst undef T with
     | none=>simp only[hp]
     | some T'=>simp only[hp];exact h _ _ _ _ _ _
def oA(N:Nat)(o:Oper)(k:Ih -> Option Nat -> Tr Value -> List Deferred -> AH -> Nat -> Option St)(ih:Ih)(r:Option Nat)(T:Tr Value)(D:List Deferred)(v:Value)(H:AH)(n:Nat):Option St:=match fm N o.dst v T with
 | some T=>k ih r T D H n
 | none=>none
theorem pp{P:Program}{G N:Nat}{ops:Array Oper}{o:Oper}{k}(hg:o.guard=none)(ho:nG G o=true)(hc:sN P o.op=.pu)(ih:Ih)(r:Option Nat)(T:Tr Value)(D:List Deferred)(H:AH)(n:Nat) :
  cX P G N ops o k ih r T D H n=match gM P o T with
   | some v=>oA N o k ih r T D v H n
   | none=>none:=by
 simp only[nG] at ho
 cases hl:i3 o.op with
 | none=>rw[hl] at ho;simp at ho
 | some l =>
  rw[hl] at ho
  simp only at ho
  simp only[cX,eH,hg,j7,BG,hl,ho,hc]
  cases gM P o T with
  | none=>rfl
  | some v=>simp only[cF];rfl
theorem Hj{P:Program}{G N:Nat}{ops:Array Oper}{o:Oper}{k}(hg:o.guard=none)(ho:nG G o=true)(hc:sN P o.op=.lo)(ih:Ih)(r:Option Nat)(T:Tr Value)(D:List Deferred)(H:AH)(n:Nat) :
  cX P G N ops o k ih r T D H n=match jB P o T H with
   | some v=>oA N o k ih r T D v H n
   | none=>none:=by
 simp only[nG] at ho
 cases hl:i3 o.op with
 | none=>rw[hl] at ho;simp at ho
 | some l =>
  rw[hl] at ho
  simp only at ho
  simp only[cX,eH,hg,j7,BG,hl,ho,hc]
  cases jB P o T H with
  | none=>rfl
  | some v=>simp only[cF];rfl
theorem M2{P:Program}{G N:Nat}{ops:Array Oper}{o:Oper}{k}(hg:o.guard=none)(ho:nG G o=true)(hc:sN P o.op=.nw)(ih:Ih)(r:Option Nat)(T:Tr Value)(D:List Deferred)(H:AH)(n:Nat) :
  cX P G N ops o k ih r T D H n=match s0 P o T with
   | some (b,m)=>oA N o k ih r T D (m.val n) (cV H n (some b)) (n+1)
   | none=>none:=by
 simp only[nG] at ho
 cases hl:i3 o.op with
 | none=>rw[hl] at ho;simp at ho
 | some l =>
  rw[hl] at ho
  simp only at ho
  simp only[cX,eH,hg,j7,BG,hl,ho,hc]
  cases s0 P o T with
  | none=>rfl
  | some v=>simp only[MS,cF];rfl
theorem M3{P:Program}{G N:Nat}{ops:Array Oper}{o:Oper}{k}(hg:o.guard=none)(ho:nG G o=true)(hc:sN P o.op=.ef)(ih:Ih)(r:Option Nat)(T:Tr Value)(D:List Deferred)(H:AH)(n:Nat){v:Value}{H':AH}{n':Nat}(he:nj P o T H n=some (.val v H' n')) :
  cX P G N ops o k ih r T D H n=oA N o k ih r T D v H' n':=by
 simp only[nG] at ho
 cases hl:i3 o.op with
 | none=>rw[hl] at ho;simp at ho
 | some l =>
  rw[hl] at ho
  simp only at ho
  simp only[cX,eH,hg,j7,BG,hl,ho,hc,he,cF]
  rfl
theorem BU{P:Program}{G N:Nat}{ops:Array Oper}{o:Oper}{k}(hg:o.guard=none)(ho:nG G o=true)(hc:sN P o.op=.ef)(ih:Ih)(r:Option Nat)(T:Tr Value)(D:List Deferred)(H:AH)(n:Nat){f:FuncId}{args:List Value}(he:nj P o T H n=some (.ent f args)) :
  cX P G N ops o k ih r T D H n=match ih (.fn f args H n) with
   | some (.fn v H n)=>oA N o k ih r T D v H n
   | _=>none:=by
 simp only[nG] at ho
 cases hl:i3 o.op with
 | none=>rw[hl] at ho;simp at ho
 | some l =>
  rw[hl] at ho
  simp only at ho
  simp only[cX,eH,hg,j7,BG,hl,ho,hc,he]
  cases ih (.fn f args H n) with
  | none=>rfl
  | some x=>cases x <;> simp only[cF] <;> rfl
end
noncomputable section
abbrev Kt:=Ih -> Option Nat -> Tr Value -> List Deferred -> AH -> Nat -> Option St
def kN(k:IntKind):Nat:=IntKind.rec (motive:=λ _=>Nat) 0 1 2 3 4 5 6 7 k
def QB(a b:IntKind):Bool:=Nat.beq (kN a) (kN b)
theorem M4(a b:IntKind):QB a b=decide (a=b):=by cases a <;> cases b <;> rfl
def NX(a b:Int):Bool:=match a,b with
 | .ofNat m,.ofNat n=>Nat.blt m n
 | .negSucc _,.ofNat _=>true
 | .ofNat _,.negSucc _=>false
 | .negSucc m,.negSucc n=>Nat.blt n m
theorem BV(m n:Nat):Nat.blt m n=decide (m<n):=by
 by_cases h:m<n
 ·simp[Nat.blt_eq,h]
 ·rw[decide_eq_false h]
  cases hb:Nat.blt m n
  ·rfl
  ·exact absurd (Eq.mp Nat.blt_eq hb) h
theorem Hk(a b:Int):NX a b=decide (a<b):=by
 cases a with
 | ofNat m=>cases b with
  | ofNat n =>
   simp only[NX,BV]
   exact decide_eq_decide.2 (Int.ofNat_lt).symm
  | negSucc n=>exact(decide_eq_false (show ¬ ((m:Int)<Int.negSucc n) by omega)).symm
 | negSucc m=>cases b with
  | ofNat n=>exact(decide_eq_true (show Int.negSucc m<(n:Int) by omega)).symm
  | negSucc n =>
   simp only[NX,BV]
   exact decide_eq_decide.2 (by omega)
def M5(b:Bool):Bool:=match b with
 | true=>false
 | false=>true
theorem BW(b:Bool):M5 b=!b:=by cases b <;> rfl
def P3(a b:Int):Bool:=M5 (NX b a)
theorem M6(a b:Int):P3 a b=decide (a <= b):=by
 rw[P3,BW,Hk]
 by_cases h:b<a
 ·rw[decide_eq_true h,decide_eq_false (by omega)];rfl
 ·rw[decide_eq_false h,decide_eq_true (by omega)];rfl
def OM(a b:Int):Bool:=match a,b with
 | .ofNat m,.ofNat n=>Nat.beq m n
 | .negSucc m,.negSucc n=>Nat.beq m n
 | _,_=>false
theorem BX(m n:Nat):Nat.beq m n=decide (m=n):=by
 by_cases h:m=n
 ·rw[decide_eq_true h];exact Eq.mpr Nat.beq_eq h
 ·rw[decide_eq_false h]
  cases hb:Nat.beq m n
  ·rfl
  ·exact absurd (Eq.mp Nat.beq_eq hb) h
theorem M7(a b:Int):OM a b=(a == b):=by
 have e:(a == b)=decide (a=b):=rfl
 rw[e]
 cases a with
 | ofNat m=>cases b with
  | ofNat n =>
   simp only[OM,BX]
   exact decide_eq_decide.2 (Int.ofNat_inj (m:=m) (n:=n)).symm
  | negSucc n=>rfl
 | negSucc m=>cases b with
  | ofNat n=>rfl
  | negSucc n =>
   simp only[OM,BX]
   exact decide_eq_decide.2 (by simp)
def Kw:BinOp -> Option (Int -> Int -> Bool)
 | .lss=>some λ a b=>NX a b
 | .leq=>some λ a b=>P3 a b
 | .gtr=>some λ a b=>NX b a
 | .geq=>some λ a b=>P3 b a
 | .eql=>some λ a b=>OM a b
 | .neq=>some λ a b=>M5 (OM a b)
 | _=>none
theorem Kx{op:BinOp}{q}(h:Kw op=some q)(a b:Int):GB op a b=some (q a b):=by
 cases op <;> simp only[Kw,Option.some.injEq,reduceCtorEq] at h <;> subst h <;> simp only[GB,Hk,M6,M7,BW] <;> rfl
section
variable (P:Program) (G N:Nat) (ops:Array Oper) (o:Oper) (k:Kt) (g:Value -> Tr Value -> Tr Value)
def P4(f:Tr Value -> Value)(ih:Ih)(r:Option Nat)(T:Tr Value)(D:List Deferred)(H:AH)(n:Nat):Option St:=eO (f T) λ v=>k ih r (g v T) D H n
def ON(u:Value)(x y:Option St):Option St:=match u with
 | .bool b=>match b with
  | true=>x
  | false=>y
 | _=>none
def Hm(f fa fb:Tr Value -> Value)(ih:Ih)(r:Option Nat)(T:Tr Value)(D:List Deferred)(H:AH)(n:Nat):Option St:=ON (f T) (eO (fa T) λ v=>k ih r (g v T) D H n) (eO (fb T) λ v=>k ih r (g v T) D H n)
def OO(u:Value)(x y:Option St):Option St:=match u with
 | .pointer p=>match p with
  | some _=>x
  | none=>y
 | _=>y
def M8(f:Tr Value -> Value)(ih:Ih)(r:Option Nat)(T:Tr Value)(D:List Deferred)(H:AH)(n:Nat):Option St:=OO (f T) (eO (f T) λ v=>k ih r (g v T) D H n) (cX P G N ops o k ih r T D H n)
def OP(q:Int -> Int -> Bool)(u v:Value)(x:Bool -> Option St)(y:Option St):Option St:=match u with
 | .int ka a=>match v with
  | .int kb b=>match QB ka kb with
   | true=>match q a b with
    | true=>x true
    | false=>x false
   | false=>y
  | _=>y
 | _=>y
def M9(q:Int -> Int -> Bool)(f1 f2:Tr Value -> Value)(ih:Ih)(r:Option Nat)(T:Tr Value)(D:List Deferred)(H:AH)(n:Nat):Option St:=OP q (f1 T) (f2 T) (λ b=>k ih r (g (.bool b) T) D H n) (cX P G N ops o k ih r T D H n)
def QC(c:Nat)(u:Value)(x:Value -> Option St):Option St:=match u with
 | .pointer p=>match p with
  | some a=>match a with
   | ⟨b,off,s⟩=>match c with
    | 0=>x (.pointer (some ⟨b,off,s⟩))
    | c+1=>x (.pointer (some ⟨b,off+(c+1),none⟩))
  | none=>none
 | _=>none
def Na(c:Nat)(f:Tr Value -> Value)(ih:Ih)(r:Option Nat)(T:Tr Value)(D:List Deferred)(H:AH)(n:Nat):Option St:=QC c (f T) λ v=>k ih r (g v T) D H n
def ldB(off:Nat)(s:Option Nat)(b:Option AB)(x:Value -> Option St):Option St:=match s with
 | none=>match b with
  | some c=>match c with
   | .cells n tr _ _ _=>match Nat.blt off n with
    | true=>eO (cW tr off) x
    | false=>none
   | _=>none
  | none=>none
 | some _=>none
def ldR(H:AH)(u:Value)(x:Value -> Option St):Option St:=match u with
 | .pointer p=>match p with
  | some a=>match a with
   | ⟨b,off,s⟩=>ldB off s (bP H b) x
  | none=>none
 | _=>none
def QD(f:Tr Value -> Value)(ih:Ih)(r:Option Nat)(T:Tr Value)(D:List Deferred)(H:AH)(n:Nat):Option St:=ldR H (f T) λ v=>k ih r (g v T) D H n
def laB(off c:Nat)(s:Option Nat)(b:Option AB)(x:Value -> Option St):Option St:=match s with
 | none=>match b with
  | some ab=>match ab with
   | .cells n tr _ _ _=>match Nat.ble (off+c) n with
    | true=>Ae (gN tr off c) λ l=>x (.agg ⟨l⟩)
    | false=>none
   | _=>none
  | none=>none
 | some _=>none
def laR(c:Nat)(H:AH)(u:Value)(x:Value -> Option St):Option St:=match u with
 | .pointer p=>match p with
  | some a=>match a with
   | ⟨b,off,s⟩=>laB off c s (bP H b) x
  | none=>none
 | _=>none
def QE(c:Nat)(f:Tr Value -> Value)(ih:Ih)(r:Option Nat)(T:Tr Value)(D:List Deferred)(H:AH)(n:Nat):Option St:=laR c H (f T) λ v=>k ih r (g v T) D H n
def alF(b:AB)(ih:Ih)(r:Option Nat)(T:Tr Value)(D:List Deferred)(H:AH)(n:Nat):Option St:=k ih r (g (.pointer (some ⟨n,0,none⟩)) T) D (cV H n (some b)) (n+1)
def ixR(c:Nat)(u i:Value)(x:Value -> Option St):Option St:=match u with
 | .slice p m _=>match p with
  | some a=>match i with
   | .int _ i=>match i with
    | .ofNat i=>match Nat.blt i m with
     | true=>match a with
      | ⟨b,off,s⟩=>match i*c with
       | 0=>x (.pointer (some ⟨b,off,s⟩))
       | j+1=>x (.pointer (some ⟨b,off+(j+1),none⟩))
     | false=>none
    | _=>none
   | _=>none
  | none=>none
 | _=>none
def QF(c:Nat)(f1 f2:Tr Value -> Value)(ih:Ih)(r:Option Nat)(T:Tr Value)(D:List Deferred)(H:AH)(n:Nat):Option St:=ixR c (f1 T) (f2 T) λ v=>k ih r (g v T) D H n
def stB(off:Nat)(s:Option Nat)(v:Value)(b:Option AB)(x:AB -> Option St)(y:Option St):Option St:=match s with
 | none=>match b with
  | some c=>match c with
   | .cells n tr ty w ro=>match ro with
    | false=>match Nat.blt off n with
     | true=>x (.cells n (sY tr off v) ty w false)
     | false=>y
    | true=>y
   | _=>y
  | none=>y
 | some _=>y
def B0(v:Value):Bool:=match v with
 | .agg _=>false
 | .tuple _=>false
 | _=>true
def stR(H:AH)(u v:Value)(x:Nat -> AB -> Option St)(y:Option St):Option St:=match B0 v with
 | true=>match u with
  | .pointer p=>match p with
   | some a=>match a with
    | ⟨b,off,s⟩=>eO v λ v=>stB off s v (bP H b) (x b) y
   | none=>y
  | _=>y
 | false=>y
def QG(f1 f2:Tr Value -> Value)(ih:Ih)(r:Option Nat)(T:Tr Value)(D:List Deferred)(H:AH)(n:Nat):Option St:=stR H (f1 T) (f2 T) (λ b ab=>k ih r T D (cV H b (some ab)) n) (cX P G N ops o k ih r T D H n)
def P5(x:Option Rs)(y:Value -> AH -> Nat -> Option St):Option St:=match x with
 | some x=>match x with
  | .fn v H n=>eO v λ v=>y v H n
  | .cd _ _=>none
 | none=>none
def QH(f:FuncId)(as:Tr Value -> List Value)(ih:Ih)(r:Option Nat)(T:Tr Value)(D:List Deferred)(H:AH)(n:Nat):Option St:=P5 (ih (.fn f (as T) H n)) λ v H n=>k ih r (g v T) D H n
def QI(f:FuncId)(as:Tr Value -> List Value)(ih:Ih)(r:Option Nat)(T:Tr Value)(D:List Deferred)(H:AH)(n:Nat):Option St:=P5 (ih (.fn f (as T) H n)) λ v H n=>k ih r T D H n
end
section
variable {P:Program} {G N:Nat} {ops:Array Oper} {o:Oper} {k:Kt} {g:Value -> Tr Value -> Tr Value}
theorem fC(hd:iz N o.dst=.ok g)(ih:Ih)(r:Option Nat)(T:Tr Value)(D:List Deferred)(v:Value)(H:AH)(n:Nat):oA N o k ih r T D v H n=k ih r (g v T) D H n:=by
 rw[oA,BS hd]
theorem B1(hd:iz N o.dst=.no)(ih:Ih)(r:Option Nat)(T:Tr Value)(D:List Deferred)(v:Value)(H:AH)(n:Nat):oA N o k ih r T D v H n=k ih r T D H n:=by
 rw[oA,BT hd]
theorem LU(hg:o.guard=none)(ho:nG G o=true)(hd:iz N o.dst=.ok g){x:Operand}(hx:o.op=.move x \/ o.op=.assign x){f}(hf:∀T,f T=ael T x)(ih r T D H n):P4 k g f ih r T D H n=cX P G N ops o k ih r T D H n:=by
 have hc:sN P o.op=.pu:=by cases hx with|inl h=>rw[h];rfl|inr h=>rw[h];rfl
 have hp:gM P o T=some (ael T x):=by unfold gM;cases hx with|inl h=>rw[h]|inr h=>rw[h]
 rw[pp hg ho hc,hp,P4,hf,cF]
 exact(fC hd ..).symm
theorem Ky(hg:o.guard=none)(ho:nG G o=true)(hd:iz N o.dst=.ok g){c a b:Operand}(hx:o.op=.pick c a b){f fa fb}(hf:∀T,f T=ael T c)(hfa:∀T,fa T=ael T a)(Zr:∀T,fb T=ael T b)(ih r T D H n):Hm k g f fa fb ih r T D H n=cX P G N ops o k ih r T D H n:=by
 rw[pp hg ho (by rw[hx];rfl)]
 unfold gM
 rw[hx]
 simp only[Hm,hf,hfa,Zr,cF]
 cases ael T c with
 | bool q=>cases q <;> exact(fC hd ..).symm
 | _=>rfl
theorem Nb(hg:o.guard=none)(ho:nG G o=true)(hd:iz N o.dst=.ok g){x:Operand}(hx:o.op=.nilCheck x){f}(hf:∀T,f T=ael T x)(ih r T D H n):M8 P G N ops o k g f ih r T D H n=cX P G N ops o k ih r T D H n:=by
 simp only[M8,hf]
 cases he:ael T x with
 | pointer p=>cases p with
  | none=>rfl
  | some a =>
   rw[pp hg ho (by rw[hx];rfl)]
   unfold gM
   rw[hx]
   simp only[he,OO,cF]
   exact(fC hd ..).symm
 | _=>rfl
theorem Nc(hg:o.guard=none)(ho:nG G o=true)(hd:iz N o.dst=.ok g){op t x y z}(hx:o.op=.binOp op t x y z){q}(hq:Kw op=some q){f1 f2}(Yz:∀T,f1 T=ael T x)(SI:∀T,f2 T=ael T y)(ih r T D H n):M9 P G N ops o k g q f1 f2 ih r T D H n=cX P G N ops o k ih r T D H n:=by
 simp only[M9,Yz,SI]
 cases he:ael T x with
 | int ka a=>cases he2:ael T y with
  | int kb b =>
   simp only[OP]
   cases hk:QB ka kb with
   | false=>rfl
   | true =>
    rw[pp hg ho (by rw[hx];rfl)]
    unfold gM
    rw[hx]
    rw[M4] at hk
    simp only[he,he2,Kx hq,hk]
    cases q a b <;> exact(fC hd ..).symm
  | _=>rfl
 | _=>rfl
theorem Nd(hg:o.guard=none)(ho:nG G o=true)(hd:iz N o.dst=.ok g){t x j}(hx:o.op=.fieldAddr t x j){c ft}(hc:xu P t j=some (c,ft)){f}(hf:∀T,f T=ael T x)(ih r T D H n):Na k g c f ih r T D H n=cX P G N ops o k ih r T D H n:=by
 rw[pp hg ho (by rw[hx];rfl)]
 unfold gM
 rw[hx]
 simp only[Na,hf,hc]
 cases he:ael T x with
 | pointer p=>cases p with
  | none=>rfl
  | some a=>cases a with
   | mk b off s=>cases c with
    | zero=>exact(fC hd ..).symm
    | succ c=>exact(fC hd ..).symm
 | _=>rfl
theorem OQ(hg:o.guard=none)(ho:nG G o=true)(hd:iz N o.dst=.ok g){t x}(hx:o.op=.load t x)(hc:xt P t=true){f}(hf:∀T,f T=ael T x)(ih r T D H n):QD k g f ih r T D H n=cX P G N ops o k ih r T D H n:=by
 rw[Hj hg ho (by rw[hx];rfl)]
 unfold jB
 rw[hx]
 simp only[QD,hf]
 cases he:ael T x with
 | pointer p=>cases p with
  | none=>rfl
  | some a=>cases a with
   | mk b off s =>
    cases s with
    | some s=>rfl
    | none =>
     simp only[ldR,tY]
     cases bP H b with
     | none=>rfl
     | some c=>cases c with
      | cells nn tr ty w ro =>
       simp only[ldB,hc]
       cases Nat.blt off nn
       ·rfl
       ·simp only[cF];exact(fC hd ..).symm
      | _=>rfl
 | _=>rfl
theorem OS(hg:o.guard=none)(ho:nG G o=true)(hd:iz N o.dst=.ok g){t x}(hx:o.op=.load t x)(hc:xt P t=false){c}(ha:zL P t=some c){f}(hf:∀T,f T=ael T x)(ih r T D H n):QE k g c f ih r T D H n=cX P G N ops o k ih r T D H n:=by
 rw[Hj hg ho (by rw[hx];rfl)]
 unfold jB
 rw[hx]
 simp only[QE,hf]
 cases he:ael T x with
 | pointer p=>cases p with
  | none=>rfl
  | some a=>cases a with
   | mk b off s =>
    cases s with
    | some s=>rfl
    | none =>
     simp only[laR,tY]
     cases bP H b with
     | none=>rfl
     | some ab=>cases ab with
      | cells nn tr ty w ro =>
       simp only[laB,hc,ha]
       cases Nat.ble (off+c) nn
       ·rfl
       ·simp only[uo];exact(fC hd ..).symm
      | _=>rfl
 | _=>rfl
theorem OT(hg:o.guard=none)(ho:nG G o=true)(hd:iz N o.dst=.ok g){t}(hx:o.op=.alloc t){z}(hz:k8 P t=some z){b}(hb:jO z t=b)(ih r T D H n):alF k g b ih r T D H n=cX P G N ops o k ih r T D H n:=by
 rw[M2 hg ho (by rw[hx];rfl)]
 unfold s0
 rw[hx]
 simp only[hz,hb]
 exact(fC hd ..).symm
theorem OU(hg:o.guard=none)(ho:nG G o=true)(hd:iz N o.dst=.ok g){t x i}(hx:o.op=.indexAddr t x i){el c}(ht:P.underlying t=some (.slice el))(hc:fc P el=some c){f1 f2}(Yz:∀T,f1 T=ael T x)(SI:∀T,f2 T=ael T i)(ih r T D H n):QF k g c f1 f2 ih r T D H n=cX P G N ops o k ih r T D H n:=by
 rw[pp hg ho (by rw[hx];rfl)]
 unfold gM
 rw[hx]
 simp only[QF,Yz,SI,ht]
 cases he:ael T x with
 | slice p m cc=>cases p with
  | none=>rfl
  | some a=>cases a with
   | mk b off s=>cases he2:ael T i with
    | int ki i=>cases i with
     | ofNat i =>
      simp only[ixR,Jl,hc]
      cases Nat.blt i m with
      | false=>rfl
      | true =>
       simp only[zN]
       cases i*c with
       | zero=>exact(fC hd ..).symm
       | succ j=>exact(fC hd ..).symm
     | negSucc i=>rfl
    | _=>rfl
 | _=>cases he2:ael T i <;> rfl
theorem OV(hg:o.guard=none)(ho:nG G o=true)(hd:iz N o.dst=.no){t x y}(hx:o.op=.store t x y)(ht:fc P t=some 1){f1 f2}(Yz:∀T,f1 T=ael T x)(SI:∀T,f2 T=ael T y)(ih r T D H n):QG P G N ops o k f1 f2 ih r T D H n=cX P G N ops o k ih r T D H n:=by
 simp only[QG,Yz,SI]
 unfold stR
 cases Rt:B0 (ael T y) with
 | false=>rfl
 | true =>
  cases he:ael T x with
  | pointer p=>cases p with
   | none=>rfl
   | some a=>cases a with
    | mk b off s=>cases s with
     | some s=>simp only[cF];rfl
     | none =>
      simp only[cF]
      cases hb:bP H b with
      | none=>rfl
      | some c=>cases c with
       | cells nn tr ty w ro=>cases ro with
        | true=>rfl
        | false =>
         simp only[stB]
         cases iF:Nat.blt off nn with
         | false=>rfl
         | true =>
          have hcl:gW (ael T y)=[ael T y]:=by
           cases hv:ael T y <;> first|rfl|(rw[hv] at Rt;simp[B0] at Rt)
          have hff:j6 [ael T y]=true:=by
           cases hv:ael T y <;> first|rfl|(rw[hv] at Rt;simp[B0] at Rt)
          have hle:Nat.ble (off+1) nn=true:=iF
          have WV:nj P o T H n=some (.val undef (cV H b (some (.cells nn (sY tr off (ael T y)) ty w false))) n):=by
           unfold nj
           rw[hx]
           simp only[he,vu,ht,hcl,gu,o9,hb,hle,hff]
           rfl
          rw[M3 hg ho (by rw[hx];rfl) ih r T D H n WV]
          exact(B1 hd ..).symm
       | _=>rfl
  | _=>rfl
theorem Hn{f:FuncId}{c:Call}(hx:o.op=.call c)(hc:c.callee=.value (.func f))(hb:rC P f=true)(T H n):nj P o T H n=some (.ent f (nh T c.args.toList)):=by
 unfold nj
 rw[hx]
 simp only[hc,ael,qy,hb]
 simp
theorem Hs{f:FuncId}{c:Call}(hx:o.op=.call c)(hc:c.callee=.value (.func f)):sN P o.op=.ef:=by
 rw[hx]
 obtain⟨ce,a,t⟩:=c
 simp only at hc
 subst hc
 rfl
theorem OW(hg:o.guard=none)(ho:nG G o=true)(hd:iz N o.dst=.ok g){f:FuncId}{c:Call}(hx:o.op=.call c)(hc:c.callee=.value (.func f))(hb:rC P f=true){as}(ha:∀T,as T=nh T c.args.toList)(ih r T D H n):QH k g f as ih r T D H n=cX P G N ops o k ih r T D H n:=by
 rw[BU hg ho (Hs hx hc) ih r T D H n (Hn hx hc hb T H n),QH,ha]
 cases ih (.fn f (nh T c.args.toList) H n) with
 | none=>rfl
 | some x=>cases x with
  | cd _ _=>rfl
  | fn v H n=>simp only[P5,cF];exact(fC hd ..).symm
theorem Nf(hg:o.guard=none)(ho:nG G o=true)(hd:iz N o.dst=.no){f:FuncId}{c:Call}(hx:o.op=.call c)(hc:c.callee=.value (.func f))(hb:rC P f=true){as}(ha:∀T,as T=nh T c.args.toList)(ih r T D H n):QI k f as ih r T D H n=cX P G N ops o k ih r T D H n:=by
 rw[BU hg ho (Hs hx hc) ih r T D H n (Hn hx hc hb T H n),QI,ha]
 cases ih (.fn f (nh T c.args.toList) H n) with
 | none=>rfl
 | some x=>cases x with
  | cd _ _=>rfl
  | fn v H n=>simp only[P5,cF];exact(B1 hd ..).symm
end
end
noncomputable section
def QJ(P:Program)(G N:Nat)(ops:Array Oper)(o:Oper)(k:Kt)(g:Value -> Tr Value -> Tr Value):CzR:=match o.op with
 | .move x=>match cv x with
  | .mk f=>.mk (P4 k g f)
 | .assign x=>match cv x with
  | .mk f=>.mk (P4 k g f)
 | .pick c a b=>match cv c with
  | .mk f=>match cv a with
   | .mk fa=>match cv b with
    | .mk fb=>.mk (Hm k g f fa fb)
 | .nilCheck x=>match cv x with
  | .mk f=>.mk (M8 P G N ops o k g f)
 | .binOp op _ x y _=>match Kw op with
  | some q=>match cv x with
   | .mk f1=>match cv y with
    | .mk f2=>.mk (M9 P G N ops o k g q f1 f2)
  | none=>.mk (cX P G N ops o k)
 | .fieldAddr t x j=>match xu P t j with
  | some (c,_)=>match cv x with
   | .mk f=>.mk (Na k g c f)
  | none=>.mk (cX P G N ops o k)
 | .load t x=>match xt P t with
  | true=>match cv x with
   | .mk f=>.mk (QD k g f)
  | false=>match zL P t with
   | some c=>match cv x with
    | .mk f=>.mk (QE k g c f)
   | none=>.mk (cX P G N ops o k)
 | .alloc t=>match k8 P t with
  | some z=>match jO z t with
   | .cells a b c d e=>.mk (alF k g (.cells a b c d e))
   | _=>.mk (cX P G N ops o k)
  | none=>.mk (cX P G N ops o k)
 | .indexAddr t x i=>match P.underlying t with
  | some (.slice el)=>match fc P el with
   | some c=>match cv x with
    | .mk f1=>match cv i with
     | .mk f2=>.mk (QF k g c f1 f2)
   | none=>.mk (cX P G N ops o k)
  | _=>.mk (cX P G N ops o k)
 | .call c=>match c.callee with
  | .value (.func f)=>match rC P f with
   | true=>match ca c.args.toList with
    | .mk as=>.mk (QH k g f as)
   | false=>.mk (cX P G N ops o k)
  | _=>.mk (cX P G N ops o k)
 | _=>.mk (cX P G N ops o k)
def QK(P:Program)(G N:Nat)(ops:Array Oper)(o:Oper)(k:Kt):CzR:=match o.op with
 | .store t x y=>match fc P t with
  | some 1=>match cv x with
   | .mk f1=>match cv y with
    | .mk f2=>.mk (QG P G N ops o k f1 f2)
  | _=>.mk (cX P G N ops o k)
 | .call c=>match c.callee with
  | .value (.func f)=>match rC P f with
   | true=>match ca c.args.toList with
    | .mk as=>.mk (QI k f as)
   | false=>.mk (cX P G N ops o k)
  | _=>.mk (cX P G N ops o k)
 | _=>.mk (cX P G N ops o k)
def Ht(P:Program)(G N:Nat)(ops:Array Oper)(o:Oper)(k:Kt):CzR:=match nG G o with
 | true=>match iz N o.dst with
  | .ok g=>QJ P G N ops o k g
  | .no=>QK P G N ops o k
  | .bad=>.mk (cX P G N ops o k)
 | false=>.mk (cX P G N ops o k)
def ES(o:Oper):Oper:=⟨o.dst,o.op,o.type,o.pos,o.after,none⟩
def QL(want:Bool)(u:Value)(x y:Option St):Option St:=match u with
 | .bool b=>match b with
  | true=>match want with
   | true=>x
   | false=>y
  | false=>match want with
   | true=>y
   | false=>x
 | .tuple _=>y
 | _=>none
def guF(want:Bool)(f:Tr Value -> Value)(h:Kt)(k:Kt)(g:Value -> Tr Value -> Tr Value)(ih:Ih)(r:Option Nat)(T:Tr Value)(D:List Deferred)(H:AH)(n:Nat):Option St:=QL want (f T) (h ih r T D H n) (k ih r (g undef T) D H n)
def guN(want:Bool)(f:Tr Value -> Value)(h:Kt)(k:Kt)(ih:Ih)(r:Option Nat)(T:Tr Value)(D:List Deferred)(H:AH)(n:Nat):Option St:=QL want (f T) (h ih r T D H n) (k ih r T D H n)
def Ng(P:Program)(G N:Nat)(ops:Array Oper)(o:Oper)(nx:CzR):CzR:=match nx with
 | .mk k=>match o.guard with
  | none=>Ht P G N ops o k
  | some (j,want)=>match (ops[j]?).bind (·.dst) with
   | some d=>match vE (pth d) with
    | .mk f=>match Ht P G N ops (ES o) k with
     | .mk h=>match iz N o.dst with
      | .ok g=>.mk (guF want f h k g)
      | .no=>.mk (guN want f h k)
      | .bad=>.mk (cX P G N ops o k)
   | none=>.mk (cX P G N ops o k)
def DW(P:Program)(G N:Nat)(ops:Array Oper):List Oper -> CzR
 | []=>.mk λ _ _ T D H n=>some ⟨T,D,H,n⟩
 | o::l=>Ng P G N ops o (DW P G N ops l)
def Hu(P:Program)(G N:Nat)(ops:Array Oper)(o:Oper)(k:Kt)(c:CzR):Prop:=∀ih r T D H n,c.f ih r T D H n=cX P G N ops o k ih r T D H n
theorem dE{P:Program}{G N:Nat}{ops:Array Oper}{o:Oper}{k:Kt}:Hu P G N ops o k (.mk (cX P G N ops o k)):=λ _ _ _ _ _ _=>rfl
theorem yS{x:Operand}{f}(h:cv x=.mk f)(T:Tr Value):f T=ael T x:=by
 have:=LS x T;rw[h] at this;exact this
theorem cam{x:List Operand}{f}(h:ca x=.mk f)(T:Tr Value):f T=nh T x:=by
 have:=LT x T;rw[h] at this;exact this
theorem Nh{P:Program}{G N:Nat}{ops:Array Oper}{o:Oper}{k:Kt}{g}(hg:o.guard=none)(ho:nG G o=true)(hd:iz N o.dst=.ok g):Hu P G N ops o k (QJ P G N ops o k g):=by
 unfold QJ
 split
 ·rename_i x hx
  split;rename_i f hf
  exact λ ih r T D H n=>LU hg ho hd (.inl hx) (yS hf) ih r T D H n
 ·rename_i x hx
  split;rename_i f hf
  exact λ ih r T D H n=>LU hg ho hd (.inr hx) (yS hf) ih r T D H n
 ·rename_i c a b hx
  split;rename_i f hf
  split;rename_i fa hfa
  split;rename_i fb Zr
  exact λ ih r T D H n=>Ky hg ho hd hx (yS hf) (yS hfa) (yS Zr) ih r T D H n
 ·rename_i x hx
  split;rename_i f hf
  exact λ ih r T D H n=>Nb hg ho hd hx (yS hf) ih r T D H n
 ·rename_i op t x y z hx
  split
  ·rename_i q hq
   split;rename_i f hf
   split;rename_i f2 SI
   exact λ ih r T D H n=>Nc hg ho hd hx hq (yS hf) (yS SI) ih r T D H n
  ·exact dE
 ·rename_i t x j hx
  split
  ·rename_i c ft hc
   split;rename_i f hf
   exact λ ih r T D H n=>Nd hg ho hd hx hc (yS hf) ih r T D H n
  ·exact dE
 ·rename_i t x hx
  split
  ·rename_i hc
   split;rename_i f hf
   exact λ ih r T D H n=>OQ hg ho hd hx hc (yS hf) ih r T D H n
  ·rename_i hc
   split
   ·rename_i c ha
    split;rename_i f hf
    exact λ ih r T D H n=>OS hg ho hd hx hc ha (yS hf) ih r T D H n
   ·exact dE
 ·rename_i t hx
  split
  ·rename_i z hz
   split
   ·rename_i a b c d e hb
    exact λ ih r T D H n=>OT hg ho hd hx hz hb ih r T D H n
   ·exact dE
  ·exact dE
 ·rename_i t x i hx
  split
  ·rename_i el ht
   split
   ·rename_i c hc
    split;rename_i f hf
    split;rename_i f2 SI
    exact λ ih r T D H n=>OU hg ho hd hx ht hc (yS hf) (yS SI) ih r T D H n
   ·exact dE
  ·exact dE
 ·rename_i c hx
  split
  ·rename_i f hc
   split
   ·rename_i hb
    split;rename_i as ha
    exact λ ih r T D H n=>OW hg ho hd hx hc hb (cam ha) ih r T D H n
   ·exact dE
  ·exact dE
 ·exact dE
theorem Ni{P:Program}{G N:Nat}{ops:Array Oper}{o:Oper}{k:Kt}(hg:o.guard=none)(ho:nG G o=true)(hd:iz N o.dst=.no):Hu P G N ops o k (QK P G N ops o k):=by
 unfold QK
 split
 ·rename_i t x y hx
  split
  ·rename_i hc
   split;rename_i f hf
   split;rename_i f2 SI
   exact λ ih r T D H n=>OV hg ho hd hx hc (yS hf) (yS SI) ih r T D H n
  ·exact dE
 ·rename_i c hx
  split
  ·rename_i f hc
   split
   ·rename_i hb
    split;rename_i as ha
    exact λ ih r T D H n=>Nf hg ho hd hx hc hb (cam ha) ih r T D H n
   ·exact dE
  ·exact dE
 ·exact dE
theorem B2{P:Program}{G N:Nat}{ops:Array Oper}{o:Oper}{k:Kt}(hg:o.guard=none):Hu P G N ops o k (Ht P G N ops o k):=by
 unfold Ht
 split
 ·rename_i ho
  split
  ·rename_i g hd
   exact Nh hg ho hd
  ·rename_i hd
   exact Ni hg ho hd
  ·exact dE
 ·exact dE
theorem nv(P:Program)(T:Tr Value)(o:Oper):gv P T (ES o)=gv P T o:=by
 have e:execOp (ael T) (ES o)=execOp (ael T) o:=by
  obtain⟨dst,op,type,pos,after,guard⟩:=o
  cases op <;> rfl
 unfold gv
 rw[e]
 rfl
theorem DX(P:Program)(T:Tr Value)(o:Oper):gM P (ES o) T=gM P o T:=by
 unfold gM
 simp only[nv]
 rfl
theorem DY(P:Program)(T:Tr Value)(H:AH)(o:Oper):jB P (ES o) T H=jB P o T H:=by
 unfold jB
 simp only[nv]
 rfl
theorem Hv(P:Program)(T:Tr Value)(H:AH)(n:Nat)(o:Oper):nj P (ES o) T H n=nj P o T H n:=by
 unfold nj
 simp only[nv]
 rfl
theorem Hw(P:Program)(G:Nat)(ih:Ih)(r:Option Nat)(T:Tr Value)(H:AH)(n:Nat)(o:Oper):j7 P G ih r (ES o) T H n=j7 P G ih r o T H n:=by
 unfold j7 BG
 simp only[DX,DY,Hv]
 rfl
theorem rY{P:Program}{G N:Nat}{ops:Array Oper}{o:Oper}{k:Kt}{j:Nat}{want:Bool}(hg:o.guard=some (j,want)){d:Tmp}(hd:(ops[j]?).bind (·.dst)=some d){f:Tr Value -> Value}(hf:∀T,f T=cW T d){h:Kt}(hh:∀ih r T D H n,h ih r T D H n=cX P G N ops (ES o) k ih r T D H n)(ih r T D H n) :
  cX P G N ops o k ih r T D H n=QL want (f T) (h ih r T D H n) (match fm N o.dst undef T with|some T=>k ih r T D H n|none=>none):=by
 rw[hh,hf]
 have e:cX P G N ops (ES o) k ih r T D H n=match j7 P G ih r o T H n with
  | none=>none
  | some (.val v H n)=>eO v λ v=>match fm N o.dst v T with
   | some T=>k ih r T D H n
   | none=>none
  | some (.dfr d)=>match fm N o.dst undef T with
   | some T=>k ih r T (d::D) H n
   | none=>none:=by
  simp only[cX,eH,ES]
  rw[<- Hw P G ih r T H n o]
  rfl
 rw[e]
 simp only[cX,eH,hg,hd]
 cases cW T d with
 | bool b=>cases b <;> cases want <;> rfl
 | _=>rfl
theorem Nj{P:Program}{G N:Nat}{ops:Array Oper}{o:Oper}{k:Kt}:Hu P G N ops o k (Ng P G N ops o (.mk k)):=by
 cases hg:o.guard with
 | none=>simp only[Ng,hg];exact B2 hg
 | some jw =>
  obtain⟨j,want⟩:=jw
  cases hd:(ops[j]?).bind (·.dst) with
  | none=>simp only[Ng,hg,hd];exact dE
  | some d =>
   cases hf:vE (pth d) with
   | mk f=>cases hh:Ht P G N ops (ES o) k with
    | mk h =>
     have hf':∀T,f T=cW T d:=λ T=>by have:=qB (pth d) T;rw[hf] at this;exact this
     have hh':=B2 (P:=P) (G:=G) (N:=N) (ops:=ops) (o:=ES o) (k:=k) rfl
     rw[hh] at hh'
     cases hdk:iz N o.dst with
     | ok g =>
      simp only[Ng,hg,hd,hf,hh,hdk]
      intro ih r T D H n
      rw[rY hg hd hf' hh',BS hdk]
      rfl
     | no =>
      simp only[Ng,hg,hd,hf,hh,hdk]
      intro ih r T D H n
      rw[rY hg hd hf' hh',BT hdk]
      rfl
     | bad=>simp only[Ng,hg,hd,hf,hh,hdk];exact dE
theorem B3(P:Program)(G N:Nat)(ops:Array Oper):∀l,CzR.okL P G N ops l (DW P G N ops l).f
 | []=>λ ih r T D H n=>rfl
 | o::l=>by
  have h:=B3 P G N ops l
  cases hk:DW P G N ops l with
  | mk k =>
   rw[hk] at h
   intro ih r T D H n
   simp only[DW,hk]
   rw[Nj]
   exact Kv h o ih r T D H n
def P6(P:Program)(G N:Nat)(c:Code)(ih:Ih)(r:Option Nat)(T:Tr Value)(D:List Deferred)(H:AH)(n:Nat):Option (Ex × St):=je P G ih r N c ⟨T,D,H,n⟩
def OX(k:Kt)(ih:Ih)(r:Option Nat)(T:Tr Value)(D:List Deferred)(H:AH)(n:Nat):Option (Ex × St):=match k ih r T D H n with
 | some s=>some (.normal,s)
 | none=>none
abbrev Kc:=Ih -> Option Nat -> Tr Value -> List Deferred -> AH -> Nat -> Option (Ex × St)
def QM(x:Option (Ex × St))(y:Tr Value -> List Deferred -> AH -> Nat -> Option (Ex × St)):Option (Ex × St):=match x with
 | some p=>match p with
  | (e,s)=>match e with
   | .normal=>match s with
    | ⟨T,D,H,n⟩=>y T D H n
   | .exit id=>some (.exit id,s)
   | .ret=>some (.ret,s)
 | none=>none
def OY(a b:Kc)(ih:Ih)(r:Option Nat)(T:Tr Value)(D:List Deferred)(H:AH)(n:Nat):Option (Ex × St):=QM (a ih r T D H n) λ T D H n=>b ih r T D H n
def OZ(u:Value)(x y:Option (Ex × St)):Option (Ex × St):=match u with
 | .bool b=>match b with
  | true=>x
  | false=>y
 | _=>none
def LW(f:Tr Value -> Value)(a b:Kc)(ih:Ih)(r:Option Nat)(T:Tr Value)(D:List Deferred)(H:AH)(n:Nat):Option (Ex × St):=OZ (f T) (a ih r T D H n) (b ih r T D H n)
def O0(id:Nat)(x:Option (Ex × St)):Option (Ex × St):=match x with
 | some p=>match p with
  | (e,s)=>match e with
   | .exit TJ=>match Nat.beq TJ id with
    | true=>some (.normal,s)
    | false=>some (.exit TJ,s)
   | .normal=>some (.normal,s)
   | .ret=>some (.ret,s)
 | none=>none
def O1(id:Nat)(a:Kc)(ih:Ih)(r:Option Nat)(T:Tr Value)(D:List Deferred)(H:AH)(n:Nat):Option (Ex × St):=O0 id (a ih r T D H n)
def O2(x:Option (Ex × St))(y:St -> Option Rs):Option (Ex × St):=match x with
 | some p=>match p with
  | (e,s)=>match e with
   | .normal=>match y s with
    | some q=>match q with
     | .cd e s=>some (e,s)
     | .fn _ _ _=>none
    | none=>none
   | .exit id=>some (.exit id,s)
   | .ret=>some (.ret,s)
 | none=>none
def O3(N:Nat)(c:Code)(a:Kc)(ih:Ih)(r:Option Nat)(T:Tr Value)(D:List Deferred)(H:AH)(n:Nat):Option (Ex × St):=O2 (a ih r T D H n) λ s=>ih (.loop r N c s)
def iA(P:Program)(G N:Nat):Code -> CzC
 | .skip=>.mk λ _ _ T D H n=>some (.normal,⟨T,D,H,n⟩)
 | .label _=>.mk λ _ _ T D H n=>some (.normal,⟨T,D,H,n⟩)
 | .region id ops draw=>match draw with
  | false=>match DW P G N ops ops.toList with
   | .mk k=>.mk (OX k)
  | true=>.mk (P6 P G N (.region id ops true))
 | .seq a b=>match iA P G N a with
  | .mk fa=>match iA P G N b with
   | .mk fb=>.mk (OY fa fb)
 | .cond c a b=>match cv c with
  | .mk f=>match iA P G N a with
   | .mk fa=>match iA P G N b with
    | .mk fb=>.mk (LW f fa fb)
 | .block id c=>match iA P G N c with
  | .mk fa=>.mk (O1 id fa)
 | .loop c=>match iA P G N c with
  | .mk fa=>.mk (O3 N c fa)
 | .rangeFunc g ps assign body=>.mk (P6 P G N (.rangeFunc g ps assign body))
 | .exit id=>.mk λ _ _ T D H n=>some (.exit id,⟨T,D,H,n⟩)
 | .scope c=>iA P G N c
 | .goto l=>.mk (P6 P G N (.goto l))
 | .ret=>.mk λ _ _ T D H n=>some (.ret,⟨T,D,H,n⟩)
 | .refuse x=>.mk (P6 P G N (.refuse x))
def O4(P:Program)(G N:Nat)(c:Code)(f:Kc):Prop:=∀ih r T D H n,f ih r T D H n=je P G ih r N c ⟨T,D,H,n⟩
theorem iB(P:Program)(G N:Nat):∀c,O4 P G N c (iA P G N c).f
 | .skip=>λ _ _ _ _ _ _=>rfl
 | .label _=>λ _ _ _ _ _ _=>rfl
 | .region id ops draw=>by
  cases draw with
  | true=>exact λ _ _ _ _ _ _=>rfl
  | false =>
   have h:=B3 P G N ops ops.toList
   cases hk:DW P G N ops ops.toList with
   | mk k =>
    rw[hk] at h
    intro ih r T D H n
    simp only[iA,hk,CzC.f,OX,je]
    have:=h ih r T D H n
    simp only[CzR.f] at this
    rw[this]
    cases mK P G ih r N ops ops.toList ⟨T,D,H,n⟩ <;> rfl
 | .seq a b=>by
  have h1:=iB P G N a
  have h2:=iB P G N b
  cases ha:iA P G N a with
  | mk fa=>cases hb:iA P G N b with
   | mk fb =>
    rw[ha] at h1;rw[hb] at h2
    intro ih r T D H n
    have e1:=h1 ih r T D H n
    simp only[CzC.f] at e1
    simp only[iA,ha,hb,CzC.f,OY,je,e1]
    cases je P G ih r N a ⟨T,D,H,n⟩ with
    | none=>rfl
    | some p=>obtain⟨e,s⟩:=p;cases e with
     | normal=>obtain⟨T,D,H,n⟩:=s;exact h2 ih r T D H n
     | exit id=>rfl
     | ret=>rfl
 | .cond c a b=>by
  have h1:=iB P G N a
  have h2:=iB P G N b
  cases hc:cv c with
  | mk f=>cases ha:iA P G N a with
   | mk fa=>cases hb:iA P G N b with
    | mk fb =>
     rw[ha] at h1;rw[hb] at h2
     intro ih r T D H n
     simp only[iA,hc,ha,hb,CzC.f,LW,je,yS hc]
     cases ael T c with
     | bool q=>cases q with
      | true=>exact h1 ih r T D H n
      | false=>exact h2 ih r T D H n
     | _=>rfl
 | .block id c=>by
  have h1:=iB P G N c
  cases ha:iA P G N c with
  | mk fa =>
   rw[ha] at h1
   intro ih r T D H n
   have e1:=h1 ih r T D H n
   simp only[CzC.f] at e1
   simp only[iA,ha,CzC.f,O1,je,e1]
   cases je P G ih r N c ⟨T,D,H,n⟩ with
   | none=>rfl
   | some p=>obtain⟨e,s⟩:=p;cases e with
    | normal=>rfl
    | exit TJ=>simp only[O0];cases Nat.beq TJ id <;> rfl
    | ret=>rfl
 | .loop c=>by
  have h1:=iB P G N c
  cases ha:iA P G N c with
  | mk fa =>
   rw[ha] at h1
   intro ih r T D H n
   have e1:=h1 ih r T D H n
   simp only[CzC.f] at e1
   simp only[iA,ha,CzC.f,O3,je,e1]
   cases je P G ih r N c ⟨T,D,H,n⟩ with
   | none=>rfl
   | some p=>obtain⟨e,s⟩:=p;cases e with
    | normal =>
     simp only[O2]
     cases ih (.loop r N c s) with
     | none=>rfl
     | some q=>cases q <;> rfl
    | exit TJ=>rfl
    | ret=>rfl
 | .rangeFunc g ps assign body=>λ _ _ _ _ _ _=>rfl
 | .exit id=>λ _ _ _ _ _ _=>rfl
 | .scope c=>by
  intro ih r T D H n
  simp only[iA,je]
  exact iB P G N c ih r T D H n
 | .goto l=>λ _ _ _ _ _ _=>rfl
 | .ret=>λ _ _ _ _ _ _=>rfl
 | .refuse x=>λ _ _ _ _ _ _=>rfl
def Kz:List ResultVar -> Option CzA
 | []=>some (.mk λ _=>[])
 | x::l=>match x with
  | .tmp t=>match vE (pth t) with
   | .mk f=>match Kz l with
    | some c=>match c with
     | .mk h=>some (.mk λ T=>f T::h T)
    | none=>none
  | .cell _ _=>none
theorem Hy(P:Program)(H:AH)(T:Tr Value):∀ {l:List ResultVar} {h},Kz l=some (.mk h) -> pd P T H l=some (h T)
 | [],h,e=>by simp only[Kz,Option.some.injEq,CzA.mk.injEq] at e;subst e;rfl
 | .cell _ _::l,h,e=>by simp[Kz] at e
 | .tmp t::l,h,e=>by
  simp only[Kz] at e
  cases hf:vE (pth t) with
  | mk f =>
   rw[hf] at e
   simp only at e
   cases hl:Kz l with
   | none=>rw[hl] at e;simp at e
   | some c=>cases c with
    | mk h' =>
     rw[hl] at e
     simp only[Option.some.injEq,CzA.mk.injEq] at e
     subst e
     have:=qB (pth t) T
     rw[hf] at this
     simp only[CzV.f] at this
     simp only[pd,Hy P H T hl,this]
     rfl
def Nl(l:List Value):Nat -> Tr Value -> Tr Value:=List.rec (motive:=λ _=>Nat -> Tr Value -> Tr Value) (λ _ t=>t) (λ x _ ih i t=>eO x λ x=>ih (i+1) (dR undef x (pth i) t)) l
theorem B4:∀ (l:List Value) (i:Nat) (t:Tr Value),Nl l i t=dK undef l i t
 | [],i,t=>rfl
 | x::l,i,t=>by
  have:=B4 l (i+1) (dR undef x (pth i) t)
  show (eO x λ x=>Nl l (i+1) (dR undef x (pth i) t))=_
  rw[cF,this,dK]
  have e:Tr.set undef x t i=dR undef x (pth i) t:=rfl
  rw[e]
  cases dR undef x (pth i) t <;> rfl
def O5(h:List Value):Value:=match h with
 | []=>.tuple ⟨[]⟩
 | v::l=>match l with
  | []=>v
  | w::l=>.tuple ⟨v::w::l⟩
theorem KA(h:List Value):O5 h=xB h:=by
 cases h with
 | nil=>rfl
 | cons v l=>cases l <;> rfl
def O6(P:Program)(fn:Func)(ih:Ih)(s:St):Option Rs:=match kF P ih s.D s.H s.n with
 | some (H,n)=>match pd P s.T H fn.results.toList with
  | some vs=>some (.fn (xB vs) H n)
  | none=>none
 | none=>none
def QN(P:Program)(fn:Func)(h:Tr Value -> List Value)(ih:Ih)(s:St):Option Rs:=match s with
 | ⟨T,D,H,n⟩=>match D with
  | []=>some (.fn (O5 (h T)) H n)
  | d::D=>O6 P fn ih ⟨T,d::D,H,n⟩
def fnR(x:Option (Ex × St))(y:St -> Option Rs):Option Rs:=match x with
 | some p=>match p with
  | (e,s)=>match e with
   | .exit _=>none
   | .normal=>y s
   | .ret=>y s
 | none=>none
def P7(N:Nat)(k:Kc)(y:Ih -> St -> Option Rs)(ih:Ih)(args:List Value)(H:AH)(n:Nat):Option Rs:=match Nat.ble (gu args) N with
 | true=>fnR (k ih none (Nl args 0 .lf) [] H n) (y ih)
 | false=>none
def DZ(P:Program)(G:Nat)(f:FuncId):CzF:=match rH P f with
 | some (fn,c)=>match iA P G fn.ntmps c with
  | .mk k=>match Kz fn.results.toList with
   | some h=>match h with
    | .mk h=>.mk (P7 fn.ntmps k (QN P fn h))
   | none=>.mk (P7 fn.ntmps k (O6 P fn))
 | none=>.mk λ _ _ _ _=>none
theorem Nm{P:Program}{fn:Func}{h}(e:Kz fn.results.toList=some (.mk h))(ih:Ih)(s:St):QN P fn h ih s=O6 P fn ih s:=by
 obtain⟨T,D,H,n⟩:=s
 cases D with
 | cons d D=>rfl
 | nil=>simp only[QN,O6,kF,Hy P H T e,KA]
theorem Hz{P:Program}{G:Nat}{fn:Func}{c:Code}{f:FuncId}(hb:rH P f=some (fn,c)){k:Kc}(hk:O4 P G fn.ntmps c k){y:Ih -> St -> Option Rs}(hy:∀ih s,y ih s=O6 P fn ih s)(ih:Ih)(args:List Value)(H:AH)(n:Nat):P7 fn.ntmps k y ih args H n=gO P G ih (.fn f args H n):=by
 simp only[P7,gO,hb]
 cases Nat.ble (gu args) fn.ntmps with
 | false=>rfl
 | true =>
  simp only[hk ih,B4]
  rw[show dK undef args 0 .lf=mL args from rfl]
  cases je P G ih none fn.ntmps c ⟨mL args,[],H,n⟩ with
  | none=>rfl
  | some p=>obtain⟨e,s⟩:=p;cases e with
   | exit _=>rfl
   | normal=>exact hy ih s
   | ret=>exact hy ih s
theorem KB(P:Program)(G:Nat)(f:FuncId)(ih:Ih)(args:List Value)(H:AH)(n:Nat):(DZ P G f).f ih args H n=gO P G ih (.fn f args H n):=by
 cases hb:rH P f with
 | none=>simp only[DZ,hb,CzF.f,gO]
 | some p =>
  obtain⟨fn,c⟩:=p
  have h1:=iB P G fn.ntmps c
  cases hk:iA P G fn.ntmps c with
  | mk k =>
   rw[hk] at h1
   cases hr:Kz fn.results.toList with
   | none =>
    simp only[DZ,hb,hk,hr,CzF.f]
    exact Hz hb h1 (λ _ _=>rfl) ih args H n
   | some h=>cases h with
    | mk h =>
     simp only[DZ,hb,hk,hr,CzF.f]
     exact Hz hb h1 (λ ih s=>Nm hr ih s) ih args H n
def yd(P:Program)(G:Nat)(ih:Ih)(t:Task):Option Rs:=match t with
 | .loop r N c s=>match iA P G N (.loop c) with
  | .mk k=>match s with
   | ⟨T,D,H,n⟩=>match k ih r T D H n with
    | some p=>match p with
     | (e,s)=>some (.cd e s)
    | none=>none
 | .fn f args H n=>match DZ P G f with
  | .mk k=>k ih args H n
 | t=>gO P G ih t
theorem HA(P:Program)(G:Nat)(ih:Ih)(t:Task):yd P G ih t=gO P G ih t:=by
 cases t with
 | loop r N c s =>
  obtain⟨T,D,H,n⟩:=s
  have h1:=iB P G N (.loop c)
  cases hk:iA P G N (.loop c) with
  | mk k =>
   rw[hk] at h1
   have:=h1 ih r T D H n
   simp only[CzC.f] at this
   simp only[yd,hk,gO,this]
   cases je P G ih r N (.loop c) ⟨T,D,H,n⟩ with
   | none=>rfl
   | some p=>rfl
 | fn f args H n =>
  have:=KB P G f ih args H n
  cases hk:DZ P G f with
  | mk k =>
   rw[hk] at this
   simp only[yd,hk]
   exact this
 | _=>rfl
def HB(P:Program)(G:Nat)(k:Nat):Ih:=Nat.rec (motive:=λ _=>Ih) (λ _=>none) (λ _ ih t=>yd P G ih t) k
theorem B5(P:Program)(G:Nat):∀k,HB P G k=GP P G k
 | 0=>rfl
 | k+1=>by
  funext t
  show yd P G (HB P G k) t=_
  rw[HA,B5 P G k]
  rfl
end
end Go.Proofs.YtgdcbiiopbpgaaaGreatDoor
