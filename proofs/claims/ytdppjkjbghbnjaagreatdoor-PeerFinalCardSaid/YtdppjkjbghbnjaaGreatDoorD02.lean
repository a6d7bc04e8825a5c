import Derived.Test.YtdppjkjbghbnjaaGreatDoorD01
set_option maxHeartbeats 4000000
set_option maxRecDepth 100000
set_option linter.all false
namespace Go.Proofs.YtdppjkjbghbnjaaGreatDoor
open Go.RowKit
theorem Fx{r:Option Nat}{P:Program}{n0 N:Nat}{D:List Deferred}{F:HL}{ops:Array Oper}{Q:Exit -> Act -> World -> Prop}{rest:List Oper}{o:Oper}{L L':FL}{s s':SS}{a:Act}{w:World}
  (h:wb P n0 N ops.toList [o] L s=some (L',s')) (heq:∀p∈s'.eq,p.1=p.2) (iN:∀p∈s'.ob,p) (hF:Fm N D L a) (hR:Rel (s.h++F) w) (hr:∀y∈s.r,y∈F) (hn:s.wr=true -> n0+s.cnt=w.heap.size)
  (hk:∀a' w',Fm N D L' a' -> Rel (s'.h++F) w' -> Below 0 w w' -> s'.wr=s.wr -> (s'.wr=true -> n0+s'.cnt=w'.heap.size) -> wpListIn (Wr r) 0 P ops Q rest a' w'):wpListIn (Wr r) 0 P ops Q (o::rest) a w:=by
 rw[wpListIn];rw[wb] at h;split at h
 ·cases h
 ·rename_i s1 hw;split at h
  case h_2=>cases h
  rename_i L1 hp;rw[wb] at h;cases h;obtain⟨a1,a2,a3,a4⟩:=bL hw;obtain⟨c1,c2,c3⟩:=cz hw hF iN;rw[if_neg (by rw[c1];simp)];refine⟨λ _ _=>trivial,?_⟩;exact hk _ w (hF.put hp) (by rw[c2];exact hR) (Below.refl _ _) a4 (λ e=>by rw[c3];exact hn (a4.symm.trans e))
 ·rename_i s1 hw;split at h
  ·cases h
  rename_i g_;obtain⟨a1,a2,a3,a4⟩:=bL hw;split at h
  ·rename_i v s2 he;split at h
   case h_2=>cases h
   rename_i L1 hp;rw[wb] at h;cases h;obtain⟨d1,d2,d3,d4⟩:=dG he;obtain⟨c1,c2,c3⟩:=cz hw hF (λ p hp=>iN p (d2 p hp));obtain⟨w1,e1,e2,e3,e4,-⟩:=gG (w:=w) he heq iN (by rw[c2];exact hR) (by rw[a3];exact hr) (λ e=>by rw[c3];exact hn (a4.symm.trans e));rw[if_pos c1];refine⟨λ _ _=>trivial,?_⟩;rw[hF.sem g_,e1,Oper.uponIn_value];exact hk _ w1 (hF.put hp) e2 e3 (d4.trans a4) (λ e=>e4 (d4.symm.trans e))
  ·rename_i s2 he;split at h
   case h_2=>cases h
   rename_i L1 hp;rw[wb] at h;cases h;obtain⟨d1,d2,d3,d4⟩:=dG he;obtain⟨c1,c2,c3⟩:=cz hw hF (λ p hp=>iN p (d2 p hp));obtain⟨w1,e1,e2,e3,e4,-⟩:=gG (w:=w) he heq iN (by rw[c2];exact hR) (by rw[a3];exact hr) (λ e=>by rw[c3];exact hn (a4.symm.trans e));rw[if_pos c1];refine⟨λ _ _=>trivial,?_⟩;rw[hF.sem g_,e1,Oper.uponIn_skip];exact hk _ w1 (hF.put hp) e2 e3 (d4.trans a4) (λ e=>e4 (d4.symm.trans e))
  ·cases h
inductive KI where
 | thn (y:Code)
 | blk (id:Nat)
 | scp
 | met (K:Act -> World -> Prop)
 | rnd (c:Code) (n:Nat)
inductive Fo where
 | code (c:Code)
 | ops (ops:Array Oper) (i:Nat)
 | ex (e:Exit)
 | drw (ops:Array Oper) (listed:List Bool)
structure Cfg where
 c:Fo
 k:List KI
 L:FL
 A:HL
 Ts:List HL
def ux(r:Option Nat)(P:Program)(c:Code)(Q:Exit -> Act -> World -> Prop):Nat -> Act -> World -> Prop
 | 0,_,_=>False
 | n+1,a,w=>c.wpIn (Wr r) 0 P (Exit.then (ux r P c Q n) Q) a w
def kY(r:Option Nat)(P:Program):List KI -> (Exit -> Act -> World -> Prop) -> Exit -> Act -> World -> Prop
 | [],Q=>Q
 | .thn y::k,Q=>Exit.then (y.wpIn (Wr r) 0 P (kY r P k Q)) (kY r P k Q)
 | .blk id::k,Q=>Exit.inBlock id (kY r P k Q)
 | .scp::k,Q=>Exit.noGoto (kY r P k Q)
 | .met K::k,Q=>Exit.then K (kY r P k Q)
 | .rnd c n::k,Q=>Exit.then (ux r P c (kY r P k Q) n) (kY r P k Q)
def Wf(r:Option Nat)(P:Program)(Q:Exit -> Act -> World -> Prop)(c:Fo)(k:List KI)(a:Act)(w:World):Prop:=match c with
 | .code c=>c.wpIn (Wr r) 0 P (kY r P k Q) a w
 | .ops ops i=>wpListIn (Wr r) 0 P ops (kY r P k Q) (ops.toList.drop i) a w
 | .ex e=>kY r P k Q e a w
 | .drw _ _=>False
def stp(P:Program)(n0 N:Nat)(c:Fo)(k:List KI)(L:FL)(s:SS):Option (Fo × List KI × FL × SS):=match c with
 | .code (.seq x y)=>some (.code x,.thn y::k,L,s)
 | .code (.region _ ops false)=>some (.ops ops 0,k,L,s)
 | .code (.block id c)=>some (.code c,.blk id::k,L,s)
 | .code .skip=>some (.ex .normal,k,L,s)
 | .code (.exit id)=>some (.ex (.exit id),k,L,s)
 | .code (.scope c)=>some (.code c,.scp::k,L,s)
 | .code (.label _)=>some (.ex .normal,k,L,s)
 | .code (.cond c x y)=>match gB L c,fA L c with
  | true,.bool b=>match s.hints with
   | .gd v::hs=>some (.code (if v then x else y),k,L,{ s with hints:=hs,ob:=(b=v)::s.ob })
   | _=>some (.code (if b then x else y),k,L,s)
  | _,_=>none
 | .ops ops i=>match ops.toList[i]? with
  | none=>some (.ex .normal,k,L,s)
  | some o=>match wb P n0 N ops.toList [o] L s with
   | some (L,s)=>some (.ops ops (i+1),k,L,s)
   | none=>none
 | .ex .normal=>match k with
  | .thn y::k=>some (.code y,k,L,s)
  | .blk _::k=>some (.ex .normal,k,L,s)
  | .scp::k=>some (.ex .normal,k,L,s)
  | .rnd c (n+1)::k=>some (.code c,.rnd c n::k,L,s)
  | _=>none
 | .ex (.exit id)=>match k with
  | .thn _::k=>some (.ex (.exit id),k,L,s)
  | .blk Uh::k=>some (.ex (if id=Uh then .normal else .exit id),k,L,s)
  | .scp::k=>some (.ex (.exit id),k,L,s)
  | .met _::k=>some (.ex (.exit id),k,L,s)
  | .rnd _ _::k=>some (.ex (.exit id),k,L,s)
  | []=>none
 | _=>none
theorem zr{P:Program}{n0 N:Nat}{ops:List Oper}{o:Oper}{L L':FL}{s s':SS}(h:wb P n0 N ops [o] L s=some (L',s')):s'.wr=s.wr:=by
 rw[wb] at h;split at h
 ·cases h
 ·rename_i s1 hw;split at h
  case h_2=>cases h
  rw[wb] at h;cases h;exact(bL hw).2.2.2
 ·rename_i s1 hw;split at h
  ·cases h
  split at h
  ·rename_i v s2 he;split at h
   case h_2=>cases h
   rw[wb] at h;cases h;exact(dG he).2.2.2.trans (bL hw).2.2.2
  ·rename_i s2 he;split at h
   case h_2=>cases h
   rw[wb] at h;cases h;exact(dG he).2.2.2.trans (bL hw).2.2.2
  ·cases h
theorem sP{P:Program}{n0 N:Nat}{c c':Fo}{k k':List KI}{L L':FL}{s s':SS}(h:stp P n0 N c k L s=some (c',k',L',s')):(∀p∈s.eq,p∈s'.eq) /\ (∀p∈s.ob,p∈s'.ob) /\ s'.r=s.r /\ s'.wr=s.wr:=by
 have Vq:(∀p∈s.eq,p∈s.eq) /\ (∀p∈s.ob,p∈s.ob) /\ s.r=s.r /\ s.wr=s.wr:=⟨λ _ h=>h,λ _ h=>h,rfl,rfl⟩;unfold stp at h;split at h
 case h_8 =>
  split at h
  ·split at h
   ·cases h;exact⟨λ _ h=>h,λ _ h=>aaA _ h,rfl,rfl⟩
   ·cases h;exact Vq
  ·cases h
 case h_9 =>
  split at h
  ·cases h;exact Vq
  ·split at h
   ·rename_i hs;cases h;obtain⟨b1,b2,b3⟩:=lH _ _ _ _ _ hs;exact⟨b1,b2,b3,zr hs⟩
   ·cases h
 case h_10=>split at h <;> first|(cases h;done)|(cases h;exact Vq)
 case h_11=>split at h <;> first|(cases h;done)|(cases h;exact Vq)
 all_goals first|(cases h;done)|(cases h;exact Vq)
theorem CX{r:Option Nat}{P:Program}{n0 N:Nat}{D:List Deferred}{F:HL}{Q:Exit -> Act -> World -> Prop}{c c':Fo}{k k':List KI}{L L':FL}{s s':SS}{a:Act}{w:World}
  (h:stp P n0 N c k L s=some (c',k',L',s')) (heq:∀p∈s'.eq,p.1=p.2) (iN:∀p∈s'.ob,p) (hF:Fm N D L a) (hR:Rel (s.h++F) w) (hr:∀y∈s.r,y∈F) (hn:s.wr=true -> n0+s.cnt=w.heap.size)
  (hk:∀a' w',Fm N D L' a' -> Rel (s'.h++F) w' -> Below 0 w w' -> (s'.wr=true -> n0+s'.cnt=w'.heap.size) -> Wf r P Q c' k' a' w'):Wf r P Q c k a w:=by
 have B:=Below.refl 0 w;unfold stp at h;split at h
 ·cases h;exact wpIn_seq (hk a w hF hR B hn)
 ·cases h;exact wpIn_region_list (by simpa [Wf] using hk a w hF hR B hn)
 ·cases h;exact wpIn_block (hk a w hF hR B hn)
 ·cases h;exact wpIn_skip (hk a w hF hR B hn)
 ·cases h;exact wpIn_exit (hk a w hF hR B hn)
 ·cases h;exact ii (hk a w hF hR B hn)
 ·cases h;exact wpIn_label (hk a w hF hR B hn)
 ·split at h
  ·rename_i b hi hc;have e:=hF.eval hi;rw[hc] at e;split at h
   ·rename_i v hs hh;cases h;have hb:b=v:=iN _ aax;subst hb;cases b
    ·exact wpIn_cond_false e (hk a w hF hR B hn)
    ·exact wpIn_cond_true e (hk a w hF hR B hn)
   ·cases h;cases b
    ·exact wpIn_cond_false e (hk a w hF hR B hn)
    ·exact wpIn_cond_true e (hk a w hF hR B hn)
  ·cases h
 ·split at h
  ·rename_i ho;cases h;show wpListIn _ _ _ _ _ _ _ _;rw[List.drop_eq_nil_of_le (List.getElem?_eq_none_iff.1 ho)];exact hk a w hF hR B hn
  ·rename_i o ho;split at h
   ·rename_i hs;cases h;show wpListIn _ _ _ _ _ _ _ _;have iF:=(List.getElem?_eq_some_iff.1 ho).1;rw[List.drop_eq_getElem_cons iF,(List.getElem?_eq_some_iff.1 ho).2];exact Fx hs heq iN hF hR hr hn (λ a' w' h1 h2 h3 _ h4=>hk a' w' h1 h2 h3 h4)
   ·cases h
 ·split at h
  ·cases h;exact hk a w hF hR B hn
  ·cases h;exact hk a w hF hR B hn
  ·cases h;exact hk a w hF hR B hn
  ·cases h;exact hk a w hF hR B hn
  ·cases h
 ·split at h
  ·cases h;exact hk a w hF hR B hn
  ·cases h;have h2:=hk a w hF hR B hn;unfold Wf at h2;show (if _=_ then _ else _);split
   ·rename_i e;rw[if_pos e] at h2;exact h2
   ·rename_i e;rw[if_neg e] at h2;exact h2
  ·cases h;exact hk a w hF hR B hn
  ·cases h;exact hk a w hF hR B hn
  ·cases h;exact hk a w hF hR B hn
  ·cases h
 ·cases h
def adv(P:Program)(n0 N:Nat):Nat -> Fo -> List KI -> FL -> SS -> Option (Fo × List KI × FL × SS)
 | 0,c,k,L,s=>some (c,k,L,s)
 | n+1,c,k,L,s=>match stp P n0 N c k L s with
  | some (c,k,L,s)=>adv P n0 N n c k L s
  | none=>none
theorem sQ{P:Program}{n0 N:Nat}:∀ (n:Nat) {c c':Fo} {k k':List KI} {L L':FL} {s s':SS},adv P n0 N n c k L s=some (c',k',L',s') -> (∀p∈s.eq,p∈s'.eq) /\ (∀p∈s.ob,p∈s'.ob) /\ s'.r=s.r /\ s'.wr=s.wr
 | 0,_,_,_,_,_,_,s,s',h=>by rw[adv] at h;cases h;exact⟨λ _ h=>h,λ _ h=>h,rfl,rfl⟩
 | n+1,_,_,_,_,_,_,s,s',h=>by
  rw[adv] at h;split at h
  ·rename_i hs;obtain⟨a1,a2,a3,a4⟩:=sP hs;obtain⟨b1,b2,b3,b4⟩:=sQ n h;exact⟨λ p hp=>b1 p (a1 p hp),λ p hp=>b2 p (a2 p hp),b3.trans a3,b4.trans a4⟩
  ·cases h
theorem sR{r:Option Nat}{P:Program}{n0 N:Nat}{D:List Deferred}{F:HL}{Q:Exit -> Act -> World -> Prop}:∀ (n:Nat) {c c':Fo} {k k':List KI} {L L':FL} {s s':SS} {a:Act} {w:World},adv P n0 N n c k L s=some (c',k',L',s') -> (∀p∈s'.eq,p.1=p.2) -> (∀p∈s'.ob,p) -> Fm N D L a -> Rel (s.h++F) w -> (∀y∈s.r,y∈F) -> (s.wr=true -> n0+s.cnt=w.heap.size) ->
  (∀a' w',Fm N D L' a' -> Rel (s'.h++F) w' -> Below 0 w w' -> Wf r P Q c' k' a' w') -> Wf r P Q c k a w
 | 0,_,_,_,_,_,_,s,s',a,w,h,heq,iN,hF,hR,hr,hn,hk=>by rw[adv] at h;cases h;exact hk a w hF hR (Below.refl _ _)
 | n+1,_,_,_,_,_,_,s,s',a,w,h,heq,iN,hF,hR,hr,hn,hk=>by
  rw[adv] at h;split at h
  ·rename_i hs;obtain⟨a1,a2,a3,a4⟩:=sP hs;obtain⟨b1,b2,b3,b4⟩:=sQ n h;exact CX hs (λ p hp=>heq p (b1 p hp)) (λ p hp=>iN p (b2 p hp)) hF hR hr hn (λ a' w' h1 h2 h3 h4=>sR n h heq iN h1 h2 (by rw[a3];exact hr) h4 (λ a2 w2 k1 k2 k3=>hk a2 w2 k1 k2 (h3.trans k3)))
  ·cases h
structure RN(r:Option Nat)(P:Program)(N:Nat)(D:List Deferred)(F:HL)(w0:World)(R:HL)(s:Cfg)(Q:Exit -> Act -> World -> Prop):Prop where
 h:(∀y∈R,y∈F) -> ∀a w,Fm N D s.L a -> Rel (ap s.A s.Ts++F) w -> Below 0 w0 w -> Wf r P Q s.c s.k a w
def wl(P:Program)(n0 N n:Nat)(R:HL)(hints:List Hint)(s:Cfg):Option (Fo × List KI × FL × SS):=adv P n0 N n s.c s.k s.L ⟨s.A,R,hints,0,[],[],true⟩
def JS(P:Program)(n0 N n:Nat)(R:HL)(hints:List Hint)(s:Cfg):Cfg:=match wl P n0 N n R hints s with
 | some (c,k,L,ss)=>⟨c,k,L,ss.h,s.Ts⟩
 | none=>s
def JT(x:Option (Fo × List KI × FL × SS)):List Nat:=match x with
 | some (_,_,_,ss)=>ss.eq.map (·.2)
 | none=>[]
def JU(x:Option (Fo × List KI × FL × SS)):Option (List Nat × List Prop):=match x with
 | some (_,_,_,ss)=>match ss.hints with
  | []=>some (ss.eq.map (·.1),ss.ob)
  | _=>none
 | none=>none
theorem eJ(A:HL)(Ts:List HL)(F:HL):ap A Ts++F=A++(Ts.flatten++F):=aaC _ _ _
theorem av{A:HL}{Ts:List HL}{F:HL}{x:Nat × Blk}(i:Nat)(h:A[i]?=some x:=by kernel_rfl):x∈ap A Ts++F:=aaw _ (aaw _ (List.mem_of_getElem? h))
theorem fB{X A:HL}{Ts:List HL}{F:HL}{x:Nat × Blk}(i:Nat)(h:A[i]?=some x:=by kernel_rfl):x∈X++(ap A Ts++F):=aav _ (av i h)
theorem au{A:HL}{Ts:List HL}{F T:HL}(j:Nat)(h:Ts[j]?=some T:=by kernel_rfl):∀x∈T,x∈ap A Ts++F:=λ x hx =>
 aaw _ (aav _ (List.mem_flatten.2 ⟨T,List.mem_of_getElem? h,hx⟩))
theorem aK{X A:HL}{Ts:List HL}{F T:HL}(j:Nat)(h:Ts[j]?=some T:=by kernel_rfl):∀x∈T,x∈X++(ap A Ts++F):=λ x hx=>aav _ (au j h x hx)
theorem az{A:HL}{Ts:List HL}{F:HL}{x:Nat × Blk}(h:x∈F):x∈ap A Ts++F:=aav _ h
theorem zt{X A:HL}{Ts:List HL}{F:HL}{x:Nat × Blk}(h:x∈F):x∈X++(ap A Ts++F):=aav _ (aav _ h)
def ow(p n:Nat):List Hint:=List.replicate n (.own p)
def aab(n:Nat):List Hint:=List.replicate n (.own 0)
abbrev bx(n:Int):Prop:=-9223372036854775808 <= n /\ n <= 9223372036854775807
section
variable {r:Option Nat} {P:Program} {N:Nat} {D:List Deferred} {F:HL} {w0:World} {R:HL} {s:Cfg} {Q:Exit -> Act -> World -> Prop}
theorem qt(n:Nat)(hints:List Hint)(Ob:Nat -> List Prop)(iN:∀n0,AllP (Ob n0))(hk:∀n0,RN r P N D F w0 R (JS P n0 N n R hints s) Q)
  (h:∀n0,JU (wl P n0 N n R hints s)=some (JT (wl P n0 N n R hints s),Ob n0):=by intro n0;kernel_rfl):RN r P N D F w0 R s Q:=by
 refine⟨λ hR a w hF aT hB=>?_⟩;have h':=h w.heap.size;have Ua:=(hk w.heap.size).h hR;unfold JS at Ua;generalize hx:wl P w.heap.size N n R hints s=x at h' Ua;unfold JU at h';split at h'
 case h_2=>cases h'
 rename_i c k L ss;split at h'
 case h_2=>cases h'
 simp only[JT,Option.some.injEq,Prod.mk.injEq] at h';obtain⟨e1,e2⟩:=h';rw[eJ] at aT;refine sR n hx (fR e1 rfl) (by rw[e2];exact AllP.mem (iN _)) hF aT (λ y hy=>aav _ (hR y hy)) (λ _=>rfl) ?_;intro a' w' h1 h2 h3;exact Ua a' w' h1 (by rw[eJ];exact h2) (hB.trans h3)
theorem ae(n:Nat)(hints:List Hint)(hk:∀n0,RN r P N D F w0 R (JS P n0 N n R hints s) Q)
 (h:∀n0,JU (wl P n0 N n R hints s)=some (JT (wl P n0 N n R hints s),[]):=by intro n0;kernel_rfl):RN r P N D F w0 R s Q:=qt n hints (λ _=>[]) (λ _=>trivial) hk h
theorem aj(n:Nat)(hints:List Hint)(Ob:List Prop)(hk:∀n0,RN r P N D F w0 R (JS P n0 N n R hints s) Q)(iN:AllP Ob:=by simp only[AllP,bx,and_true,true_and] <;> (repeat' with_reducible refine And.intro ?_ ?_) <;> omega)
 (h:∀n0,JU (wl P n0 N n R hints s)=some (JT (wl P n0 N n R hints s),Ob):=by intro n0;kernel_rfl):RN r P N D F w0 R s Q:=qt n hints (λ _=>Ob) (λ _=>iN) hk h
def pK(t:Nat)(b:Bool)(s:Cfg):Cfg:=match s with
 | ⟨c,k,L,A,Ts⟩=>⟨c,k,(t,.bool b)::L,A,Ts⟩
theorem Fm.fix{a:Act}{L:FL}{t:Nat}{v:Value}(hF:Fm N D L a)(h:L.lookup t=some v):Fm N D ((t,v)::L) a:=⟨hF.size,hF.defs,λ t' v' h'=>by
 rw[List.lookup_cons] at h'
 by_cases e:t'=t
 ·subst e;simp at h';subst h';exact hF.has _ _ h
 ·have:(t' == t)=false:=by simpa using e
  rw[this] at h';exact hF.has _ _ h'⟩
theorem db{b v:Bool}(t:Nat)(hb:b=v)(hk:RN r P N D F w0 R (pK t v s) Q)(h:s.L.lookup t=some (.bool b):=by kernel_rfl):RN r P N D F w0 R s Q:=by
 subst hb;exact⟨λ hR a w h1 h2 h3=>hk.h hR a w (h1.fix h) h2 h3⟩
theorem RN.em(p:Prop)[Decidable p](t:Nat)(h1:p -> RN r P N D F w0 R (pK t true s) Q)(h2:¬ p -> RN r P N D F w0 R (pK t false s) Q)(h:s.L.lookup t=some (.bool (decide p)):=by kernel_rfl):RN r P N D F w0 R s Q:=by
 by_cases hp:p
 ·exact db t (acr hp) (h1 hp) h
 ·exact db t (aco hp) (h2 hp) h
theorem RN.en(p:Prop)[Decidable p](t:Nat)(h1:p -> RN r P N D F w0 R (pK t false s) Q)(h2:¬ p -> RN r P N D F w0 R (pK t true s) Q)(h:s.L.lookup t=some (.bool (!decide p)):=by kernel_rfl):RN r P N D F w0 R s Q:=by
 by_cases hp:p
 ·exact db t (by simp[hp]) (h1 hp) h
 ·exact db t (by simp[hp]) (h2 hp) h
theorem ij(b:Bool)(t:Nat)(h1:b=true -> RN r P N D F w0 R (pK t true s) Q)(h2:¬ b=true -> RN r P N D F w0 R (pK t false s) Q)(h:s.L.lookup t=some (.bool b):=by kernel_rfl):RN r P N D F w0 R s Q:=by
 by_cases hp:b=true
 ·exact db t hp (h1 hp) h
 ·exact db t (Bool.eq_false_iff.2 hp) (h2 hp) h
theorem qu(b:Bool)(t:Nat)(h1:b=true -> RN r P N D F w0 R (pK t false s) Q)(h2:¬ b=true -> RN r P N D F w0 R (pK t true s) Q)(h:s.L.lookup t=some (.bool (!b)):=by kernel_rfl):RN r P N D F w0 R s Q:=by
 by_cases hp:b=true
 ·exact db t (by simp[hp]) (h1 hp) h
 ·exact db t (by simp[hp]) (h2 hp) h
theorem nt{b:Bool}(h:b=true):(!b)=false:=by rw[h];rfl
theorem nf{b:Bool}(h:b=false):(!b)=true:=by rw[h];rfl
theorem Fm.sub{a:Act}{L:FL}:∀ {Lx:FL},Fm N D L a -> Lx.map (λ p=>L.lookup p.1)=Lx.map (λ p=>some p.2) -> Fm N D Lx a
 | [],hF,_=>⟨hF.size,hF.defs,λ t v h=>by cases h⟩
 | p::Lx,hF,h=>by
  simp only[List.map_cons,List.cons.injEq] at h;have ih:=Fm.sub hF h.2;refine⟨hF.size,hF.defs,λ t v h'=>?_⟩;rw[List.lookup_cons] at h'
  by_cases e:t=p.1
  ·subst e;simp at h';subst h';exact hF.has _ _ h.1
  ·have:(t == p.1)=false:=by simpa using e
   rw[this] at h';exact ih.has _ _ h'
theorem RN.ro{R':HL}(h:(∀y∈R,y∈F) -> ∀y∈R',y∈F)(hk:RN r P N D F w0 R' s Q):RN r P N D F w0 R s Q:=⟨λ hR=>hk.h (h hR)⟩
end
theorem dg{N:Nat}{dst:Option Tmp}{L:FL}(h:(eh N dst undef L).isSome=true)(v:Value):∃L',eh N dst v L=some L':=by
 cases dst with
 | none=>exact⟨L,rfl⟩
 | some t =>
  unfold eh at h ⊢;simp only at h ⊢;split at h
  ·exact⟨_,rfl⟩
  ·cases h
def Bt(P:Program)(n0 N:Nat)(R:HL)(s:Cfg):Option (Option Tmp × FuncId × Array Value × HL × List Nat × List Nat × List Prop):=match s.c with
 | .ops ops i=>nA P n0 N ops.toList i s.L s.A R []
 | _=>none
def kH(N:Nat)(s:Cfg)(x:Option (Option Tmp × FuncId × Array Value × HL × List Nat × List Nat × List Prop)):Option (FuncId × Array Value × List Prop × List Nat × HL):=match x with
 | some (dst,f,args,H,E,_,Ob)=>match (eh N dst undef s.L).isSome with
  | true=>some (f,args,Ob,E,H)
  | false=>none
 | none=>none
def dX(N:Nat)(v:Value)(s:Cfg):Cfg:=match s with
 | ⟨.ops ops i,k,L,A,Ts⟩=>match ops.toList[i]? with
  | some o=>match eh N o.dst v L with
   | some L'=>⟨.ops ops (i+1),k,L',A,Ts⟩
   | none=>⟨.ops ops i,k,L,A,Ts⟩
  | none=>⟨.ops ops i,k,L,A,Ts⟩
 | s=>s
theorem Fy{α:Type}(l:List α):(List.range l.length).filterMap (l[·]?)=l:=by
 induction l with
 | nil=>rfl
 | cons x l ih =>
  rw[abr,List.range_succ_eq_map,List.filterMap_cons];simp only[List.getElem?_cons_zero,List.filterMap_map];congr 1
def oth(ip:List Nat)(n:Nat):List Nat:=(List.range n).filter λ i=>!(ip.contains i)
def wm(A:HL -> HL)(Ts:List HL -> List HL)(s:Cfg):Cfg:=match s with
 | ⟨c,k,L,A',Uf⟩=>⟨c,k,L,A A',Ts Uf⟩
section
variable {r:Option Nat} {P:Program} {N:Nat} {D:List Deferred} {F:HL} {w0:World} {R:HL} {s:Cfg} {Q:Exit -> Act -> World -> Prop}
theorem pn{f:FuncId}{args:Array Value}{Hp Hr:HL}{Rv:Value -> HL -> Prop}
  (h:∀n0,kH N s (Bt P n0 N R s)=some (f,args,[],[],s.A)) (hp:(Hp++Hr).Perm (ap s.A s.Ts)) (hc:(∀y∈R,y∈F) -> Sp P f args Hp (Hr++F) Rv)
  (hk:(∀y∈R,y∈F) -> ∀v H',Rv v H' -> ∀a w,Fm N D (dX N v s).L a -> Rel ((H'++Hr)++F) w -> Below 0 w0 w -> Wf r P Q (dX N v s).c (dX N v s).k a w):RN r P N D F w0 R s Q:=by
 refine⟨λ hR a w hF aT hB=>?_⟩;have h1:=h w.heap.size;obtain⟨c,k,L,A,Ts⟩:=s;unfold Bt at h1;simp only at h1 hF aT hp;cases c with
 | code c=>simp[kH] at h1
 | ex e=>simp[kH] at h1
 | drw _ _=>simp[kH] at h1
 | ops ops i =>
  simp only at h1;generalize hx:nA P w.heap.size N ops.toList i L A R []=x at h1;unfold kH at h1;split at h1
  case h_2=>cases h1
  rename_i dst f' j_ H1 E E' Ob';split at h1
  case h_2=>cases h1
  rename_i Un;simp only[Option.some.injEq,Prod.mk.injEq] at h1;obtain⟨e1,e2,e3,e4,e5⟩:=h1;subst e1;subst e2;subst e3;subst e4;subst e5;obtain⟨o,s1,s',ho,hw,g_,Uc,hd,hh,g1,g2,g3⟩:=iL hx;have oR:ops.toList.drop i=o::ops.toList.drop (i+1):=by
   have iF:i<ops.toList.length:=(List.getElem?_eq_some_iff.1 ho).1;rw[List.drop_eq_getElem_cons iF,(List.getElem?_eq_some_iff.1 ho).2]
  show wpListIn _ _ _ _ _ _ _ _;rw[oR,wpListIn];obtain⟨d1,d2,d3,d4⟩:=dG Uc;obtain⟨a1,a2,a3,a4⟩:=bL hw;have RW:∀p∈s'.ob,p:=by rw[g3];intro p hp;cases hp
  have YT:∀p∈s'.eq,p.1=p.2:=by
   have:s'.eq=[]:=by simpa using g1
   rw[this];intro p hp;cases hp
  obtain⟨c1,c2,c3⟩:=cz hw hF (λ p hp=>RW p (d2 p hp));rw[eJ] at aT;obtain⟨w1,r1,r2,r3,r4,-⟩:=gG (w:=w) (F:=Ts.flatten++F) Uc YT RW (by rw[c2];exact aT) (by rw[a3];exact λ y hy=>aav _ (hR y hy)) (λ _=>by rw[c3];rfl);rw[if_pos c1];refine⟨λ _ _=>trivial,?_⟩;rw[hF.sem g_,r1,Oper.uponIn_enter];refine⟨λ h=>(by cases h),?_⟩;rw[hh,<- eJ] at r2;have r2':Rel (Hp++(Hr++F)) w1:=by rw[<- aaC];exact r2.perm (hp.append_right F)
  refine jI ((hc hR w1 r2').mono ?_);rintro e w2 ⟨v,H',rfl,hv,SB,Uy⟩;have hh2:=hk hR v H' hv;obtain⟨L',hl⟩:=dg Un v;have Ru:dX N v ⟨.ops ops i,k,L,H1,Ts⟩=⟨.ops ops (i+1),k,L',H1,Ts⟩:=by
   unfold dX;simp only[ho,hd,hl]
  rw[Ru] at hh2;rw[hd];exact hh2 _ w2 (hF.put hl) (by rw[aaC];exact SB) (hB.trans (r3.trans Uy))
theorem pX{N:Nat}{v:Value}{s:Cfg}:(dX N v s).A=s.A /\ (dX N v s).Ts=s.Ts:=by
 unfold dX;split
 ·split
  ·split <;> exact⟨rfl,rfl⟩
  ·exact⟨rfl,rfl⟩
 ·exact⟨rfl,rfl⟩
theorem RN.cp{f:FuncId}{args:Array Value}{v:Value}(hc:Sp P f args [] (ap s.A s.Ts++F) (λ u H'=>u=v /\ H'=[]))(hk:RN r P N D F w0 R (dX N v s) Q)
  (h:∀n0,kH N s (Bt P n0 N R s)=some (f,args,[],[],s.A):=by intro n0;kernel_rfl):RN r P N D F w0 R s Q:=by
 refine pn (Hp:=[]) (Hr:=ap s.A s.Ts) h (List.Perm.refl _) (λ _=>hc) ?_;rintro hR u H' ⟨rfl,rfl⟩ a w h1 h2 h3;exact hk.h hR a w h1 (by rw[pX.1,pX.2];exact h2) h3
def fd(ip:List Nat)(s:Cfg):HL:=(oth ip s.A.length).filterMap (s.A[·]?)
def fP(jp:List Nat)(s:Cfg):List HL:=(oth jp s.Ts.length).filterMap (s.Ts[·]?)
def OA(N:Nat)(ip jp:List Nat)(Hq:HL)(Tq:List HL)(v:Value)(s:Cfg):Cfg:=wm (λ A=>Hq++(oth ip A.length).filterMap (A[·]?)) (λ Ts=>Tq++(oth jp Ts.length).filterMap (Ts[·]?)) (dX N v s)
theorem pY{A:HL -> HL}{Ts:List HL -> List HL}{s:Cfg}:(wm A Ts s).A=A s.A /\ (wm A Ts s).Ts=Ts s.Ts /\ (wm A Ts s).L=s.L /\ (wm A Ts s).c=s.c /\ (wm A Ts s).k=s.k:=⟨rfl,rfl,rfl,rfl,rfl⟩
def b9(ip jp:List Nat)(s:Cfg):Bool:=(ip++oth ip s.A.length).isPerm (List.range s.A.length) && (jp++oth jp s.Ts.length).isPerm (List.range s.Ts.length)
def picks(ip jp:List Nat)(s:Cfg):HL × List HL:=(ip.filterMap (s.A[·]?),jp.filterMap (s.Ts[·]?))
theorem RN.ct{τ:Type}(ip jp:List Nat){f:FuncId}{args:Array Value}{Hp:HL}{Tp:List HL}{Hq:τ -> HL}{Tq:τ -> List HL}{Rv:Value -> τ -> Prop}
  (hc:Sp P f args (ap Hp Tp) (ap (fd ip s) (fP jp s)++F) (λ v H'=>∃x,H'=ap (Hq x) (Tq x) /\ Rv v x)) (hk:∀v x,Rv v x -> RN r P N D F w0 R (OA N ip jp (Hq x) (Tq x) v s) Q)
  (h:∀n0,kH N s (Bt P n0 N R s)=some (f,args,[],[],s.A):=by intro n0;kernel_rfl)
  (hp:b9 ip jp s=true:=by kernel_rfl) (hH:picks ip jp s=(Hp,Tp):=by kernel_rfl):RN r P N D F w0 R s Q:=by
 unfold b9 at hp;unfold picks at hH;rw[ab1] at hp;simp only[Prod.mk.injEq] at hH;obtain⟨e1,e2⟩:=hH;refine pn (Hp:=ap Hp Tp) (Hr:=ap (fd ip s) (fP jp s)) h ?_ (λ _=>hc) ?_
 ·have h1:=lI s.A s.Ts ip (oth ip s.A.length) jp (oth jp s.Ts.length) hp.1 hp.2;rw[e1,e2] at h1;exact h1
 ·rintro hR v H' ⟨x,rfl,hv⟩ a w h1 h2 h3;refine(hk v x hv).h hR a w h1 ?_ h3;unfold OA;rw[pY.1,pY.2.1,pX.1,pX.2];refine h2.perm ?_;rw[aaC (ap (Hq x) (Tq x))];exact(uu _ _ _ _ _).symm
theorem Sp.run{f:FuncId}{fn:Func}{c:Code}{args:Array Value}{H:HL}{R':Value -> HL -> Prop}(hf:P.funcs[f]?=some fn)(hb:fn.body=some c)(hR:∀y∈R,y∈F){A:HL}{Ts:List HL}(hH:H=ap A Ts)
  (h:∀w0,RN none P fn.ntmps [] F w0 R ⟨.code c,[],qp 0 args.toList,A,Ts⟩ (bodyPost P fn (Bp F w0 R'))) (ha:decide (args.size <= fn.ntmps)=true:=by kernel_rfl):Sp P f args H F R':=by
 subst hH;exact zk hf hb rfl ha _ rfl λ w0=>(h w0).h hR
theorem iT{r:Option Nat}{P:Program}{a:Act}{w:World}:∀ (k:List KI) {Q:Exit -> Act -> World -> Prop},Q .ret a w -> kY r P k Q .ret a w
 | [],_,h=>h
 | .thn _::k,_,h=>iT k h
 | .blk _::k,_,h=>iT k h
 | .scp::k,_,h=>iT k h
 | .met _::k,_,h=>iT k h
 | .rnd _ _::k,_,h=>iT k h
def mN(s:Cfg):Bool:=match s.c,s.k with
 | .code .ret,_=>true
 | .ex .normal,[]=>true
 | _,_=>false
theorem ox(h:mN s=true){a:Act}{w:World}(h1:Q .ret a w)(h2:Q .normal a w):Wf r P Q s.c s.k a w:=by
 obtain⟨c,k,L,A,Ts⟩:=s;unfold mN at h;split at h
 ·rename_i h0;simp only at h0;subst h0;exact wpIn_ret (iT k h1)
 ·rename_i h0 h3;simp only at h0 h3;subst h0;subst h3;exact h2
 ·cases h
def nD(x:Option (Value × List Nat × List Nat × List Prop)):List Nat:=match x with
 | some (_,E,_,_)=>E
 | none=>[]
def jK(P:Program)(n0:Nat)(rs:List ResultVar)(R:HL)(hints:List Hint)(s:Cfg):Option (Value × List Nat × List Nat × List Prop):=zl P n0 s.L rs (ap s.A s.Ts) R hints
theorem JV{fn:Func}{R':Value -> HL -> Prop}(hints:List Hint)(Ob:List Prop)(iN:AllP Ob)(ip jp:List Nat){v:Value}{H':HL}(hv:R' v H')
  (hc:mN s=true:=by kernel_rfl) (h:∀n0,jK P n0 fn.results.toList R hints s=some (v,nD (jK P n0 fn.results.toList R hints s),nD (jK P n0 fn.results.toList R hints s),Ob):=by intro n0;kernel_rfl)
  (hp:b9 ip jp s=true:=by kernel_rfl) (hH:ap (picks ip jp s).1 (picks ip jp s).2=H':=by kernel_rfl):RN r P N [] F w0 R s (bodyPost P fn (Bp F w0 R')):=by
 unfold b9 at hp;unfold picks at hH;refine⟨λ hR a w hF aT hB=>?_⟩;rw[ab1] at hp;have h':=h w.heap.size;unfold jK zl at h';split at h'
 case h_2=>cases h'
 rename_i vs ss hs;split at h'
 case h_2=>cases h'
 simp only[nD,Option.some.injEq,Prod.mk.injEq] at h';obtain⟨e1,-,e3,e4⟩:=h';have iD:=jJ (P:=P) hF aT fn.results.toList _ _ _ hs rfl rfl hR (λ e=>by cases e) (fR rfl e3) (by rw[e4];exact AllP.mem iN);have hh:a.defers=[] /\ ∃v' ,(results fn a.tmps).run P w=.ok v' w /\ Bp F w0 R' (.returned v') w:=by
  subst e1;exact⟨hF.defs,_,jl (by simp) iD,_,H',rfl,hv,aT.takeT ip _ jp _ hp.1 hp.2 hH,hB⟩
 obtain⟨q1,v',q2,q3⟩:=hh;exact ox hc ⟨q1,v',q2,q3⟩ ⟨q1,v',q2,q3⟩
theorem RN.ret{fn:Func}{R':Value -> HL -> Prop}(hints:List Hint)(ip jp:List Nat){v:Value}{H':HL}(hv:R' v H')
 (hc:mN s=true:=by kernel_rfl) (h:∀n0,jK P n0 fn.results.toList R hints s=some (v,nD (jK P n0 fn.results.toList R hints s),nD (jK P n0 fn.results.toList R hints s),[]):=by intro n0;kernel_rfl)
 (hp:b9 ip jp s=true:=by kernel_rfl) (hH:ap (picks ip jp s).1 (picks ip jp s).2=H':=by kernel_rfl):RN r P N [] F w0 R s (bodyPost P fn (Bp F w0 R')):=JV hints [] trivial ip jp hv hc h hp hH
structure Inv where
 L:FL
 A:HL
 Ts:List HL
 I:Prop
 m:Nat
def OB(K:Act -> World -> Prop)(V:Inv)(s:Cfg):Cfg:=match s with
 | ⟨.code (.loop c),k,_,_,_⟩=>⟨.code c,.met K::k,V.L,V.A,V.Ts⟩
 | s=>s
def uy(s:Cfg):Bool:=match s.c with
 | .code (.loop _)=>true
 | _=>false
def MV{σ:Type}(N:Nat)(D:List Deferred)(F:HL)(w0:World)(V:σ -> Inv)(I:σ -> Prop):Act -> World -> Prop:=My N D F w0 (λ x=>(V x).L) (λ x=>ap (V x).A (V x).Ts) I
def CY(s:Cfg):Option (Act -> World -> Prop):=match s.c,s.k with
 | .ex .normal,.met K::_=>some K
 | _,_=>none
def uz(V:Inv)(ip jp:List Nat)(s:Cfg):List (Option Value) × HL × List HL:=(V.L.map λ p=>s.L.lookup p.1,ip.filterMap (s.A[·]?),jp.filterMap (s.Ts[·]?))
def nE(V:Inv):List (Option Value) × HL × List HL:=(V.L.map λ p=>some p.2,V.A,V.Ts)
theorem qx{V:Inv}{ip jp:List Nat}{a:Act}{w:World}(h:uz V ip jp s=nE V)(hp:b9 ip jp s=true)(h1:Fm N D s.L a)(h2:Rel (ap s.A s.Ts++F) w):Fm N D V.L a /\ Rel (ap V.A V.Ts++F) w:=by
 unfold uz nE at h;unfold b9 at hp;rw[ab1] at hp;simp only[Prod.mk.injEq] at h;exact⟨h1.sub h.1,h2.takeT ip _ jp _ hp.1 hp.2 (by rw[h.2.1,h.2.2])⟩
theorem pZ{σ:Type}{V:σ -> Inv}{I:σ -> Prop}(x:σ)(ip jp:List Nat)(hi:I x)(hm:CY s=some (MV N D F w0 V I):=by kernel_rfl)(h:uz (V x) ip jp s=nE (V x):=by kernel_rfl)(hp:b9 ip jp s=true:=by kernel_rfl):RN r P N D F w0 R s Q:=by
 refine⟨λ hR a w h1 h2 h3=>?_⟩;obtain⟨k1,k2⟩:=qx h hp h1 h2;obtain⟨c,k,L,A,Ts⟩:=s;unfold CY at hm;split at hm
 case h_2=>cases hm
 rename_i K k' e1 e2;simp only at e1 e2;subst e1;subst e2;simp only[Option.some.injEq] at hm;subst hm;exact⟨x,hi,k1,k2,h3⟩
theorem Fz{σ:Type}{L:FL}{H:HL}(Lx:σ -> FL)(Hx:σ -> HL)(I:σ -> Prop)(μ:σ -> Nat){c:Code}(round:∀x,I x -> TR r P N D F w0 (Lx x) (Hx x) c (Exit.then (My N D F w0 Lx Hx (λ x'=>I x' /\ μ x'<μ x)) Q))(x0:σ)(hi:I x0):TR r P N D F w0 (Lx x0) (Hx x0) (.loop c) Q:=by
 intro a w h1 h2 h3;have key:∀n x,μ x <= n -> I x -> ∀a w,Fm N D (Lx x) a -> Rel (Hx x++F) w -> Below 0 w0 w -> ∀ (b:Frame) (k:List Item) (cs:List Frame),b.roundOf=(Wr r).round -> (Wr r).fn b.fn -> (Wr r).room (cs.length+1+0) -> ∃e a' w',Q e a' w' /\ ArrivesIn (Machine.fenced P (Wr r)) P (lone (b.atR a (.code c :: .inLoop c::k)) cs w) b k cs e a' w':=by
  intro n
  induction n using Nat.strongRecOn with
  | _ n ih =>
   intro x hn hI a w k1 k2 k3 b k cs RU hb hr;obtain⟨e,a₁,w₁,hq,o_⟩:=round x hI a w k1 k2 k3 b (.inLoop c::k) cs RU hb hr;cases e with
   | normal =>
    obtain⟨x',⟨hI',iF⟩,m1,m2,m3⟩:=hq;obtain⟨e₂,a₂,w₂,TI,RP⟩:=ih (μ x') (by omega) x' (aa0 _) hI' a₁ w₁ m1 m2 m3 b k cs RU hb hr;exact⟨e₂,a₂,w₂,TI,.of_steps (StepsIn.trans o_ (.one (fenced_calm hb hr rfl) stepR_inLoop)) RP⟩
   | exit id=>exact⟨_,a₁,w₁,hq,.pass (x:=.inLoop c) rfl (λ _ _=>.inl (by simp)) o_⟩
   | goto l=>exact⟨_,a₁,w₁,hq,.pass (x:=.inLoop c) rfl (λ _ _=>.inl (by simp)) o_⟩
   | ret=>exact⟨_,a₁,w₁,hq,.pass (x:=.inLoop c) rfl (λ _ _=>.inl (by simp)) o_⟩
   | panic ch=>exact⟨_,a₁,w₁,hq,.pass (x:=.inLoop c) rfl (λ _ _=>.inl (by simp)) o_⟩
   | outgrown=>exact⟨_,a₁,w₁,hq,.pass (x:=.inLoop c) rfl (λ _ _=>.inl (by simp)) o_⟩
 intro b k cs RU hb hr;obtain⟨e,a',w',hq,o_⟩:=key _ x0 (aa0 _) hi a w h1 h2 h3 b k cs RU hb hr;exact⟨e,a',w',hq,.of_steps (.one (fenced_calm hb hr rfl) stepR_loop) o_⟩
theorem RN.loop{σ:Type}(V:σ -> Inv)(x0:σ)(ip jp:List Nat)(hi:(V x0).I)
  (round:∀x,(V x).I -> (∀ {s':Cfg} {R':HL} (x':σ) (ip jp:List Nat),(V x').I /\ (V x').m<(V x).m -> (hm:CY s'=some (MV N D F w0 V (λ x'=>(V x').I /\ (V x').m<(V x).m)):=by kernel_rfl) -> (h:uz (V x') ip jp s'=nE (V x'):=by kernel_rfl) -> (hp:b9 ip jp s'=true:=by kernel_rfl) -> RN r P N D F w0 R' s' Q) ->
   RN r P N D F w0 R (OB (MV N D F w0 V (λ x'=>(V x').I /\ (V x').m<(V x).m)) (V x) s) Q)
  (hc:uy s=true:=by kernel_rfl) (h:uz (V x0) ip jp s=nE (V x0):=by kernel_rfl) (hp:b9 ip jp s=true:=by kernel_rfl):RN r P N D F w0 R s Q:=by
 refine⟨λ hR a w h1 h2 h3=>?_⟩;obtain⟨k1,k2⟩:=qx h hp h1 h2;obtain⟨c,k,L,A,Ts⟩:=s;unfold uy at hc;split at hc
 case h_2=>cases hc
 rename_i c' e1;simp only at e1;subst e1;exact Fz (L:=L) (H:=A) (λ x=>(V x).L) (λ x=>ap (V x).A (V x).Ts) (λ x=>(V x).I) (λ x=>(V x).m) (λ x hx=>(round x hx (λ x' ip jp hi hm h hp=>pZ x' ip jp hi hm h hp)).h hR) x0 hi a w k1 k2 h3
def Qs(n:Nat)(s:Cfg):Cfg:=match s with
 | ⟨.code (.loop c),k,L,A,Ts⟩=>⟨.code c,.rnd c n::k,L,A,Ts⟩
 | s=>s
theorem CZ{c:Code}{n:Nat}:∀a w,ux none P c Q n a w -> Code.rounds P c Q n a w:=by
 induction n with
 | zero=>exact λ _ _ h=>h
 | succ n ih =>
  intro a w h;refine(wpIn_wide (n:=0)).1 (wpIn_mono h λ e a w q=>?_);cases e <;> first|exact ih a w q|exact q
theorem RN.rounds(n:Nat)(hk:RN none P N D F w0 R (Qs n s) Q)(hc:uy s=true:=by kernel_rfl):RN none P N D F w0 R s Q:=by
 refine⟨λ hR a w h1 h2 h3=>?_⟩;obtain⟨c,k,L,A,Ts⟩:=s;unfold uy at hc;split at hc
 case h_2=>cases hc
 rename_i c' e1;simp only at e1;subst e1;exact(wpIn_wide (n:=0)).2 (wp_loop_rounds (n+1) (CZ (n:=n+1) a w (hk.h hR a w h1 h2 h3)))
end
def nF(s:Cfg):Array Oper:=match s.c with
 | .drw ops _=>ops
 | _=>#[]
def gY(s:Cfg):List Bool:=match s.c with
 | .drw _ l=>l
 | _=>[]
def fy:List Bool -> Nat
 | []=>0
 | true::l=>fy l
 | false::l=>fy l+1
theorem C0(n:Nat):fy (List.replicate n false)=n:=by
 induction n with
 | zero=>rfl
 | succ n ih=>rw[List.replicate_succ,fy,ih]
def OC(s:Cfg):Cfg:=match s with
 | ⟨.code (.region _ ops true),k,L,A,Ts⟩=>⟨.drw ops (List.replicate ops.toList.length false),k,L,A,Ts⟩
 | s=>s
def LO(s:Cfg):Bool:=match s.c with
 | .code (.region _ ops true)=>Region.noSelect ops && pV ops
 | _=>false
structure RD(r:Option Nat)(P:Program)(N:Nat)(D:List Deferred)(F:HL)(w0:World)(R:HL)(hards:List Nat)(Rd:HL)(s:Cfg)(Q:Exit -> Act -> World -> Prop):Prop where
 h:(∀y∈R,y∈F) -> Region.noSelect (nF s)=true -> TD P N D F w0 (nF s) hards Rd (fy (gY s)) (gY s) s.L (ap s.A s.Ts) (NoPanic (kY r P s.k Q))
section
variable {r:Option Nat} {P:Program} {N:Nat} {D:List Deferred} {F:HL} {w0:World} {R:HL} {s:Cfg} {Q:Exit -> Act -> World -> Prop} {hards:List Nat} {Rd:HL}
def zu(ix:List Nat)(s:Cfg):HL:=ix.filterMap (s.A[·]?)
theorem RN.draw(hards ix:List Nat)(hk:RD r P N D F w0 R hards (zu ix s) (OC s) Q)(hm:P.follows .mixedOrders=true:=by kernel_rfl)(hc:LO s=true:=by kernel_rfl):RN r P N D F w0 R s Q:=by
 refine⟨λ hR=>?_⟩;obtain⟨c,k,L,A,Ts⟩:=s;unfold LO at hc;split at hc
 case h_2=>cases hc
 rename_i id ops e;simp only at e;subst e;rw[ab1] at hc;have h1:=hk.h hR hc.1;exact TR.draw hards _ hm hc.1 hc.2 (by
  simp only[OC,gY,nF,C0] at h1;have e:ops.toList.length=ops.size:=by simp
  rw[e] at h1 ⊢;exact h1)
def Qt(s:Cfg):Cfg:=match s with
 | ⟨.drw _ _,k,L,A,Ts⟩=>⟨.ex .normal,k,L,A,Ts⟩
 | s=>s
def C1(s:Cfg):Bool:=match s.c with
 | .drw ops l=>(jA ops.toList l).isEmpty
 | _=>false
theorem RD.fin(hk:RN r P N D F w0 R (Qt s) Q)(hc:C1 s=true:=by kernel_rfl):RD r P N D F w0 R hards Rd s Q:=by
 refine⟨λ hR _=>?_⟩;obtain⟨c,k,L,A,Ts⟩:=s;unfold C1 at hc;split at hc
 case h_2=>cases hc
 rename_i ops l e;simp only at e;subst e;exact TD.fin (List.isEmpty_iff.1 hc) (Oy (λ a w h1 h2 h3=>hk.h hR a w h1 h2 h3))
def FB(P:Program)(N:Nat)(R:HL)(hards:List Nat)(Rd:HL)(is:List Nat)(hints:List Hint)(s:Cfg):Option (List Bool × FL × SS):=match s.c with
 | .drw ops l=>sf P 0 N ops.toList hards Rd is l s.L ⟨ap s.A s.Ts,R,hints,0,[],[],false⟩
 | _=>none
def P9(P:Program)(N:Nat)(R:HL)(hards:List Nat)(Rd:HL)(is:List Nat)(hints:List Hint)(s:Cfg):Cfg:=match FB P N R hards Rd is hints s with
 | some (b,L',_)=>match s with
  | ⟨.drw ops _,k,_,A,Ts⟩=>⟨.drw ops b,k,L',A,Ts⟩
  | s=>s
 | none=>s
def Qa(x:Option (List Bool × FL × SS)):List Nat:=match x with
 | some (_,_,ss)=>ss.eq.map (·.2)
 | none=>[]
def MA(n:Nat)(x:Option (List Bool × FL × SS)):Option (Nat × List Nat × List Prop):=match x with
 | some (b,_,ss)=>match ss.hints with
  | []=>some (fy b+n,ss.eq.map (·.1),ss.ob)
  | _=>none
 | none=>none
theorem FC(ix is:List Nat)(hints:List Hint)(Ob:List Prop)(iN:AllP Ob)(hk:RD r P N D F w0 R hards Rd (P9 P N R hards Rd is hints s) Q)
  (h:MA is.length (FB P N R hards Rd is hints s)=some (fy (gY s),Qa (FB P N R hards Rd is hints s),Ob):=by kernel_rfl) (YQ:zu ix s=Rd:=by kernel_rfl):RD r P N D F w0 R hards Rd s Q:=by
 refine⟨λ hR hs=>?_⟩;obtain⟨c,k,L,A,Ts⟩:=s;cases c with
 | drw ops l =>
  simp only[nF,gY] at hs ⊢;unfold P9 at hk;generalize hx:FB P N R hards Rd is hints ⟨.drw ops l,k,L,A,Ts⟩=x at h hk;unfold MA at h;split at h
  case h_2=>cases h
  rename_i b L' ss;split at h
  case h_2=>cases h
  simp only[Qa,gY,Option.some.injEq,Prod.mk.injEq] at h;obtain⟨e1,e2,e3⟩:=h;rw[<- e1];refine jm (Rr:=R) hs (λ x hx=>aaw _ (sO ix YQ x hx)) hR is l b L L' _ ss hx rfl rfl rfl (fR e2 rfl) (by rw[e3];exact AllP.mem iN) ?_;exact hk.h hR hs
 | code c=>simp[FB,MA] at h
 | ops ops i=>simp[FB,MA] at h
 | ex e=>simp[FB,MA] at h
theorem ag(ix is:List Nat)(hints:List Hint)(hk:RD r P N D F w0 R hards Rd (P9 P N R hards Rd is hints s) Q)
 (h:MA is.length (FB P N R hards Rd is hints s)=some (fy (gY s),Qa (FB P N R hards Rd is hints s),[]):=by kernel_rfl) (YQ:zu ix s=Rd:=by kernel_rfl):RD r P N D F w0 R hards Rd s Q:=FC ix is hints [] trivial hk h YQ
theorem aD(ix is:List Nat)(hints:List Hint)(Ob:List Prop)(hk:RD r P N D F w0 R hards Rd (P9 P N R hards Rd is hints s) Q)(iN:AllP Ob:=by simp only[AllP,bx,and_true,true_and] <;> (repeat' with_reducible refine And.intro ?_ ?_) <;> omega)
 (h:MA is.length (FB P N R hards Rd is hints s)=some (fy (gY s),Qa (FB P N R hards Rd is hints s),Ob):=by kernel_rfl) (YQ:zu ix s=Rd:=by kernel_rfl):RD r P N D F w0 R hards Rd s Q:=FC ix is hints Ob iN hk h YQ
theorem LP{b v:Bool}(t:Nat)(hb:b=v)(hk:RD r P N D F w0 R hards Rd (pK t v s) Q)(h:s.L.lookup t=some (.bool b):=by kernel_rfl):RD r P N D F w0 R hards Rd s Q:=by
 subst hb;exact⟨λ hR hs Of a hF=>hk.h hR hs Of a (hF.fix h)⟩
theorem RD.em(p:Prop)[Decidable p](t:Nat)(h1:p -> RD r P N D F w0 R hards Rd (pK t true s) Q)(h2:¬ p -> RD r P N D F w0 R hards Rd (pK t false s) Q)(h:s.L.lookup t=some (.bool (decide p)):=by kernel_rfl):RD r P N D F w0 R hards Rd s Q:=by
 by_cases hp:p
 ·exact LP t (acr hp) (h1 hp) h
 ·exact LP t (aco hp) (h2 hp) h
theorem RD.ro{R':HL}(h:(∀y∈R,y∈F) -> ∀y∈R',y∈F)(hk:RD r P N D F w0 R' hards Rd s Q):RD r P N D F w0 R hards Rd s Q:=⟨λ hR=>hk.h (h hR)⟩
def MB(P:Program)(N:Nat)(R:HL)(i:Nat)(s:Cfg):Option (Option Tmp × FuncId × Array Value × List Nat × List Prop):=match s.c with
 | .drw ops _=>match ops.toList[i]? with
  | none=>none
  | some o=>match jk ops.toList o s.L ⟨ap s.A s.Ts,R,[],0,[],[],false⟩ with
   | some (true,ss)=>match iJ o.op s.L with
    | true=>match ev P 0 o (fA s.L) ss with
     | some (.enter f args,s')=>match s'.hints with
      | []=>some (o.dst,f,args,s'.eq.map (·.1),s'.ob)
      | _=>none
     | _=>none
    | false=>none
   | _=>none
 | _=>none
def OD(N:Nat)(hards:List Nat)(i:Nat)(s:Cfg)(x:Option (Option Tmp × FuncId × Array Value × List Nat × List Prop)):Option (FuncId × Array Value × List Nat × List Prop × Nat):=match x with
 | some (dst,f,args,E,Ob)=>match (eh N dst undef s.L).isSome,Om (nF s).toList hards (gY s) i with
  | true,true=>some (f,args,E,Ob,fy (bn (gY s) i true)+1)
  | _,_=>none
 | none=>none
def vX(N i:Nat)(v:Value)(s:Cfg):Cfg:=match s with
 | ⟨.drw ops l,k,L,A,Ts⟩=>match ops.toList[i]? with
  | some o=>match eh N o.dst v L with
   | some L'=>⟨.drw ops (bn l i true),k,L',A,Ts⟩
   | none=>⟨.drw ops l,k,L,A,Ts⟩
  | none=>⟨.drw ops l,k,L,A,Ts⟩
 | s=>s
theorem RD.cp(ix:List Nat)(i:Nat){f:FuncId}{args:Array Value}{v:Value}(hc:∀X,Sp P f args [] (X++(ap s.A s.Ts++F)) (λ u H'=>u=v /\ H'=[]))(hk:RD r P N D F w0 R hards Rd (vX N i v s) Q)
  (h:OD N hards i s (MB P N R i s)=some (f,args,[],[],fy (gY s)):=by kernel_rfl) (YQ:zu ix s=Rd:=by kernel_rfl):RD r P N D F w0 R hards Rd s Q:=by
 refine⟨λ hR hs=>?_⟩;obtain⟨c,k,L,A,Ts⟩:=s;cases c with
 | drw ops l =>
  simp only[nF,gY] at hs ⊢ h;generalize hx:MB P N R i ⟨.drw ops l,k,L,A,Ts⟩=x at h;unfold OD at h;split at h
  case h_2=>cases h
  rename_i dst f' j_ E Ob;split at h
  case h_2=>cases h
  rename_i Un g_;simp only[nF,gY,Option.some.injEq,Prod.mk.injEq] at h g_;obtain⟨e1,e2,e3,e4,e5⟩:=h;subst e1;subst e2;subst e3;subst e4;obtain⟨L',hl⟩:=dg Un v;have UF:=hx;unfold MB at UF;simp only at UF;have ho:∃o,ops.toList[i]?=some o /\ o.dst=dst:=by
   split at UF
   ·cases UF
   rename_i o ho;split at UF
   case h_2=>cases UF
   split at UF
   case h_2=>cases UF
   split at UF
   case h_2=>cases UF
   split at UF
   case h_2=>cases UF
   simp only[Option.some.injEq,Prod.mk.injEq] at UF;exact⟨o,ho,UF.1⟩
  obtain⟨o,ho,hd⟩:=ho;have Ru:vX N i v ⟨.drw ops l,k,L,A,Ts⟩=⟨.drw ops (bn l i true),k,L',A,Ts⟩:=by
   unfold vX;simp only[ho,hd,hl]
  rw[Ru] at hk;subst hd;show TD P N D F w0 ops hards Rd (fy l) l L (ap A Ts) (NoPanic (kY r P k Q));rw[<- e5];refine Bq (v:=v) (L1:=L') hs (by unfold Om at g_;unfold Ox;simp only[ab1] at g_ ⊢;exact g_.1) (by simpa using ho) (λ a hF=>hF.put hl) (λ a hF=>?_) (λ x hx=>aaw _ (sO ix YQ x hx)) (.inl g_) (hk.h hR hs);unfold MB at hx;simp only[ho] at hx;split at hx
  case h_2=>cases hx
  rename_i ss TW;split at hx
  case h_2=>cases hx
  rename_i aez;split at hx
  case h_2=>cases hx
  rename_i f2 air s2 he;split at hx
  case h_2=>cases hx
  simp only[Option.some.injEq,Prod.mk.injEq] at hx;obtain⟨-,e2,e3,e4,e5⟩:=hx;subst e2;subst e3;obtain⟨a1,a2,a3,a4⟩:=bL TW;obtain⟨d1,d2,d3,d4⟩:=dG he;have RW:∀p∈s2.ob,p:=by rw[e5];intro p hp;cases hp
  have YT:∀p∈s2.eq,p.1=p.2:=by
   have:s2.eq=[]:=by simpa using e4
   rw[this];intro p hp;cases hp
  obtain⟨c1,c2,c3⟩:=cz TW hF (λ p hp=>RW p (d2 p hp));refine .inl ⟨c1,λ X w aT hB=>?_⟩;have RS:Rel (ap A Ts++(X++F)) w:=aT.perm (by
   rw[<- aaC,<- aaC];exact abO F abL)
  obtain⟨w1,r1,r2,r3,r4,r5⟩:=gG (w:=w) (F:=X++F) he YT RW (by rw[c2];exact RS) (by rw[a3];exact λ y hy=>aav _ (hR y hy)) (λ e=>by rw[a4] at e;cases e);obtain rfl:=r5 a4;unfold dt;rw[hF.exec aez,r1];refine(hc X w1 (by simpa using aT)).mono ?_;rintro e w2 ⟨u,H',rfl,⟨rfl,rfl⟩,h3,h4⟩;exact⟨rfl,by simpa using h3,hB.trans h4⟩
 | code c=>simp[MB,OD] at h
 | ops ops i=>simp[MB,OD] at h
 | ex e=>simp[MB,OD] at h
structure RDO(r:Option Nat)(P:Program)(N:Nat)(D:List Deferred)(F:HL)(w0:World)(R:HL)(hards:List Nat)(Rd:HL)(i:Nat)(s:Cfg)(Q:Exit -> Act -> World -> Prop):Prop where
 h:(∀y∈R,y∈F) -> Region.noSelect (nF s)=true -> ∀a,Fm N D s.L a -> Closed (nF s) ⟨bn (gY s) i true⟩ -> OPJ P (nF s) F w0 hards Rd i a (ap s.A s.Ts) (JJ P (nF s) (NoPanic (kY r P s.k Q)) F w0 hards Rd (fy (bn (gY s) i true)) ⟨bn (gY s) i true⟩)
def OE(s:Cfg):List Nat:=jA (nF s).toList (gY s)
def Qb(i:Nat)(s:Cfg):Nat:=fy (bn (gY s) i true)+1
theorem RD.one(i:Nat)(hk:RDO r P N D F w0 R hards Rd i s Q)(h:(OE s,fy (gY s))=([i],Qb i s):=by kernel_rfl):RD r P N D F w0 R hards Rd s Q:=by
 refine⟨λ hR hs=>?_⟩;simp only[Prod.mk.injEq] at h;exact TD.one i h.1 _ h.2 λ a hF Of=>hk.h hR hs a hF Of
theorem ge(i j:Nat)(h1:RDO r P N D F w0 R hards Rd i s Q)(h2:RDO r P N D F w0 R hards Rd j s Q)(h:(OE s,fy (gY s),fy (gY s))=([i,j],Qb i s,Qb j s):=by kernel_rfl):RD r P N D F w0 R hards Rd s Q:=by
 refine⟨λ hR hs=>?_⟩;simp only[Prod.mk.injEq] at h;have e:fy (bn (gY s) i true)=fy (bn (gY s) j true):=by
  have:=h.2.1.symm.trans h.2.2;unfold Qb at this;omega
 exact Mz i j h.1 _ h.2.1 (λ a hF Of=>h1.h hR hs a hF Of) (λ a hF Of=>by have:=h2.h hR hs a hF Of;rw[<- e] at this;exact this)
def C2(P:Program)(n0 N:Nat)(R:HL)(i:Nat)(hints:List Hint)(s:Cfg):Option (Fo × FL × SS):=match s.c with
 | .drw ops l=>match ops.toList[i]? with
  | none=>none
  | some o=>match jk ops.toList o s.L ⟨s.A,R,hints,0,[],[],true⟩ with
   | some (true,ss)=>match iJ o.op s.L with
    | true=>match ev P n0 o (fA s.L) ss with
     | some (.value v,s')=>match eh N o.dst v s.L with
      | some L'=>some (.drw ops (bn l i true),L',s')
      | none=>none
     | some (.skip,s')=>match eh N o.dst undef s.L with
      | some L'=>some (.drw ops (bn l i true),L',s')
      | none=>none
     | _=>none
    | false=>none
   | _=>none
 | _=>none
theorem FD{n0 i:Nat}{hints:List Hint}{ops:Array Oper}{l:List Bool}{k:List KI}{L:FL}{A:HL}{Ts:List HL}{c:Fo}{L':FL}{s':SS}(h:C2 P n0 N R i hints ⟨.drw ops l,k,L,A,Ts⟩=some (c,L',s')) :
  ∃o ss u x,ops[i]?=some o /\ jk ops.toList o L ⟨A,R,hints,0,[],[],true⟩=some (true,ss) /\ iJ o.op L=true /\ ev P n0 o (fA L) ss=some (x,s') /\ (x=.value u \/ (x=.skip /\ u=undef)) /\ eh N o.dst u L=some L' /\ c=.drw ops (bn l i true):=by
 unfold C2 at h;simp only at h;split at h
 ·cases h
 rename_i o ho;split at h
 case h_2=>cases h
 rename_i ss hw;split at h
 case h_2=>cases h
 rename_i g_;split at h
 ·rename_i v s2 he;split at h
  case h_2=>cases h
  rename_i hp;simp only[Option.some.injEq,Prod.mk.injEq] at h;obtain⟨e1,e2,e3⟩:=h;subst e2;subst e3;exact⟨o,ss,v,_,by simpa using ho,hw,g_,he,.inl rfl,hp,e1.symm⟩
 ·rename_i s2 he;split at h
  case h_2=>cases h
  rename_i hp;simp only[Option.some.injEq,Prod.mk.injEq] at h;obtain⟨e1,e2,e3⟩:=h;subst e2;subst e3;exact⟨o,ss,undef,_,by simpa using ho,hw,g_,he,.inr ⟨rfl,rfl⟩,hp,e1.symm⟩
 ·cases h
def OG(P:Program)(n0 N:Nat)(R:HL)(i:Nat)(hints:List Hint)(s:Cfg):Cfg:=match C2 P n0 N R i hints s with
 | some (c,L',ss)=>match s with
  | ⟨_,k,_,_,Ts⟩=>⟨c,k,L',ss.h,Ts⟩
 | none=>s
def Qc(x:Option (Fo × FL × SS)):List Nat:=match x with
 | some (_,_,ss)=>ss.eq.map (·.2)
 | none=>[]
def Qd(V7:Bool)(ix:List Nat)(A A':HL):HL:=match V7 with
 | true=>ix.filterMap (A'[·]?)
 | false=>A'.drop (A'.length-A.length)
def MC(V7:Bool)(ix:List Nat)(A:HL)(x:Option (Fo × FL × SS)):Option (List Nat × List Prop × HL):=match x with
 | some (_,_,ss)=>match ss.hints with
  | []=>some (ss.eq.map (·.1),ss.ob,Qd V7 ix A ss.h)
  | _=>none
 | none=>none
theorem Bu(ix:List Nat){i:Nat}(hints:List Hint)(Ob:Nat -> List Prop)(iN:∀n0,AllP (Ob n0))(hk:∀n0,RD r P N D F w0 R hards Rd (OG P n0 N R i hints s) Q)
  (h:∀n0,MC (hards.contains i) ix s.A (C2 P n0 N R i hints s)=some (Qc (C2 P n0 N R i hints s),Ob n0,cond (hards.contains i) Rd s.A):=by intro n0;kernel_rfl):RDO r P N D F w0 R hards Rd i s Q:=by
 refine⟨λ hR hs a hF Of=>?_⟩;obtain⟨c,k,L,A,Ts⟩:=s;cases c with
 | code c=>simp[C2,MC] at h
 | ops ops i=>simp[C2,MC] at h
 | ex e=>simp[C2,MC] at h
 | drw ops l =>
  simp only[nF,gY] at hs Of h hF ⊢;have key:∀n0,∃o ss s' u x L',ops[i]?=some o /\ jk ops.toList o L ⟨A,R,hints,0,[],[],true⟩=some (true,ss) /\ iJ o.op L=true /\ ev P n0 o (fA L) ss=some (x,s') /\ (x=.value u \/ (x=.skip /\ u=undef)) /\ eh N o.dst u L=some L' /\
    OG P n0 N R i hints ⟨.drw ops l,k,L,A,Ts⟩=⟨.drw ops (bn l i true),k,L',s'.h,Ts⟩ /\ (∀p∈s'.eq,p.1=p.2) /\ s'.ob=Ob n0 /\ Qd (hards.contains i) ix A s'.h=cond (hards.contains i) Rd A:=by
   intro n0;have h1:=h n0;generalize hx:C2 P n0 N R i hints ⟨.drw ops l,k,L,A,Ts⟩=x at h1;unfold MC at h1;split at h1
   case h_2=>cases h1
   rename_i c L' s';split at h1
   case h_2=>cases h1
   simp only[Qc,Option.some.injEq,Prod.mk.injEq] at h1;obtain⟨e1,e2,e3⟩:=h1;obtain⟨o,ss,u,x,q1,q2,q3,q4,q5,q6,q7⟩:=FD hx;refine⟨o,ss,s',u,x,L',q1,q2,q3,q4,q5,q6,?_,fR e1 rfl,e2,e3⟩;unfold OG;rw[hx];subst q7;rfl
  unfold OPJ;obtain⟨o,ss,s',u,x,L',q1,q2,q3,q4,q5,q6,q7,q8,q9,IS⟩:=key 0;rw[q1];simp only;obtain⟨d1,d2,d3,d4⟩:=dG q4;rw[if_pos (cz q2 hF (λ p hp=>AllP.mem (iN 0) p (by rw[<- q9];exact d2 p hp))).1];intro w aT hB;obtain⟨o',ss,s',u,x,L',q1',q2,q3,q4,q5,q6,q7,q8,q9,IS⟩:=key w.heap.size;obtain rfl:o=o':=Option.some.inj (q1.symm.trans q1');obtain⟨a1,a2,a3,a4⟩:=bL q2;obtain⟨d1,d2,d3,d4⟩:=dG q4;have RW:∀p∈s'.ob,p:=by rw[q9];exact AllP.mem (iN _)
  obtain⟨c1,c2,c3⟩:=cz q2 hF (λ p hp=>RW p (d2 p hp));rw[eJ] at aT;obtain⟨w1,r1,r2,r3,r4,r5⟩:=gG (w:=w) (F:=Ts.flatten++F) q4 q8 RW (by rw[c2];exact aT) (by rw[a3];exact λ y hy=>aav _ (hR y hy)) (λ _=>by rw[c3];rfl);have hkk:=(hk w.heap.size).h hR;rw[q7] at hkk;have fin:∃H',((i ∉ hards -> ∃X,H'=X++ap A Ts) /\ (i∈hards -> ∀x∈Rd,x∈H')) /\ JJ P ops (NoPanic (kY r P k Q)) F w0 hards Rd (fy (bn l i true)) ⟨bn l i true⟩ (a.put o.dst u) H' /\ Rel (H'++F) w1 /\ Below 0 w0 w1:=by
   refine⟨ap s'.h Ts,⟨λ hi=>?_,λ hi=>?_⟩,hkk hs Of _ (hF.put q6),by rw[eJ];exact r2,hB.trans r3⟩
   ·have hc:hards.contains i=false:=by
     cases hq:hards.contains i with
     | false=>rfl
     | true=>exact absurd (List.contains_iff_mem.1 hq) hi
    rw[hc] at IS;simp only[Qd,cond_false] at IS;refine⟨s'.h.take (s'.h.length-A.length),?_⟩;show s'.h++Ts.flatten=_++(A++Ts.flatten);rw[<- aaC];congr 1
    conv=>lhs;rw[<- acn (s'.h.length-A.length) s'.h,IS]
   ·have hc:hards.contains i=true:=List.contains_iff_mem.2 hi;rw[hc] at IS;simp only[Qd,cond_true] at IS;exact λ x hx=>aaw _ (sO ix IS x hx)
  unfold dt;rw[hF.exec q3,r1];rcases q5 with rfl|⟨rfl,rfl⟩
  ·exact fin
  ·exact fin
theorem RDO.ev(ix:List Nat){i:Nat}(hints:List Hint)(hk:∀n0,RD r P N D F w0 R hards Rd (OG P n0 N R i hints s) Q)
 (h:∀n0,MC (hards.contains i) ix s.A (C2 P n0 N R i hints s)=some (Qc (C2 P n0 N R i hints s),[],cond (hards.contains i) Rd s.A):=by intro n0;kernel_rfl):RDO r P N D F w0 R hards Rd i s Q:=Bu ix hints (λ _=>[]) (λ _=>trivial) hk h
theorem fS(ix:List Nat){i:Nat}(hints:List Hint)(Ob:List Prop)(hk:∀n0,RD r P N D F w0 R hards Rd (OG P n0 N R i hints s) Q)(iN:AllP Ob:=by simp only[AllP,bx,and_true,true_and] <;> (repeat' with_reducible refine And.intro ?_ ?_) <;> omega)
 (h:∀n0,MC (hards.contains i) ix s.A (C2 P n0 N R i hints s)=some (Qc (C2 P n0 N R i hints s),Ob,cond (hards.contains i) Rd s.A):=by intro n0;kernel_rfl):RDO r P N D F w0 R hards Rd i s Q:=Bu ix hints (λ _=>Ob) (λ _=>iN) hk h
def OH(P:Program)(n0 N:Nat)(R:HL)(i:Nat)(s:Cfg):Option (Option Tmp × FuncId × Array Value × HL × List Nat × List Nat × List Prop):=match s.c with
 | .drw ops _=>nA P n0 N ops.toList i s.L (ap s.A s.Ts) R []
 | _=>none
theorem kZ{i:Nat}{ops:Array Oper}{l:List Bool}{k:List KI}{L:FL}{A:HL}{Ts:List HL}{o:Oper}(ho:ops[i]?=some o){σ:Type}(G:Value -> σ -> Prop)(Ho:σ -> HL)(hl:(eh N o.dst undef L).isSome=true)
  (hg:∀a,Fm N D L a -> Region.wanted o (yielded ops a.tmps)=true /\ ∀w,Rel (ap A Ts++F) w -> Below 0 w0 w -> dt P o a w λ u w'=>∃x,G u x /\ Rel (Ho x++F) w' /\ Below 0 w w')
  (aaU:∀x,(i ∉ hards -> ∃X,Ho x=X++ap A Ts) /\ (i∈hards -> ∀y∈Rd,y∈Ho x))
  (hk:∀v x,G v x -> ∀L',eh N o.dst v L=some L' -> Region.noSelect ops=true -> TD P N D F w0 ops hards Rd (fy (bn l i true)) (bn l i true) L' (Ho x) (NoPanic (kY r P k Q))):RDO r P N D F w0 R hards Rd i ⟨.drw ops l,k,L,A,Ts⟩ Q:=by
 refine⟨λ hR hs a hF Of=>?_⟩;simp only[nF,gY] at hs Of hF ⊢;unfold OPJ;rw[ho];simp only;obtain⟨h1,h2⟩:=hg a hF;rw[if_pos h1];intro w aT hB;refine eZ (h2 w aT hB) ?_;rintro u w' ⟨x,hx,D_,SU⟩;obtain⟨L',Uq⟩:=dg hl u;exact⟨Ho x,aaU x,hk u x hx L' Uq hs Of _ (hF.put Uq),D_,hB.trans SU⟩
def FF(V7:Bool)(ix ip jp:List Nat)(s:Cfg)(Rd:HL):HL:=match V7 with
 | true=>ix.filterMap ((fd ip s)[·]?)
 | false=>match ip,jp with
  | [],[]=>Rd
  | _,_=>(0,.obj (.deferred none))::Rd
theorem Bv{α:Type}(l:List α):(oth [] l.length).filterMap (l[·]?)=l:=by
 have:oth [] l.length=List.range l.length:=by simp[oth]
 rw[this];exact Fy l
theorem FG{L:FL}{H H':HL}{ops:Array Oper}{fuel:Nat}{l:List Bool}(hp:H'.Perm H)(h:TD P N D F w0 ops hards Rd fuel l L H' Q):TD P N D F w0 ops hards Rd fuel l L H Q:=λ Of a hF=>JJ.perm _ _ _ _ _ hp (h Of a hF)
theorem RDO.ct{τ:Type}{i:Nat}(ix ip jp:List Nat){f:FuncId}{args:Array Value}{Hp:HL}{Tp:List HL}{Hq:τ -> HL}{Tq:τ -> List HL}{Rv:Value -> τ -> Prop}
  (hc:Sp P f args (ap Hp Tp) (ap (fd ip s) (fP jp s)++F) (λ v H'=>∃x,H'=ap (Hq x) (Tq x) /\ Rv v x)) (hk:∀v x,Rv v x -> RD r P N D F w0 R hards Rd (wm (λ A=>Hq x++(oth ip A.length).filterMap (A[·]?)) (λ Ts=>Tq x++(oth jp Ts.length).filterMap (Ts[·]?)) (vX N i v s)) Q)
  (h:∀n0,kH N s (OH P n0 N R i s)=some (f,args,[],[],ap s.A s.Ts):=by intro n0;kernel_rfl)
  (hp:b9 ip jp s=true:=by kernel_rfl) (hH:picks ip jp s=(Hp,Tp):=by kernel_rfl) (hx:FF (hards.contains i) ix ip jp s Rd=Rd:=by kernel_rfl):RDO r P N D F w0 R hards Rd i s Q:=by
 obtain⟨c,k,L,A,Ts⟩:=s;cases c with
 | code c=>simp[OH,kH] at h
 | ops ops i=>simp[OH,kH] at h
 | ex e=>simp[OH,kH] at h
 | drw ops l =>
  refine⟨λ hR=>?_⟩;unfold b9 at hp;unfold picks at hH;simp only[OH,ab1,Prod.mk.injEq] at h hp hH;obtain⟨e1,e2⟩:=hH;have key:∀n0,∃dst,nA P n0 N ops.toList i L (ap A Ts) R []=some (dst,f,args,ap A Ts,[],[],[]) /\ (eh N dst undef L).isSome=true:=by
   intro n0;have h1:=h n0;generalize hx:nA P n0 N ops.toList i L (ap A Ts) R []=x at h1;unfold kH at h1;split at h1
   case h_2=>cases h1
   rename_i dst f' j_ H1 E E' Ob';split at h1
   case h_2=>cases h1
   rename_i Un;simp only[Option.some.injEq,Prod.mk.injEq] at h1;obtain⟨e1,e2,e3,e4,e5⟩:=h1;subst e1;subst e2;subst e3;subst e4;subst e5;obtain⟨o,s1,s',_,_,_,_,_,_,g1,g2,_⟩:=iL hx;have:s'.eq=[]:=by simpa using g1
   rw[this] at g2;simp only[List.map_nil] at g2;subst g2;exact⟨dst,rfl,Un⟩
  obtain⟨dst,XX,Un⟩:=key 0;obtain⟨o,s1,s',ho,_,_,_,hd,_⟩:=iL XX;subst hd;have ID:∀n0,nA P n0 N ops.toList i L (ap A Ts) R []=some (o.dst,f,args,ap A Ts,[],[],[]):=by
   intro n0;obtain⟨alG,h1,_⟩:=key n0;obtain⟨o',_,_,DO,_,_,_,Tt,_⟩:=iL h1;obtain rfl:o=o':=Option.some.inj (ho.symm.trans DO);rw[Tt];exact h1
  have oF:(ap Hp Tp++ap (fd ip ⟨.drw ops l,k,L,A,Ts⟩) (fP jp ⟨.drw ops l,k,L,A,Ts⟩)).Perm (ap A Ts):=by
   have h1:=lI A Ts ip (oth ip A.length) jp (oth jp Ts.length) hp.1 hp.2;rw[e1,e2] at h1;exact h1
  have Ru:∀v L',eh N o.dst v L=some L' -> vX N i v ⟨.drw ops l,k,L,A,Ts⟩=⟨.drw ops (bn l i true),k,L',A,Ts⟩:=by
   intro v L' hl;unfold vX;simp only[ho,hl]
  have hTD:∀v x,Rv v x -> ∀L',eh N o.dst v L=some L' -> Region.noSelect ops=true -> TD P N D F w0 ops hards Rd (fy (bn l i true)) (bn l i true) L' (ap (Hq x++(oth ip A.length).filterMap (A[·]?)) (Tq x++(oth jp Ts.length).filterMap (Ts[·]?))) (NoPanic (kY r P k Q)):=by
   intro v x hv L' hl hs;have h1:=(hk v x hv).h hR;rw[Ru v L' hl] at h1;exact h1 hs
  have afa:∀a,Fm N D L a -> Region.wanted o (yielded ops a.tmps)=true /\ ∀w,Rel (ap A Ts++F) w -> Below 0 w0 w -> dt P o a w λ u w'=>∃x,Rv u x /\ Rel ((ap (Hq x) (Tq x)++ap (fd ip ⟨.drw ops l,k,L,A,Ts⟩) (fP jp ⟨.drw ops l,k,L,A,Ts⟩))++F) w' /\ Below 0 w w':=by
   intro a hF;obtain⟨h1,h2⟩:=zn (w0:=w0) ho ID hR trivial oF hc a hF;refine⟨h1,λ w hR hB=>eZ (h2 w hR hB) ?_⟩;rintro u w' ⟨H',⟨x,rfl,hv⟩,SB,Uy⟩;exact⟨x,hv,SB,Uy⟩
  have aaR:∀x,(ap (Hq x) (Tq x)++ap (fd ip ⟨.drw ops l,k,L,A,Ts⟩) (fP jp ⟨.drw ops l,k,L,A,Ts⟩)).Perm (ap (Hq x++(oth ip A.length).filterMap (A[·]?)) (Tq x++(oth jp Ts.length).filterMap (Ts[·]?))):=by
   intro x;have h1:=uu (Hq x) (fd ip ⟨.drw ops l,k,L,A,Ts⟩) (Tq x) (fP jp ⟨.drw ops l,k,L,A,Ts⟩) [];rw[List.append_nil,List.append_nil] at h1;exact h1
  refine(kZ (by simpa using ho) (λ v x=>Rv v x) (λ x=>ap (Hq x) (Tq x)++ap (fd ip ⟨.drw ops l,k,L,A,Ts⟩) (fP jp ⟨.drw ops l,k,L,A,Ts⟩)) Un afa (λ x=>⟨λ hi=>?_,λ hi y hy=>?_⟩) (λ v x hv L' hl hs=>FG (aaR x).symm (hTD v x hv L' hl hs)):RDO r P N D F w0 R hards Rd i ⟨.drw ops l,k,L,A,Ts⟩ Q).h hR
  ·have hc:hards.contains i=false:=by
    cases hq:hards.contains i with
    | false=>rfl
    | true=>exact absurd (List.contains_iff_mem.1 hq) hi
   rw[hc] at hx;unfold FF at hx;simp only at hx;split at hx
   ·refine⟨ap (Hq x) (Tq x),?_⟩;unfold fd fP;show _++ap ((oth [] A.length).filterMap (A[·]?)) ((oth [] Ts.length).filterMap (Ts[·]?))=_;rw[Bv,Bv]
   ·exact absurd hx (by simp)
  ·rw[List.contains_iff_mem.2 hi] at hx;simp only[FF] at hx;exact aav _ (aaw _ (sO ix hx y hy))
def LQ(V:Inv)(ip jp:List Nat)(s:Cfg):(List (Option Value) × HL × List HL) × Bool × Bool:=(uz V ip jp s,b9 ip jp s,C1 s)
def Qu(V:Inv)(s:Cfg):Cfg:=match s with
 | ⟨_,k,_,_,_⟩=>⟨.ex .normal,k,V.L,V.A,V.Ts⟩
theorem k8{σ:Type}(V:σ -> Inv)(k:∀x,RN r P N D F w0 R (Qu (V x) s) Q)(h:(∀ {s':Cfg} (x:σ) (ip jp:List Nat),(h:LQ (V x) ip jp s'=(nE (V x),true,true):=by kernel_rfl) -> (e:s'.k=s.k:=by kernel_rfl) -> RD r P N D F w0 R hards Rd s' Q) -> RD r P N D F w0 R hards Rd s Q):RD r P N D F w0 R hards Rd s Q:=by
 refine h λ {s'} x ip jp hm e=>?_;unfold LQ at hm;simp only[Prod.mk.injEq] at hm;obtain⟨m1,m2,m3⟩:=hm;refine RD.fin ⟨λ hR a w h1 h2 h3=>?_⟩ m3;obtain⟨c,k',L,A,Ts⟩:=s';simp only at e;subst e;cases c with
 | drw ops l =>
  obtain⟨k1,k2⟩:=qx (s:=⟨.drw ops l,s.k,L,A,Ts⟩) m1 m2 h1 h2;exact(k x).h hR a w k1 k2 h3
 | code c=>simp[C1] at m3
 | ops ops i=>simp[C1] at m3
 | ex e=>simp[C1] at m3
end
def aac:=@RD.cp
def aad:=@RD.fin
def aae:=@RD.one
def aaf:=@RDO.ct
def aag:=@RDO.ev
def aah:=@RN.cp
def aai:=@RN.ct
def aak:=@RN.draw
def aal:=@RN.em
def aam:=@RN.en
def aan:=@RN.loop
def aap:=@RN.ret
def aaq:=@RN.rounds
def aat:=@Sp.run
end Go.Proofs.YtdppjkjbghbnjaaGreatDoor
