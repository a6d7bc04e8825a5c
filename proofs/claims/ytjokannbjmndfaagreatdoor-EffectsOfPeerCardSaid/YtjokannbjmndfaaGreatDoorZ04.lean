import Derived.Test.YtjokannbjmndfaaGreatDoorZ03
set_option linter.all false
set_option maxHeartbeats 4000000
set_option maxRecDepth 100000
namespace Go.Proofs.YtjokannbjmndfaaGreatDoor
open Go.RowKit
variable {A F T X:HL} {D:List Deferred} {L L':FL} {N n0:Nat} {P:Program} {Q:Exit->Act->World->Prop} {R':Value->HL->Prop} {Ts:List HL} {a:Act} {args:Array Value} {b:Bool} {fn:Func} {ip jp:List Nat} {o:Oper} {r:Option Nat} {s s':SS} {w:World} {σ:Type} (i j n:Nat) (hints:List Hint) (t:Nat) (Ob:List Prop)
theorem G1{ops:Array Oper}{rest:List Oper}
  (h:xw P n0 N ops.toList [o] L s=some (L',s')) (heq:∀p∈s'.eq,p.1=p.2) (iS:∀p∈s'.ob,p) (hF:Fm N D L a) (hR:Rel (s.h++F) w) (hr:∀y∈s.r,y∈F) (hn:s.wr=true->n0+s.cnt=w.heap.size)
  (hk:∀a' w',Fm N D L' a'->Rel (s'.h++F) w'->Below 0 w w'->s'.wr=s.wr->(s'.wr=true->n0+s'.cnt=w'.heap.size)->wpListIn (Wr r) 0 P ops Q rest a' w'):wpListIn (Wr r) 0 P ops Q (o::rest) a w:=by
 rw[wpListIn];rw[xw] at h;split at h
 ·cases h
 ·rename_i s1 hw;split at h
  case h_2=>cases h
  rename_i L1 hp;rw[xw] at h;cases h;obtain⟨a1,a2,a3,a4⟩:=bH hw;obtain⟨c1,c2,c3⟩:=bZ hw hF iS;rw[if_neg (by rw[c1];simp)];refine⟨λ _ _=>trivial,?_⟩;exact hk _ w (hF.put hp) (by rw[c2];exact hR) (jt _ _) a4 (λ e=>by rw[c3];exact hn (a4.symm.trans e))
 ·rename_i s1 hw;split at h
  ·cases h
  rename_i iF;obtain⟨a1,a2,a3,a4⟩:=bH hw;split at h
  ·rename_i v s2 he;split at h
   case h_2=>cases h
   rename_i L1 hp;rw[xw] at h;cases h;obtain⟨d1,d2,d3,d4⟩:=dk he;obtain⟨c1,c2,c3⟩:=bZ hw hF (λ p hp=>iS p (d2 p hp));obtain⟨w1,e1,e2,e3,e4,-⟩:=gI (w:=w) he heq iS (by rw[c2];exact hR) (by rw[a3];exact hr) (λ e=>by rw[c3];exact hn (a4.symm.trans e));rw[if_pos c1];refine⟨λ _ _=>trivial,?_⟩;rw[hF.sem iF,e1,Oper.uponIn_value];exact hk _ w1 (hF.put hp) e2 e3 (d4.trans a4) (λ e=>e4 (d4.symm.trans e))
  ·rename_i s2 he;split at h
   case h_2=>cases h
   rename_i L1 hp;rw[xw] at h;cases h;obtain⟨d1,d2,d3,d4⟩:=dk he;obtain⟨c1,c2,c3⟩:=bZ hw hF (λ p hp=>iS p (d2 p hp));obtain⟨w1,e1,e2,e3,e4,-⟩:=gI (w:=w) he heq iS (by rw[c2];exact hR) (by rw[a3];exact hr) (λ e=>by rw[c3];exact hn (a4.symm.trans e));rw[if_pos c1];refine⟨λ _ _=>trivial,?_⟩;rw[hF.sem iF,e1,Oper.uponIn_skip];exact hk _ w1 (hF.put hp) e2 e3 (d4.trans a4) (λ e=>e4 (d4.symm.trans e))
  ·cases h
inductive KI where
 |thn (y:Code)
 |blk (id:Nat)
 |scp
 |met (K:Act->World->Prop)
 |rnd (c:Code) (n:Nat)
inductive Fo where
 |code (c:Code)
 |ops (ops:Array Oper) (i:Nat)
 |ex (e:Exit)
 |drw (ops:Array Oper) (listed:List Bool)
structure Cfg where
 c:Fo
 k:List KI
 L:FL
 A:HL
 Ts:List HL
def vL(r:Option Nat)(P:Program)(c:Code)(Q:Exit->Act->World->Prop):Nat->Act->World->Prop
 |0,_,_=>False
 |n+1,a,w=>c.wpIn (Wr r) 0 P (Exit.then (vL r P c Q n) Q) a w
def kZ(r:Option Nat)(P:Program):List KI->(Exit->Act->World->Prop)->Exit->Act->World->Prop
 | [],Q=>Q
 | .thn y::k,Q=>Exit.then (y.wpIn (Wr r) 0 P (kZ r P k Q)) (kZ r P k Q)
 | .blk id::k,Q=>Exit.inBlock id (kZ r P k Q)
 | .scp::k,Q=>Exit.noGoto (kZ r P k Q)
 | .met K::k,Q=>Exit.then K (kZ r P k Q)
 | .rnd c n::k,Q=>Exit.then (vL r P c (kZ r P k Q) n) (kZ r P k Q)
def Wf(r:Option Nat)(P:Program)(Q:Exit->Act->World->Prop)(c:Fo)(k:List KI)(a:Act)(w:World):Prop:=match c with
 | .code c=>c.wpIn (Wr r) 0 P (kZ r P k Q) a w
 | .ops ops i=>wpListIn (Wr r) 0 P ops (kZ r P k Q) (ops.toList.drop i) a w
 | .ex e=>kZ r P k Q e a w
 | .drw _ _=>False
def stp(P:Program)(n0 N:Nat)(c:Fo)(k:List KI)(L:FL)(s:SS):Option (Fo×List KI×FL×SS):=match c with
 | .code (.seq x y)=>some (.code x,.thn y::k,L,s)
 | .code (.region _ ops false)=>some (.ops ops 0,k,L,s)
 | .code (.block id c)=>some (.code c,.blk id::k,L,s)
 | .code .skip=>some (.ex .normal,k,L,s)
 | .code (.exit id)=>some (.ex (.exit id),k,L,s)
 | .code (.scope c)=>some (.code c,.scp::k,L,s)
 | .code (.label _)=>some (.ex .normal,k,L,s)
 | .code (.cond c x y)=>match dw L c,cN L c with
  |true,.bool b=>match s.hints with
   | .gd v::hs=>some (.code (if v then x else y),k,L,{ s with hints:=hs,ob:=(b=v)::s.ob })
   |_=>some (.code (if b then x else y),k,L,s)
  |_,_=>none
 | .ops ops i=>match ops.toList[i]? with
  |none=>some (.ex .normal,k,L,s)
  |some o=>match xw P n0 N ops.toList [o] L s with
   |some (L,s)=>some (.ops ops (i+1),k,L,s)
   |none=>none
 | .ex .normal=>match k with
  | .thn y::k=>some (.code y,k,L,s)
  | .blk _::k=>some (.ex .normal,k,L,s)
  | .scp::k=>some (.ex .normal,k,L,s)
  | .rnd c (n+1)::k=>some (.code c,.rnd c n::k,L,s)
  |_=>none
 | .ex (.exit id)=>match k with
  | .thn _::k=>some (.ex (.exit id),k,L,s)
  | .blk W_::k=>some (.ex (if id=W_ then .normal else .exit id),k,L,s)
  | .scp::k=>some (.ex (.exit id),k,L,s)
  | .met _::k=>some (.ex (.exit id),k,L,s)
  | .rnd _ _::k=>some (.ex (.exit id),k,L,s)
  | []=>none
 |_=>none
theorem AL{ops:List Oper}(h:xw P n0 N ops [o] L s=some (L',s')):s'.wr=s.wr:=by
 rw[xw] at h;split at h
 ·cases h
 ·rename_i s1 hw;split at h
  case h_2=>cases h
  rw[xw] at h;cases h;exact(bH hw).2.2.2
 ·rename_i s1 hw;split at h
  ·cases h
  split at h
  ·rename_i v s2 he;split at h
   case h_2=>cases h
   rw[xw] at h;cases h;exact(dk he).2.2.2.trans (bH hw).2.2.2
  ·rename_i s2 he;split at h
   case h_2=>cases h
   rw[xw] at h;cases h;exact(dk he).2.2.2.trans (bH hw).2.2.2
  ·cases h
theorem ud{c c':Fo}{k k':List KI}(h:stp P n0 N c k L s=some (c',k',L',s')):(∀p∈s.eq,p∈s'.eq)/\(∀p∈s.ob,p∈s'.ob)/\s'.r=s.r/\s'.wr=s.wr:=by
 have Ya:(∀p∈s.eq,p∈s.eq)/\(∀p∈s.ob,p∈s.ob)/\s.r=s.r/\s.wr=s.wr:=⟨λ _ h=>h,λ _ h=>h,rfl,rfl⟩;unfold stp at h;split at h
 case h_8=>
  split at h
  ·split at h
   ·cases h;exact⟨λ _ h=>h,λ _ h=>aaD _ h,rfl,rfl⟩
   ·cases h;exact Ya
  ·cases h
 case h_9=>
  split at h
  ·cases h;exact Ya
  ·split at h
   ·rename_i hs;cases h;obtain⟨b1,b2,b3⟩:=lS _ _ _ _ _ hs;exact⟨b1,b2,b3,AL hs⟩
   ·cases h
 case h_10=>split at h <;> first|(cases h;done)|(cases h;exact Ya)
 case h_11=>split at h <;> first|(cases h;done)|(cases h;exact Ya)
 all_goals first|(cases h;done)|(cases h;exact Ya)
theorem Ee{c c':Fo}{k k':List KI}
  (h:stp P n0 N c k L s=some (c',k',L',s')) (heq:∀p∈s'.eq,p.1=p.2) (iS:∀p∈s'.ob,p) (hF:Fm N D L a) (hR:Rel (s.h++F) w) (hr:∀y∈s.r,y∈F) (hn:s.wr=true->n0+s.cnt=w.heap.size)
  (hk:∀a' w',Fm N D L' a'->Rel (s'.h++F) w'->Below 0 w w'->(s'.wr=true->n0+s'.cnt=w'.heap.size)->Wf r P Q c' k' a' w'):Wf r P Q c k a w:=by
 have B:=jt 0 w;unfold stp at h;split at h
 ·cases h;exact wpIn_seq (hk a w hF hR B hn)
 ·cases h;exact wpIn_region_list (by simpa [Wf] using hk a w hF hR B hn)
 ·cases h;exact wpIn_block (hk a w hF hR B hn)
 ·cases h;exact wpIn_skip (hk a w hF hR B hn)
 ·cases h;exact wpIn_exit (hk a w hF hR B hn)
 ·cases h;exact ij (hk a w hF hR B hn)
 ·cases h;exact wpIn_label (hk a w hF hR B hn)
 ·split at h
  ·rename_i b hi hc;have e:=hF.eval hi;rw[hc] at e;split at h
   ·rename_i v hs hh;cases h;have hb:b=v:=iS _ aaC;subst hb;cases b
    ·exact wpIn_cond_false e (hk a w hF hR B hn)
    ·exact wpIn_cond_true e (hk a w hF hR B hn)
   ·cases h;cases b
    ·exact wpIn_cond_false e (hk a w hF hR B hn)
    ·exact wpIn_cond_true e (hk a w hF hR B hn)
  ·cases h
 ·split at h
  ·rename_i ho;cases h;show wpListIn _ _ _ _ _ _ _ _;rw[aco (List.getElem?_eq_none_iff.1 ho)];exact hk a w hF hR B hn
  ·rename_i o ho;split at h
   ·rename_i hs;cases h;show wpListIn _ _ _ _ _ _ _ _;have iN:=(bt.1 ho).1;rw[eB iN,(bt.1 ho).2];exact G1 hs heq iS hF hR hr hn (λ a' w' h1 h2 h3 _ h4=>hk a' w' h1 h2 h3 h4)
   ·cases h
 ·split at h
  ·cases h;exact hk a w hF hR B hn
  ·cases h;exact hk a w hF hR B hn
  ·cases h;exact hk a w hF hR B hn
  ·cases h;exact hk a w hF hR B hn
  ·cases h
 ·split at h
  ·cases h;exact hk a w hF hR B hn
  ·cases h;have h2:=hk a w hF hR B hn;unfold Wf at h2;show (if _=_ then _ else _);split
   ·rename_i e;rw[if_pos e] at h2;exact h2
   ·rename_i e;rw[if_neg e] at h2;exact h2
  ·cases h;exact hk a w hF hR B hn
  ·cases h;exact hk a w hF hR B hn
  ·cases h;exact hk a w hF hR B hn
  ·cases h
 ·cases h
def adv(P:Program)(n0 N:Nat):Nat->Fo->List KI->FL->SS->Option (Fo×List KI×FL×SS)
 |0,c,k,L,s=>some (c,k,L,s)
 |n+1,c,k,L,s=>match stp P n0 N c k L s with
  |some (c,k,L,s)=>adv P n0 N n c k L s
  |none=>none
theorem ue{P:Program}{n0 N:Nat}:∀ (n:Nat) {c c':Fo} {k k':List KI} {L L':FL} {s s':SS},adv P n0 N n c k L s=some (c',k',L',s')->(∀p∈s.eq,p∈s'.eq)/\(∀p∈s.ob,p∈s'.ob)/\s'.r=s.r/\s'.wr=s.wr
 |0,_,_,_,_,_,_,s,s',h=>by rw[adv] at h;cases h;exact⟨λ _ h=>h,λ _ h=>h,rfl,rfl⟩
 |n+1,_,_,_,_,_,_,s,s',h=>by
  rw[adv] at h;split at h
  ·rename_i hs;obtain⟨a1,a2,a3,a4⟩:=ud hs;obtain⟨b1,b2,b3,b4⟩:=ue n h;exact⟨λ p hp=>b1 p (a1 p hp),λ p hp=>b2 p (a2 p hp),b3.trans a3,b4.trans a4⟩
  ·cases h
theorem uf{r:Option Nat}{P:Program}{n0 N:Nat}{D:List Deferred}{F:HL}{Q:Exit->Act->World->Prop}:∀ (n:Nat) {c c':Fo} {k k':List KI} {L L':FL} {s s':SS} {a:Act} {w:World},adv P n0 N n c k L s=some (c',k',L',s')->(∀p∈s'.eq,p.1=p.2)->(∀p∈s'.ob,p)->Fm N D L a->Rel (s.h++F) w->(∀y∈s.r,y∈F)->(s.wr=true->n0+s.cnt=w.heap.size)->
  (∀a' w',Fm N D L' a'->Rel (s'.h++F) w'->Below 0 w w'->Wf r P Q c' k' a' w')->Wf r P Q c k a w
 |0,_,_,_,_,_,_,s,s',a,w,h,heq,iS,hF,hR,hr,hn,hk=>by rw[adv] at h;cases h;exact hk a w hF hR (jt _ _)
 |n+1,_,_,_,_,_,_,s,s',a,w,h,heq,iS,hF,hR,hr,hn,hk=>by
  rw[adv] at h;split at h
  ·rename_i hs;obtain⟨a1,a2,a3,a4⟩:=ud hs;obtain⟨b1,b2,b3,b4⟩:=ue n h;exact Ee hs (λ p hp=>heq p (b1 p hp)) (λ p hp=>iS p (b2 p hp)) hF hR hr hn (λ a' w' h1 h2 h3 h4=>uf n h heq iS h1 h2 (by rw[a3];exact hr) h4 (λ a2 w2 k1 k2 k3=>hk a2 w2 k1 k2 (h3.trans k3)))
  ·cases h
structure RN(r:Option Nat)(P:Program)(N:Nat)(D:List Deferred)(F:HL)(w0:World)(R:HL)(s:Cfg)(Q:Exit->Act->World->Prop):Prop where
 h:(∀y∈R,y∈F)->∀a w,Fm N D s.L a->Rel (ap s.A s.Ts++F) w->Below 0 w0 w->Wf r P Q s.c s.k a w
def nS(P:Program)(n0 N n:Nat)(R:HL)(hints:List Hint)(s:Cfg):Option (Fo×List KI×FL×SS):=adv P n0 N n s.c s.k s.L ⟨s.A,R,hints,0,[],[],true⟩
def AM(P:Program)(n0 N n:Nat)(R:HL)(hints:List Hint)(s:Cfg):Cfg:=match nS P n0 N n R hints s with
 |some (c,k,L,ss)=>⟨c,k,L,ss.h,s.Ts⟩
 |none=>s
def AO(x:Option (Fo×List KI×FL×SS)):List Nat:=match x with
 |some (_,_,_,ss)=>ss.eq.map (·.2)
 |none=>[]
def AP(x:Option (Fo×List KI×FL×SS)):Option (List Nat×List Prop):=match x with
 |some (_,_,_,ss)=>match ss.hints with
  | []=>some (ss.eq.map (·.1),ss.ob)
  |_=>none
 |none=>none
theorem eo(A:HL)(Ts:List HL)(F:HL):ap A Ts++F=A++(Ts.flatten++F):=aaF _ _ _
theorem ay{x:Nat×Blk}(h:A[i]?=some x:=by kernel_rfl):x∈ap A Ts++F:=aaB _ (aaB _ (go h))
theorem eF{x:Nat×Blk}(h:A[i]?=some x:=by kernel_rfl):x∈X++(ap A Ts++F):=aaz _ (ay i h)
theorem ar(h:Ts[j]?=some T:=by kernel_rfl):∀x∈T,x∈ap A Ts++F:=λ x hx=>
 aaB _ (aaz _ (List.mem_flatten.2 ⟨T,go h,hx⟩))
theorem aL(h:Ts[j]?=some T:=by kernel_rfl):∀x∈T,x∈X++(ap A Ts++F):=λ x hx=>aaz _ (ar j h x hx)
theorem aC{x:Nat×Blk}(h:x∈F):x∈ap A Ts++F:=aaz _ h
theorem AQ{x:Nat×Blk}(h:x∈F):x∈X++(ap A Ts++F):=aaz _ (aaz _ h)
def ow(p n:Nat):List Hint:=List.replicate n (.o p)
def aab(n:Nat):List Hint:=List.replicate n (.o 0)
abbrev aX(n:Int):Prop:=-9223372036854775808<=n/\n<=9223372036854775807
section
variable {r:Option Nat} {P:Program} {N:Nat} {D:List Deferred} {F:HL} {w0:World} {R:HL} {s:Cfg} {Q:Exit->Act->World->Prop}
theorem ru(Ob:Nat->List Prop)(iS:∀n0,AllP (Ob n0))(hk:∀n0,RN r P N D F w0 R (AM P n0 N n R hints s) Q)
  (h:∀n0,AP (nS P n0 N n R hints s)=some (AO (nS P n0 N n R hints s),Ob n0):=by intro n0;kernel_rfl):RN r P N D F w0 R s Q:=by
 refine⟨λ hR a w hF aT hB=>?_⟩;have h':=h w.heap.size;have UJ:=(hk w.heap.size).h hR;unfold AM at UJ;generalize hx:nS P w.heap.size N n R hints s=x at h' UJ;unfold AP at h';split at h'
 case h_2=>cases h'
 rename_i c k L ss;split at h'
 case h_2=>cases h'
 simp only[AO,de,df] at h';obtain⟨e1,e2⟩:=h';rw[eo] at aT;refine uf n hx (fP e1 rfl) (by rw[e2];exact AllP.mem (iS _)) hF aT (λ y hy=>aaz _ (hR y hy)) (λ _=>rfl) ?_;intro a' w' h1 h2 h3;exact UJ a' w' h1 (by rw[eo];exact h2) (hB.trans h3)
theorem ae(hk:∀n0,RN r P N D F w0 R (AM P n0 N n R hints s) Q)
 (h:∀n0,AP (nS P n0 N n R hints s)=some (AO (nS P n0 N n R hints s),[]):=by intro n0;kernel_rfl):RN r P N D F w0 R s Q:=ru n hints (λ _=>[]) (λ _=>trivial) hk h
theorem ah(hk:∀n0,RN r P N D F w0 R (AM P n0 N n R hints s) Q)(iS:AllP Ob:=by simp only[AllP,aX,and_true,true_and] <;> (repeat' with_reducible refine And.intro ?_ ?_) <;> omega)
 (h:∀n0,AP (nS P n0 N n R hints s)=some (AO (nS P n0 N n R hints s),Ob):=by intro n0;kernel_rfl):RN r P N D F w0 R s Q:=ru n hints (λ _=>Ob) (λ _=>iS) hk h
theorem OG(hk:∀ {n0},RN r P N D F w0 R (AM P n0 N n R [] s) Q)
 (h:∀n0,AP (nS P n0 N n R [] s)=some (AO (nS P n0 N n R [] s),[]):=by intro n0;kernel_rfl):RN r P N D F w0 R s Q:=ae n [] (λ _=>hk) h
theorem Sr(hk:∀ {n0},RN r P N D F w0 R (AM P n0 N n R hints s) Q)
 (h:∀n0,AP (nS P n0 N n R hints s)=some (AO (nS P n0 N n R hints s),[]):=by intro n0;kernel_rfl):RN r P N D F w0 R s Q:=ae n hints (λ _=>hk) h
def qz(t:Nat)(b:Bool)(s:Cfg):Cfg:=match s with
 | ⟨c,k,L,A,Ts⟩=>⟨c,k,(t,.bool b)::L,A,Ts⟩
theorem Fm.fix{t:Nat}{v:Value}(hF:Fm N D L a)(h:L.lookup t=some v):Fm N D ((t,v)::L) a:=⟨hF.size,hF.defs,λ t' v' h'=>by
 rw[adh] at h'
 by_cases e:t'=t
 ·subst e;simp at h';subst h';exact hF.has _ _ h
 ·have:(t' == t)=false:=by simpa using e
  rw[this] at h';exact hF.has _ _ h'⟩
theorem ci{v:Bool}(hb:b=v)(hk:RN r P N D F w0 R (qz t v s) Q)(h:s.L.lookup t=some (.bool b):=by kernel_rfl):RN r P N D F w0 R s Q:=by
 subst hb;exact⟨λ hR a w h1 h2 h3=>hk.h hR a w (h1.fix h) h2 h3⟩
theorem RN.em(p:Prop)[Decidable p](t:Nat)(h1:p->RN r P N D F w0 R (qz t true s) Q)(h2:¬ p->RN r P N D F w0 R (qz t false s) Q)(h:s.L.lookup t=some (.bool (decide p)):=by kernel_rfl):RN r P N D F w0 R s Q:=by
 by_cases hp:p
 ·exact ci t (abw hp) (h1 hp) h
 ·exact ci t (abv hp) (h2 hp) h
theorem RN.en(p:Prop)[Decidable p](t:Nat)(h1:p->RN r P N D F w0 R (qz t false s) Q)(h2:¬ p->RN r P N D F w0 R (qz t true s) Q)(h:s.L.lookup t=some (.bool (!decide p)):=by kernel_rfl):RN r P N D F w0 R s Q:=by
 by_cases hp:p
 ·exact ci t (by simp[hp]) (h1 hp) h
 ·exact ci t (by simp[hp]) (h2 hp) h
theorem il(b:Bool)(t:Nat)(h1:b=true->RN r P N D F w0 R (qz t true s) Q)(h2:¬ b=true->RN r P N D F w0 R (qz t false s) Q)(h:s.L.lookup t=some (.bool b):=by kernel_rfl):RN r P N D F w0 R s Q:=by
 by_cases hp:b=true
 ·exact ci t hp (h1 hp) h
 ·exact ci t (Bool.eq_false_iff.2 hp) (h2 hp) h
theorem rv(b:Bool)(t:Nat)(h1:b=true->RN r P N D F w0 R (qz t false s) Q)(h2:¬ b=true->RN r P N D F w0 R (qz t true s) Q)(h:s.L.lookup t=some (.bool (!b)):=by kernel_rfl):RN r P N D F w0 R s Q:=by
 by_cases hp:b=true
 ·exact ci t (by simp[hp]) (h1 hp) h
 ·exact ci t (by simp[hp]) (h2 hp) h
theorem nt(h:b=true):(!b)=false:=by rw[h];rfl
theorem nf(h:b=false):(!b)=true:=by rw[h];rfl
theorem Fm.sub{a:Act}{L:FL}:∀ {Lx:FL},Fm N D L a->Lx.map (λ p=>L.lookup p.1)=Lx.map (λ p=>some p.2)->Fm N D Lx a
 | [],hF,_=>⟨hF.size,hF.defs,λ t v h=>by cases h⟩
 |p::Lx,hF,h=>by
  simp only[acF,acM] at h;have ih:=Fm.sub hF h.2;refine⟨hF.size,hF.defs,λ t v h'=>?_⟩;rw[adh] at h'
  by_cases e:t=p.1
  ·subst e;simp at h';subst h';exact hF.has _ _ h.1
  ·have:(t == p.1)=false:=by simpa using e
   rw[this] at h';exact ih.has _ _ h'
theorem RN.ro{R':HL}(h:(∀y∈R,y∈F)->∀y∈R',y∈F)(hk:RN r P N D F w0 R' s Q):RN r P N D F w0 R s Q:=⟨λ hR=>hk.h (h hR)⟩
end
theorem cr{dst:Option Tmp}(h:(cD N dst undef L).isSome=true)(v:Value):∃L',cD N dst v L=some L':=by
 cases dst with
 |none=>exact⟨L,rfl⟩
 |some t=>
  unfold cD at h ⊢;simp only at h ⊢;split at h
  ·exact⟨_,rfl⟩
  ·cases h
def xC(P:Program)(n0 N:Nat)(R:HL)(s:Cfg):Option (Option Tmp×FuncId×Array Value×HL×List Nat×List Nat×List Prop):=match s.c with
 | .ops ops i=>nO P n0 N ops.toList i s.L s.A R []
 |_=>none
def jo(N:Nat)(s:Cfg)(x:Option (Option Tmp×FuncId×Array Value×HL×List Nat×List Nat×List Prop)):Option (FuncId×Array Value×List Prop×List Nat×HL):=match x with
 |some (dst,f,args,H,E,_,Ob)=>match (cD N dst undef s.L).isSome with
  |true=>some (f,args,Ob,E,H)
  |false=>none
 |none=>none
def cR(N:Nat)(v:Value)(s:Cfg):Cfg:=match s with
 | ⟨.ops ops i,k,L,A,Ts⟩=>match ops.toList[i]? with
  |some o=>match cD N o.dst v L with
   |some L'=>⟨.ops ops (i+1),k,L',A,Ts⟩
   |none=>⟨.ops ops i,k,L,A,Ts⟩
  |none=>⟨.ops ops i,k,L,A,Ts⟩
 |s=>s
theorem G2{α:Type}(l:List α):(List.range l.length).filterMap (l[·]?)=l:=by
 induction l with
 |nil=>rfl
 |cons x l ih=>
  rw[aaZ,List.range_succ_eq_map,ac3];simp only[ac1,List.filterMap_map];congr 1
def oth(ip:List Nat)(n:Nat):List Nat:=(List.range n).filter λ i=>!(ip.contains i)
def m6(A:HL->HL)(Ts:List HL->List HL)(s:Cfg):Cfg:=match s with
 | ⟨c,k,L,A',W8⟩=>⟨c,k,L,A A',Ts W8⟩
section
variable {r:Option Nat} {P:Program} {N:Nat} {D:List Deferred} {F:HL} {w0:World} {R:HL} {s:Cfg} {Q:Exit->Act->World->Prop}
theorem p7{f:FuncId}{Hp Hr:HL}{Rv:Value->HL->Prop}
  (h:∀n0,jo N s (xC P n0 N R s)=some (f,args,[],[],s.A)) (hp:(Hp++Hr).Perm (ap s.A s.Ts)) (hc:(∀y∈R,y∈F)->Sp P f args Hp (Hr++F) Rv)
  (hk:(∀y∈R,y∈F)->∀v H',Rv v H'->∀a w,Fm N D (cR N v s).L a->Rel ((H'++Hr)++F) w->Below 0 w0 w->Wf r P Q (cR N v s).c (cR N v s).k a w):RN r P N D F w0 R s Q:=by
 refine⟨λ hR a w hF aT hB=>?_⟩;have h1:=h w.heap.size;obtain⟨c,k,L,A,Ts⟩:=s;unfold xC at h1;simp only at h1 hF aT hp;cases c with
 |code c=>simp[jo] at h1
 |ex e=>simp[jo] at h1
 |drw _ _=>simp[jo] at h1
 |ops ops i=>
  simp only at h1;generalize hx:nO P w.heap.size N ops.toList i L A R []=x at h1;unfold jo at h1;split at h1
  case h_2=>cases h1
  rename_i dst f' q_ H1 E E' Ob';split at h1
  case h_2=>cases h1
  rename_i UT;simp only[de,df] at h1;obtain⟨e1,e2,e3,e4,e5⟩:=h1;subst e1;subst e2;subst e3;subst e4;subst e5;obtain⟨o,s1,s',ho,hw,iF,Ux,hd,hh,g1,g2,g3⟩:=iT hx;have oR:ops.toList.drop i=o::ops.toList.drop (i+1):=by
   have iN:i<ops.toList.length:=(bt.1 ho).1;rw[eB iN,(bt.1 ho).2]
  show wpListIn _ _ _ _ _ _ _ _;rw[oR,wpListIn];obtain⟨d1,d2,d3,d4⟩:=dk Ux;obtain⟨a1,a2,a3,a4⟩:=bH hw;have UU:∀p∈s'.ob,p:=by rw[g3];intro p hp;cases hp
  have ab3:∀p∈s'.eq,p.1=p.2:=by
   have:s'.eq=[]:=by simpa using g1
   rw[this];intro p hp;cases hp
  obtain⟨c1,c2,c3⟩:=bZ hw hF (λ p hp=>UU p (d2 p hp));rw[eo] at aT;obtain⟨w1,r1,r2,r3,r4,-⟩:=gI (w:=w) (F:=Ts.flatten++F) Ux ab3 UU (by rw[c2];exact aT) (by rw[a3];exact λ y hy=>aaz _ (hR y hy)) (λ _=>by rw[c3];rfl);rw[if_pos c1];refine⟨λ _ _=>trivial,?_⟩;rw[hF.sem iF,r1,Oper.uponIn_enter];refine⟨λ h=>(by cases h),?_⟩;rw[hh,<- eo] at r2;have r2':Rel (Hp++(Hr++F)) w1:=by rw[<- aaF];exact r2.perm (hp.append_right F)
  refine jJ ((hc hR w1 r2').mono ?_);rintro e w2 ⟨v,H',rfl,hv,VM,Xs⟩;have hh2:=hk hR v H' hv;obtain⟨L',hl⟩:=cr UT v;have Of:cR N v ⟨.ops ops i,k,L,H1,Ts⟩=⟨.ops ops (i+1),k,L',H1,Ts⟩:=by
   unfold cR;simp only[ho,hd,hl]
  rw[Of] at hh2;rw[hd];exact hh2 _ w2 (hF.put hl) (by rw[aaF];exact VM) (hB.trans (r3.trans Xs))
theorem qL{N:Nat}{v:Value}{s:Cfg}:(cR N v s).A=s.A/\(cR N v s).Ts=s.Ts:=by
 unfold cR;split
 ·split
  ·split <;> exact⟨rfl,rfl⟩
  ·exact⟨rfl,rfl⟩
 ·exact⟨rfl,rfl⟩
theorem RN.cp{f:FuncId}{args:Array Value}{v:Value}(hc:Sp P f args [] (ap s.A s.Ts++F) (λ u H'=>u=v/\H'=[]))(hk:RN r P N D F w0 R (cR N v s) Q)
  (h:∀n0,jo N s (xC P n0 N R s)=some (f,args,[],[],s.A):=by intro n0;kernel_rfl):RN r P N D F w0 R s Q:=by
 refine p7 (Hp:=[]) (Hr:=ap s.A s.Ts) h (List.Perm.refl _) (λ _=>hc) ?_;rintro hR u H' ⟨rfl,rfl⟩ a w h1 h2 h3;exact hk.h hR a w h1 (by rw[qL.1,qL.2];exact h2) h3
def eH(ip:List Nat)(s:Cfg):HL:=(oth ip s.A.length).filterMap (s.A[·]?)
def fA(jp:List Nat)(s:Cfg):List HL:=(oth jp s.Ts.length).filterMap (s.Ts[·]?)
def Eg(N:Nat)(ip jp:List Nat)(Hq:HL)(Tq:List HL)(v:Value)(s:Cfg):Cfg:=m6 (λ A=>Hq++(oth ip A.length).filterMap (A[·]?)) (λ Ts=>Tq++(oth jp Ts.length).filterMap (Ts[·]?)) (cR N v s)
theorem qM{A:HL->HL}{Ts:List HL->List HL}{s:Cfg}:(m6 A Ts s).A=A s.A/\(m6 A Ts s).Ts=Ts s.Ts/\(m6 A Ts s).L=s.L/\(m6 A Ts s).c=s.c/\(m6 A Ts s).k=s.k:=⟨rfl,rfl,rfl,rfl,rfl⟩
def aJ(ip jp:List Nat)(s:Cfg):Bool:=(ip++oth ip s.A.length).isPerm (List.range s.A.length) && (jp++oth jp s.Ts.length).isPerm (List.range s.Ts.length)
def picks(ip jp:List Nat)(s:Cfg):HL×List HL:=(ip.filterMap (s.A[·]?),jp.filterMap (s.Ts[·]?))
theorem RN.ct{τ:Type}(ip jp:List Nat){f:FuncId}{args:Array Value}{Hp:HL}{Tp:List HL}{Hq:τ->HL}{Tq:τ->List HL}{Rv:Value->τ->Prop}
  (hc:Sp P f args (ap Hp Tp) (ap (eH ip s) (fA jp s)++F) (λ v H'=>∃x,H'=ap (Hq x) (Tq x)/\Rv v x)) (hk:∀v x,Rv v x->RN r P N D F w0 R (Eg N ip jp (Hq x) (Tq x) v s) Q)
  (h:∀n0,jo N s (xC P n0 N R s)=some (f,args,[],[],s.A):=by intro n0;kernel_rfl)
  (hp:aJ ip jp s=true:=by kernel_rfl) (hH:picks ip jp s=(Hp,Tp):=by kernel_rfl):RN r P N D F w0 R s Q:=by
 unfold aJ at hp;unfold picks at hH;rw[abc] at hp;simp only[df] at hH;obtain⟨e1,e2⟩:=hH;refine p7 (Hp:=ap Hp Tp) (Hr:=ap (eH ip s) (fA jp s)) h ?_ (λ _=>hc) ?_
 ·have h1:=gC s.A s.Ts hp.1 hp.2;rw[e1,e2] at h1;exact h1
 ·rintro hR v H' ⟨x,rfl,hv⟩ a w h1 h2 h3;refine(hk v x hv).h hR a w h1 ?_ h3;unfold Eg;rw[qM.1,qM.2.1,qL.1,qL.2];refine h2.perm ?_;rw[aaF (ap (Hq x) (Tq x))];exact(nP _ _ _ _ _).symm
theorem Sp.run{f:FuncId}{fn:Func}{c:Code}{args:Array Value}{H:HL}{R':Value->HL->Prop}(hf:P.funcs[f]?=some fn)(hb:fn.body=some c)(hR:∀y∈R,y∈F){A:HL}{Ts:List HL}(hH:H=ap A Ts)
  (h:∀w0,RN none P fn.ntmps [] F w0 R ⟨.code c,[],ll 0 args.toList,A,Ts⟩ (bodyPost P fn (ub F w0 R'))) (ha:decide (args.size<=fn.ntmps)=true:=by kernel_rfl):Sp P f args H F R':=by
 subst hH;exact AC hf hb rfl ha rfl λ w0=>(h w0).h hR
def ug(fn:Func):Code:=match fn.body with
 |some c=>c
 |none=>.ret
theorem rx{f:FuncId}(hf:P.funcs[f]?=some fn)(hR:∀y∈R,y∈F)(A:HL)(Ts:List HL)
  (h:∀ {w0},RN none P fn.ntmps [] F w0 R ⟨.code (ug fn),[],ll 0 args.toList,A,Ts⟩ (bodyPost P fn (ub F w0 R'))) (hb:fn.body.isSome=true:=by kernel_rfl)
  (ha:decide (args.size<=fn.ntmps)=true:=by kernel_rfl):Sp P f args (ap A Ts) F R':=by
 obtain⟨c,hc⟩:=adb.1 hb;have e:ug fn=c:=by unfold ug;rw[hc]
 rw[e] at h;exact Sp.run hf hc hR rfl (λ _=>h) ha
theorem QF{f:FuncId}(hf:P.funcs[f]?=some fn)(hR:∀y∈R,y∈F)
 (h:∀ {w0},RN none P fn.ntmps [] F w0 R ⟨.code (ug fn),[],ll 0 args.toList,A,Ts⟩ (bodyPost P fn (ub F w0 R'))) (hb:fn.body.isSome=true:=by kernel_rfl)
 (ha:decide (args.size<=fn.ntmps)=true:=by kernel_rfl):Sp P f args (ap A Ts) F R':=rx hf hR A Ts h hb ha
theorem QG{f:FuncId}(hf:P.funcs[f]?=some fn)
 (h:∀ {w0},RN none P fn.ntmps [] F w0 [] ⟨.code (ug fn),[],ll 0 args.toList,[],[]⟩ (bodyPost P fn (ub F w0 R'))) (hb:fn.body.isSome=true:=by kernel_rfl)
 (ha:decide (args.size<=fn.ntmps)=true:=by kernel_rfl):Sp P f args [] F R':=rx hf mn [] [] h hb ha
theorem QH{f:FuncId}{x:Nat×Blk}(hf:P.funcs[f]?=some fn)(hx:x∈F)
 (h:∀ {w0},RN none P fn.ntmps [] F w0 [x] ⟨.code (ug fn),[],ll 0 args.toList,[],[]⟩ (bodyPost P fn (ub F w0 R'))) (hb:fn.body.isSome=true:=by kernel_rfl)
 (ha:decide (args.size<=fn.ntmps)=true:=by kernel_rfl):Sp P f args [] F R':=rx hf (mc hx mn) [] [] h hb ha
theorem iY{r:Option Nat}{P:Program}{a:Act}{w:World}:∀ (k:List KI) {Q:Exit->Act->World->Prop},Q .ret a w->kZ r P k Q .ret a w
 | [],_,h=>h
 | .thn _::k,_,h=>iY k h
 | .blk _::k,_,h=>iY k h
 | .scp::k,_,h=>iY k h
 | .met _::k,_,h=>iY k h
 | .rnd _ _::k,_,h=>iY k h
def kj(s:Cfg):Bool:=match s.c,s.k with
 | .code .ret,_=>true
 | .ex .normal,[]=>true
 |_,_=>false
theorem o8(h:kj s=true)(h1:Q .ret a w)(h2:Q .normal a w):Wf r P Q s.c s.k a w:=by
 obtain⟨c,k,L,A,Ts⟩:=s;unfold kj at h;split at h
 ·rename_i h0;simp only at h0;subst h0;exact wpIn_ret (iY k h1)
 ·rename_i h0 h3;simp only at h0 h3;subst h0;subst h3;exact h2
 ·cases h
def k8(x:Option (Value×List Nat×List Nat×List Prop)):List Nat:=match x with
 |some (_,E,_,_)=>E
 |none=>[]
def gJ(P:Program)(n0:Nat)(rs:List ResultVar)(R:HL)(hints:List Hint)(s:Cfg):Option (Value×List Nat×List Nat×List Prop):=AD P n0 s.L rs (ap s.A s.Ts) R hints
theorem LC(iS:AllP Ob){v:Value}{H':HL}(hv:R' v H')
  (hc:kj s=true:=by kernel_rfl) (h:∀n0,gJ P n0 fn.results.toList R hints s=some (v,k8 (gJ P n0 fn.results.toList R hints s),k8 (gJ P n0 fn.results.toList R hints s),Ob):=by intro n0;kernel_rfl)
  (hp:aJ ip jp s=true:=by kernel_rfl) (hH:ap (picks ip jp s).1 (picks ip jp s).2=H':=by kernel_rfl):RN r P N [] F w0 R s (bodyPost P fn (ub F w0 R')):=by
 unfold aJ at hp;unfold picks at hH;refine⟨λ hR a w hF aT hB=>?_⟩;rw[abc] at hp;have h':=h w.heap.size;unfold gJ AD at h';split at h'
 case h_2=>cases h'
 rename_i vs ss hs;split at h'
 case h_2=>cases h'
 simp only[k8,de,df] at h';obtain⟨e1,-,e3,e4⟩:=h';have iO:=jK (P:=P) hF aT fn.results.toList _ _ _ hs rfl rfl hR (λ e=>by cases e) (fP rfl e3) (by rw[e4];exact AllP.mem iS);have hh:a.defers=[]/\∃v' ,(results fn a.tmps).run P w=.ok v' w/\ub F w0 R' (.returned v') w:=by
  subst e1;exact⟨hF.defs,_,jm (by simp) iO,_,H',rfl,hv,aT.takeT ip _ jp _ hp.1 hp.2 hH,hB⟩
 obtain⟨q1,v',q2,q3⟩:=hh;exact o8 hc ⟨q1,v',q2,q3⟩ ⟨q1,v',q2,q3⟩
theorem RN.ret{fn:Func}{R':Value->HL->Prop}(hints:List Hint)(ip jp:List Nat){v:Value}{H':HL}(hv:R' v H')
 (hc:kj s=true:=by kernel_rfl) (h:∀n0,gJ P n0 fn.results.toList R hints s=some (v,k8 (gJ P n0 fn.results.toList R hints s),k8 (gJ P n0 fn.results.toList R hints s),[]):=by intro n0;kernel_rfl)
 (hp:aJ ip jp s=true:=by kernel_rfl) (hH:ap (picks ip jp s).1 (picks ip jp s).2=H':=by kernel_rfl):RN r P N [] F w0 R s (bodyPost P fn (ub F w0 R')):=LC hints [] trivial hv hc h hp hH
theorem QI(ip jp:List Nat)(v:Value)(H':HL)(hv:R' v H')
 (hc:kj s=true:=by kernel_rfl) (h:∀n0,gJ P n0 fn.results.toList R hints s=some (v,k8 (gJ P n0 fn.results.toList R hints s),k8 (gJ P n0 fn.results.toList R hints s),[]):=by intro n0;kernel_rfl)
 (hp:aJ ip jp s=true:=by kernel_rfl) (hH:ap (picks ip jp s).1 (picks ip jp s).2=H':=by kernel_rfl):RN r P N [] F w0 R s (bodyPost P fn (ub F w0 R')):=RN.ret hints ip jp hv hc h hp hH
theorem QJ(v:Value)(H':HL)(hv:R' v H')
 (hc:kj s=true:=by kernel_rfl) (h:∀n0,gJ P n0 fn.results.toList R [] s=some (v,k8 (gJ P n0 fn.results.toList R [] s),k8 (gJ P n0 fn.results.toList R [] s),[]):=by intro n0;kernel_rfl)
 (hp:aJ [] [] s=true:=by kernel_rfl) (hH:ap (picks [] [] s).1 (picks [] [] s).2=H':=by kernel_rfl):RN r P N [] F w0 R s (bodyPost P fn (ub F w0 R')):=RN.ret [] [] [] hv hc h hp hH
theorem Ss{τ:Type}{f:FuncId}{Hq:τ->HL}{Tq:τ->List HL}{Rv:Value->τ->Prop}
 (hc:Sp P f args (ap [] []) (ap (eH [] s) (fA [] s)++F) (λ v H'=>∃x,H'=ap (Hq x) (Tq x)/\Rv v x)) (hk:∀v x,Rv v x->RN r P N D F w0 R (Eg N [] [] (Hq x) (Tq x) v s) Q)
 (h:∀n0,jo N s (xC P n0 N R s)=some (f,args,[],[],s.A):=by intro n0;kernel_rfl)
 (hp:aJ [] [] s=true:=by kernel_rfl) (hH:picks [] [] s=([],[]):=by kernel_rfl):RN r P N D F w0 R s Q:=RN.ct [] [] hc hk h hp hH
structure Inv where
 L:FL
 A:HL
 Ts:List HL
 I:Prop
 m:Nat
def QK(K:Act->World->Prop)(V:Inv)(s:Cfg):Cfg:=match s with
 | ⟨.code (.loop c),k,_,_,_⟩=>⟨.code c,.met K::k,V.L,V.A,V.Ts⟩
 |s=>s
def vM(s:Cfg):Bool:=match s.c with
 | .code (.loop _)=>true
 |_=>false
def MV{σ:Type}(N:Nat)(D:List Deferred)(F:HL)(w0:World)(V:σ->Inv)(I:σ->Prop):Act->World->Prop:=OD N D F w0 (λ x=>(V x).L) (λ x=>ap (V x).A (V x).Ts) I
def Eh(s:Cfg):Option (Act->World->Prop):=match s.c,s.k with
 | .ex .normal,.met K::_=>some K
 |_,_=>none
def vN(V:Inv)(ip jp:List Nat)(s:Cfg):List (Option Value)×HL×List HL:=(V.L.map λ p=>s.L.lookup p.1,ip.filterMap (s.A[·]?),jp.filterMap (s.Ts[·]?))
def nT(V:Inv):List (Option Value)×HL×List HL:=(V.L.map λ p=>some p.2,V.A,V.Ts)
theorem ry{V:Inv}(h:vN V ip jp s=nT V)(hp:aJ ip jp s=true)(h1:Fm N D s.L a)(h2:Rel (ap s.A s.Ts++F) w):Fm N D V.L a/\Rel (ap V.A V.Ts++F) w:=by
 unfold vN nT at h;unfold aJ at hp;rw[abc] at hp;simp only[df] at h;exact⟨h1.sub h.1,h2.takeT ip _ jp _ hp.1 hp.2 (by rw[h.2.1,h.2.2])⟩
theorem qN{V:σ->Inv}{I:σ->Prop}{x:σ}(hi:I x)(hm:Eh s=some (MV N D F w0 V I):=by kernel_rfl)(h:vN (V x) ip jp s=nT (V x):=by kernel_rfl)(hp:aJ ip jp s=true:=by kernel_rfl):RN r P N D F w0 R s Q:=by
 refine⟨λ hR a w h1 h2 h3=>?_⟩;obtain⟨k1,k2⟩:=ry h hp h1 h2;obtain⟨c,k,L,A,Ts⟩:=s;unfold Eh at hm;split at hm
 case h_2=>cases hm
 rename_i K k' e1 e2;simp only at e1 e2;subst e1;subst e2;simp only[de] at hm;subst hm;exact⟨x,hi,k1,k2,h3⟩
theorem G3{L:FL}{H:HL}(Lx:σ->FL)(Hx:σ->HL){I:σ->Prop}(μ:σ->Nat){c:Code}(round:∀x,I x->TR r P N D F w0 (Lx x) (Hx x) c (Exit.then (OD N D F w0 Lx Hx (λ x'=>I x'/\μ x'<μ x)) Q)){x0:σ}(hi:I x0):TR r P N D F w0 (Lx x0) (Hx x0) (.loop c) Q:=by
 intro a w h1 h2 h3;have key:∀n x,μ x<=n->I x->∀a w,Fm N D (Lx x) a->Rel (Hx x++F) w->Below 0 w0 w->∀ (b:Frame) (k:List Item) (cs:List Frame),b.roundOf=(Wr r).round->(Wr r).fn b.fn->(Wr r).room (cs.length+1+0)->∃e a' w',Q e a' w'/\ArrivesIn (Machine.fenced P (Wr r)) P (lone (b.atR a (.code c:: .inLoop c::k)) cs w) b k cs e a' w':=by
  intro n
  induction n using Nat.strongRecOn with
  |_ n ih=>
   intro x hn hI a w k1 k2 k3 b k cs US hb hr;obtain⟨e,a₁,w₁,hq,w_⟩:=round x hI a w k1 k2 k3 b (.inLoop c::k) cs US hb hr;cases e with
   |normal=>
    obtain⟨x',⟨hI',iN⟩,m1,m2,m3⟩:=hq;obtain⟨e₂,a₂,w₂,WC,UK⟩:=ih (μ x') (by omega) x' (aaI _) hI' a₁ w₁ m1 m2 m3 b k cs US hb hr;exact⟨e₂,a₂,w₂,WC,.of_steps (StepsIn.trans w_ (.one (fenced_calm hb hr rfl) stepR_inLoop)) UK⟩
   |exit id=>exact⟨_,a₁,w₁,hq,.pass (x:=.inLoop c) rfl (λ _ _=>.inl (by simp)) w_⟩
   |goto l=>exact⟨_,a₁,w₁,hq,.pass (x:=.inLoop c) rfl (λ _ _=>.inl (by simp)) w_⟩
   |ret=>exact⟨_,a₁,w₁,hq,.pass (x:=.inLoop c) rfl (λ _ _=>.inl (by simp)) w_⟩
   |panic ch=>exact⟨_,a₁,w₁,hq,.pass (x:=.inLoop c) rfl (λ _ _=>.inl (by simp)) w_⟩
   |outgrown=>exact⟨_,a₁,w₁,hq,.pass (x:=.inLoop c) rfl (λ _ _=>.inl (by simp)) w_⟩
 intro b k cs US hb hr;obtain⟨e,a',w',hq,w_⟩:=key _ x0 (aaI _) hi a w h1 h2 h3 b k cs US hb hr;exact⟨e,a',w',hq,.of_steps (.one (fenced_calm hb hr rfl) stepR_loop) w_⟩
theorem RN.loop{σ:Type}(V:σ->Inv)(x0:σ)(ip jp:List Nat)(hi:(V x0).I)
  (round:∀x,(V x).I->(∀ {s':Cfg} {R':HL} (x':σ) (ip jp:List Nat),(V x').I/\(V x').m<(V x).m->(hm:Eh s'=some (MV N D F w0 V (λ x'=>(V x').I/\(V x').m<(V x).m)):=by kernel_rfl)->(h:vN (V x') ip jp s'=nT (V x'):=by kernel_rfl)->(hp:aJ ip jp s'=true:=by kernel_rfl)->RN r P N D F w0 R' s' Q)->
   RN r P N D F w0 R (QK (MV N D F w0 V (λ x'=>(V x').I/\(V x').m<(V x).m)) (V x) s) Q)
  (hc:vM s=true:=by kernel_rfl) (h:vN (V x0) ip jp s=nT (V x0):=by kernel_rfl) (hp:aJ ip jp s=true:=by kernel_rfl):RN r P N D F w0 R s Q:=by
 refine⟨λ hR a w h1 h2 h3=>?_⟩;obtain⟨k1,k2⟩:=ry h hp h1 h2;obtain⟨c,k,L,A,Ts⟩:=s;unfold vM at hc;split at hc
 case h_2=>cases hc
 rename_i c' e1;simp only at e1;subst e1;exact G3 (L:=L) (H:=A) (λ x=>(V x).L) (λ x=>ap (V x).A (V x).Ts) (I:=λ x=>(V x).I) (λ x=>(V x).m) (λ x hx=>(round x hx (λ x' ip jp hi hm h hp=>qN (x:=x') (ip:=ip) (jp:=jp) hi hm h hp)).h hR) (x0:=x0) hi a w k1 k2 h3
def SM(n:Nat)(s:Cfg):Cfg:=match s with
 | ⟨.code (.loop c),k,L,A,Ts⟩=>⟨.code c,.rnd c n::k,L,A,Ts⟩
 |s=>s
theorem Ei{c:Code}{n:Nat}:∀a w,vL none P c Q n a w->Code.rounds P c Q n a w:=by
 induction n with
 |zero=>exact λ _ _ h=>h
 |succ n ih=>
  intro a w h;refine(wpIn_wide (n:=0)).1 (wpIn_mono h λ e a w q=>?_);cases e <;> first|exact ih a w q|exact q
theorem RN.rounds(n:Nat)(hk:RN none P N D F w0 R (SM n s) Q)(hc:vM s=true:=by kernel_rfl):RN none P N D F w0 R s Q:=by
 refine⟨λ hR a w h1 h2 h3=>?_⟩;obtain⟨c,k,L,A,Ts⟩:=s;unfold vM at hc;split at hc
 case h_2=>cases hc
 rename_i c' e1;simp only at e1;subst e1;exact(wpIn_wide (n:=0)).2 (wp_loop_rounds (n+1) (Ei (n:=n+1) a w (hk.h hR a w h1 h2 h3)))
end
def aah:=@RN.cp
def aai:=@RN.ct
def aal:=@RN.em
def aam:=@RN.en
def aan:=@RN.loop
def aap:=@RN.ret
def aaq:=@RN.rounds
def aat:=@Sp.run
end Go.Proofs.YtjokannbjmndfaaGreatDoor
