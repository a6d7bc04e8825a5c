import Derived.Test.YtghjbimijeinfaaGreatDoorV27
set_option maxHeartbeats 4000000
set_option maxRecDepth 100000
set_option linter.all false
namespace Go.Proofs.YtghjbimijeinfaaGreatDoor
open Go.RowKit Go.Shelf
def zY(x:Int × Value × Nat):MapEntry:={ key:=vI x.1,val:=x.2.1,born:=x.2.2 }
abbrev jY(kv:List (Int × Value × Nat))(c:Nat):Obj:=.map ⟨kv.map zY⟩ c
def lj:List (Int × Value × Nat) -> Int -> Nat -> Option (Nat × Value)
 | [],_,_=>none
 | x::l,k,i=>if (k == x.1)=true then some (i,x.2.1) else lj l k (i+1)
def B7(kv:List (Int × Value × Nat))(k:Int):Option Value:=(lj kv k 0).map (·.2)
def mi(kv:List (Int × Value × Nat))(c:Nat)(k:Int)(v:Value):List (Int × Value × Nat):=match lj kv k 0 with
 | some (i,_)=>kv.modify i (λ x=>(k,v,x.2.2))
 | none=>kv++[(k,v,c)]
def g9(kv:List (Int × Value × Nat))(c:Nat)(k:Int):Nat:=match lj kv k 0 with
 | some _=>c
 | none=>c+1
theorem vO(k:Int):∀ (kv:List (Int × Value × Nat)) (i j:Nat) (v:Value),lj kv k i=some (j,v) -> i <= j /\ ∃n,kv[j-i]?=some (k,v,n)
 | [],_,_,_,h=>by cases h
 | x::l,i,j,v,h=>by
  rw[lj] at h;split at h
  ·rename_i hk;simp only[Option.some.injEq,Prod.mk.injEq] at h;obtain⟨rfl,rfl⟩:=h;have e:k=x.1:=by simpa using hk
   subst e;exact⟨aaS _,x.2.2,by simp⟩
  ·obtain⟨h1,n,h2⟩:=vO k l (i+1) j v h;refine⟨by omega,n,?_⟩;rw[show j-i=(j-(i+1))+1 by omega,List.getElem?_cons_succ];exact h2
theorem vQ(ik:IntKind)(k:Int):∀ (kv:List (Int × Value × Nat)) (i:Nat),Instr.findNow (.int ik) (vI k) (kv.map zY) i=some (lj kv k i)
 | [],_=>rfl
 | x::l,i=>by
  rw[List.map_cons,Instr.findNow,lj];simp only[Instr.sameNow,zY,if_true];cases h:(k == x.1) with
  | true=>simp
  | false=>simp[vQ ik k l (i+1)]
theorem vR{P:Program}{kt:TypeId}{ik:IntKind}(hk:P.underlying kt=some (.int ik))(k:Int)(kv:List (Int × Value × Nat))(w:World):(Instr.findKey kt (vI k) (kv.map zY)).run P w=.ok (lj kv k 0) w:=by
 unfold Instr.findKey;rw[abp,aE hk];simp only[Result.andThen,vQ];rfl
theorem tJ{P:Program}{kt:TypeId}{ik:IntKind}(hk:P.underlying kt=some (.int ik))(e:Bool)(k:Int)(w:World):(Instr.checkKey e 10000 kt (vI k)).run P w=.ok () w:=by
 rw[show (10000:Nat)=9999+1 from rfl,Instr.checkKey.eq_def];simp only;rw[abp,aE hk];rfl
abbrev KE(kv:List (Int × Value × Nat))(k:Int)(ok:Bool)(z:Value):Value:=if ok=true then .tuple #[(B7 kv k).getD z,.bool (B7 kv k).isSome] else (B7 kv k).getD z
theorem rd{P:Program}{w:World}{t kt et:TypeId}{ik:IntKind}{b c:Nat}{kv:List (Int × Value × Nat)}{k:Int}{z:Value}{i:TypeInfo}(ok:Bool)(ht:P.underlying t=some (.map kt et))(hk:P.underlying kt=some (.int ik))(hi:P.info? et=some i)(hz:i.zero=some z)(hb:w.heap[b]?=some (jY kv c)) :
  (Instr.lookup t (.map (some b)) (vI k) ok).run P w=.ok (KE kv k ok z) w:=by
 unfold Instr.lookup;rw[abp,aE ht];simp only[Result.andThen,abp,f5 hb,cf,tJ hk,vR hk];unfold KE B7;cases h:lj kv k 0 with
 | some x =>
  obtain⟨j,v⟩:=x;cases ok <;> rfl
 | none =>
  simp only[zeroValue,abp,dG hi,Result.andThen,hz,cf];cases ok <;> rfl
theorem lm{P:Program}{w:World}{b n:Nat}{es:Array MapEntry}(hb:w.heap[b]?=some (.map es n))(o:Obj):(setObj b o).run P w=.ok () { w with heap:=w.heap.setIfInBounds b o }:=by
 unfold setObj;rw[Sem.run.eq_def];simp only[hb];rfl
theorem re{P:Program}{w:World}{t kt et:TypeId}{ik:IntKind}{b c:Nat}{kv:List (Int × Value × Nat)}{k:Int}{v:Value}(ht:P.underlying t=some (.map kt et))(hk:P.underlying kt=some (.int ik))(hb:w.heap[b]?=some (jY kv c)) :
  (Instr.mapUpdate t (.map (some b)) (vI k) v).run P w=.ok () { w with heap:=w.heap.setIfInBounds b (jY (mi kv c k v) (g9 kv c k)) }:=by
 unfold Instr.mapUpdate;rw[abp,aE ht];simp only[Result.andThen,abp,f5 hb,tJ hk,vR hk];unfold mi g9;cases h:lj kv k 0 with
 | none =>
  simp only[lm hb];congr 3;simp[zY]
 | some x =>
  obtain⟨j,u⟩:=x;obtain⟨h1,n,h2⟩:=vO k kv 0 j u h;rw[Nat.sub_zero] at h2;have hks:((⟨kv.map zY⟩:Array MapEntry)[j]?).map (·.key)=some (vI k):=by simp[h2,zY]
  simp only[abp,hks,Option.getD_some];have WW:(Instr.keyThatStays (vI k) (vI k)).run P w=.ok (vI k) w:=by
   unfold Instr.keyThatStays;rw[show (10000:Nat)=9999+1 from rfl,if_pos (by simp[Instr.sameBits])];rfl
  rw[WW];refine(lm hb _).trans ?_;congr 3;simp only[Obj.map.injEq,and_true];apply Array.toList_inj.1;simp only[Array.toList_modify];apply List.ext_getElem?;intro m;simp only[List.getElem?_modify,abv]
  by_cases e:j=m
  ·subst e;simp[h2,zY]
  ·simp[e]
def pq(P:Program)(N p:Nat)(oo:Option Oper)(s:Cfg):Option (Int × Bool × Value × Nat × Nat × Obj):=match oo with
 | some o=>match o.guard,o.op,(dV N o.dst undef s.L).isSome with
  | none,.lookup t x ix ok,true=>match gB s.L x && gB s.L ix,fG s.L x,fG s.L ix,P.underlying t,s.A[p]? with
   | true,.map (some b),.int .i64 k,some (.map kt et),some (b',.obj O)=>match P.underlying kt,(P.info? et).bind (·.zero) with
    | some (.int _),some z=>some (k,ok,z,b,b',O)
    | _,_=>none
   | _,_,_,_,_=>none
  | _,_,_=>none
 | none=>none
def zZ(x:Option (Int × Bool × Value × Nat × Nat × Obj)):Nat:=match x with
 | some (_,_,_,_,b,_)=>b
 | none=>0
theorem vT{P:Program}{N p:Nat}{oo:Option Oper}{s:Cfg}{k:Int}{ok:Bool}{z:Value}{b:Nat}{O:Obj}(h:pq P N p oo s=some (k,ok,z,b,b,O)) :
  ∃o t x ix kt et i ik,oo=some o /\ o.guard=none /\ o.op=.lookup t x ix ok /\ (gB s.L x && gB s.L ix)=true /\ fG s.L x=.map (some b) /\ fG s.L ix=.int .i64 k /\ P.underlying t=some (.map kt et) /\ P.underlying kt=some (.int ik) /\ P.info? et=some i /\ i.zero=some z /\ s.A[p]?=some (b,.obj O) /\ (dV N o.dst undef s.L).isSome=true:=by
 unfold pq at h;split at h
 case h_2=>cases h
 rename_i o;split at h
 case h_2=>cases h
 rename_i t x ix ok' h1 h2 h3;split at h
 case h_2=>cases h
 rename_i b1 k1 kt et b2 O1 h4 h5 h6 h7 h8;split at h
 case h_2=>cases h
 rename_i ik z1 h9 Ti;simp only[Option.some.injEq,Prod.mk.injEq] at h;obtain⟨e1,e2,e3,e4,e5,e6⟩:=h;subst e1;subst e2;subst e3;subst e4;subst e5;subst e6;rw[Option.bind_eq_some_iff] at Ti;obtain⟨i,hi,hz⟩:=Ti;exact⟨o,t,x,ix,kt,et,i,ik,rfl,h1,h2,h4,h5,h6,h7,h9,hi,hz,h8,h3⟩
section
variable {r:Option Nat} {P:Program} {N:Nat} {D:List Deferred} {F:HL} {w0:World} {R:HL} {s:Cfg} {Q:Exit -> Act -> World -> Prop} {hards:List Nat} {Rd:HL}
theorem Py(p:Nat){kv:List (Int × Value × Nat)}{cl:Nat}{k:Int}{ok:Bool}{z v:Value}(ev:KE kv k ok z=v)(hk:RN r P N D F w0 R (eH N v s) Q)
  (h:pq P N p (fN s) s=some (k,ok,z,zZ (pq P N p (fN s) s),zZ (pq P N p (fN s) s),jY kv cl):=by kernel_rfl):RN r P N D F w0 R s Q:=by
 subst ev;obtain⟨o,t,x,ix,kt,et,i,ik,q0,q1,q2,q3,q4,q5,q6,q7,q8,q9,D_,SY⟩:=vT h;refine⟨λ hR a w hF aT hB=>?_⟩;obtain⟨c,kk,L,A,Ts⟩:=s;unfold fN at q0;cases c with
 | code c=>cases q0
 | ex c=>cases q0
 | drw _ _=>cases q0
 | ops ops j =>
  simp only at q0 q3 q4 q5 D_ SY hF aT;have rW:ops.toList.drop j=o::ops.toList.drop (j+1):=by
   have g_:j<ops.toList.length:=(List.getElem?_eq_some_iff.1 q0).1;rw[List.drop_eq_getElem_cons g_,(List.getElem?_eq_some_iff.1 q0).2]
  show wpListIn _ _ _ _ _ _ _ _;rw[rW,wpListIn,if_pos (by simp[Region.wanted,q1])];refine⟨λ _ _=>trivial,?_⟩;rw[abe] at q3;have hb:=aT.holds _ (aav _ (aav _ (List.mem_of_getElem? D_)));simp only[Blk.den] at hb;obtain⟨L',hl⟩:=dU SY (KE kv k ok z);have Tf:eH N (KE kv k ok z) ⟨.ops ops j,kk,L,A,Ts⟩=⟨.ops ops (j+1),kk,L',A,Ts⟩:=by
   unfold eH;simp only[q0,hl]
  have hh:=hk.h hR;rw[Tf] at hh;have hex:(execOp a.eval o).run P w=.ok (.value (KE kv k ok z)) w:=by
   have e1:a.eval x=.map (some _):=(hF.eval q3.1).trans q4;have e2:a.eval ix=.int .i64 k:=(hF.eval q3.2).trans q5;have:=rd (P:=P) (w:=w) (k:=k) ok q6 q7 q8 q9 hb;simp only[execOp,q2,e1,e2,abp,this,Result.andThen];rfl
  rw[Oper.semAt_eq _ _ _ (by rw[q2];intro c hc;cases hc),hex,Oper.uponIn_value];exact hh _ w (hF.put hl) aT hB
def m5(P:Program)(N p:Nat)(oo:Option Oper)(s:Cfg):Option (Int × Value × Nat × Nat × Obj):=match oo with
 | some o=>match o.guard,o.op,(dV N o.dst undef s.L).isSome with
  | none,.mapUpdate t m x v,true=>match gB s.L m && (gB s.L x && gB s.L v),fG s.L m,fG s.L x,P.underlying t,s.A[p]? with
   | true,.map (some b),.int .i64 k,some (.map kt _),some (b',.obj O)=>match P.underlying kt with
    | some (.int _)=>some (k,fG s.L v,b,b',O)
    | _=>none
   | _,_,_,_,_=>none
  | none,.insert t m x v,true=>match gB s.L m && (gB s.L x && gB s.L v),fG s.L m,fG s.L x,P.underlying t,s.A[p]? with
   | true,.map (some b),.int .i64 k,some (.map kt _),some (b',.obj O)=>match P.underlying kt with
    | some (.int _)=>some (k,fG s.L v,b,b',O)
    | _=>none
   | _,_,_,_,_=>none
  | _,_,_=>none
 | none=>none
def uq(x:Option (Int × Value × Nat × Nat × Obj)):Nat:=match x with
 | some (_,_,_,b,_)=>b
 | none=>0
theorem vU{P:Program}{N p:Nat}{oo:Option Oper}{s:Cfg}{k:Int}{v:Value}{b:Nat}{O:Obj}(h:m5 P N p oo s=some (k,v,b,b,O)) :
  ∃o t m x y kt et ik,oo=some o /\ o.guard=none /\ (o.op=.mapUpdate t m x y \/ o.op=.insert t m x y) /\ gB s.L m=true /\ gB s.L x=true /\ gB s.L y=true /\ fG s.L m=.map (some b) /\ fG s.L x=.int .i64 k /\ fG s.L y=v /\ P.underlying t=some (.map kt et) /\ P.underlying kt=some (.int ik) /\ s.A[p]?=some (b,.obj O) /\ (dV N o.dst undef s.L).isSome=true:=by
 unfold m5 at h;split at h
 case h_2=>cases h
 rename_i o;split at h
 case h_3=>cases h
 all_goals
  rename_i t m x y h1 h2 h3;split at h
  case h_2=>cases h
  rename_i b1 k1 kt et b2 O1 h4 h5 h6 h7 h8;split at h
  case h_2=>cases h
  rename_i ik h9;simp only[Option.some.injEq,Prod.mk.injEq] at h;obtain⟨e1,e2,e3,e4,e5⟩:=h;subst e1;subst e3;subst e4;subst e5;rw[abe,abe] at h4
 ·exact⟨o,t,m,x,y,kt,et,ik,rfl,h1,.inl h2,h4.1,h4.2.1,h4.2.2,h5,h6,e2,h7,h9,h8,h3⟩
 ·exact⟨o,t,m,x,y,kt,et,ik,rfl,h1,.inr h2,h4.1,h4.2.1,h4.2.2,h5,h6,e2,h7,h9,h8,h3⟩
theorem Pz(p:Nat){kv:List (Int × Value × Nat)}{cl:Nat}{k:Int}{v:Value}(hk:RN r P N D F w0 R (Gs p (jY (mi kv cl k v) (g9 kv cl k)) (eH N undef s)) Q)
  (h:m5 P N p (fN s) s=some (k,v,uq (m5 P N p (fN s) s),uq (m5 P N p (fN s) s),jY kv cl):=by kernel_rfl):RN r P N D F w0 R s Q:=by
 obtain⟨o,t,m,x,y,kt,et,ik,q0,q1,q2,q3,WD,Ub,q4,q5,WB,q6,q7,D_,SY⟩:=vU h;refine⟨λ hR a w hF aT hB=>?_⟩;generalize uq (m5 P N p (fN s) s)=b at *;obtain⟨c,kk,L,A,Ts⟩:=s;unfold fN at q0;cases c with
 | code c=>cases q0
 | ex c=>cases q0
 | drw _ _=>cases q0
 | ops ops j =>
  simp only at q0 q3 WD Ub q4 q5 WB D_ SY hF aT;have rW:ops.toList.drop j=o::ops.toList.drop (j+1):=by
   have g_:j<ops.toList.length:=(List.getElem?_eq_some_iff.1 q0).1;rw[List.drop_eq_getElem_cons g_,(List.getElem?_eq_some_iff.1 q0).2]
  show wpListIn _ _ _ _ _ _ _ _;rw[rW,wpListIn,if_pos (by simp[Region.wanted,q1])];refine⟨λ _ _=>trivial,?_⟩;have hb:=aT.holds _ (aav _ (aav _ (List.mem_of_getElem? D_)));simp only[Blk.den] at hb;obtain⟨L',hl⟩:=dU SY undef;have Tf:eH N undef ⟨.ops ops j,kk,L,A,Ts⟩=⟨.ops ops (j+1),kk,L',A,Ts⟩:=by
   unfold eH;simp only[q0,hl]
  have hh:=hk.h hR;rw[Tf] at hh;have e1:a.eval m=.map (some b):=(hF.eval q3).trans q4;have e2:a.eval x=.int .i64 k:=(hF.eval WD).trans q5;have e3:a.eval y=v:=(hF.eval Ub).trans WB;have VU:=re (P:=P) (w:=w) (k:=k) (v:=v) q6 q7 hb;have hex:(execOp a.eval o).run P w=.ok .skip { w with heap:=w.heap.setIfInBounds b (jY (mi kv cl k v) (g9 kv cl k)) }:=by
   rcases q2 with q2|q2
   ·simp only[execOp,q2,e1,e2,e3,abp,VU,Result.andThen];rfl
   ·simp only[execOp,q2,e1,e2,e3,abp,VU,Result.andThen];rfl
  have Tl:∀c,o.op ≠ .defer c:=by
   intro c hc;rcases q2 with q2|q2 <;> rw[q2] at hc <;> cases hc
  rw[Oper.semAt_eq _ _ _ Tl,hex,Oper.uponIn_skip];have g_:=bL hb;rw[dY] at aT;have G_:=aT.upd (w':={ w with heap:=w.heap.setIfInBounds b (jY (mi kv cl k v) (g9 kv cl k)) }) (bl':=.obj (jY (mi kv cl k v) (g9 kv cl k))) D_ (by
   show (w.heap.setIfInBounds b _)[b]?=_;rw[Array.getElem?_setIfInBounds_self_of_lt g_];rfl) (λ k' US=>by
   show (w.heap.setIfInBounds b _)[k']?=_;rw[Array.getElem?_setIfInBounds_ne (λ e=>US e.symm)])
  refine hh _ _ (hF.put hl) ?_ (hB.trans ⟨rfl,rfl,rfl,by simp,λ k hk=>by omega⟩);show Rel (ap (match A[p]? with|some x=>aR A p (x.1,.obj (jY (mi kv cl k v) (g9 kv cl k)))|none=>A) Ts++F) _;rw[D_,dY];exact G_
end
section
variable {r:Option Nat} {P:Program} {N:Nat} {D:List Deferred} {F:HL} {w0:World} {R:HL} {s:Cfg} {Q:Exit -> Act -> World -> Prop} {hards:List Nat}
theorem Mq{i:Nat}(p:Nat){kv:List (Int × Value × Nat)}{cl:Nat}{k:Int}{v:Value}(hk:RD r P N D F w0 R hards [] (Gs p (jY (mi kv cl k v) (g9 kv cl k)) (rL N i undef s)) Q)
  (h:m5 P N p (cX i s) s=some (k,v,uq (m5 P N p (cX i s) s),uq (m5 P N p (cX i s) s),jY kv cl):=by kernel_rfl) (hx:hards.contains i=true:=by kernel_rfl):RDO r P N D F w0 R hards [] i s Q:=by
 obtain⟨o,t,m,x,y,kt,et,ik,q0,q1,q2,q3,WD,Ub,q4,q5,WB,q6,q7,D_,SY⟩:=vU h;generalize uq (m5 P N p (cX i s) s)=b at *;obtain⟨c,kk,L,A,Ts⟩:=s;unfold cX at q0;cases c with
 | code c=>cases q0
 | ex c=>cases q0
 | ops _ _=>cases q0
 | drw ops li =>
  refine⟨λ hR=>?_⟩;simp only at q0 q3 WD Ub q4 q5 WB D_ SY;have Tf:∀v L',dV N o.dst v L=some L' -> rL N i v ⟨.drw ops li,kk,L,A,Ts⟩=⟨.drw ops (aR li i true),kk,L',A,Ts⟩:=by
   intro v L' hl;unfold rL;simp only[q0,hl]
  have iD:∀L':FL,Gs p (jY (mi kv cl k v) (g9 kv cl k)) ⟨.drw ops (aR li i true),kk,L',A,Ts⟩=⟨.drw ops (aR li i true),kk,L',aR A p (b,.obj (jY (mi kv cl k v) (g9 kv cl k))),Ts⟩:=by
   intro L';unfold Gs;simp only[D_]
  refine(lR (Q:=Q) (by simpa using q0) (σ:=Unit) (λ u _=>u=undef) (λ _=>ap (aR A p (b,.obj (jY (mi kv cl k v) (g9 kv cl k)))) Ts) SY (λ a hF=>⟨by simp[Region.wanted,q1],λ w aT hB=>?_⟩) (λ _=>⟨λ hi=>?_,λ _ x hm=>by cases hm⟩) ?_:RDO r P N D F w0 R hards [] i ⟨.drw ops li,kk,L,A,Ts⟩ Q).h hR
  ·have hb:=aT.holds _ (aav _ (aav _ (List.mem_of_getElem? D_)));simp only[Blk.den] at hb;have e1:a.eval m=.map (some b):=(hF.eval q3).trans q4;have e2:a.eval x=.int .i64 k:=(hF.eval WD).trans q5;have e3:a.eval y=v:=(hF.eval Ub).trans WB;have VU:=re (P:=P) (w:=w) (k:=k) (v:=v) q6 q7 hb;have hex:(execOp a.eval o).run P w=.ok .skip { w with heap:=w.heap.setIfInBounds b (jY (mi kv cl k v) (g9 kv cl k)) }:=by
    rcases q2 with q2|q2
    ·simp only[execOp,q2,e1,e2,e3,abp,VU,Result.andThen];rfl
    ·simp only[execOp,q2,e1,e2,e3,abp,VU,Result.andThen];rfl
   unfold dW;rw[hex];have g_:=bL hb;rw[dY] at aT;have G_:=aT.upd (w':={ w with heap:=w.heap.setIfInBounds b (jY (mi kv cl k v) (g9 kv cl k)) }) (bl':=.obj (jY (mi kv cl k v) (g9 kv cl k))) D_ (by
    show (w.heap.setIfInBounds b _)[b]?=_;rw[Array.getElem?_setIfInBounds_self_of_lt g_];rfl) (λ k' US=>by
    show (w.heap.setIfInBounds b _)[k']?=_;rw[Array.getElem?_setIfInBounds_ne (λ e=>US e.symm)])
   exact⟨(),rfl,by rw[dY];exact G_,⟨rfl,rfl,rfl,by simp,λ k hk=>by omega⟩⟩
  ·exact absurd (List.contains_iff_mem.1 hx) hi
  ·rintro u _ rfl L' Of hs;have h3:=hk.h hR;rw[Tf _ L' Of,iD] at h3;exact h3 hs
end
end Go.Proofs.YtghjbimijeinfaaGreatDoor
namespace Go.Proofs.YtghjbimijeinfaaGreatDoor
open Go.RowKit Go.Shelf
def xk(k:Int × Int):Value:=.agg #[vI k.1,vI k.2]
def xl(x:(Int × Int) × Value × Nat):MapEntry:={ key:=xk x.1,val:=x.2.1,born:=x.2.2 }
abbrev kG(kv:List ((Int × Int) × Value × Nat))(c:Nat):Obj:=.map ⟨kv.map xl⟩ c
def ln:List ((Int × Int) × Value × Nat) -> Int × Int -> Nat -> Option (Nat × Value)
 | [],_,_=>none
 | x::l,k,i=>if (k.1 == x.1.1 && k.2 == x.1.2)=true then some (i,x.2.1) else ln l k (i+1)
def B8(kv:List ((Int × Int) × Value × Nat))(k:Int × Int):Option Value:=(ln kv k 0).map (·.2)
def mj(kv:List ((Int × Int) × Value × Nat))(c:Nat)(k:Int × Int)(v:Value):List ((Int × Int) × Value × Nat):=match ln kv k 0 with
 | some (i,_)=>kv.modify i (λ x=>(k,v,x.2.2))
 | none=>kv++[(k,v,c)]
def hO(kv:List ((Int × Int) × Value × Nat))(c:Nat)(k:Int × Int):Nat:=match ln kv k 0 with
 | some _=>c
 | none=>c+1
theorem vV(k:Int × Int):∀ (kv:List ((Int × Int) × Value × Nat)) (i j:Nat) (v:Value),ln kv k i=some (j,v) -> i <= j /\ ∃n,kv[j-i]?=some (k,v,n)
 | [],_,_,_,h=>by cases h
 | x::l,i,j,v,h=>by
  rw[ln] at h;split at h
  ·rename_i hk;simp only[Option.some.injEq,Prod.mk.injEq] at h;obtain⟨rfl,rfl⟩:=h;have e:k=x.1:=by
    rw[abe,beq_iff_eq,beq_iff_eq] at hk;exact Prod.ext hk.1 hk.2
   subst e;exact⟨aaS _,x.2.2,by simp⟩
  ·obtain⟨h1,n,h2⟩:=vV k l (i+1) j v h;refine⟨by omega,n,?_⟩;rw[show j-i=(j-(i+1))+1 by omega,List.getElem?_cons_succ];exact h2
def kH(P:Program)(t:TypeId):Bool:=match P.underlying t with
 | some (.struct fs)=>match fs.toList with
  | [f,g]=>f.name != "_" && (g.name != "_" && (f.offset == 0 && (g.offset == 1 && ((match P.underlying f.type with | some (.int _)=>true | _=>false) && ((match P.underlying g.type with | some (.int _)=>true | _=>false) && !P.stoodInHeld t)))))
  | _=>false
 | _=>false
theorem oq {P:Program} {t:TypeId} (h:kH P t=true):∃ f g ik ik',P.underlying t=some (.struct #[f,g]) /\ f.name ≠ "_" /\ g.name ≠ "_" /\ f.offset=0 /\ g.offset=1 /\ P.underlying f.type=some (.int ik) /\ P.underlying g.type=some (.int ik') /\ P.stoodInHeld t=false:=by
 unfold kH at h;split at h
 case h_2=>cases h
 rename_i fs hu;split at h
 case h_2=>cases h
 rename_i f g hf;simp only[abe,bne_iff_ne,beq_iff_eq,Bool.not_eq_true'] at h;obtain⟨h1,h2,h3,h4,h5,h6,h7⟩:=h;have e:fs=#[f,g]:=by cases fs;simp_all
 subst e;split at h5
 case h_2=>cases h5
 split at h6
 case h_2=>cases h6
 exact⟨f,g,_,_,hu,h1,h2,h3,h4,‹_›,‹_›,h7⟩
theorem xm{P:Program}{t:TypeId}{ik:IntKind}(h:P.underlying t=some (.int ik)){cs:Array Value}{o:Nat}{v:Value}(hv:cs[o]?=some v)(w:World):(part t cs o).run P w=.ok v w:=by
 simp[part,isAgg,abp,aE h,Result.andThen,hv]
theorem tK{P:Program}{kt:TypeId}(hk:kH P kt=true)(e:Bool)(k:Int × Int)(w:World):(Instr.checkKey e 10000 kt (xk k)).run P w=.ok () w:=by
 obtain⟨f,g,ik,ik',h1,h2,h3,h4,h5,h6,h7,h8⟩:=oq hk;have q:∀ (t:TypeId) (i:IntKind) (x:Int),P.underlying t=some (.int i) -> (Instr.checkKey e 9999 t (vI x)).run P w=.ok () w:=by
  intro t i x ht;rw[show (9999:Nat)=9998+1 from rfl,Instr.checkKey.eq_def];simp only;rw[abp,aE ht];rfl
 rw[show (10000:Nat)=9999+1 from rfl,Instr.checkKey.eq_def];simp only;rw[abp,aE h1];have p1:(part f.type #[vI k.1,vI k.2] f.offset).run P w=.ok (vI k.1) w:=xm h6 (by rw[h4];rfl) w;have p2:(part g.type #[vI k.1,vI k.2] g.offset).run P w=.ok (vI k.2) w:=xm h7 (by rw[h5];rfl) w;simp[xk,Result.andThen,abp,h2,h3,p1,p2,q _ _ _ h6,q _ _ _ h7]
theorem Mr{P:Program}{kt:TypeId}(hk:kH P kt=true)(a b:Int × Int)(w:World):(Op.equal kt (xk a) (xk b)).run P w=.ok (a.1 == b.1 && a.2 == b.2) w:=by
 obtain⟨f,g,ik,ik',h1,h2,h3,h4,h5,h6,h7,h8⟩:=oq hk;have hfs:P.fieldsOf kt=#[f,g]:=by unfold Program.fieldsOf;rw[h1]
 show (Op.equalIn (9999+1) kt (.agg #[vI a.1,vI a.2]) (.agg #[vI b.1,vI b.2])).run P w=_;rw[run_equalIn_struct w 9999 kt _ _ (by rw[hfs];exact h1) h8,hfs];have p1:∀k:Int × Int,(part f.type #[vI k.1,vI k.2] f.offset).run P w=.ok (vI k.1) w:=λ k=>xm h6 (by rw[h4];rfl) w;have p2:∀k:Int × Int,(part g.type #[vI k.1,vI k.2] g.offset).run P w=.ok (vI k.2) w:=λ k=>xm h7 (by rw[h5];rfl) w;have e1:=λ x y=>run_equalIn_int w 9998 f.type .i64 ik x y h6;have e2:=λ x y=>run_equalIn_int w 9998 g.type .i64 ik' x y h7;cases hx:a.1 == b.1 <;> cases hy:a.2 == b.2 <;> simp[Op.eqFields,abp,h2,h3,p1,p2,Result.andThen,show (9999:Nat)=9998+1 from rfl,e1,e2,hx,hy]
theorem pr{P:Program}{kt:TypeId}(hk:kH P kt=true)(k:Int × Int)(w:World):∀ (kv:List ((Int × Int) × Value × Nat)) (i:Nat),(Instr.findAsking kt (xk k) (kv.map xl) i).run P w=.ok (ln kv k i) w
 | [],_=>rfl
 | x::l,i=>by
  rw[List.map_cons,Instr.findAsking,ln,abp,show (xl x).key=xk x.1 from rfl,Mr hk];cases h:(k.1 == x.1.1 && k.2 == x.1.2) with
  | true=>simp[Result.andThen,xl]
  | false=>simpa [Result.andThen] using pr hk k w l (i+1)
theorem vW{P:Program}{kt:TypeId}(hk:kH P kt=true)(k:Int × Int)(kv:List ((Int × Int) × Value × Nat))(w:World):(Instr.findKey kt (xk k) (kv.map xl)).run P w=.ok (ln kv k 0) w:=by
 obtain⟨f,g,ik,ik',h1,h2,h3,h4,h5,h6,h7,h8⟩:=oq hk;unfold Instr.findKey;rw[abp,aE h1];cases kv with
 | nil=>rfl
 | cons x l =>
  simp only[Result.andThen,List.map_cons,Instr.findNow,xk,Instr.sameNow];exact pr hk k w (x::l) 0
abbrev P1(kv:List ((Int × Int) × Value × Nat))(k:Int × Int)(ok:Bool)(z:Value):Value:=if ok=true then .tuple #[(B8 kv k).getD z,.bool (B8 kv k).isSome] else (B8 kv k).getD z
theorem z6{P:Program}{w:World}{t kt et:TypeId}{b c:Nat}{kv:List ((Int × Int) × Value × Nat)}{k:Int × Int}{z:Value}{i:TypeInfo}(ok:Bool)(ht:P.underlying t=some (.map kt et))(hk:kH P kt=true)(hi:P.info? et=some i)(hz:i.zero=some z)(hb:w.heap[b]?=some (kG kv c)) :
  (Instr.lookup t (.map (some b)) (xk k) ok).run P w=.ok (P1 kv k ok z) w:=by
 unfold Instr.lookup;rw[abp,aE ht];simp only[Result.andThen,abp,f5 hb,cf,tK hk,vW hk];unfold P1 B8;cases h:ln kv k 0 with
 | some x =>
  obtain⟨j,v⟩:=x;cases ok <;> rfl
 | none =>
  simp only[zeroValue,abp,dG hi,Result.andThen,hz,cf];cases ok <;> rfl
theorem rf{P:Program}{w:World}{t kt et:TypeId}{b c:Nat}{kv:List ((Int × Int) × Value × Nat)}{k:Int × Int}{v:Value}(ht:P.underlying t=some (.map kt et))(hk:kH P kt=true)(hb:w.heap[b]?=some (kG kv c)) :
  (Instr.mapUpdate t (.map (some b)) (xk k) v).run P w=.ok () { w with heap:=w.heap.setIfInBounds b (kG (mj kv c k v) (hO kv c k)) }:=by
 unfold Instr.mapUpdate;rw[abp,aE ht];simp only[Result.andThen,abp,f5 hb,tK hk,vW hk];unfold mj hO;cases h:ln kv k 0 with
 | none =>
  simp only[lm hb];congr 3;simp[xl]
 | some x =>
  obtain⟨j,u⟩:=x;obtain⟨h1,n,h2⟩:=vV k kv 0 j u h;rw[Nat.sub_zero] at h2;have hks:((⟨kv.map xl⟩:Array MapEntry)[j]?).map (·.key)=some (xk k):=by simp[h2,xl]
  simp only[abp,hks,Option.getD_some];have WW:(Instr.keyThatStays (xk k) (xk k)).run P w=.ok (xk k) w:=by
   unfold Instr.keyThatStays;rw[show (10000:Nat)=9998+1+1 from rfl,if_pos (by simp[Instr.sameBits,xk])];rfl
  rw[WW];refine(lm hb _).trans ?_;congr 3;simp only[Obj.map.injEq,and_true];apply Array.toList_inj.1;simp only[Array.toList_modify];apply List.ext_getElem?;intro m;simp only[List.getElem?_modify,abv]
  by_cases e:j=m
  ·subst e;simp[h2,xl]
  ·simp[e]
def rD(P:Program)(N p:Nat)(oo:Option Oper)(s:Cfg):Option (Value × Bool × Value × Nat × Nat × Obj):=match oo with
 | some o=>match o.guard,o.op,(dV N o.dst undef s.L).isSome with
  | none,.lookup t x ix ok,true=>match gB s.L x && gB s.L ix,fG s.L x,P.underlying t,s.A[p]? with
   | true,.map (some b),some (.map kt et),some (b',.obj O)=>match kH P kt,(P.info? et).bind (·.zero) with
    | true,some z=>some (fG s.L ix,ok,z,b,b',O)
    | _,_=>none
   | _,_,_,_=>none
  | _,_,_=>none
 | none=>none
def Ms(x:Option (Value × Bool × Value × Nat × Nat × Obj)):Nat:=match x with
 | some (_,_,_,b,_,_)=>b
 | none=>0
def Mt(x:Option (Value × Bool × Value × Nat × Nat × Obj)):Value:=match x with
 | some (_,_,z,_,_,_)=>z
 | none=>undef
theorem FW{P:Program}{N p:Nat}{oo:Option Oper}{s:Cfg}{kk:Value}{ok:Bool}{z:Value}{b:Nat}{O:Obj}(h:rD P N p oo s=some (kk,ok,z,b,b,O)) :
  ∃o t x ix kt et i,oo=some o /\ o.guard=none /\ o.op=.lookup t x ix ok /\ (gB s.L x && gB s.L ix)=true /\ fG s.L x=.map (some b) /\ fG s.L ix=kk /\ P.underlying t=some (.map kt et) /\ kH P kt=true /\ P.info? et=some i /\ i.zero=some z /\ s.A[p]?=some (b,.obj O) /\ (dV N o.dst undef s.L).isSome=true:=by
 unfold rD at h;split at h
 case h_2=>cases h
 rename_i o;split at h
 case h_2=>cases h
 rename_i t x ix ok' h1 h2 h3;split at h
 case h_2=>cases h
 rename_i b1 kt et b2 O1 h4 h5 h7 h8;split at h
 case h_2=>cases h
 rename_i z1 h9 Ti;simp only[Option.some.injEq,Prod.mk.injEq] at h;obtain⟨e1,e2,e3,e4,e5,e6⟩:=h;subst e2;subst e3;subst e4;subst e5;subst e6;rw[Option.bind_eq_some_iff] at Ti;obtain⟨i,hi,hz⟩:=Ti;exact⟨o,t,x,ix,kt,et,i,rfl,h1,h2,h4,h5,e1,h7,h9,hi,hz,h8,h3⟩
def m6(P:Program)(N p:Nat)(oo:Option Oper)(s:Cfg):Option (Value × Value × Nat × Nat × Obj):=match oo with
 | some o=>match o.guard,o.op,(dV N o.dst undef s.L).isSome with
  | none,.mapUpdate t m x v,true=>match gB s.L m && (gB s.L x && gB s.L v),fG s.L m,P.underlying t,s.A[p]? with
   | true,.map (some b),some (.map kt _),some (b',.obj O)=>match kH P kt with
    | true=>some (fG s.L x,fG s.L v,b,b',O)
    | _=>none
   | _,_,_,_=>none
  | none,.insert t m x v,true=>match gB s.L m && (gB s.L x && gB s.L v),fG s.L m,P.underlying t,s.A[p]? with
   | true,.map (some b),some (.map kt _),some (b',.obj O)=>match kH P kt with
    | true=>some (fG s.L x,fG s.L v,b,b',O)
    | _=>none
   | _,_,_,_=>none
  | _,_,_=>none
 | none=>none
def ur(x:Option (Value × Value × Nat × Nat × Obj)):Nat:=match x with
 | some (_,_,b,_,_)=>b
 | none=>0
theorem vX{P:Program}{N p:Nat}{oo:Option Oper}{s:Cfg}{kk:Value}{v:Value}{b:Nat}{O:Obj}(h:m6 P N p oo s=some (kk,v,b,b,O)) :
  ∃o t m x y kt et,oo=some o /\ o.guard=none /\ (o.op=.mapUpdate t m x y \/ o.op=.insert t m x y) /\ gB s.L m=true /\ gB s.L x=true /\ gB s.L y=true /\ fG s.L m=.map (some b) /\ fG s.L x=kk /\ fG s.L y=v /\ P.underlying t=some (.map kt et) /\ kH P kt=true /\ s.A[p]?=some (b,.obj O) /\ (dV N o.dst undef s.L).isSome=true:=by
 unfold m6 at h;split at h
 case h_2=>cases h
 rename_i o;split at h
 case h_3=>cases h
 all_goals
  rename_i t m x y h1 h2 h3;split at h
  case h_2=>cases h
  rename_i b1 kt et b2 O1 h4 h5 h7 h8;split at h
  case h_2=>cases h
  rename_i h9;simp only[Option.some.injEq,Prod.mk.injEq] at h;obtain⟨e1,e2,e3,e4,e5⟩:=h;subst e3;subst e4;subst e5;rw[abe,abe] at h4
 ·exact⟨o,t,m,x,y,kt,et,rfl,h1,.inl h2,h4.1,h4.2.1,h4.2.2,h5,e1,e2,h7,h9,h8,h3⟩
 ·exact⟨o,t,m,x,y,kt,et,rfl,h1,.inr h2,h4.1,h4.2.1,h4.2.2,h5,e1,e2,h7,h9,h8,h3⟩
section
variable {r:Option Nat} {P:Program} {N:Nat} {D:List Deferred} {F:HL} {w0:World} {R:HL} {s:Cfg} {Q:Exit -> Act -> World -> Prop} {hards:List Nat} {Rd:HL}
theorem PA(p:Nat){kv:List ((Int × Int) × Value × Nat)}{cl:Nat}(k:Int × Int){v:Value}(hk:RN r P N D F w0 R (Gs p (kG (mj kv cl k v) (hO kv cl k)) (eH N undef s)) Q)
  (h:m6 P N p (fN s) s=some (.agg #[vI k.1,vI k.2],v,ur (m6 P N p (fN s) s),ur (m6 P N p (fN s) s),kG kv cl):=by kernel_rfl):RN r P N D F w0 R s Q:=by
 obtain⟨o,t,m,x,y,kt,et,q0,q1,q2,q3,WD,Ub,q4,q5,WB,q6,q7,D_,SY⟩:=vX h;refine⟨λ hR a w hF aT hB=>?_⟩;generalize ur (m6 P N p (fN s) s)=b at *;obtain⟨c,kk,L,A,Ts⟩:=s;unfold fN at q0;cases c with
 | code c=>cases q0
 | ex c=>cases q0
 | drw _ _=>cases q0
 | ops ops j =>
  simp only at q0 q3 WD Ub q4 q5 WB D_ SY hF aT;have rW:ops.toList.drop j=o::ops.toList.drop (j+1):=by
   have g_:j<ops.toList.length:=(List.getElem?_eq_some_iff.1 q0).1;rw[List.drop_eq_getElem_cons g_,(List.getElem?_eq_some_iff.1 q0).2]
  show wpListIn _ _ _ _ _ _ _ _;rw[rW,wpListIn,if_pos (by simp[Region.wanted,q1])];refine⟨λ _ _=>trivial,?_⟩;have hb:=aT.holds _ (aav _ (aav _ (List.mem_of_getElem? D_)));simp only[Blk.den] at hb;obtain⟨L',hl⟩:=dU SY undef;have Tf:eH N undef ⟨.ops ops j,kk,L,A,Ts⟩=⟨.ops ops (j+1),kk,L',A,Ts⟩:=by
   unfold eH;simp only[q0,hl]
  have hh:=hk.h hR;rw[Tf] at hh;have e1:a.eval m=.map (some b):=(hF.eval q3).trans q4;have e2:a.eval x=xk k:=(hF.eval WD).trans q5;have e3:a.eval y=v:=(hF.eval Ub).trans WB;have VU:=rf (P:=P) (w:=w) (k:=k) (v:=v) q6 q7 hb;have hex:(execOp a.eval o).run P w=.ok .skip { w with heap:=w.heap.setIfInBounds b (kG (mj kv cl k v) (hO kv cl k)) }:=by
   rcases q2 with q2|q2
   ·simp only[execOp,q2,e1,e2,e3,abp,VU,Result.andThen];rfl
   ·simp only[execOp,q2,e1,e2,e3,abp,VU,Result.andThen];rfl
  have Tl:∀c,o.op ≠ .defer c:=by
   intro c hc;rcases q2 with q2|q2 <;> rw[q2] at hc <;> cases hc
  rw[Oper.semAt_eq _ _ _ Tl,hex,Oper.uponIn_skip];have g_:=bL hb;rw[dY] at aT;have G_:=aT.upd (w':={ w with heap:=w.heap.setIfInBounds b (kG (mj kv cl k v) (hO kv cl k)) }) (bl':=.obj (kG (mj kv cl k v) (hO kv cl k))) D_ (by
   show (w.heap.setIfInBounds b _)[b]?=_;rw[Array.getElem?_setIfInBounds_self_of_lt g_];rfl) (λ k' US=>by
   show (w.heap.setIfInBounds b _)[k']?=_;rw[Array.getElem?_setIfInBounds_ne (λ e=>US e.symm)])
  refine hh _ _ (hF.put hl) ?_ (hB.trans ⟨rfl,rfl,rfl,by simp,λ k hk=>by omega⟩);show Rel (ap (match A[p]? with|some x=>aR A p (x.1,.obj (kG (mj kv cl k v) (hO kv cl k)))|none=>A) Ts++F) _;rw[D_,dY];exact G_
theorem RDO.val{i:Nat}{o:Oper}{v:Value}(q0:cX i s=some o)(q1:o.guard=none)(SY:(dV N o.dst undef s.L).isSome=true)
  (he:∀ (a:Act) (w:World),Fm N D s.L a -> Rel (ap s.A s.Ts++F) w -> dW P o a w λ u w'=>u=v /\ w'=w)
  (hk:RD r P N D F w0 R hards Rd (rL N i v s) Q) (hx:hards.contains i=false):RDO r P N D F w0 R hards Rd i s Q:=by
 obtain⟨c,k,L,A,Ts⟩:=s;unfold cX at q0;cases c with
 | code c=>cases q0
 | ex c=>cases q0
 | ops _ _=>cases q0
 | drw ops li =>
  refine⟨λ hR=>?_⟩;simp only at q0 SY he;have Tf:∀v L',dV N o.dst v L=some L' -> rL N i v ⟨.drw ops li,k,L,A,Ts⟩=⟨.drw ops (aR li i true),k,L',A,Ts⟩:=by
   intro v L' hl;unfold rL;simp only[q0,hl]
  refine(lR (Q:=Q) (by simpa using q0) (σ:=Unit) (λ u _=>u=v) (λ _=>ap A Ts) SY (λ a hF=>⟨by simp[Region.wanted,q1],λ w aT hB=>f6 (he a w hF aT) λ u w' h=>?_⟩) (λ _=>⟨λ _=>⟨[],rfl⟩,λ hi=>?_⟩) ?_:RDO r P N D F w0 R hards Rd i ⟨.drw ops li,k,L,A,Ts⟩ Q).h hR
  ·obtain⟨rfl,rfl⟩:=h;exact⟨(),rfl,aT,Below.refl _ _⟩
  ·have h3:hards.contains i=true:=List.contains_iff_mem.2 hi;rw[hx] at h3;cases h3
  ·rintro u _ rfl L' Of hs;have h3:=hk.h hR;rw[Tf _ L' Of] at h3;exact h3 hs
theorem Mu{i:Nat}(p:Nat){kv:List (Int × Value × Nat)}{cl:Nat}{k:Int}{ok:Bool}{z v:Value}(ev:KE kv k ok z=v)(hk:RD r P N D F w0 R hards Rd (rL N i v s) Q)
  (h:pq P N p (cX i s) s=some (k,ok,z,zZ (pq P N p (cX i s) s),zZ (pq P N p (cX i s) s),jY kv cl):=by kernel_rfl) (hx:hards.contains i=false:=by kernel_rfl):RDO r P N D F w0 R hards Rd i s Q:=by
 subst ev;obtain⟨o,t,x,ix,kt,et,i',ik,q0,q1,q2,q3,q4,q5,q6,q7,q8,q9,D_,SY⟩:=vT h;refine RDO.val q0 q1 SY (λ a w hF aT=>?_) hk hx;rw[abe] at q3;have hb:=aT.holds _ (aav _ (aav _ (List.mem_of_getElem? D_)));simp only[Blk.den] at hb;have e1:a.eval x=.map (some _):=(hF.eval q3.1).trans q4;have e2:a.eval ix=.int .i64 k:=(hF.eval q3.2).trans q5;have:=rd (P:=P) (w:=w) (k:=k) ok q6 q7 q8 q9 hb;have hex:(execOp a.eval o).run P w=.ok (.value (KE kv k ok z)) w:=by
  simp only[execOp,q2,e1,e2,abp,this,Result.andThen];rfl
 unfold dW;rw[hex];exact⟨rfl,rfl⟩
theorem Mv{i:Nat}(p:Nat){kv:List ((Int × Int) × Value × Nat)}{cl:Nat}(k:Int × Int){ok:Bool}{v:Value}(ev:P1 kv k ok (Mt (rD P N p (cX i s) s))=v)(hk:RD r P N D F w0 R hards Rd (rL N i v s) Q)
  (h:rD P N p (cX i s) s=some (.agg #[vI k.1,vI k.2],ok,Mt (rD P N p (cX i s) s),Ms (rD P N p (cX i s) s),Ms (rD P N p (cX i s) s),kG kv cl):=by kernel_rfl) (hx:hards.contains i=false:=by kernel_rfl):RDO r P N D F w0 R hards Rd i s Q:=by
 subst ev;obtain⟨o,t,x,ix,kt,et,i',q0,q1,q2,q3,q4,q5,q6,q7,q8,q9,D_,SY⟩:=FW h;refine RDO.val q0 q1 SY (λ a w hF aT=>?_) hk hx;rw[abe] at q3;have hb:=aT.holds _ (aav _ (aav _ (List.mem_of_getElem? D_)));simp only[Blk.den] at hb;have e1:a.eval x=.map (some _):=(hF.eval q3.1).trans q4;have e2:a.eval ix=xk k:=(hF.eval q3.2).trans q5;have:=z6 (P:=P) (w:=w) (k:=k) ok q6 q7 q8 q9 hb;have hex:(execOp a.eval o).run P w=.ok (.value (P1 kv k ok (Mt (rD P N p (cX i s) s)))) w:=by
  simp only[execOp,q2,e1,e2,abp,this,Result.andThen];rfl
 unfold dW;rw[hex];exact⟨rfl,rfl⟩
theorem Mw{i:Nat}(p:Nat){kv:List ((Int × Int) × Value × Nat)}{cl:Nat}(k:Int × Int){v:Value}(hk:RD r P N D F w0 R hards [] (Gs p (kG (mj kv cl k v) (hO kv cl k)) (rL N i undef s)) Q)
  (h:m6 P N p (cX i s) s=some (.agg #[vI k.1,vI k.2],v,ur (m6 P N p (cX i s) s),ur (m6 P N p (cX i s) s),kG kv cl):=by kernel_rfl) (hx:hards.contains i=true:=by kernel_rfl):RDO r P N D F w0 R hards [] i s Q:=by
 obtain⟨o,t,m,x,y,kt,et,q0,q1,q2,q3,WD,Ub,q4,q5,WB,q6,q7,D_,SY⟩:=vX h;generalize ur (m6 P N p (cX i s) s)=b at *;obtain⟨c,kk,L,A,Ts⟩:=s;unfold cX at q0;cases c with
 | code c=>cases q0
 | ex c=>cases q0
 | ops _ _=>cases q0
 | drw ops li =>
  refine⟨λ hR=>?_⟩;simp only at q0 q3 WD Ub q4 q5 WB D_ SY;have Tf:∀v L',dV N o.dst v L=some L' -> rL N i v ⟨.drw ops li,kk,L,A,Ts⟩=⟨.drw ops (aR li i true),kk,L',A,Ts⟩:=by
   intro v L' hl;unfold rL;simp only[q0,hl]
  have iD:∀L':FL,Gs p (kG (mj kv cl k v) (hO kv cl k)) ⟨.drw ops (aR li i true),kk,L',A,Ts⟩=⟨.drw ops (aR li i true),kk,L',aR A p (b,.obj (kG (mj kv cl k v) (hO kv cl k))),Ts⟩:=by
   intro L';unfold Gs;simp only[D_]
  refine(lR (Q:=Q) (by simpa using q0) (σ:=Unit) (λ u _=>u=undef) (λ _=>ap (aR A p (b,.obj (kG (mj kv cl k v) (hO kv cl k)))) Ts) SY (λ a hF=>⟨by simp[Region.wanted,q1],λ w aT hB=>?_⟩) (λ _=>⟨λ hi=>?_,λ _ x hm=>by cases hm⟩) ?_:RDO r P N D F w0 R hards [] i ⟨.drw ops li,kk,L,A,Ts⟩ Q).h hR
  ·have hb:=aT.holds _ (aav _ (aav _ (List.mem_of_getElem? D_)));simp only[Blk.den] at hb;have e1:a.eval m=.map (some b):=(hF.eval q3).trans q4;have e2:a.eval x=xk k:=(hF.eval WD).trans q5;have e3:a.eval y=v:=(hF.eval Ub).trans WB;have VU:=rf (P:=P) (w:=w) (k:=k) (v:=v) q6 q7 hb;have hex:(execOp a.eval o).run P w=.ok .skip { w with heap:=w.heap.setIfInBounds b (kG (mj kv cl k v) (hO kv cl k)) }:=by
    rcases q2 with q2|q2
    ·simp only[execOp,q2,e1,e2,e3,abp,VU,Result.andThen];rfl
    ·simp only[execOp,q2,e1,e2,e3,abp,VU,Result.andThen];rfl
   unfold dW;rw[hex];have g_:=bL hb;rw[dY] at aT;have G_:=aT.upd (w':={ w with heap:=w.heap.setIfInBounds b (kG (mj kv cl k v) (hO kv cl k)) }) (bl':=.obj (kG (mj kv cl k v) (hO kv cl k))) D_ (by
    show (w.heap.setIfInBounds b _)[b]?=_;rw[Array.getElem?_setIfInBounds_self_of_lt g_];rfl) (λ k' US=>by
    show (w.heap.setIfInBounds b _)[k']?=_;rw[Array.getElem?_setIfInBounds_ne (λ e=>US e.symm)])
   exact⟨(),rfl,by rw[dY];exact G_,⟨rfl,rfl,rfl,by simp,λ k hk=>by omega⟩⟩
  ·exact absurd (List.contains_iff_mem.1 hx) hi
  ·rintro u _ rfl L' Of hs;have h3:=hk.h hR;rw[Tf _ L' Of,iD] at h3;exact h3 hs
end
end Go.Proofs.YtghjbimijeinfaaGreatDoor
