import Derived.Test.YtdppjkjbghbnjaaGreatDoorC18
set_option maxHeartbeats 4000000
set_option maxRecDepth 100000
set_option linter.all false
namespace Go.Proofs.YtdppjkjbghbnjaaGreatDoor
open Go.RowKit Go.Shelf
abbrev IvN:=Int × Value × Nat
def sR(x:Int × Value × Nat):MapEntry:={ key:=vI x.1,val:=x.2.1,born:=x.2.2 }
abbrev cN(kv:List IvN)(c:Nat):Obj:=.map ⟨kv.map sR⟩ c
def oA:List IvN -> Int -> Nat -> Option (Nat × Value)
 | [],_,_=>none
 | x::l,k,i=>if (k == x.1)=true then some (i,x.2.1) else oA l k (i+1)
def sS(kv:List IvN)(k:Int):Option Value:=(oA kv k 0).map (·.2)
def Bm(kv:List IvN)(c:Nat)(k:Int)(v:Value):List IvN:=match oA kv k 0 with
 | some (i,_)=>kv.modify i (λ x=>(k,v,x.2.2))
 | none=>kv++[(k,v,c)]
def sd(kv:List IvN)(c:Nat)(k:Int):Nat:=match oA kv k 0 with
 | some _=>c
 | none=>c+1
def oB(kv:List IvN)(k:Int):List IvN:=match oA kv k 0 with
 | some (i,_)=>kv.eraseIdx i
 | none=>kv
theorem mg(k:Int):∀ (kv:List IvN) (i j:Nat) (v:Value),oA kv k i=some (j,v) -> i <= j /\ ∃n,kv[j-i]?=some (k,v,n)
 | [],_,_,_,h=>by cases h
 | x::l,i,j,v,h=>by
  rw[oA] at h;split at h
  ·rename_i hk;simp only[Option.some.injEq,Prod.mk.injEq] at h;obtain⟨rfl,rfl⟩:=h;have e:k=x.1:=by simpa using hk
   subst e;exact⟨aaK _,x.2.2,by simp⟩
  ·obtain⟨h1,n,h2⟩:=mg k l (i+1) j v h;refine⟨by omega,n,?_⟩;rw[show j-i=(j-(i+1))+1 by omega,List.getElem?_cons_succ];exact h2
theorem uC(ik:IntKind)(k:Int):∀ (kv:List IvN) (i:Nat),Instr.findNow (.int ik) (vI k) (kv.map sR) i=some (oA kv k i)
 | [],_=>rfl
 | x::l,i=>by
  rw[List.map_cons,Instr.findNow,oA];simp only[Instr.sameNow,sR,if_true];cases h:(k == x.1) with
  | true=>simp
  | false=>simp[uC ik k l (i+1)]
theorem pz{P:Program}{kt:TypeId}{ik:IntKind}(hk:P.underlying kt=some (.int ik))(k:Int)(kv:List IvN)(w:World):(Instr.findKey kt (vI k) (kv.map sR)).run P w=.ok (oA kv k 0) w:=by
 unfold Instr.findKey;rw[aa4,aG hk];simp only[Result.andThen,uC];rfl
theorem nr{P:Program}{kt:TypeId}{ik:IntKind}(hk:P.underlying kt=some (.int ik))(e:Bool)(k:Int)(w:World):(Instr.checkKey e 10000 kt (vI k)).run P w=.ok () w:=by
 rw[show (10000:Nat)=9999+1 from rfl,Instr.checkKey.eq_def];simp only;rw[aa4,aG hk];rfl
abbrev Kl(kv:List IvN)(k:Int)(ok:Bool)(z:Value):Value:=if ok=true then .tuple #[(sS kv k).getD z,.bool (sS kv k).isSome] else (sS kv k).getD z
theorem yX{P:Program}{w:World}{t kt et:TypeId}{ik:IntKind}{b c:Nat}{kv:List IvN}{k:Int}{z:Value}{i:TypeInfo}(ok:Bool)(ht:P.underlying t=some (.map kt et))(hk:P.underlying kt=some (.int ik))(hi:P.info? et=some i)(hz:i.zero=some z)(hb:w.heap[b]?=some (cN kv c)) :
  (Instr.lookup t (.map (some b)) (vI k) ok).run P w=.ok (Kl kv k ok z) w:=by
 unfold Instr.lookup;rw[aa4,aG ht];simp only[Result.andThen,aa4,gq hb,cq,nr hk,pz hk];unfold Kl sS;cases h:oA kv k 0 with
 | some x =>
  obtain⟨j,v⟩:=x;cases ok <;> rfl
 | none =>
  simp only[zeroValue,aa4,cZ hi,Result.andThen,hz,cq];cases ok <;> rfl
theorem kJ{P:Program}{w:World}{b n:Nat}{es:Array MapEntry}(hb:w.heap[b]?=some (.map es n))(o:Obj):(setObj b o).run P w=.ok () { w with heap:=w.heap.setIfInBounds b o }:=by
 unfold setObj;rw[Sem.run.eq_def];simp only[hb];rfl
theorem yY{P:Program}{w:World}{t kt et:TypeId}{ik:IntKind}{b c:Nat}{kv:List IvN}{k:Int}{v:Value}(ht:P.underlying t=some (.map kt et))(hk:P.underlying kt=some (.int ik))(hb:w.heap[b]?=some (cN kv c)) :
  (Instr.mapUpdate t (.map (some b)) (vI k) v).run P w=.ok () { w with heap:=w.heap.setIfInBounds b (cN (Bm kv c k v) (sd kv c k)) }:=by
 unfold Instr.mapUpdate;rw[aa4,aG ht];simp only[Result.andThen,aa4,gq hb,nr hk,pz hk];unfold Bm sd;cases h:oA kv k 0 with
 | none =>
  simp only[kJ hb];congr 3;simp[sR]
 | some x =>
  obtain⟨j,u⟩:=x;obtain⟨h1,n,h2⟩:=mg k kv 0 j u h;rw[Nat.sub_zero] at h2;have hks:((⟨kv.map sR⟩:Array MapEntry)[j]?).map (·.key)=some (vI k):=by simp[h2,sR]
  simp only[aa4,hks,Option.getD_some];have abR:(Instr.keyThatStays (vI k) (vI k)).run P w=.ok (vI k) w:=by
   unfold Instr.keyThatStays;rw[show (10000:Nat)=9999+1 from rfl,if_pos (by simp[Instr.sameBits])];rfl
  rw[abR];refine(kJ hb _).trans ?_;congr 3;simp only[Obj.map.injEq,and_true];apply Array.toList_inj.1;simp only[Array.toList_modify];apply List.ext_getElem?;intro m;simp only[List.getElem?_modify,List.getElem?_map]
  by_cases e:j=m
  ·subst e;simp[h2,sR]
  ·simp[e]
theorem mL{α β:Type}(f:α -> β):∀ (l:List α) (j:Nat),(l.map f).eraseIdx j=(l.eraseIdx j).map f
 | [],_=>rfl
 | _::_,0=>rfl
 | x::l,j+1=>by simp[mL f l j]
theorem yZ{P:Program}{w:World}{t kt et ty x:TypeId}{ik:IntKind}{b c:Nat}{kv:List IvN}{k:Int}(ht:P.underlying t=some (.map kt et))(hk:P.underlying kt=some (.int ik))(hb:w.heap[b]?=some (cN kv c)) :
  (Builtin.delete_ #[t,x] ty #[.map (some b),vI k]).run P w=.ok (.tuple #[]) { w with heap:=w.heap.setIfInBounds b (cN (oB kv k) c) }:=by
 unfold Builtin.delete_;simp only[List.getElem?_toArray,List.getElem?_cons_zero,List.getElem?_cons_succ];rw[aa4,aG ht];simp only[Result.andThen,aa4,gq hb,nr hk,pz hk];unfold oB;cases h:oA kv k 0 with
 | none =>
  simp only[aa4,kJ hb];rfl
 | some x =>
  obtain⟨j,u⟩:=x;obtain⟨h1,n,h2⟩:=mg k kv 0 j u h;rw[Nat.sub_zero] at h2;have hj:j<kv.length:=(List.getElem?_eq_some_iff.1 h2).1;simp only[aa4,kJ hb];show Result.ok _ _=_;congr 3;simp only[Obj.map.injEq,and_true];apply Array.toList_inj.1;rw[Array.eraseIdxIfInBounds,dif_pos (by simpa using hj)];show ((kv.map sR).toArray.eraseIdx j _).toList=_;rw[List.eraseIdx_toArray];exact mL sR kv j
def JH(P:Program)(N p:Nat)(oo:Option Oper)(s:Cfg):Option (Int × Bool × Value × Nat × Nat × Obj):=match oo with
 | some o=>match o.guard,o.op,(eh N o.dst undef s.L).isSome with
  | none,.lookup t x ix ok,true=>match gh s.L x && gh s.L ix,eZ s.L x,eZ s.L ix,P.underlying t,s.A[p]? with
   | true,.map (some b),.int .i64 k,some (.map kt et),some (b',.obj O)=>match P.underlying kt,(P.info? et).bind (·.zero) with
    | some (.int _),some z=>some (k,ok,z,b,b',O)
    | _,_=>none
   | _,_,_,_,_=>none
  | _,_,_=>none
 | none=>none
def QO(x:Option (Int × Bool × Value × Nat × Nat × Obj)):Nat:=match x with
 | some (_,_,_,_,b,_)=>b
 | none=>0
theorem Fg{P:Program}{N p:Nat}{oo:Option Oper}{s:Cfg}{k:Int}{ok:Bool}{z:Value}{b:Nat}{O:Obj}(h:JH P N p oo s=some (k,ok,z,b,b,O)) :
  ∃o t x ix kt et i ik,oo=some o /\ o.guard=none /\ o.op=.lookup t x ix ok /\ (gh s.L x && gh s.L ix)=true /\ eZ s.L x=.map (some b) /\ eZ s.L ix=.int .i64 k /\ P.underlying t=some (.map kt et) /\ P.underlying kt=some (.int ik) /\ P.info? et=some i /\ i.zero=some z /\ s.A[p]?=some (b,.obj O) /\ (eh N o.dst undef s.L).isSome=true:=by
 unfold JH at h;split at h
 case h_2=>cases h
 rename_i o;split at h
 case h_2=>cases h
 rename_i t x ix ok' h1 h2 h3;split at h
 case h_2=>cases h
 rename_i b1 k1 kt et b2 O1 h4 h5 h6 h7 h8;split at h
 case h_2=>cases h
 rename_i ik z1 h9 Uh;simp only[Option.some.injEq,Prod.mk.injEq] at h;obtain⟨e1,e2,e3,e4,e5,e6⟩:=h;subst e1;subst e2;subst e3;subst e4;subst e5;subst e6;rw[Option.bind_eq_some_iff] at Uh;obtain⟨i,hi,hz⟩:=Uh;exact⟨o,t,x,ix,kt,et,i,ik,rfl,h1,h2,h4,h5,h6,h7,h9,hi,hz,h8,h3⟩
section
variable {r:Option Nat} {P:Program} {N:Nat} {D:List Deferred} {F:HL} {w0:World} {R:HL} {s:Cfg} {Q:Exit -> Act -> World -> Prop} {hards:List Nat} {Rd:HL}
theorem v7(p:Nat){kv:List IvN}{cl:Nat}{k:Int}{ok:Bool}{z v:Value}(ev:Kl kv k ok z=v)(hk:RN r P N D F w0 R (dP N v s) Q)
  (h:JH P N p (gi s) s=some (k,ok,z,QO (JH P N p (gi s) s),QO (JH P N p (gi s) s),cN kv cl):=by kernel_rfl):RN r P N D F w0 R s Q:=by
 subst ev;obtain⟨o,t,x,ix,kt,et,i,ik,q0,q1,q2,q3,q4,q5,q6,q7,q8,q9,IT,SQ⟩:=Fg h;refine⟨λ hR a w hF aT hB=>?_⟩;obtain⟨c,kk,L,A,Ts⟩:=s;unfold gi at q0;cases c with
 | code c=>cases q0
 | ex c=>cases q0
 | drw _ _=>cases q0
 | ops ops j =>
  simp only at q0 q3 q4 q5 IT SQ hF aT;have j_:ops.toList.drop j=o::ops.toList.drop (j+1):=by
   have iF:j<ops.toList.length:=(List.getElem?_eq_some_iff.1 q0).1;rw[List.drop_eq_getElem_cons iF,(List.getElem?_eq_some_iff.1 q0).2]
  show wpListIn _ _ _ _ _ _ _ _;rw[j_,wpListIn,if_pos (by simp[Region.wanted,q1])];refine⟨λ _ _=>trivial,?_⟩;rw[aa0] at q3;have hb:=aT.holds _ (aaA _ (aaA _ (List.mem_of_getElem? IT)));simp only[Blk.den] at hb;obtain⟨L',hl⟩:=cO SQ (Kl kv k ok z);have Sh:dP N (Kl kv k ok z) ⟨.ops ops j,kk,L,A,Ts⟩=⟨.ops ops (j+1),kk,L',A,Ts⟩:=by
   unfold dP;simp only[q0,hl]
  have hh:=hk.h hR;rw[Sh] at hh;have hex:(execOp a.eval o).run P w=.ok (.value (Kl kv k ok z)) w:=by
   have e1:a.eval x=.map (some _):=(hF.eval q3.1).trans q4;have e2:a.eval ix=.int .i64 k:=(hF.eval q3.2).trans q5;have:=yX (P:=P) (w:=w) (k:=k) ok q6 q7 q8 q9 hb;simp only[execOp,q2,e1,e2,aa4,this,Result.andThen];rfl
  rw[Oper.semAt_eq _ _ _ (by rw[q2];intro c hc;cases hc),hex,Oper.uponIn_value];exact hh _ w (hF.put hl) aT hB
def Fh(P:Program)(N p:Nat)(oo:Option Oper)(s:Cfg):Option (Int × Value × Nat × Nat × Obj):=match oo with
 | some o=>match o.guard,o.op,(eh N o.dst undef s.L).isSome with
  | none,.mapUpdate t m x v,true=>match gh s.L m && (gh s.L x && gh s.L v),eZ s.L m,eZ s.L x,P.underlying t,s.A[p]? with
   | true,.map (some b),.int .i64 k,some (.map kt _),some (b',.obj O)=>match P.underlying kt with
    | some (.int _)=>some (k,eZ s.L v,b,b',O)
    | _=>none
   | _,_,_,_,_=>none
  | none,.insert t m x v,true=>match gh s.L m && (gh s.L x && gh s.L v),eZ s.L m,eZ s.L x,P.underlying t,s.A[p]? with
   | true,.map (some b),.int .i64 k,some (.map kt _),some (b',.obj O)=>match P.underlying kt with
    | some (.int _)=>some (k,eZ s.L v,b,b',O)
    | _=>none
   | _,_,_,_,_=>none
  | _,_,_=>none
 | none=>none
def OT(x:Option (Int × Value × Nat × Nat × Obj)):Nat:=match x with
 | some (_,_,_,b,_)=>b
 | none=>0
theorem Fi{P:Program}{N p:Nat}{oo:Option Oper}{s:Cfg}{k:Int}{v:Value}{b:Nat}{O:Obj}(h:Fh P N p oo s=some (k,v,b,b,O)) :
  ∃o t m x y kt et ik,oo=some o /\ o.guard=none /\ (o.op=.mapUpdate t m x y \/ o.op=.insert t m x y) /\ gh s.L m=true /\ gh s.L x=true /\ gh s.L y=true /\ eZ s.L m=.map (some b) /\ eZ s.L x=.int .i64 k /\ eZ s.L y=v /\ P.underlying t=some (.map kt et) /\ P.underlying kt=some (.int ik) /\ s.A[p]?=some (b,.obj O) /\ (eh N o.dst undef s.L).isSome=true:=by
 unfold Fh at h;split at h
 case h_2=>cases h
 rename_i o;split at h
 case h_3=>cases h
 all_goals
  rename_i t m x y h1 h2 h3;split at h
  case h_2=>cases h
  rename_i b1 k1 kt et b2 O1 h4 h5 h6 h7 h8;split at h
  case h_2=>cases h
  rename_i ik h9;simp only[Option.some.injEq,Prod.mk.injEq] at h;obtain⟨e1,e2,e3,e4,e5⟩:=h;subst e1;subst e3;subst e4;subst e5;rw[aa0,aa0] at h4
 ·exact⟨o,t,m,x,y,kt,et,ik,rfl,h1,.inl h2,h4.1,h4.2.1,h4.2.2,h5,h6,e2,h7,h9,h8,h3⟩
 ·exact⟨o,t,m,x,y,kt,et,ik,rfl,h1,.inr h2,h4.1,h4.2.1,h4.2.2,h5,h6,e2,h7,h9,h8,h3⟩
theorem Sc(p:Nat){kv:List IvN}{cl:Nat}{k:Int}{v:Value}(hk:RN r P N D F w0 R (obC p (cN (Bm kv cl k v) (sd kv cl k)) (dP N undef s)) Q)
  (h:Fh P N p (gi s) s=some (k,v,OT (Fh P N p (gi s) s),OT (Fh P N p (gi s) s),cN kv cl):=by kernel_rfl):RN r P N D F w0 R s Q:=by
 obtain⟨o,t,m,x,y,kt,et,ik,q0,q1,q2,q3,q3',abp,q4,q5,q5',q6,q7,IT,SQ⟩:=Fi h;refine⟨λ hR a w hF aT hB=>?_⟩;generalize OT (Fh P N p (gi s) s)=b at *;obtain⟨c,kk,L,A,Ts⟩:=s;unfold gi at q0;cases c with
 | code c=>cases q0
 | ex c=>cases q0
 | drw _ _=>cases q0
 | ops ops j =>
  simp only at q0 q3 q3' abp q4 q5 q5' IT SQ hF aT;have j_:ops.toList.drop j=o::ops.toList.drop (j+1):=by
   have iF:j<ops.toList.length:=(List.getElem?_eq_some_iff.1 q0).1;rw[List.drop_eq_getElem_cons iF,(List.getElem?_eq_some_iff.1 q0).2]
  show wpListIn _ _ _ _ _ _ _ _;rw[j_,wpListIn,if_pos (by simp[Region.wanted,q1])];refine⟨λ _ _=>trivial,?_⟩;have hb:=aT.holds _ (aaA _ (aaA _ (List.mem_of_getElem? IT)));simp only[Blk.den] at hb;obtain⟨L',hl⟩:=cO SQ undef;have Sh:dP N undef ⟨.ops ops j,kk,L,A,Ts⟩=⟨.ops ops (j+1),kk,L',A,Ts⟩:=by
   unfold dP;simp only[q0,hl]
  have hh:=hk.h hR;rw[Sh] at hh;have e1:a.eval m=.map (some b):=(hF.eval q3).trans q4;have e2:a.eval x=.int .i64 k:=(hF.eval q3').trans q5;have e3:a.eval y=v:=(hF.eval abp).trans q5';have hup:=yY (P:=P) (w:=w) (k:=k) (v:=v) q6 q7 hb;have hex:(execOp a.eval o).run P w=.ok .skip { w with heap:=w.heap.setIfInBounds b (cN (Bm kv cl k v) (sd kv cl k)) }:=by
   rcases q2 with q2|q2
   ·simp only[execOp,q2,e1,e2,e3,aa4,hup,Result.andThen];rfl
   ·simp only[execOp,q2,e1,e2,e3,aa4,hup,Result.andThen];rfl
  have UC:∀c,o.op ≠ .defer c:=by
   intro c hc;rcases q2 with q2|q2 <;> rw[q2] at hc <;> cases hc
  rw[Oper.semAt_eq _ _ _ UC,hex,Oper.uponIn_skip];have iF:=cF hb;rw[fA] at aT;have C_:=aT.upd (w':={ w with heap:=w.heap.setIfInBounds b (cN (Bm kv cl k v) (sd kv cl k)) }) (bl':=.obj (cN (Bm kv cl k v) (sd kv cl k))) IT (by
   show (w.heap.setIfInBounds b _)[b]?=_;rw[Array.getElem?_setIfInBounds_self_of_lt iF];rfl) (λ k' VJ=>by
   show (w.heap.setIfInBounds b _)[k']?=_;rw[Array.getElem?_setIfInBounds_ne (λ e=>VJ e.symm)])
  refine hh _ _ (hF.put hl) ?_ (hB.trans ⟨rfl,rfl,rfl,by simp,λ k hk=>by omega⟩);show Rel (ap (match A[p]? with|some x=>bm A p (x.1,.obj (cN (Bm kv cl k v) (sd kv cl k)))|none=>A) Ts++F) _;rw[IT,fA];exact C_
end
def Fj(P:Program)(N p:Nat)(s:Cfg):Option (Int × Nat × Nat × Obj):=match gi s with
 | some o=>match o.guard,o.op,(eh N o.dst undef s.L).isSome with
  | none,.call c,true=>match c.callee,c.args.toList,c.argTypes.toList with
   | .builtin .delete,[m,x],[t,_]=>match gh s.L m && gh s.L x,eZ s.L m,eZ s.L x,P.underlying t,s.A[p]? with
    | true,.map (some b),.int .i64 k,some (.map kt _),some (b',.obj O)=>match P.underlying kt with
     | some (.int _)=>some (k,b,b',O)
     | _=>none
    | _,_,_,_,_=>none
   | _,_,_=>none
  | _,_,_=>none
 | none=>none
def OU(x:Option (Int × Nat × Nat × Obj)):Nat:=match x with
 | some (_,b,_,_)=>b
 | none=>0
theorem Fk{P:Program}{N p:Nat}{s:Cfg}{k:Int}{b:Nat}{O:Obj}(h:Fj P N p s=some (k,b,b,O)) :
  ∃o t tx m x kt et ik,gi s=some o /\ o.guard=none /\ o.op=.call { callee:=.builtin .delete,args:=#[m,x],argTypes:=#[t,tx] } /\ gh s.L m=true /\ gh s.L x=true /\ eZ s.L m=.map (some b) /\ eZ s.L x=vI k /\ P.underlying t=some (.map kt et) /\ P.underlying kt=some (.int ik) /\ s.A[p]?=some (b,.obj O) /\ (eh N o.dst undef s.L).isSome=true:=by
 unfold Fj at h;split at h
 case h_2=>cases h
 rename_i o ho;split at h
 case h_2=>cases h
 rename_i c h1 h2 h3;split at h
 case h_2=>cases h
 rename_i m x t tx g1 g2 g3;split at h
 case h_2=>cases h
 rename_i b1 k1 kt et b2 O1 h4 h5 h6 h7 h8;split at h
 case h_2=>cases h
 rename_i ik h9;simp only[Option.some.injEq,Prod.mk.injEq] at h;obtain⟨e1,e2,e3,e4⟩:=h;subst e1;subst e2;subst e3;subst e4;rw[aa0] at h4;refine⟨o,t,tx,m,x,kt,et,ik,ho,h1,?_,h4.1,h4.2,h5,h6,h7,h9,h8,h3⟩;obtain⟨cal,args,Ym⟩:=c;simp only at g1 g2 g3;subst g1;have e1:args=#[m,x]:=by cases args;simp_all
 have e2:Ym=#[t,tx]:=by cases Ym;simp_all
 rw[h2,e1,e2]
section
variable {r:Option Nat} {P:Program} {N:Nat} {D:List Deferred} {F:HL} {w0:World} {R:HL} {s:Cfg} {Q:Exit -> Act -> World -> Prop}
theorem OV(p:Nat){kv:List IvN}{cl:Nat}{k:Int}(hk:RN r P N D F w0 R (obC p (cN (oB kv k) cl) (dP N (.tuple #[]) s)) Q)
  (h:Fj P N p s=some (k,OU (Fj P N p s),OU (Fj P N p s),cN kv cl):=by kernel_rfl):RN r P N D F w0 R s Q:=by
 obtain⟨o,t,tx,m,x,kt,et,ik,q0,q1,q2,q3,q3',q4,q5,q6,q7,IT,SQ⟩:=Fk h;refine⟨λ hR a w hF aT hB=>?_⟩;generalize OU (Fj P N p s)=b at *;obtain⟨c,kk,L,A,Ts⟩:=s;unfold gi at q0;cases c with
 | code c=>cases q0
 | ex c=>cases q0
 | drw _ _=>cases q0
 | ops ops j =>
  simp only at q0 q3 q3' q4 q5 IT SQ hF aT;have j_:ops.toList.drop j=o::ops.toList.drop (j+1):=by
   have iF:j<ops.toList.length:=(List.getElem?_eq_some_iff.1 q0).1;rw[List.drop_eq_getElem_cons iF,(List.getElem?_eq_some_iff.1 q0).2]
  show wpListIn _ _ _ _ _ _ _ _;rw[j_,wpListIn,if_pos (by simp[Region.wanted,q1])];refine⟨λ _ _=>trivial,?_⟩;have hb:=aT.holds _ (aaA _ (aaA _ (List.mem_of_getElem? IT)));simp only[Blk.den] at hb;have iF:=cF hb;have key:di P o a w λ u w'=>u=.tuple #[] /\ Rel (ap (match A[p]? with|some x=>bm A p (x.1,.obj (cN (oB kv k) cl))|none=>A) Ts++F) w' /\ Below 0 w w':=by
   have e1:a.eval m=.map (some b):=(hF.eval q3).trans q4;have e2:a.eval x=vI k:=(hF.eval q3').trans q5;have iD:=yZ (P:=P) (w:=w) (x:=tx) (ty:=o.type) (k:=k) q6 q7 hb;unfold di;have he:(execOp a.eval o).run P w=.ok (.value (.tuple #[])) { w with heap:=w.heap.setIfInBounds b (cN (oB kv k) cl) }:=by
    simp[execOp,q2,resolve,invoke,builtin,aa4,e1,e2,iD]
   rw[he];rw[fA] at aT;have C_:=aT.upd (w':={ w with heap:=w.heap.setIfInBounds b (cN (oB kv k) cl) }) (bl':=.obj (cN (oB kv k) cl)) IT (by
    show (w.heap.setIfInBounds b _)[b]?=_;rw[Array.getElem?_setIfInBounds_self_of_lt iF];rfl) (λ k' VJ=>by
    show (w.heap.setIfInBounds b _)[k']?=_;rw[Array.getElem?_setIfInBounds_ne (λ e=>VJ e.symm)])
   refine⟨rfl,?_,⟨rfl,rfl,rfl,by simp,λ k hk=>by omega⟩⟩;rw[IT,fA];exact C_
  refine eF (by rw[q2];intro c hc;cases hc) key ?_;rintro u w' ⟨rfl,C_,Tv⟩;obtain⟨L',hl⟩:=cO SQ (.tuple #[]);have hh:=hk.h hR;have Sh:dP N (.tuple #[]) ⟨.ops ops j,kk,L,A,Ts⟩=⟨.ops ops (j+1),kk,L',A,Ts⟩:=by
   unfold dP;simp only[q0,hl]
  rw[Sh] at hh;exact hh _ w' (hF.put hl) C_ (hB.trans Tv)
end
def nu:Enc Rw:=⟨1,λ p k=>match k with|0=>.slice p.A p.n p.c|_=>default,⟨none,0,0⟩⟩
noncomputable def M3:TypeInfo:=match Tryz.prog.info? 58 with | some i=>i | none=>⟨.bool,"",0,0,false,0,0,none,false,#[]⟩
noncomputable def M4:Value:=match M3.zero with|some z=>z|none=>.bool false
theorem OW:EncOk nu Tryz.prog 58 M3 M4 where
 info:=by kernel_rfl
 zero:=by kernel_rfl
 size:=by kernel_rfl
 zsize:=by kernel_rfl
 zcell:=λ k hk=>by
  have h:∀k<1,M4.cells[k]?=some (nu.cell nu.dflt k):=by intro k hk;(iterate 1 (rcases k with _|k;· kernel_rfl));omega
  exact h k hk
 one:=λ x k=>by unfold nu;dsimp only;split <;> rfl
 bytes:=aaJ (by kernel_rfl)
abbrev JI(x:Inp):Value:=.agg #[vI x.dx,vI x.dy,vI x.act]
def OX:Value -> Inp
 | .agg ⟨[.int _ a,.int _ b,.int _ c]⟩=>⟨a,b,c⟩
 | _=>dI
theorem Fl(x:Inp):OX (JI x)=x:=by cases x;rfl
def jk(kv:List IvN)(t:Int):Option Inp:=(sS kv t).map OX
def LocIn(kv:List IvN):Prop:=∀x∈kv,∃y,gl y /\ x.2.1=JI y
theorem LocIn.nil:LocIn []:=λ x hx=>by cases hx
theorem JK{kv:List IvN}{t:Int}{v:Value}(h:sS kv t=some v):∃x∈kv,x.2.1=v:=by
 unfold sS at h;cases e:oA kv t 0 with
 | none=>rw[e] at h;cases h
 | some y =>
  obtain⟨j,u⟩:=y;rw[e] at h;obtain rfl:u=v:=by simpa using h
  obtain⟨_,n,hse_⟩:=mg t kv 0 j u e;exact⟨_,List.mem_of_getElem? hse_,rfl⟩
theorem LocIn.get{kv:List IvN}(h:LocIn kv)(t:Int):(sS kv t=none /\ jk kv t=none) \/ ∃x,gl x /\ sS kv t=some (JI x) /\ jk kv t=some x:=by
 cases e:sS kv t with
 | none=>exact .inl ⟨rfl,by unfold jk;rw[e];rfl⟩
 | some v =>
  obtain⟨x,hx,q2_⟩:=JK e;obtain⟨y,hy,q3_⟩:=h x hx;have q4_:v=JI y:=q2_.symm.trans q3_;exact .inr ⟨y,hy,by rw[q4_],by unfold jk;rw[e,q4_];show some (OX (JI y))=_;rw[Fl]⟩
theorem LocIn.ok{kv:List IvN}(h:LocIn kv){t:Int}{x:Inp}(e:jk kv t=some x):gl x:=by
 rcases h.get t with ⟨_,q2_⟩|⟨y,hy,_,q2_⟩
 ·rw[q2_] at e;cases e
 ·rw[q2_] at e;cases e;exact hy
theorem LocIn.del{kv:List IvN}(h:LocIn kv)(k:Int):LocIn (oB kv k):=by
 intro x hx;unfold oB at hx;split at hx
 ·exact h x (List.mem_of_mem_eraseIdx hx)
 ·exact h x hx
def EfsT(el:List Rw)(Wj:List (List Eff))(T:HL):Prop:=∀F:HL,(∀x∈T,x∈F) -> ∀k,k<el.length -> (el.getD k nu.dflt).n=(Wj.getD k []).length /\ RowL sH 111 F (el.getD k nu.dflt).A (Wj.getD k []).length (Wj.getD k [])
theorem EfsT.nil:EfsT [] [] []:=λ F _ k hk=>absurd hk (Nat.not_lt_zero _)
theorem EfsT.snoc{el:List Rw}{Wj:List (List Eff)}{T T1:HL}{es:List Eff}{A:Option Addr}{c n:Nat}(h:EfsT el Wj T)(hl:el.length=Wj.length)(hs:SlIs sH 111 es A c T1)(hn:n=es.length):EfsT (el++[⟨A,n,c⟩]) (Wj++[es]) (T++T1):=λ F hF k hk=>by
 rw[fQ,fQ,<- hl]
 by_cases SV:k<el.length
 ·rw[if_pos SV,if_pos SV];exact h F (λ x hx=>hF x (aaA _ hx)) k SV
 ·have:k=el.length:=by simp at hk;omega
  rw[if_neg SV,if_neg SV,if_pos this,if_pos this];exact⟨hn,hs.toRowL λ x hx=>hF x (aay _ hx)⟩
theorem EfsT.take{el:List Rw}{Wj:List (List Eff)}{T:HL}(h:EfsT el Wj T)(k:Nat):EfsT (el.take k) (Wj.take k) T:=λ F hF i hi=>by
 rw[aaQ] at hi;have q1_:(Wj.take k).getD i []=Wj.getD i []:=by rw[aaI,aaI,aa7,if_pos (by omega)]
 have q2_:(el.take k).getD i nu.dflt=el.getD i nu.dflt:=by rw[aaI,aaI,aa7,if_pos (by omega)]
 rw[q1_,q2_];exact h F hF i (by omega)
theorem RwsT.more{rs:List Rw}{xss:List (List Inp)}{T:HL}(h:RwsT rs xss T)(T1:HL):RwsT rs xss (T++T1):=λ F hF=>h F λ x hx=>hF x (aaA _ hx)
theorem RwsT.take{rs:List Rw}{xss:List (List Inp)}{T:HL}(h:RwsT rs xss T)(k:Nat):RwsT (rs.take k) (xss.take k) T:=λ F hF=>(h F hF).take k
theorem RwsT.drop{rs:List Rw}{xss:List (List Inp)}{T:HL}(h:RwsT rs xss T)(k:Nat):RwsT (rs.drop k) (xss.drop k) T:=λ F hF=>(h F hF).drop k
theorem RwsT.snocD{rs:List Rw}{xss:List (List Inp)}{T T1:HL}{xs:List Inp}{A:Option Addr}{c n:Nat}(h:RwsT rs xss T)(hs:ClS cL 40 xs A c T1)(h1:1 <= xs.length)(hn:n=xs.length):RwsT (rs++[⟨A,n,c⟩]) (xss++[xs]) (T++T1):=by
 obtain⟨A0,hs⟩:=hs;rcases hs with ⟨rfl,_⟩|⟨b,rfl,rfl,hc⟩
 ·simp at h1
 ·refine h.snoc (A:=some ⟨b,0,none⟩) (c:=c) (T1:=[(b,.rows 3 c (aL cL xs) 40 (0,0))]) (.inr ⟨b,0,xs++List.replicate (c-xs.length) cL.dflt,by simp,?_,by simp;omega,hc,by simp⟩) h1 hn;rw[Nat.zero_add,lm];rfl
theorem RwsT.snocI{rs:List Rw}{xss:List (List Inp)}{T:HL}{p:Rw}{xs:List Inp}(h:RwsT rs xss T)(hp:∀F,(∀x∈T,x∈F) -> RwIn F xs p):RwsT (rs++[p]) (xss++[xs]) T:=λ F hF=>by
 have hse_:=h F hF;refine⟨by simp[hse_.len],λ k hk=>?_⟩;rw[fQ,fQ,<- hse_.len]
 by_cases SV:k<rs.length
 ·rw[if_pos SV,if_pos SV];exact hse_.row k SV
 ·have:k=rs.length:=by simp at hk;omega
  rw[if_neg SV,if_neg SV,if_pos this,if_pos this];exact hp F hF
section
variable {rs_:List Bx} {ds_:List Dr} {bp gb mb:Nat} {S:Setup} {M:MemS} {k:Nat} {G0:HL}
theorem GameX.room(h:GameX rs_ ds_ bp gb mb S M k G0):M.lg.length+k <= 100000000:=by
 obtain⟨_,hm,_⟩:=h.mem;exact hm.len2
theorem GameX.raise(h:GameX rs_ ds_ bp gb mb S M k G0){k':Nat}(hk:M.lg.length+k' <= 100000000):GameX rs_ ds_ bp gb mb S M k' G0:=by
 cases h with
 | mk T U hM hU =>
  refine .mk T U ?_ hU;cases hM with
  | mk cb A cap Hl hs hc hl=>exact .mk cb A cap Hl hs hc hk
theorem QP{F:HL}(h:GameX rs_ ds_ bp gb mb S M k G0)(hF:∀x∈G0,x∈F){e:Int}(he:M.get 0=e):Sp Tryz.prog 52 #[vP gb 0] [] F (λ u H'=>u=vI e /\ H'=[]):=by
 subst he;cases h with
 | mk T U hM hU=>exact rt S bp gb mb M k T F (hF _ (aaA _ (List.mem_singleton.2 rfl))) hM λ x hx=>hF x (by simp[ap,hx])
theorem uD{f:FuncId}{args:Array Value}{F G:HL}{R:Value -> HL -> HL -> Prop}{M2:MemS}{k2:Nat}(h:GameX rs_ ds_ bp gb mb S M k G0)
  (hs:∀ (T X:HL),MemH mb M k T -> Sp Tryz.prog f args (ap [] [G,T]) (X++F) (λ u H'=>∃x:HL × HL,H'=ap [] [x.1,x.2] /\ (R u x.1 [] /\ MemH mb M2 k2 x.2))) :
  Sp Tryz.prog f args (ap [] [G,G0]) F (λ u H'=>∃x:HL × HL,H'=ap [] [x.1,x.2] /\ (R u x.1 [] /\ GameX rs_ ds_ bp gb mb S M2 k2 x.2)):=by
 cases h with
 | mk T U hM hU =>
  have perm:∀A B:HL,(ap [] [A,ap [(gb,Blk.lit (dD S bp mb) 121 (0,0))] [B,U]]).Perm (ap [] [A,B]++((gb,Blk.lit (dD S bp mb) 121 (0,0))::U)):=λ A B=>by
   simp only[ap,aa2,List.flatten_nil,List.append_nil,List.nil_append,aaH,List.cons_append];exact List.Perm.append_left A List.perm_middle.symm
  refine Sp.fr (X:=(gb,Blk.lit (dD S bp mb) 121 (0,0))::U) (perm G T) (hs T _ hM) ?_;rintro u Y ⟨x,rfl,h1,hse_⟩;exact⟨_,⟨(x.1,ap [(gb,Blk.lit (dD S bp mb) 121 (0,0))] [x.2,U]),rfl,h1,.mk x.2 U hse_ hU⟩,perm x.1 x.2⟩
end
theorem Fp{α:Type}(p:α)(Tg Tn Tr Tu Te Tp Tx Tq Ts:List α):(p::(Tg++(Tn++(Tr++(Tu++(Te++(Tp++(Tx++(Tq++Ts))))))))).Perm (Tx++(p::(Tg++(Tn++(Tr++(Tu++(Te++(Tp++(Tq++Ts))))))))):=by
 have h:=List.perm_append_comm_assoc (p::(Tg++(Tn++(Tr++(Tu++(Te++Tp)))))) Tx (Tq++Ts);simpa [aaH] using h
theorem Sd{rb mb w a:Nat}{ms:List Int}{G F:HL}(h:RingH rb mb w a ms G)(hF:∀x∈G,x∈F)(hl:ms.length <= 100000000):Sp Tryz.prog 76 #[vP rb 0] [] F (λ u H'=>u=vI (BU a ms) /\ H'=[]):=by
 cases h with
 | @mk A cap n Hl hs hn h0=>exact BV hs (λ x hx=>hF x (by simp[ap,hx])) hn (by omega) (hF _ (aaA _ aaB))
abbrev pBk(pp pl me w gb rb lb:Nat)(rA:Option Addr)(rn rc ck:Nat)(uA:Option Addr)(un uc:Nat)(eA:Option Addr)(en ec rbk sg:Nat):Nat × Blk:=(pp,.lit [vI (pl:Int),vI (me:Int),vI (w:Int),vP gb 0,vP rb 0,.map (some lb),.slice rA rn rc,vI (ck:Int),.slice uA un uc,.slice eA en ec,vI (rbk:Int),vP sg 0] 102 (0,0))
inductive PeerR(rs_:List Bx)(ds_:List Dr)(bp pp pl me w:Nat)(S:Setup)(J:Nat -> Nat × Int)(P:PS (List Inp))(kv:List IvN)(c sn:Nat)(X:Option (Rw × List Inp)):HL -> Prop
 | mk {gb mb rb lb cl rn rc ck un uc en ec rbk sg smb:Nat} {S2 S3:Setup} {rA uA eA:Option Addr} {rl ul el:List Rw} {N:MemS} {Tg Tn Tr Tu Te Tp Tq Ts:HL}
  (q1_:P.rows.length=rn) (q2_:P.ck=ck) (q3_:P.used.length=un) (q4_:P.effs.length=en) (q5_:P.rb=rbk)
  (hse_:SetEq S S2) (hg:GameX rs_ ds_ bp gb mb S2 P.M 0 Tg) (hb:0 <= P.M.base /\ P.M.base+(P.M.lg.length:Int) <= 20000*(c:Int))
  (hn:RingH rb mb w P.a P.ms Tn) (hkv:LocIn kv)
  (hr:SlIs gD 38 rl rA rc Tr) (hrl:rl.length=rn) (hrr:RwsT rl P.rows Tp)
  (hu:SlX gD 38 ul uA uc Tu) (hul:ul.length=un) (huu:RwsT ul P.used Tp)
  (he:SlIs nu 58 el eA ec Te) (hel:el.length=en) (hee:EfsT el P.effs Tq)
  (hse3_:SetEq S S3) (hs:GameX rs_ ds_ bp sg smb S3 N 99020000 Ts) (hsc:N.cs=WS S J P.rows sn) (hsn:sn <= rn) (hsb:0 <= N.base /\ N.base <= 1000000*(sn:Int)) (hpl:S.players=(pl:Int))
  (hX:∀p xs,X=some (p,xs) -> ∀F:HL,(∀y∈Tp,y∈F) -> RwIn F xs p) :
  PeerR rs_ ds_ bp pp pl me w S J P kv c sn X (ap [(pBk pp pl me w gb rb lb rA rn rc ck uA un uc eA en ec rbk sg),(lb,.obj (cN kv cl))] [Tg,Tn,Tr,Tu,Te,Tp,Tq,Ts])
theorem lJ{rs_:List Bx}{ds_:List Dr}{S2:Setup}{M:MemS}{bp mb k:Nat}{Tg:HL}(pp gb rb lb sg pl me w rn rc ck un uc en ec rbk:Nat)(rA uA eA:Option Addr)(e0:Int)(F:HL)(hp:(pBk pp pl me w gb rb lb rA rn rc ck uA un uc eA en ec rbk sg)∈F)(hG:GameX rs_ ds_ bp gb mb S2 M k Tg)(hT:∀x∈Tg,x∈F)(he0:M.get 0=e0):Sp Tryz.prog 18 #[vP pp 0] [] F (λ u H'=>u=vI e0 /\ H'=[]):=by
 refine aau Tryz.func18 rfl (mc hp mn) (A:=[]) (Ts:=[]) rfl λ w0=>?_;refine ae 11 [.ro 0] λ _=>aai (QP hG (λ x hx=>au (hT x hx)) he0)<|ae 3 [] λ _=>?_;exact aaq [] [] [] ⟨rfl,rfl⟩
theorem mh(pp gb rb lb sg pl me w rn rc ck un uc en ec rbk:Nat)(rA uA eA:Option Addr)(F:HL)(hp:(pBk pp pl me w gb rb lb rA rn rc ck uA un uc eA en ec rbk sg)∈F):Sp Tryz.prog 19 #[vP pp 0] [] F (λ u H'=>u=vI (rn:Int) /\ H'=[]):=by
 refine aau Tryz.func19 rfl (mc hp mn) (A:=[]) (Ts:=[]) rfl λ w0=>?_;refine ae 15 [.ro 0] λ _=>?_;exact aaq [] [] [] ⟨rfl,rfl⟩
theorem Bn{rs_:List Bx}{ds_:List Dr}{S2:Setup}{M:MemS}{bp mb k:Nat}{Tg:HL}(pp gb rb lb sg pl me w rn rc ck un uc en ec rbk:Nat)(rA uA eA:Option Addr)(F:HL)(hp:(pBk pp pl me w gb rb lb rA rn rc ck uA un uc eA en ec rbk sg)∈F)(hG:GameX rs_ ds_ bp gb mb S2 M k Tg)(hT:∀x∈Tg,x∈F):Sp Tryz.prog 28 #[vP pp 0] [] F (λ u H'=>∃q:Nat,H'=ap [(q,.rows 1 M.cs.length (aE M.cs) 3 (0,0))] [] /\ u=vS q 0 M.cs.length M.cs.length):=by
 refine aau Tryz.func28 rfl (mc hp mn) (A:=[]) (Ts:=[]) rfl λ w0=>?_;refine ae 11 [.ro 0] λ _=>aai (uB hG (λ x hx=>au (hT x hx)))<|aaj (Hp:=[]) (Tp:=[]) [] [] (v6 hG (λ x hx=>au (hT x hx))) ?_;rintro _ q1 rfl;refine ae 3 [] λ _=>aaq [] [0] [] (v:=vS q1 0 M.cs.length M.cs.length) (H':=(ap [(q1,.rows 1 M.cs.length (aE M.cs) 3 (0,0))] [])) ?_;exact⟨q1,rfl,rfl⟩
section
variable {rs_:List Bx} {ds_:List Dr} {bp pp pl me w:Nat} {S:Setup} {J:Nat -> Nat × Int} {P:PS (List Inp)} {kv:List IvN} {c sn:Nat} {X:Option (Rw × List Inp)} {G F:HL}
theorem M5(h:PeerR rs_ ds_ bp pp pl me w S J P kv c sn X G)(hF:∀x∈G,x∈F){e:Int}(he:P.M.get 0=e):Sp Tryz.prog 18 #[vP pp 0] [] F (λ u H'=>u=vI e /\ H'=[]):=by
 cases h with
 | mk q1_ q2_ q3_ q4_ q5_ hse_ hg=>exact lJ _ _ _ _ _ _ _ _ _ _ _ _ _ _ _ _ _ _ _ e F (hF _ (aaA _ aaB)) hg (λ x hx=>hF x (by simp[ap,hx])) he
theorem Mi(h:PeerR rs_ ds_ bp pp pl me w S J P kv c sn X G)(hF:∀x∈G,x∈F){cs:List Int}(he:P.M.cs=cs):Sp Tryz.prog 28 #[vP pp 0] (ap [] []) F (λ u H'=>∃q:Nat,H'=ap [(q,.rows 1 cs.length (aE cs) 3 (0,0))] [] /\ u=vS q 0 cs.length cs.length):=by
 subst he;cases h with
 | mk q1_ q2_ q3_ q4_ q5_ hse_ hg=>exact Bn _ _ _ _ _ _ _ _ _ _ _ _ _ _ _ _ _ _ _ F (hF _ (aaA _ aaB)) hg (λ x hx=>hF x (by simp[ap,hx]))
end
end Go.Proofs.YtdppjkjbghbnjaaGreatDoor
namespace Go.Proofs.YtdppjkjbghbnjaaGreatDoor
open Go.RowKit Go.Shelf
def fdC(T:HL)(s:Cfg):Cfg:=match s with
 | ⟨c,k,L,_,_⟩=>⟨c,k,L,[],[T]⟩
theorem Mj{r:Option Nat}{P:Program}{N:Nat}{D:List Deferred}{F:HL}{w0:World}{R:HL}{s:Cfg}{Q:Exit -> Act -> World -> Prop}(B:HL)(Bs:List HL){T:HL}(e:T=ap B Bs)(hk:RN r P N D F w0 R (fdC T s) Q)(h:(s.A,s.Ts)=(B,Bs):=by kernel_rfl):RN r P N D F w0 R s Q:=by
 obtain⟨c,k,L,A,Ts⟩:=s;simp only[Prod.mk.injEq] at h;obtain⟨rfl,rfl⟩:=h;subst e;exact⟨λ hR a w h1 h2 h3=>hk.h hR a w h1 (by simpa [ap,fdC] using h2) h3⟩
theorem JL(v lo hi:Int)(F:HL)(akQ:lo <= v)(afP:v <= hi):Sp Tryz.prog 72 #[vI v,vI lo,vI hi] [] F (λ u H'=>u=.bool true /\ H'=[]):=by
 refine aau Tryz.func72 rfl mn (A:=[]) (Ts:=[]) rfl λ w0=>?_;refine ae 11 [] λ _=>aam (lo <= v) 10 (λ h1=>?_) λ h1=>?_
 ·refine ae 7 [] λ _=>aaq [] [] [] (v:=.bool (decide (v <= hi))) (H':=[]) ?_;exact⟨by rw[aba afP],rfl⟩
 ·(exfalso;omega)
theorem JM(x:Inp)(F:HL)(h:gl x):Sp Tryz.prog 45 #[.agg #[vI x.dx,vI x.dy,vI x.act]] [] F (λ u H'=>u=vI 0 /\ H'=[]):=by
 have Sl:=h;unfold gl at Sl;refine aau Tryz.func45 rfl mn (A:=[]) (Ts:=[]) rfl λ w0=>?_;refine ae 11 [.own 0] λ n1=>aai (JL x.dx (-1) 1 _ (by omega) (by omega))<|ae 4 [.own 0] λ _=>aai (JL x.dy (-1) 1 _ (by omega) (by omega))<|ae 5 [.own 0] λ _=>aai (JL x.act 0 3 _ (by omega) (by omega))<|ae 12 [] λ _=>?_;exact aaq [] [] [] ⟨rfl,rfl⟩
theorem uE{w:Nat}{g g':Nat -> Nat -> Value}:∀ {n:Nat},(∀i k,i<n -> k<w -> g i k=g' i k) -> bg w g n=bg w g' n
 | 0,_=>rfl
 | n+1,h=>by
  rw[bg,bg,uE λ i k hi hk=>h i k (by omega) hk];congr 1;exact List.map_congr_left λ k hk=>h n k (by omega) (List.mem_range.1 hk)
theorem oC{w n:Nat}{g g':Nat -> Nat -> Value}{ty:TypeId}{fz:Nat × Nat}(h:∀i k,i<n -> k<w -> g i k=g' i k):(Blk.rows w n g ty fz).den=(Blk.rows w n g' ty fz).den:=by
 simp only[Blk.den,uE h]
section
variable {r:Option Nat} {P:Program} {N:Nat} {D:List Deferred} {F:HL} {w0:World} {R:HL} {s:Cfg} {Q:Exit -> Act -> World -> Prop}
theorem C5(i:Nat)(a b:Blk)(e:a.den=b.den)(hk:RN r P N D F w0 R (Pp i b s) Q)(h:Pq i s=some a.den:=by kernel_rfl):RN r P N D F w0 R s Q:=aak i b hk (h.trans (congrArg some e))
end
theorem v8(l:List Inp){n k:Nat}(h:k<l.length)(x:Inp):∀i j,i<n -> j<3 -> cT (cT (cT (aL cL l) k 0 (vI x.dx)) k 1 (vI x.dy)) k 2 (vI x.act) i j=aL cL (l.set k x) i j:=λ i j _ hj=>by
 unfold cT aL
 by_cases e:i=k
 ·subst e;rw[dC h];rcases j with _|_|_|j
  ·simp;rfl
  ·simp;rfl
  ·simp;rfl
  ·omega
 ·rw[cW (λ e2=>e e2.symm)];simp[e]
theorem Fq(n:Nat):∀i j,i<n -> j<3 -> kX [vI 0,vI 0,vI 0] i j=aL cL (List.replicate n dI) i j:=λ i j _ hj=>by
 unfold kX aL;have e:(List.replicate n dI).getD i cL.dflt=dI:=by
  rw[aaI,List.getElem?_replicate];split <;> rfl
 rw[e];rcases j with _|_|_|j
 ·rfl
 ·rfl
 ·rfl
 ·omega
theorem JN{pl:Nat}{rows:List (List Inp)}(h:rows=[]):vZ pl rows=List.replicate pl dI:=by subst h;rfl
theorem Fs{pl:Nat}{rows:List (List Inp)}{last l:List Inp}(h1:1 <= rows.length)(hse_:rows.getD (rows.length-1) []=last)(hse3_:l.length=last.length)(h4:∀i,i<last.length -> l.getD i dI=kf (last.getD i dI)):vZ pl rows=l:=by
 unfold vZ;have e:rows.getLast?=some last:=by
  rw[List.getLast?_eq_getElem?,<- hse_,aaI,aaT (by omega)];rfl
 rw[e];show last.map kf=l;refine yQ (d:=dI) (by rw[List.length_map,hse3_]) λ i hi=>?_;rw[List.length_map] at hi;rw[h4 i hi,aaI,List.getElem?_map,aaI,aaT hi];rfl
theorem wa{F:HL}{q pl:Nat}{l:List Inp}(h:l.length=pl)(hq:(q,.rows 3 pl (aL cL l) 40 (0,0))∈F):RwIn F l ⟨some ⟨q,0,none⟩,pl,pl⟩:=by
 subst h;have:=RwIn.mk (F:=F) (xs:=l) q 0 l.length l l.length hq (by omega) (λ k hk=>by rw[Nat.zero_add]) (aaK _);rwa [Nat.zero_mul] at this
theorem JO(pp gb rb lb sg pl me w rn rc ck un uc en ec rbk:Nat)(rA uA eA:Option Addr)(cl t:Nat)(kv:List IvN)(rows:List (List Inp))(rl:List Rw)(Tp F:HL)(hp:(pBk pp pl me w gb rb lb rA rn rc ck uA un uc eA en ec rbk sg)∈F)(hkv:LocIn kv)(hr:RowL gD 38 F rA rn rl)(hT:RwsT rl rows Tp)(hTF:∀x∈Tp,x∈F)(q_:∀r∈rows,RowOk (pl:Int) r)(Sq:rn <= 1000000)(ht8:t <= 1000000)(hpl:1 <= pl /\ pl <= 1000)(VV:me<pl):Sp Tryz.prog 49 #[vP pp 0,vI (t:Int)] [(lb,.obj (cN kv cl))] F (λ u H'=>∃x:Rw × HL,H'=ap [(lb,.obj (cN kv cl))] [x.2] /\ (u=.slice x.1.A x.1.n x.1.c /\ ∀F2,(∀y∈Tp++x.2,y∈F2) -> RwIn F2 (ii pl me rows (jk kv) t) x.1)):=by
 have hw:=hT F hTF;refine aau Tryz.func49 rfl (mc hp mn) (A:=[(lb,.obj (cN kv cl))]) (Ts:=[]) rfl λ w0=>?_;refine ae 17 [.ro 0] λ _=>aam ((t:Int)<(rn:Int)) 17 (λ h1=>?_) λ h1=>?_
 ·have ht_:t<rn:=by omega
  refine ae 8 [.ro 0] λ _=>?_;obtain⟨qx2,ox2,Nx2,fx2,al_,agN,afb,akJ,afR⟩:=hr.at (k:=t) (by omega);refine aK 21 (congrArg (λ v_=>(.slice v_ rn rc:Value)) agN)<|RN.ro (λ _=>(mc hp (mc afb mn)))<|ai 2 [.ix t,.rorow 1 (ox2+t) 0] [(ox2*1+t*1)=(ox2+t)*1+0 /\ (ox2+t)<Nx2,(t:Int)=((t:Nat):Int) /\ t<rn] λ _=>aK 24 (congrArg (λ v_=>(.slice v_.A v_.n v_.c:Value)) afR)<|ae 3 [] λ _=>aaq [] [0] [] (v:=.slice ((rl.getD t gD.dflt).A) ((rl.getD t gD.dflt).n) ((rl.getD t gD.dflt).c)) (H':=(ap [(lb,.obj (cN kv cl))] [])) ?_;refine⟨(⟨(rl.getD t gD.dflt).A,((rl.getD t gD.dflt).n),((rl.getD t gD.dflt).c)⟩,[]),by simp[ap],rfl,λ F2 hF=>?_⟩;rw[ii,if_pos (by rw[<- hw.len,hr.len];exact ht_)];exact(hT F2 λ x hx=>hF x (by simpa using hx)).row t (by rw[hr.len];exact ht_)
 ·refine ai 15 [.ro 0,.mk pl pl] [(pl:Int)=((pl:Nat):Int) /\ (pl:Int)=((pl:Nat):Int) /\ pl <= pl /\ 24*pl <= 140737488355328 /\ 3=3 /\ pl <= 9223372036854775807] λ n3=>C5 0 (.rows 3 pl (kX [vI 0,vI 0,vI 0]) 40 (0,0)) (.rows 3 pl (aL cL (List.replicate pl dI)) 40 (0,0)) (oC (Fq pl))<|ae 15 [.ro 0] λ _=>aam ((rn:Int)>0) 36 (λ h4=>?_) λ h4=>?_
  ·have ae7:1 <= rn:=by omega
   refine ai 9 [.ro 0,.nw] [bn ((rn:Int)-1)] λ _=>?_;obtain⟨qx5,I_,Wm,fx5,aaD,TY,US,ZB,Vq⟩:=hr.at (k:=(rn-1)) (by omega);refine aK 40 (congrArg (λ v_=>(.slice v_ rn rc:Value)) TY)<|RN.ro (λ _=>(mc hp (mc US mn)))<|ai 2 [.ix (rn-1),.rorow 1 (I_+(rn-1)) 0] [(I_*1+(rn-1)*1)=(I_+(rn-1))*1+0 /\ (I_+(rn-1))<Wm,(rn:Int)-1=(((rn-1):Nat):Int) /\ (rn-1)<rn] λ _=>aK 44 (congrArg (λ v_=>(.slice v_.A v_.n v_.c:Value)) Vq) ?_;obtain⟨bk,ok,Nk,fk,ck2,ek,hIk,hik,hxk,hck⟩:=hw.get (k:=rn-1) (by rw[hr.len];omega);obtain⟨last,ID⟩:∃r,rows.getD (rn-1) []=r:=⟨_,rfl⟩;rw[ID] at ek hik hxk hck;have akR:(last.length:Int)=(pl:Int):=by rw[<- ID];exact(q_ _ (jC (by rw[<- hw.len,hr.len];omega) _)).1
   refine aK 44 (congrArg (λ v_:Rw=>Value.slice v_.A v_.n v_.c) ek)<|RN.ro (λ _=>(mc hp (mc US (mc hIk mn))))<|ae 5 [] λ _=>aao (σ:=Nat × List Inp) (λ ⟨k_,l_⟩=>⟨[(0,vP pp 0),(1,vI (t:Int)),(5,vS (n3+0) 0 pl pl),(44,vS bk (ok*3) last.length ck2),(45,vI (last.length:Int)),(46,vI (k_:Int))],[((n3+0),.rows 3 pl (aL cL l_) 40 (0,0)),(lb,.obj (cN kv cl))],[],k_ <= pl /\ l_.length=pl /\ ∀i,i<k_ -> l_.getD i dI=kf (last.getD i dI),pl-k_⟩) (0,List.replicate pl dI) [0,1] [] (⟨aaL _,List.length_replicate,λ i hi=>absurd hi (Nat.not_lt_zero _)⟩) ?_;rintro⟨k_,l_⟩ ⟨Xy,U5,hp_⟩ Xt;refine ae 6 [] λ _=>aam ((k_:Int)<(last.length:Int)) 47 (λ h8=>?_) λ h8=>?_
   ·refine ai 11 [.ix k_,.rorow 2 (ok+k_) 0,.rorow 2 (ok+k_) 1,.rorow 2 (ok+k_) 2] [((ok*3+k_*3)+2)=(ok+k_)*3+2 /\ (ok+k_)<Nk,((ok*3+k_*3)+1)=(ok+k_)*3+1 /\ (ok+k_)<Nk,(ok*3+k_*3)=(ok+k_)*3+0 /\ (ok+k_)<Nk,(k_:Int)=((k_:Nat):Int) /\ k_<last.length] λ n9=>aK 50 (congrArg (λ v_=>(.agg #[vI v_.dx,vI v_.dy,vI v_.act]:Value)) (hxk k_ (by omega)))<|ae 8 (ow 0 6) λ _=>aai (Ji (last.getD k_ dI) _)<|ai 9 [.ix k_,.row 1 k_ 0,.row 1 k_ 1,.row 1 k_ 2,.nw] [bn ((k_:Int)+1),((0+k_*3)+2)=k_*3+2 /\ k_<pl,((0+k_*3)+1)=k_*3+1 /\ k_<pl,(0+k_*3)=k_*3+0 /\ k_<pl,(k_:Int)=((k_:Nat):Int) /\ k_<pl] λ _=>C5 1 (.rows 3 pl (cT (cT (cT (aL cL l_) k_ 0 (vI ((kf (last.getD k_ dI)).dx))) k_ 1 (vI ((kf (last.getD k_ dI)).dy))) k_ 2 (vI ((kf (last.getD k_ dI)).act))) 40 (0,0)) (.rows 3 pl (aL cL (l_.set k_ (kf (last.getD k_ dI)))) 40 (0,0)) (oC (v8 l_ (by omega) _)) ?_;refine Xt (k_+1,(l_.set k_ (kf (last.getD k_ dI)))) [1,2] [] ?_
    try dsimp only
    refine⟨⟨by omega,by rw[List.length_set];exact U5,λ i hi=>?_⟩,by omega⟩
    by_cases ei:k_=i
    ·subst ei;rw[dC (by omega)]
    ·rw[cW ei];exact hp_ i (by omega)
   ·refine ae 8 [] λ _=>?_;have hB_:vZ pl rows=l_:=by
     obtain rfl:k_=last.length:=by omega
     exact Fs (by rw[<- hw.len,hr.len];exact ae7) (by rw[<- hw.len,hr.len];exact ID) (by omega) hp_
    refine ae 6 [.ro 0] λ _=>?_;rcases hkv.get (t:Int) with ⟨Vn,Vm⟩|⟨xl,afE,Vn,Vm⟩
    ·refine v7 1 (kv:=kv) (cl:=cl) (k:=(t:Int)) (ok:=true) (z:=.agg #[vI 0,vI 0,vI 0]) (v:=.tuple #[.agg #[vI 0,vI 0,vI 0],.bool false]) (by simp only[Kl,Vn];rfl)<|ae 17 (aab 3) λ TG=>ae 5 [] λ _=>aaq [] [2,1] [] (v:=vS (n3+0) 0 pl pl) (H':=(ap [(lb,.obj (cN kv cl)),((n3+0),.rows 3 pl (aL cL l_) 40 (0,0))] [])) ?_;have Tj:ii pl me rows (jk kv) t=l_:=by rw[ii,if_neg (by rw[<- hw.len,hr.len];omega),Vm];show _=_;rw[hB_]
     have Vl:l_.length=pl:=by first|exact U5|exact List.length_replicate|(rw[List.length_set];first|exact U5|exact List.length_replicate)
     refine⟨(⟨some ⟨(n3+0),0,none⟩,pl,pl⟩,[((n3+0),.rows 3 pl (aL cL l_) 40 (0,0))]),by simp[ap],rfl,λ F2 hF=>?_⟩;rw[Tj];exact wa Vl (hF _ (aay _ (List.mem_singleton.2 rfl)))
    ·refine v7 1 (kv:=kv) (cl:=cl) (k:=(t:Int)) (ok:=true) (z:=.agg #[vI 0,vI 0,vI 0]) (v:=.tuple #[.agg #[vI xl.dx,vI xl.dy,vI xl.act],.bool true]) (by simp only[Kl,Vn];rfl)<|ae 14 (aab 3) λ n11=>aal [7] []<|aA [] [0,1,5,2,3,4,6] [.own 0,.own 0,.own 0,.ro 0,.ix me] [(me:Int)=((me:Nat):Int) /\ me<pl]<|aae 7 (dM [] [.row 1 me 0,.row 1 me 1,.row 1 me 2] [((0+me*3)+2)=me*3+2 /\ me<pl,((0+me*3)+1)=me*3+1 /\ me<pl,(0+me*3)=me*3+0 /\ me<pl] λ _=>?_);refine aad<|ae 2 [] λ _=>?_;have afz:l_.length=pl:=by first|exact U5|exact List.length_replicate
     refine C5 1 (.rows 3 pl (cT (cT (cT (aL cL l_) me 0 (vI xl.dx)) me 1 (vI xl.dy)) me 2 (vI xl.act)) 40 (0,0)) (.rows 3 pl (aL cL (l_.set me xl)) 40 (0,0)) (oC (v8 l_ (by omega) xl))<|ae 5 [] λ _=>aaq [] [2,1] [] (v:=vS (n3+0) 0 pl pl) (H':=(ap [(lb,.obj (cN kv cl)),((n3+0),.rows 3 pl (aL cL (l_.set me xl)) 40 (0,0))] [])) ?_;have Tj:ii pl me rows (jk kv) t=(l_.set me xl):=by rw[ii,if_neg (by rw[<- hw.len,hr.len];omega),Vm];show _=_;rw[hB_]
     have Vl:(l_.set me xl).length=pl:=by first|exact U5|exact List.length_replicate|(rw[List.length_set];first|exact U5|exact List.length_replicate)
     refine⟨(⟨some ⟨(n3+0),0,none⟩,pl,pl⟩,[((n3+0),.rows 3 pl (aL cL (l_.set me xl)) 40 (0,0))]),by simp[ap],rfl,λ F2 hF=>?_⟩;rw[Tj];exact wa Vl (hF _ (aay _ (List.mem_singleton.2 rfl)))
  ·refine ae 5 [] λ _=>?_;have hB_:vZ pl rows=List.replicate pl dI:=JN (by have h_:=hw.len;rw[hr.len] at h_;exact aaY (by omega));refine ae 6 [.ro 0] λ _=>?_;rcases hkv.get (t:Int) with ⟨Vn,Vm⟩|⟨xl,afE,Vn,Vm⟩
   ·refine v7 1 (kv:=kv) (cl:=cl) (k:=(t:Int)) (ok:=true) (z:=.agg #[vI 0,vI 0,vI 0]) (v:=.tuple #[.agg #[vI 0,vI 0,vI 0],.bool false]) (by simp only[Kl,Vn];rfl)<|ae 17 (aab 3) λ n12=>ae 5 [] λ _=>aaq [] [2,1] [] (v:=vS (n3+0) 0 pl pl) (H':=(ap [(lb,.obj (cN kv cl)),((n3+0),.rows 3 pl (aL cL (List.replicate pl dI)) 40 (0,0))] [])) ?_;have Tj:ii pl me rows (jk kv) t=(List.replicate pl dI):=by rw[ii,if_neg (by rw[<- hw.len,hr.len];omega),Vm];show _=_;rw[hB_]
    have Vl:(List.replicate pl dI).length=pl:=by first|exact U5|exact List.length_replicate|(rw[List.length_set];first|exact U5|exact List.length_replicate)
    refine⟨(⟨some ⟨(n3+0),0,none⟩,pl,pl⟩,[((n3+0),.rows 3 pl (aL cL (List.replicate pl dI)) 40 (0,0))]),by simp[ap],rfl,λ F2 hF=>?_⟩;rw[Tj];exact wa Vl (hF _ (aay _ (List.mem_singleton.2 rfl)))
   ·refine v7 1 (kv:=kv) (cl:=cl) (k:=(t:Int)) (ok:=true) (z:=.agg #[vI 0,vI 0,vI 0]) (v:=.tuple #[.agg #[vI xl.dx,vI xl.dy,vI xl.act],.bool true]) (by simp only[Kl,Vn];rfl)<|ae 14 (aab 3) λ Wp=>aal [7] []<|aA [] [0,1,5,2,3,4,6] [.own 0,.own 0,.own 0,.ro 0,.ix me] [(me:Int)=((me:Nat):Int) /\ me<pl]<|aae 7 (dM [] [.row 1 me 0,.row 1 me 1,.row 1 me 2] [((0+me*3)+2)=me*3+2 /\ me<pl,((0+me*3)+1)=me*3+1 /\ me<pl,(0+me*3)=me*3+0 /\ me<pl] λ _=>?_);refine aad<|ae 2 [] λ _=>?_;have afz:(List.replicate pl dI).length=pl:=by first|exact U5|exact List.length_replicate
    refine C5 1 (.rows 3 pl (cT (cT (cT (aL cL (List.replicate pl dI)) me 0 (vI xl.dx)) me 1 (vI xl.dy)) me 2 (vI xl.act)) 40 (0,0)) (.rows 3 pl (aL cL ((List.replicate pl dI).set me xl)) 40 (0,0)) (oC (v8 (List.replicate pl dI) (by omega) xl))<|ae 5 [] λ _=>aaq [] [2,1] [] (v:=vS (n3+0) 0 pl pl) (H':=(ap [(lb,.obj (cN kv cl)),((n3+0),.rows 3 pl (aL cL ((List.replicate pl dI).set me xl)) 40 (0,0))] [])) ?_;have Tj:ii pl me rows (jk kv) t=((List.replicate pl dI).set me xl):=by rw[ii,if_neg (by rw[<- hw.len,hr.len];omega),Vm];show _=_;rw[hB_]
    have Vl:((List.replicate pl dI).set me xl).length=pl:=by first|exact U5|exact List.length_replicate|(rw[List.length_set];first|exact U5|exact List.length_replicate)
    refine⟨(⟨some ⟨(n3+0),0,none⟩,pl,pl⟩,[((n3+0),.rows 3 pl (aL cL ((List.replicate pl dI).set me xl)) 40 (0,0))]),by simp[ap],rfl,λ F2 hF=>?_⟩;rw[Tj];exact wa Vl (hF _ (aay _ (List.mem_singleton.2 rfl)))
theorem JP{rs_:List Bx}{ds_:List Dr}{bp pp pl me w:Nat}{S:Setup}{J:Nat -> Nat × Int}{P:PS (List Inp)}{kv:List IvN}{c sn:Nat}{X:Option (Rw × List Inp)}{G F:HL}(h:PeerR rs_ ds_ bp pp pl me w S J P kv c sn X G){t:Nat}(q_:∀r∈P.rows,RowOk (pl:Int) r)(Sq:P.rows.length <= 1000000)(ht8:t <= 1000000)(ab4:1 <= pl /\ pl <= 1000)(VV:me<pl):Sp Tryz.prog 49 #[vP pp 0,vI (t:Int)] (ap [] [G]) F (λ u H'=>∃x:Rw × HL,H'=ap [] [x.2] /\ (u=.slice x.1.A x.1.n x.1.c /\ PeerR rs_ ds_ bp pp pl me w S J P kv c sn (some (x.1,ii pl me P.rows (jk kv) t)) x.2)):=by
 cases h with
 | @mk gb mb rb lb cl rn rc ck un uc en ec rbk sg smb S2 S3 rA uA eA rl ul el N Tg Tn Tr Tu Te Tp Tq Ts q1_ q2_ q3_ q4_ q5_ hse_ hg hb hn hkv hr hrl hrr hu hul huu he hel hee hse3_ hs hsc hsn hsb hpl hX =>
  have hm:∀x∈[Tg,Tn,Tr,Tu,Te,Tp,Tq,Ts].flatten,x∈((pBk pp pl me w gb rb lb rA rn rc ck uA un uc eA en ec rbk sg)::[Tg,Tn,Tr,Tu,Te,Tp,Tq,Ts].flatten)++F:=λ x hx=>aaA _ (aaE _ hx);have key:=JO pp gb rb lb sg pl me w rn rc ck un uc en ec rbk rA uA eA cl t kv P.rows rl Tp (((pBk pp pl me w gb rb lb rA rn rc ck uA un uc eA en ec rbk sg)::[Tg,Tn,Tr,Tu,Te,Tp,Tq,Ts].flatten)++F) (aaA _ aaB) hkv (by have h_:=hr.toRowL λ x hx=>hm x (by simp[hx]);rwa [hrl] at h_) hrr (λ x hx=>hm x (by simp[hx])) q_ (by omega) ht8 ab4 VV;refine Sp.fr (X:=(pBk pp pl me w gb rb lb rA rn rc ck uA un uc eA en ec rbk sg)::[Tg,Tn,Tr,Tu,Te,Tp,Tq,Ts].flatten) ?_ (F:=F) key ?_
  ·simp only[ap,aa2,List.flatten_nil,List.append_nil,List.nil_append,List.cons_append,aaH];exact List.Perm.swap _ _ _
  ·rintro u Y ⟨⟨q,Tx⟩,rfl,h4,h5⟩;refine⟨_,⟨(q,ap [(pBk pp pl me w gb rb lb rA rn rc ck uA un uc eA en ec rbk sg),(lb,.obj (cN kv cl))] [Tg,Tn,Tr,Tu,Te,Tp++Tx,Tq,Ts]),(aU _).symm,h4,PeerR.mk q1_ q2_ q3_ q4_ q5_ hse_ hg hb hn hkv hr hrl (hrr.more _) hu hul (huu.more _) he hel hee hse3_ hs hsc hsn hsb hpl (λ p_ xs_ h_ F2 hF=>by cases h_;exact h5 F2 hF)⟩,?_⟩;simp only[ap,aa2,List.flatten_nil,List.append_nil,List.nil_append,List.cons_append,aaH];refine(List.Perm.swap _ _ _).trans (List.Perm.cons _ ?_);exact Fp _ _ _ _ _ _ _ _ _ _
theorem C6{F:HL}{b o N:Nat}{full xs:List Inp}(hI:(b,.rows 3 N (js full) 40 (0,0))∈F)(hi:o+xs.length <= N)(hx:∀k,k<xs.length -> full.getD (o+k) dI=xs.getD k dI){X:HL}:RowL cL 40 (X++F) (some ⟨b,o*3,none⟩) xs.length xs:=.rows b o N full (0,0) _ xs (aay _ hI) hi rfl hx
theorem QQ{rows used:List (List Inp)}{ck k:Nat}(h1:k<used.length)(hse_:ck+k<rows.length)(hse3_:∀i,i<k -> used.getD i []=rows.getD (ck+i) [])(h4:¬ used.getD k []=rows.getD (ck+k) []):wr rows ck used=some (ck+k):=by
 induction used generalizing ck k with
 | nil=>simp at h1
 | cons u l ih =>
  rw[wr,aaT (show ck<rows.length by omega)];have e0:rows.getD ck []=rows[ck]'(by omega):=by rw[aaI,aaT (show ck<rows.length by omega)];rfl
  cases k with
  | zero =>
   simp only[Nat.add_zero] at h4;rw[e0] at h4;simp only[List.getD_cons_zero] at h4;simp only[if_neg h4,Nat.add_zero]
  | succ k =>
   have h5:=hse3_ 0 (by omega);rw[Nat.add_zero,e0] at h5;simp only[List.getD_cons_zero] at h5;simp only[if_pos h5];rw[ih (ck:=ck+1) (k:=k) (by simpa using h1) (by omega) (λ i hi=>by have:=hse3_ (i+1) (by omega);rw[List.getD_cons_succ] at this;rw[this];congr 1;omega) (by rw[List.getD_cons_succ] at h4;rwa [show ck+1+k=ck+(k+1) by omega])];congr 1;omega
theorem C7{rows used:List (List Inp)}{ck k:Nat}(hse3_:∀i,i<k -> used.getD i []=rows.getD (ck+i) [])(h4:used.length <= k \/ rows.length <= ck+k):wr rows ck used=none:=by
 induction used generalizing ck k with
 | nil=>rfl
 | cons u l ih =>
  rw[wr];cases e:rows[ck]? with
  | none=>rfl
  | some r =>
   have hc:ck<rows.length:=(List.getElem?_eq_some_iff.1 e).1;cases k with
   | zero=>simp only[aaS] at h4;omega
   | succ k =>
    have h6:u=r:=by
     have h5:=hse3_ 0 (by omega);rw[Nat.add_zero] at h5;simp only[List.getD_cons_zero] at h5;rw[h5,aaI,e];rfl
    simp only[if_pos h6];exact ih (k:=k) (λ i hi=>by have:=hse3_ (i+1) (by omega);rw[List.getD_cons_succ] at this;rw[this];congr 1;omega) (by simp only[aaS] at h4;omega)
theorem Bo(pp gb rb lb sg pl me w rn rc ck un uc en ec rbk:Nat)(rA uA eA:Option Addr)(rows used:List (List Inp))(rl ul:List Rw)(F:HL)(hp:(pBk pp pl me w gb rb lb rA rn rc ck uA un uc eA en ec rbk sg)∈F)(hr:RowL gD 38 F rA rn rl)(Ve:RwsIn F rl rows)(hu:RowL gD 38 F uA un ul)(hwu:RwsIn F ul used)(hln:∀k,k<un -> (used.getD k []).length <= 1000000)(Sq:rn <= 1000000)(hck:ck <= 1000000)(hun:un <= 1000000):Sp Tryz.prog 47 #[vP pp 0] [] F (λ u H'=>u=.tuple #[vI (((wr rows ck used).getD 0:Nat):Int),.bool (wr rows ck used).isSome] /\ H'=[]):=by
 have TI:=hr.len;have abM:=hu.len;have ahw:=Ve.len;have ahu:=hwu.len;refine aau Tryz.func47 rfl (mc hp mn) (A:=[]) (Ts:=[]) rfl λ w0=>?_;refine ae 18 [.ro 0] λ _=>aao (σ:=Nat) (λ k_=>⟨[(0,vP pp 0),(10,.slice uA un uc),(11,vI (un:Int)),(12,vI (k_:Int))],[],[],k_ <= un /\ ∀i,i<k_ -> ck+i<rn /\ used.getD i []=rows.getD (ck+i) [],un-k_⟩) 0 [] [] (⟨aaL _,λ i hi=>absurd hi (Nat.not_lt_zero _)⟩) ?_;rintro k_ ⟨Xy,Vk⟩ S_;refine ae 6 [] λ _=>aam ((k_:Int)<(un:Int)) 13 (λ h3=>?_) λ h3=>?_
 ·refine ae 8 [] λ _=>?_;obtain⟨qx4,Uz,Nx4,fx4,adu,V5,VT,ab7,WM⟩:=hu.at (k:=k_) (by omega);refine aK 10 (congrArg (λ v_=>(.slice v_ un uc:Value)) V5)<|RN.ro (λ _=>(mc hp (mc VT mn)))<|ai 2 [.ix k_,.rorow 1 (Uz+k_) 0] [(Uz*1+k_*1)=(Uz+k_)*1+0 /\ (Uz+k_)<Nx4,(k_:Int)=((k_:Nat):Int) /\ k_<un] λ _=>aK 16 (congrArg (λ v_=>(.slice v_.A v_.n v_.c:Value)) WM) ?_;obtain⟨bu,ou,Nu,fu,cu,eu,hIu,hiu,hxu,X2⟩:=hwu.get (k:=k_) (by rw[hu.len];omega);refine aK 16 (congrArg (λ v_:Rw=>Value.slice v_.A v_.n v_.c) eu)<|ai 27 [.ro 0,.nw,.ro 0] [bn ((ck:Int)+(k_:Int))] λ _=>aam ((ck:Int)+(k_:Int) >= (rn:Int)) 29 (λ h5=>?_) λ h5=>?_
  ·refine ae 14 [] λ _=>aaq [] [] [] (v:=.tuple #[vI 0,.bool false]) (H':=[]) ?_;exact⟨by rw[C7 (k:=k_) (λ i hi=>(Vk i hi).2) (by omega)];rfl,rfl⟩
  ·refine ae 11 [.ro 0] λ _=>?_;obtain⟨qx6,VC,Nx6,fx6,adt,Xm,WE,ab6,WL⟩:=hr.at (k:=(ck+k_)) (by omega);refine aK 34 (congrArg (λ v_=>(.slice v_ rn rc:Value)) Xm)<|RN.ro (λ _=>(mc hp (mc VT (mc WE mn))))<|ai 2 [.ix (ck+k_),.rorow 2 (VC+(ck+k_)) 0] [(VC*1+(ck+k_)*1)=(VC+(ck+k_))*1+0 /\ (VC+(ck+k_))<Nx6,(ck:Int)+(k_:Int)=(((ck+k_):Nat):Int) /\ (ck+k_)<rn] λ _=>aK 37 (congrArg (λ v_=>(.slice v_.A v_.n v_.c:Value)) WL) ?_;obtain⟨bv,ov,Nv,fv,cv,ev,hIv,hiv,hxv,hcv⟩:=Ve.get (k:=(ck+k_)) (by rw[hr.len];omega);refine aK 37 (congrArg (λ v_:Rw=>Value.slice v_.A v_.n v_.c) ev)<|aai (Jh (some ⟨bu,ou*3,none⟩) (some ⟨bv,ov*3,none⟩) (used.getD k_ []).length cu (rows.getD (ck+k_) []).length cv (used.getD k_ []) (rows.getD (ck+k_) []) _ (C6 hIu hiu hxu) (C6 hIv hiv hxv) (by have h_:=hln k_ (by omega);omega))<|ae 3 [] λ _=>qI ((decide ((used.getD k_ [])=(rows.getD (ck+k_) [])))) 39 (λ h7=>?_) λ h7=>?_
   ·refine ai 8 [.nw] [bn ((k_:Int)+1)] λ _=>aK 10 (congrArg (λ v_=>(.slice v_ un uc:Value)) V5.symm) ?_;refine S_ (k_+1) [] [] ?_
    try dsimp only
    refine⟨⟨by omega,λ i hi=>?_⟩,by omega⟩
    by_cases ei:i=k_
    ·subst ei;exact⟨by omega,aa5 h7⟩
    ·exact Vk i (by omega)
   ·refine ae 8 [] λ _=>aaq [] [] [] (v:=.tuple #[vI ((ck:Int)+(k_:Int)),.bool true]) (H':=[]) ?_;exact⟨by rw[QQ (k:=k_) (by omega) (by omega) (λ i hi=>(Vk i hi).2) (λ e_=>h7 (aba e_))];show _=Value.tuple #[vI ((ck+k_:Nat):Int),.bool true];rfl,rfl⟩
 ·refine ae 12 [] λ _=>aaq [] [] [] (v:=.tuple #[vI 0,.bool false]) (H':=[]) ?_;exact⟨by rw[C7 (k:=k_) (λ i hi=>(Vk i hi).2) (by omega)];rfl,rfl⟩
section
variable {rs_:List Bx} {ds_:List Dr} {bp gb mb:Nat} {S:Setup} {M:MemS} {k:Nat} {G0:HL}
theorem Se{rb w a x:Nat}{ms:List Int}{G F:HL}(hX:GameX rs_ ds_ bp gb mb S M k G0)(hG:RingH rb mb w a ms G)(hx:a <= x /\ x<a+ms.length)(Yv:x <= 1000000)(hl:ms.length <= 100000000)(hr:M.base <= ms.getD (x-a) 0 /\ ms.getD (x-a) 0 <= M.base+(M.lg.length:Int))(Su:∀e∈M.lg.drop (ms.getD (x-a) 0-M.base).toNat,0 <= e.1 /\ e.1<(M.cs.length:Int))(hb:0 <= M.base /\ M.base <= 1000000000):Sp Tryz.prog 74 #[vP rb 0,vI (x:Int)] (ap [] [G,G0]) F (λ u H'=>∃y:HL × HL,H'=ap [] [y.1,y.2] /\ (u=vI 0 /\ RingH rb mb w a (ms.take (x-a+1)) y.1 /\ GameX rs_ ds_ bp gb mb S (lH M (ms.getD (x-a) 0-M.base).toNat) k y.2)):=by
 have h:=uD (F:=F) (G:=G) (R:=λ u A _=>u=vI 0 /\ RingH rb mb w a (ms.take (x-a+1)) A) (M2:=lH M (ms.getD (x-a) 0-M.base).toNat) (k2:=k) (f:=74) (args:=#[vP rb 0,vI (x:Int)]) hX λ T X hM=>(L4 (X++F) hG hx Yv hl hr Su hM hb (aaK _)).mono λ u H' h=>by
  obtain⟨y,h1,hse_,hse3_,h4⟩:=h;exact⟨y,h1,⟨hse_,hse3_⟩,h4⟩
 exact h.mono λ u H' h=>by
  obtain⟨y,h1,⟨hse_,hse3_⟩,h4⟩:=h;exact⟨y,h1,hse_,hse3_,h4⟩
theorem QR{rb w a t:Nat}{ms:List Int}{G F:HL}(hX:GameX rs_ ds_ bp gb mb S M k G0)(hG:RingH rb mb w a ms G)(ht:ms≠[] -> t=a+ms.length)(hr:∀k∈ms,M.base <= k /\ k <= M.base+(M.lg.length:Int))(hb:0 <= M.base /\ M.base <= 1000000000)(hw:1 <= w /\ w <= 13)(Zo:t <= 1000000)(hl:ms.length <= 100000000):Sp Tryz.prog 77 #[vP rb 0,vI (t:Int)] (ap [] [G,G0]) F (λ u H'=>∃y:HL × HL,H'=ap [] [y.1,y.2] /\ (u=vI 0 /\ RingH rb mb w (eD w M a ms t).2.1 (eD w M a ms t).2.2 y.1 /\ GameX rs_ ds_ bp gb mb S (eD w M a ms t).1 k y.2)):=by
 have h:=uD (F:=F) (G:=G) (R:=λ u A _=>u=vI 0 /\ RingH rb mb w (eD w M a ms t).2.1 (eD w M a ms t).2.2 A) (M2:=(eD w M a ms t).1) (k2:=k) (f:=77) (args:=#[vP rb 0,vI (t:Int)]) hX λ T X hM=>(Jg (X++F) hG ht hr hM hb hw (aaK _) Zo hl).mono λ u H' h=>by
  obtain⟨y,h1,hse_,hse3_,h4⟩:=h;exact⟨y,h1,⟨hse_,hse3_⟩,h4⟩
 exact h.mono λ u H' h=>by
  obtain⟨y,h1,⟨hse_,hse3_⟩,h4⟩:=h;exact⟨y,h1,hse_,hse3_,h4⟩
end
theorem Bp{rs_:List Bx}{ds_:List Dr}{bp pp pl me w:Nat}{S:Setup}{J:Nat -> Nat × Int}{P:PS (List Inp)}{kv:List IvN}{c sn:Nat}{X:Option (Rw × List Inp)}{gb mb rb lb cl rn rc ck un uc en ec rbk sg smb:Nat}{S2 S3:Setup}{rA uA eA:Option Addr}{rl ul el:List Rw}{N:MemS}{Tg Tn Tr Tu Te Tp Tq Ts F:HL}(q1_:P.rows.length=rn)(q2_:P.ck=ck)(q3_:P.used.length=un)(q4_:P.effs.length=en)(q5_:P.rb=rbk)(hse_:SetEq S S2)(hg:GameX rs_ ds_ bp gb mb S2 P.M 0 Tg)(hb:0 <= P.M.base /\ P.M.base+(P.M.lg.length:Int) <= 20000*(c:Int))(hn:RingH rb mb w P.a P.ms Tn)(hkv:LocIn kv)(hr:SlIs gD 38 rl rA rc Tr)(hrl:rl.length=rn)(hrr:RwsT rl P.rows Tp)(hu:SlX gD 38 ul uA uc Tu)(hul:ul.length=un)(huu:RwsT ul P.used Tp)(he:SlIs nu 58 el eA ec Te)(hel:el.length=en)(hee:EfsT el P.effs Tq)(hse3_:SetEq S S3)(hs:GameX rs_ ds_ bp sg smb S3 N 99020000 Ts)(hsc:N.cs=WS S J P.rows sn)(hsn:sn <= rn)(hsb:0 <= N.base /\ N.base <= 1000000*(sn:Int))(hpl:S.players=(pl:Int))(hX:∀p xs,X=some (p,xs) -> ∀F:HL,(∀y∈Tp,y∈F) -> RwIn F xs p)(x:Nat)(hx:P.a <= x /\ x<P.a+P.ms.length)(Yv:x <= 1000000)(hl:P.ms.length <= 100000000)(U4:P.M.base <= (P.ms.getD (x-P.a) 0) /\ (P.ms.getD (x-P.a) 0) <= P.M.base+(P.M.lg.length:Int))(Su:∀e∈P.M.lg.drop ((P.ms.getD (x-P.a) 0)-P.M.base).toNat,0 <= e.1 /\ e.1<(P.M.cs.length:Int))(WX:c <= 4000)(hck:ck <= x)(hu1:x-ck <= un)(he1:x <= en)(Zv:rbk <= 1000000):Sp Tryz.prog 48 #[vP pp 0,vI (x:Int)] (ap [(pBk pp pl me w gb rb lb rA rn rc ck uA un uc eA en ec rbk sg),(lb,.obj (cN kv cl))] [Tg,Tn,Tr,Tu,Te,Tp,Tq,Ts]) F (λ u H'=>u=vI 0 /\ PeerR rs_ ds_ bp pp pl me w S J (yO P x) kv c sn none H'):=by
 have Zn:=hu.len;have Tl:=he.capLe;rw[hul] at Zn;rw[hel] at Tl;refine aau Tryz.func48 rfl mn (A:=[(pBk pp pl me w gb rb lb rA rn rc ck uA un uc eA en ec rbk sg),(lb,.obj (cN kv cl))]) (Ts:=[Tg,Tn,Tr,Tu,Te,Tp,Tq,Ts]) rfl λ w0=>?_;refine ae 13 [.own 0] λ _=>aaj [] [1,0] (Se hg hn hx Yv hl U4 Su (by omega)) ?_;rintro _ ⟨T1,T2⟩ ⟨rfl,hn3,hg4⟩;dsimp only at hn3 hg4;refine ai 24 [.own 0,.nw] [bn ((x:Int)-(ck:Int))] λ _=>aK 6 (congrArg (λ v_=>(vI v_:Value)) (show (x:Int)-(ck:Int)=((x-ck:Nat):Int) by omega))<|ae 8 [.own 0] λ _=>zP (A:=uA) (n:=un) (cap:=uc) (l:=0) (h:=x-ck) (m:=x-ck) (sz:=1) (li:=none) (hi:=some ((x-ck:Nat):Int)) (mi:=some ((x-ck:Nat):Int)) rfl rfl rfl (by omega) (by omega) (by omega)<|ae 13 (aab 2) λ _=>zP (A:=eA) (n:=en) (cap:=ec) (l:=0) (h:=x) (m:=ec) (sz:=1) (li:=none) (hi:=some (x:Int)) (mi:=none) rfl rfl rfl (by omega) (by omega) (by omega)<|ai 12 [.own 0,.own 0,.nw] [bn ((rbk:Int)+1)] λ _=>aK 45 (congrArg (λ v_=>(vI v_:Value)) (show (rbk:Int)+1=((rbk+1:Nat):Int) by omega))<|ae 10 [.own 0] λ _=>aaq [] [0,1] [1,0,2,3,4,5,6,7] (v:=vI 0) (H':=(ap [(pp,.lit [vI (pl:Int),vI (me:Int),vI (w:Int),vP gb 0,vP rb 0,.map (some lb),.slice rA rn rc,vI (ck:Int),.slice (zO uA 0 1 (x-ck)) (x-ck-0) (x-ck-0),.slice (zO eA 0 1 ec) (x-0) (ec-0),vI ((rbk+1:Nat):Int),vP sg 0] 102 (0,0)),(lb,.obj (cN kv cl))] [T2,T1,Tr,Tu,Te,Tp,Tq,Ts])) ?_;exact⟨rfl,PeerR.mk q1_ q2_ (show (P.used.take (x-P.ck)).length=x-ck-0 by rw[aaQ,q3_,q2_];omega) (show (P.effs.take x).length=x-0 by rw[aaQ,q4_];omega) (show P.rb+1=rbk+1 by rw[q5_]) hse_ hg4 ⟨hb.1,by show P.M.base+((P.M.lg.take _).length:Int) <= _;rw[aaQ];omega⟩ hn3 hkv hr hrl hrr (hu.cut (k:=0) (h:=x-ck) (m:=x-ck) (aaL _) (by rw[hul];omega) (aaK _) (by omega)) (by rw[aaR,aaQ,hul];omega) (by show RwsT (ul.take (x-ck)) (P.used.take (x-P.ck)) _;rw[q2_];exact huu.take _) ((he.take x).dropI (k:=0) (.inl rfl)) (by rw[aaR,aaQ,hel];omega) (hee.take x) hse3_ hs hsc hsn hsb hpl (λ _ _ h_=>by cases h_)⟩
theorem Bq{rs_:List Bx}{ds_:List Dr}{bp pp pl me w:Nat}{S:Setup}{J:Nat -> Nat × Int}{P:PS (List Inp)}{kv:List IvN}{c sn:Nat}{X:Option (Rw × List Inp)}{G F:HL}(h:PeerR rs_ ds_ bp pp pl me w S J P kv c sn X G){x:Nat}(hx:P.a <= x /\ x<P.a+P.ms.length)(Yv:x <= 1000000)(hl:P.ms.length <= 100000000)(U4:P.M.base <= (P.ms.getD (x-P.a) 0) /\ (P.ms.getD (x-P.a) 0) <= P.M.base+(P.M.lg.length:Int))(Su:∀e∈P.M.lg.drop ((P.ms.getD (x-P.a) 0)-P.M.base).toNat,0 <= e.1 /\ e.1<(P.M.cs.length:Int))(WX:c <= 4000)(hck:P.ck <= x)(hu1:x-P.ck <= P.used.length)(he1:x <= P.effs.length)(Zv:P.rb <= 1000000):Sp Tryz.prog 48 #[vP pp 0,vI (x:Int)] (ap [] [G]) F (λ u H'=>∃T9,H'=ap [] [T9] /\ ((λ u H'=>u=vI 0 /\ PeerR rs_ ds_ bp pp pl me w S J (yO P x) kv c sn none H') u T9)):=by
 rw[aU];cases h with
 | mk q1_ q2_ q3_ q4_ q5_ hse_ hg hb hn hkv hr hrl hrr hu hul huu he hel hee hse3_ hs hsc hsn hsb hpl hX =>
  exact(Bp q1_ q2_ q3_ q4_ q5_ hse_ hg hb hn hkv hr hrl hrr hu hul huu he hel hee hse3_ hs hsc hsn hsb hpl hX x hx Yv hl U4 Su WX (by omega) (by omega) (by omega) (by omega)).tl
theorem za{rs_:List Bx}{ds_:List Dr}{bp pp pl me w:Nat}{S:Setup}{J:Nat -> Nat × Int}{P:PS (List Inp)}{kv:List IvN}{c sn:Nat}{X:Option (Rw × List Inp)}{gb mb rb lb cl rn rc ck un uc en ec rbk sg smb:Nat}{S2 S3:Setup}{rA uA eA:Option Addr}{rl ul el:List Rw}{N:MemS}{Tg Tn Tr Tu Te Tp Tq Ts F:HL}(q1_:P.rows.length=rn)(q2_:P.ck=ck)(q3_:P.used.length=un)(q4_:P.effs.length=en)(q5_:P.rb=rbk)(hse_:SetEq S S2)(hg:GameX rs_ ds_ bp gb mb S2 P.M 0 Tg)(hb:0 <= P.M.base /\ P.M.base+(P.M.lg.length:Int) <= 20000*(c:Int))(hn:RingH rb mb w P.a P.ms Tn)(hkv:LocIn kv)(hr:SlIs gD 38 rl rA rc Tr)(hrl:rl.length=rn)(hrr:RwsT rl P.rows Tp)(hu:SlX gD 38 ul uA uc Tu)(hul:ul.length=un)(huu:RwsT ul P.used Tp)(he:SlIs nu 58 el eA ec Te)(hel:el.length=en)(hee:EfsT el P.effs Tq)(hse3_:SetEq S S3)(hs:GameX rs_ ds_ bp sg smb S3 N 99020000 Ts)(hsc:N.cs=WS S J P.rows sn)(hsn:sn <= rn)(hsb:0 <= N.base /\ N.base <= 1000000*(sn:Int))(hpl:S.players=(pl:Int))(hX:∀p xs,X=some (p,xs) -> ∀F:HL,(∀y∈Tp,y∈F) -> RwIn F xs p)(now:Nat)(h0:P.M.get 0=(now:Int))(hck:ck <= min now rn)(hu1:min now rn-ck <= un)(Sq:rn <= 1000000)(VU:now <= 1000000):Sp Tryz.prog 51 #[vP pp 0] (ap [(pBk pp pl me w gb rb lb rA rn rc ck uA un uc eA en ec rbk sg),(lb,.obj (cN kv cl))] [Tg,Tn,Tr,Tu,Te,Tp,Tq,Ts]) F (λ u H'=>u=.tuple #[] /\ PeerR rs_ ds_ bp pp pl me w S J (L0 P now) kv c sn none H'):=by
 have Zn:=hu.len;rw[hul] at Zn;refine aau Tryz.func51 rfl mn (A:=[(pBk pp pl me w gb rb lb rA rn rc ck uA un uc eA en ec rbk sg),(lb,.obj (cN kv cl))]) (Ts:=[Tg,Tn,Tr,Tu,Te,Tp,Tq,Ts]) rfl λ w0=>?_;refine ae 3 [] λ _=>aai (lJ pp gb rb lb sg pl me w rn rc ck un uc en ec rbk rA uA eA (now:Int) _ (aw 0) hg (ar 0) h0)<|ae 1 [] λ _=>aai (mh pp gb rb lb sg pl me w rn rc ck un uc en ec rbk rA uA eA _ (aw 0))<|ae 5 [] λ _=>aK 2 (congrArg (λ v_=>(vI v_:Value)) (show (if (rn:Int)<(now:Int) then (rn:Int) else (now:Int))=((min now rn:Nat):Int) by split <;> omega))<|aal [14] []<|aA [] [0,1,5,6,2,7,3,8,4,9,10] [.own 0,.own 0,.nw] [bn (((min now rn:Nat):Int)-(ck:Int))]<|aae 11 (RDO.slA (A:=uA) (n:=un) (cap:=uc) (l:=min now rn-ck) (sz:=1) (show ((min now rn:Nat):Int)-(ck:Int)=((min now rn-ck:Nat):Int) by omega) (by omega) (by omega) ?_);refine ag [] [12,13] []<|aae 14 (aag [] [.own 0] λ _=>?_);refine aad<|ae 8 [.own 0] λ _=>aaq [] [0,1] [0,1,2,3,4,5,6,7] (v:=.tuple #[]) (H':=(ap [(pp,.lit [vI (pl:Int),vI (me:Int),vI (w:Int),vP gb 0,vP rb 0,.map (some lb),.slice rA rn rc,vI ((min now rn:Nat):Int),.slice (slA uA (min now rn-ck) 1 uc) (un-(min now rn-ck)) (uc-(min now rn-ck)),.slice eA en ec,vI (rbk:Int),vP sg 0] 102 (0,0)),(lb,.obj (cN kv cl))] [Tg,Tn,Tr,Tu,Te,Tp,Tq,Ts])) ?_;exact⟨rfl,PeerR.mk q1_ (show min now P.rows.length=min now rn by rw[q1_]) (show (P.used.drop (min now P.rows.length-P.ck)).length=un-(min now rn-ck) by rw[aaR,q3_,q1_,q2_]) q4_ q5_ hse_ hg hb hn hkv hr hrl hrr (by have h_:=hu.cut (k:=min now rn-ck) (h:=ul.length) (m:=uc) (by rw[hul];omega) (aaK _) hu.len (aaK _);rw[List.take_length] at h_;exact h_) (by rw[aaR,hul]) (by show RwsT _ (P.used.drop (min now P.rows.length-P.ck)) _;rw[q1_,q2_];exact huu.drop _) he hel hee hse3_ hs hsc hsn hsb hpl (λ _ _ h_=>by cases h_)⟩
theorem zb{rs_:List Bx}{ds_:List Dr}{bp pp pl me w:Nat}{S:Setup}{J:Nat -> Nat × Int}{P:PS (List Inp)}{kv:List IvN}{c sn:Nat}{X:Option (Rw × List Inp)}{G F:HL}(h:PeerR rs_ ds_ bp pp pl me w S J P kv c sn X G){now:Nat}(h0:P.M.get 0=(now:Int))(hck:P.ck <= min now P.rows.length)(hu1:min now P.rows.length-P.ck <= P.used.length)(Sq:P.rows.length <= 1000000)(VU:now <= 1000000):Sp Tryz.prog 51 #[vP pp 0] (ap [] [G]) F (λ u H'=>∃T9,H'=ap [] [T9] /\ ((λ u H'=>u=.tuple #[] /\ PeerR rs_ ds_ bp pp pl me w S J (L0 P now) kv c sn none H') u T9)):=by
 rw[aU];cases h with
 | mk q1_ q2_ q3_ q4_ q5_ hse_ hg hb hn hkv hr hrl hrr hu hul huu he hel hee hse3_ hs hsc hsn hsb hpl hX =>
  exact(za q1_ q2_ q3_ q4_ q5_ hse_ hg hb hn hkv hr hrl hrr hu hul huu he hel hee hse3_ hs hsc hsn hsb hpl hX now h0 (by omega) (by omega) (by omega) VU).tl
section
variable {r:Option Nat} {P:Program} {N:Nat} {D:List Deferred} {F:HL} {w0:World} {R:HL} {s:Cfg} {Q:Exit -> Act -> World -> Prop}
def Sf(K:Act -> World -> Prop)(s:Cfg):Cfg:=match s with
 | ⟨.code c,k,L,A,Ts⟩=>⟨.code c,.met K::k,L,A,Ts⟩
 | s=>s
def JQ(s:Cfg):Bool:=match s.c with
 | .code _=>true
 | _=>false
def Sg(V:Inv)(s:Cfg):Cfg:=⟨.ex .normal,s.k,V.L,V.A,V.Ts⟩
theorem RN.cut{σ:Type}(V:σ -> Inv)
  (first:(∀ {s':Cfg} {R':HL} (x':σ) (ip jp:List Nat),(V x').I -> (hm:Dh s'=some (MV N D F w0 V (λ x'=>(V x').I)):=by kernel_rfl) -> (h:uN (V x') ip jp s'=nJ (V x'):=by kernel_rfl) -> (hp:bZ ip jp s'=true:=by kernel_rfl) -> RN r P N D F w0 R' s' Q) ->
   RN r P N D F w0 R (Sf (MV N D F w0 V (λ x'=>(V x').I)) s) Q)
  (rest:∀x,(V x).I -> RN r P N D F w0 R (Sg (V x) s) Q) (hc:JQ s=true:=by kernel_rfl):RN r P N D F w0 R s Q:=by
 refine⟨λ hR a w h1 h2 h3=>?_⟩;have h4:=(first (λ x' ip jp hi hm h hp=>ql x' ip jp hi hm h hp)).h hR;obtain⟨c,k,L,A,Ts⟩:=s;unfold JQ at hc;split at hc
 case h_2=>cases hc
 rename_i c' e1;simp only at e1;subst e1;refine wpIn_mono (h4 a w h1 h2 h3) λ e a w q=>?_;cases e with
 | normal =>
  obtain⟨x,hI,m1,m2,m3⟩:=q;exact(rest x hI).h hR a w m1 m2 m3
 | exit id=>exact q
 | goto l=>exact q
 | ret=>exact q
 | panic ch=>exact q
 | outgrown=>exact q
end
def sT(w:Nat)(M:MemS)(a:Nat)(ms:List Int)(now:Nat):MemS × Nat × List Int:=if BU a ms=(now:Int) then (M,a,ms) else eD w M a ms now
theorem JR{ρ:Type}{w now:Nat}{P:PS ρ}:sT w P.M P.a P.ms now=((ee w P now).M,(ee w P now).a,(ee w P now).ms):=by
 unfold sT
 by_cases h:BU P.a P.ms=(now:Int)
 ·rw[if_pos h];have hse_:=vV.1 h;unfold ee;rw[if_pos hse_]
 ·rw[if_neg h];exact(L5 λ hse_=>h (vV.2 hse_)).symm
theorem Ml{w now a:Nat}{M:MemS}{ms:List Int}(h:BU a ms=(now:Int)):sT w M a ms now=(M,a,ms):=if_pos h
theorem OY{w now a:Nat}{M:MemS}{ms:List Int}(h:¬ BU a ms=(now:Int)):sT w M a ms now=eD w M a ms now:=if_neg h
theorem JS{w now a:Nat}{M:MemS}{ms:List Int}(hw:1 <= w)(hr:∀k∈ms,M.base <= k /\ k <= M.base+(M.lg.length:Int)):M.base <= (sT w M a ms now).1.base /\ (sT w M a ms now).1.base+((sT w M a ms now).1.lg.length:Int)=M.base+(M.lg.length:Int):=by
 unfold sT;split
 ·exact⟨Int.le_refl _,rfl⟩
 ·unfold eD;dsimp only;split
  ·next h =>
   have hse_:=ut hr (i:=1) (by omega);generalize (ms++[M.base+(M.lg.length:Int)]).getD 1 0=v at hse_ ⊢;show M.base <= M.base+(((v-M.base).toNat:Nat):Int) /\ M.base+(((v-M.base).toNat:Nat):Int)+((M.lg.drop (v-M.base).toNat).length:Int)=_;rw[aaR];omega
  ·exact⟨Int.le_refl _,rfl⟩
theorem JT{S S2:Setup}{J:Nat -> Nat × Int}{w now:Nat}{P:PS (List Inp)}{xs:List Inp}{j:Nat × Int}(h:j=J now)(hse_:SetEq S S2):(lI (gP S J) w P now xs).M=iq (oD S2 j xs) (sT w P.M P.a P.ms now).1:=by
 subst h;rw[Mg hse_,JR];rfl
theorem OZ{S S2:Setup}{J:Nat -> Nat × Int}{w now:Nat}{P:PS (List Inp)}{xs:List Inp}{j:Nat × Int}(h:j=J now)(hse_:SetEq S S2):pX (gP S J now xs) (ee w P now).M=pX (oD S2 j xs) (sT w P.M P.a P.ms now).1:=by
 subst h;rw[Mh hse_,JR]
theorem Ft{g:Nat -> List Inp -> Gm}{w now:Nat}{P:PS (List Inp)}{xs:List Inp}{rb mb w2:Nat}:RingH rb mb w2 (lI g w P now xs).a (lI g w P now xs).ms=RingH rb mb w2 (sT w P.M P.a P.ms now).2.1 (sT w P.M P.a P.ms now).2.2:=by
 rw[JR];rfl
theorem JU{rs_:List Bx}{ds_:List Dr}{bp pp pl me w:Nat}{S:Setup}{J:Nat -> Nat × Int}{P:PS (List Inp)}{kv:List IvN}{c sn:Nat}{X:Option (Rw × List Inp)}{gb mb rb lb cl rn rc ck un uc en ec rbk sg smb:Nat}{S2 S3:Setup}{rA uA eA:Option Addr}{rl ul el:List Rw}{N:MemS}{Tg Tn Tr Tu Te Tp Tq Ts F:HL}(q1_:P.rows.length=rn)(q2_:P.ck=ck)(q3_:P.used.length=un)(q4_:P.effs.length=en)(q5_:P.rb=rbk)(hse_:SetEq S S2)(hg:GameX rs_ ds_ bp gb mb S2 P.M 0 Tg)(hb:0 <= P.M.base /\ P.M.base+(P.M.lg.length:Int) <= 20000*(c:Int))(hn:RingH rb mb w P.a P.ms Tn)(hkv:LocIn kv)(hr:SlIs gD 38 rl rA rc Tr)(hrl:rl.length=rn)(hrr:RwsT rl P.rows Tp)(hu:SlX gD 38 ul uA uc Tu)(hul:ul.length=un)(huu:RwsT ul P.used Tp)(he:SlIs nu 58 el eA ec Te)(hel:el.length=en)(hee:EfsT el P.effs Tq)(hse3_:SetEq S S3)(hs:GameX rs_ ds_ bp sg smb S3 N 99020000 Ts)(hsc:N.cs=WS S J P.rows sn)(hsn:sn <= rn)(hsb:0 <= N.base /\ N.base <= 1000000*(sn:Int))(hpl:S.players=(pl:Int))(hX:∀p xs,X=some (p,xs) -> ∀F:HL,(∀y∈Tp,y∈F) -> RwIn F xs p)(now b o N1 cc:Nat)(j:Nat × Int)(full xs:List Inp)(hjj:j=J now)(hI:(b,.rows 3 N1 (js full) 40 (0,0))∈Tp)(hir:o+xs.length <= N1)(UB:xs.length <= 1000000)(hx:∀k,k<xs.length -> full.getD (o+k) dI=xs.getD k dI)(hp:∀F2:HL,(∀y∈Tp,y∈F2) -> RwIn F2 xs ⟨some ⟨b,o*3,none⟩,xs.length,cc⟩)(h0:P.M.get 0=(now:Int))(YH:P.ms.length <= 100000000)(hrg:P.ms≠[] -> now=P.a+P.ms.length \/ now+1=P.a+P.ms.length)(hmr:∀k∈P.ms,P.M.base <= k /\ k <= P.M.base+(P.M.lg.length:Int))(hw:1 <= w /\ w <= 13)(VU:now <= 1000000)(WX:c <= 4000)(hj:j.1<5)(hA:AtOk F bp ((sT w P.M P.a P.ms now).1.get 0) j)(hE:cM F)(hk:TkOk S2 j xs (sT w P.M P.a P.ms now).1)(hun:un <= 1000000)(hen:en <= 1000000):Sp Tryz.prog 50 #[vP pp 0,vS b (o*3) xs.length cc] (ap [(pBk pp pl me w gb rb lb rA rn rc ck uA un uc eA en ec rbk sg),(lb,.obj (cN kv cl))] [Tg,Tn,Tr,Tu,Te,Tp,Tq,Ts]) F (λ u H'=>u=vI 0 /\ PeerR rs_ ds_ bp pp pl me w S J (lI (gP S J) w P now xs) kv (c+1) sn none H'):=by
 have air:=JS (w:=w) (now:=now) (a:=P.a) hw.1 hmr;refine aau Tryz.func50 rfl mn (A:=[(pBk pp pl me w gb rb lb rA rn rc ck uA un uc eA en ec rbk sg),(lb,.obj (cN kv cl))]) (Ts:=[Tg,Tn,Tr,Tu,Te,Tp,Tq,Ts]) rfl λ w0=>?_;refine ae 9 [] λ _=>aai (lJ pp gb rb lb sg pl me w rn rc ck un uc en ec rbk rA uA eA (now:Int) _ (aw 0) hg (ar 0) h0)<|ae 3 [] λ _=>RN.cut (σ:=HL × HL) (λ ⟨Tn_,Tg_⟩=>⟨[(0,vP pp 0),(1,vS b (o*3) xs.length cc)],[(pBk pp pl me w gb rb lb rA rn rc ck uA un uc eA en ec rbk sg),(lb,.obj (cN kv cl))],[Tn_,Tg_,Tr,Tu,Te,Tp,Tq,Ts],RingH rb mb w (sT w P.M P.a P.ms now).2.1 (sT w P.M P.a P.ms now).2.2 Tn_ /\ GameX rs_ ds_ bp gb mb S2 (sT w P.M P.a P.ms now).1 0 Tg_,0⟩) ?_ ?_
 ·intro mt1;refine ae 6 [.own 0] λ _=>aai (Sd hn (ar 1) YH)<|ae 4 [] λ _=>aan ((BU P.a P.ms)=(now:Int)) 18 (λ h2=>?_) λ h2=>?_
  ·refine ae 2 [] λ _=>?_;refine mt1 (Tn,Tg) [0,1] [1,0,2,3,4,5,6,7] ?_
   try dsimp only
   rw[Ml h2];exact⟨hn,hg⟩
  ·refine ae 8 [.own 0] λ _=>?_;have afe:P.ms≠[] -> now=P.a+P.ms.length:=λ e_=>(hrg e_).resolve_right λ h_=>h2 (vV.2 ⟨e_,by omega⟩);refine aaj [] [1,0] (QR hg hn afe hmr (by omega) hw (by omega) YH) ?_;rintro _ ⟨T3,T4⟩ ⟨rfl,hn5,hg6⟩;dsimp only at hn5 hg6;refine ae 11 [] λ _=>?_;refine mt1 (T3,T4) [0,1] [0,1,2,3,4,5,6,7] ?_
   try dsimp only
   rw[OY h2];exact⟨hn5,hg6⟩
 ·rintro⟨Tn_,Tg_⟩ ⟨hn_,Uf⟩;refine ae 8 [.own 0] λ _=>?_;have afS:=Uf.raise (k':=100000000-20000-(sT w P.M P.a P.ms now).1.lg.length+20000) (by omega);refine aaj [] [1] (yW (c:=cc) afS hj (hA.mono λ x hx=>au hx) (au hE) ((ar 4) _ hI) hir UB hx hk) ?_;rintro _ ⟨⟨A7,c8,n9⟩,Ui,E11⟩ ⟨aaz,abV,rfl⟩;dsimp only at aaz abV;have ah3:=aaz.room;refine ae 28 [.own 0] λ n14=>RN.appX yJ ul [(⟨some ⟨b,o*3,none⟩,xs.length,cc⟩:Rw)] 4 0 hul.symm hu (by simp;omega) ?_;rintro A15 c16 TA ⟨Zr,abB⟩;refine ae 14 (ow 1 2) λ VP=>iX OW el [(⟨A7,(pX (oD S2 j xs) (sT w P.M P.a P.ms now).1).length,c8⟩:Rw)] 5 0 hel.symm he (by simp;omega) ?_;rintro A21 c22 Y2 ⟨ae2,aj1⟩;refine ae 10 [.own 2] λ _=>ll [7,3,0,1,2,4,5,6,8]<|my<|aaq [] [2,3] [3,4,5,2,1,6,0,7] (v:=vI 0) (H':=(ap [(pp,.lit [vI (pl:Int),vI (me:Int),vI (w:Int),vP gb 0,vP rb 0,.map (some lb),.slice rA rn rc,vI (ck:Int),.slice A15 (un+1) c16,.slice A21 (en+1) c22,vI (rbk:Int),vP sg 0] 102 (0,0)),(lb,.obj (cN kv cl))] [Ui,Tn_,Tr,TA,Y2,Tp,(Tq++E11),Ts])) ?_;exact⟨rfl,PeerR.mk (by rw[(gE (g:=gP S J) (w:=w) P now xs).1];exact q1_) (by rw[(gE (g:=gP S J) (w:=w) P now xs).2.2];exact q2_) (show (P.used++[xs]).length=un+1 by rw[aaP,q3_];rfl) (show (P.effs++[_]).length=en+1 by rw[aaP,q4_];rfl) (by rw[(gE (g:=gP S J) (w:=w) P now xs).2.1];exact q5_) hse_ (by rw[JT hjj hse_];exact aaz.weak (aaL _)) (by rw[JT hjj hse_];exact⟨by rw[ox];omega,by rw[ox];omega⟩) (by rw[Ft];exact hn_) hkv hr hrl (by rw[(gE (g:=gP S J) (w:=w) P now xs).1];exact hrr) Zr (by simp[hul]) (huu.snocI λ F2 h_=>hp F2 h_) ae2 (by simp[hel]) (by show EfsT _ (P.effs++[pX (gP S J now xs) (ee w P now).M]) _;rw[OZ hjj hse_];exact hee.snoc (by rw[hel,q4_]) abV rfl) hse3_ hs (by rw[(gE (g:=gP S J) (w:=w) P now xs).1];exact hsc) hsn hsb hpl (λ _ _ h_=>by cases h_)⟩
theorem Br{rs_:List Bx}{ds_:List Dr}{bp pp pl me w:Nat}{S:Setup}{J:Nat -> Nat × Int}{P:PS (List Inp)}{kv:List IvN}{c sn:Nat}{X:Option (Rw × List Inp)}{G F:HL}(h:PeerR rs_ ds_ bp pp pl me w S J P kv c sn X G)(hF:∀x∈G,x∈F)(hln:∀k,k<P.used.length -> (P.used.getD k []).length <= 1000000)(Sq:P.rows.length <= 1000000)(hck:P.ck <= 1000000)(hun:P.used.length <= 1000000):Sp Tryz.prog 47 #[vP pp 0] [] F (λ u H'=>u=.tuple #[vI (((wr P.rows P.ck P.used).getD 0:Nat):Int),.bool (wr P.rows P.ck P.used).isSome] /\ H'=[]):=by
 cases h with
 | mk q1_ q2_ q3_ q4_ q5_ hse_ hg hb hn hkv hr hrl hrr hu hul huu he hel hee hse3_ hs hsc hsn hsb hpl hX =>
  subst q1_;subst q2_;subst q3_;exact Bo _ _ _ _ _ _ _ _ _ _ _ _ _ _ _ _ _ _ _ P.rows P.used _ _ F (hF _ (aaA _ aaB)) (by have h_:=hr.toRowL λ x hx=>hF x (by simp[ap,hx]);rwa [hrl] at h_) (hrr F λ x hx=>hF x (by simp[ap,hx])) (by have h_:=hu.toRowL λ x hx=>hF x (by simp[ap,hx]);rwa [hul] at h_) (huu F λ x hx=>hF x (by simp[ap,hx])) hln Sq hck hun
theorem PInv.ringAt{ρ:Type}{g:Nat -> ρ -> Gm}{c0:List Int}{w m:Nat}{P:PS ρ}{V:List ρ}(h:PInv g c0 w P V m)(e:P.ms≠[]):V.length=P.a+P.ms.length \/ V.length+1=P.a+P.ms.length:=by
 rcases h.ring with ⟨h1,_⟩|⟨_,h1⟩
 ·exact absurd h1 e
 ·omega
theorem JV{w now a:Nat}{M:MemS}{ms:List Int}:(sT w M a ms now).1.cs=M.cs:=by
 unfold sT;split
 ·rfl
 ·unfold eD;dsimp only;split <;> rfl
theorem JW{rs_:List Bx}{ds_:List Dr}{bp pp pl me w:Nat}{S:Setup}{J:Nat -> Nat × Int}{P:PS (List Inp)}{kv:List IvN}{c sn:Nat}{q:Rw}{xs:List Inp}{V:List (List Inp)}{m:Nat}{G F:HL}(h:PeerR rs_ ds_ bp pp pl me w S J P kv c sn (some (q,xs)) G)(hI:PInv (gP S J) (cV S S.nb) w P V m)(hV:SetV S)(hvl:V.length<50)(hr0:∀r∈V,RowOk S.players r)(Zg:RowOk S.players xs)(hw:1 <= w /\ w <= 12)(WX:c <= 4000)(S4:∀i,i <= 50 -> (J i).1<5 /\ AtOk F bp (i:Int) (J i))(hE:cM F){t:Nat}(ht:t=V.length):Sp Tryz.prog 50 #[vP pp 0,.slice q.A q.n q.c] (ap [] [G]) F (λ u H'=>∃x,H'=ap [] [x] /\ (u=vI 0 /\ PeerR rs_ ds_ bp pp pl me w S J (lI (gP S J) w P V.length xs) kv (c+1) sn none x)):=by
 subst ht;rw[aU];have ab4:=hV.pl;have hxl:=Zg.1;have akl:P.used.length=V.length-P.ck:=by rw[hI.used,aaR]
 have YQ:=hI.len_cs;have hI3:=hI.room;cases h with
 | mk q1_ q2_ q3_ q4_ q5_ hse_ hg hb hn hkv hr hrl hrr hu hul huu he hel hee hse3_ hs hsc hsn hsb hpl hX =>
  have hte:=hI.te hV hse_ (by omega) hr0;have hp:=hX q xs rfl;have hx:=hp _ (λ y hy=>hy);cases hx with
  | mk b o N1 full cc hI1 hir hx1 hcap =>
   exact(JU q1_ q2_ q3_ q4_ q5_ hse_ hg hb hn hkv hr hrl hrr hu hul huu he hel hee hse3_ hs hsc hsn hsb hpl hX V.length b o N1 cc (J V.length) full xs rfl hI1 hir (by omega) hx1 hp hte.t0 (by omega) (λ e_=>hI.ringAt e_) hI.marks ⟨hw.1,by omega⟩ (by omega) WX (S4 _ (by omega)).1 (by rw[po (N:=P.M) JV,hte.t0];exact(S4 _ (by omega)).2) hE ((hI.tk hV hse_ hvl hr0 Zg).cs JV.symm) (by omega) (by omega)).tl
section
variable {S:Setup} {J:Nat -> Nat × Int} {w m:Nat} {P:PS (List Inp)} {V:List (List Inp)}
theorem se{g:Nat -> List Inp -> Gm}(rf:Nat -> List Inp):∀ (n:Nat) (P:PS (List Inp)) (now:Nat),gn g w rf (n+1) P now=lI g w (gn g w rf n P now) (now+n) (rf (now+n))
 | 0,_,_=>rfl
 | n+1,P,now=>by
  rw[gn,se rf n];show lI g w (gn g w rf n (lI g w P now (rf now)) (now+1)) (now+1+n) (rf (now+1+n))=lI g w (gn g w rf (n+1) P now) (now+(n+1)) _;rw[show now+1+n=now+(n+1) by omega];rfl
theorem pA{rf:Nat -> List Inp}:∀ (n now:Nat) {r:List Inp},r∈jD rf n now -> ∃t,r=rf t
 | 0,_,_,h=>by cases h
 | n+1,now,r,h=>by
  rw[jD] at h;rcases List.mem_cons.1 h with h|h
  ·exact⟨_,h⟩
  ·exact pA n (now+1) h
theorem PInv.loop{c0:List Int}{pl:Int}(h:PInv (gP S J) c0 w P V m)(hw:1 <= w){T:Nat}(hT:T <= P.rows.length+w)(rf:Nat -> List Inp)(hrf:∀t,RowOk pl (rf t))(Zu:∀t,t<P.rows.length -> P.rows[t]?=some (rf t))(hV:∀r∈V,RowOk pl r){n1:Nat}(UT:eV P V.length=n1){P1:PS (List Inp)}(Z5:Go.Proofs.YtdppjkjbghbnjaaGreatDoor.adv1 P=P1){i:Nat}(hi:n1+i <= T) :
  PInv (gP S J) c0 w (gn (gP S J) w rf i P1 n1) (V.take n1++jD rf i n1) (min (n1+i) P.rows.length) /\ (V.take n1++jD rf i n1).length=n1+i /\ (∀r∈V.take n1++jD rf i n1,RowOk pl r) /\ (gn (gP S J) w rf i P1 n1).rows=P.rows:=by
 subst UT;subst Z5;obtain⟨k1,k2,k3,k4,k5⟩:=h.adv1;generalize Go.Proofs.YtdppjkjbghbnjaaGreatDoor.adv1 P=P1 at *;generalize eV P V.length=n1 at *;have lV:(V.take n1).length=n1:=by rw[aaQ];omega
 have hse3_:=pr (g:=gP S J) hw rf i P1 (V.take n1) (by rw[lV,k2];exact k1) (by rw[lV,k2];omega) (by rw[k2];exact Zu);rw[lV,k2] at hse3_;refine⟨hse3_,by rw[aaP,pq,lV],λ r hr=>?_,(nl (g:=gP S J) (w:=w) rf i P1 n1).1.trans k2⟩;rcases List.mem_append.1 hr with hr|hr
 ·exact hV r (List.mem_of_mem_take hr)
 ·obtain⟨t,rfl⟩:=pA _ _ hr;exact hrf t
theorem PInv.rollF{ρ:Type}[DecidableEq ρ]{g:Nat -> ρ -> Gm}{c0:List Int}{P:PS ρ}{V:List ρ}(h:PInv g c0 w P V m){x:Nat}(hx:wr P.rows P.ck P.used=some x):(P.a <= x /\ x<P.a+P.ms.length) /\ (P.M.base <= P.ms.getD (x-P.a) 0 /\ P.ms.getD (x-P.a) 0 <= P.M.base+(P.M.lg.length:Int)) /\ (∀e∈P.M.lg.drop (P.ms.getD (x-P.a) 0-P.M.base).toNat,0 <= e.1 /\ e.1<(P.M.cs.length:Int)) /\ P.ck <= x /\ x-P.ck <= P.used.length /\ x <= P.effs.length /\ x<V.length:=by
 obtain⟨k1,k2,k3,k4,k5⟩:=vU hx;have hu:=h.used;have h1:=h.mV;have hse_:=h.ck;have hse3_:=h.mR;have hl:=h.len_cs;have ku:P.used.length=V.length-P.ck:=by rw[hu,aaR]
 have hxV:x<V.length:=by omega
 have ZE:m <= x:=by
  rcases aaZ x m with iF|UE
  ·exfalso;apply k5;rw[hu,aa6,show P.ck+(x-P.ck)=x by omega];have:=congrArg (·[x]?) h.eq;simpa [aa7,iF] using this
  ·exact UE
 have AS:P.ms≠[]:=by
  rcases h.ring with ⟨_,e⟩|⟨e,_⟩
  ·rw[e] at hxV;simp at hxV
  ·exact e
 have hba:=h.back AS;have hlen:x-P.a<P.ms.length:=by
  rcases h.ring with ⟨e,_⟩|⟨_,e|e⟩
  ·exact absurd e AS
  ·omega
  ·omega
 obtain⟨mk,U4⟩:∃mk,P.ms[x-P.a]?=some mk:=⟨_,aaT hlen⟩;have hr:=h.rst _ _ U4;have eg:P.ms.getD (x-P.a) 0=mk:=by rw[aaI,U4];rfl
 rw[eg];exact⟨by omega,⟨hr.lo,hr.hi⟩,hr.ent,k1,by omega,by omega,hxV⟩
theorem Fu{ρ:Type}[DecidableEq ρ]{P:PS ρ}{x:Nat}(hx:wr P.rows P.ck P.used=some x):adv1 P=yO P x:=by unfold adv1;rw[hx]
theorem Fv{ρ:Type}[DecidableEq ρ]{P:PS ρ}(hx:wr P.rows P.ck P.used=none):adv1 P=P:=by unfold adv1;rw[hx]
end
theorem wb{rs_:List Bx}{ds_:List Dr}{bp pp pl me w:Nat}{S:Setup}{J:Nat -> Nat × Int}{P:PS (List Inp)}{kv:List IvN}{c sn:Nat}{X:Option (Rw × List Inp)}{gb mb rb lb cl rn rc ck un uc en ec rbk sg smb:Nat}{S2 S3:Setup}{rA uA eA:Option Addr}{rl ul el:List Rw}{N:MemS}{Tg Tn Tr Tu Te Tp Tq Ts F:HL}(q1_:P.rows.length=rn)(q2_:P.ck=ck)(q3_:P.used.length=un)(q4_:P.effs.length=en)(q5_:P.rb=rbk)(hse_:SetEq S S2)(hg:GameX rs_ ds_ bp gb mb S2 P.M 0 Tg)(hb:0 <= P.M.base /\ P.M.base+(P.M.lg.length:Int) <= 20000*(c:Int))(hn:RingH rb mb w P.a P.ms Tn)(hkv:LocIn kv)(hr:SlIs gD 38 rl rA rc Tr)(hrl:rl.length=rn)(hrr:RwsT rl P.rows Tp)(hu:SlX gD 38 ul uA uc Tu)(hul:ul.length=un)(huu:RwsT ul P.used Tp)(he:SlIs nu 58 el eA ec Te)(hel:el.length=en)(hee:EfsT el P.effs Tq)(hse3_:SetEq S S3)(hs:GameX rs_ ds_ bp sg smb S3 N 99020000 Ts)(hsc:N.cs=WS S J P.rows sn)(hsn:sn <= rn)(hsb:0 <= N.base /\ N.base <= 1000000*(sn:Int))(hpl:S.players=(pl:Int))(hX:∀p xs,X=some (p,xs) -> ∀F:HL,(∀y∈Tp,y∈F) -> RwIn F xs p){V:List (List Inp)}{m:Nat}(hI:PInv (gP S J) (cV S S.nb) w P V m)(hV:SetV S)(X3:∀r∈V,RowOk S.players r)(Ti:∀r∈P.rows,RowOk S.players r)(VV:me<pl)(hw:1 <= w /\ w <= 12)(Sq:rn<50)(hvn:V.length<50)(WX:c <= 3900)(Zv:P.rb <= 1000)(S4:∀i,i <= 50 -> (J i).1<5 /\ AtOk F bp (i:Int) (J i))(hE:cM F)(tt:Int)(acS:tt<(V.length:Int) \/ tt>(P.rows.length:Int)+(w:Int)):Sp Tryz.prog 17 #[vP pp 0,vI tt] (ap [(pBk pp pl me w gb rb lb rA rn rc ck uA un uc eA en ec rbk sg),(lb,.obj (cN kv cl))] [Tg,Tn,Tr,Tu,Te,Tp,Tq,Ts]) F (λ u H'=>u=.tuple #[vI 0,vI 18] /\ PeerR rs_ ds_ bp pp pl me w S J P kv c sn none H'):=by
 have ab3:=hV.pl;have Yf:=hI.used;have agH:=hI.len_cs;have agD:=hI.win;have agE:=hI.room;have agG:=hI.ck;have agF:=hI.mV;have abM:P.used.length=V.length-P.ck:=by rw[Yf,aaR]
 have h0:=(hI.te hV (jO S) (by omega) X3).t0;refine aau Tryz.func17 rfl mn (A:=[(pBk pp pl me w gb rb lb rA rn rc ck uA un uc eA en ec rbk sg),(lb,.obj (cN kv cl))]) (Ts:=[Tg,Tn,Tr,Tu,Te,Tp,Tq,Ts]) rfl λ w0=>?_;refine ae 8 [] λ _=>aal [] []<|ag [] [0,1] []<|aac [] 2 (λ X_=>(lJ pp gb rb lb sg pl me w rn rc ck un uc en ec rbk rA uA eA (V.length:Int) _ (fd 0) hg (aO 0) h0))<|ag [] [3,4] []<|RD.em (tt<(V.length:Int)) 16 (λ h1=>?_) λ h1=>?_
 ·refine ag [] [5,6,8,7,9,10,11,12,13] []<|ag [] [14,15] []<|aad<|ae 8 [] λ _=>aaq [] [0,1] [0,1,2,3,4,5,6,7] (v:=.tuple #[vI 0,vI 18]) (H':=(ap [(pBk pp pl me w gb rb lb rA rn rc ck uA un uc eA en ec rbk sg),(lb,.obj (cN kv cl))] [Tg,Tn,Tr,Tu,Te,Tp,Tq,Ts])) ?_;exact⟨rfl,PeerR.mk q1_ q2_ q3_ q4_ q5_ hse_ hg hb hn hkv hr hrl hrr hu hul huu he hel hee hse3_ hs hsc hsn hsb hpl (λ _ _ h_=>by cases h_)⟩
 ·refine ag [] [5,6,8,9,10,11] [.own 0]<|aac [] 7 (λ X_=>(mh pp gb rb lb sg pl me w rn rc ck un uc en ec rbk rA uA eA _ (fd 0)))<|aA [] [12,13] [.nw] [bn ((rn:Int)+(w:Int))]<|fW 25 (congrArg (λ v_=>(vI v_:Value)) (show (if 6000<(rn:Int)+(w:Int) then 6000 else (rn:Int)+(w:Int))=(rn:Int)+(w:Int) from if_neg (by omega)))<|ag [] [14,15] []<|aad<|ae 1 [] λ _=>aam (tt>(rn:Int)+(w:Int)) 27 (λ h2=>?_) λ h2=>?_
  ·refine ae 7 [] λ _=>aaq [] [0,1] [0,1,2,3,4,5,6,7] (v:=.tuple #[vI 0,vI 18]) (H':=(ap [(pBk pp pl me w gb rb lb rA rn rc ck uA un uc eA en ec rbk sg),(lb,.obj (cN kv cl))] [Tg,Tn,Tr,Tu,Te,Tp,Tq,Ts])) ?_;exact⟨rfl,PeerR.mk q1_ q2_ q3_ q4_ q5_ hse_ hg hb hn hkv hr hrl hrr hu hul huu he hel hee hse3_ hs hsc hsn hsb hpl (λ _ _ h_=>by cases h_)⟩
  ·(exfalso;omega)
theorem JX{rs_:List Bx}{ds_:List Dr}{bp pp pl me w:Nat}{S:Setup}{J:Nat -> Nat × Int}{P:PS (List Inp)}{kv:List IvN}{c sn:Nat}{X:Option (Rw × List Inp)}{G F:HL}(h:PeerR rs_ ds_ bp pp pl me w S J P kv c sn X G){V:List (List Inp)}{m:Nat}(hI:PInv (gP S J) (cV S S.nb) w P V m)(hV:SetV S)(X3:∀r∈V,RowOk S.players r)(Ti:∀r∈P.rows,RowOk S.players r)(VV:me<pl)(hw:1 <= w /\ w <= 12)(Sq:P.rows.length<50)(hvn:V.length<50)(WX:c <= 3900)(Zv:P.rb <= 1000)(S4:∀i,i <= 50 -> (J i).1<5 /\ AtOk F bp (i:Int) (J i))(hE:cM F)(tt:Int)(acS:tt<(V.length:Int) \/ tt>(P.rows.length:Int)+(w:Int)):Sp Tryz.prog 17 #[vP pp 0,vI tt] (ap [] [G]) F (λ u H'=>∃x,H'=ap [] [x] /\ ((λ u H'=>u=.tuple #[vI 0,vI 18] /\ PeerR rs_ ds_ bp pp pl me w S J P kv c sn none H') u x)):=by
 rw[aU];cases h with
 | mk q1_ q2_ q3_ q4_ q5_ hse_ hg hb hn hkv hr hrl hrr hu hul huu he hel hee hse3_ hs hsc hsn hsb hpl hX =>
  exact(wb q1_ q2_ q3_ q4_ q5_ hse_ hg hb hn hkv hr hrl hrr hu hul huu he hel hee hse3_ hs hsc hsn hsb hpl hX hI hV X3 Ti VV hw (by omega) hvn WX Zv S4 hE tt acS).tl
theorem zc{rs_:List Bx}{ds_:List Dr}{bp pp pl me w:Nat}{S:Setup}{J:Nat -> Nat × Int}{P:PS (List Inp)}{kv:List IvN}{c sn:Nat}{X:Option (Rw × List Inp)}{gb mb rb lb cl rn rc ck un uc en ec rbk sg smb:Nat}{S2 S3:Setup}{rA uA eA:Option Addr}{rl ul el:List Rw}{N:MemS}{Tg Tn Tr Tu Te Tp Tq Ts F:HL}(q1_:P.rows.length=rn)(q2_:P.ck=ck)(q3_:P.used.length=un)(q4_:P.effs.length=en)(q5_:P.rb=rbk)(hse_:SetEq S S2)(hg:GameX rs_ ds_ bp gb mb S2 P.M 0 Tg)(hb:0 <= P.M.base /\ P.M.base+(P.M.lg.length:Int) <= 20000*(c:Int))(hn:RingH rb mb w P.a P.ms Tn)(hkv:LocIn kv)(hr:SlIs gD 38 rl rA rc Tr)(hrl:rl.length=rn)(hrr:RwsT rl P.rows Tp)(hu:SlX gD 38 ul uA uc Tu)(hul:ul.length=un)(huu:RwsT ul P.used Tp)(he:SlIs nu 58 el eA ec Te)(hel:el.length=en)(hee:EfsT el P.effs Tq)(hse3_:SetEq S S3)(hs:GameX rs_ ds_ bp sg smb S3 N 99020000 Ts)(hsc:N.cs=WS S J P.rows sn)(hsn:sn <= rn)(hsb:0 <= N.base /\ N.base <= 1000000*(sn:Int))(hpl:S.players=(pl:Int))(hX:∀p xs,X=some (p,xs) -> ∀F:HL,(∀y∈Tp,y∈F) -> RwIn F xs p){V:List (List Inp)}{m:Nat}(hI:PInv (gP S J) (cV S S.nb) w P V m)(hV:SetV S)(X3:∀r∈V,RowOk S.players r)(Ti:∀r∈P.rows,RowOk S.players r)(VV:me<pl)(hw:1 <= w /\ w <= 12)(Sq:rn<50)(hvn:V.length<50)(WX:c <= 3900)(Zv:P.rb <= 1000)(S4:∀i,i <= 50 -> (J i).1<5 /\ AtOk F bp (i:Int) (J i))(hE:cM F)(T:Nat)(hT1:V.length <= T)(hT2:T <= P.rows.length+w)(hT3:T<50):Sp Tryz.prog 17 #[vP pp 0,vI (T:Int)] (ap [(pBk pp pl me w gb rb lb rA rn rc ck uA un uc eA en ec rbk sg),(lb,.obj (cN kv cl))] [Tg,Tn,Tr,Tu,Te,Tp,Tq,Ts]) F (λ u H'=>∃x:HL,H'=ap [] [x] /\ (u=.tuple #[vI ((T-eV P V.length:Nat):Int),vI 0] /\ PeerR rs_ ds_ bp pp pl me w S J (r7 (gP S J) w P V.length T (ii pl me P.rows (jk kv))) kv (c+(T-eV P V.length)) sn none x)):=by
 have h:PeerR rs_ ds_ bp pp pl me w S J P kv c sn none (ap [(pBk pp pl me w gb rb lb rA rn rc ck uA un uc eA en ec rbk sg),(lb,.obj (cN kv cl))] [Tg,Tn,Tr,Tu,Te,Tp,Tq,Ts]):=PeerR.mk q1_ q2_ q3_ q4_ q5_ hse_ hg hb hn hkv hr hrl hrr hu hul huu he hel hee hse3_ hs hsc hsn hsb hpl (λ _ _ h_=>by cases h_);obtain⟨G,eG⟩:∃G,G=ap [(pBk pp pl me w gb rb lb rA rn rc ck uA un uc eA en ec rbk sg),(lb,.obj (cN kv cl))] [Tg,Tn,Tr,Tu,Te,Tp,Tq,Ts]:=⟨_,rfl⟩;rw[<- eG] at h;have ab3:=hV.pl;have Yf:=hI.used;have agH:=hI.len_cs;have agD:=hI.win;have agE:=hI.room;have agG:=hI.ck;have agF:=hI.mV;have abM:P.used.length=V.length-P.ck:=by rw[Yf,aaR]
 have h0:=(hI.te hV (jO S) (by omega) X3).t0;have afx:∀k,k<P.used.length -> (P.used.getD k []).length <= 1000000:=λ k hk=>by have h_:=(X3 _ (List.mem_of_mem_drop (by rw[<- Yf];exact jC hk []))).1;omega
 obtain⟨k1,k2,k3,k4,k5⟩:=hI.adv1;obtain⟨n1,UT⟩:∃n,eV P V.length=n:=⟨_,rfl⟩;obtain⟨P1,Z5⟩:∃p,adv1 P=p:=⟨_,rfl⟩;rw[UT] at k1 k3 k4 k5;rw[Z5] at k1 k2 k5;have abW:∀t,RowOk S.players ((ii pl me P.rows (jk kv)) t):=λ t=>by rw[hpl];exact C3 (by rw[<- hpl];exact Ti) (λ t x e=>hkv.ok e) t
 refine aau Tryz.func17 rfl mn (A:=[(pBk pp pl me w gb rb lb rA rn rc ck uA un uc eA en ec rbk sg),(lb,.obj (cN kv cl))]) (Ts:=[Tg,Tn,Tr,Tu,Te,Tp,Tq,Ts]) rfl λ w0=>?_;refine ae 8 [] λ _=>aal [] []<|ag [] [0,1] []<|aac [] 2 (λ X_=>(lJ pp gb rb lb sg pl me w rn rc ck un uc en ec rbk rA uA eA (V.length:Int) _ (fd 0) hg (aO 0) h0))<|ag [] [3,4] []<|RD.em ((T:Int)<(V.length:Int)) 16 (λ h1=>?_) λ h1=>?_
 ·(exfalso;omega)
 ·refine ag [] [5,6,8,9,10,11] [.own 0]<|aac [] 7 (λ X_=>(mh pp gb rb lb sg pl me w rn rc ck un uc en ec rbk rA uA eA _ (fd 0)))<|aA [] [12,13] [.nw] [bn ((rn:Int)+(w:Int))]<|fW 25 (congrArg (λ v_=>(vI v_:Value)) (show (if 6000<(rn:Int)+(w:Int) then 6000 else (rn:Int)+(w:Int))=(rn:Int)+(w:Int) from if_neg (by omega)))<|ag [] [14,15] []<|aad<|ae 1 [] λ _=>aam ((T:Int)>(rn:Int)+(w:Int)) 27 (λ h2=>?_) λ h2=>?_
  ·(exfalso;omega)
  ·refine ae 5 [] λ _=>Mj [(pBk pp pl me w gb rb lb rA rn rc ck uA un uc eA en ec rbk sg),(lb,.obj (cN kv cl))] [Tg,Tn,Tr,Tu,Te,Tp,Tq,Ts] eG<|ae 2 [] λ _=>aai (Br h (ar 0) afx (by omega) (by omega) (by omega))<|ae 7 [] λ _=>RN.cut (σ:=HL) (λ G_=>⟨[(0,vP pp 0),(1,vI (T:Int))],[],[G_],PeerR rs_ ds_ bp pp pl me w S J P1 kv c sn none G_,0⟩) ?_ ?_
   ·intro Sm;refine ae 5 [] λ _=>il ((wr P.rows P.ck P.used).isSome) 33 (λ h4=>?_) λ h4=>?_
    ·refine ae 5 [] λ _=>?_;obtain⟨x_,UK⟩:=Option.isSome_iff_exists.1 h4;obtain⟨r1_,r2_,r3_,r4_,r5_,r6_,r7_⟩:=hI.rollF UK;obtain rfl:x_=(wr P.rows P.ck P.used).getD 0:=by rw[UK];rfl
     refine aaj [] [0] (Bq (x:=(wr P.rows P.ck P.used).getD 0) h r1_ (by omega) (by omega) r2_ r3_ (by omega) r4_ r5_ r6_ (by omega)) ?_;rintro _ T5 ⟨rfl,hr6⟩;refine ae 11 [] λ _=>?_;refine Sm T5 [] [0] ?_
     try dsimp only
     rw[<- Z5,Fu UK];exact hr6
    ·refine ae 2 [] λ _=>?_;refine Sm G [] [0] ?_
     try dsimp only
     rw[<- Z5,Fv (Option.not_isSome_iff_eq_none.1 h4)];exact h
   ·rintro G_ Yh;refine ae 15 [] λ _=>aao (σ:=Nat × HL) (λ ⟨i_,G_⟩=>⟨[(0,vP pp 0),(1,vI (T:Int)),(9,.func (.func 49) #[vP pp 0] #[]),(10,vI (i_:Int))],[],[G_],n1+i_ <= T /\ PeerR rs_ ds_ bp pp pl me w S J (gn (gP S J) w (ii pl me P.rows (jk kv)) i_ P1 n1) kv (c+i_) sn none G_,T-n1-i_⟩) (0,G_) [] [0] (⟨by omega,Yh⟩) ?_;rintro⟨i_,G_⟩ ⟨XA,Yh⟩ Za;obtain⟨li1,Yr,li3,li4⟩:=hI.loop hw.1 hT2 (ii pl me P.rows (jk kv)) (λ t=>abW t) (λ t ht=>uz ht) X3 UT Z5 (i:=i_) XA;obtain⟨Vi,hVi⟩:∃v,V.take n1++jD (ii pl me P.rows (jk kv)) i_ n1=v:=⟨_,rfl⟩;rw[hVi] at li1 Yr li3;have aeY:=li1.te hV (jO S) (by omega) li3;have aaC:(gn (gP S J) w (ii pl me P.rows (jk kv)) i_ P1 n1).M.get 0=((n1+i_:Nat):Int):=by rw[aeY.t0,Yr]
    refine ae 4 [] λ _=>aai (M5 Yh (ar 0) aaC)<|ae 4 [] λ _=>aam (((n1+i_:Nat):Int)<(T:Int)) 45 (λ h9=>?_) λ h9=>?_
    ·refine ae 10 [] λ _=>aai (M5 Yh (ar 0) aaC)<|aaj [] [0] (JP Yh (t:=n1+i_) (by rw[li4,<- hpl];exact Ti) (by rw[li4];omega) (by omega) (by omega) VV) ?_;rintro _ ⟨IT,OF⟩ ⟨rfl,Zx⟩;dsimp only at Zx;rw[li4] at Zx;refine aaj [] [0] (JW (V:=Vi) Zx li1 hV (by omega) li3 (abW _) hw (by omega) (λ i hi=>⟨(S4 i hi).1,(S4 i hi).2.mono λ x hx=>au hx⟩) (au hE) rfl) ?_;rintro _ TF ⟨rfl,Um⟩;rw[Yr] at Um;refine ai 18 [.gen,.nw] [bn ((i_:Int)+1)] λ _=>?_;refine Za (i_+1,TF) [] [0] ?_
     try dsimp only
     refine⟨⟨by omega,?_⟩,by omega⟩;rw[se];exact Um
    ·refine ae 9 [] λ _=>aaj [] [0] (zb Yh (now:=n1+i_) aaC (by rw[li4];exact li1.ck) (by rw[li4,li1.used,aaR,Yr];omega) (by rw[li4];omega) (by omega)) ?_;rintro _ SP ⟨rfl,XQ⟩;refine ae 9 [] λ _=>aaq [] [] [0] (v:=.tuple #[vI (i_:Int),vI 0]) (H':=(ap [] [SP])) ?_;obtain rfl:i_=T-n1:=by omega
     refine⟨SP,rfl,by rw[UT],?_⟩;unfold r7;rw[UT,Z5];rw[show n1+(T-n1)=T by omega] at XQ;exact XQ
theorem Mm{rs_:List Bx}{ds_:List Dr}{bp pp pl me w:Nat}{S:Setup}{J:Nat -> Nat × Int}{P:PS (List Inp)}{kv:List IvN}{c sn:Nat}{X:Option (Rw × List Inp)}{G F:HL}(h:PeerR rs_ ds_ bp pp pl me w S J P kv c sn X G){V:List (List Inp)}{m:Nat}(hI:PInv (gP S J) (cV S S.nb) w P V m)(hV:SetV S)(X3:∀r∈V,RowOk S.players r)(Ti:∀r∈P.rows,RowOk S.players r)(VV:me<pl)(hw:1 <= w /\ w <= 12)(Sq:P.rows.length<50)(hvn:V.length<50)(WX:c <= 3900)(Zv:P.rb <= 1000)(S4:∀i,i <= 50 -> (J i).1<5 /\ AtOk F bp (i:Int) (J i))(hE:cM F)(T:Nat)(hT1:V.length <= T)(hT2:T <= P.rows.length+w)(hT3:T<50):Sp Tryz.prog 17 #[vP pp 0,vI (T:Int)] (ap [] [G]) F (λ u H'=>∃x:HL,H'=ap [] [x] /\ (u=.tuple #[vI ((T-eV P V.length:Nat):Int),vI 0] /\ PeerR rs_ ds_ bp pp pl me w S J (r7 (gP S J) w P V.length T (ii pl me P.rows (jk kv))) kv (c+(T-eV P V.length)) sn none x)):=by
 rw[aU];cases h with
 | mk q1_ q2_ q3_ q4_ q5_ hse_ hg hb hn hkv hr hrl hrr hu hul huu he hel hee hse3_ hs hsc hsn hsb hpl hX =>
  exact(zc q1_ q2_ q3_ q4_ q5_ hse_ hg hb hn hkv hr hrl hrr hu hul huu he hel hee hse3_ hs hsc hsn hsb hpl hX hI hV X3 Ti VV hw (by omega) hvn WX Zv S4 hE T hT1 hT2 hT3)
end Go.Proofs.YtdppjkjbghbnjaaGreatDoor
