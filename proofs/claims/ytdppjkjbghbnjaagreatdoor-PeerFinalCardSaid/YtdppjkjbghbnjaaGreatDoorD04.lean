import Derived.Test.YtdppjkjbghbnjaaGreatDoorProg
import Derived.Shelf.Small.Bits
import Derived.Shelf.Strconv.Itoa0
import Derived.Test.YtdppjkjbghbnjaaGreatDoorD03
set_option maxHeartbeats 4000000
set_option maxRecDepth 100000
set_option linter.all false
namespace Go.Proofs.YtdppjkjbghbnjaaGreatDoor
open IntKind
open Go.RowKit Go.Shelf
section
variable {α:Type} (e:Enc α)
def SlX(T:TypeId)(l:List α)(A:Option Addr)(cap:Nat)(Hl:HL):Prop :=
 (A=none /\ cap=0 /\ l=[] /\ Hl=[]) \/ ∃b o M full,A=some ⟨b,o*e.w,none⟩ /\ Hl=[(b,.rows e.w M (aQ e full) T (0,0))] /\ full.length=M /\ o+cap <= M /\ l.length <= cap /\ (full.drop o).take l.length=l
theorem SlX.nil(T:TypeId):SlX e T [] none 0 []:=.inl ⟨rfl,rfl,rfl,rfl⟩
end
section
variable {α:Type} {e:Enc α} {T:TypeId} {l xs:List α} {A:Option Addr} {cap:Nat} {Hl F:HL}
theorem SlIs.x(h:SlIs e T l A cap Hl):SlX e T l A cap Hl:=by
 rcases h with h|⟨b,o,full,h1,h2,h3,h4,h5⟩
 ·exact .inl h
 ·exact .inr ⟨b,o,o+cap,full,h1,h2,h3,aa0 _,h4,h5⟩
theorem SlX.len(h:SlX e T l A cap Hl):l.length <= cap:=by
 rcases h with ⟨_,rfl,rfl,_⟩|⟨b,o,M,full,h1,h2,h3,h4,h5,h6⟩
 ·simp
 ·exact h5
theorem SlX.toRowL(h:SlX e T l A cap Hl)(hF:∀x∈Hl,x∈F):RowL e T F A l.length l:=by
 rcases h with ⟨rfl,rfl,rfl,rfl⟩|⟨b,o,M,full,rfl,rfl,h1,hM,h2,h3⟩
 ·exact .zero _
 ·refine .rows b o M full (0,0) _ l (hF _ (List.mem_singleton.2 rfl)) (by omega) rfl (λ k hk=>?_);have h4:((full.drop o).take l.length)[k]?=l[k]?:=by rw[h3]
  rw[acm,if_pos hk,ack] at h4;rw[aaJ,aaJ,h4]
theorem SlX.cut(hs:SlX e T xs A cap Hl){k h m:Nat}(h1:k <= h)(h2:h <= xs.length)(h3:h <= m)(h4:m <= cap):SlX e T ((xs.take h).drop k) (zz A k e.w m) (m-k) Hl:=by
 rcases hs with ⟨rfl,rfl,rfl,rfl⟩|⟨b,o,M,full,rfl,rfl,g1,g2,g3,g4⟩
 ·refine .inl ⟨?_,by omega,by simp,rfl⟩;unfold zz slA;split <;> rfl
 ·have hl:((xs.take h).drop k).length=h-k:=by simp;omega
  by_cases hc:m=k
  ·refine .inr ⟨b,o,M,full,by unfold zz slA;rw[if_pos hc],rfl,g1,by omega,by rw[hl];omega,?_⟩;have:(xs.take h).drop k=[]:=abR (by rw[hl];omega);rw[this];simp
  ·refine .inr ⟨b,o+k,M,full,?_,rfl,g1,by omega,by rw[hl];omega,?_⟩
   ·unfold zz slA;rw[if_neg hc,Option.map_some,gF rfl];simp[sd,Nat.add_mul]
   ·rw[hl];have:(xs.take h).drop k=((full.drop o).take xs.length |>.take h).drop k:=by rw[g4]
    rw[this,List.take_take,List.drop_take,List.drop_drop,Nat.min_eq_left h2]
end
section
variable {α:Type} {e:Enc α} {P:Program} {t tx ty T:TypeId} {inf:TypeInfo} {z:Value}
theorem zB(ok:EncOk e P T inf z)(ht:P.underlying t=some (.slice T)){l:List α}{A:Option Addr}{cap:Nat}{Hl G:HL}{w:World}(h:SlX e T l A cap Hl)(hR:Rel (Hl++G) w)(src:List α)(x:Value)
  (hs:Src P inf.size tx x src.length (ar e src) w) (hb:l.length+src.length <= 100000000) :
  ∃A' f_ q_ w',(Builtin.append_ #[t,tx] ty #[.slice A l.length cap,x]).run P w=.ok (.slice A' (l.length+src.length) f_) w' /\ (SlX e T (l++src) A' f_ q_ /\ (bB A -> bB A')) /\ Rel (q_++G) w' /\ Below 0 w w':=by
 have XY:=ok.bytes;have SH:∀c,c<l.length+src.length -> Builtin.nextslicecap (l.length+src.length) c*inf.bytes <= 281474976710656:=λ c hc=>by
  have h1:=gX (l.length+src.length) c hc;have h2:Builtin.nextslicecap (l.length+src.length) c*inf.bytes <= (2*100000000+192)*1000:=Nat.mul_le_mul (by omega) XY;omega
 have grow:∀ (hg:cap<l.length+src.length) (hold:(Builtin.firstCells inf.size l.length (.slice A l.length cap)).run P w.drew=.ok (ar e l).toArray w.drew),∃A' f_ q_ w',(Builtin.append_ #[t,tx] ty #[.slice A l.length cap,x]).run P w=.ok (.slice A' (l.length+src.length) f_) w' /\ (SlX e T (l++src) A' f_ q_ /\ (bB A -> bB A')) /\ Rel (q_++G) w' /\ Below 0 w w':=by
  intro hg hold;have iD:=run_append_grow_src (P:=P) w t tx ty T inf z ht ok.info ok.zero A l.length cap (ar e l) hold x src.length (ar e src) hs hg (by omega) (SH cap hg);have To:=grownCap_ge w (l.length+src.length) cap T;generalize grownCap w (l.length+src.length) cap T=nc at *;refine⟨_,nc,[(w.heap.size,.rows e.w (0+nc) (aQ e (l++src++List.replicate (nc-(l.length+src.length)) e.dflt)) T (0,0))],_,iD,⟨.inr ⟨w.heap.size,0,0+nc,l++src++List.replicate (nc-(l.length+src.length)) e.dflt,by simp,rfl,by simp;omega,by omega,by simp;omega,by rw[List.drop_zero,List.take_append_of_le_length (by simp),List.take_of_length_le (by simp)]⟩,λ _=>rfl⟩,?_,?_⟩
  ·have SB:Rel G w:=hR.drop;have:=(Rel.cons (.rows e.w (0+nc) (aQ e (l++src++List.replicate (nc-(l.length+src.length)) e.dflt)) T (0,0)) (o:=.cells ((ar e l++ar e src).toArray++Builtin.zeroCells z.cells (nc-(l.length+src.length))) T (0,0)) ?_ (SB.world (w':=w.drew) rfl))
   ·exact this
   ·show Obj.cells _ _ _=_;congr 1;apply Array.ext';show bD _ _ _=_;have hl:0+nc=(l++src++List.replicate (nc-(l.length+src.length)) e.dflt).length:=by simp;omega
    rw[hl,gH,aP,aP,Array.toList_append,kX ok]
  ·exact⟨rfl,rfl,rfl,by simp,λ k hk=>by omega⟩
 rcases h with ⟨rfl,rfl,rfl,rfl⟩|⟨b,o,M,full,rfl,rfl,RZ,hM,hle,hl⟩
 ·-- nil
  rcases Nat.eq_zero_or_pos src.length with h0|h0
  ·obtain rfl:src=[]:=abR h0;refine⟨none,0,[],w,?_,⟨.inl ⟨rfl,rfl,by simp,rfl⟩,λ h=>h⟩,hR,Below.refl _ _⟩;have hc:(Builtin.firstCells inf.size 0 x).run P w=.ok #[] w:=hs.cells;rcases hs.kind with ⟨e',hk⟩|hk <;> simp[Builtin.append_,run_underlying ht,run_underlying hk,Go.sizeOf,typeInfo,ok.info,hs.len,hc]
  ·exact grow (by simp;omega) (by simp[ar];exact run_firstCells_none w.drew inf.size 0 0 0)
 ·have Sr:=hR.holds _ (aaw G (aax));simp only[Blk.den] at Sr;have TM:(bD e.w (aQ e full) M).length=M*e.w:=cU _ _ _;have ID:bD e.w (aQ e full) M=ar e full:=by rw[<- RZ];exact gH e full
  by_cases AI:l.length+src.length <= cap
  ·-- there is room
   have IT:=ok.size;have XS:(ar e src).length=src.length*e.w:=aJ e src;have Sa:o*e.w+l.length*inf.size+(ar e src).length <= M*e.w:=by
    rw[XS,IT,<- Nat.add_mul,<- Nat.add_mul];exact Nat.mul_le_mul_right _ (by omega)
   have OF:∀j,j<(ar e src).length -> (w.cell? ⟨b,o*e.w+l.length*inf.size+j,none⟩).isSome=true:=λ j hj=>by
    simp[World.cell?,Sr,TM];omega
   have VY:∀j,j<(ar e src).length -> w.frozen? ⟨b,o*e.w+l.length*inf.size+j,none⟩=false:=λ j hj=>by simp[World.frozen?,Sr]
   have iD:=run_append_room_src (P:=P) w t tx ty T inf ht ok.info b (o*e.w) l.length cap x src.length (ar e src) hs AI OF VY;have V6:=iO b (ar e src) (o*e.w+l.length*inf.size) w _ _ _ Sr;have TP:kW (bD e.w (aQ e full) M) (o*e.w+l.length*inf.size) (ar e src)=ar e (full.take (o+l.length)++src++full.drop (o+l.length+src.length)):=by
    apply List.ext_getElem?;intro j;rw[mM _ _ _ (by rw[TM];exact Sa),ID,aP,aP];have c1:(ar e (full.take (o+l.length))).length=(o+l.length)*e.w:=by rw[aJ,abk];congr 1;omega
    have c0:o*e.w+l.length*inf.size=(o+l.length)*e.w:=by rw[IT,<- Nat.add_mul]
    have Si:ar e full=ar e (full.take (o+l.length))++ar e (full.drop (o+l.length)):=by rw[<- aP,acn]
    have S7:ar e (full.drop (o+l.length))=ar e ((full.drop (o+l.length)).take src.length)++ar e (full.drop (o+l.length+src.length)):=by
     rw[<- aP,show o+l.length+src.length=(o+l.length)+src.length from rfl,<- List.drop_drop (i:=src.length) (j:=o+l.length),acn]
    have c2:(ar e ((full.drop (o+l.length)).take src.length)).length=src.length*e.w:=by rw[aJ,abk,abq];congr 1;omega
    rw[c0]
    by_cases h1:j<(o+l.length)*e.w
    ·rw[if_neg (by omega),Si,aaC,abD (by omega),abD (by omega)]
    ·by_cases h2:j<(o+l.length)*e.w+src.length*e.w
     ·rw[if_pos (by omega),aaC,abG (by omega),abD (by omega),c1]
     ·rw[if_neg (by omega),Si,S7,aaC,abG (by omega),abG (by omega),abG (by omega),abG (by omega),c1,c2,XS]
   have V0:(full.take (o+l.length)++src++full.drop (o+l.length+src.length)).length=M:=by simp;omega
   refine⟨_,cap,[(b,.rows e.w M (aQ e (full.take (o+l.length)++src++full.drop (o+l.length+src.length))) T (0,0))],_,iD,⟨.inr ⟨b,o,M,_,rfl,rfl,V0,hM,by simp;omega,?_⟩,λ h=>h⟩,?_,iQ _ _ _ _⟩
   ·have h1:full.take (o+l.length)=full.take o++l:=by rw[List.take_add,hl]
    rw[h1,aaC,aaC,List.drop_append_of_le_length (by simp;omega),List.drop_eq_nil_of_le (by rw[abk];omega),List.nil_append,<- aaC];rw[List.take_append_of_le_length (by simp)];exact List.take_of_length_le (by simp)
   ·refine⟨?_,by have:=hR.nodup;simpa using this⟩;intro y hy;rcases List.mem_cons.1 hy with rfl|hy
    ·rw[V6,TP];simp only[Blk.den];rw[<- V0,gH]
    ·have At:y.1≠b:=by
      have:=hR.nodup;simp only[List.cons_append,List.nil_append,List.map_cons,List.nodup_cons] at this;intro e1;exact this.1 (by rw[<- e1];exact List.mem_map_of_mem hy)
     rw[iP b _ _ _ _ At];exact hR.holds y (aav _ hy)
  ·refine grow (by omega) ?_;refine run_firstCells_some w.drew inf.size l.length ⟨b,o*e.w,none⟩ l.length cap (ar e l) (by rw[aJ,ok.size]) ?_;intro j u hj;have Ub:j<(ar e l).length:=(List.getElem?_eq_some_iff.1 hj).1;rw[aJ] at Ub;have K_:ar e l=((ar e full).drop (o*e.w)).take (l.length*e.w):=by
    have h1:ar e full=ar e (full.take o)++(ar e l++ar e ((full.drop o).drop l.length)):=by
     rw[<- aP,<- aP];congr 1
     conv=>lhs;rw[<- acn o full]
     congr 1
     conv=>lhs;rw[<- acn l.length (full.drop o)]
     rw[hl]
    have c1:(ar e (full.take o)).length=o*e.w:=by rw[aJ,abk];congr 1;omega
    rw[h1,List.drop_append_of_le_length (by omega),List.drop_eq_nil_of_le (by omega),List.nil_append,List.take_append_of_le_length (by rw[aJ];exact aa0 _),List.take_of_length_le (by rw[aJ];exact aa0 _)]
   rw[Addr.add_lit];show World.cell? w ⟨b,o*e.w+j,none⟩=some u;simp only[World.cell?,Sr,ID];rw[K_,acm,if_pos (by omega),ack] at hj;simpa using hj
theorem qA{N:Nat}{D:List Deferred}{F:HL}{L:FL}{H:HL}(ok:EncOk e P T inf z){o:Oper}{a1 a2:Operand}(H_:o.op=.call { callee:=.builtin .append,args:=#[a1,a2],argTypes:=#[t,tx] })(ht:P.underlying t=some (.slice T))
  {l src:List α} {A:Option Addr} {cap n:Nat} {Hl G:HL} {x:Value} (hi:(gB L a1 && gB L a2)=true) (h1:fA L a1=.slice A n cap) (hn:n=l.length) (h2:fA L a2=x) (oF:(Hl++G).Perm H) (Tk:SlX e T l A cap Hl)
  (hs:∀w,Rel (H++F) w -> Src P inf.size tx x src.length (ar e src) w) (hb:l.length+src.length <= 100000000) (a:Act) (hF:Fm N D L a) (w:World) (hR:Rel (H++F) w) :
  dt P o a w λ u w'=>∃y:Option Addr × Nat × HL,(u=.slice y.1 (n+src.length) y.2.1 /\ (SlX e T (l++src) y.1 y.2.1 y.2.2 /\ (bB A -> bB y.1))) /\ Rel ((y.2.2++G)++F) w' /\ Below 0 w w':=by
 subst hn;simp only[ab1] at hi;have e1:=(hF.eval hi.1).trans h1;have e2:=(hF.eval hi.2).trans h2;have D_:Rel (Hl++(G++F)) w:=by rw[<- aaC];exact hR.perm (oF.append_right F)
 obtain⟨A',f_,q_,w',r1,r2,r3,r4⟩:=zB (ty:=o.type) ok ht Tk D_ src x (hs w hR) hb;unfold dt;have iD:(execOp a.eval o).run P w=.ok (.value (.slice A' (l.length+src.length) f_)) w':=by
  simp[execOp,H_,resolve,invoke,builtin,ace,e1,e2,r1]
 rw[iD];exact⟨(A',f_,q_),⟨rfl,r2⟩,by rw[aaC];exact r3,r4⟩
end
section
variable {r:Option Nat} {P:Program} {N:Nat} {D:List Deferred} {F:HL} {w0:World} {R:HL} {s:Cfg} {Q:Exit -> Act -> World -> Prop} {hards:List Nat} {Rd:HL}
variable {α:Type} {e:Enc α} {T:TypeId} {inf:TypeInfo} {z:Value}
theorem RN.appX(ok:EncOk e P T inf z)(l src:List α)(j p:Nat){A:Option Addr}{n cap:Nat}{Hl:HL}(hn:n=l.length)(Tk:SlX e T l A cap Hl)(hb:l.length+src.length <= 100000000)
  (hk:∀ (A':Option Addr) (f_:Nat) (q_:HL),(SlX e T (l++src) A' f_ q_ /\ (bB A -> bB A')) -> RN r P N D F w0 R (MF j q_ (dX N (.slice A' (n+src.length) f_) s)) Q)
  (h:C3 P N j p (gI s) s=some (A,n,cap,T,src.length,ar e src,Hl,C4 p s):=by kernel_rfl):RN r P N D F w0 R s Q:=by
 obtain⟨o,a1,a2,t,tx,e',c',b,ty,fz,q0,q1,q2,q3,q4,q5,q6,q7,q8,q9,IS,RJ⟩:=lK h;refine⟨λ hR a w hF aT hB=>?_⟩;obtain⟨c,k,L,B,Ts⟩:=s;unfold gI at q0;cases c with
 | code c=>cases q0
 | ex c=>cases q0
 | drw _ _=>cases q0
 | ops ops i =>
  simp only at q0 q3 q4 q5 q8 q9 IS RJ hF aT;have oR:ops.toList.drop i=o::ops.toList.drop (i+1):=by
   have iF:i<ops.toList.length:=(List.getElem?_eq_some_iff.1 q0).1;rw[List.drop_eq_getElem_cons iF,(List.getElem?_eq_some_iff.1 q0).2]
  show wpListIn _ _ _ _ _ _ _ _;rw[oR,wpListIn,if_pos (by simp[Region.wanted,q1])];refine⟨λ _ _=>trivial,?_⟩;have oF:=gh (A:=B) q9 IS;refine fc (by rw[q2];intro c hc;cases hc) (qA (x:=vS b 0 src.length c') (src:=src) (G:=B++((oth [j] Ts.length).filterMap (Ts[·]?)).flatten) ok q2 q6 q3 q4 hn q5 oF Tk (λ w hw=>pW ok q7 p (by rw[abD (List.getElem?_eq_some_iff.1 q8).1];exact q8) hw) hb a hF w aT) ?_;rintro u w' ⟨⟨A',f_,q_⟩,⟨rfl,Uk⟩,D_,SU⟩;obtain⟨L',p1⟩:=dg RJ (.slice A' (n+src.length) f_);have hh:=(hk A' f_ q_ Uk).h hR;have Ru:dX N (.slice A' (n+src.length) f_) ⟨.ops ops i,k,L,B,Ts⟩=⟨.ops ops (i+1),k,L',B,Ts⟩:=by
   unfold dX;simp only[q0,p1]
  rw[Ru] at hh;refine hh _ w' (hF.put p1) (D_.perm (abO F ?_)) (hB.trans SU);show (B++(q_::(oth [j] Ts.length).filterMap (Ts[·]?)).flatten).Perm _;rw[acb,<- aaC,<- aaC];exact abO _ abL
theorem RDO.appX{i:Nat}(ix:List Nat)(ok:EncOk e P T inf z)(l src:List α)(j p:Nat){A:Option Addr}{n cap:Nat}{Hl:HL}(hn:n=l.length)(Tk:SlX e T l A cap Hl)(hb:l.length+src.length <= 100000000)
  (hk:∀ (A':Option Addr) (f_:Nat) (q_:HL),(SlX e T (l++src) A' f_ q_ /\ (bB A -> bB A')) -> RD r P N D F w0 R hards Rd (MF j q_ (vX N i (.slice A' (n+src.length) f_) s)) Q)
  (h:C3 P N j p (k9 i s) s=some (A,n,cap,T,src.length,ar e src,Hl,C4 p s):=by kernel_rfl) (hx:(hards.contains i,zu ix s)=(true,Rd):=by kernel_rfl):RDO r P N D F w0 R hards Rd i s Q:=by
 obtain⟨o,a1,a2,t,tx,e',c',b,ty,fz,q0,q1,q2,q3,q4,q5,q6,q7,q8,q9,IS,RJ⟩:=lK h;obtain⟨c,k,L,B,Ts⟩:=s;unfold k9 at q0;simp only[Prod.mk.injEq] at hx;cases c with
 | code c=>cases q0
 | ex c=>cases q0
 | ops _ _=>cases q0
 | drw ops li =>
  refine⟨λ hR=>?_⟩;simp only at q0 q3 q4 q5 q8 q9 IS RJ;have oF:=gh (A:=B) q9 IS;have Ru:∀v L',eh N o.dst v L=some L' -> vX N i v ⟨.drw ops li,k,L,B,Ts⟩=⟨.drw ops (bn li i true),k,L',B,Ts⟩:=by
   intro v L' hl;unfold vX;simp only[q0,hl]
  refine(kZ (Q:=Q) (by simpa using q0) (σ:=Option Addr × Nat × HL) (λ u y=>u=.slice y.1 (n+src.length) y.2.1 /\ (SlX e T (l++src) y.1 y.2.1 y.2.2 /\ (bB A -> bB y.1))) (λ y=>ap B (y.2.2::(oth [j] Ts.length).filterMap (Ts[·]?))) RJ (λ a hF=>⟨by simp[Region.wanted,q1],λ w aT hB=>?_⟩) (λ y=>⟨λ hi=>?_,λ hi x hm=>aaw _ (sO ix hx.2 x hm)⟩) ?_:RDO r P N D F w0 R hards Rd i ⟨.drw ops li,k,L,B,Ts⟩ Q).h hR
  ·refine eZ (qA (x:=vS b 0 src.length c') (src:=src) (G:=B++((oth [j] Ts.length).filterMap (Ts[·]?)).flatten) ok q2 q6 q3 q4 hn q5 oF Tk (λ w hw=>pW ok q7 p (by rw[abD (List.getElem?_eq_some_iff.1 q8).1];exact q8) hw) hb a hF w aT) ?_;rintro u w' ⟨y,h3,D_,SU⟩;refine⟨y,h3,D_.perm (abO F ?_),SU⟩;show (B++(y.2.2::(oth [j] Ts.length).filterMap (Ts[·]?)).flatten).Perm _;rw[acb,<- aaC,<- aaC];exact abO _ abL
  ·exact absurd (List.contains_iff_mem.1 hx.1) hi
  ·rintro u ⟨A',f_,q_⟩ ⟨rfl,h3⟩ L' hl hs;have h1:=(hk A' f_ q_ h3).h hR;rw[Ru _ L' hl] at h1;exact h1 hs
end
abbrev bd(n:Int):Int:=i64.wrap n
structure V2 where (x y:Int)
structure Bx where (x0 y0 x1 y1:Int)
structure Mot where (px py vx vy inv:Int)
structure Con where (nx ny d:Int)
def aF(n lo hi:Int):Int:=if n<lo then lo else if n>hi then hi else n
def lc(a b:Int):Int:=if b=0 then 0 else if (a.tmod b>0 /\ b<0) \/ (a.tmod b<0 /\ b>0) then bd (bd (a.tdiv b)-1) else bd (a.tdiv b)
def f8(a b:Int):Int:=lc (bd (a*b)) 1024
def aw(a b c:Int):Int:=lc (bd (a*b)) c
theorem cK(n:Int)(lo:Int)(hi:Int)  (F:HL):Sp Tryz.prog 167 #[vI n,vI lo,vI hi] [] F (λ u H'=>u=vI (aF n lo hi) /\ H'=[]):=by
 refine aat Tryz.func167 rfl mn (A:=[]) (Ts:=[]) rfl λ w0=>?_;refine ae 15 [] λ _=>aal (n<lo) 7 (λ h1=>?_) λ h1=>?_
 ·refine ae 7 [] λ _=>aap [] [] [] (v:=vI lo) (H':=[]) ?_;exact⟨by unfold aF;simp[*],rfl⟩
 ·refine ae 9 [] λ _=>aal (n>hi) 12 (λ h2=>?_) λ h2=>?_
  ·refine ae 7 [] λ _=>aap [] [] [] (v:=vI hi) (H':=[]) ?_;exact⟨by unfold aF;simp[*],rfl⟩
  ·refine ae 10 [] λ _=>aap [] [] [] (v:=vI n) (H':=[]) ?_;exact⟨by unfold aF;simp[*],rfl⟩
theorem nG(a:Int)(b:Int)  (F:HL):Sp Tryz.prog 233 #[vI a,vI b] [] F (λ u H'=>u=vI (lc a b) /\ H'=[]):=by
 refine aat Tryz.func233 rfl mn (A:=[]) (Ts:=[]) rfl λ w0=>?_;refine ae 12 [] λ _=>aal (b=0) 8 (λ h1=>?_) λ h1=>?_
 ·refine ae 6 [] λ _=>aap [] [] [] (v:=vI 0) (H':=[]) ?_;exact⟨by unfold lc;simp[*],rfl⟩
 ·refine ae 4 [] λ _=>aak [] []<|aD [] [0,1,3,4,2,5,6,7] [.dv,.dv] [b≠0,b≠0]<|aad<|ae 13 [] λ _=>aal (a.tmod b>0) 18 (λ h2=>?_) λ h2=>?_
  ·refine ae 6 [] λ _=>aal (b<0) 15 (λ h3=>?_) λ h3=>?_
   ·refine ae 23 [] λ _=>aap [] [] [] (v:=vI (i64.wrap ((i64.wrap (a.tdiv b))-1))) (H':=[]) ?_;exact⟨by unfold lc;simp[*],rfl⟩
   ·refine ae 8 [] λ _=>aal (a.tmod b<0) 25 (λ h4=>?_) λ h4=>?_
    ·refine ae 6 [] λ _=>aal (b>0) 22 (λ h5=>?_) λ h5=>?_
     ·refine ae 22 [] λ _=>aap [] [] [] (v:=vI (i64.wrap ((i64.wrap (a.tdiv b))-1))) (H':=[]) ?_;exact⟨by unfold lc;simp[*],rfl⟩
     ·refine ae 15 [] λ _=>aap [] [] [] (v:=vI (i64.wrap (a.tdiv b))) (H':=[]) ?_;exact⟨by unfold lc;simp[*],rfl⟩
    ·refine ae 21 [] λ _=>aap [] [] [] (v:=vI (i64.wrap (a.tdiv b))) (H':=[]) ?_;exact⟨by unfold lc;simp[*],rfl⟩
  ·refine ae 14 [] λ _=>aal (a.tmod b<0) 25 (λ h6=>?_) λ h6=>?_
   ·refine ae 6 [] λ _=>aal (b>0) 22 (λ h7=>?_) λ h7=>?_
    ·refine ae 22 [] λ _=>aap [] [] [] (v:=vI (i64.wrap ((i64.wrap (a.tdiv b))-1))) (H':=[]) ?_;exact⟨by unfold lc;simp[*],rfl⟩
    ·refine ae 15 [] λ _=>aap [] [] [] (v:=vI (i64.wrap (a.tdiv b))) (H':=[]) ?_;exact⟨by unfold lc;simp[*],rfl⟩
   ·refine ae 21 [] λ _=>aap [] [] [] (v:=vI (i64.wrap (a.tdiv b))) (H':=[]) ?_;exact⟨by unfold lc;simp[*],rfl⟩
theorem nH(a:Int)(b:Int)  (F:HL):Sp Tryz.prog 209 #[vI a,vI b] [] F (λ u H'=>u=vI (f8 a b) /\ H'=[]):=by
 refine aat Tryz.func209 rfl mn (A:=[]) (Ts:=[]) rfl λ w0=>?_;refine ae 10 [] λ _=>aah (nG (i64.wrap (a*b)) 1024  _)<|ae 3 [] λ _=>?_;exact aap [] [] [] ⟨rfl,rfl⟩
theorem gi(a:Int)(b:Int)(c:Int)  (F:HL):Sp Tryz.prog 242 #[vI a,vI b,vI c] [] F (λ u H'=>u=vI (aw a b c) /\ H'=[]):=by
 refine aat Tryz.func242 rfl mn (A:=[]) (Ts:=[]) rfl λ w0=>?_;refine ae 11 [] λ _=>aah (nG (i64.wrap (a*b)) c  _)<|ae 3 [] λ _=>?_;exact aap [] [] [] ⟨rfl,rfl⟩
end Go.Proofs.YtdppjkjbghbnjaaGreatDoor
namespace Go.Proofs
open IntKind
open Go.Shelf
def oz:Go.Shelf.Ren:=⟨λ|125=>218|128=>251|129=>252|n=>n,λ|46=>272|3=>3|51=>352|53=>129|4=>4|5=>5|9=>9|n=>n,λ|n=>n⟩
theorem uD:Go.Proofs.Lays.n125 Tryz.prog oz:={
 mixed:=by kernel_rfl
 f125:=Tryz.func218.trans (congrArg some (by kernel_rfl))
 f128:=Tryz.func251.trans (congrArg some (by kernel_rfl))
 f129:=Tryz.func252.trans (congrArg some (by kernel_rfl))
 t3:=Tryz.underlying3
 a3:=Tryz.isAgg3
 z3:=Tryz.sizeOf3
 v3:=Tryz.zeroValue3
 t4:=Tryz.underlying4
 a4:=Tryz.isAgg4
 z4:=Tryz.sizeOf4
 v4:=Tryz.zeroValue4
 t5:=Tryz.underlying5
 a5:=Tryz.isAgg5
 z5:=Tryz.sizeOf5
 v5:=Tryz.zeroValue5
 t9:=Tryz.underlying9
 a9:=Tryz.isAgg9
 z9:=Tryz.sizeOf9
 v9:=Tryz.zeroValue9
 t46:=Tryz.underlying272
 a46:=Tryz.isAgg272
 z46:=Tryz.sizeOf272
 v46:=Tryz.zeroValue272
 t51:=Tryz.underlying352
 a51:=Tryz.isAgg352
 z51:=Tryz.sizeOf352
 v51:=Tryz.zeroValue352
 t53:=Tryz.underlying129
 a53:=Tryz.isAgg129
 z53:=Tryz.sizeOf129
 v53:=Tryz.zeroValue129 }
theorem Tryz.bits_Len(x:Int)(w:World)(h0:0 <= x)(h1:x <= 18446744073709551615) :
 Calls Tryz.prog 218 #[.int .u64 x] w λ e w'=>e=.returned (.int .i64 (Lib.bitLen x.toNat)) /\ w'=w:=Any.bits_Len uD x w h0 h1
end Go.Proofs
namespace Go.Proofs.YtdppjkjbghbnjaaGreatDoor
open IntKind
open Go.RowKit
abbrev FM(n:Int):Int:=u64.wrap n
theorem uE(n:Int):0 <= FM n /\ FM n <= 18446744073709551615:=by
 show 0 <= u64.wrap n /\ u64.wrap n <= _;unfold IntKind.wrap;simp[IntKind.signed,IntKind.bits];omega
abbrev C8(n:Int):Int:=(Lib.bitLen (FM n).toNat:Int)
theorem FN(n:Int)(F:HL):Sp Tryz.prog 218 #[.int .u64 (FM n)] [] F (λ u H'=>u=vI (C8 n) /\ H'=[]) :=
 wg (λ w=>Tryz.bits_Len _ w (uE n).1 (uE n).2) F
theorem JZ(n:Int):0 <= C8 n /\ C8 n <= 64:=by
 have h:=uE n;have:=Lib.bitLen_le (FM n).toNat 64 (by omega) (by omega);unfold C8;omega
def J0(r:Int)(k:Nat):Int:=bd ((BitVec.ofInt 64 r ||| BitVec.ofInt 64 (bd (1*2 ^ min k 64))).toNat:Int)
def uF(n:Int):Nat -> Int -> Int
 | 0,r=>r
 | k+1,r=>uF n k (if J0 r k>bd (n.tdiv (J0 r k)) then r else J0 r k)
def C9(n:Int):Int:=bd (bd ((bd (C8 n+1)).tdiv 2)-1)
def uG(n:Int):Int:=if n <= 0 then 0 else uF n (C9 n+1).toNat 0
theorem Qx(v:BitVec 64)(h:bd (v.toNat:Int)=0):v=0#64:=by
 apply BitVec.eq_of_toNat_eq;have h2:v.toNat<18446744073709551616:=v.isLt;generalize v.toNat=m at *;rw[bd,IntKind.wrap_i64] at h;simp;omega
theorem MH(r:Int){k:Nat}(hk:k<40):J0 r k≠0:=by
 intro h;have hb:BitVec.ofInt 64 (bd (1*2 ^ min k 64))≠0#64:=by
  have:∀k<40,BitVec.ofInt 64 (bd (1*2 ^ min k 64))≠0#64:=by decide
  exact this k hk
 have h1:=Qx _ h;clear h;generalize BitVec.ofInt 64 (bd (1*2 ^ min k 64))=b at *;generalize BitVec.ofInt 64 r=a at *;apply hb;have:(a ||| b) &&& b=b:=by
  apply BitVec.eq_of_getLsbD_eq;intro i hi;simp;intro h;exact .inr h
 rw[h1] at this;simpa using this.symm
theorem BB(n:Int):-1 <= C9 n /\ C9 n <= 31:=by
 have:=JZ n;unfold C9 bd;generalize C8 n=l at *;have e1:i64.wrap (l+1)=l+1:=by rw[IntKind.wrap_i64];omega
 rw[e1,Int.tdiv_eq_ediv_of_nonneg (by omega)];have e2:i64.wrap ((l+1) / 2)=(l+1) / 2:=by rw[IntKind.wrap_i64];omega
 rw[e2,IntKind.wrap_i64];omega
theorem dh{x:Int}(h:-9223372036854775808 <= x /\ x <= 9223372036854775807):bd x=x:=by
 rw[bd,IntKind.wrap_i64];omega
theorem wt{n r s:Int}{k:Int}(h0:¬ s<0)(h:uF n (s+1).toNat r=k):uF n s.toNat (if J0 r s.toNat>bd (n.tdiv (J0 r s.toNat)) then r else J0 r s.toNat)=k:=by
 have e:(s+1).toNat=s.toNat+1:=by omega
 rw[e,uF] at h;exact h
theorem Da(n:Int)  (F:HL):Sp Tryz.prog 313 #[vI n] [] F (λ u H'=>u=vI (uG n) /\ H'=[]):=by
 refine aat Tryz.func313 rfl mn (A:=[]) (Ts:=[]) rfl λ w0=>?_;refine ae 13 [] λ _=>aal (n <= 0) 7 (λ h1=>?_) λ h1=>?_
 ·refine ae 6 [] λ _=>aap [] [] [] (v:=vI 0) (H':=[]) ?_;refine⟨?_,rfl⟩;unfold uG
  first|(simp[*];done)|(have e:(s+1).toNat=0:=by omega);(rw[e,uF] at Vl);(simp[*])
 ·refine ae 16 [] λ _=>aah (FN n _)<|ae 7 [] λ _=>aan (σ:=Int × Int) (λ ⟨r,s⟩=>⟨[(0,vI n),(3,vI r),(4,vI s)],[],[],-1 <= s /\ s <= 31 /\ uF n (s+1).toNat r=uF n (C9 n+1).toNat 0,(s+1).toNat⟩) (0,C9 n) [] [] (⟨(BB n).1,(BB n).2,rfl⟩) ?_;rintro⟨r,s⟩ ⟨hI0,hI1,Vl⟩ RF;have hw:s >= 0 -> i64.wrap (s-1)=s-1:=λ _=>dh (by omega);have K_:(s-1+1).toNat=s.toNat:=by rw[Int.sub_add_cancel]
  refine ae 7 [] λ _=>aal (s >= 0) 15 (λ h4=>?_) λ h4=>?_
  ·refine qt 24 [.dv,.gen,.dv] (λ _=>[i64.wrap ((BitVec.ofInt 64 r ||| BitVec.ofInt 64 (i64.wrap (1*2 ^ min (s).toNat 64))).toNat:Int)≠0,0 <= s]) (λ _=>(ac (MH r (by omega)) (ac (by omega) an))) λ _=>aal (i64.wrap ((BitVec.ofInt 64 r ||| BitVec.ofInt 64 (i64.wrap (1*2 ^ min (s).toNat 64))).toNat:Int)>i64.wrap (n.tdiv (i64.wrap ((BitVec.ofInt 64 r ||| BitVec.ofInt 64 (i64.wrap (1*2 ^ min (s).toNat 64))).toNat:Int)))) 26 (λ h5=>?_) λ h5=>?_
   ·refine ae 10 [] λ _=>?_;refine RF (r,i64.wrap (s-1)) [] [] ?_
    try dsimp only
    have hN:=wt (by omega) Vl;rw[hw (by assumption),K_];refine⟨⟨by omega,by omega,?_⟩,by omega⟩;simpa only[J0, *,if_true,if_false] using hN
   ·refine ae 14 [] λ _=>?_;refine RF (i64.wrap ((BitVec.ofInt 64 r ||| BitVec.ofInt 64 (i64.wrap (1*2 ^ min (s).toNat 64))).toNat:Int),i64.wrap (s-1)) [] [] ?_
    try dsimp only
    have hN:=wt (by omega) Vl;rw[hw (by assumption),K_];refine⟨⟨by omega,by omega,?_⟩,by omega⟩;simpa only[J0, *,if_true,if_false] using hN
  ·refine ae 12 [] λ _=>aap [] [] [] (v:=vI r) (H':=[]) ?_;refine⟨?_,rfl⟩;unfold uG
   first|(simp[*];done)|(have e:(s+1).toNat=0:=by omega);(rw[e,uF] at Vl);(simp[*])
def kS:Enc (Int × Int):=⟨2,λ p k=>match k with|0=>vI p.1|_=>vI p.2,(0,0)⟩
noncomputable def OW:TypeInfo:=match Tryz.prog.info? 188 with | some i=>i | none=>⟨.bool,"",0,0,false,0,0,none,false,#[]⟩
noncomputable def OX:Value:=match OW.zero with|some z=>z|none=>.bool false
theorem LT:EncOk kS Tryz.prog 188 OW OX where
 info:=by kernel_rfl
 zero:=by kernel_rfl
 size:=by kernel_rfl
 zsize:=by kernel_rfl
 zcell:=λ k hk=>by
  have h:∀k<2,OX.cells[k]?=some (kS.cell kS.dflt k):=by intro k hk;(iterate 2 (rcases k with _|k;· kernel_rfl));omega
  exact h k hk
 one:=λ x k=>by unfold kS;dsimp only;split <;> rfl
 bytes:=aaN (by kernel_rfl)
def p6:Nat -> List Int -> List (Int × Int)
 | _,[]=>[]
 | a,k::l=>((a:Int),k)::p6 (a+1) l
theorem kg:∀ (a:Nat) (ms:List Int),(p6 a ms).length=ms.length
 | _,[]=>rfl
 | a,k::l=>by rw[p6,abr,abr,kg]
theorem BC:∀ (a:Nat) (ms:List Int) (i:Nat),i<ms.length -> (p6 a ms)[i]?=some (((a+i:Nat):Int),ms.getD i 0)
 | _,[],i,h=>absurd h (Nat.not_lt_zero _)
 | a,k::l,0,_=>by rw[p6];rfl
 | a,k::l,i+1,h=>by
  rw[p6,List.getElem?_cons_succ,BC (a+1) l i (by simpa using h),show a+1+i=a+(i+1) by omega];rfl
theorem wu(k:Int):∀ (a:Nat) (ms:List Int),p6 a (ms++[k])=p6 a ms++[(((a+ms.length:Nat):Int),k)]
 | a,[]=>rfl
 | a,x::l=>by
  show _::p6 (a+1) (l++[k])=_;rw[wu k (a+1) l,abr,show a+1+l.length=a+(l.length+1) by omega];rfl
theorem wv:∀ (a:Nat) (ms:List Int) (n:Nat),(p6 a ms).take n=p6 a (ms.take n)
 | _,[],n=>by cases n <;> rfl
 | _,_::_,0=>rfl
 | a,k::l,n+1=>by
  show _::(p6 (a+1) l).take n=_::p6 (a+1) (l.take n);rw[wv]
theorem uH{a:Nat}{ms:List Int}{A:Option Addr}{cap:Nat}{Hl:HL}(h:SlX kS 188 (p6 a ms) A cap Hl)(hn:ms≠[]):∃b o M full,A=some ⟨b,o*2,none⟩ /\ Hl=[(b,.rows 2 M (aQ kS full) 188 (0,0))] /\ full.length=M /\ o+cap <= M /\ ms.length <= cap /\ (full.drop o).take ms.length=p6 a ms /\ ∀k,k<ms.length -> full.getD (o+k) kS.dflt=(((a+k:Nat):Int),ms.getD k 0):=by
 rcases h with ⟨_,_,h,_⟩|⟨b,o,M,full,h1,h2,h3,h4,h5,h6⟩
 ·exfalso;have:=congrArg List.length h;rw[kg] at this;exact hn (abR this)
 ·rw[kg] at h5 h6;refine⟨b,o,M,full,h1,h2,h3,h4,h5,h6,λ k hk=>?_⟩;have e:=congrArg (·[k]?) h6;simp only[acm,if_pos hk,ack,BC a ms k hk] at e;rw[aaJ,e];rfl
theorem FO(rb mb b o M n cap w:Nat)(full:List (Int × Int))(F:HL)(hm:(rb,.lit [vP mb 0,vI (w:Int),vS b (o*2) n cap] 169 (0,0))∈F)(hq:(b,.rows 2 M (aQ kS full) 188 (0,0))∈F)(hn:1 <= n)(ho:o+n <= M)(WA:n <= 100000000):Sp Tryz.prog 100 #[vP rb 0] [] F (λ u H'=>u=vI (full.getD o kS.dflt).1 /\ H'=[]):=by
 refine aat Tryz.func100 rfl (mc hm (mc hq mn)) (A:=[]) (Ts:=[]) rfl λ w0=>?_;refine ae 16 [.ro 0] λ _=>aal ((n:Int)=0) 8 (λ h1=>?_) λ h1=>?_
 ·(exfalso;omega)
 ·refine aj 15 [.ro 0,.ix 0,.rorow 1 (o+0) 0] [(o*2+0*2)=(o+0)*2+0 /\ (o+0)<M,0=((0:Nat):Int) /\ 0<n] λ _=>?_;exact aap [] [] [] ⟨rfl,rfl⟩
theorem wx(rb mb b o M n cap w:Nat)(full:List (Int × Int))(F:HL)(hm:(rb,.lit [vP mb 0,vI (w:Int),vS b (o*2) n cap] 169 (0,0))∈F)(hq:(b,.rows 2 M (aQ kS full) 188 (0,0))∈F)(hn:1 <= n)(ho:o+n <= M)(WA:n <= 100000000):Sp Tryz.prog 76 #[vP rb 0] [] F (λ u H'=>u=vI (full.getD (o+(n-1)) kS.dflt).1 /\ H'=[]):=by
 refine aat Tryz.func76 rfl (mc hm (mc hq mn)) (A:=[]) (Ts:=[]) rfl λ w0=>?_;refine ae 16 [.ro 0] λ _=>aal ((n:Int)=0) 8 (λ h1=>?_) λ h1=>?_
 ·(exfalso;omega)
 ·refine ae 4 [] λ _=>aak [] []<|aD [] [0,4,1,5,2,6,3,7,8,9,10,11,12,13] [.ro 0,.ro 0,.nw,.ix (n-1),.rorow 1 (o+(n-1)) 0] [(o*2+(n-1)*2)=(o+(n-1))*2+0 /\ (o+(n-1))<M,(n:Int)-1=(((n-1):Nat):Int) /\ (n-1)<n,bx ((n:Int)-1)]<|aad<|ae 1 [] λ _=>?_;exact aap [] [] [] ⟨rfl,rfl⟩
theorem FP(rb mb b o cap w:Nat)(F:HL)(hm:(rb,.lit [vP mb 0,vI (w:Int),vS b (o*2) 0 cap] 169 (0,0))∈F):Sp Tryz.prog 76 #[vP rb 0] [] F (λ u H'=>u=vI (-1) /\ H'=[]):=by
 refine aat Tryz.func76 rfl (mc hm mn) (A:=[]) (Ts:=[]) rfl λ w0=>?_;refine ae 22 [.ro 0] λ _=>?_;exact aap [] [] [] ⟨rfl,rfl⟩
theorem FQ(rb mb w:Nat)(F:HL)(hm:(rb,.lit [vP mb 0,vI (w:Int),.slice none 0 0] 169 (0,0))∈F):Sp Tryz.prog 76 #[vP rb 0] [] F (λ u H'=>u=vI (-1) /\ H'=[]):=by
 refine aat Tryz.func76 rfl (mc hm mn) (A:=[]) (Ts:=[]) rfl λ w0=>?_;refine ae 22 [.ro 0] λ _=>?_;exact aap [] [] [] ⟨rfl,rfl⟩
theorem J1(x1 x2 t:Int)(tq:Nat)(F:HL)(hm:(tq,.lit [vI t] 3 (0,0))∈F):Sp Tryz.prog 102 #[.agg #[vI x1,vI x2],vP tq 0] [] F (λ u H'=>u=.bool (decide (x1=t)) /\ H'=[]):=by
 refine aat Tryz.func102 rfl (mc hm mn) (A:=[]) (Ts:=[]) rfl λ w0=>?_;refine ae 15 [.own 0,.ro 0] λ n1=>?_;exact aap [] [] [] ⟨rfl,rfl⟩
theorem J3(b o M n cap tq k0:Nat)(t:Int)(full:List (Int × Int))(F:HL)(hm:(tq,.lit [vI t] 3 (0,0))∈F)(hq:(b,.rows 2 M (aQ kS full) 188 (0,0))∈F)(ho:o+n <= M)(WA:n <= 100000000)(hk:k0<n)(ht:(full.getD (o+k0) kS.dflt).1=t)(iF:∀k,k<k0 -> ¬ (full.getD (o+k) kS.dflt).1=t):Sp Tryz.prog 101 #[vS b (o*2) n cap,.func (.func 102) #[] #[vP tq 0]] [] F (λ u H'=>u=vI (k0:Int) /\ H'=[]):=by
 refine aat Tryz.func101 rfl (mc hm (mc hq mn)) (A:=[]) (Ts:=[]) rfl λ w0=>?_;refine ae 14 [] λ _=>aan (σ:=Nat) (λ i_=>⟨[(0,vS b (o*2) n cap),(1,.func (.func 102) #[] #[vP tq 0]),(7,vI (n:Int)),(8,vI (i_:Int))],[],[],i_ <= k0,k0-i_⟩) 0 [] [] (aa9 _) ?_;rintro i_ VS R9;refine ae 6 [] λ _=>aal ((i_:Int)<(n:Int)) 9 (λ h3=>?_) λ h3=>?_
 ·refine aj 18 [.ix i_,.rorow 1 (o+i_) 0,.rorow 1 (o+i_) 1] [((o*2+i_*2)+1)=(o+i_)*2+1 /\ (o+i_)<M,(o*2+i_*2)=(o+i_)*2+0 /\ (o+i_)<M,(i_:Int)=((i_:Nat):Int) /\ i_<n] λ _=>aah (J1 ((full.getD (o+i_) kS.dflt).1) ((full.getD (o+i_) kS.dflt).2) t tq _ (az hm))<|ae 2 [] λ _=>ij ((decide ((full.getD (o+i_) kS.dflt).1=t))) 16 (λ h4=>?_) λ h4=>?_
  ·refine ae 7 [] λ _=>aap [] [] [] (v:=vI (i_:Int)) (H':=[]) ?_;have e_:i_=k0:=by
    rcases abX i_ k0 with h_|h_
    ·exact absurd (by simpa using h4) (iF i_ h_)
    ·omega
   exact⟨by rw[e_],rfl⟩
  ·refine aj 8 [.nw] [bx ((i_:Int)+1)] λ _=>?_;refine R9 (i_+1) [] [] ?_
   try dsimp only
   have e_:i_≠k0:=by rintro rfl;exact absurd ht (by simpa using h4)
   exact⟨by omega,by omega⟩
 ·(exfalso;omega)
def BD(a:Nat)(ms:List Int):Int:=if ms=[] then -1 else ((a+ms.length:Nat):Int)-1
theorem BE{rb mb w a:Nat}{ms:List Int}{A:Option Addr}{cap n:Nat}{Hl F:HL}(hs:SlX kS 188 (p6 a ms) A cap Hl)(hF:∀x∈Hl,x∈F)(hn:n=ms.length)(WA:n <= 100000000)(hm:(rb,.lit [vP mb 0,vI (w:Int),.slice A n cap] 169 (0,0))∈F):Sp Tryz.prog 76 #[vP rb 0] [] F (λ u H'=>u=vI (BD a ms) /\ H'=[]):=by
 subst hn;unfold BD;split
 ·next e =>
  subst e;rcases hs with ⟨rfl,rfl,_,_⟩|⟨b,o,M,full,rfl,rfl,h3,h4,h5,h6⟩
  ·exact FQ rb mb w F hm
  ·exact FP rb mb b o cap w F hm
 ·next e =>
  have hp:1 <= ms.length:=by
   cases ms with
   | nil=>exact absurd rfl e
   | cons _ _=>simp
  obtain⟨b,o,M,full,rfl,rfl,h3,h4,h5,h6,h7⟩:=uH hs e;have h:=wx rb mb b o M ms.length cap w full F hm (hF _ (List.mem_singleton.2 rfl)) hp (by omega) WA;rw[h7 (ms.length-1) (by omega)] at h;rw[show ((a+ms.length:Nat):Int)-1=((a+(ms.length-1):Nat):Int) by omega];exact h
def aE(a b:V2):V2:=⟨bd (a.x+b.x),bd (a.y+b.y)⟩
def dH(a b:V2):V2:=⟨bd (a.x-b.x),bd (a.y-b.y)⟩
def Db(a:V2):V2:=dH ⟨0,0⟩ a
def al(a:V2)(f:Int):V2:=⟨f8 a.x f,f8 a.y f⟩
def eT(a:V2)(n d:Int):V2:=⟨aw a.x n d,aw a.y n d⟩
def FR(n:Int):Int:=n.fdiv 1024
def di(a b:V2):Int:=FR (bd (bd (a.x*b.x)+bd (a.y*b.y)))
def vlen(a:V2):Int:=uG (bd (bd (a.x*a.x)+bd (a.y*a.y)))
def sW(a:V2):Prop:=a.x=0 /\ a.y=0
instance (a:V2):Decidable (sW a):=inferInstanceAs (Decidable (_ /\ _))
def kJ(a:V2):V2:=if sW a then a else eT a 1024 (vlen a)
theorem wy(m n:Int)(F:HL):Sp Tryz.prog 207 #[vI m,vI n] [] F (λ u H'=>u=vI (bd (m+n)) /\ H'=[]):=by
 refine aat Tryz.func207 rfl mn (A:=[]) (Ts:=[]) rfl λ w0=>?_;refine ae 13 [] λ _=>?_;exact aap [] [] [] ⟨rfl,rfl⟩
theorem wz(m n:Int)(F:HL):Sp Tryz.prog 273 #[vI m,vI n] [] F (λ u H'=>u=vI (bd (m-n)) /\ H'=[]):=by
 refine aat Tryz.func273 rfl mn (A:=[]) (Ts:=[]) rfl λ w0=>?_;refine ae 13 [] λ _=>?_;exact aap [] [] [] ⟨rfl,rfl⟩
theorem po(m n d:Int)(b:Nat)(F:HL)(hb:(b,.lit [vI d] 3 (0,0))∈F):Sp Tryz.prog 250 #[vI m,vI n,vP b 0] [] F (λ u H'=>u=vI (aw m n d) /\ H'=[]):=by
 refine aat Tryz.func250 rfl (mc hb mn) (A:=[]) (Ts:=[]) rfl λ w0=>?_;refine ae 10 [.ro 0] λ _=>aah (gi m n d  _)<|ae 3 [] λ _=>?_;exact aap [] [] [] ⟨rfl,rfl⟩
theorem FS(a b:V2)  (F:HL):Sp Tryz.prog 206 #[.agg #[vI a.x,vI a.y],.agg #[vI b.x,vI b.y],.func (.func 207) #[] #[]] [] F (λ u H'=>u=.agg #[vI ((aE a b).x),vI ((aE a b).y)] /\ H'=[]):=by
 refine aat Tryz.func206 rfl mn (A:=[]) (Ts:=[]) rfl λ w0=>?_;refine ae 8 [] λ n1=>aak [13] []<|ag [] [0,1,3,6,7,9,2,4,8,10] [.own 2,.own 1,.own 2,.own 1]<|aac [] 5 (λ X_=>(wy a.x b.x _))<|aac [] 11 (λ X_=>(wy a.y b.y _))<|ag [] [12] []<|aae 13 (aag [] (aab 2) λ _=>?_);refine aad<|ae 1 [] λ _=>?_;exact aap (aab 2) [] [] ⟨rfl,rfl⟩
theorem FT(a b:V2)  (F:HL):Sp Tryz.prog 206 #[.agg #[vI a.x,vI a.y],.agg #[vI b.x,vI b.y],.func (.func 273) #[] #[]] [] F (λ u H'=>u=.agg #[vI ((dH a b).x),vI ((dH a b).y)] /\ H'=[]):=by
 refine aat Tryz.func206 rfl mn (A:=[]) (Ts:=[]) rfl λ w0=>?_;refine ae 8 [] λ n1=>aak [13] []<|ag [] [0,1,3,6,7,9,2,4,8,10] [.own 2,.own 1,.own 2,.own 1]<|aac [] 5 (λ X_=>(wz a.x b.x _))<|aac [] 11 (λ X_=>(wz a.y b.y _))<|ag [] [12] []<|aae 13 (aag [] (aab 2) λ _=>?_);refine aad<|ae 1 [] λ _=>?_;exact aap (aab 2) [] [] ⟨rfl,rfl⟩
theorem FU(a b:V2)  (F:HL):Sp Tryz.prog 206 #[.agg #[vI a.x,vI a.y],.agg #[vI b.x,vI b.y],.func (.func 209) #[] #[]] [] F (λ u H'=>u=.agg #[vI ((⟨f8 a.x b.x,f8 a.y b.y⟩:V2).x),vI ((⟨f8 a.x b.x,f8 a.y b.y⟩:V2).y)] /\ H'=[]):=by
 refine aat Tryz.func206 rfl mn (A:=[]) (Ts:=[]) rfl λ w0=>?_;refine ae 8 [] λ n1=>aak [13] []<|ag [] [0,1,3,6,7,9,2,4,8,10] [.own 2,.own 1,.own 2,.own 1]<|aac [] 5 (λ X_=>(nH a.x b.x  _))<|aac [] 11 (λ X_=>(nH a.y b.y  _))<|ag [] [12] []<|aae 13 (aag [] (aab 2) λ _=>?_);refine aad<|ae 1 [] λ _=>?_;exact aap (aab 2) [] [] ⟨rfl,rfl⟩
theorem wA(a b:V2)(d:Int)(q:Nat)(F:HL)(hq:(q,.lit [vI d] 3 (0,0))∈F):Sp Tryz.prog 206 #[.agg #[vI a.x,vI a.y],.agg #[vI b.x,vI b.y],.func (.func 250) #[] #[vP q 0]] [] F (λ u H'=>u=.agg #[vI ((⟨aw a.x b.x d,aw a.y b.y d⟩:V2).x),vI ((⟨aw a.x b.x d,aw a.y b.y d⟩:V2).y)] /\ H'=[]):=by
 refine aat Tryz.func206 rfl (mc hq mn) (A:=[]) (Ts:=[]) rfl λ w0=>?_;refine ae 8 [] λ n1=>aak [13] []<|ag [] [0,1,3,6,7,9,2,4,8,10] [.own 2,.own 1,.own 2,.own 1]<|aac [] 5 (λ X_=>(po a.x b.x d q _ (zt hq)))<|aac [] 11 (λ X_=>(po a.y b.y d q _ (zt hq)))<|ag [] [12] []<|aae 13 (aag [] (aab 2) λ _=>?_);refine aad<|ae 1 [] λ _=>?_;exact aap (aab 2) [] [] ⟨rfl,rfl⟩
theorem pq(n:Int)(F:HL):Sp Tryz.prog 208 #[vI n] [] F (λ u H'=>u=.agg #[vI n,vI n] /\ H'=[]):=by
 refine aat Tryz.func208 rfl mn (A:=[]) (Ts:=[]) rfl λ w0=>?_;refine ae 13 (aab 2) λ n1=>?_;exact aap (aab 2) [] [] ⟨rfl,rfl⟩
theorem ez(a:V2)(b:V2)  (F:HL):Sp Tryz.prog 165 #[.agg #[vI a.x,vI a.y],.agg #[vI b.x,vI b.y]] [] F (λ u H'=>u=.agg #[vI ((aE a b).x),vI ((aE a b).y)] /\ H'=[]):=by
 refine aat Tryz.func165 rfl mn (A:=[]) (Ts:=[]) rfl λ w0=>?_;refine ae 11 [.own 2,.own 2,.own 1,.own 1] λ n1=>aah (FS a b _)<|ae 3 (aab 2) λ _=>?_;exact aap (aab 2) [] [] ⟨rfl,rfl⟩
theorem iW(a:V2)(b:V2)  (F:HL):Sp Tryz.prog 239 #[.agg #[vI a.x,vI a.y],.agg #[vI b.x,vI b.y]] [] F (λ u H'=>u=.agg #[vI ((dH a b).x),vI ((dH a b).y)] /\ H'=[]):=by
 refine aat Tryz.func239 rfl mn (A:=[]) (Ts:=[]) rfl λ w0=>?_;refine ae 11 [.own 2,.own 2,.own 1,.own 1] λ n1=>aah (FT a b _)<|ae 3 (aab 2) λ _=>?_;exact aap (aab 2) [] [] ⟨rfl,rfl⟩
theorem FV(a:V2)  (F:HL):Sp Tryz.prog 240 #[.agg #[vI a.x,vI a.y]] [] F (λ u H'=>u=.agg #[vI ((Db a).x),vI ((Db a).y)] /\ H'=[]):=by
 refine aat Tryz.func240 rfl mn (A:=[]) (Ts:=[]) rfl λ w0=>?_;refine ae 10 [.own 1,.own 1] λ n1=>aah (iW (⟨0,0⟩:V2) a  _)<|ae 3 (aab 2) λ _=>?_;exact aap (aab 2) [] [] ⟨rfl,rfl⟩
theorem fe(a:V2)(f:Int)  (F:HL):Sp Tryz.prog 166 #[.agg #[vI a.x,vI a.y],vI f] [] F (λ u H'=>u=.agg #[vI ((al a f).x),vI ((al a f).y)] /\ H'=[]):=by
 refine aat Tryz.func166 rfl mn (A:=[]) (Ts:=[]) rfl λ w0=>?_;refine ae 7 [] λ n1=>aak [4] []<|ag [] [0,1] [.own 1,.own 1]<|aac [] 2 (λ X_=>(pq f _))<|aac [] 3 (λ X_=>(FU a (⟨f,f⟩:V2) _))<|aae 4 (aag [] (aab 2) λ _=>?_);refine aad<|ae 1 [] λ _=>?_;exact aap (aab 2) [] [] ⟨rfl,rfl⟩
theorem ld(a:V2)(n:Int)(d:Int)  (F:HL):Sp Tryz.prog 214 #[.agg #[vI a.x,vI a.y],vI n,vI d] [] F (λ u H'=>u=.agg #[vI ((eT a n d).x),vI ((eT a n d).y)] /\ H'=[]):=by
 refine aat Tryz.func214 rfl mn (A:=[]) (Ts:=[]) rfl λ w0=>?_;refine ae 8 [] λ n1=>aak [5] []<|ag [] [0,1,3] [.own 2,.own 2]<|aac [] 2 (λ X_=>(pq n _))<|aac [] 4 (λ X_=>(wA a (⟨n,n⟩:V2) d (n1+1) _ (fB 1)))<|aae 5 (aag [] (aab 2) λ _=>?_);refine aad<|ae 1 [] λ _=>?_;exact aap (aab 2) [] [] ⟨rfl,rfl⟩
theorem Dc(n:Int)  (F:HL):Sp Tryz.prog 272 #[vI n] [] F (λ u H'=>u=vI (FR n) /\ H'=[]):=by
 refine aat Tryz.func272 rfl mn (A:=[]) (Ts:=[]) rfl λ w0=>?_;refine ae 12 [] λ _=>?_;exact aap [] [] [] ⟨rfl,rfl⟩
theorem nI(a:V2)(b:V2)  (F:HL):Sp Tryz.prog 238 #[.agg #[vI a.x,vI a.y],.agg #[vI b.x,vI b.y]] [] F (λ u H'=>u=vI (di a b) /\ H'=[]):=by
 refine aat Tryz.func238 rfl mn (A:=[]) (Ts:=[]) rfl λ w0=>?_;refine ae 20 [.own 1,.own 0,.own 1,.own 0] λ n1=>aah (Dc (i64.wrap ((i64.wrap (a.x*b.x))+(i64.wrap (a.y*b.y))))  _)<|ae 3 [] λ _=>?_;exact aap [] [] [] ⟨rfl,rfl⟩
theorem FW(a:V2)  (F:HL):Sp Tryz.prog 311 #[.agg #[vI a.x,vI a.y]] [] F (λ u H'=>u=vI (vlen a) /\ H'=[]):=by
 refine aat Tryz.func311 rfl mn (A:=[]) (Ts:=[]) rfl λ w0=>?_;refine ae 19 (aab 4) λ n1=>aah (Da (i64.wrap ((i64.wrap (a.x*a.x))+(i64.wrap (a.y*a.y))))  _)<|ae 3 [] λ _=>?_;exact aap [] [] [] ⟨rfl,rfl⟩
theorem Dd(a:V2)  (F:HL):Sp Tryz.prog 306 #[.agg #[vI a.x,vI a.y]] [] F (λ u H'=>u=.agg #[vI ((kJ a).x),vI ((kJ a).y)] /\ H'=[]):=by
 refine aat Tryz.func306 rfl mn (A:=[]) (Ts:=[]) rfl λ w0=>?_;refine ae 14 [.own 1,.own 1,.sq] λ n1=>ij ((decide (a.x=0) && (decide (a.y=0) && true))) 5 (λ h2=>?_) λ h2=>?_
 ·refine ae 7 [.own 1,.own 1,.own 0,.own 0] λ _=>aap (aab 2) [] [] (v:=.agg #[vI a.x,vI a.y]) (H':=[]) ?_;refine⟨?_,rfl⟩;unfold kJ
  first|rw[if_pos (by simpa [sW] using h2)]|rw[if_neg (by simpa [sW] using h2)]
 ·refine ae 4 [] λ _=>aak [4] []<|ag [] [0,1] [.own 1,.own 1,.own 1,.own 1]<|aac [] 2 (λ X_=>(FW a  _))<|aac [] 3 (λ X_=>(ld a 1024 (vlen a)  _))<|aae 4 (aag [] (aab 2) λ _=>?_);refine aad<|ae 1 [] λ _=>aap (aab 2) [] [] (v:=.agg #[vI ((eT a 1024 (vlen a)).x),vI ((eT a 1024 (vlen a)).y)]) (H':=[]) ?_;refine⟨?_,rfl⟩;unfold kJ
  first|rw[if_pos (by simpa [sW] using h2)]|rw[if_neg (by simpa [sW] using h2)]
structure Shp where (r:Int) (poly:List V2) (A:Option Addr) (cap:Nat)
abbrev On(s:Shp):Value:=.agg #[vI s.r,.slice s.A s.poly.length s.cap]
def jL(l:List V2):Nat -> Nat -> Value:=λ i k=>match k with|0=>vI (l.getD i ⟨0,0⟩).x|_=>vI (l.getD i ⟨0,0⟩).y
inductive ShIn(F:HL):Shp -> Prop
 | circle (r:Int) (A:Option Addr) (cap:Nat):ShIn F ⟨r,[],A,cap⟩
 | poly (r:Int) (l:List V2) (b cap:Nat) (h:(b,.rows 2 cap (jL l) 29 (0,0))∈F) (h3:3 <= l.length) (h4:l.length <= cap) (h5:l.length <= 1000000):ShIn F ⟨r,l,some ⟨b,0,none⟩,cap⟩
theorem ShIn.mono{F F':HL}{s:Shp}(h:ShIn F s)(hs:∀x∈F,x∈F'):ShIn F' s:=by
 cases h with
 | circle r A cap=>exact .circle r A cap
 | poly r l b cap h h3 h4 h5=>exact .poly r l b cap (hs _ h) h3 h4 h5
def jC(s:Shp):Prop:=s.poly=[]
instance (s:Shp):Decidable (jC s):=decidable_of_iff (s.poly.isEmpty=true) (by simp[jC])
def OY(b:Bx)(c:V2):Bx:=⟨if c.x<b.x0 then c.x else b.x0,if c.y<b.y0 then c.y else b.y0,if c.x>b.x1 then c.x else b.x1,if c.y>b.y1 then c.y else b.y1⟩
def mu(pos:V2)(l:List V2):Nat -> Bx
 | 0=>⟨(aE pos (l.getD 0 ⟨0,0⟩)).x,(aE pos (l.getD 0 ⟨0,0⟩)).y,(aE pos (l.getD 0 ⟨0,0⟩)).x,(aE pos (l.getD 0 ⟨0,0⟩)).y⟩
 | k+1=>OY (mu pos l k) (aE pos (l.getD (1+k) ⟨0,0⟩))
def eH(s:Shp)(pos:V2):Bx:=if jC s then ⟨bd (pos.x-s.r),bd (pos.y-s.r),bd (pos.x+s.r),bd (pos.y+s.r)⟩ else mu pos s.poly (s.poly.length-1)
def pr(a b c d:Int):Prop:=a <= d /\ c <= b
instance (a b c d:Int):Decidable (pr a b c d):=inferInstanceAs (Decidable (_ /\ _))
def Oo(a b:Bx):Prop:=pr a.x0 a.x1 b.x0 b.x1 /\ pr a.y0 a.y1 b.y0 b.y1
instance (a b:Bx):Decidable (Oo a b):=inferInstanceAs (Decidable (_ /\ _))
theorem oA(r:Int)(A:Option Addr)(n cap:Nat)(F:HL):Sp Tryz.prog 139 #[.agg #[vI r,.slice A n cap]] [] F (λ u H'=>u=.bool (decide ((n:Int)=0)) /\ H'=[]):=by
 refine aat Tryz.func139 rfl mn (A:=[]) (Ts:=[]) rfl λ w0=>?_;refine ae 15 [.own 0] λ n1=>?_;exact aap [] [] [] ⟨rfl,rfl⟩
theorem iX(r:Int)(A:Option Addr)(n cap:Nat)(F:HL):Sp Tryz.prog 269 #[.agg #[vI r,.slice A n cap]] [] F (λ u H'=>u=.bool (decide ((n:Int)=0)) /\ H'=[]):=by
 refine aat Tryz.func269 rfl mn (A:=[]) (Ts:=[]) rfl λ w0=>?_;refine ae 15 [.own 0] λ n1=>?_;exact aap [] [] [] ⟨rfl,rfl⟩
theorem wB(a:Int)(b:Int)(c:Int)(d:Int)  (F:HL):Sp Tryz.prog 266 #[vI a,vI b,vI c,vI d] [] F (λ u H'=>u=.bool (decide (pr a b c d)) /\ H'=[]):=by
 refine aat Tryz.func266 rfl mn (A:=[]) (Ts:=[]) rfl λ w0=>?_;refine ae 11 [] λ _=>aal (a <= d) 12 (λ h1=>?_) λ h1=>?_
 ·refine ae 7 [] λ _=>aap [] [] [] (v:=.bool (decide (c <= b))) (H':=[]) ?_;exact⟨by simp[pr, *],rfl⟩
 ·refine ae 7 [] λ _=>aap [] [] [] (v:=.bool false) (H':=[]) ?_;exact⟨by simp[pr, *],rfl⟩
theorem J4(a:Bx)(b:Bx)  (F:HL):Sp Tryz.prog 234 #[.agg #[vI a.x0,vI a.y0,vI a.x1,vI a.y1],.agg #[vI b.x0,vI b.y0,vI b.x1,vI b.y1]] [] F (λ u H'=>u=.bool (decide (Oo a b)) /\ H'=[]):=by
 refine aat Tryz.func234 rfl mn (A:=[]) (Ts:=[]) rfl λ w0=>?_;refine ae 17 [.own 1,.own 1,.own 0,.own 0] λ n1=>aah (wB a.x0 a.x1 b.x0 b.x1  _)<|ae 1 [] λ _=>aal (pr a.x0 a.x1 b.x0 b.x1) 14 (λ h2=>?_) λ h2=>?_
 ·refine ae 8 [.own 1,.own 1,.own 0,.own 0] λ _=>aah (wB a.y0 a.y1 b.y0 b.y1  _)<|ae 4 [] λ _=>aap [] [] [] (v:=.bool (decide (pr a.y0 a.y1 b.y0 b.y1))) (H':=[]) ?_;exact⟨by simp[Oo, *],rfl⟩
 ·refine ae 13 [] λ _=>aap [] [] [] (v:=.bool false) (H':=[]) ?_;exact⟨by simp[Oo, *],rfl⟩
theorem si(r:Int)(A:Option Addr)(cap:Nat)(pos:V2)(F:HL):Sp Tryz.prog 235 #[.agg #[vI r,.slice A 0 cap],.agg #[vI pos.x,vI pos.y]] [] F (λ u H'=>u=.agg #[vI ((eH ⟨r,[],A,cap⟩ pos).x0),vI ((eH ⟨r,[],A,cap⟩ pos).y0),vI ((eH ⟨r,[],A,cap⟩ pos).x1),vI ((eH ⟨r,[],A,cap⟩ pos).y1)] /\ H'=[]):=by
 refine aat Tryz.func235 rfl mn (A:=[]) (Ts:=[]) rfl λ w0=>?_;refine ae 11 [.own 2,.own 2] λ n1=>aah (oA r A 0 cap _)<|ae 29 [.own 1,.own 2,.own 1,.own 2,.own 1,.own 2,.own 1,.own 2,.own 0,.own 0,.own 0,.own 0] λ _=>?_;exact aap (aab 4) [] [] ⟨rfl,rfl⟩
theorem wC(r:Int)(l:List V2)(b cap:Nat)(pos:V2)(F:HL)(hb:(b,.rows 2 cap (jL l) 29 (0,0))∈F)(h3:3 <= l.length)(h4:l.length <= cap)(h5:l.length <= 1000000):Sp Tryz.prog 235 #[.agg #[vI r,vS b 0 l.length cap],.agg #[vI pos.x,vI pos.y]] [] F (λ u H'=>u=.agg #[vI ((eH ⟨r,l,some ⟨b,0,none⟩,cap⟩ pos).x0),vI ((eH ⟨r,l,some ⟨b,0,none⟩,cap⟩ pos).y0),vI ((eH ⟨r,l,some ⟨b,0,none⟩,cap⟩ pos).x1),vI ((eH ⟨r,l,some ⟨b,0,none⟩,cap⟩ pos).y1)] /\ H'=[]):=by
 refine aat Tryz.func235 rfl (mc hb mn) (A:=[]) (Ts:=[]) rfl λ w0=>?_;refine ae 11 [.own 2,.own 2] λ n1=>aah (oA r (some ⟨b,0,none⟩) l.length cap _)<|ae 2 [] λ _=>db 11 (aco (show ¬ ((l.length:Int)=0) by omega))<|ae 4 [] λ _=>aak [7] []<|aD [] [0,1,2,3,4] [.own 1,.own 1,.own 2,.ix 0,.rorow 0 0 0,.rorow 0 0 1] [((0+0*2)+1)=0*2+1 /\ 0<cap,(0+0*2)=0*2+0 /\ 0<cap,0=((0:Nat):Int) /\ 0<l.length]<|aac [] 5 (λ X_=>(ez pos (l.getD 0 ⟨0,0⟩)  _))<|aae 6 (aag [] [] λ n2=>?_);refine aae 7 (aag [] (aab 2) λ _=>?_);refine aad<|aj 27 (ow 0 8++[.own 4,.sl 1 l.length false]) [1=((1:Nat):Int) /\ l.length=l.length /\ 1 <= l.length /\ l.length <= cap /\ cap≠1] λ n3=>aan (σ:=Nat) (λ k=>⟨[(3,vP (n1+1) 0),(4,vP (n1+2) 0),(6,vP (n3+0) 0),(50,vS b 2 (l.length-1) (cap-1)),(51,vI (((l.length-1):Nat):Int)),(52,vI (k:Int))],[((n3+0),.lit [vI ((mu pos l k).x0),vI ((mu pos l k).y0),vI ((mu pos l k).x1),vI ((mu pos l k).y1)] 25 (0,0)),((n2+0),.lit [vI ((aE pos (l.getD 0 ⟨0,0⟩)).x),vI ((aE pos (l.getD 0 ⟨0,0⟩)).y)] 29 (0,0)),((n1+2),.lit [vI 0,vI 0,vI 0,vI 0] 25 (0,0)),((n1+1),.lit [vI pos.x,vI pos.y] 29 (0,0)),((n1+0),.lit [vI r,vS b 0 l.length cap] 85 (0,0))],[],k <= l.length-1,l.length-k⟩) 0 [0,1,2,3,4] [] (aa9 _) ?_;rintro k hI4 XF;refine ae 6 [] λ _=>aal ((k:Int)<(((l.length-1):Nat):Int)) 53 (λ h6=>?_) λ h6=>?_
 ·refine aj 17 [.ix k,.rorow 0 (1+k) 0,.rorow 0 (1+k) 1,.own 0,.own 0,.own 4,.own 4,.own 0,.own 0] [((2+k*2)+1)=(1+k)*2+1 /\ (1+k)<cap,(2+k*2)=(1+k)*2+0 /\ (1+k)<cap,(k:Int)=((k:Nat):Int) /\ k<(l.length-1)] λ n7=>aah (ez pos (l.getD (1+k) ⟨0,0⟩)  _)<|ae 5 (aab 2) λ n8=>aak [11,13] [0,1,3,4,5,6]<|ag [0,1,3,4,5,6] [0,2,5,7,1,3,6,8,4,9,10] [.own 2,.own 0,.own 2,.ro 0]<|aae 11 (aag [0,1,3,4,5,6] [.own 2] λ _=>?_);refine ag [0,1,3,4,5,6] [12] []<|aae 13 (aag [0,1,3,4,5,6] [.own 2] λ _=>?_);refine aad<|ae 1 [] λ _=>aak [11,13] [0,1,3,4,5,6]<|ag [0,1,3,4,5,6] [0,2,5,7,1,3,6,8,4,9,10] [.own 2,.own 0,.own 2,.ro 0]<|aae 11 (aag [0,1,3,4,5,6] [.own 2] λ _=>?_);refine ag [0,1,3,4,5,6] [12] []<|aae 13 (aag [0,1,3,4,5,6] [.own 2] λ _=>?_);refine aad<|aj 6 [.nw] [bx ((k:Int)+1)] λ _=>?_;refine XF (k+1) [2,3,4,5,6] [] ?_
  try dsimp only
  refine⟨by omega,by omega⟩
 ·refine ae 12 [.own 0,.own 0,.own 0,.own 0,.own 2,.own 2,.own 2,.own 2] λ _=>aap [.own 2,.own 2,.own 2,.own 2] [] [] (v:=.agg #[vI ((mu pos l k).x0),vI ((mu pos l k).y0),vI ((mu pos l k).x1),vI ((mu pos l k).y1)]) (H':=[]) ?_;have ek:k=l.length-1:=by omega
  subst ek;refine⟨?_,rfl⟩;unfold eH;rw[if_neg (by intro e;simp[jC] at e;rw[e] at h3;simp at h3)]
theorem qB(s:Shp)(pos:V2)(F:HL)(h:ShIn F s):Sp Tryz.prog 235 #[On s,.agg #[vI pos.x,vI pos.y]] [] F (λ u H'=>u=.agg #[vI (eH s pos).x0,vI (eH s pos).y0,vI (eH s pos).x1,vI (eH s pos).y1] /\ H'=[]):=by
 cases h with
 | circle r A cap=>exact si r A cap pos F
 | poly r l b cap h h3 h4 h5=>exact wC r l b cap pos F h h3 h4 h5
structure MemS where
 cs:List Int
 lg:List (Int × Int)
 base:Int
def MemS.get(M:MemS)(i:Int):Int:=if 0 <= i /\ i<M.cs.length then M.cs.getD i.toNat 0 else 0
def MemS.set(M:MemS)(i v:Int):MemS:=if 0 <= i /\ i<M.cs.length then ⟨M.cs.set i.toNat v,M.lg++[(i,M.cs.getD i.toNat 0)],M.base⟩ else M
def aU(cs:List Int):Nat -> Nat -> Value:=λ i k=>match k with|0=>vI (cs.getD i 0)|_=>default
theorem fT{cs:List Int}{i:Nat}(h:i<cs.length)(v:Int):dD (aU cs) i 0 (vI v)=aU (cs.set i v):=by
 funext i' k';unfold dD aU
 by_cases h1:i'=i
 ·subst h1;rcases k' with _|k'
  ·simp[h]
  ·simp
 ·rcases k' with _|k'
  ·have:¬ i=i':=λ e=>h1 e.symm;simp[h1,List.getElem?_set,this]
  ·simp
def iY:Enc (Int × Int):=⟨2,λ p k=>match k with|0=>vI p.1|_=>vI p.2,(0,0)⟩
noncomputable def LU:TypeInfo:=match Tryz.prog.info? 195 with | some i=>i | none=>⟨.bool,"",0,0,false,0,0,none,false,#[]⟩
noncomputable def LW:Value:=match LU.zero with|some z=>z|none=>.bool false
theorem qC:EncOk iY Tryz.prog 195 LU LW where
 info:=by kernel_rfl
 zero:=by kernel_rfl
 size:=by kernel_rfl
 zsize:=by kernel_rfl
 zcell:=λ k hk=>by
  have h:∀k<2,LW.cells[k]?=some (iY.cell iY.dflt k):=by intro k hk;(iterate 2 (rcases k with _|k;· kernel_rfl));omega
  exact h k hk
 one:=λ x k=>by unfold iY;dsimp only;split <;> rfl
 bytes:=aaN (by kernel_rfl)
inductive MemH(mb:Nat)(M:MemS)(k:Nat):HL -> Prop
 | mk (cb:Nat) (A:Option Addr) (cap:Nat) (Hl:HL) (hs:SlIs iY 195 M.lg A cap Hl) (hc:M.cs.length <= 1000000) (hl:M.lg.length+k <= 100000000):MemH mb M k (ap [(mb,.lit [vS cb 0 M.cs.length M.cs.length,.slice A M.lg.length cap,vI M.base] 162 (0,0)),(cb,.rows 1 M.cs.length (aU M.cs) 3 (0,0))] [Hl])
theorem MemH.weak{mb:Nat}{M:MemS}{k k':Nat}{T:HL}(h:MemH mb M k T)(hk:k' <= k):MemH mb M k' T:=by
 cases h with
 | mk cb A cap Hl hs hc hl=>exact .mk cb A cap Hl hs hc (by omega)
theorem MemH.cast{mb:Nat}{M M':MemS}{k k':Nat}{T:HL}(h:MemH mb M k T)(e:M'=M)(hk:k' <= k):MemH mb M' k' T:=e ▸ h.weak hk
theorem MemH.put{mb:Nat}{M:MemS}{k:Nat}{i v:Int}{cb:Nat}{A:Option Addr}{cap:Nat}{Hl:HL}(h:0 <= i /\ i<M.cs.length)(hc:M.cs.length <= 1000000)(hl:M.lg.length+(k+1) <= 100000000)(hs:SlIs iY 195 (M.lg++[(i,M.cs.getD i.toNat 0)]) A cap Hl) :
  MemH mb (M.set i v) k (ap [(mb,.lit [vS cb 0 M.cs.length M.cs.length,.slice A (M.lg.length+[(i,M.cs.getD i.toNat 0)].length) cap,vI M.base] 162 (0,0)),(cb,.rows 1 M.cs.length (dD (aU M.cs) i.toNat 0 (vI v)) 3 (0,0))] [Hl]):=by
 have e:M.set i v=⟨M.cs.set i.toNat v,M.lg++[(i,M.cs.getD i.toNat 0)],M.base⟩:=by unfold MemS.set;rw[if_pos h]
 rw[e,fT (by omega)];have:=MemH.mk (M:=⟨M.cs.set i.toNat v,M.lg++[(i,M.cs.getD i.toNat 0)],M.base⟩) (k:=k) cb A cap Hl hs (by simpa using hc) (by simp;omega) (mb:=mb);simpa using this
theorem BF(mb cb n:Nat)(A:Option Addr)(m cap:Nat)(base i:Int)(F:HL)(hm:(mb,.lit [vS cb 0 n n,.slice A m cap,vI base] 162 (0,0))∈F):Sp Tryz.prog 103 #[vP mb 0,vI i] [] F (λ u H'=>u=.bool (decide (0 <= i /\ i<n)) /\ H'=[]):=by
 refine aat Tryz.func103 rfl (mc hm mn) (A:=[]) (Ts:=[]) rfl λ w0=>?_;refine ae 10 [] λ _=>aal (0 <= i) 7 (λ h1=>?_) λ h1=>?_
 ·refine ae 11 [.ro 0] λ _=>aap [] [] [] (v:=.bool (decide (i<(n:Int)))) (H':=[]) ?_;exact⟨by simp[*],rfl⟩
 ·refine ae 11 [] λ _=>aap [] [] [] (v:=.bool false) (H':=[]) ?_;exact⟨by simp[*],rfl⟩
theorem J5(mb cb:Nat)(cs:List Int)(A:Option Addr)(m cap:Nat)(base i:Int)(lg:List (Int × Int))(F:HL)(hm:(mb,.lit [vS cb 0 cs.length cs.length,.slice A m cap,vI base] 162 (0,0))∈F)(hc:(cb,.rows 1 cs.length (aU cs) 3 (0,0))∈F)(hn:cs.length <= 1000000):Sp Tryz.prog 78 #[vP mb 0,vI i] [] F (λ u H'=>u=vI (MemS.get ⟨cs,lg,base⟩ i) /\ H'=[]):=by
 refine aat Tryz.func78 rfl (mc hm (mc hc mn)) (A:=[]) (Ts:=[]) rfl λ w0=>?_;refine ae 10 [] λ _=>aah (BF mb cb cs.length A m cap base i _ (az hm))<|ae 3 [] λ _=>aam (0 <= i /\ i<cs.length) 8 (λ h1=>?_) λ h1=>?_
 ·refine aj 15 [.ro 0,.ix ((i).toNat),.rorow 1 ((i).toNat) 0] [(0+((i).toNat)*1)=((i).toNat)*1+0 /\ ((i).toNat)<cs.length,i=(((i).toNat:Nat):Int) /\ (i).toNat<cs.length] λ _=>aap [] [] [] (v:=vI (cs.getD ((i).toNat) 0)) (H':=[]) ?_;exact⟨by simp[MemS.get, *],rfl⟩
 ·refine ae 6 [] λ _=>aap [] [] [] (v:=vI 0) (H':=[]) ?_;exact⟨by simp[MemS.get, *],rfl⟩
theorem ay{mb:Nat}{M:MemS}{k:Nat}{T:HL}(i:Int){F:HL}(h:MemH mb M k T)(hs:∀x∈T,x∈F):Sp Tryz.prog 78 #[vP mb 0,vI i] [] F (λ u H'=>u=vI (M.get i) /\ H'=[]):=by
 cases h with
 | mk cb A cap Hl Tk hc hl=>exact J5 mb cb M.cs A M.lg.length cap M.base i M.lg F (hs _ (by simp)) (hs _ (by simp)) hc
theorem jo{mb:Nat}{M:MemS}{k:Nat}{T:HL}(i:Int){c:Int}(e:M.get i=c){F:HL}(h:MemH mb M k T)(hs:∀x∈T,x∈F):Sp Tryz.prog 78 #[vP mb 0,vI i] [] F (λ u H'=>u=vI c /\ H'=[]):=e ▸ ay i h hs
theorem J6(mb cb:Nat)(M:MemS)(k:Nat)(A:Option Addr)(cap:Nat)(i v:Int)(Hl:HL)(F:HL)(hs:SlIs iY 195 M.lg A cap Hl)(hc:M.cs.length <= 1000000)(hl:M.lg.length+(k+1) <= 100000000):Sp Tryz.prog 92 #[vP mb 0,vI i,vI v] (ap [(mb,.lit [vS cb 0 M.cs.length M.cs.length,.slice A M.lg.length cap,vI M.base] 162 (0,0)),(cb,.rows 1 M.cs.length (aU M.cs) 3 (0,0))] [Hl]) F (λ u H'=>MemH mb (M.set i v) k H'):=by
 refine aat Tryz.func92 rfl mn (A:=[(mb,.lit [vS cb 0 M.cs.length M.cs.length,.slice A M.lg.length cap,vI M.base] 162 (0,0)),(cb,.rows 1 M.cs.length (aU M.cs) 3 (0,0))]) (Ts:=[Hl]) rfl λ w0=>?_;refine ae 5 [] λ _=>aah (BF mb cb M.cs.length A M.lg.length cap M.base i _ (av 0))<|ae 3 [] λ _=>aam (0 <= i /\ i<M.cs.length) 9 (λ h1=>?_) λ h1=>?_
 ·refine ae 4 [] λ _=>aak [15,18] []<|aD [] [0,1,5,6,10,2,7,3,8,4,9,11,12,13] [.own 0,.own 0,.ix ((i).toNat),.row 1 ((i).toNat) 0] [(0+((i).toNat)*1)=((i).toNat)*1+0 /\ ((i).toNat)<M.cs.length,i=(((i).toNat:Nat):Int) /\ (i).toNat<M.cs.length]<|aae 14 (aag [] [] λ n3=>?_);refine aae 15 (uB [] qC M.lg [(i,M.cs.getD i.toNat 0)] 0 0 rfl hs (by simp;omega) ?_);rintro A4 c5 T6 ⟨hs7,hz8⟩;refine ag [] [16,17] []<|aae 18 (aag [] [.own 1] λ _=>?_);refine aad<|aj 11 [.own 1,.ix ((i).toNat),.row 2 ((i).toNat) 0] [(0+((i).toNat)*1)=((i).toNat)*1+0 /\ ((i).toNat)<M.cs.length,i=(((i).toNat:Nat):Int) /\ (i).toNat<M.cs.length] λ _=>aap [] [1,2] [0] (v:=.tuple #[]) (H':=(ap [(mb,.lit [vS cb 0 M.cs.length M.cs.length,.slice A4 (M.lg.length+([(i,M.cs.getD i.toNat 0)]).length) c5,vI M.base] 162 (0,0)),(cb,.rows 1 M.cs.length (dD (aU M.cs) ((i).toNat) 0 (vI v)) 3 (0,0))] [T6])) ?_;exact MemH.put (by omega) hc (by omega) hs7
 ·refine ae 1 [] λ _=>aap [] [0,1] [0] (v:=.tuple #[]) (H':=(ap [(mb,.lit [vS cb 0 M.cs.length M.cs.length,.slice A M.lg.length cap,vI M.base] 162 (0,0)),(cb,.rows 1 M.cs.length (aU M.cs) 3 (0,0))] [Hl])) ?_;have e:M.set i v=M:=by unfold MemS.set;rw[if_neg (by assumption)]
  rw[e];exact .mk cb A cap Hl hs hc (by omega)
theorem ai{mb:Nat}{M:MemS}{k:Nat}{T:HL}(i v:Int){F:HL}(h:MemH mb M (k+1) T):Sp Tryz.prog 92 #[vP mb 0,vI i,vI v] (ap [] [T]) F (λ u H'=>∃x,H'=ap ((λ _=>[]) x) ((λ x=>[x]) x) /\ MemH mb (M.set i v) k x):=by
 cases h with
 | mk cb A cap Hl Tk hc hl =>
  have e:∀T:HL,ap [] [T]=T:=λ T=>by simp
  have:=J6 mb cb M k A cap i v Hl F Tk hc hl;rw[e];exact this.mono λ u H' h=>⟨H',(e H').symm,h⟩
structure Bod where (sh:Shp) (mot:Mot) (a b:Int)
abbrev dB:Bod:=⟨⟨0,[],none,0⟩,⟨0,0,0,0,0⟩,0,0⟩
def kT:Enc Bod:=⟨9,λ p k=>match k with|0=>vI p.sh.r|1=>.slice p.sh.A p.sh.poly.length p.sh.cap|2=>vI p.mot.px|3=>vI p.mot.py|4=>vI p.mot.vx|5=>vI p.mot.vy|6=>vI p.mot.inv|7=>vI p.a|_=>vI p.b,dB⟩
noncomputable def LX:TypeInfo:=match Tryz.prog.info? 90 with | some i=>i | none=>⟨.bool,"",0,0,false,0,0,none,false,#[]⟩
noncomputable def LY:Value:=match LX.zero with|some z=>z|none=>.bool false
theorem zC:EncOk kT Tryz.prog 90 LX LY where
 info:=by kernel_rfl
 zero:=by kernel_rfl
 size:=by kernel_rfl
 zsize:=by kernel_rfl
 zcell:=λ k hk=>by
  have h:∀k<9,LY.cells[k]?=some (kT.cell kT.dflt k):=by intro k hk;(iterate 9 (rcases k with _|k;· kernel_rfl));omega
  exact h k hk
 one:=λ x k=>by unfold kT;dsimp only;split <;> rfl
 bytes:=aaN (by kernel_rfl)
abbrev mf(l:List Bod):Nat -> Nat -> Value:=aQ kT l
structure Setup where
 players:Int
 bb:Nat
 bo:Nat
 nb:Nat
 bc:Nat
 bR:Nat
 bods:List Bod
 box:Bx
 rA:Option Addr
 rn:Nat
 rc:Nat
 dA:Option Addr
 dn:Nat
 dc:Nat
 fog:Int
 g:V2
 push:Int
 drag:Int
 rest:Int
 rounds:Int
 fuel:Int
def Setup.body(S:Setup)(k:Nat):Bod:=S.bods.getD (S.bo+k) dB
structure SetN(S:Setup):Prop where
 pl:0 <= S.players /\ S.players <= 1000000
 nb:S.nb <= 1000000
structure SetIn(F:HL)(S:Setup):Prop extends SetN S where
 blk:(S.bb,.rows 9 S.bR (mf S.bods) 90 (0,0))∈F
 room:S.bo+S.nb <= S.bR
 shp:∀k,k<S.nb -> ShIn F (S.body k).sh
theorem SetIn.up{F X:HL}{S:Setup}(h:SetIn F S):SetIn (X++F) S :=
 ⟨h.toSetN,aav _ h.blk,h.room,λ k hk=>(h.shp k hk).mono λ x hx=>aav _ hx⟩
def ah(S:Setup)(k:Int):Int:=if k<0 then -1 else if k >= S.players then -1 else 48+4*k
def af(S:Setup)(k:Int):Int:=if k<0 then -1 else if k >= S.nb then -1 else 48+4*S.players+8*k
def sizeOf(S:Setup):Int:=48+4*S.players+8*S.nb
theorem gJ{S:Setup}(h:SetN S)(k:Int):(-1 <= ah S k /\ ah S k <= 1000000000) /\ (ah S k<0 \/ (0 <= k /\ k<S.players)):=by
 have:=h.pl;unfold ah;split
 ·omega
 ·split <;> omega
theorem cQ{S:Setup}(h:SetN S)(k:Int):(-1 <= af S k /\ af S k <= 1000000000) /\ (af S k<0 \/ (0 <= k /\ k<S.nb)):=by
 have:=h.pl;have:=h.nb;unfold af;split
 ·omega
 ·split <;> omega
abbrev Setup.v(S:Setup):Value:=.agg #[vI S.players,vS S.bb (S.bo*9) S.nb S.bc,vI S.box.x0,vI S.box.y0,vI S.box.x1,vI S.box.y1,.slice S.rA S.rn S.rc,.slice S.dA S.dn S.dc,vI S.fog,vI S.g.x,vI S.g.y,vI S.push,vI S.drag,vI S.rest,vI S.rounds,vI S.fuel]
abbrev Setup.l(S:Setup):List Value:=[vI S.players,vS S.bb (S.bo*9) S.nb S.bc,vI S.box.x0,vI S.box.y0,vI S.box.x1,vI S.box.y1,.slice S.rA S.rn S.rc,.slice S.dA S.dn S.dc,vI S.fog,vI S.g.x,vI S.g.y,vI S.push,vI S.drag,vI S.rest,vI S.rounds,vI S.fuel]
theorem gK(S:Setup)(k:Int)(F:HL)(hn:SetN S):Sp Tryz.prog 159 #[(Setup.v S),vI k] [] F (λ u H'=>u=vI (ah S k) /\ H'=[]):=by
 have h1:=hn.pl;have h2:=hn.nb;refine aat Tryz.func159 rfl mn (A:=[]) (Ts:=[]) rfl λ w0=>?_;refine ae 12 [] λ n1=>aal (k<0) 7 (λ h2=>?_) λ h2=>?_
 ·refine ae 13 [] λ _=>aap [] [] [] (v:=vI (-1)) (H':=[]) ?_;refine⟨?_,rfl⟩;simp only[ah,if_pos h2]
 ·refine ae 7 [.own 0] λ _=>aal (k >= S.players) 12 (λ h3=>?_) λ h3=>?_
  ·refine ae 6 [] λ _=>aap [] [] [] (v:=vI (-1)) (H':=[]) ?_;refine⟨?_,rfl⟩;simp only[ah,if_neg h2,if_pos h3]
  ·refine aj 11 [.nw,.nw] [bx (48+(4*k)),bx (4*k)] λ _=>aap [] [] [] (v:=vI (48+(4*k))) (H':=[]) ?_;refine⟨?_,rfl⟩;simp only[ah,if_neg h2,if_neg h3]
theorem cR(S:Setup)(k:Int)(F:HL)(hn:SetN S):Sp Tryz.prog 118 #[(Setup.v S),vI k] [] F (λ u H'=>u=vI (af S k) /\ H'=[]):=by
 have h1:=hn.pl;have h2:=hn.nb;refine aat Tryz.func118 rfl mn (A:=[]) (Ts:=[]) rfl λ w0=>?_;refine ae 12 [] λ n1=>aal (k<0) 7 (λ h2=>?_) λ h2=>?_
 ·refine ae 14 [] λ _=>aap [] [] [] (v:=vI (-1)) (H':=[]) ?_;refine⟨?_,rfl⟩;simp only[af,if_pos h2]
 ·refine ae 8 [.own 0] λ _=>aal (k >= (S.nb:Int)) 13 (λ h3=>?_) λ h3=>?_
  ·refine ae 6 [] λ _=>aap [] [] [] (v:=vI (-1)) (H':=[]) ?_;refine⟨?_,rfl⟩;simp only[af,if_neg h2,if_pos h3]
  ·refine aj 15 [.own 0,.nw,.nw,.nw,.nw] [bx ((48+(4*S.players))+(8*k)),bx (8*k),bx (48+(4*S.players)),bx (4*S.players)] λ _=>aap [] [] [] (v:=vI ((48+(4*S.players))+(8*k))) (H':=[]) ?_;refine⟨?_,rfl⟩;simp only[af,if_neg h2,if_neg h3]
theorem De(S:Setup)(F:HL)(hn:SetN S):Sp Tryz.prog 117 #[(Setup.v S)] [] F (λ u H'=>u=vI (sizeOf S) /\ H'=[]):=by
 have h1:=hn.pl;have h2:=hn.nb;refine aat Tryz.func117 rfl mn (A:=[]) (Ts:=[]) rfl λ w0=>?_;refine aj 20 [.own 0,.nw,.nw,.own 0,.nw,.nw] [bx ((48+(4*S.players))+(8*(S.nb:Int))),bx (8*(S.nb:Int)),bx (48+(4*S.players)),bx (4*S.players)] λ n1=>?_;exact aap [] [] [] ⟨rfl,rfl⟩
structure Inp where (dx dy act:Int)
abbrev dI:Inp:=⟨0,0,0⟩
structure Ins where (op n:Int)
abbrev dIns:Ins:=⟨0,0⟩
structure Eff where (t i k v:Int)
abbrev aaa(x:Eff):List Value:=[vI x.t,vI x.i,vI x.k,vI x.v]
abbrev bC:Eff:=⟨0,0,0,0⟩
def cV:Enc Inp:=⟨3,λ p k=>match k with|0=>vI p.dx|1=>vI p.dy|_=>vI p.act,dI⟩
noncomputable def LZ:TypeInfo:=match Tryz.prog.info? 40 with | some i=>i | none=>⟨.bool,"",0,0,false,0,0,none,false,#[]⟩
noncomputable def L0:Value:=match LZ.zero with|some z=>z|none=>.bool false
theorem qD:EncOk cV Tryz.prog 40 LZ L0 where
 info:=by kernel_rfl
 zero:=by kernel_rfl
 size:=by kernel_rfl
 zsize:=by kernel_rfl
 zcell:=λ k hk=>by
  have h:∀k<3,L0.cells[k]?=some (cV.cell cV.dflt k):=by intro k hk;(iterate 3 (rcases k with _|k;· kernel_rfl));omega
  exact h k hk
 one:=λ x k=>by unfold cV;dsimp only;split <;> rfl
 bytes:=aaN (by kernel_rfl)
abbrev kK(l:List Inp):Nat -> Nat -> Value:=aQ cV l
structure Stp where
 S:Setup
 cA:Option Addr
 cn:Nat
 cc:Nat
 e0:Int
 e1:Int
 e2:Int
 version:Int
 ib:Nat
 io:Nat
 ni:Nat
 ic:Nat
 iR:Nat
 ins:List Inp
 i:Int
 j:Int
 ended:Bool
 f0:Int
 f1:Int
 f2:Int
 f3:Int
 emitted:Bool
 code:List Ins
def Stp.inp(t:Stp)(k:Nat):Inp:=t.ins.getD (t.io+k) dI
def movP(S:Setup)(k:Int):Prop:=(0 <= k /\ k<S.nb) /\ (S.body k.toNat).mot.inv>0
instance (S:Setup) (k:Int):Decidable (movP S k):=inferInstanceAs (Decidable (_ /\ _))
theorem movP.has{S:Setup}{k:Int}(h:movP S k):0 <= k /\ k<S.nb:=h.1
def ao(S:Setup)(M:MemS)(k:Int):Mot:=⟨M.get (af S k+0),M.get (af S k+1),M.get (af S k+2),M.get (af S k+3),(S.body k.toNat).mot.inv⟩
def aL(t:Stp)(ph j:Int)(M:MemS):MemS:=((M.set 1 ph).set 2 0).set 3 j
def dp(t:Stp)(k:Int)(m:Mot)(M:MemS):MemS:=(((M.set (af t.S k+0) m.px).set (af t.S k+1) m.py).set (af t.S k+2) m.vx).set (af t.S k+3) m.vy
def dR(t:Stp)(c sp pos lo hi:Int)(M:MemS):MemS:=if aF pos lo hi=pos then M.set c (aF pos lo hi) else (M.set c (aF pos lo hi)).set sp (bd (0-f8 ((M.set c (aF pos lo hi)).get sp) t.S.rest))
def bg(t:Stp)(M:MemS):MemS:=if t.i=0 then (M.set 13 t.version).set 11 0 else M
def bz(t:Stp)(M:MemS):MemS:=if ah t.S t.i >= 0 then if t.i<t.ni then ((M.set (ah t.S t.i+0) (t.inp t.i.toNat).dx).set (ah t.S t.i+1) (t.inp t.i.toNat).dy).set (ah t.S t.i+2) (t.inp t.i.toNat).act else M else M
def bS(t:Stp)(M:MemS):MemS:=if bd (t.i+1)<t.S.players then M.set 2 (bd (t.i+1)) else aL t 1 0 M
def aR(t:Stp)(M:MemS):MemS:=bS t (bz t (bg t M))
abbrev Stp.l(t:Stp)(mb:Nat):List Value:=[.iface 113 (vP mb 0),vI t.S.players,vS t.S.bb (t.S.bo*9) t.S.nb t.S.bc,vI t.S.box.x0,vI t.S.box.y0,vI t.S.box.x1,vI t.S.box.y1,.slice t.S.rA t.S.rn t.S.rc,.slice t.S.dA t.S.dn t.S.dc,vI t.S.fog,vI t.S.g.x,vI t.S.g.y,vI t.S.push,vI t.S.drag,vI t.S.rest,vI t.S.rounds,vI t.S.fuel,.slice t.cA t.cn t.cc,vI t.e0,vI t.e1,vI t.e2,vI t.version,vS t.ib (t.io*3) t.ni t.ic,vI t.i,vI t.j,.bool t.ended,vI t.f0,vI t.f1,vI t.f2,vI t.f3,.bool t.emitted]
abbrev Stp.lp(t:Stp)(mb:Nat):List Value:=[.iface 113 (vP mb 0),vI t.S.players,vS t.S.bb (t.S.bo*9) t.S.nb t.S.bc,vI t.S.box.x0,vI t.S.box.y0,vI t.S.box.x1,vI t.S.box.y1,.slice t.S.rA t.S.rn t.S.rc,.slice t.S.dA t.S.dn t.S.dc,vI t.S.fog,vI t.S.g.x,vI t.S.g.y,vI t.S.push,vI t.S.drag,vI t.S.rest,vI t.S.rounds,vI t.S.fuel,.slice t.cA t.cn t.cc,vI t.e0,vI t.e1,vI t.e2,vI t.version,vS t.ib (t.io*3) t.ni t.ic,vI t.i,vI t.j,.bool t.ended]
theorem p7(t:Stp)(k:Int)(tb mb:Nat)(F:HL)(hb:(tb,.lit (Stp.l t mb) 238 (0,0))∈F):Sp Tryz.prog 170 #[vP tb 0,vI k] [] F (λ u H'=>u=.bool (decide (0 <= k /\ k<t.S.nb)) /\ H'=[]):=by
 refine aat Tryz.func170 rfl (mc hb mn) (A:=[]) (Ts:=[]) rfl λ w0=>?_;refine ae 10 [] λ _=>aal (k >= 0) 7 (λ h1=>?_) λ h1=>?_
 ·refine ae 12 [.ro 0] λ _=>aap [] [] [] (v:=.bool (decide (k<(t.S.nb:Int)))) (H':=[]) ?_;exact⟨by simp[*],rfl⟩
 ·refine ae 12 [] λ _=>aap [] [] [] (v:=.bool false) (H':=[]) ?_;exact⟨by simp[*],rfl⟩
theorem jq(t:Stp)(k:Int)(tb mb:Nat)(F:HL)(hb:(tb,.lit (Stp.l t mb) 238 (0,0))∈F)(hS:SetIn F t.S):Sp Tryz.prog 163 #[vP tb 0,vI k] [] F (λ u H'=>u=.bool (decide (movP t.S k)) /\ H'=[]):=by
 have hn:=hS.nb;have hr:=hS.room;refine aat Tryz.func163 rfl (mc hb (mc hS.blk mn)) (A:=[]) (Ts:=[]) rfl λ w0=>?_;refine ae 9 [] λ _=>aah (p7 t k tb mb _ (aav _ hb))<|ae 1 [] λ _=>aal (0 <= k /\ k<t.S.nb) 8 (λ h1=>?_) λ h1=>?_
 ·refine aj 15 [.ro 0,.ix ((k).toNat),.rorow 1 (t.S.bo+((k).toNat)) 6] [((t.S.bo*9+((k).toNat)*9)+6)=(t.S.bo+((k).toNat))*9+6 /\ (t.S.bo+((k).toNat))<t.S.bR,k=(((k).toNat:Nat):Int) /\ (k).toNat<t.S.nb] λ _=>aap [] [] [] (v:=.bool (decide ((t.S.bods.getD (t.S.bo+((k).toNat)) dB).mot.inv>0))) (H':=[]) ?_;refine⟨?_,rfl⟩;simp[movP,Setup.body, *]
 ·refine ae 15 [] λ _=>aap [] [] [] (v:=.bool false) (H':=[]) ?_;refine⟨?_,rfl⟩;simp[movP,Setup.body, *]
theorem fI(t:Stp)(i:Int)(tb mb:Nat)(M:MemS)(k:Nat)(T F:HL)(hb:(tb,.lit (Stp.l t mb) 238 (0,0))∈F)(hS:SetIn F t.S)(hM:MemH mb M k T)(hT:∀x∈T,x∈F)(hi:0 <= i /\ i<t.S.nb):Sp Tryz.prog 164 #[vP tb 0,vI i] [] F (λ u H'=>u=.agg #[vI ((ao t.S M i).px),vI ((ao t.S M i).py),vI ((ao t.S M i).vx),vI ((ao t.S M i).vy),vI ((ao t.S M i).inv)] /\ H'=[]):=by
 have hp:=hS.pl;have hn:=hS.nb;have hr:=hS.room;refine aat Tryz.func164 rfl (mc hb (mc hS.blk mn)) (A:=[]) (Ts:=[]) rfl λ w0=>?_;refine ae 12 [.ro 0,.ro 0,.ro 0,.ro 0,.ro 0,.ro 0,.ro 0,.ro 0,.ro 0,.ro 0,.ro 0,.ro 0,.ro 0,.ro 0,.ro 0,.ro 0] λ n1=>aah (cR t.S i _ hS.toSetN) ?_;have WG:=cQ hS.toSetN i;refine ae 4 [] λ _=>aak [41] []<|aD [] [0,4,7,11,15,19,22,26,30,35,1,5,8,12,16,20,23,27,31,2,9,17,24,32,3,10,18,25,33,34,36,37,38,39] [.nw,.nw,.nw,.nw,.ro 0,.ro 0,.ro 0,.ro 0,.ro 0,.ix ((i).toNat),.rorow 1 (t.S.bo+((i).toNat)) 6] [((t.S.bo*9+((i).toNat)*9)+6)=(t.S.bo+((i).toNat))*9+6 /\ (t.S.bo+((i).toNat))<t.S.bR,i=(((i).toNat:Nat):Int) /\ (i).toNat<t.S.nb,bx ((af t.S i)+3),bx ((af t.S i)+2),bx ((af t.S i)+1),bx ((af t.S i)+0)]<|aac [] 6 (λ X_=>(ay ((af t.S i)+0) hM (λ x hx=>aav _ (aav _ (hT x hx)))))<|aac [] 13 (λ X_=>(ay ((af t.S i)+1) hM (λ x hx=>aav _ (aav _ (hT x hx)))))<|ag [] [14] []<|aac [] 21 (λ X_=>(ay ((af t.S i)+2) hM (λ x hx=>aav _ (aav _ (hT x hx)))))<|aac [] 28 (λ X_=>(ay ((af t.S i)+3) hM (λ x hx=>aav _ (aav _ (hT x hx)))))<|ag [] [29,40] []<|aae 41 (aag [] (ow 0 5) λ _=>?_);refine aad<|ae 1 [] λ _=>?_;exact aap (ow 0 5) [] [] ⟨rfl,rfl⟩
theorem bT(t:Stp)(ph:Int)(j:Int)(tb mb:Nat)(M:MemS)(k:Nat)(T F:HL)(hM:MemH mb M (k+3) T)(hS:SetIn F t.S) :Sp Tryz.prog 160 #[vP tb 0,vI ph,vI j] (ap [(tb,.lit (Stp.l t mb) 238 (0,0))] [T]) F (λ u H'=>∃x,H'=ap [(tb,.lit (Stp.l t mb) 238 (0,0))] [x] /\ (MemH mb (aL t ph j M) k x)):=by
 have hp:=hS.pl;have hn:=hS.nb;have hr:=hS.room;refine aat Tryz.func160 rfl (mc hS.blk mn) (A:=[(tb,.lit (Stp.l t mb) 238 (0,0))]) (Ts:=[T]) rfl λ w0=>?_;refine ae 7 [.own 0] λ _=>aai [] [0] (ai 1 ph hM) ?_;rintro _ T1 WH;refine ae 8 [.own 0] λ _=>aai [] [0] (ai 2 0 WH) ?_;rintro _ T3 IF;refine ae 8 [.own 0] λ _=>aai [] [0] (ai 3 j IF) ?_;rintro _ T5 R1;refine ae 1 [] λ _=>aap [] [0] [0] (v:=.tuple #[]) (H':=(ap [(tb,.lit (Stp.l t mb) 238 (0,0))] [T5])) ?_;refine⟨T5,rfl,?_⟩;have e:(aL t ph j M)=(((M.set 1 ph).set 2 0).set 3 j):=by
  first|(simp only[aL];try rfl;done)|rfl
 rw[e];exact R1.weak (by omega)
theorem mv(t:Stp)(i:Int)(m:Mot)(tb mb:Nat)(M:MemS)(k:Nat)(T F:HL)(hM:MemH mb M (k+4) T)(hS:SetIn F t.S) :Sp Tryz.prog 212 #[vP tb 0,vI i,.agg #[vI m.px,vI m.py,vI m.vx,vI m.vy,vI m.inv]] (ap [(tb,.lit (Stp.l t mb) 238 (0,0))] [T]) F (λ u H'=>∃x,H'=ap [(tb,.lit (Stp.l t mb) 238 (0,0))] [x] /\ (MemH mb (dp t i m M) k x)):=by
 have hp:=hS.pl;have hn:=hS.nb;have hr:=hS.room;refine aat Tryz.func212 rfl (mc hS.blk mn) (A:=[(tb,.lit (Stp.l t mb) 238 (0,0))]) (Ts:=[T]) rfl λ w0=>?_;refine ae 12 (ow 1 16) λ n1=>aah (cR t.S i _ hS.toSetN) ?_;have WG:=cQ hS.toSetN i;refine ae 4 [] λ _=>aak [9] []<|aD [] [0,4,6,1,5,7,2,8,3] [.nw,.own 0,.own 1] [bx ((af t.S i)+0)]<|aae 9 (aaf [] [] [0] (ai ((af t.S i)+0) m.px hM) ?_);rintro _ T3 IF;refine aad<|ae 2 [] λ _=>aak [9] []<|aD [] [0,4,6,1,5,7,2,8,3] [.nw,.own 0,.own 1] [bx ((af t.S i)+1)]<|aae 9 (aaf [] [] [0] (ai ((af t.S i)+1) m.py IF) ?_);rintro _ T5 R1;refine aad<|ae 2 [] λ _=>aak [9] []<|aD [] [0,4,6,1,5,7,2,8,3] [.nw,.own 0,.own 1] [bx ((af t.S i)+2)]<|aae 9 (aaf [] [] [0] (ai ((af t.S i)+2) m.vx R1) ?_);rintro _ T7 Tv;refine aad<|ae 1 [] λ _=>aak [9] []<|aD [] [0,4,6,1,5,7,2,8,3] [.nw,.own 0,.own 1] [bx ((af t.S i)+3)]<|aae 9 (aaf [] [] [0] (ai ((af t.S i)+3) m.vy Tv) ?_);rintro _ T9 Su;refine aad<|aap [] [1] [0] (v:=.tuple #[]) (H':=(ap [(tb,.lit (Stp.l t mb) 238 (0,0))] [T9])) ?_;refine⟨T9,rfl,?_⟩;have e:(dp t i m M)=((((M.set ((af t.S i)+0) m.px).set ((af t.S i)+1) m.py).set ((af t.S i)+2) m.vx).set ((af t.S i)+3) m.vy):=by
  first|(simp only[dp];try rfl;done)|rfl
 rw[e];exact Su.weak (by omega)
theorem sX(t:Stp)(c:Int)(s:Int)(pos:Int)(lo:Int)(hi:Int)(tb mb:Nat)(M:MemS)(k:Nat)(T F:HL)(hM:MemH mb M (k+2) T)(hS:SetIn F t.S) :Sp Tryz.prog 215 #[vP tb 0,vI c,vI s,vI pos,vI lo,vI hi] (ap [(tb,.lit (Stp.l t mb) 238 (0,0))] [T]) F (λ u H'=>∃x,H'=ap [(tb,.lit (Stp.l t mb) 238 (0,0))] [x] /\ (MemH mb (dR t c s pos lo hi M) k x)):=by
 have hp:=hS.pl;have hn:=hS.nb;have hr:=hS.room;refine aat Tryz.func215 rfl (mc hS.blk mn) (A:=[(tb,.lit (Stp.l t mb) 238 (0,0))]) (Ts:=[T]) rfl λ w0=>?_;refine ae 5 [] λ _=>aah (cK pos lo hi  _)<|ae 11 [.own 0] λ _=>aai [] [0] (ai c (aF pos lo hi) hM) ?_;rintro _ T1 WH;refine ae 9 [] λ _=>aam (aF pos lo hi=pos) 26 (λ h3=>?_) λ h3=>?_
 ·refine ae 2 [] λ _=>aap [] [0] [0] (v:=.tuple #[]) (H':=(ap [(tb,.lit (Stp.l t mb) 238 (0,0))] [T1])) ?_;refine⟨T1,rfl,?_⟩;have e:(dR t c s pos lo hi M)=(M.set c (aF pos lo hi)):=by
   first|(simp only[dR,if_pos h3];try rfl;done)|rfl
  rw[e];exact WH.weak (by omega)
 ·refine ae 1 [] λ _=>aak [20] []<|ag [] [0,4,5,9,11,1,6,12,2,7,13,3,8,14,15,18,19] (aab 3)<|aac [] 10 (λ X_=>(ay s WH (aK 0)))<|aac [] 16 (λ X_=>(nH ((M.set c (aF pos lo hi)).get s) t.S.rest  _))<|ag [] [17] []<|aae 20 (aaf [] [] [0] (ai s (i64.wrap (0-(f8 ((M.set c (aF pos lo hi)).get s) t.S.rest))) WH) ?_);rintro _ T4 Tw;refine aad<|aap [] [0] [0] (v:=.tuple #[]) (H':=(ap [(tb,.lit (Stp.l t mb) 238 (0,0))] [T4])) ?_;refine⟨T4,rfl,?_⟩;have e:(dR t c s pos lo hi M)=((M.set c (aF pos lo hi)).set s (i64.wrap (0-(f8 ((M.set c (aF pos lo hi)).get s) t.S.rest)))):=by
   first|(simp only[dR,if_neg h3];try rfl;done)|rfl
  rw[e];exact Tw.weak (by omega)
theorem Df(t:Stp)  (tb mb:Nat) (M:MemS) (k:Nat) (T F:HL) (hM:MemH mb M (k+8) T) (hS:SetIn F t.S) (hI:(t.ib,.rows 3 t.iR (kK t.ins) 40 (0,0))∈F) (hir:t.io+t.ni <= t.iR /\ t.ni <= 1000000):Sp Tryz.prog 131 #[vP tb 0] (ap [(tb,.lit (Stp.l t mb) 238 (0,0))] [T]) F (λ u H'=>∃x,H'=ap [(tb,.lit (Stp.l t mb) 238 (0,0))] [x] /\ (MemH mb (aR t M) k x)):=by
 have hp:=hS.pl;have hn:=hS.nb;have hr:=hS.room;refine aat Tryz.func131 rfl (mc hS.blk (mc hI mn)) (A:=[(tb,.lit (Stp.l t mb) 238 (0,0))]) (Ts:=[T]) rfl λ w0=>?_;refine ae 10 [.own 0] λ _=>aal (t.i=0) 8 (λ h1=>?_) λ h1=>?_
 ·refine ae 2 [] λ _=>aak [10] []<|ag [] [0,4,1,5,2,6,3,7,8,9] (aab 2)<|aae 10 (aaf [] [] [0] (ai 13 t.version hM) ?_);rintro _ T2 SN;refine aad<|ae 6 [.own 0] λ _=>aai [] [0] (ai 11 0 SN) ?_;rintro _ T4 Tw;refine ae 4 [] λ _=>aak [] []<|ag [] [0,4,1,5,2,6,3,7] (ow 0 17)<|aac [] 8 (λ X_=>(gK t.S t.i _ hS.toSetN)) ?_;have hb6:=gJ hS.toSetN t.i;refine ag [] [9] []<|aad<|ae 2 [] λ _=>aak [] []<|ag [] [0,1,2] []<|RD.em (ah t.S t.i >= 0) 36 (λ h7=>?_) λ h7=>?_
  ·refine ag [] [3,7,4,8,5,9,6,10,11,12,13] (aab 2)<|aad<|ae 1 [] λ _=>aal (t.i<(t.ni:Int)) 47 (λ h8=>?_) λ h8=>?_
   ·refine ae 2 [] λ _=>aak [11] []<|aD [] [0,4,1,5,2,6,3,7,8,9] [.own 0,.own 0,.ix ((t.i).toNat),.rorow 1 (t.io+((t.i).toNat)) 0,.rorow 1 (t.io+((t.i).toNat)) 1,.rorow 1 (t.io+((t.i).toNat)) 2] [((t.io*3+((t.i).toNat)*3)+2)=(t.io+((t.i).toNat))*3+2 /\ (t.io+((t.i).toNat))<t.iR,((t.io*3+((t.i).toNat)*3)+1)=(t.io+((t.i).toNat))*3+1 /\ (t.io+((t.i).toNat))<t.iR,(t.io*3+((t.i).toNat)*3)=(t.io+((t.i).toNat))*3+0 /\ (t.io+((t.i).toNat))<t.iR,t.i=(((t.i).toNat:Nat):Int) /\ (t.i).toNat<t.ni]<|aae 10 (aag [] [] λ n9=>?_);refine aae 11 (aag [] (aab 3) λ _=>?_);refine aad<|ae 2 [] λ _=>aak [8] []<|aD [] [0,4,6,1,5,7,2,3] [.nw,.own 0,.own 1] [bx ((ah t.S t.i)+0)]<|aae 8 (aaf [] [] [0] (ai ((ah t.S t.i)+0) ((t.ins.getD (t.io+((t.i).toNat)) dI).dx) Tw) ?_);rintro _ SX R3;refine aad<|ae 2 [] λ _=>aak [8] []<|aD [] [0,4,6,1,5,7,2,3] [.nw,.own 0,.own 1] [bx ((ah t.S t.i)+1)]<|aae 8 (aaf [] [] [0] (ai ((ah t.S t.i)+1) ((t.ins.getD (t.io+((t.i).toNat)) dI).dy) R3) ?_);rintro _ ZC Wm;refine aad<|ae 1 [] λ _=>aak [8] []<|aD [] [0,4,6,1,5,7,2,3] [.nw,.own 0,.own 1] [bx ((ah t.S t.i)+2)]<|aae 8 (aaf [] [] [0] (ai ((ah t.S t.i)+2) ((t.ins.getD (t.io+((t.i).toNat)) dI).act) Wm) ?_);rintro _ XB Ux;refine aad<|ae 2 [] λ _=>aak [] []<|ag [] [0,5,1,6,2,7,3,8,4,9,10] [.own 1,.own 1]<|aad<|ae 1 [] λ _=>aal (i64.wrap (t.i+1)<t.S.players) 95 (λ Sf=>?_) λ Sf=>?_
    ·refine ae 1 [] λ _=>aak [11] []<|ag [] [0,4,1,5,2,6,3,7,8,9,10] [.own 1,.own 1]<|aae 11 (aaf [] [] [0] (ai 2 (i64.wrap (t.i+1)) Ux) ?_);rintro _ Sx RE;refine aad<|aap [] [1] [0] (v:=.tuple #[]) (H':=(ap [(tb,.lit (Stp.l t mb) 238 (0,0))] [Sx])) ?_;refine⟨Sx,rfl,?_⟩;have e:(aR t M)=((((((M.set 13 t.version).set 11 0).set ((ah t.S t.i)+0) ((t.ins.getD (t.io+((t.i).toNat)) dI).dx)).set ((ah t.S t.i)+1) ((t.ins.getD (t.io+((t.i).toNat)) dI).dy)).set ((ah t.S t.i)+2) ((t.ins.getD (t.io+((t.i).toNat)) dI).act)).set 2 (i64.wrap (t.i+1))):=by
      first|(simp only[aR,bg,bz,bS,Stp.inp,if_pos h1,if_pos h7,if_pos h8,if_pos Sf];try rfl;done)|rfl
     rw[e];exact RE.weak (by omega)
    ·refine ae 3 [] λ _=>aai [1] [0] (bT t 1 0 tb mb (((((M.set 13 t.version).set 11 0).set ((ah t.S t.i)+0) ((t.ins.getD (t.io+((t.i).toNat)) dI).dx)).set ((ah t.S t.i)+1) ((t.ins.getD (t.io+((t.i).toNat)) dI).dy)).set ((ah t.S t.i)+2) ((t.ins.getD (t.io+((t.i).toNat)) dI).act)) k XB _ Ux hS.up ) ?_;rintro _ Ve Wk;refine ae 1 [] λ _=>aap [] [0] [0] (v:=.tuple #[]) (H':=(ap [(tb,.lit (Stp.l t mb) 238 (0,0))] [Ve])) ?_;refine⟨Ve,rfl,?_⟩;have e:(aR t M)=(aL t 1 0 (((((M.set 13 t.version).set 11 0).set ((ah t.S t.i)+0) ((t.ins.getD (t.io+((t.i).toNat)) dI).dx)).set ((ah t.S t.i)+1) ((t.ins.getD (t.io+((t.i).toNat)) dI).dy)).set ((ah t.S t.i)+2) ((t.ins.getD (t.io+((t.i).toNat)) dI).act))):=by
      first|(simp only[aR,bg,bz,bS,Stp.inp,if_pos h1,if_pos h7,if_pos h8,if_neg Sf];try rfl;done)|rfl
     rw[e];exact Wk.weak (by omega)
   ·refine ae 4 [] λ _=>aak [] []<|ag [] [0,5,1,6,2,7,3,8,4,9,10] (aab 2)<|aad<|ae 1 [] λ _=>aal (i64.wrap (t.i+1)<t.S.players) 95 (λ h21=>?_) λ h21=>?_
    ·refine ae 1 [] λ _=>aak [11] []<|ag [] [0,4,1,5,2,6,3,7,8,9,10] (aab 2)<|aae 11 (aaf [] [] [0] (ai 2 (i64.wrap (t.i+1)) Tw) ?_);rintro _ Vp Wi;refine aad<|aap [] [0] [0] (v:=.tuple #[]) (H':=(ap [(tb,.lit (Stp.l t mb) 238 (0,0))] [Vp])) ?_;refine⟨Vp,rfl,?_⟩;have e:(aR t M)=(((M.set 13 t.version).set 11 0).set 2 (i64.wrap (t.i+1))):=by
      first|(simp only[aR,bg,bz,bS,Stp.inp,if_pos h1,if_pos h7,if_neg h8,if_pos h21];try rfl;done)|rfl
     rw[e];exact Wi.weak (by omega)
    ·refine ae 3 [] λ _=>aai [0] [0] (bT t 1 0 tb mb ((M.set 13 t.version).set 11 0) (k+3) T4 _ Tw hS.up ) ?_;rintro _ Ya Wh;refine ae 1 [] λ _=>aap [] [0] [0] (v:=.tuple #[]) (H':=(ap [(tb,.lit (Stp.l t mb) 238 (0,0))] [Ya])) ?_;refine⟨Ya,rfl,?_⟩;have e:(aR t M)=(aL t 1 0 ((M.set 13 t.version).set 11 0)):=by
      first|(simp only[aR,bg,bz,bS,Stp.inp,if_pos h1,if_pos h7,if_neg h8,if_neg h21];try rfl;done)|rfl
     rw[e];exact Wh.weak (by omega)
  ·refine ag [] [3,7,4,8,5,9,6,10,11,12,13] []<|aad<|ae 5 [] λ _=>aak [] []<|ag [] [0,5,1,6,2,7,3,8,4,9,10] (aab 2)<|aad<|ae 1 [] λ _=>aal (i64.wrap (t.i+1)<t.S.players) 95 (λ Sc=>?_) λ Sc=>?_
   ·refine ae 1 [] λ _=>aak [11] []<|ag [] [0,4,1,5,2,6,3,7,8,9,10] (aab 2)<|aae 11 (aaf [] [] [0] (ai 2 (i64.wrap (t.i+1)) Tw) ?_);rintro _ UC SO;refine aad<|aap [] [0] [0] (v:=.tuple #[]) (H':=(ap [(tb,.lit (Stp.l t mb) 238 (0,0))] [UC])) ?_;refine⟨UC,rfl,?_⟩;have e:(aR t M)=(((M.set 13 t.version).set 11 0).set 2 (i64.wrap (t.i+1))):=by
     first|(simp only[aR,bg,bz,bS,Stp.inp,if_pos h1,if_neg h7,if_pos Sc];try rfl;done)|rfl
    rw[e];exact SO.weak (by omega)
   ·refine ae 3 [] λ _=>aai [0] [0] (bT t 1 0 tb mb ((M.set 13 t.version).set 11 0) (k+3) T4 _ Tw hS.up ) ?_;rintro _ XA SM;refine ae 1 [] λ _=>aap [] [0] [0] (v:=.tuple #[]) (H':=(ap [(tb,.lit (Stp.l t mb) 238 (0,0))] [XA])) ?_;refine⟨XA,rfl,?_⟩;have e:(aR t M)=(aL t 1 0 ((M.set 13 t.version).set 11 0)):=by
     first|(simp only[aR,bg,bz,bS,Stp.inp,if_pos h1,if_neg h7,if_neg Sc];try rfl;done)|rfl
    rw[e];exact SM.weak (by omega)
 ·refine ae 5 [] λ _=>aak [] []<|ag [] [0,4,1,5,2,6,3,7] (ow 0 17)<|aac [] 8 (λ X_=>(gK t.S t.i _ hS.toSetN)) ?_;have akR:=gJ hS.toSetN t.i;refine ag [] [9] []<|aad<|ae 2 [] λ _=>aak [] []<|ag [] [0,1,2] []<|RD.em (ah t.S t.i >= 0) 36 (λ Ws=>?_) λ Ws=>?_
  ·refine ag [] [3,7,4,8,5,9,6,10,11,12,13] (aab 2)<|aad<|ae 1 [] λ _=>aal (t.i<(t.ni:Int)) 47 (λ Zu=>?_) λ Zu=>?_
   ·refine ae 2 [] λ _=>aak [11] []<|aD [] [0,4,1,5,2,6,3,7,8,9] [.own 0,.own 0,.ix ((t.i).toNat),.rorow 1 (t.io+((t.i).toNat)) 0,.rorow 1 (t.io+((t.i).toNat)) 1,.rorow 1 (t.io+((t.i).toNat)) 2] [((t.io*3+((t.i).toNat)*3)+2)=(t.io+((t.i).toNat))*3+2 /\ (t.io+((t.i).toNat))<t.iR,((t.io*3+((t.i).toNat)*3)+1)=(t.io+((t.i).toNat))*3+1 /\ (t.io+((t.i).toNat))<t.iR,(t.io*3+((t.i).toNat)*3)=(t.io+((t.i).toNat))*3+0 /\ (t.io+((t.i).toNat))<t.iR,t.i=(((t.i).toNat:Nat):Int) /\ (t.i).toNat<t.ni]<|aae 10 (aag [] [] λ n34=>?_);refine aae 11 (aag [] (aab 3) λ _=>?_);refine aad<|ae 2 [] λ _=>aak [8] []<|aD [] [0,4,6,1,5,7,2,3] [.nw,.own 0,.own 1] [bx ((ah t.S t.i)+0)]<|aae 8 (aaf [] [] [0] (ai ((ah t.S t.i)+0) ((t.ins.getD (t.io+((t.i).toNat)) dI).dx) hM) ?_);rintro _ Z2 Wg;refine aad<|ae 2 [] λ _=>aak [8] []<|aD [] [0,4,6,1,5,7,2,3] [.nw,.own 0,.own 1] [bx ((ah t.S t.i)+1)]<|aae 8 (aaf [] [] [0] (ai ((ah t.S t.i)+1) ((t.ins.getD (t.io+((t.i).toNat)) dI).dy) Wg) ?_);rintro _ T37 We;refine aad<|ae 1 [] λ _=>aak [8] []<|aD [] [0,4,6,1,5,7,2,3] [.nw,.own 0,.own 1] [bx ((ah t.S t.i)+2)]<|aae 8 (aaf [] [] [0] (ai ((ah t.S t.i)+2) ((t.ins.getD (t.io+((t.i).toNat)) dI).act) We) ?_);rintro _ Xz Th;refine aad<|ae 2 [] λ _=>aak [] []<|ag [] [0,5,1,6,2,7,3,8,4,9,10] [.own 1,.own 1]<|aad<|ae 1 [] λ _=>aal (i64.wrap (t.i+1)<t.S.players) 95 (λ Sb=>?_) λ Sb=>?_
    ·refine ae 1 [] λ _=>aak [11] []<|ag [] [0,4,1,5,2,6,3,7,8,9,10] [.own 1,.own 1]<|aae 11 (aaf [] [] [0] (ai 2 (i64.wrap (t.i+1)) Th) ?_);rintro _ X8 Wd;refine aad<|aap [] [1] [0] (v:=.tuple #[]) (H':=(ap [(tb,.lit (Stp.l t mb) 238 (0,0))] [X8])) ?_;refine⟨X8,rfl,?_⟩;have e:(aR t M)=((((M.set ((ah t.S t.i)+0) ((t.ins.getD (t.io+((t.i).toNat)) dI).dx)).set ((ah t.S t.i)+1) ((t.ins.getD (t.io+((t.i).toNat)) dI).dy)).set ((ah t.S t.i)+2) ((t.ins.getD (t.io+((t.i).toNat)) dI).act)).set 2 (i64.wrap (t.i+1))):=by
      first|(simp only[aR,bg,bz,bS,Stp.inp,if_neg h1,if_pos Ws,if_pos Zu,if_pos Sb];try rfl;done)|rfl
     rw[e];exact Wd.weak (by omega)
    ·refine ae 3 [] λ _=>aai [1] [0] (bT t 1 0 tb mb (((M.set ((ah t.S t.i)+0) ((t.ins.getD (t.io+((t.i).toNat)) dI).dx)).set ((ah t.S t.i)+1) ((t.ins.getD (t.io+((t.i).toNat)) dI).dy)).set ((ah t.S t.i)+2) ((t.ins.getD (t.io+((t.i).toNat)) dI).act)) (k+2) Xz _ Th hS.up ) ?_;rintro _ T44 Wc;refine ae 1 [] λ _=>aap [] [0] [0] (v:=.tuple #[]) (H':=(ap [(tb,.lit (Stp.l t mb) 238 (0,0))] [T44])) ?_;refine⟨T44,rfl,?_⟩;have e:(aR t M)=(aL t 1 0 (((M.set ((ah t.S t.i)+0) ((t.ins.getD (t.io+((t.i).toNat)) dI).dx)).set ((ah t.S t.i)+1) ((t.ins.getD (t.io+((t.i).toNat)) dI).dy)).set ((ah t.S t.i)+2) ((t.ins.getD (t.io+((t.i).toNat)) dI).act))):=by
      first|(simp only[aR,bg,bz,bS,Stp.inp,if_neg h1,if_pos Ws,if_pos Zu,if_neg Sb];try rfl;done)|rfl
     rw[e];exact Wc.weak (by omega)
   ·refine ae 4 [] λ _=>aak [] []<|ag [] [0,5,1,6,2,7,3,8,4,9,10] (aab 2)<|aad<|ae 1 [] λ _=>aal (i64.wrap (t.i+1)<t.S.players) 95 (λ h46=>?_) λ h46=>?_
    ·refine ae 1 [] λ _=>aak [11] []<|ag [] [0,4,1,5,2,6,3,7,8,9,10] (aab 2)<|aae 11 (aaf [] [] [0] (ai 2 (i64.wrap (t.i+1)) hM) ?_);rintro _ T47 Zl;refine aad<|aap [] [0] [0] (v:=.tuple #[]) (H':=(ap [(tb,.lit (Stp.l t mb) 238 (0,0))] [T47])) ?_;refine⟨T47,rfl,?_⟩;have e:(aR t M)=(M.set 2 (i64.wrap (t.i+1))):=by
      first|(simp only[aR,bg,bz,bS,Stp.inp,if_neg h1,if_pos Ws,if_neg Zu,if_pos h46];try rfl;done)|rfl
     rw[e];exact Zl.weak (by omega)
    ·refine ae 3 [] λ _=>aai [0] [0] (bT t 1 0 tb mb M (k+5) T _ hM hS.up ) ?_;rintro _ Wu Tf;refine ae 1 [] λ _=>aap [] [0] [0] (v:=.tuple #[]) (H':=(ap [(tb,.lit (Stp.l t mb) 238 (0,0))] [Wu])) ?_;refine⟨Wu,rfl,?_⟩;have e:(aR t M)=(aL t 1 0 M):=by
      first|(simp only[aR,bg,bz,bS,Stp.inp,if_neg h1,if_pos Ws,if_neg Zu,if_neg h46];try rfl;done)|rfl
     rw[e];exact Tf.weak (by omega)
  ·refine ag [] [3,7,4,8,5,9,6,10,11,12,13] []<|aad<|ae 5 [] λ _=>aak [] []<|ag [] [0,5,1,6,2,7,3,8,4,9,10] (aab 2)<|aad<|ae 1 [] λ _=>aal (i64.wrap (t.i+1)<t.S.players) 95 (λ Uz=>?_) λ Uz=>?_
   ·refine ae 1 [] λ _=>aak [11] []<|ag [] [0,4,1,5,2,6,3,7,8,9,10] (aab 2)<|aae 11 (aaf [] [] [0] (ai 2 (i64.wrap (t.i+1)) hM) ?_);rintro _ X7 Wb;refine aad<|aap [] [0] [0] (v:=.tuple #[]) (H':=(ap [(tb,.lit (Stp.l t mb) 238 (0,0))] [X7])) ?_;refine⟨X7,rfl,?_⟩;have e:(aR t M)=(M.set 2 (i64.wrap (t.i+1))):=by
     first|(simp only[aR,bg,bz,bS,Stp.inp,if_neg h1,if_neg Ws,if_pos Uz];try rfl;done)|rfl
    rw[e];exact Wb.weak (by omega)
   ·refine ae 3 [] λ _=>aai [0] [0] (bT t 1 0 tb mb M (k+5) T _ hM hS.up ) ?_;rintro _ T54 V9;refine ae 1 [] λ _=>aap [] [0] [0] (v:=.tuple #[]) (H':=(ap [(tb,.lit (Stp.l t mb) 238 (0,0))] [T54])) ?_;refine⟨T54,rfl,?_⟩;have e:(aR t M)=(aL t 1 0 M):=by
     first|(simp only[aR,bg,bz,bS,Stp.inp,if_neg h1,if_neg Ws,if_neg Uz];try rfl;done)|rfl
    rw[e];exact V9.weak (by omega)
end Go.Proofs.YtdppjkjbghbnjaaGreatDoor
