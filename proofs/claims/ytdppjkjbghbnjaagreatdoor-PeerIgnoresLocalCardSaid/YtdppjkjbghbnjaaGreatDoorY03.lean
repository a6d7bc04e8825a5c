import Derived.Test.YtdppjkjbghbnjaaGreatDoorProg
import Derived.Shelf.Small.Bits
import Derived.Shelf.Strconv.Itoa0
import Derived.Test.YtdppjkjbghbnjaaGreatDoorY02
set_option maxHeartbeats 4000000
set_option maxRecDepth 100000
set_option linter.all false
namespace Go.Proofs.YtdppjkjbghbnjaaGreatDoor
open IntKind
open Go.RowKit Go.Shelf
section
variable {α:Type} (e:Enc α)
def SlX(T:TypeId)(l:List α)(A:Option Addr)(cap:Nat)(Hl:HL):Prop :=
 (A=none /\ cap=0 /\ l=[] /\ Hl=[]) \/ ∃b o M full,A=some ⟨b,o*e.w,none⟩ /\ Hl=[(b,.rows e.w M (aL e full) T (0,0))] /\ full.length=M /\ o+cap <= M /\ l.length <= cap /\ (full.drop o).take l.length=l
theorem SlX.nil(T:TypeId):SlX e T [] none 0 []:=.inl ⟨rfl,rfl,rfl,rfl⟩
end
section
variable {α:Type} {e:Enc α} {T:TypeId} {l xs:List α} {A:Option Addr} {cap:Nat} {Hl F:HL}
theorem SlIs.x(h:SlIs e T l A cap Hl):SlX e T l A cap Hl:=by
 rcases h with h|⟨b,o,full,h1,h2,h3,h4,h5⟩
 ·exact .inl h
 ·exact .inr ⟨b,o,o+cap,full,h1,h2,h3,Nat.le_refl _,h4,h5⟩
theorem SlX.len(h:SlX e T l A cap Hl):l.length <= cap:=by
 rcases h with ⟨_,rfl,rfl,_⟩|⟨b,o,M,full,h1,h2,h3,h4,h5,h6⟩
 ·simp
 ·exact h5
theorem SlX.toRowL(h:SlX e T l A cap Hl)(hF:∀x∈Hl,x∈F):RowL e T F A l.length l:=by
 rcases h with ⟨rfl,rfl,rfl,rfl⟩|⟨b,o,M,full,rfl,rfl,h1,hM,h2,h3⟩
 ·exact .zero _
 ·refine .rows b o M full (0,0) _ l (hF _ (List.mem_singleton.2 rfl)) (by omega) rfl (λ k hk=>?_);have h4:((full.drop o).take l.length)[k]?=l[k]?:=by rw[h3]
  rw[List.getElem?_take,if_pos hk,List.getElem?_drop] at h4;rw[List.getD_eq_getElem?_getD,List.getD_eq_getElem?_getD,h4]
theorem SlX.cut(hs:SlX e T xs A cap Hl){k h m:Nat}(h1:k <= h)(h2:h <= xs.length)(h3:h <= m)(h4:m <= cap):SlX e T ((xs.take h).drop k) (Cm A k e.w m) (m-k) Hl:=by
 rcases hs with ⟨rfl,rfl,rfl,rfl⟩|⟨b,o,M,full,rfl,rfl,g1,g2,g3,g4⟩
 ·refine .inl ⟨?_,by omega,by simp,rfl⟩;unfold Cm slA;split <;> rfl
 ·have hl:((xs.take h).drop k).length=h-k:=by simp;omega
  by_cases hc:m=k
  ·refine .inr ⟨b,o,M,full,by unfold Cm slA;rw[if_pos hc],rfl,g1,by omega,by rw[hl];omega,?_⟩;have:(xs.take h).drop k=[]:=List.eq_nil_of_length_eq_zero (by rw[hl];omega);rw[this];simp
  ·refine .inr ⟨b,o+k,M,full,?_,rfl,g1,by omega,by rw[hl];omega,?_⟩
   ·unfold Cm slA;rw[if_neg hc,Option.map_some,iX rfl];simp[vh,Nat.add_mul]
   ·rw[hl];have:(xs.take h).drop k=((full.drop o).take xs.length |>.take h).drop k:=by rw[g4]
    rw[this,List.take_take,List.drop_take,List.drop_drop,Nat.min_eq_left h2]
end
section
variable {α:Type} {e:Enc α} {P:Program} {t tx ty T:TypeId} {inf:TypeInfo} {z:Value}
theorem Co(ok:EncOk e P T inf z)(ht:P.underlying t=some (.slice T)){l:List α}{A:Option Addr}{cap:Nat}{Hl G:HL}{w:World}(h:SlX e T l A cap Hl)(hR:Rel (Hl++G) w)(src:List α)(x:Value)
  (hs:Src P inf.size tx x src.length (aw e src) w) (hb:l.length+src.length <= 100000000) :
  ∃A' g_ AT w',(Builtin.append_ #[t,tx] ty #[.slice A l.length cap,x]).run P w=.ok (.slice A' (l.length+src.length) g_) w' /\ (SlX e T (l++src) A' g_ AT /\ (bA A -> bA A')) /\ Rel (AT++G) w' /\ Below 0 w w':=by
 have hby:=ok.bytes;have V0:∀c,c<l.length+src.length -> Builtin.nextslicecap (l.length+src.length) c*inf.bytes <= 281474976710656:=λ c hc=>by
  have h1:=jl (l.length+src.length) c hc;have h2:Builtin.nextslicecap (l.length+src.length) c*inf.bytes <= (2*100000000+192)*1000:=Nat.mul_le_mul (by omega) hby;omega
 have grow:∀ (hg:cap<l.length+src.length) (hold:(Builtin.firstCells inf.size l.length (.slice A l.length cap)).run P w.drew=.ok (aw e l).toArray w.drew),∃A' g_ AT w',(Builtin.append_ #[t,tx] ty #[.slice A l.length cap,x]).run P w=.ok (.slice A' (l.length+src.length) g_) w' /\ (SlX e T (l++src) A' g_ AT /\ (bA A -> bA A')) /\ Rel (AT++G) w' /\ Below 0 w w':=by
  intro hg hold;have iN:=run_append_grow_src (P:=P) w t tx ty T inf z ht ok.info ok.zero A l.length cap (aw e l) hold x src.length (aw e src) hs hg (by omega) (V0 cap hg);have WO:=grownCap_ge w (l.length+src.length) cap T;generalize grownCap w (l.length+src.length) cap T=nc at *;refine⟨_,nc,[(w.heap.size,.rows e.w (0+nc) (aL e (l++src++List.replicate (nc-(l.length+src.length)) e.dflt)) T (0,0))],_,iN,⟨.inr ⟨w.heap.size,0,0+nc,l++src++List.replicate (nc-(l.length+src.length)) e.dflt,by simp,rfl,by simp;omega,by omega,by simp;omega,by rw[List.drop_zero,List.take_append_of_le_length (by simp),List.take_of_length_le (by simp)]⟩,λ _=>rfl⟩,?_,?_⟩
  ·have VS:Rel G w:=hR.drop;have:=(Rel.cons (.rows e.w (0+nc) (aL e (l++src++List.replicate (nc-(l.length+src.length)) e.dflt)) T (0,0)) (o:=.cells ((aw e l++aw e src).toArray++Builtin.zeroCells z.cells (nc-(l.length+src.length))) T (0,0)) ?_ (VS.world (w':=w.drew) rfl))
   ·exact this
   ·show Obj.cells _ _ _=_;congr 1;apply Array.ext';show bJ _ _ _=_;have hl:0+nc=(l++src++List.replicate (nc-(l.length+src.length)) e.dflt).length:=by simp;omega
    rw[hl,iZ,aX,aX,Array.toList_append,mK ok]
  ·exact⟨rfl,rfl,rfl,by simp,λ k hk=>by omega⟩
 rcases h with ⟨rfl,rfl,rfl,rfl⟩|⟨b,o,M,full,rfl,rfl,UQ,hM,hle,hl⟩
 ·-- nil
  rcases Nat.eq_zero_or_pos src.length with h0|h0
  ·obtain rfl:src=[]:=List.eq_nil_of_length_eq_zero h0;refine⟨none,0,[],w,?_,⟨.inl ⟨rfl,rfl,by simp,rfl⟩,λ h=>h⟩,hR,Below.refl _ _⟩;have hc:(Builtin.firstCells inf.size 0 x).run P w=.ok #[] w:=hs.cells;rcases hs.kind with ⟨e',hk⟩|hk <;> simp[Builtin.append_,run_underlying ht,run_underlying hk,Go.sizeOf,typeInfo,ok.info,hs.len,hc]
  ·exact grow (by simp;omega) (by simp[aw];exact run_firstCells_none w.drew inf.size 0 0 0)
 ·have VA:=hR.holds _ (List.mem_append_left G (List.mem_cons_self));simp only[Blk.den] at VA;have Xb:(bJ e.w (aL e full) M).length=M*e.w:=dt _ _ _;have Tc:bJ e.w (aL e full) M=aw e full:=by rw[<- UQ];exact iZ e full
  by_cases L_:l.length+src.length <= cap
  ·-- there is room
   have S4:=ok.size;have hnl:(aw e src).length=src.length*e.w:=aR e src;have U8:o*e.w+l.length*inf.size+(aw e src).length <= M*e.w:=by
    rw[hnl,S4,<- Nat.add_mul,<- Nat.add_mul];exact Nat.mul_le_mul_right _ (by omega)
   have TI:∀j,j<(aw e src).length -> (w.cell? ⟨b,o*e.w+l.length*inf.size+j,none⟩).isSome=true:=λ j hj=>by
    simp[World.cell?,VA,Xb];omega
   have Z4:∀j,j<(aw e src).length -> w.frozen? ⟨b,o*e.w+l.length*inf.size+j,none⟩=false:=λ j hj=>by simp[World.frozen?,VA]
   have iN:=run_append_room_src (P:=P) w t tx ty T inf ht ok.info b (o*e.w) l.length cap x src.length (aw e src) hs L_ TI Z4;have aaE:=jU b (aw e src) (o*e.w+l.length*inf.size) w _ _ _ VA;have Xe:mJ (bJ e.w (aL e full) M) (o*e.w+l.length*inf.size) (aw e src)=aw e (full.take (o+l.length)++src++full.drop (o+l.length+src.length)):=by
    apply List.ext_getElem?;intro j;rw[oZ _ _ _ (by rw[Xb];exact U8),Tc,aX,aX];have c1:(aw e (full.take (o+l.length))).length=(o+l.length)*e.w:=by rw[aR,List.length_take];congr 1;omega
    have c0:o*e.w+l.length*inf.size=(o+l.length)*e.w:=by rw[S4,<- Nat.add_mul]
    have Vm:aw e full=aw e (full.take (o+l.length))++aw e (full.drop (o+l.length)):=by rw[<- aX,List.take_append_drop]
    have Wv:aw e (full.drop (o+l.length))=aw e ((full.drop (o+l.length)).take src.length)++aw e (full.drop (o+l.length+src.length)):=by
     rw[<- aX,show o+l.length+src.length=(o+l.length)+src.length from rfl,<- List.drop_drop (i:=src.length) (j:=o+l.length),List.take_append_drop]
    have c2:(aw e ((full.drop (o+l.length)).take src.length)).length=src.length*e.w:=by rw[aR,List.length_take,List.length_drop];congr 1;omega
    rw[c0]
    by_cases h1:j<(o+l.length)*e.w
    ·rw[if_neg (by omega),Vm,List.append_assoc,List.getElem?_append_left (by omega),List.getElem?_append_left (by omega)]
    ·by_cases h2:j<(o+l.length)*e.w+src.length*e.w
     ·rw[if_pos (by omega),List.append_assoc,List.getElem?_append_right (by omega),List.getElem?_append_left (by omega),c1]
     ·rw[if_neg (by omega),Vm,Wv,List.append_assoc,List.getElem?_append_right (by omega),List.getElem?_append_right (by omega),List.getElem?_append_right (by omega),List.getElem?_append_right (by omega),c1,c2,hnl]
   have Z6:(full.take (o+l.length)++src++full.drop (o+l.length+src.length)).length=M:=by simp;omega
   refine⟨_,cap,[(b,.rows e.w M (aL e (full.take (o+l.length)++src++full.drop (o+l.length+src.length))) T (0,0))],_,iN,⟨.inr ⟨b,o,M,_,rfl,rfl,Z6,hM,by simp;omega,?_⟩,λ h=>h⟩,?_,jW _ _ _ _⟩
   ·have h1:full.take (o+l.length)=full.take o++l:=by rw[List.take_add,hl]
    rw[h1,List.append_assoc,List.append_assoc,List.drop_append_of_le_length (by simp;omega),List.drop_eq_nil_of_le (by rw[List.length_take];omega),List.nil_append,<- List.append_assoc];rw[List.take_append_of_le_length (by simp)];exact List.take_of_length_le (by simp)
   ·refine⟨?_,by have:=hR.nodup;simpa using this⟩;intro y hy;rcases List.mem_cons.1 hy with rfl|hy
    ·rw[aaE,Xe];simp only[Blk.den];rw[<- Z6,iZ]
    ·have IF:y.1≠b:=by
      have:=hR.nodup;simp only[List.cons_append,List.nil_append,List.map_cons,List.nodup_cons] at this;intro e1;exact this.1 (by rw[<- e1];exact List.mem_map_of_mem hy)
     rw[jV b _ _ _ _ IF];exact hR.holds y (List.mem_append_right _ hy)
  ·refine grow (by omega) ?_;refine run_firstCells_some w.drew inf.size l.length ⟨b,o*e.w,none⟩ l.length cap (aw e l) (by rw[aR,ok.size]) ?_;intro j u hj;have XF:j<(aw e l).length:=(List.getElem?_eq_some_iff.1 hj).1;rw[aR] at XF;have To:aw e l=((aw e full).drop (o*e.w)).take (l.length*e.w):=by
    have h1:aw e full=aw e (full.take o)++(aw e l++aw e ((full.drop o).drop l.length)):=by
     rw[<- aX,<- aX];congr 1
     conv=>lhs;rw[<- List.take_append_drop o full]
     congr 1
     conv=>lhs;rw[<- List.take_append_drop l.length (full.drop o)]
     rw[hl]
    have c1:(aw e (full.take o)).length=o*e.w:=by rw[aR,List.length_take];congr 1;omega
    rw[h1,List.drop_append_of_le_length (by omega),List.drop_eq_nil_of_le (by omega),List.nil_append,List.take_append_of_le_length (by rw[aR];exact Nat.le_refl _),List.take_of_length_le (by rw[aR];exact Nat.le_refl _)]
   rw[Addr.add_lit];show World.cell? w ⟨b,o*e.w+j,none⟩=some u;simp only[World.cell?,VA,Tc];rw[To,List.getElem?_take,if_pos (by omega),List.getElem?_drop] at hj;simpa using hj
theorem tC{N:Nat}{D:List Deferred}{F:HL}{L:FL}{H:HL}(ok:EncOk e P T inf z){o:Oper}{a1 a2:Operand}(S8:o.op=.call { callee:=.builtin .append,args:=#[a1,a2],argTypes:=#[t,tx] })(ht:P.underlying t=some (.slice T))
  {l src:List α} {A:Option Addr} {cap n:Nat} {Hl G:HL} {x:Value} (hi:(iT L a1 && iT L a2)=true) (h1:gm L a1=.slice A n cap) (hn:n=l.length) (h2:gm L a2=x) (AI:(Hl++G).Perm H) (VX:SlX e T l A cap Hl)
  (hs:∀w,Rel (H++F) w -> Src P inf.size tx x src.length (aw e src) w) (hb:l.length+src.length <= 100000000) (a:Act) (hF:Fm N D L a) (w:World) (hR:Rel (H++F) w) :
  dR P o a w λ u w'=>∃y:Option Addr × Nat × HL,(u=.slice y.1 (n+src.length) y.2.1 /\ (SlX e T (l++src) y.1 y.2.1 y.2.2 /\ (bA A -> bA y.1))) /\ Rel ((y.2.2++G)++F) w' /\ Below 0 w w':=by
 subst hn;simp only[Bool.and_eq_true] at hi;have e1:=(hF.eval hi.1).trans h1;have e2:=(hF.eval hi.2).trans h2;have S6:Rel (Hl++(G++F)) w:=by rw[<- List.append_assoc];exact hR.perm (AI.append_right F)
 obtain⟨A',g_,AT,w',r1,r2,r3,r4⟩:=Co (ty:=o.type) ok ht VX S6 src x (hs w hR) hb;unfold dR;have iN:(execOp a.eval o).run P w=.ok (.value (.slice A' (l.length+src.length) g_)) w':=by
  simp[execOp,S8,resolve,invoke,builtin,Sem.run_bind,e1,e2,r1]
 rw[iN];exact⟨(A',g_,AT),⟨rfl,r2⟩,by rw[List.append_assoc];exact r3,r4⟩
end
section
variable {r:Option Nat} {P:Program} {N:Nat} {D:List Deferred} {F:HL} {w0:World} {R:HL} {s:Cfg} {Q:Exit -> Act -> World -> Prop} {hards:List Nat} {Rd:HL}
variable {α:Type} {e:Enc α} {T:TypeId} {inf:TypeInfo} {z:Value}
theorem RN.appX(ok:EncOk e P T inf z)(l src:List α)(j p:Nat){A:Option Addr}{n cap:Nat}{Hl:HL}(hn:n=l.length)(VX:SlX e T l A cap Hl)(hb:l.length+src.length <= 100000000)
  (hk:∀ (A':Option Addr) (g_:Nat) (AT:HL),(SlX e T (l++src) A' g_ AT /\ (bA A -> bA A')) -> RN r P N D F w0 R (Ox j AT (eR N (.slice A' (n+src.length) g_) s)) Q)
  (h:Fy P N j p (i7 s) s=some (A,n,cap,T,src.length,aw e src,Hl,Fz p s):=by kernel_rfl):RN r P N D F w0 R s Q:=by
 obtain⟨o,a1,a2,t,tx,e',c',b,ty,fz,q0,q1,q2,q3,q4,q5,q6,q7,q8,q9,Tj,Ux⟩:=nM h;refine⟨λ hR a w hF f_ hB=>?_⟩;obtain⟨c,k,L,B,Ts⟩:=s;unfold i7 at q0;cases c with
 | code c=>cases q0
 | ex c=>cases q0
 | drw _ _=>cases q0
 | ops ops i =>
  simp only at q0 q3 q4 q5 q8 q9 Tj Ux hF f_;have AS:ops.toList.drop i=o::ops.toList.drop (i+1):=by
   have iS:i<ops.toList.length:=(List.getElem?_eq_some_iff.1 q0).1;rw[List.drop_eq_getElem_cons iS,(List.getElem?_eq_some_iff.1 q0).2]
  show wpListIn _ _ _ _ _ _ _ _;rw[AS,wpListIn,if_pos (by simp[Region.wanted,q1])];refine⟨λ _ _=>trivial,?_⟩;have AI:=iw (A:=B) q9 Tj;refine fQ (by rw[q2];intro c hc;cases hc) (tC (x:=vS b 0 src.length c') (src:=src) (G:=B++((oth [j] Ts.length).filterMap (Ts[·]?)).flatten) ok q2 q6 q3 q4 hn q5 AI VX (λ w hw=>sO ok q7 p (by rw[List.getElem?_append_left (List.getElem?_eq_some_iff.1 q8).1];exact q8) hw) hb a hF w f_) ?_;rintro u w' ⟨⟨A',g_,AT⟩,⟨rfl,XW⟩,S6,We⟩;obtain⟨L',p1⟩:=dF Ux (.slice A' (n+src.length) g_);have hh:=(hk A' g_ AT XW).h hR;have TZ:eR N (.slice A' (n+src.length) g_) ⟨.ops ops i,k,L,B,Ts⟩=⟨.ops ops (i+1),k,L',B,Ts⟩:=by
   unfold eR;simp only[q0,p1]
  rw[TZ] at hh;refine hh _ w' (hF.put p1) (S6.perm (List.Perm.append_right F ?_)) (hB.trans We);show (B++(AT::(oth [j] Ts.length).filterMap (Ts[·]?)).flatten).Perm _;rw[List.flatten_cons,<- List.append_assoc,<- List.append_assoc];exact List.Perm.append_right _ List.perm_append_comm
theorem RDO.appX{i:Nat}(ix:List Nat)(ok:EncOk e P T inf z)(l src:List α)(j p:Nat){A:Option Addr}{n cap:Nat}{Hl:HL}(hn:n=l.length)(VX:SlX e T l A cap Hl)(hb:l.length+src.length <= 100000000)
  (hk:∀ (A':Option Addr) (g_:Nat) (AT:HL),(SlX e T (l++src) A' g_ AT /\ (bA A -> bA A')) -> RD r P N D F w0 R hards Rd (Ox j AT (yU N i (.slice A' (n+src.length) g_) s)) Q)
  (h:Fy P N j p (mO i s) s=some (A,n,cap,T,src.length,aw e src,Hl,Fz p s):=by kernel_rfl) (hx:(hards.contains i,Ch ix s)=(true,Rd):=by kernel_rfl):RDO r P N D F w0 R hards Rd i s Q:=by
 obtain⟨o,a1,a2,t,tx,e',c',b,ty,fz,q0,q1,q2,q3,q4,q5,q6,q7,q8,q9,Tj,Ux⟩:=nM h;obtain⟨c,k,L,B,Ts⟩:=s;unfold mO at q0;simp only[Prod.mk.injEq] at hx;cases c with
 | code c=>cases q0
 | ex c=>cases q0
 | ops _ _=>cases q0
 | drw ops li =>
  refine⟨λ hR=>?_⟩;simp only at q0 q3 q4 q5 q8 q9 Tj Ux;have AI:=iw (A:=B) q9 Tj;have TZ:∀v L',fd N o.dst v L=some L' -> yU N i v ⟨.drw ops li,k,L,B,Ts⟩=⟨.drw ops (bD li i true),k,L',B,Ts⟩:=by
   intro v L' hl;unfold yU;simp only[q0,hl]
  refine(mM (Q:=Q) (by simpa using q0) (σ:=Option Addr × Nat × HL) (λ u y=>u=.slice y.1 (n+src.length) y.2.1 /\ (SlX e T (l++src) y.1 y.2.1 y.2.2 /\ (bA A -> bA y.1))) (λ y=>ap B (y.2.2::(oth [j] Ts.length).filterMap (Ts[·]?))) Ux (λ a hF=>⟨by simp[Region.wanted,q1],λ w f_ hB=>?_⟩) (λ y=>⟨λ hi=>?_,λ hi x hm=>List.mem_append_left _ (vZ ix hx.2 x hm)⟩) ?_:RDO r P N D F w0 R hards Rd i ⟨.drw ops li,k,L,B,Ts⟩ Q).h hR
  ·refine fP (tC (x:=vS b 0 src.length c') (src:=src) (G:=B++((oth [j] Ts.length).filterMap (Ts[·]?)).flatten) ok q2 q6 q3 q4 hn q5 AI VX (λ w hw=>sO ok q7 p (by rw[List.getElem?_append_left (List.getElem?_eq_some_iff.1 q8).1];exact q8) hw) hb a hF w f_) ?_;rintro u w' ⟨y,h3,S6,We⟩;refine⟨y,h3,S6.perm (List.Perm.append_right F ?_),We⟩;show (B++(y.2.2::(oth [j] Ts.length).filterMap (Ts[·]?)).flatten).Perm _;rw[List.flatten_cons,<- List.append_assoc,<- List.append_assoc];exact List.Perm.append_right _ List.perm_append_comm
  ·exact absurd (List.contains_iff_mem.1 hx.1) hi
  ·rintro u ⟨A',g_,AT⟩ ⟨rfl,h3⟩ L' hl hs;have h1:=(hk A' g_ AT h3).h hR;rw[TZ _ L' hl] at h1;exact h1 hs
end
abbrev bz(n:Int):Int:=i64.wrap n
structure V2 where (x y:Int)
structure Bx where (x0 y0 x1 y1:Int)
structure Mot where (px py vx vy inv:Int)
structure Con where (nx ny d:Int)
def aM(n lo hi:Int):Int:=if n<lo then lo else if n>hi then hi else n
def mQ(a b:Int):Int:=if b=0 then 0 else if (a.tmod b>0 /\ b<0) \/ (a.tmod b<0 /\ b>0) then bz (bz (a.tdiv b)-1) else bz (a.tdiv b)
def ij(a b:Int):Int:=mQ (bz (a*b)) 1024
def aF(a b c:Int):Int:=mQ (bz (a*b)) c
theorem cY(n:Int)(lo:Int)(hi:Int)  (F:HL):Sp Tryz.prog 167 #[vI n,vI lo,vI hi] [] F (λ u H'=>u=vI (aM n lo hi) /\ H'=[]):=by
 refine aav Tryz.func167 rfl mn (A:=[]) (Ts:=[]) rfl λ w0=>?_;refine ae 15 [] λ _=>aam (n<lo) 7 (λ h1=>?_) λ h1=>?_
 ·refine ae 7 [] λ _=>aaq [] [] [] (v:=vI lo) (H':=[]) ?_;exact⟨by unfold aM;simp[*],rfl⟩
 ·refine ae 9 [] λ _=>aam (n>hi) 12 (λ h2=>?_) λ h2=>?_
  ·refine ae 7 [] λ _=>aaq [] [] [] (v:=vI hi) (H':=[]) ?_;exact⟨by unfold aM;simp[*],rfl⟩
  ·refine ae 10 [] λ _=>aaq [] [] [] (v:=vI n) (H':=[]) ?_;exact⟨by unfold aM;simp[*],rfl⟩
theorem pU(a:Int)(b:Int)  (F:HL):Sp Tryz.prog 233 #[vI a,vI b] [] F (λ u H'=>u=vI (mQ a b) /\ H'=[]):=by
 refine aav Tryz.func233 rfl mn (A:=[]) (Ts:=[]) rfl λ w0=>?_;refine ae 12 [] λ _=>aam (b=0) 8 (λ h1=>?_) λ h1=>?_
 ·refine ae 6 [] λ _=>aaq [] [] [] (v:=vI 0) (H':=[]) ?_;exact⟨by unfold mQ;simp[*],rfl⟩
 ·refine ae 4 [] λ _=>aal [] []<|av [] [0,1,3,4,2,5,6,7] [.dv,.dv] [b≠0,b≠0]<|aad<|ae 13 [] λ _=>aam (a.tmod b>0) 18 (λ h2=>?_) λ h2=>?_
  ·refine ae 6 [] λ _=>aam (b<0) 15 (λ h3=>?_) λ h3=>?_
   ·refine ae 23 [] λ _=>aaq [] [] [] (v:=vI (i64.wrap ((i64.wrap (a.tdiv b))-1))) (H':=[]) ?_;exact⟨by unfold mQ;simp[*],rfl⟩
   ·refine ae 8 [] λ _=>aam (a.tmod b<0) 25 (λ h4=>?_) λ h4=>?_
    ·refine ae 6 [] λ _=>aam (b>0) 22 (λ h5=>?_) λ h5=>?_
     ·refine ae 22 [] λ _=>aaq [] [] [] (v:=vI (i64.wrap ((i64.wrap (a.tdiv b))-1))) (H':=[]) ?_;exact⟨by unfold mQ;simp[*],rfl⟩
     ·refine ae 15 [] λ _=>aaq [] [] [] (v:=vI (i64.wrap (a.tdiv b))) (H':=[]) ?_;exact⟨by unfold mQ;simp[*],rfl⟩
    ·refine ae 21 [] λ _=>aaq [] [] [] (v:=vI (i64.wrap (a.tdiv b))) (H':=[]) ?_;exact⟨by unfold mQ;simp[*],rfl⟩
  ·refine ae 14 [] λ _=>aam (a.tmod b<0) 25 (λ h6=>?_) λ h6=>?_
   ·refine ae 6 [] λ _=>aam (b>0) 22 (λ h7=>?_) λ h7=>?_
    ·refine ae 22 [] λ _=>aaq [] [] [] (v:=vI (i64.wrap ((i64.wrap (a.tdiv b))-1))) (H':=[]) ?_;exact⟨by unfold mQ;simp[*],rfl⟩
    ·refine ae 15 [] λ _=>aaq [] [] [] (v:=vI (i64.wrap (a.tdiv b))) (H':=[]) ?_;exact⟨by unfold mQ;simp[*],rfl⟩
   ·refine ae 21 [] λ _=>aaq [] [] [] (v:=vI (i64.wrap (a.tdiv b))) (H':=[]) ?_;exact⟨by unfold mQ;simp[*],rfl⟩
theorem pV(a:Int)(b:Int)  (F:HL):Sp Tryz.prog 209 #[vI a,vI b] [] F (λ u H'=>u=vI (ij a b) /\ H'=[]):=by
 refine aav Tryz.func209 rfl mn (A:=[]) (Ts:=[]) rfl λ w0=>?_;refine ae 10 [] λ _=>aai (pU (i64.wrap (a*b)) 1024  _)<|ae 3 [] λ _=>?_;exact aaq [] [] [] ⟨rfl,rfl⟩
theorem iy(a:Int)(b:Int)(c:Int)  (F:HL):Sp Tryz.prog 242 #[vI a,vI b,vI c] [] F (λ u H'=>u=vI (aF a b c) /\ H'=[]):=by
 refine aav Tryz.func242 rfl mn (A:=[]) (Ts:=[]) rfl λ w0=>?_;refine ae 11 [] λ _=>aai (pU (i64.wrap (a*b)) c  _)<|ae 3 [] λ _=>?_;exact aaq [] [] [] ⟨rfl,rfl⟩
end Go.Proofs.YtdppjkjbghbnjaaGreatDoor
namespace Go.Proofs
open IntKind
open Go.Shelf
def qL:Go.Shelf.Ren:=⟨λ|125=>218|128=>251|129=>252|n=>n,λ|46=>272|3=>3|51=>352|53=>129|4=>4|5=>5|9=>9|n=>n,λ|n=>n⟩
theorem xB:Go.Proofs.Lays.n125 Tryz.prog qL:={
 mixed:=by kernel_rfl
 f125:=Tryz.func218.trans (congrArg some (by kernel_rfl))
 f128:=Tryz.func251.trans (congrArg some (by kernel_rfl))
 f129:=Tryz.func252.trans (congrArg some (by kernel_rfl))
 t3:=Tryz.underlying3
 a3:=Tryz.isAgg3
 z3:=Tryz.sizeOf3
 v3:=Tryz.zeroValue3
 t4:=Tryz.underlying4
 a4:=Tryz.isAgg4
 z4:=Tryz.sizeOf4
 v4:=Tryz.zeroValue4
 t5:=Tryz.underlying5
 a5:=Tryz.isAgg5
 z5:=Tryz.sizeOf5
 v5:=Tryz.zeroValue5
 t9:=Tryz.underlying9
 a9:=Tryz.isAgg9
 z9:=Tryz.sizeOf9
 v9:=Tryz.zeroValue9
 t46:=Tryz.underlying272
 a46:=Tryz.isAgg272
 z46:=Tryz.sizeOf272
 v46:=Tryz.zeroValue272
 t51:=Tryz.underlying352
 a51:=Tryz.isAgg352
 z51:=Tryz.sizeOf352
 v51:=Tryz.zeroValue352
 t53:=Tryz.underlying129
 a53:=Tryz.isAgg129
 z53:=Tryz.sizeOf129
 v53:=Tryz.zeroValue129 }
theorem Tryz.bits_Len(x:Int)(w:World)(h0:0 <= x)(h1:x <= 18446744073709551615) :
 Calls Tryz.prog 218 #[.int .u64 x] w λ e w'=>e=.returned (.int .i64 (Lib.bitLen x.toNat)) /\ w'=w:=Any.bits_Len xB x w h0 h1
end Go.Proofs
namespace Go.Proofs.YtdppjkjbghbnjaaGreatDoor
open IntKind
open Go.RowKit
abbrev Ig(n:Int):Int:=u64.wrap n
theorem xC(n:Int):0 <= Ig n /\ Ig n <= 18446744073709551615:=by
 show 0 <= u64.wrap n /\ u64.wrap n <= _;unfold IntKind.wrap;simp[IntKind.signed,IntKind.bits];omega
abbrev FF(n:Int):Int:=(Lib.bitLen (Ig n).toNat:Int)
theorem Ii(n:Int)(F:HL):Sp Tryz.prog 218 #[.int .u64 (Ig n)] [] F (λ u H'=>u=vI (FF n) /\ H'=[]) :=
 zd (λ w=>Tryz.bits_Len _ w (xC n).1 (xC n).2) F
theorem L0(n:Int):0 <= FF n /\ FF n <= 64:=by
 have h:=xC n;have:=Lib.bitLen_le (Ig n).toNat 64 (by omega) (by omega);unfold FF;omega
def L2(r:Int)(k:Nat):Int:=bz ((BitVec.ofInt 64 r ||| BitVec.ofInt 64 (bz (1*2 ^ min k 64))).toNat:Int)
def xD(n:Int):Nat -> Int -> Int
 | 0,r=>r
 | k+1,r=>xD n k (if L2 r k>bz (n.tdiv (L2 r k)) then r else L2 r k)
def FG(n:Int):Int:=bz (bz ((bz (FF n+1)).tdiv 2)-1)
def xE(n:Int):Int:=if n <= 0 then 0 else xD n (FG n+1).toNat 0
theorem Sc(v:BitVec 64)(h:bz (v.toNat:Int)=0):v=0#64:=by
 apply BitVec.eq_of_toNat_eq;have h2:v.toNat<18446744073709551616:=v.isLt;generalize v.toNat=m at *;rw[bz,IntKind.wrap_i64] at h;simp;omega
theorem Oz(r:Int){k:Nat}(hk:k<40):L2 r k≠0:=by
 intro h;have hb:BitVec.ofInt 64 (bz (1*2 ^ min k 64))≠0#64:=by
  have:∀k<40,BitVec.ofInt 64 (bz (1*2 ^ min k 64))≠0#64:=by decide
  exact this k hk
 have h1:=Sc _ h;clear h;generalize BitVec.ofInt 64 (bz (1*2 ^ min k 64))=b at *;generalize BitVec.ofInt 64 r=a at *;apply hb;have:(a ||| b) &&& b=b:=by
  apply BitVec.eq_of_getLsbD_eq;intro i hi;simp;intro h;exact .inr h
 rw[h1] at this;simpa using this.symm
theorem D1(n:Int):-1 <= FG n /\ FG n <= 31:=by
 have:=L0 n;unfold FG bz;generalize FF n=l at *;have e1:i64.wrap (l+1)=l+1:=by rw[IntKind.wrap_i64];omega
 rw[e1,Int.tdiv_eq_ediv_of_nonneg (by omega)];have e2:i64.wrap ((l+1) / 2)=(l+1) / 2:=by rw[IntKind.wrap_i64];omega
 rw[e2,IntKind.wrap_i64];omega
theorem dH{x:Int}(h:-9223372036854775808 <= x /\ x <= 9223372036854775807):bz x=x:=by
 rw[bz,IntKind.wrap_i64];omega
theorem zk{n r s:Int}{k:Int}(h0:¬ s<0)(h:xD n (s+1).toNat r=k):xD n s.toNat (if L2 r s.toNat>bz (n.tdiv (L2 r s.toNat)) then r else L2 r s.toNat)=k:=by
 have e:(s+1).toNat=s.toNat+1:=by omega
 rw[e,xD] at h;exact h
theorem FH(n:Int)  (F:HL):Sp Tryz.prog 313 #[vI n] [] F (λ u H'=>u=vI (xE n) /\ H'=[]):=by
 refine aav Tryz.func313 rfl mn (A:=[]) (Ts:=[]) rfl λ w0=>?_;refine ae 13 [] λ _=>aam (n <= 0) 7 (λ h1=>?_) λ h1=>?_
 ·refine ae 6 [] λ _=>aaq [] [] [] (v:=vI 0) (H':=[]) ?_;refine⟨?_,rfl⟩;unfold xE
  first|(simp[*];done)|(have e:(s+1).toNat=0:=by omega);(rw[e,xD] at Yl);(simp[*])
 ·refine ae 16 [] λ _=>aai (Ii n _)<|ae 7 [] λ _=>aao (σ:=Int × Int) (λ ⟨r,s⟩=>⟨[(0,vI n),(3,vI r),(4,vI s)],[],[],-1 <= s /\ s <= 31 /\ xD n (s+1).toNat r=xD n (FG n+1).toNat 0,(s+1).toNat⟩) (0,FG n) [] [] (⟨(D1 n).1,(D1 n).2,rfl⟩) ?_;rintro⟨r,s⟩ ⟨hI0,hI1,Yl⟩ Th;have hw:s >= 0 -> i64.wrap (s-1)=s-1:=λ _=>dH (by omega);have To:(s-1+1).toNat=s.toNat:=by rw[Int.sub_add_cancel]
  refine ae 7 [] λ _=>aam (s >= 0) 15 (λ h4=>?_) λ h4=>?_
  ·refine tn 24 [.dv,.gen,.dv] (λ _=>[i64.wrap ((BitVec.ofInt 64 r ||| BitVec.ofInt 64 (i64.wrap (1*2 ^ min (s).toNat 64))).toNat:Int)≠0,0 <= s]) (λ _=>(ac (Oz r (by omega)) (ac (by omega) an))) λ _=>aam (i64.wrap ((BitVec.ofInt 64 r ||| BitVec.ofInt 64 (i64.wrap (1*2 ^ min (s).toNat 64))).toNat:Int)>i64.wrap (n.tdiv (i64.wrap ((BitVec.ofInt 64 r ||| BitVec.ofInt 64 (i64.wrap (1*2 ^ min (s).toNat 64))).toNat:Int)))) 26 (λ h5=>?_) λ h5=>?_
   ·refine ae 10 [] λ _=>?_;refine Th (r,i64.wrap (s-1)) [] [] ?_
    try dsimp only
    have hN:=zk (by omega) Yl;rw[hw (by assumption),To];refine⟨⟨by omega,by omega,?_⟩,by omega⟩;simpa only[L2, *,if_true,if_false] using hN
   ·refine ae 14 [] λ _=>?_;refine Th (i64.wrap ((BitVec.ofInt 64 r ||| BitVec.ofInt 64 (i64.wrap (1*2 ^ min (s).toNat 64))).toNat:Int),i64.wrap (s-1)) [] [] ?_
    try dsimp only
    have hN:=zk (by omega) Yl;rw[hw (by assumption),To];refine⟨⟨by omega,by omega,?_⟩,by omega⟩;simpa only[L2, *,if_true,if_false] using hN
  ·refine ae 12 [] λ _=>aaq [] [] [] (v:=vI r) (H':=[]) ?_;refine⟨?_,rfl⟩;unfold xE
   first|(simp[*];done)|(have e:(s+1).toNat=0:=by omega);(rw[e,xD] at Yl);(simp[*])
def mG:Enc (Int × Int):=⟨2,λ p k=>match k with|0=>vI p.1|_=>vI p.2,(0,0)⟩
noncomputable def Qy:TypeInfo:=match Tryz.prog.info? 188 with | some i=>i | none=>⟨.bool,"",0,0,false,0,0,none,false,#[]⟩
noncomputable def Qz:Value:=match Qy.zero with|some z=>z|none=>.bool false
theorem NN:EncOk mG Tryz.prog 188 Qy Qz where
 info:=by kernel_rfl
 zero:=by kernel_rfl
 size:=by kernel_rfl
 zsize:=by kernel_rfl
 zcell:=λ k hk=>by
  have h:∀k<2,Qz.cells[k]?=some (mG.cell mG.dflt k):=by intro k hk;(iterate 2 (rcases k with _|k;· kernel_rfl));omega
  exact h k hk
 one:=λ x k=>by unfold mG;dsimp only;split <;> rfl
 bytes:=Nat.le_of_ble_eq_true (by kernel_rfl)
def sS:Nat -> List Int -> List (Int × Int)
 | _,[]=>[]
 | a,k::l=>((a:Int),k)::sS (a+1) l
theorem lQ:∀ (a:Nat) (ms:List Int),(sS a ms).length=ms.length
 | _,[]=>rfl
 | a,k::l=>by rw[sS,List.length_cons,List.length_cons,lQ]
theorem D2:∀ (a:Nat) (ms:List Int) (i:Nat),i<ms.length -> (sS a ms)[i]?=some (((a+i:Nat):Int),ms.getD i 0)
 | _,[],i,h=>absurd h (Nat.not_lt_zero _)
 | a,k::l,0,_=>by rw[sS];rfl
 | a,k::l,i+1,h=>by
  rw[sS,List.getElem?_cons_succ,D2 (a+1) l i (by simpa using h),show a+1+i=a+(i+1) by omega];rfl
theorem zl(k:Int):∀ (a:Nat) (ms:List Int),sS a (ms++[k])=sS a ms++[(((a+ms.length:Nat):Int),k)]
 | a,[]=>rfl
 | a,x::l=>by
  show _::sS (a+1) (l++[k])=_;rw[zl k (a+1) l,List.length_cons,show a+1+l.length=a+(l.length+1) by omega];rfl
theorem zm:∀ (a:Nat) (ms:List Int) (n:Nat),(sS a ms).take n=sS a (ms.take n)
 | _,[],n=>by cases n <;> rfl
 | _,_::_,0=>rfl
 | a,k::l,n+1=>by
  show _::(sS (a+1) l).take n=_::sS (a+1) (l.take n);rw[zm]
theorem xF{a:Nat}{ms:List Int}{A:Option Addr}{cap:Nat}{Hl:HL}(h:SlX mG 188 (sS a ms) A cap Hl)(hn:ms≠[]):∃b o M full,A=some ⟨b,o*2,none⟩ /\ Hl=[(b,.rows 2 M (aL mG full) 188 (0,0))] /\ full.length=M /\ o+cap <= M /\ ms.length <= cap /\ (full.drop o).take ms.length=sS a ms /\ ∀k,k<ms.length -> full.getD (o+k) mG.dflt=(((a+k:Nat):Int),ms.getD k 0):=by
 rcases h with ⟨_,_,h,_⟩|⟨b,o,M,full,h1,h2,h3,h4,h5,h6⟩
 ·exfalso;have:=congrArg List.length h;rw[lQ] at this;exact hn (List.eq_nil_of_length_eq_zero this)
 ·rw[lQ] at h5 h6;refine⟨b,o,M,full,h1,h2,h3,h4,h5,h6,λ k hk=>?_⟩;have e:=congrArg (·[k]?) h6;simp only[List.getElem?_take,if_pos hk,List.getElem?_drop,D2 a ms k hk] at e;rw[List.getD_eq_getElem?_getD,e];rfl
theorem Ij(rb mb b o M n cap w:Nat)(full:List (Int × Int))(F:HL)(hm:(rb,.lit [vP mb 0,vI (w:Int),vS b (o*2) n cap] 169 (0,0))∈F)(hq:(b,.rows 2 M (aL mG full) 188 (0,0))∈F)(hn:1 <= n)(ho:o+n <= M)(hn8:n <= 100000000):Sp Tryz.prog 100 #[vP rb 0] [] F (λ u H'=>u=vI (full.getD o mG.dflt).1 /\ H'=[]):=by
 refine aav Tryz.func100 rfl (mc hm (mc hq mn)) (A:=[]) (Ts:=[]) rfl λ w0=>?_;refine ae 16 [.ro 0] λ _=>aam ((n:Int)=0) 8 (λ h1=>?_) λ h1=>?_
 ·(exfalso;omega)
 ·refine ah 15 [.ro 0,.ix 0,.rorow 1 (o+0) 0] [(o*2+0*2)=(o+0)*2+0 /\ (o+0)<M,0=((0:Nat):Int) /\ 0<n] λ _=>?_;exact aaq [] [] [] ⟨rfl,rfl⟩
theorem zn(rb mb b o M n cap w:Nat)(full:List (Int × Int))(F:HL)(hm:(rb,.lit [vP mb 0,vI (w:Int),vS b (o*2) n cap] 169 (0,0))∈F)(hq:(b,.rows 2 M (aL mG full) 188 (0,0))∈F)(hn:1 <= n)(ho:o+n <= M)(hn8:n <= 100000000):Sp Tryz.prog 76 #[vP rb 0] [] F (λ u H'=>u=vI (full.getD (o+(n-1)) mG.dflt).1 /\ H'=[]):=by
 refine aav Tryz.func76 rfl (mc hm (mc hq mn)) (A:=[]) (Ts:=[]) rfl λ w0=>?_;refine ae 16 [.ro 0] λ _=>aam ((n:Int)=0) 8 (λ h1=>?_) λ h1=>?_
 ·(exfalso;omega)
 ·refine ae 4 [] λ _=>aal [] []<|av [] [0,4,1,5,2,6,3,7,8,9,10,11,12,13] [.ro 0,.ro 0,.nw,.ix (n-1),.rorow 1 (o+(n-1)) 0] [(o*2+(n-1)*2)=(o+(n-1))*2+0 /\ (o+(n-1))<M,(n:Int)-1=(((n-1):Nat):Int) /\ (n-1)<n,aI ((n:Int)-1)]<|aad<|ae 1 [] λ _=>?_;exact aaq [] [] [] ⟨rfl,rfl⟩
theorem Ik(rb mb b o cap w:Nat)(F:HL)(hm:(rb,.lit [vP mb 0,vI (w:Int),vS b (o*2) 0 cap] 169 (0,0))∈F):Sp Tryz.prog 76 #[vP rb 0] [] F (λ u H'=>u=vI (-1) /\ H'=[]):=by
 refine aav Tryz.func76 rfl (mc hm mn) (A:=[]) (Ts:=[]) rfl λ w0=>?_;refine ae 22 [.ro 0] λ _=>?_;exact aaq [] [] [] ⟨rfl,rfl⟩
theorem Il(rb mb w:Nat)(F:HL)(hm:(rb,.lit [vP mb 0,vI (w:Int),.slice none 0 0] 169 (0,0))∈F):Sp Tryz.prog 76 #[vP rb 0] [] F (λ u H'=>u=vI (-1) /\ H'=[]):=by
 refine aav Tryz.func76 rfl (mc hm mn) (A:=[]) (Ts:=[]) rfl λ w0=>?_;refine ae 22 [.ro 0] λ _=>?_;exact aaq [] [] [] ⟨rfl,rfl⟩
theorem L3(x1 x2 t:Int)(tq:Nat)(F:HL)(hm:(tq,.lit [vI t] 3 (0,0))∈F):Sp Tryz.prog 102 #[.agg #[vI x1,vI x2],vP tq 0] [] F (λ u H'=>u=.bool (decide (x1=t)) /\ H'=[]):=by
 refine aav Tryz.func102 rfl (mc hm mn) (A:=[]) (Ts:=[]) rfl λ w0=>?_;refine ae 15 [.own 0,.ro 0] λ n1=>?_;exact aaq [] [] [] ⟨rfl,rfl⟩
theorem L4(b o M n cap tq k0:Nat)(t:Int)(full:List (Int × Int))(F:HL)(hm:(tq,.lit [vI t] 3 (0,0))∈F)(hq:(b,.rows 2 M (aL mG full) 188 (0,0))∈F)(ho:o+n <= M)(hn8:n <= 100000000)(hk:k0<n)(ht:(full.getD (o+k0) mG.dflt).1=t)(iS:∀k,k<k0 -> ¬ (full.getD (o+k) mG.dflt).1=t):Sp Tryz.prog 101 #[vS b (o*2) n cap,.func (.func 102) #[] #[vP tq 0]] [] F (λ u H'=>u=vI (k0:Int) /\ H'=[]):=by
 refine aav Tryz.func101 rfl (mc hm (mc hq mn)) (A:=[]) (Ts:=[]) rfl λ w0=>?_;refine ae 14 [] λ _=>aao (σ:=Nat) (λ i_=>⟨[(0,vS b (o*2) n cap),(1,.func (.func 102) #[] #[vP tq 0]),(7,vI (n:Int)),(8,vI (i_:Int))],[],[],i_ <= k0,k0-i_⟩) 0 [] [] (Nat.zero_le _) ?_;rintro i_ Xc Tw;refine ae 6 [] λ _=>aam ((i_:Int)<(n:Int)) 9 (λ h3=>?_) λ h3=>?_
 ·refine ah 18 [.ix i_,.rorow 1 (o+i_) 0,.rorow 1 (o+i_) 1] [((o*2+i_*2)+1)=(o+i_)*2+1 /\ (o+i_)<M,(o*2+i_*2)=(o+i_)*2+0 /\ (o+i_)<M,(i_:Int)=((i_:Nat):Int) /\ i_<n] λ _=>aai (L3 ((full.getD (o+i_) mG.dflt).1) ((full.getD (o+i_) mG.dflt).2) t tq _ (aq hm))<|ae 2 [] λ _=>jB ((decide ((full.getD (o+i_) mG.dflt).1=t))) 16 (λ h4=>?_) λ h4=>?_
  ·refine ae 7 [] λ _=>aaq [] [] [] (v:=vI (i_:Int)) (H':=[]) ?_;have e_:i_=k0:=by
    rcases Nat.lt_or_ge i_ k0 with h_|h_
    ·exact absurd (by simpa using h4) (iS i_ h_)
    ·omega
   exact⟨by rw[e_],rfl⟩
  ·refine ah 8 [.nw] [aI ((i_:Int)+1)] λ _=>?_;refine Tw (i_+1) [] [] ?_
   try dsimp only
   have e_:i_≠k0:=by rintro rfl;exact absurd ht (by simpa using h4)
   exact⟨by omega,by omega⟩
 ·(exfalso;omega)
def D3(a:Nat)(ms:List Int):Int:=if ms=[] then -1 else ((a+ms.length:Nat):Int)-1
theorem D4{rb mb w a:Nat}{ms:List Int}{A:Option Addr}{cap n:Nat}{Hl F:HL}(hs:SlX mG 188 (sS a ms) A cap Hl)(hF:∀x∈Hl,x∈F)(hn:n=ms.length)(hn8:n <= 100000000)(hm:(rb,.lit [vP mb 0,vI (w:Int),.slice A n cap] 169 (0,0))∈F):Sp Tryz.prog 76 #[vP rb 0] [] F (λ u H'=>u=vI (D3 a ms) /\ H'=[]):=by
 subst hn;unfold D3;split
 ·next e =>
  subst e;rcases hs with ⟨rfl,rfl,_,_⟩|⟨b,o,M,full,rfl,rfl,h3,h4,h5,h6⟩
  ·exact Il rb mb w F hm
  ·exact Ik rb mb b o cap w F hm
 ·next e =>
  have hp:1 <= ms.length:=by
   cases ms with
   | nil=>exact absurd rfl e
   | cons _ _=>simp
  obtain⟨b,o,M,full,rfl,rfl,h3,h4,h5,h6,h7⟩:=xF hs e;have h:=zn rb mb b o M ms.length cap w full F hm (hF _ (List.mem_singleton.2 rfl)) hp (by omega) hn8;rw[h7 (ms.length-1) (by omega)] at h;rw[show ((a+ms.length:Nat):Int)-1=((a+(ms.length-1):Nat):Int) by omega];exact h
def aK(a b:V2):V2:=⟨bz (a.x+b.x),bz (a.y+b.y)⟩
def dY(a b:V2):V2:=⟨bz (a.x-b.x),bz (a.y-b.y)⟩
def FI(a:V2):V2:=dY ⟨0,0⟩ a
def ar(a:V2)(f:Int):V2:=⟨ij a.x f,ij a.y f⟩
def fK(a:V2)(n d:Int):V2:=⟨aF a.x n d,aF a.y n d⟩
def Im(n:Int):Int:=n.fdiv 1024
def dJ(a b:V2):Int:=Im (bz (bz (a.x*b.x)+bz (a.y*b.y)))
def vlen(a:V2):Int:=xE (bz (bz (a.x*a.x)+bz (a.y*a.y)))
def we(a:V2):Prop:=a.x=0 /\ a.y=0
instance (a:V2):Decidable (we a):=inferInstanceAs (Decidable (_ /\ _))
def mz(a:V2):V2:=if we a then a else fK a 1024 (vlen a)
theorem zo(m n:Int)(F:HL):Sp Tryz.prog 207 #[vI m,vI n] [] F (λ u H'=>u=vI (bz (m+n)) /\ H'=[]):=by
 refine aav Tryz.func207 rfl mn (A:=[]) (Ts:=[]) rfl λ w0=>?_;refine ae 13 [] λ _=>?_;exact aaq [] [] [] ⟨rfl,rfl⟩
theorem zp(m n:Int)(F:HL):Sp Tryz.prog 273 #[vI m,vI n] [] F (λ u H'=>u=vI (bz (m-n)) /\ H'=[]):=by
 refine aav Tryz.func273 rfl mn (A:=[]) (Ts:=[]) rfl λ w0=>?_;refine ae 13 [] λ _=>?_;exact aaq [] [] [] ⟨rfl,rfl⟩
theorem rU(m n d:Int)(b:Nat)(F:HL)(hb:(b,.lit [vI d] 3 (0,0))∈F):Sp Tryz.prog 250 #[vI m,vI n,vP b 0] [] F (λ u H'=>u=vI (aF m n d) /\ H'=[]):=by
 refine aav Tryz.func250 rfl (mc hb mn) (A:=[]) (Ts:=[]) rfl λ w0=>?_;refine ae 10 [.ro 0] λ _=>aai (iy m n d  _)<|ae 3 [] λ _=>?_;exact aaq [] [] [] ⟨rfl,rfl⟩
theorem Io(a b:V2)  (F:HL):Sp Tryz.prog 206 #[.agg #[vI a.x,vI a.y],.agg #[vI b.x,vI b.y],.func (.func 207) #[] #[]] [] F (λ u H'=>u=.agg #[vI ((aK a b).x),vI ((aK a b).y)] /\ H'=[]):=by
 refine aav Tryz.func206 rfl mn (A:=[]) (Ts:=[]) rfl λ w0=>?_;refine ae 8 [] λ n1=>aal [13] []<|ag [] [0,1,3,6,7,9,2,4,8,10] [.own 2,.own 1,.own 2,.own 1]<|aac [] 5 (λ X_=>(zo a.x b.x _))<|aac [] 11 (λ X_=>(zo a.y b.y _))<|ag [] [12] []<|aae 13 (aag [] (aab 2) λ _=>?_);refine aad<|ae 1 [] λ _=>?_;exact aaq (aab 2) [] [] ⟨rfl,rfl⟩
theorem Ip(a b:V2)  (F:HL):Sp Tryz.prog 206 #[.agg #[vI a.x,vI a.y],.agg #[vI b.x,vI b.y],.func (.func 273) #[] #[]] [] F (λ u H'=>u=.agg #[vI ((dY a b).x),vI ((dY a b).y)] /\ H'=[]):=by
 refine aav Tryz.func206 rfl mn (A:=[]) (Ts:=[]) rfl λ w0=>?_;refine ae 8 [] λ n1=>aal [13] []<|ag [] [0,1,3,6,7,9,2,4,8,10] [.own 2,.own 1,.own 2,.own 1]<|aac [] 5 (λ X_=>(zp a.x b.x _))<|aac [] 11 (λ X_=>(zp a.y b.y _))<|ag [] [12] []<|aae 13 (aag [] (aab 2) λ _=>?_);refine aad<|ae 1 [] λ _=>?_;exact aaq (aab 2) [] [] ⟨rfl,rfl⟩
theorem Iq(a b:V2)  (F:HL):Sp Tryz.prog 206 #[.agg #[vI a.x,vI a.y],.agg #[vI b.x,vI b.y],.func (.func 209) #[] #[]] [] F (λ u H'=>u=.agg #[vI ((⟨ij a.x b.x,ij a.y b.y⟩:V2).x),vI ((⟨ij a.x b.x,ij a.y b.y⟩:V2).y)] /\ H'=[]):=by
 refine aav Tryz.func206 rfl mn (A:=[]) (Ts:=[]) rfl λ w0=>?_;refine ae 8 [] λ n1=>aal [13] []<|ag [] [0,1,3,6,7,9,2,4,8,10] [.own 2,.own 1,.own 2,.own 1]<|aac [] 5 (λ X_=>(pV a.x b.x  _))<|aac [] 11 (λ X_=>(pV a.y b.y  _))<|ag [] [12] []<|aae 13 (aag [] (aab 2) λ _=>?_);refine aad<|ae 1 [] λ _=>?_;exact aaq (aab 2) [] [] ⟨rfl,rfl⟩
theorem zq(a b:V2)(d:Int)(q:Nat)(F:HL)(hq:(q,.lit [vI d] 3 (0,0))∈F):Sp Tryz.prog 206 #[.agg #[vI a.x,vI a.y],.agg #[vI b.x,vI b.y],.func (.func 250) #[] #[vP q 0]] [] F (λ u H'=>u=.agg #[vI ((⟨aF a.x b.x d,aF a.y b.y d⟩:V2).x),vI ((⟨aF a.x b.x d,aF a.y b.y d⟩:V2).y)] /\ H'=[]):=by
 refine aav Tryz.func206 rfl (mc hq mn) (A:=[]) (Ts:=[]) rfl λ w0=>?_;refine ae 8 [] λ n1=>aal [13] []<|ag [] [0,1,3,6,7,9,2,4,8,10] [.own 2,.own 1,.own 2,.own 1]<|aac [] 5 (λ X_=>(rU a.x b.x d q _ (Cg hq)))<|aac [] 11 (λ X_=>(rU a.y b.y d q _ (Cg hq)))<|ag [] [12] []<|aae 13 (aag [] (aab 2) λ _=>?_);refine aad<|ae 1 [] λ _=>?_;exact aaq (aab 2) [] [] ⟨rfl,rfl⟩
theorem rV(n:Int)(F:HL):Sp Tryz.prog 208 #[vI n] [] F (λ u H'=>u=.agg #[vI n,vI n] /\ H'=[]):=by
 refine aav Tryz.func208 rfl mn (A:=[]) (Ts:=[]) rfl λ w0=>?_;refine ae 13 (aab 2) λ n1=>?_;exact aaq (aab 2) [] [] ⟨rfl,rfl⟩
theorem fh(a:V2)(b:V2)  (F:HL):Sp Tryz.prog 165 #[.agg #[vI a.x,vI a.y],.agg #[vI b.x,vI b.y]] [] F (λ u H'=>u=.agg #[vI ((aK a b).x),vI ((aK a b).y)] /\ H'=[]):=by
 refine aav Tryz.func165 rfl mn (A:=[]) (Ts:=[]) rfl λ w0=>?_;refine ae 11 [.own 2,.own 2,.own 1,.own 1] λ n1=>aai (Io a b _)<|ae 3 (aab 2) λ _=>?_;exact aaq (aab 2) [] [] ⟨rfl,rfl⟩
theorem jY(a:V2)(b:V2)  (F:HL):Sp Tryz.prog 239 #[.agg #[vI a.x,vI a.y],.agg #[vI b.x,vI b.y]] [] F (λ u H'=>u=.agg #[vI ((dY a b).x),vI ((dY a b).y)] /\ H'=[]):=by
 refine aav Tryz.func239 rfl mn (A:=[]) (Ts:=[]) rfl λ w0=>?_;refine ae 11 [.own 2,.own 2,.own 1,.own 1] λ n1=>aai (Ip a b _)<|ae 3 (aab 2) λ _=>?_;exact aaq (aab 2) [] [] ⟨rfl,rfl⟩
theorem Ir(a:V2)  (F:HL):Sp Tryz.prog 240 #[.agg #[vI a.x,vI a.y]] [] F (λ u H'=>u=.agg #[vI ((FI a).x),vI ((FI a).y)] /\ H'=[]):=by
 refine aav Tryz.func240 rfl mn (A:=[]) (Ts:=[]) rfl λ w0=>?_;refine ae 10 [.own 1,.own 1] λ n1=>aai (jY (⟨0,0⟩:V2) a  _)<|ae 3 (aab 2) λ _=>?_;exact aaq (aab 2) [] [] ⟨rfl,rfl⟩
theorem fS(a:V2)(f:Int)  (F:HL):Sp Tryz.prog 166 #[.agg #[vI a.x,vI a.y],vI f] [] F (λ u H'=>u=.agg #[vI ((ar a f).x),vI ((ar a f).y)] /\ H'=[]):=by
 refine aav Tryz.func166 rfl mn (A:=[]) (Ts:=[]) rfl λ w0=>?_;refine ae 7 [] λ n1=>aal [4] []<|ag [] [0,1] [.own 1,.own 1]<|aac [] 2 (λ X_=>(rV f _))<|aac [] 3 (λ X_=>(Iq a (⟨f,f⟩:V2) _))<|aae 4 (aag [] (aab 2) λ _=>?_);refine aad<|ae 1 [] λ _=>?_;exact aaq (aab 2) [] [] ⟨rfl,rfl⟩
theorem mS(a:V2)(n:Int)(d:Int)  (F:HL):Sp Tryz.prog 214 #[.agg #[vI a.x,vI a.y],vI n,vI d] [] F (λ u H'=>u=.agg #[vI ((fK a n d).x),vI ((fK a n d).y)] /\ H'=[]):=by
 refine aav Tryz.func214 rfl mn (A:=[]) (Ts:=[]) rfl λ w0=>?_;refine ae 8 [] λ n1=>aal [5] []<|ag [] [0,1,3] [.own 2,.own 2]<|aac [] 2 (λ X_=>(rV n _))<|aac [] 4 (λ X_=>(zq a (⟨n,n⟩:V2) d (n1+1) _ (gn 1)))<|aae 5 (aag [] (aab 2) λ _=>?_);refine aad<|ae 1 [] λ _=>?_;exact aaq (aab 2) [] [] ⟨rfl,rfl⟩
theorem FJ(n:Int)  (F:HL):Sp Tryz.prog 272 #[vI n] [] F (λ u H'=>u=vI (Im n) /\ H'=[]):=by
 refine aav Tryz.func272 rfl mn (A:=[]) (Ts:=[]) rfl λ w0=>?_;refine ae 12 [] λ _=>?_;exact aaq [] [] [] ⟨rfl,rfl⟩
theorem pW(a:V2)(b:V2)  (F:HL):Sp Tryz.prog 238 #[.agg #[vI a.x,vI a.y],.agg #[vI b.x,vI b.y]] [] F (λ u H'=>u=vI (dJ a b) /\ H'=[]):=by
 refine aav Tryz.func238 rfl mn (A:=[]) (Ts:=[]) rfl λ w0=>?_;refine ae 20 [.own 1,.own 0,.own 1,.own 0] λ n1=>aai (FJ (i64.wrap ((i64.wrap (a.x*b.x))+(i64.wrap (a.y*b.y))))  _)<|ae 3 [] λ _=>?_;exact aaq [] [] [] ⟨rfl,rfl⟩
theorem Iu(a:V2)  (F:HL):Sp Tryz.prog 311 #[.agg #[vI a.x,vI a.y]] [] F (λ u H'=>u=vI (vlen a) /\ H'=[]):=by
 refine aav Tryz.func311 rfl mn (A:=[]) (Ts:=[]) rfl λ w0=>?_;refine ae 19 (aab 4) λ n1=>aai (FH (i64.wrap ((i64.wrap (a.x*a.x))+(i64.wrap (a.y*a.y))))  _)<|ae 3 [] λ _=>?_;exact aaq [] [] [] ⟨rfl,rfl⟩
theorem FK(a:V2)  (F:HL):Sp Tryz.prog 306 #[.agg #[vI a.x,vI a.y]] [] F (λ u H'=>u=.agg #[vI ((mz a).x),vI ((mz a).y)] /\ H'=[]):=by
 refine aav Tryz.func306 rfl mn (A:=[]) (Ts:=[]) rfl λ w0=>?_;refine ae 14 [.own 1,.own 1,.sq] λ n1=>jB ((decide (a.x=0) && (decide (a.y=0) && true))) 5 (λ h2=>?_) λ h2=>?_
 ·refine ae 7 [.own 1,.own 1,.own 0,.own 0] λ _=>aaq (aab 2) [] [] (v:=.agg #[vI a.x,vI a.y]) (H':=[]) ?_;refine⟨?_,rfl⟩;unfold mz
  first|rw[if_pos (by simpa [we] using h2)]|rw[if_neg (by simpa [we] using h2)]
 ·refine ae 4 [] λ _=>aal [4] []<|ag [] [0,1] [.own 1,.own 1,.own 1,.own 1]<|aac [] 2 (λ X_=>(Iu a  _))<|aac [] 3 (λ X_=>(mS a 1024 (vlen a)  _))<|aae 4 (aag [] (aab 2) λ _=>?_);refine aad<|ae 1 [] λ _=>aaq (aab 2) [] [] (v:=.agg #[vI ((fK a 1024 (vlen a)).x),vI ((fK a 1024 (vlen a)).y)]) (H':=[]) ?_;refine⟨?_,rfl⟩;unfold mz
  first|rw[if_pos (by simpa [we] using h2)]|rw[if_neg (by simpa [we] using h2)]
structure Shp where (r:Int) (poly:List V2) (A:Option Addr) (cap:Nat)
abbrev P4(s:Shp):Value:=.agg #[vI s.r,.slice s.A s.poly.length s.cap]
def lj(l:List V2):Nat -> Nat -> Value:=λ i k=>match k with|0=>vI (l.getD i ⟨0,0⟩).x|_=>vI (l.getD i ⟨0,0⟩).y
inductive ShIn(F:HL):Shp -> Prop
 | circle (r:Int) (A:Option Addr) (cap:Nat):ShIn F ⟨r,[],A,cap⟩
 | poly (r:Int) (l:List V2) (b cap:Nat) (h:(b,.rows 2 cap (lj l) 29 (0,0))∈F) (h3:3 <= l.length) (h4:l.length <= cap) (h5:l.length <= 1000000):ShIn F ⟨r,l,some ⟨b,0,none⟩,cap⟩
theorem ShIn.mono{F F':HL}{s:Shp}(h:ShIn F s)(hs:∀x∈F,x∈F'):ShIn F' s:=by
 cases h with
 | circle r A cap=>exact .circle r A cap
 | poly r l b cap h h3 h4 h5=>exact .poly r l b cap (hs _ h) h3 h4 h5
def kV(s:Shp):Prop:=s.poly=[]
instance (s:Shp):Decidable (kV s):=decidable_of_iff (s.poly.isEmpty=true) (by simp[kV])
def QA(b:Bx)(c:V2):Bx:=⟨if c.x<b.x0 then c.x else b.x0,if c.y<b.y0 then c.y else b.y0,if c.x>b.x1 then c.x else b.x1,if c.y>b.y1 then c.y else b.y1⟩
def oH(pos:V2)(l:List V2):Nat -> Bx
 | 0=>⟨(aK pos (l.getD 0 ⟨0,0⟩)).x,(aK pos (l.getD 0 ⟨0,0⟩)).y,(aK pos (l.getD 0 ⟨0,0⟩)).x,(aK pos (l.getD 0 ⟨0,0⟩)).y⟩
 | k+1=>QA (oH pos l k) (aK pos (l.getD (1+k) ⟨0,0⟩))
def fp(s:Shp)(pos:V2):Bx:=if kV s then ⟨bz (pos.x-s.r),bz (pos.y-s.r),bz (pos.x+s.r),bz (pos.y+s.r)⟩ else oH pos s.poly (s.poly.length-1)
def rX(a b c d:Int):Prop:=a <= d /\ c <= b
instance (a b c d:Int):Decidable (rX a b c d):=inferInstanceAs (Decidable (_ /\ _))
def P5(a b:Bx):Prop:=rX a.x0 a.x1 b.x0 b.x1 /\ rX a.y0 a.y1 b.y0 b.y1
instance (a b:Bx):Decidable (P5 a b):=inferInstanceAs (Decidable (_ /\ _))
theorem qM(r:Int)(A:Option Addr)(n cap:Nat)(F:HL):Sp Tryz.prog 139 #[.agg #[vI r,.slice A n cap]] [] F (λ u H'=>u=.bool (decide ((n:Int)=0)) /\ H'=[]):=by
 refine aav Tryz.func139 rfl mn (A:=[]) (Ts:=[]) rfl λ w0=>?_;refine ae 15 [.own 0] λ n1=>?_;exact aaq [] [] [] ⟨rfl,rfl⟩
theorem jZ(r:Int)(A:Option Addr)(n cap:Nat)(F:HL):Sp Tryz.prog 269 #[.agg #[vI r,.slice A n cap]] [] F (λ u H'=>u=.bool (decide ((n:Int)=0)) /\ H'=[]):=by
 refine aav Tryz.func269 rfl mn (A:=[]) (Ts:=[]) rfl λ w0=>?_;refine ae 15 [.own 0] λ n1=>?_;exact aaq [] [] [] ⟨rfl,rfl⟩
theorem zr(a:Int)(b:Int)(c:Int)(d:Int)  (F:HL):Sp Tryz.prog 266 #[vI a,vI b,vI c,vI d] [] F (λ u H'=>u=.bool (decide (rX a b c d)) /\ H'=[]):=by
 refine aav Tryz.func266 rfl mn (A:=[]) (Ts:=[]) rfl λ w0=>?_;refine ae 11 [] λ _=>aam (a <= d) 12 (λ h1=>?_) λ h1=>?_
 ·refine ae 7 [] λ _=>aaq [] [] [] (v:=.bool (decide (c <= b))) (H':=[]) ?_;exact⟨by simp[rX, *],rfl⟩
 ·refine ae 7 [] λ _=>aaq [] [] [] (v:=.bool false) (H':=[]) ?_;exact⟨by simp[rX, *],rfl⟩
theorem L5(a:Bx)(b:Bx)  (F:HL):Sp Tryz.prog 234 #[.agg #[vI a.x0,vI a.y0,vI a.x1,vI a.y1],.agg #[vI b.x0,vI b.y0,vI b.x1,vI b.y1]] [] F (λ u H'=>u=.bool (decide (P5 a b)) /\ H'=[]):=by
 refine aav Tryz.func234 rfl mn (A:=[]) (Ts:=[]) rfl λ w0=>?_;refine ae 17 [.own 1,.own 1,.own 0,.own 0] λ n1=>aai (zr a.x0 a.x1 b.x0 b.x1  _)<|ae 1 [] λ _=>aam (rX a.x0 a.x1 b.x0 b.x1) 14 (λ h2=>?_) λ h2=>?_
 ·refine ae 8 [.own 1,.own 1,.own 0,.own 0] λ _=>aai (zr a.y0 a.y1 b.y0 b.y1  _)<|ae 4 [] λ _=>aaq [] [] [] (v:=.bool (decide (rX a.y0 a.y1 b.y0 b.y1))) (H':=[]) ?_;exact⟨by simp[P5, *],rfl⟩
 ·refine ae 13 [] λ _=>aaq [] [] [] (v:=.bool false) (H':=[]) ?_;exact⟨by simp[P5, *],rfl⟩
theorem vk(r:Int)(A:Option Addr)(cap:Nat)(pos:V2)(F:HL):Sp Tryz.prog 235 #[.agg #[vI r,.slice A 0 cap],.agg #[vI pos.x,vI pos.y]] [] F (λ u H'=>u=.agg #[vI ((fp ⟨r,[],A,cap⟩ pos).x0),vI ((fp ⟨r,[],A,cap⟩ pos).y0),vI ((fp ⟨r,[],A,cap⟩ pos).x1),vI ((fp ⟨r,[],A,cap⟩ pos).y1)] /\ H'=[]):=by
 refine aav Tryz.func235 rfl mn (A:=[]) (Ts:=[]) rfl λ w0=>?_;refine ae 11 [.own 2,.own 2] λ n1=>aai (qM r A 0 cap _)<|ae 29 [.own 1,.own 2,.own 1,.own 2,.own 1,.own 2,.own 1,.own 2,.own 0,.own 0,.own 0,.own 0] λ _=>?_;exact aaq (aab 4) [] [] ⟨rfl,rfl⟩
theorem zt(r:Int)(l:List V2)(b cap:Nat)(pos:V2)(F:HL)(hb:(b,.rows 2 cap (lj l) 29 (0,0))∈F)(h3:3 <= l.length)(h4:l.length <= cap)(h5:l.length <= 1000000):Sp Tryz.prog 235 #[.agg #[vI r,vS b 0 l.length cap],.agg #[vI pos.x,vI pos.y]] [] F (λ u H'=>u=.agg #[vI ((fp ⟨r,l,some ⟨b,0,none⟩,cap⟩ pos).x0),vI ((fp ⟨r,l,some ⟨b,0,none⟩,cap⟩ pos).y0),vI ((fp ⟨r,l,some ⟨b,0,none⟩,cap⟩ pos).x1),vI ((fp ⟨r,l,some ⟨b,0,none⟩,cap⟩ pos).y1)] /\ H'=[]):=by
 refine aav Tryz.func235 rfl (mc hb mn) (A:=[]) (Ts:=[]) rfl λ w0=>?_;refine ae 11 [.own 2,.own 2] λ n1=>aai (qM r (some ⟨b,0,none⟩) l.length cap _)<|ae 2 [] λ _=>bL 11 (decide_eq_false (show ¬ ((l.length:Int)=0) by omega))<|ae 4 [] λ _=>aal [7] []<|av [] [0,1,2,3,4] [.own 1,.own 1,.own 2,.ix 0,.rorow 0 0 0,.rorow 0 0 1] [((0+0*2)+1)=0*2+1 /\ 0<cap,(0+0*2)=0*2+0 /\ 0<cap,0=((0:Nat):Int) /\ 0<l.length]<|aac [] 5 (λ X_=>(fh pos (l.getD 0 ⟨0,0⟩)  _))<|aae 6 (aag [] [] λ n2=>?_);refine aae 7 (aag [] (aab 2) λ _=>?_);refine aad<|ah 27 (ow 0 8++[.own 4,.sl 1 l.length false]) [1=((1:Nat):Int) /\ l.length=l.length /\ 1 <= l.length /\ l.length <= cap /\ cap≠1] λ n3=>aao (σ:=Nat) (λ k=>⟨[(3,vP (n1+1) 0),(4,vP (n1+2) 0),(6,vP (n3+0) 0),(50,vS b 2 (l.length-1) (cap-1)),(51,vI (((l.length-1):Nat):Int)),(52,vI (k:Int))],[((n3+0),.lit [vI ((oH pos l k).x0),vI ((oH pos l k).y0),vI ((oH pos l k).x1),vI ((oH pos l k).y1)] 25 (0,0)),((n2+0),.lit [vI ((aK pos (l.getD 0 ⟨0,0⟩)).x),vI ((aK pos (l.getD 0 ⟨0,0⟩)).y)] 29 (0,0)),((n1+2),.lit [vI 0,vI 0,vI 0,vI 0] 25 (0,0)),((n1+1),.lit [vI pos.x,vI pos.y] 29 (0,0)),((n1+0),.lit [vI r,vS b 0 l.length cap] 85 (0,0))],[],k <= l.length-1,l.length-k⟩) 0 [0,1,2,3,4] [] (Nat.zero_le _) ?_;rintro k hI4 mt5;refine ae 6 [] λ _=>aam ((k:Int)<(((l.length-1):Nat):Int)) 53 (λ h6=>?_) λ h6=>?_
 ·refine ah 17 [.ix k,.rorow 0 (1+k) 0,.rorow 0 (1+k) 1,.own 0,.own 0,.own 4,.own 4,.own 0,.own 0] [((2+k*2)+1)=(1+k)*2+1 /\ (1+k)<cap,(2+k*2)=(1+k)*2+0 /\ (1+k)<cap,(k:Int)=((k:Nat):Int) /\ k<(l.length-1)] λ n7=>aai (fh pos (l.getD (1+k) ⟨0,0⟩)  _)<|ae 5 (aab 2) λ n8=>aal [11,13] [0,1,3,4,5,6]<|ag [0,1,3,4,5,6] [0,2,5,7,1,3,6,8,4,9,10] [.own 2,.own 0,.own 2,.ro 0]<|aae 11 (aag [0,1,3,4,5,6] [.own 2] λ _=>?_);refine ag [0,1,3,4,5,6] [12] []<|aae 13 (aag [0,1,3,4,5,6] [.own 2] λ _=>?_);refine aad<|ae 1 [] λ _=>aal [11,13] [0,1,3,4,5,6]<|ag [0,1,3,4,5,6] [0,2,5,7,1,3,6,8,4,9,10] [.own 2,.own 0,.own 2,.ro 0]<|aae 11 (aag [0,1,3,4,5,6] [.own 2] λ _=>?_);refine ag [0,1,3,4,5,6] [12] []<|aae 13 (aag [0,1,3,4,5,6] [.own 2] λ _=>?_);refine aad<|ah 6 [.nw] [aI ((k:Int)+1)] λ _=>?_;refine mt5 (k+1) [2,3,4,5,6] [] ?_
  try dsimp only
  refine⟨by omega,by omega⟩
 ·refine ae 12 [.own 0,.own 0,.own 0,.own 0,.own 2,.own 2,.own 2,.own 2] λ _=>aaq [.own 2,.own 2,.own 2,.own 2] [] [] (v:=.agg #[vI ((oH pos l k).x0),vI ((oH pos l k).y0),vI ((oH pos l k).x1),vI ((oH pos l k).y1)]) (H':=[]) ?_;have ek:k=l.length-1:=by omega
  subst ek;refine⟨?_,rfl⟩;unfold fp;rw[if_neg (by intro e;simp[kV] at e;rw[e] at h3;simp at h3)]
theorem tD(s:Shp)(pos:V2)(F:HL)(h:ShIn F s):Sp Tryz.prog 235 #[P4 s,.agg #[vI pos.x,vI pos.y]] [] F (λ u H'=>u=.agg #[vI (fp s pos).x0,vI (fp s pos).y0,vI (fp s pos).x1,vI (fp s pos).y1] /\ H'=[]):=by
 cases h with
 | circle r A cap=>exact vk r A cap pos F
 | poly r l b cap h h3 h4 h5=>exact zt r l b cap pos F h h3 h4 h5
structure MemS where
 cs:List Int
 lg:List (Int × Int)
 base:Int
def MemS.get(M:MemS)(i:Int):Int:=if 0 <= i /\ i<M.cs.length then M.cs.getD i.toNat 0 else 0
def MemS.set(M:MemS)(i v:Int):MemS:=if 0 <= i /\ i<M.cs.length then ⟨M.cs.set i.toNat v,M.lg++[(i,M.cs.getD i.toNat 0)],M.base⟩ else M
def aB(cs:List Int):Nat -> Nat -> Value:=λ i k=>match k with|0=>vI (cs.getD i 0)|_=>default
theorem gT{cs:List Int}{i:Nat}(h:i<cs.length)(v:Int):dG (aB cs) i 0 (vI v)=aB (cs.set i v):=by
 funext i' k';unfold dG aB
 by_cases h1:i'=i
 ·subst h1;rcases k' with _|k'
  ·simp[h]
  ·simp
 ·rcases k' with _|k'
  ·have:¬ i=i':=λ e=>h1 e.symm;simp[h1,List.getElem?_set,this]
  ·simp
def dZ:Enc (Int × Int):=⟨2,λ p k=>match k with|0=>vI p.1|_=>vI p.2,(0,0)⟩
noncomputable def NO:TypeInfo:=match Tryz.prog.info? 195 with | some i=>i | none=>⟨.bool,"",0,0,false,0,0,none,false,#[]⟩
noncomputable def NP:Value:=match NO.zero with|some z=>z|none=>.bool false
theorem lR:EncOk dZ Tryz.prog 195 NO NP where
 info:=by kernel_rfl
 zero:=by kernel_rfl
 size:=by kernel_rfl
 zsize:=by kernel_rfl
 zcell:=λ k hk=>by
  have h:∀k<2,NP.cells[k]?=some (dZ.cell dZ.dflt k):=by intro k hk;(iterate 2 (rcases k with _|k;· kernel_rfl));omega
  exact h k hk
 one:=λ x k=>by unfold dZ;dsimp only;split <;> rfl
 bytes:=Nat.le_of_ble_eq_true (by kernel_rfl)
inductive MemH(mb:Nat)(M:MemS)(k:Nat):HL -> Prop
 | mk (cb:Nat) (A:Option Addr) (cap:Nat) (Hl:HL) (hs:SlIs dZ 195 M.lg A cap Hl) (hc:M.cs.length <= 1000000) (hl:M.lg.length+k <= 100000000):MemH mb M k (ap [(mb,.lit [vS cb 0 M.cs.length M.cs.length,.slice A M.lg.length cap,vI M.base] 162 (0,0)),(cb,.rows 1 M.cs.length (aB M.cs) 3 (0,0))] [Hl])
theorem MemH.weak{mb:Nat}{M:MemS}{k k':Nat}{T:HL}(h:MemH mb M k T)(hk:k' <= k):MemH mb M k' T:=by
 cases h with
 | mk cb A cap Hl hs hc hl=>exact .mk cb A cap Hl hs hc (by omega)
theorem MemH.cast{mb:Nat}{M M':MemS}{k k':Nat}{T:HL}(h:MemH mb M k T)(e:M'=M)(hk:k' <= k):MemH mb M' k' T:=e ▸ h.weak hk
theorem MemH.put{mb:Nat}{M:MemS}{k:Nat}{i v:Int}{cb:Nat}{A:Option Addr}{cap:Nat}{Hl:HL}(h:0 <= i /\ i<M.cs.length)(hc:M.cs.length <= 1000000)(hl:M.lg.length+(k+1) <= 100000000)(hs:SlIs dZ 195 (M.lg++[(i,M.cs.getD i.toNat 0)]) A cap Hl) :
  MemH mb (M.set i v) k (ap [(mb,.lit [vS cb 0 M.cs.length M.cs.length,.slice A (M.lg.length+[(i,M.cs.getD i.toNat 0)].length) cap,vI M.base] 162 (0,0)),(cb,.rows 1 M.cs.length (dG (aB M.cs) i.toNat 0 (vI v)) 3 (0,0))] [Hl]):=by
 have e:M.set i v=⟨M.cs.set i.toNat v,M.lg++[(i,M.cs.getD i.toNat 0)],M.base⟩:=by unfold MemS.set;rw[if_pos h]
 rw[e,gT (by omega)];have:=MemH.mk (M:=⟨M.cs.set i.toNat v,M.lg++[(i,M.cs.getD i.toNat 0)],M.base⟩) (k:=k) cb A cap Hl hs (by simpa using hc) (by simp;omega) (mb:=mb);simpa using this
theorem D5(mb cb n:Nat)(A:Option Addr)(m cap:Nat)(base i:Int)(F:HL)(hm:(mb,.lit [vS cb 0 n n,.slice A m cap,vI base] 162 (0,0))∈F):Sp Tryz.prog 103 #[vP mb 0,vI i] [] F (λ u H'=>u=.bool (decide (0 <= i /\ i<n)) /\ H'=[]):=by
 refine aav Tryz.func103 rfl (mc hm mn) (A:=[]) (Ts:=[]) rfl λ w0=>?_;refine ae 10 [] λ _=>aam (0 <= i) 7 (λ h1=>?_) λ h1=>?_
 ·refine ae 11 [.ro 0] λ _=>aaq [] [] [] (v:=.bool (decide (i<(n:Int)))) (H':=[]) ?_;exact⟨by simp[*],rfl⟩
 ·refine ae 11 [] λ _=>aaq [] [] [] (v:=.bool false) (H':=[]) ?_;exact⟨by simp[*],rfl⟩
theorem L6(mb cb:Nat)(cs:List Int)(A:Option Addr)(m cap:Nat)(base i:Int)(lg:List (Int × Int))(F:HL)(hm:(mb,.lit [vS cb 0 cs.length cs.length,.slice A m cap,vI base] 162 (0,0))∈F)(hc:(cb,.rows 1 cs.length (aB cs) 3 (0,0))∈F)(hn:cs.length <= 1000000):Sp Tryz.prog 78 #[vP mb 0,vI i] [] F (λ u H'=>u=vI (MemS.get ⟨cs,lg,base⟩ i) /\ H'=[]):=by
 refine aav Tryz.func78 rfl (mc hm (mc hc mn)) (A:=[]) (Ts:=[]) rfl λ w0=>?_;refine ae 10 [] λ _=>aai (D5 mb cb cs.length A m cap base i _ (aq hm))<|ae 3 [] λ _=>aan (0 <= i /\ i<cs.length) 8 (λ h1=>?_) λ h1=>?_
 ·refine ah 15 [.ro 0,.ix ((i).toNat),.rorow 1 ((i).toNat) 0] [(0+((i).toNat)*1)=((i).toNat)*1+0 /\ ((i).toNat)<cs.length,i=(((i).toNat:Nat):Int) /\ (i).toNat<cs.length] λ _=>aaq [] [] [] (v:=vI (cs.getD ((i).toNat) 0)) (H':=[]) ?_;exact⟨by simp[MemS.get, *],rfl⟩
 ·refine ae 6 [] λ _=>aaq [] [] [] (v:=vI 0) (H':=[]) ?_;exact⟨by simp[MemS.get, *],rfl⟩
theorem aD{mb:Nat}{M:MemS}{k:Nat}{T:HL}(i:Int){F:HL}(h:MemH mb M k T)(hs:∀x∈T,x∈F):Sp Tryz.prog 78 #[vP mb 0,vI i] [] F (λ u H'=>u=vI (M.get i) /\ H'=[]):=by
 cases h with
 | mk cb A cap Hl VX hc hl=>exact L6 mb cb M.cs A M.lg.length cap M.base i M.lg F (hs _ (by simp)) (hs _ (by simp)) hc
theorem kH{mb:Nat}{M:MemS}{k:Nat}{T:HL}(i:Int){c:Int}(e:M.get i=c){F:HL}(h:MemH mb M k T)(hs:∀x∈T,x∈F):Sp Tryz.prog 78 #[vP mb 0,vI i] [] F (λ u H'=>u=vI c /\ H'=[]):=e ▸ aD i h hs
theorem L7(mb cb:Nat)(M:MemS)(k:Nat)(A:Option Addr)(cap:Nat)(i v:Int)(Hl:HL)(F:HL)(hs:SlIs dZ 195 M.lg A cap Hl)(hc:M.cs.length <= 1000000)(hl:M.lg.length+(k+1) <= 100000000):Sp Tryz.prog 92 #[vP mb 0,vI i,vI v] (ap [(mb,.lit [vS cb 0 M.cs.length M.cs.length,.slice A M.lg.length cap,vI M.base] 162 (0,0)),(cb,.rows 1 M.cs.length (aB M.cs) 3 (0,0))] [Hl]) F (λ u H'=>MemH mb (M.set i v) k H'):=by
 refine aav Tryz.func92 rfl mn (A:=[(mb,.lit [vS cb 0 M.cs.length M.cs.length,.slice A M.lg.length cap,vI M.base] 162 (0,0)),(cb,.rows 1 M.cs.length (aB M.cs) 3 (0,0))]) (Ts:=[Hl]) rfl λ w0=>?_;refine ae 5 [] λ _=>aai (D5 mb cb M.cs.length A M.lg.length cap M.base i _ (az 0))<|ae 3 [] λ _=>aan (0 <= i /\ i<M.cs.length) 9 (λ h1=>?_) λ h1=>?_
 ·refine ae 4 [] λ _=>aal [15,18] []<|av [] [0,1,5,6,10,2,7,3,8,4,9,11,12,13] [.own 0,.own 0,.ix ((i).toNat),.row 1 ((i).toNat) 0] [(0+((i).toNat)*1)=((i).toNat)*1+0 /\ ((i).toNat)<M.cs.length,i=(((i).toNat:Nat):Int) /\ (i).toNat<M.cs.length]<|aae 14 (aag [] [] λ n3=>?_);refine aae 15 (xz [] lR M.lg [(i,M.cs.getD i.toNat 0)] 0 0 rfl hs (by simp;omega) ?_);rintro A4 c5 T6 ⟨hs7,hz8⟩;refine ag [] [16,17] []<|aae 18 (aag [] [.own 1] λ _=>?_);refine aad<|ah 11 [.own 1,.ix ((i).toNat),.row 2 ((i).toNat) 0] [(0+((i).toNat)*1)=((i).toNat)*1+0 /\ ((i).toNat)<M.cs.length,i=(((i).toNat:Nat):Int) /\ (i).toNat<M.cs.length] λ _=>aaq [] [1,2] [0] (v:=.tuple #[]) (H':=(ap [(mb,.lit [vS cb 0 M.cs.length M.cs.length,.slice A4 (M.lg.length+([(i,M.cs.getD i.toNat 0)]).length) c5,vI M.base] 162 (0,0)),(cb,.rows 1 M.cs.length (dG (aB M.cs) ((i).toNat) 0 (vI v)) 3 (0,0))] [T6])) ?_;exact MemH.put (by omega) hc (by omega) hs7
 ·refine ae 1 [] λ _=>aaq [] [0,1] [0] (v:=.tuple #[]) (H':=(ap [(mb,.lit [vS cb 0 M.cs.length M.cs.length,.slice A M.lg.length cap,vI M.base] 162 (0,0)),(cb,.rows 1 M.cs.length (aB M.cs) 3 (0,0))] [Hl])) ?_;have e:M.set i v=M:=by unfold MemS.set;rw[if_neg (by assumption)]
  rw[e];exact .mk cb A cap Hl hs hc (by omega)
theorem al{mb:Nat}{M:MemS}{k:Nat}{T:HL}(i v:Int){F:HL}(h:MemH mb M (k+1) T):Sp Tryz.prog 92 #[vP mb 0,vI i,vI v] (ap [] [T]) F (λ u H'=>∃x,H'=ap ((λ _=>[]) x) ((λ x=>[x]) x) /\ MemH mb (M.set i v) k x):=by
 cases h with
 | mk cb A cap Hl VX hc hl =>
  have e:∀T:HL,ap [] [T]=T:=λ T=>by simp
  have:=L7 mb cb M k A cap i v Hl F VX hc hl;rw[e];exact this.mono λ u H' h=>⟨H',(e H').symm,h⟩
structure Bod where (sh:Shp) (mot:Mot) (a b:Int)
abbrev dB:Bod:=⟨⟨0,[],none,0⟩,⟨0,0,0,0,0⟩,0,0⟩
def mH:Enc Bod:=⟨9,λ p k=>match k with|0=>vI p.sh.r|1=>.slice p.sh.A p.sh.poly.length p.sh.cap|2=>vI p.mot.px|3=>vI p.mot.py|4=>vI p.mot.vx|5=>vI p.mot.vy|6=>vI p.mot.inv|7=>vI p.a|_=>vI p.b,dB⟩
noncomputable def NQ:TypeInfo:=match Tryz.prog.info? 90 with | some i=>i | none=>⟨.bool,"",0,0,false,0,0,none,false,#[]⟩
noncomputable def NR:Value:=match NQ.zero with|some z=>z|none=>.bool false
theorem Cp:EncOk mH Tryz.prog 90 NQ NR where
 info:=by kernel_rfl
 zero:=by kernel_rfl
 size:=by kernel_rfl
 zsize:=by kernel_rfl
 zcell:=λ k hk=>by
  have h:∀k<9,NR.cells[k]?=some (mH.cell mH.dflt k):=by intro k hk;(iterate 9 (rcases k with _|k;· kernel_rfl));omega
  exact h k hk
 one:=λ x k=>by unfold mH;dsimp only;split <;> rfl
 bytes:=Nat.le_of_ble_eq_true (by kernel_rfl)
abbrev kW(l:List Bod):Nat -> Nat -> Value:=aL mH l
structure Setup where
 players:Int
 bb:Nat
 bo:Nat
 nb:Nat
 bc:Nat
 bR:Nat
 bods:List Bod
 box:Bx
 rA:Option Addr
 rn:Nat
 rc:Nat
 dA:Option Addr
 dn:Nat
 dc:Nat
 fog:Int
 g:V2
 push:Int
 drag:Int
 rest:Int
 rounds:Int
 fuel:Int
def Setup.body(S:Setup)(k:Nat):Bod:=S.bods.getD (S.bo+k) dB
structure SetN(S:Setup):Prop where
 pl:0 <= S.players /\ S.players <= 1000000
 nb:S.nb <= 1000000
structure SetIn(F:HL)(S:Setup):Prop extends SetN S where
 blk:(S.bb,.rows 9 S.bR (kW S.bods) 90 (0,0))∈F
 room:S.bo+S.nb <= S.bR
 shp:∀k,k<S.nb -> ShIn F (S.body k).sh
theorem SetIn.up{F X:HL}{S:Setup}(h:SetIn F S):SetIn (X++F) S :=
 ⟨h.toSetN,List.mem_append_right _ h.blk,h.room,λ k hk=>(h.shp k hk).mono λ x hx=>List.mem_append_right _ hx⟩
def aj(S:Setup)(k:Int):Int:=if k<0 then -1 else if k >= S.players then -1 else 48+4*k
def af(S:Setup)(k:Int):Int:=if k<0 then -1 else if k >= S.nb then -1 else 48+4*S.players+8*k
def sizeOf(S:Setup):Int:=48+4*S.players+8*S.nb
theorem i8{S:Setup}(h:SetN S)(k:Int):(-1 <= aj S k /\ aj S k <= 1000000000) /\ (aj S k<0 \/ (0 <= k /\ k<S.players)):=by
 have:=h.pl;unfold aj;split
 ·omega
 ·split <;> omega
theorem di{S:Setup}(h:SetN S)(k:Int):(-1 <= af S k /\ af S k <= 1000000000) /\ (af S k<0 \/ (0 <= k /\ k<S.nb)):=by
 have:=h.pl;have:=h.nb;unfold af;split
 ·omega
 ·split <;> omega
abbrev Setup.v(S:Setup):Value:=.agg #[vI S.players,vS S.bb (S.bo*9) S.nb S.bc,vI S.box.x0,vI S.box.y0,vI S.box.x1,vI S.box.y1,.slice S.rA S.rn S.rc,.slice S.dA S.dn S.dc,vI S.fog,vI S.g.x,vI S.g.y,vI S.push,vI S.drag,vI S.rest,vI S.rounds,vI S.fuel]
abbrev Setup.l(S:Setup):List Value:=[vI S.players,vS S.bb (S.bo*9) S.nb S.bc,vI S.box.x0,vI S.box.y0,vI S.box.x1,vI S.box.y1,.slice S.rA S.rn S.rc,.slice S.dA S.dn S.dc,vI S.fog,vI S.g.x,vI S.g.y,vI S.push,vI S.drag,vI S.rest,vI S.rounds,vI S.fuel]
theorem i9(S:Setup)(k:Int)(F:HL)(hn:SetN S):Sp Tryz.prog 159 #[(Setup.v S),vI k] [] F (λ u H'=>u=vI (aj S k) /\ H'=[]):=by
 have h1:=hn.pl;have h2:=hn.nb;refine aav Tryz.func159 rfl mn (A:=[]) (Ts:=[]) rfl λ w0=>?_;refine ae 12 [] λ n1=>aam (k<0) 7 (λ h2=>?_) λ h2=>?_
 ·refine ae 13 [] λ _=>aaq [] [] [] (v:=vI (-1)) (H':=[]) ?_;refine⟨?_,rfl⟩;simp only[aj,if_pos h2]
 ·refine ae 7 [.own 0] λ _=>aam (k >= S.players) 12 (λ h3=>?_) λ h3=>?_
  ·refine ae 6 [] λ _=>aaq [] [] [] (v:=vI (-1)) (H':=[]) ?_;refine⟨?_,rfl⟩;simp only[aj,if_neg h2,if_pos h3]
  ·refine ah 11 [.nw,.nw] [aI (48+(4*k)),aI (4*k)] λ _=>aaq [] [] [] (v:=vI (48+(4*k))) (H':=[]) ?_;refine⟨?_,rfl⟩;simp only[aj,if_neg h2,if_neg h3]
theorem dj(S:Setup)(k:Int)(F:HL)(hn:SetN S):Sp Tryz.prog 118 #[(Setup.v S),vI k] [] F (λ u H'=>u=vI (af S k) /\ H'=[]):=by
 have h1:=hn.pl;have h2:=hn.nb;refine aav Tryz.func118 rfl mn (A:=[]) (Ts:=[]) rfl λ w0=>?_;refine ae 12 [] λ n1=>aam (k<0) 7 (λ h2=>?_) λ h2=>?_
 ·refine ae 14 [] λ _=>aaq [] [] [] (v:=vI (-1)) (H':=[]) ?_;refine⟨?_,rfl⟩;simp only[af,if_pos h2]
 ·refine ae 8 [.own 0] λ _=>aam (k >= (S.nb:Int)) 13 (λ h3=>?_) λ h3=>?_
  ·refine ae 6 [] λ _=>aaq [] [] [] (v:=vI (-1)) (H':=[]) ?_;refine⟨?_,rfl⟩;simp only[af,if_neg h2,if_pos h3]
  ·refine ah 15 [.own 0,.nw,.nw,.nw,.nw] [aI ((48+(4*S.players))+(8*k)),aI (8*k),aI (48+(4*S.players)),aI (4*S.players)] λ _=>aaq [] [] [] (v:=vI ((48+(4*S.players))+(8*k))) (H':=[]) ?_;refine⟨?_,rfl⟩;simp only[af,if_neg h2,if_neg h3]
theorem FM(S:Setup)(F:HL)(hn:SetN S):Sp Tryz.prog 117 #[(Setup.v S)] [] F (λ u H'=>u=vI (sizeOf S) /\ H'=[]):=by
 have h1:=hn.pl;have h2:=hn.nb;refine aav Tryz.func117 rfl mn (A:=[]) (Ts:=[]) rfl λ w0=>?_;refine ah 20 [.own 0,.nw,.nw,.own 0,.nw,.nw] [aI ((48+(4*S.players))+(8*(S.nb:Int))),aI (8*(S.nb:Int)),aI (48+(4*S.players)),aI (4*S.players)] λ n1=>?_;exact aaq [] [] [] ⟨rfl,rfl⟩
structure Inp where (dx dy act:Int)
abbrev dI:Inp:=⟨0,0,0⟩
structure Ins where (op n:Int)
abbrev dIns:Ins:=⟨0,0⟩
structure Eff where (t i k v:Int)
abbrev aaa(x:Eff):List Value:=[vI x.t,vI x.i,vI x.k,vI x.v]
abbrev bI:Eff:=⟨0,0,0,0⟩
def cS:Enc Inp:=⟨3,λ p k=>match k with|0=>vI p.dx|1=>vI p.dy|_=>vI p.act,dI⟩
noncomputable def NS:TypeInfo:=match Tryz.prog.info? 40 with | some i=>i | none=>⟨.bool,"",0,0,false,0,0,none,false,#[]⟩
noncomputable def NT:Value:=match NS.zero with|some z=>z|none=>.bool false
theorem tE:EncOk cS Tryz.prog 40 NS NT where
 info:=by kernel_rfl
 zero:=by kernel_rfl
 size:=by kernel_rfl
 zsize:=by kernel_rfl
 zcell:=λ k hk=>by
  have h:∀k<3,NT.cells[k]?=some (cS.cell cS.dflt k):=by intro k hk;(iterate 3 (rcases k with _|k;· kernel_rfl));omega
  exact h k hk
 one:=λ x k=>by unfold cS;dsimp only;split <;> rfl
 bytes:=Nat.le_of_ble_eq_true (by kernel_rfl)
abbrev ll(l:List Inp):Nat -> Nat -> Value:=aL cS l
structure Stp where
 S:Setup
 cA:Option Addr
 cn:Nat
 cc:Nat
 e0:Int
 e1:Int
 e2:Int
 version:Int
 ib:Nat
 io:Nat
 ni:Nat
 ic:Nat
 iR:Nat
 ins:List Inp
 i:Int
 j:Int
 ended:Bool
 f0:Int
 f1:Int
 f2:Int
 f3:Int
 emitted:Bool
 code:List Ins
def Stp.inp(t:Stp)(k:Nat):Inp:=t.ins.getD (t.io+k) dI
def movP(S:Setup)(k:Int):Prop:=(0 <= k /\ k<S.nb) /\ (S.body k.toNat).mot.inv>0
instance (S:Setup) (k:Int):Decidable (movP S k):=inferInstanceAs (Decidable (_ /\ _))
theorem movP.has{S:Setup}{k:Int}(h:movP S k):0 <= k /\ k<S.nb:=h.1
def au(S:Setup)(M:MemS)(k:Int):Mot:=⟨M.get (af S k+0),M.get (af S k+1),M.get (af S k+2),M.get (af S k+3),(S.body k.toNat).mot.inv⟩
def aS(t:Stp)(ph j:Int)(M:MemS):MemS:=((M.set 1 ph).set 2 0).set 3 j
def dP(t:Stp)(k:Int)(m:Mot)(M:MemS):MemS:=(((M.set (af t.S k+0) m.px).set (af t.S k+1) m.py).set (af t.S k+2) m.vx).set (af t.S k+3) m.vy
def eE(t:Stp)(c sp pos lo hi:Int)(M:MemS):MemS:=if aM pos lo hi=pos then M.set c (aM pos lo hi) else (M.set c (aM pos lo hi)).set sp (bz (0-ij ((M.set c (aM pos lo hi)).get sp) t.S.rest))
def bB(t:Stp)(M:MemS):MemS:=if t.i=0 then (M.set 13 t.version).set 11 0 else M
def bG(t:Stp)(M:MemS):MemS:=if aj t.S t.i >= 0 then if t.i<t.ni then ((M.set (aj t.S t.i+0) (t.inp t.i.toNat).dx).set (aj t.S t.i+1) (t.inp t.i.toNat).dy).set (aj t.S t.i+2) (t.inp t.i.toNat).act else M else M
def b7(t:Stp)(M:MemS):MemS:=if bz (t.i+1)<t.S.players then M.set 2 (bz (t.i+1)) else aS t 1 0 M
def aY(t:Stp)(M:MemS):MemS:=b7 t (bG t (bB t M))
abbrev Stp.l(t:Stp)(mb:Nat):List Value:=[.iface 113 (vP mb 0),vI t.S.players,vS t.S.bb (t.S.bo*9) t.S.nb t.S.bc,vI t.S.box.x0,vI t.S.box.y0,vI t.S.box.x1,vI t.S.box.y1,.slice t.S.rA t.S.rn t.S.rc,.slice t.S.dA t.S.dn t.S.dc,vI t.S.fog,vI t.S.g.x,vI t.S.g.y,vI t.S.push,vI t.S.drag,vI t.S.rest,vI t.S.rounds,vI t.S.fuel,.slice t.cA t.cn t.cc,vI t.e0,vI t.e1,vI t.e2,vI t.version,vS t.ib (t.io*3) t.ni t.ic,vI t.i,vI t.j,.bool t.ended,vI t.f0,vI t.f1,vI t.f2,vI t.f3,.bool t.emitted]
abbrev Stp.lp(t:Stp)(mb:Nat):List Value:=[.iface 113 (vP mb 0),vI t.S.players,vS t.S.bb (t.S.bo*9) t.S.nb t.S.bc,vI t.S.box.x0,vI t.S.box.y0,vI t.S.box.x1,vI t.S.box.y1,.slice t.S.rA t.S.rn t.S.rc,.slice t.S.dA t.S.dn t.S.dc,vI t.S.fog,vI t.S.g.x,vI t.S.g.y,vI t.S.push,vI t.S.drag,vI t.S.rest,vI t.S.rounds,vI t.S.fuel,.slice t.cA t.cn t.cc,vI t.e0,vI t.e1,vI t.e2,vI t.version,vS t.ib (t.io*3) t.ni t.ic,vI t.i,vI t.j,.bool t.ended]
theorem sT(t:Stp)(k:Int)(tb mb:Nat)(F:HL)(hb:(tb,.lit (Stp.l t mb) 238 (0,0))∈F):Sp Tryz.prog 170 #[vP tb 0,vI k] [] F (λ u H'=>u=.bool (decide (0 <= k /\ k<t.S.nb)) /\ H'=[]):=by
 refine aav Tryz.func170 rfl (mc hb mn) (A:=[]) (Ts:=[]) rfl λ w0=>?_;refine ae 10 [] λ _=>aam (k >= 0) 7 (λ h1=>?_) λ h1=>?_
 ·refine ae 12 [.ro 0] λ _=>aaq [] [] [] (v:=.bool (decide (k<(t.S.nb:Int)))) (H':=[]) ?_;exact⟨by simp[*],rfl⟩
 ·refine ae 12 [] λ _=>aaq [] [] [] (v:=.bool false) (H':=[]) ?_;exact⟨by simp[*],rfl⟩
theorem kI(t:Stp)(k:Int)(tb mb:Nat)(F:HL)(hb:(tb,.lit (Stp.l t mb) 238 (0,0))∈F)(hS:SetIn F t.S):Sp Tryz.prog 163 #[vP tb 0,vI k] [] F (λ u H'=>u=.bool (decide (movP t.S k)) /\ H'=[]):=by
 have hn:=hS.nb;have hr:=hS.room;refine aav Tryz.func163 rfl (mc hb (mc hS.blk mn)) (A:=[]) (Ts:=[]) rfl λ w0=>?_;refine ae 9 [] λ _=>aai (sT t k tb mb _ (List.mem_append_right _ hb))<|ae 1 [] λ _=>aam (0 <= k /\ k<t.S.nb) 8 (λ h1=>?_) λ h1=>?_
 ·refine ah 15 [.ro 0,.ix ((k).toNat),.rorow 1 (t.S.bo+((k).toNat)) 6] [((t.S.bo*9+((k).toNat)*9)+6)=(t.S.bo+((k).toNat))*9+6 /\ (t.S.bo+((k).toNat))<t.S.bR,k=(((k).toNat:Nat):Int) /\ (k).toNat<t.S.nb] λ _=>aaq [] [] [] (v:=.bool (decide ((t.S.bods.getD (t.S.bo+((k).toNat)) dB).mot.inv>0))) (H':=[]) ?_;refine⟨?_,rfl⟩;simp[movP,Setup.body, *]
 ·refine ae 15 [] λ _=>aaq [] [] [] (v:=.bool false) (H':=[]) ?_;refine⟨?_,rfl⟩;simp[movP,Setup.body, *]
theorem gC(t:Stp)(i:Int)(tb mb:Nat)(M:MemS)(k:Nat)(T F:HL)(hb:(tb,.lit (Stp.l t mb) 238 (0,0))∈F)(hS:SetIn F t.S)(hM:MemH mb M k T)(hT:∀x∈T,x∈F)(hi:0 <= i /\ i<t.S.nb):Sp Tryz.prog 164 #[vP tb 0,vI i] [] F (λ u H'=>u=.agg #[vI ((au t.S M i).px),vI ((au t.S M i).py),vI ((au t.S M i).vx),vI ((au t.S M i).vy),vI ((au t.S M i).inv)] /\ H'=[]):=by
 have hp:=hS.pl;have hn:=hS.nb;have hr:=hS.room;refine aav Tryz.func164 rfl (mc hb (mc hS.blk mn)) (A:=[]) (Ts:=[]) rfl λ w0=>?_;refine ae 12 [.ro 0,.ro 0,.ro 0,.ro 0,.ro 0,.ro 0,.ro 0,.ro 0,.ro 0,.ro 0,.ro 0,.ro 0,.ro 0,.ro 0,.ro 0,.ro 0] λ n1=>aai (dj t.S i _ hS.toSetN) ?_;have hb2:=di hS.toSetN i;refine ae 4 [] λ _=>aal [41] []<|av [] [0,4,7,11,15,19,22,26,30,35,1,5,8,12,16,20,23,27,31,2,9,17,24,32,3,10,18,25,33,34,36,37,38,39] [.nw,.nw,.nw,.nw,.ro 0,.ro 0,.ro 0,.ro 0,.ro 0,.ix ((i).toNat),.rorow 1 (t.S.bo+((i).toNat)) 6] [((t.S.bo*9+((i).toNat)*9)+6)=(t.S.bo+((i).toNat))*9+6 /\ (t.S.bo+((i).toNat))<t.S.bR,i=(((i).toNat:Nat):Int) /\ (i).toNat<t.S.nb,aI ((af t.S i)+3),aI ((af t.S i)+2),aI ((af t.S i)+1),aI ((af t.S i)+0)]<|aac [] 6 (λ X_=>(aD ((af t.S i)+0) hM (λ x hx=>List.mem_append_right _ (List.mem_append_right _ (hT x hx)))))<|aac [] 13 (λ X_=>(aD ((af t.S i)+1) hM (λ x hx=>List.mem_append_right _ (List.mem_append_right _ (hT x hx)))))<|ag [] [14] []<|aac [] 21 (λ X_=>(aD ((af t.S i)+2) hM (λ x hx=>List.mem_append_right _ (List.mem_append_right _ (hT x hx)))))<|aac [] 28 (λ X_=>(aD ((af t.S i)+3) hM (λ x hx=>List.mem_append_right _ (List.mem_append_right _ (hT x hx)))))<|ag [] [29,40] []<|aae 41 (aag [] (ow 0 5) λ _=>?_);refine aad<|ae 1 [] λ _=>?_;exact aaq (ow 0 5) [] [] ⟨rfl,rfl⟩
theorem b8(t:Stp)(ph:Int)(j:Int)(tb mb:Nat)(M:MemS)(k:Nat)(T F:HL)(hM:MemH mb M (k+3) T)(hS:SetIn F t.S) :Sp Tryz.prog 160 #[vP tb 0,vI ph,vI j] (ap [(tb,.lit (Stp.l t mb) 238 (0,0))] [T]) F (λ u H'=>∃x,H'=ap [(tb,.lit (Stp.l t mb) 238 (0,0))] [x] /\ (MemH mb (aS t ph j M) k x)):=by
 have hp:=hS.pl;have hn:=hS.nb;have hr:=hS.room;refine aav Tryz.func160 rfl (mc hS.blk mn) (A:=[(tb,.lit (Stp.l t mb) 238 (0,0))]) (Ts:=[T]) rfl λ w0=>?_;refine ae 7 [.own 0] λ _=>aaj [] [0] (al 1 ph hM) ?_;rintro _ T1 hM2;refine ae 8 [.own 0] λ _=>aaj [] [0] (al 2 0 hM2) ?_;rintro _ T3 Tf;refine ae 8 [.own 0] λ _=>aaj [] [0] (al 3 j Tf) ?_;rintro _ T5 UT;refine ae 1 [] λ _=>aaq [] [0] [0] (v:=.tuple #[]) (H':=(ap [(tb,.lit (Stp.l t mb) 238 (0,0))] [T5])) ?_;refine⟨T5,rfl,?_⟩;have e:(aS t ph j M)=(((M.set 1 ph).set 2 0).set 3 j):=by
  first|(simp only[aS];try rfl;done)|rfl
 rw[e];exact UT.weak (by omega)
theorem oI(t:Stp)(i:Int)(m:Mot)(tb mb:Nat)(M:MemS)(k:Nat)(T F:HL)(hM:MemH mb M (k+4) T)(hS:SetIn F t.S) :Sp Tryz.prog 212 #[vP tb 0,vI i,.agg #[vI m.px,vI m.py,vI m.vx,vI m.vy,vI m.inv]] (ap [(tb,.lit (Stp.l t mb) 238 (0,0))] [T]) F (λ u H'=>∃x,H'=ap [(tb,.lit (Stp.l t mb) 238 (0,0))] [x] /\ (MemH mb (dP t i m M) k x)):=by
 have hp:=hS.pl;have hn:=hS.nb;have hr:=hS.room;refine aav Tryz.func212 rfl (mc hS.blk mn) (A:=[(tb,.lit (Stp.l t mb) 238 (0,0))]) (Ts:=[T]) rfl λ w0=>?_;refine ae 12 (ow 1 16) λ n1=>aai (dj t.S i _ hS.toSetN) ?_;have hb2:=di hS.toSetN i;refine ae 4 [] λ _=>aal [9] []<|av [] [0,4,6,1,5,7,2,8,3] [.nw,.own 0,.own 1] [aI ((af t.S i)+0)]<|aae 9 (aaf [] [] [0] (al ((af t.S i)+0) m.px hM) ?_);rintro _ T3 Tf;refine aad<|ae 2 [] λ _=>aal [9] []<|av [] [0,4,6,1,5,7,2,8,3] [.nw,.own 0,.own 1] [aI ((af t.S i)+1)]<|aae 9 (aaf [] [] [0] (al ((af t.S i)+1) m.py Tf) ?_);rintro _ T5 UT;refine aad<|ae 2 [] λ _=>aal [9] []<|av [] [0,4,6,1,5,7,2,8,3] [.nw,.own 0,.own 1] [aI ((af t.S i)+2)]<|aae 9 (aaf [] [] [0] (al ((af t.S i)+2) m.vx UT) ?_);rintro _ T7 WR;refine aad<|ae 1 [] λ _=>aal [9] []<|av [] [0,4,6,1,5,7,2,8,3] [.nw,.own 0,.own 1] [aI ((af t.S i)+3)]<|aae 9 (aaf [] [] [0] (al ((af t.S i)+3) m.vy WR) ?_);rintro _ T9 VC;refine aad<|aaq [] [1] [0] (v:=.tuple #[]) (H':=(ap [(tb,.lit (Stp.l t mb) 238 (0,0))] [T9])) ?_;refine⟨T9,rfl,?_⟩;have e:(dP t i m M)=((((M.set ((af t.S i)+0) m.px).set ((af t.S i)+1) m.py).set ((af t.S i)+2) m.vx).set ((af t.S i)+3) m.vy):=by
  first|(simp only[dP];try rfl;done)|rfl
 rw[e];exact VC.weak (by omega)
theorem wg(t:Stp)(c:Int)(s:Int)(pos:Int)(lo:Int)(hi:Int)(tb mb:Nat)(M:MemS)(k:Nat)(T F:HL)(hM:MemH mb M (k+2) T)(hS:SetIn F t.S) :Sp Tryz.prog 215 #[vP tb 0,vI c,vI s,vI pos,vI lo,vI hi] (ap [(tb,.lit (Stp.l t mb) 238 (0,0))] [T]) F (λ u H'=>∃x,H'=ap [(tb,.lit (Stp.l t mb) 238 (0,0))] [x] /\ (MemH mb (eE t c s pos lo hi M) k x)):=by
 have hp:=hS.pl;have hn:=hS.nb;have hr:=hS.room;refine aav Tryz.func215 rfl (mc hS.blk mn) (A:=[(tb,.lit (Stp.l t mb) 238 (0,0))]) (Ts:=[T]) rfl λ w0=>?_;refine ae 5 [] λ _=>aai (cY pos lo hi  _)<|ae 11 [.own 0] λ _=>aaj [] [0] (al c (aM pos lo hi) hM) ?_;rintro _ T1 hM2;refine ae 9 [] λ _=>aan (aM pos lo hi=pos) 26 (λ h3=>?_) λ h3=>?_
 ·refine ae 2 [] λ _=>aaq [] [0] [0] (v:=.tuple #[]) (H':=(ap [(tb,.lit (Stp.l t mb) 238 (0,0))] [T1])) ?_;refine⟨T1,rfl,?_⟩;have e:(eE t c s pos lo hi M)=(M.set c (aM pos lo hi)):=by
   first|(simp only[eE,if_pos h3];try rfl;done)|rfl
  rw[e];exact hM2.weak (by omega)
 ·refine ae 1 [] λ _=>aal [20] []<|ag [] [0,4,5,9,11,1,6,12,2,7,13,3,8,14,15,18,19] (aab 3)<|aac [] 10 (λ X_=>(aD s hM2 (aE 0)))<|aac [] 16 (λ X_=>(pV ((M.set c (aM pos lo hi)).get s) t.S.rest  _))<|ag [] [17] []<|aae 20 (aaf [] [] [0] (al s (i64.wrap (0-(ij ((M.set c (aM pos lo hi)).get s) t.S.rest))) hM2) ?_);rintro _ T4 WT;refine aad<|aaq [] [0] [0] (v:=.tuple #[]) (H':=(ap [(tb,.lit (Stp.l t mb) 238 (0,0))] [T4])) ?_;refine⟨T4,rfl,?_⟩;have e:(eE t c s pos lo hi M)=((M.set c (aM pos lo hi)).set s (i64.wrap (0-(ij ((M.set c (aM pos lo hi)).get s) t.S.rest)))):=by
   first|(simp only[eE,if_neg h3];try rfl;done)|rfl
  rw[e];exact WT.weak (by omega)
theorem FN(t:Stp)  (tb mb:Nat) (M:MemS) (k:Nat) (T F:HL) (hM:MemH mb M (k+8) T) (hS:SetIn F t.S) (hI:(t.ib,.rows 3 t.iR (ll t.ins) 40 (0,0))∈F) (hir:t.io+t.ni <= t.iR /\ t.ni <= 1000000):Sp Tryz.prog 131 #[vP tb 0] (ap [(tb,.lit (Stp.l t mb) 238 (0,0))] [T]) F (λ u H'=>∃x,H'=ap [(tb,.lit (Stp.l t mb) 238 (0,0))] [x] /\ (MemH mb (aY t M) k x)):=by
 have hp:=hS.pl;have hn:=hS.nb;have hr:=hS.room;refine aav Tryz.func131 rfl (mc hS.blk (mc hI mn)) (A:=[(tb,.lit (Stp.l t mb) 238 (0,0))]) (Ts:=[T]) rfl λ w0=>?_;refine ae 10 [.own 0] λ _=>aam (t.i=0) 8 (λ h1=>?_) λ h1=>?_
 ·refine ae 2 [] λ _=>aal [10] []<|ag [] [0,4,1,5,2,6,3,7,8,9] (aab 2)<|aae 10 (aaf [] [] [0] (al 13 t.version hM) ?_);rintro _ T2 V9;refine aad<|ae 6 [.own 0] λ _=>aaj [] [0] (al 11 0 V9) ?_;rintro _ T4 WT;refine ae 4 [] λ _=>aal [] []<|ag [] [0,4,1,5,2,6,3,7] (ow 0 17)<|aac [] 8 (λ X_=>(i9 t.S t.i _ hS.toSetN)) ?_;have hb6:=i8 hS.toSetN t.i;refine ag [] [9] []<|aad<|ae 2 [] λ _=>aal [] []<|ag [] [0,1,2] []<|RD.em (aj t.S t.i >= 0) 36 (λ h7=>?_) λ h7=>?_
  ·refine ag [] [3,7,4,8,5,9,6,10,11,12,13] (aab 2)<|aad<|ae 1 [] λ _=>aam (t.i<(t.ni:Int)) 47 (λ h8=>?_) λ h8=>?_
   ·refine ae 2 [] λ _=>aal [11] []<|av [] [0,4,1,5,2,6,3,7,8,9] [.own 0,.own 0,.ix ((t.i).toNat),.rorow 1 (t.io+((t.i).toNat)) 0,.rorow 1 (t.io+((t.i).toNat)) 1,.rorow 1 (t.io+((t.i).toNat)) 2] [((t.io*3+((t.i).toNat)*3)+2)=(t.io+((t.i).toNat))*3+2 /\ (t.io+((t.i).toNat))<t.iR,((t.io*3+((t.i).toNat)*3)+1)=(t.io+((t.i).toNat))*3+1 /\ (t.io+((t.i).toNat))<t.iR,(t.io*3+((t.i).toNat)*3)=(t.io+((t.i).toNat))*3+0 /\ (t.io+((t.i).toNat))<t.iR,t.i=(((t.i).toNat:Nat):Int) /\ (t.i).toNat<t.ni]<|aae 10 (aag [] [] λ n9=>?_);refine aae 11 (aag [] (aab 3) λ _=>?_);refine aad<|ae 2 [] λ _=>aal [8] []<|av [] [0,4,6,1,5,7,2,3] [.nw,.own 0,.own 1] [aI ((aj t.S t.i)+0)]<|aae 8 (aaf [] [] [0] (al ((aj t.S t.i)+0) ((t.ins.getD (t.io+((t.i).toNat)) dI).dx) WT) ?_);rintro _ UJ UU;refine aad<|ae 2 [] λ _=>aal [8] []<|av [] [0,4,6,1,5,7,2,3] [.nw,.own 0,.own 1] [aI ((aj t.S t.i)+1)]<|aae 8 (aaf [] [] [0] (al ((aj t.S t.i)+1) ((t.ins.getD (t.io+((t.i).toNat)) dI).dy) UU) ?_);rintro _ T12 aaU;refine aad<|ae 1 [] λ _=>aal [8] []<|av [] [0,4,6,1,5,7,2,3] [.nw,.own 0,.own 1] [aI ((aj t.S t.i)+2)]<|aae 8 (aaf [] [] [0] (al ((aj t.S t.i)+2) ((t.ins.getD (t.io+((t.i).toNat)) dI).act) aaU) ?_);rintro _ T14 Yj;refine aad<|ae 2 [] λ _=>aal [] []<|ag [] [0,5,1,6,2,7,3,8,4,9,10] [.own 1,.own 1]<|aad<|ae 1 [] λ _=>aam (i64.wrap (t.i+1)<t.S.players) 95 (λ Uw=>?_) λ Uw=>?_
    ·refine ae 1 [] λ _=>aal [11] []<|ag [] [0,4,1,5,2,6,3,7,8,9,10] [.own 1,.own 1]<|aae 11 (aaf [] [] [0] (al 2 (i64.wrap (t.i+1)) Yj) ?_);rintro _ Us Td;refine aad<|aaq [] [1] [0] (v:=.tuple #[]) (H':=(ap [(tb,.lit (Stp.l t mb) 238 (0,0))] [Us])) ?_;refine⟨Us,rfl,?_⟩;have e:(aY t M)=((((((M.set 13 t.version).set 11 0).set ((aj t.S t.i)+0) ((t.ins.getD (t.io+((t.i).toNat)) dI).dx)).set ((aj t.S t.i)+1) ((t.ins.getD (t.io+((t.i).toNat)) dI).dy)).set ((aj t.S t.i)+2) ((t.ins.getD (t.io+((t.i).toNat)) dI).act)).set 2 (i64.wrap (t.i+1))):=by
      first|(simp only[aY,bB,bG,b7,Stp.inp,if_pos h1,if_pos h7,if_pos h8,if_pos Uw];try rfl;done)|rfl
     rw[e];exact Td.weak (by omega)
    ·refine ae 3 [] λ _=>aaj [1] [0] (b8 t 1 0 tb mb (((((M.set 13 t.version).set 11 0).set ((aj t.S t.i)+0) ((t.ins.getD (t.io+((t.i).toNat)) dI).dx)).set ((aj t.S t.i)+1) ((t.ins.getD (t.io+((t.i).toNat)) dI).dy)).set ((aj t.S t.i)+2) ((t.ins.getD (t.io+((t.i).toNat)) dI).act)) k T14 _ Yj hS.up ) ?_;rintro _ XM aaS;refine ae 1 [] λ _=>aaq [] [0] [0] (v:=.tuple #[]) (H':=(ap [(tb,.lit (Stp.l t mb) 238 (0,0))] [XM])) ?_;refine⟨XM,rfl,?_⟩;have e:(aY t M)=(aS t 1 0 (((((M.set 13 t.version).set 11 0).set ((aj t.S t.i)+0) ((t.ins.getD (t.io+((t.i).toNat)) dI).dx)).set ((aj t.S t.i)+1) ((t.ins.getD (t.io+((t.i).toNat)) dI).dy)).set ((aj t.S t.i)+2) ((t.ins.getD (t.io+((t.i).toNat)) dI).act))):=by
      first|(simp only[aY,bB,bG,b7,Stp.inp,if_pos h1,if_pos h7,if_pos h8,if_neg Uw];try rfl;done)|rfl
     rw[e];exact aaS.weak (by omega)
   ·refine ae 4 [] λ _=>aal [] []<|ag [] [0,5,1,6,2,7,3,8,4,9,10] (aab 2)<|aad<|ae 1 [] λ _=>aam (i64.wrap (t.i+1)<t.S.players) 95 (λ h21=>?_) λ h21=>?_
    ·refine ae 1 [] λ _=>aal [11] []<|ag [] [0,4,1,5,2,6,3,7,8,9,10] (aab 2)<|aae 11 (aaf [] [] [0] (al 2 (i64.wrap (t.i+1)) WT) ?_);rintro _ VK aaQ;refine aad<|aaq [] [0] [0] (v:=.tuple #[]) (H':=(ap [(tb,.lit (Stp.l t mb) 238 (0,0))] [VK])) ?_;refine⟨VK,rfl,?_⟩;have e:(aY t M)=(((M.set 13 t.version).set 11 0).set 2 (i64.wrap (t.i+1))):=by
      first|(simp only[aY,bB,bG,b7,Stp.inp,if_pos h1,if_pos h7,if_neg h8,if_pos h21];try rfl;done)|rfl
     rw[e];exact aaQ.weak (by omega)
    ·refine ae 3 [] λ _=>aaj [0] [0] (b8 t 1 0 tb mb ((M.set 13 t.version).set 11 0) (k+3) T4 _ WT hS.up ) ?_;rintro _ T24 aaP;refine ae 1 [] λ _=>aaq [] [0] [0] (v:=.tuple #[]) (H':=(ap [(tb,.lit (Stp.l t mb) 238 (0,0))] [T24])) ?_;refine⟨T24,rfl,?_⟩;have e:(aY t M)=(aS t 1 0 ((M.set 13 t.version).set 11 0)):=by
      first|(simp only[aY,bB,bG,b7,Stp.inp,if_pos h1,if_pos h7,if_neg h8,if_neg h21];try rfl;done)|rfl
     rw[e];exact aaP.weak (by omega)
  ·refine ag [] [3,7,4,8,5,9,6,10,11,12,13] []<|aad<|ae 5 [] λ _=>aal [] []<|ag [] [0,5,1,6,2,7,3,8,4,9,10] (aab 2)<|aad<|ae 1 [] λ _=>aam (i64.wrap (t.i+1)<t.S.players) 95 (λ Vb=>?_) λ Vb=>?_
   ·refine ae 1 [] λ _=>aal [11] []<|ag [] [0,4,1,5,2,6,3,7,8,9,10] (aab 2)<|aae 11 (aaf [] [] [0] (al 2 (i64.wrap (t.i+1)) WT) ?_);rintro _ Xy Wb;refine aad<|aaq [] [0] [0] (v:=.tuple #[]) (H':=(ap [(tb,.lit (Stp.l t mb) 238 (0,0))] [Xy])) ?_;refine⟨Xy,rfl,?_⟩;have e:(aY t M)=(((M.set 13 t.version).set 11 0).set 2 (i64.wrap (t.i+1))):=by
     first|(simp only[aY,bB,bG,b7,Stp.inp,if_pos h1,if_neg h7,if_pos Vb];try rfl;done)|rfl
    rw[e];exact Wb.weak (by omega)
   ·refine ae 3 [] λ _=>aaj [0] [0] (b8 t 1 0 tb mb ((M.set 13 t.version).set 11 0) (k+3) T4 _ WT hS.up ) ?_;rintro _ T29 V8;refine ae 1 [] λ _=>aaq [] [0] [0] (v:=.tuple #[]) (H':=(ap [(tb,.lit (Stp.l t mb) 238 (0,0))] [T29])) ?_;refine⟨T29,rfl,?_⟩;have e:(aY t M)=(aS t 1 0 ((M.set 13 t.version).set 11 0)):=by
     first|(simp only[aY,bB,bG,b7,Stp.inp,if_pos h1,if_neg h7,if_neg Vb];try rfl;done)|rfl
    rw[e];exact V8.weak (by omega)
 ·refine ae 5 [] λ _=>aal [] []<|ag [] [0,4,1,5,2,6,3,7] (ow 0 17)<|aac [] 8 (λ X_=>(i9 t.S t.i _ hS.toSetN)) ?_;have asD:=i8 hS.toSetN t.i;refine ag [] [9] []<|aad<|ae 2 [] λ _=>aal [] []<|ag [] [0,1,2] []<|RD.em (aj t.S t.i >= 0) 36 (λ XJ=>?_) λ XJ=>?_
  ·refine ag [] [3,7,4,8,5,9,6,10,11,12,13] (aab 2)<|aad<|ae 1 [] λ _=>aam (t.i<(t.ni:Int)) 47 (λ h33=>?_) λ h33=>?_
   ·refine ae 2 [] λ _=>aal [11] []<|av [] [0,4,1,5,2,6,3,7,8,9] [.own 0,.own 0,.ix ((t.i).toNat),.rorow 1 (t.io+((t.i).toNat)) 0,.rorow 1 (t.io+((t.i).toNat)) 1,.rorow 1 (t.io+((t.i).toNat)) 2] [((t.io*3+((t.i).toNat)*3)+2)=(t.io+((t.i).toNat))*3+2 /\ (t.io+((t.i).toNat))<t.iR,((t.io*3+((t.i).toNat)*3)+1)=(t.io+((t.i).toNat))*3+1 /\ (t.io+((t.i).toNat))<t.iR,(t.io*3+((t.i).toNat)*3)=(t.io+((t.i).toNat))*3+0 /\ (t.io+((t.i).toNat))<t.iR,t.i=(((t.i).toNat:Nat):Int) /\ (t.i).toNat<t.ni]<|aae 10 (aag [] [] λ n34=>?_);refine aae 11 (aag [] (aab 3) λ _=>?_);refine aad<|ae 2 [] λ _=>aal [8] []<|av [] [0,4,6,1,5,7,2,3] [.nw,.own 0,.own 1] [aI ((aj t.S t.i)+0)]<|aae 8 (aaf [] [] [0] (al ((aj t.S t.i)+0) ((t.ins.getD (t.io+((t.i).toNat)) dI).dx) hM) ?_);rintro _ T35 aaO;refine aad<|ae 2 [] λ _=>aal [8] []<|av [] [0,4,6,1,5,7,2,3] [.nw,.own 0,.own 1] [aI ((aj t.S t.i)+1)]<|aae 8 (aaf [] [] [0] (al ((aj t.S t.i)+1) ((t.ins.getD (t.io+((t.i).toNat)) dI).dy) aaO) ?_);rintro _ T37 aaN;refine aad<|ae 1 [] λ _=>aal [8] []<|av [] [0,4,6,1,5,7,2,3] [.nw,.own 0,.own 1] [aI ((aj t.S t.i)+2)]<|aae 8 (aaf [] [] [0] (al ((aj t.S t.i)+2) ((t.ins.getD (t.io+((t.i).toNat)) dI).act) aaN) ?_);rintro _ T39 WK;refine aad<|ae 2 [] λ _=>aal [] []<|ag [] [0,5,1,6,2,7,3,8,4,9,10] [.own 1,.own 1]<|aad<|ae 1 [] λ _=>aam (i64.wrap (t.i+1)<t.S.players) 95 (λ UX=>?_) λ UX=>?_
    ·refine ae 1 [] λ _=>aal [11] []<|ag [] [0,4,1,5,2,6,3,7,8,9,10] [.own 1,.own 1]<|aae 11 (aaf [] [] [0] (al 2 (i64.wrap (t.i+1)) WK) ?_);rintro _ T42 aaM;refine aad<|aaq [] [1] [0] (v:=.tuple #[]) (H':=(ap [(tb,.lit (Stp.l t mb) 238 (0,0))] [T42])) ?_;refine⟨T42,rfl,?_⟩;have e:(aY t M)=((((M.set ((aj t.S t.i)+0) ((t.ins.getD (t.io+((t.i).toNat)) dI).dx)).set ((aj t.S t.i)+1) ((t.ins.getD (t.io+((t.i).toNat)) dI).dy)).set ((aj t.S t.i)+2) ((t.ins.getD (t.io+((t.i).toNat)) dI).act)).set 2 (i64.wrap (t.i+1))):=by
      first|(simp only[aY,bB,bG,b7,Stp.inp,if_neg h1,if_pos XJ,if_pos h33,if_pos UX];try rfl;done)|rfl
     rw[e];exact aaM.weak (by omega)
    ·refine ae 3 [] λ _=>aaj [1] [0] (b8 t 1 0 tb mb (((M.set ((aj t.S t.i)+0) ((t.ins.getD (t.io+((t.i).toNat)) dI).dx)).set ((aj t.S t.i)+1) ((t.ins.getD (t.io+((t.i).toNat)) dI).dy)).set ((aj t.S t.i)+2) ((t.ins.getD (t.io+((t.i).toNat)) dI).act)) (k+2) T39 _ WK hS.up ) ?_;rintro _ T44 aaL;refine ae 1 [] λ _=>aaq [] [0] [0] (v:=.tuple #[]) (H':=(ap [(tb,.lit (Stp.l t mb) 238 (0,0))] [T44])) ?_;refine⟨T44,rfl,?_⟩;have e:(aY t M)=(aS t 1 0 (((M.set ((aj t.S t.i)+0) ((t.ins.getD (t.io+((t.i).toNat)) dI).dx)).set ((aj t.S t.i)+1) ((t.ins.getD (t.io+((t.i).toNat)) dI).dy)).set ((aj t.S t.i)+2) ((t.ins.getD (t.io+((t.i).toNat)) dI).act))):=by
      first|(simp only[aY,bB,bG,b7,Stp.inp,if_neg h1,if_pos XJ,if_pos h33,if_neg UX];try rfl;done)|rfl
     rw[e];exact aaL.weak (by omega)
   ·refine ae 4 [] λ _=>aal [] []<|ag [] [0,5,1,6,2,7,3,8,4,9,10] (aab 2)<|aad<|ae 1 [] λ _=>aam (i64.wrap (t.i+1)<t.S.players) 95 (λ h46=>?_) λ h46=>?_
    ·refine ae 1 [] λ _=>aal [11] []<|ag [] [0,4,1,5,2,6,3,7,8,9,10] (aab 2)<|aae 11 (aaf [] [] [0] (al 2 (i64.wrap (t.i+1)) hM) ?_);rintro _ T47 afc;refine aad<|aaq [] [0] [0] (v:=.tuple #[]) (H':=(ap [(tb,.lit (Stp.l t mb) 238 (0,0))] [T47])) ?_;refine⟨T47,rfl,?_⟩;have e:(aY t M)=(M.set 2 (i64.wrap (t.i+1))):=by
      first|(simp only[aY,bB,bG,b7,Stp.inp,if_neg h1,if_pos XJ,if_neg h33,if_pos h46];try rfl;done)|rfl
     rw[e];exact afc.weak (by omega)
    ·refine ae 3 [] λ _=>aaj [0] [0] (b8 t 1 0 tb mb M (k+5) T _ hM hS.up ) ?_;rintro _ T49 WJ;refine ae 1 [] λ _=>aaq [] [0] [0] (v:=.tuple #[]) (H':=(ap [(tb,.lit (Stp.l t mb) 238 (0,0))] [T49])) ?_;refine⟨T49,rfl,?_⟩;have e:(aY t M)=(aS t 1 0 M):=by
      first|(simp only[aY,bB,bG,b7,Stp.inp,if_neg h1,if_pos XJ,if_neg h33,if_neg h46];try rfl;done)|rfl
     rw[e];exact WJ.weak (by omega)
  ·refine ag [] [3,7,4,8,5,9,6,10,11,12,13] []<|aad<|ae 5 [] λ _=>aal [] []<|ag [] [0,5,1,6,2,7,3,8,4,9,10] (aab 2)<|aad<|ae 1 [] λ _=>aam (i64.wrap (t.i+1)<t.S.players) 95 (λ Xv=>?_) λ Xv=>?_
   ·refine ae 1 [] λ _=>aal [11] []<|ag [] [0,4,1,5,2,6,3,7,8,9,10] (aab 2)<|aae 11 (aaf [] [] [0] (al 2 (i64.wrap (t.i+1)) hM) ?_);rintro _ T52 aaK;refine aad<|aaq [] [0] [0] (v:=.tuple #[]) (H':=(ap [(tb,.lit (Stp.l t mb) 238 (0,0))] [T52])) ?_;refine⟨T52,rfl,?_⟩;have e:(aY t M)=(M.set 2 (i64.wrap (t.i+1))):=by
     first|(simp only[aY,bB,bG,b7,Stp.inp,if_neg h1,if_neg XJ,if_pos Xv];try rfl;done)|rfl
    rw[e];exact aaK.weak (by omega)
   ·refine ae 3 [] λ _=>aaj [0] [0] (b8 t 1 0 tb mb M (k+5) T _ hM hS.up ) ?_;rintro _ T54 aaJ;refine ae 1 [] λ _=>aaq [] [0] [0] (v:=.tuple #[]) (H':=(ap [(tb,.lit (Stp.l t mb) 238 (0,0))] [T54])) ?_;refine⟨T54,rfl,?_⟩;have e:(aY t M)=(aS t 1 0 M):=by
     first|(simp only[aY,bB,bG,b7,Stp.inp,if_neg h1,if_neg XJ,if_neg Xv];try rfl;done)|rfl
    rw[e];exact aaJ.weak (by omega)
def gJ(t:Stp):Bool:=if bz (t.i+1)<t.S.nb then t.ended else true
def gK(t:Stp)(M:MemS):MemS:=if af t.S t.i >= 0 then M.set (af t.S t.i+7) (if M.get (af t.S t.i+2)=0 then if M.get (af t.S t.i+3)=0 then (if 1000<bz (M.get (af t.S t.i+7)+1) then 1000 else bz (M.get (af t.S t.i+7)+1)) else 0 else 0) else M
def cQ(M:MemS):Nat -> MemS
 | 0=>M
 | n+1=>(cQ M n).set ((n+1:Nat):Int) 0
def il(t:Stp)(M:MemS):MemS:=if bz (t.i+1)<t.S.nb then M.set 2 (bz (t.i+1)) else cQ (M.set 0 (bz (M.get 0+1))) 10
def dS(t:Stp)(M:MemS):MemS:=il t (gK t M)
def cC(t:Stp)(M:MemS):V2:=ar (if aj t.S t.i >= 0 then aK (aK ⟨(au t.S M t.i).vx,(au t.S M t.i).vy⟩ t.S.g) ⟨bz (M.get (aj t.S t.i+0)*t.S.push),bz (M.get (aj t.S t.i+1)*t.S.push)⟩ else aK ⟨(au t.S M t.i).vx,(au t.S M t.i).vy⟩ t.S.g) (bz (1024-t.S.drag))
def bQ(t:Stp)(M:MemS):MemS:=if af t.S t.i >= 0 then M.set (af t.S t.i+6) 0 else M
def bW(t:Stp)(M:MemS):MemS:=if movP t.S t.i then (M.set (af t.S t.i+2) (aM (cC t M).x (-16384) 16384)).set (af t.S t.i+3) (aM (cC t M).y (-16384) 16384) else M
def cf(t:Stp)(M:MemS):MemS:=if bz (t.i+1)<t.S.nb then M.set 2 (bz (t.i+1)) else (aS t 4 1 M).set 4 0
def aZ(t:Stp)(M:MemS):MemS:=cf t (bW t (bQ t M))
def nO(M:MemS):Int:=if bz (M.get 5+128)<1024 then bz (M.get 5+128) else 1024
def iU(t:Stp)(M:MemS):V2:=aK ⟨(au t.S M t.i).px,(au t.S M t.i).py⟩ (fK ⟨(au t.S M t.i).vx,(au t.S M t.i).vy⟩ (nO M) 1024)
def du(t:Stp)(M:MemS):MemS:=eE t (af t.S t.i+1) (af t.S t.i+3) (iU t M).y t.S.box.y0 t.S.box.y1 (eE t (af t.S t.i+0) (af t.S t.i+2) (iU t M).x t.S.box.x0 t.S.box.x1 M)
theorem FO(t:Stp)  (tb mb:Nat) (M:MemS) (k:Nat) (T F:HL) (hM:MemH mb M (k+8) T) (hS:SetIn F t.S) :Sp Tryz.prog 134 #[vP tb 0] (ap [(tb,.lit (Stp.l t mb) 238 (0,0))] [T]) F (λ u H'=>∃x,H'=ap [(tb,.lit (Stp.l t mb) 238 (0,0))] [x] /\ (MemH mb (aZ t M) k x)):=by
 have hp:=hS.pl;have hn:=hS.nb;have hr:=hS.room;refine aav Tryz.func134 rfl (mc hS.blk mn) (A:=[(tb,.lit (Stp.l t mb) 238 (0,0))]) (Ts:=[T]) rfl λ w0=>?_;refine ae 2 [] λ _=>aal [] []<|ag [] [0,4,1,5,2,6,3,7] (ow 0 17)<|aac [] 8 (λ X_=>(dj t.S t.i _ hS.toSetN)) ?_;have V5:=di hS.toSetN t.i;refine ag [] [9] []<|aad<|ae 7 [] λ _=>aam (af t.S t.i >= 0) 19 (λ h2=>?_) λ h2=>?_
 ·refine ah 8 [.own 0,.nw] [aI ((af t.S t.i)+6)] λ _=>aaj [] [0] (al ((af t.S t.i)+6) 0 hM) ?_;rintro _ T3 Tf;refine ae 10 [.own 0] λ _=>aai (kI t t.i tb mb _ (az 0) hS.up)<|ae 2 [] λ _=>aam (movP t.S t.i) 32 (λ h5=>?_) λ h5=>?_
  ·have:=movP.has h5;refine ae 8 [.own 0] λ _=>aai (gC t t.i tb mb (M.set ((af t.S t.i)+6) 0) _ T3 _ (az 0) hS.up Tf (ak 0) (movP.has h5))<|ae 5 (ow 0 5) λ n6=>aal [9] []<|ag [] [0,2,1,3,4,5,6] [.own 0,.own 0,.own 1,.own 1]<|aac [] 7 (λ X_=>(fh (⟨(au t.S (M.set ((af t.S t.i)+6) 0) t.i).vx,(au t.S (M.set ((af t.S t.i)+6) 0) t.i).vy⟩:V2) t.S.g  _))<|aae 8 (aag [] [] λ n7=>?_);refine aae 9 (aag [] (aab 2) λ _=>?_);refine aad<|ae 3 [] λ _=>aal [] []<|ag [] [0,4,1,5,2,6,3,7] (ow 2 17)<|aac [] 8 (λ X_=>(i9 t.S t.i _ hS.toSetN)) ?_;have hb8:=i8 hS.toSetN t.i;refine ag [] [9] []<|aad<|ae 7 [] λ _=>aam (aj t.S t.i >= 0) 57 (λ h9=>?_) λ h9=>?_
   ·refine ae 2 [] λ _=>aal [] []<|av [] [0,4,7,11,1,5,8,12,2,9,3,10] [.nw,.nw,.own 2,.own 2] [aI ((aj t.S t.i)+1),aI ((aj t.S t.i)+0)]<|aac [] 6 (λ X_=>(aD ((aj t.S t.i)+0) Tf (aE 0)))<|aac [] 13 (λ X_=>(aD ((aj t.S t.i)+1) Tf (aE 0)))<|ag [] [14,15] []<|aad<|ae 1 [] λ _=>aal [17] []<|ag [] [0,1,2,8,9,3,10,4,11,5,12,6,13,7,14,15] [.own 0,.own 0,.own 2,.own 2]<|aac [] 16 (λ X_=>(fh (aK (⟨(au t.S (M.set ((af t.S t.i)+6) 0) t.i).vx,(au t.S (M.set ((af t.S t.i)+6) 0) t.i).vy⟩:V2) t.S.g) (⟨i64.wrap (((M.set ((af t.S t.i)+6) 0).get ((aj t.S t.i)+0))*t.S.push),i64.wrap (((M.set ((af t.S t.i)+6) 0).get ((aj t.S t.i)+1))*t.S.push)⟩:V2)  _))<|aae 17 (aag [] (aab 2) λ _=>?_);refine aad<|ae 2 [] λ _=>aal [8] []<|ag [] [0,1,2,3,4,5,6] [.own 0,.own 0,.own 2]<|aac [] 7 (λ X_=>(fS (aK (aK (⟨(au t.S (M.set ((af t.S t.i)+6) 0) t.i).vx,(au t.S (M.set ((af t.S t.i)+6) 0) t.i).vy⟩:V2) t.S.g) (⟨i64.wrap (((M.set ((af t.S t.i)+6) 0).get ((aj t.S t.i)+0))*t.S.push),i64.wrap (((M.set ((af t.S t.i)+6) 0).get ((aj t.S t.i)+1))*t.S.push)⟩:V2)) (i64.wrap (1024-t.S.drag))  _))<|aae 8 (aag [] (aab 2) λ _=>?_);refine aad<|ae 2 [] λ _=>aal [] []<|ag [] [0,4,1,5,2,6,3,7] (ow 2 17)<|aac [] 8 (λ X_=>(dj t.S t.i _ hS.toSetN)) ?_;have asI:=di hS.toSetN t.i;refine ag [] [9] []<|aad<|ae 2 [] λ _=>aal [11] []<|av [] [0,4,6,1,5,7,2,3,9,10] [.nw,.own 0,.own 2] [aI ((af t.S t.i)+2)]<|aac [] 8 (λ X_=>(cY ((ar (aK (aK (⟨(au t.S (M.set ((af t.S t.i)+6) 0) t.i).vx,(au t.S (M.set ((af t.S t.i)+6) 0) t.i).vy⟩:V2) t.S.g) (⟨i64.wrap (((M.set ((af t.S t.i)+6) 0).get ((aj t.S t.i)+0))*t.S.push),i64.wrap (((M.set ((af t.S t.i)+6) 0).get ((aj t.S t.i)+1))*t.S.push)⟩:V2)) (i64.wrap (1024-t.S.drag))).x) (-16384) 16384  _))<|aae 11 (aaf [] [] [0] (al ((af t.S t.i)+2) (aM ((ar (aK (aK (⟨(au t.S (M.set ((af t.S t.i)+6) 0) t.i).vx,(au t.S (M.set ((af t.S t.i)+6) 0) t.i).vy⟩:V2) t.S.g) (⟨i64.wrap (((M.set ((af t.S t.i)+6) 0).get ((aj t.S t.i)+0))*t.S.push),i64.wrap (((M.set ((af t.S t.i)+6) 0).get ((aj t.S t.i)+1))*t.S.push)⟩:V2)) (i64.wrap (1024-t.S.drag))).x) (-16384) 16384) Tf) ?_);rintro _ Tt TN;refine aad<|ae 1 [] λ _=>aal [11] []<|av [] [0,4,6,1,5,7,2,3,9,10] [.nw,.own 0,.own 2] [aI ((af t.S t.i)+3)]<|aac [] 8 (λ X_=>(cY ((ar (aK (aK (⟨(au t.S (M.set ((af t.S t.i)+6) 0) t.i).vx,(au t.S (M.set ((af t.S t.i)+6) 0) t.i).vy⟩:V2) t.S.g) (⟨i64.wrap (((M.set ((af t.S t.i)+6) 0).get ((aj t.S t.i)+0))*t.S.push),i64.wrap (((M.set ((af t.S t.i)+6) 0).get ((aj t.S t.i)+1))*t.S.push)⟩:V2)) (i64.wrap (1024-t.S.drag))).y) (-16384) 16384  _))<|aae 11 (aaf [] [] [0] (al ((af t.S t.i)+3) (aM ((ar (aK (aK (⟨(au t.S (M.set ((af t.S t.i)+6) 0) t.i).vx,(au t.S (M.set ((af t.S t.i)+6) 0) t.i).vy⟩:V2) t.S.g) (⟨i64.wrap (((M.set ((af t.S t.i)+6) 0).get ((aj t.S t.i)+0))*t.S.push),i64.wrap (((M.set ((af t.S t.i)+6) 0).get ((aj t.S t.i)+1))*t.S.push)⟩:V2)) (i64.wrap (1024-t.S.drag))).y) (-16384) 16384) TN) ?_);rintro _ TO Wd;refine aad<|ae 3 [] λ _=>aal [] []<|ag [] [0,5,1,6,2,7,3,8,4,9,10,11] [.own 2,.own 2]<|aad<|ae 1 [] λ _=>aam (i64.wrap (t.i+1)<(t.S.nb:Int)) 141 (λ YF=>?_) λ YF=>?_
    ·refine ae 2 [] λ _=>aal [11] []<|ag [] [0,4,1,5,2,6,3,7,8,9,10] [.own 2,.own 2]<|aae 11 (aaf [] [] [0] (al 2 (i64.wrap (t.i+1)) Wd) ?_);rintro _ T16 Yi;refine aad<|ae 1 [] λ _=>aaq [] [2] [0] (v:=.tuple #[]) (H':=(ap [(tb,.lit (Stp.l t mb) 238 (0,0))] [T16])) ?_;refine⟨T16,rfl,?_⟩;have e:(aZ t M)=((((M.set ((af t.S t.i)+6) 0).set ((af t.S t.i)+2) (aM ((ar (aK (aK (⟨(au t.S (M.set ((af t.S t.i)+6) 0) t.i).vx,(au t.S (M.set ((af t.S t.i)+6) 0) t.i).vy⟩:V2) t.S.g) (⟨i64.wrap (((M.set ((af t.S t.i)+6) 0).get ((aj t.S t.i)+0))*t.S.push),i64.wrap (((M.set ((af t.S t.i)+6) 0).get ((aj t.S t.i)+1))*t.S.push)⟩:V2)) (i64.wrap (1024-t.S.drag))).x) (-16384) 16384)).set ((af t.S t.i)+3) (aM ((ar (aK (aK (⟨(au t.S (M.set ((af t.S t.i)+6) 0) t.i).vx,(au t.S (M.set ((af t.S t.i)+6) 0) t.i).vy⟩:V2) t.S.g) (⟨i64.wrap (((M.set ((af t.S t.i)+6) 0).get ((aj t.S t.i)+0))*t.S.push),i64.wrap (((M.set ((af t.S t.i)+6) 0).get ((aj t.S t.i)+1))*t.S.push)⟩:V2)) (i64.wrap (1024-t.S.drag))).y) (-16384) 16384)).set 2 (i64.wrap (t.i+1))):=by
      first|(simp only[aZ,bQ,bW,cf,cC,if_pos h2,if_pos h5,if_pos h9,if_pos YF];try rfl;done)|rfl
     rw[e];exact Yi.weak (by omega)
    ·refine ae 6 [] λ _=>aaj [2] [0] (b8 t 4 1 tb mb (((M.set ((af t.S t.i)+6) 0).set ((af t.S t.i)+2) (aM ((ar (aK (aK (⟨(au t.S (M.set ((af t.S t.i)+6) 0) t.i).vx,(au t.S (M.set ((af t.S t.i)+6) 0) t.i).vy⟩:V2) t.S.g) (⟨i64.wrap (((M.set ((af t.S t.i)+6) 0).get ((aj t.S t.i)+0))*t.S.push),i64.wrap (((M.set ((af t.S t.i)+6) 0).get ((aj t.S t.i)+1))*t.S.push)⟩:V2)) (i64.wrap (1024-t.S.drag))).x) (-16384) 16384)).set ((af t.S t.i)+3) (aM ((ar (aK (aK (⟨(au t.S (M.set ((af t.S t.i)+6) 0) t.i).vx,(au t.S (M.set ((af t.S t.i)+6) 0) t.i).vy⟩:V2) t.S.g) (⟨i64.wrap (((M.set ((af t.S t.i)+6) 0).get ((aj t.S t.i)+0))*t.S.push),i64.wrap (((M.set ((af t.S t.i)+6) 0).get ((aj t.S t.i)+1))*t.S.push)⟩:V2)) (i64.wrap (1024-t.S.drag))).y) (-16384) 16384)) (k+2) TO _ Wd hS.up ) ?_;rintro _ T18 aaT;refine ae 7 [.own 0] λ _=>aaj [] [0] (al 4 0 aaT) ?_;rintro _ XL aaR;refine ae 1 [] λ _=>aaq [] [0] [0] (v:=.tuple #[]) (H':=(ap [(tb,.lit (Stp.l t mb) 238 (0,0))] [XL])) ?_;refine⟨XL,rfl,?_⟩;have e:(aZ t M)=((aS t 4 1 (((M.set ((af t.S t.i)+6) 0).set ((af t.S t.i)+2) (aM ((ar (aK (aK (⟨(au t.S (M.set ((af t.S t.i)+6) 0) t.i).vx,(au t.S (M.set ((af t.S t.i)+6) 0) t.i).vy⟩:V2) t.S.g) (⟨i64.wrap (((M.set ((af t.S t.i)+6) 0).get ((aj t.S t.i)+0))*t.S.push),i64.wrap (((M.set ((af t.S t.i)+6) 0).get ((aj t.S t.i)+1))*t.S.push)⟩:V2)) (i64.wrap (1024-t.S.drag))).x) (-16384) 16384)).set ((af t.S t.i)+3) (aM ((ar (aK (aK (⟨(au t.S (M.set ((af t.S t.i)+6) 0) t.i).vx,(au t.S (M.set ((af t.S t.i)+6) 0) t.i).vy⟩:V2) t.S.g) (⟨i64.wrap (((M.set ((af t.S t.i)+6) 0).get ((aj t.S t.i)+0))*t.S.push),i64.wrap (((M.set ((af t.S t.i)+6) 0).get ((aj t.S t.i)+1))*t.S.push)⟩:V2)) (i64.wrap (1024-t.S.drag))).y) (-16384) 16384))).set 4 0):=by
      first|(simp only[aZ,bQ,bW,cf,cC,if_pos h2,if_pos h5,if_pos h9,if_neg YF];try rfl;done)|rfl
     rw[e];exact aaR.weak (by omega)
   ·refine ae 4 [] λ _=>aal [8] []<|ag [] [0,1,2,3,4,5,6] [.own 0,.own 0,.own 2]<|aac [] 7 (λ X_=>(fS (aK (⟨(au t.S (M.set ((af t.S t.i)+6) 0) t.i).vx,(au t.S (M.set ((af t.S t.i)+6) 0) t.i).vy⟩:V2) t.S.g) (i64.wrap (1024-t.S.drag))  _))<|aae 8 (aag [] (aab 2) λ _=>?_);refine aad<|ae 2 [] λ _=>aal [] []<|ag [] [0,4,1,5,2,6,3,7] (ow 2 17)<|aac [] 8 (λ X_=>(dj t.S t.i _ hS.toSetN)) ?_;have asE:=di hS.toSetN t.i;refine ag [] [9] []<|aad<|ae 2 [] λ _=>aal [11] []<|av [] [0,4,6,1,5,7,2,3,9,10] [.nw,.own 0,.own 2] [aI ((af t.S t.i)+2)]<|aac [] 8 (λ X_=>(cY ((ar (aK (⟨(au t.S (M.set ((af t.S t.i)+6) 0) t.i).vx,(au t.S (M.set ((af t.S t.i)+6) 0) t.i).vy⟩:V2) t.S.g) (i64.wrap (1024-t.S.drag))).x) (-16384) 16384  _))<|aae 11 (aaf [] [] [0] (al ((af t.S t.i)+2) (aM ((ar (aK (⟨(au t.S (M.set ((af t.S t.i)+6) 0) t.i).vx,(au t.S (M.set ((af t.S t.i)+6) 0) t.i).vy⟩:V2) t.S.g) (i64.wrap (1024-t.S.drag))).x) (-16384) 16384) Tf) ?_);rintro _ Zg afe;refine aad<|ae 1 [] λ _=>aal [11] []<|av [] [0,4,6,1,5,7,2,3,9,10] [.nw,.own 0,.own 2] [aI ((af t.S t.i)+3)]<|aac [] 8 (λ X_=>(cY ((ar (aK (⟨(au t.S (M.set ((af t.S t.i)+6) 0) t.i).vx,(au t.S (M.set ((af t.S t.i)+6) 0) t.i).vy⟩:V2) t.S.g) (i64.wrap (1024-t.S.drag))).y) (-16384) 16384  _))<|aae 11 (aaf [] [] [0] (al ((af t.S t.i)+3) (aM ((ar (aK (⟨(au t.S (M.set ((af t.S t.i)+6) 0) t.i).vx,(au t.S (M.set ((af t.S t.i)+6) 0) t.i).vy⟩:V2) t.S.g) (i64.wrap (1024-t.S.drag))).y) (-16384) 16384) afe) ?_);rintro _ T25 Xl;refine aad<|ae 3 [] λ _=>aal [] []<|ag [] [0,5,1,6,2,7,3,8,4,9,10,11] [.own 2,.own 2]<|aad<|ae 1 [] λ _=>aam (i64.wrap (t.i+1)<(t.S.nb:Int)) 141 (λ h27=>?_) λ h27=>?_
    ·refine ae 2 [] λ _=>aal [11] []<|ag [] [0,4,1,5,2,6,3,7,8,9,10] [.own 2,.own 2]<|aae 11 (aaf [] [] [0] (al 2 (i64.wrap (t.i+1)) Xl) ?_);rintro _ T28 afd;refine aad<|ae 1 [] λ _=>aaq [] [2] [0] (v:=.tuple #[]) (H':=(ap [(tb,.lit (Stp.l t mb) 238 (0,0))] [T28])) ?_;refine⟨T28,rfl,?_⟩;have e:(aZ t M)=((((M.set ((af t.S t.i)+6) 0).set ((af t.S t.i)+2) (aM ((ar (aK (⟨(au t.S (M.set ((af t.S t.i)+6) 0) t.i).vx,(au t.S (M.set ((af t.S t.i)+6) 0) t.i).vy⟩:V2) t.S.g) (i64.wrap (1024-t.S.drag))).x) (-16384) 16384)).set ((af t.S t.i)+3) (aM ((ar (aK (⟨(au t.S (M.set ((af t.S t.i)+6) 0) t.i).vx,(au t.S (M.set ((af t.S t.i)+6) 0) t.i).vy⟩:V2) t.S.g) (i64.wrap (1024-t.S.drag))).y) (-16384) 16384)).set 2 (i64.wrap (t.i+1))):=by
      first|(simp only[aZ,bQ,bW,cf,cC,if_pos h2,if_pos h5,if_neg h9,if_pos h27];try rfl;done)|rfl
     rw[e];exact afd.weak (by omega)
    ·refine ae 6 [] λ _=>aaj [2] [0] (b8 t 4 1 tb mb (((M.set ((af t.S t.i)+6) 0).set ((af t.S t.i)+2) (aM ((ar (aK (⟨(au t.S (M.set ((af t.S t.i)+6) 0) t.i).vx,(au t.S (M.set ((af t.S t.i)+6) 0) t.i).vy⟩:V2) t.S.g) (i64.wrap (1024-t.S.drag))).x) (-16384) 16384)).set ((af t.S t.i)+3) (aM ((ar (aK (⟨(au t.S (M.set ((af t.S t.i)+6) 0) t.i).vx,(au t.S (M.set ((af t.S t.i)+6) 0) t.i).vy⟩:V2) t.S.g) (i64.wrap (1024-t.S.drag))).y) (-16384) 16384)) (k+2) T25 _ Xl hS.up ) ?_;rintro _ T30 amH;refine ae 7 [.own 0] λ _=>aaj [] [0] (al 4 0 amH) ?_;rintro _ Wn YX;refine ae 1 [] λ _=>aaq [] [0] [0] (v:=.tuple #[]) (H':=(ap [(tb,.lit (Stp.l t mb) 238 (0,0))] [Wn])) ?_;refine⟨Wn,rfl,?_⟩;have e:(aZ t M)=((aS t 4 1 (((M.set ((af t.S t.i)+6) 0).set ((af t.S t.i)+2) (aM ((ar (aK (⟨(au t.S (M.set ((af t.S t.i)+6) 0) t.i).vx,(au t.S (M.set ((af t.S t.i)+6) 0) t.i).vy⟩:V2) t.S.g) (i64.wrap (1024-t.S.drag))).x) (-16384) 16384)).set ((af t.S t.i)+3) (aM ((ar (aK (⟨(au t.S (M.set ((af t.S t.i)+6) 0) t.i).vx,(au t.S (M.set ((af t.S t.i)+6) 0) t.i).vy⟩:V2) t.S.g) (i64.wrap (1024-t.S.drag))).y) (-16384) 16384))).set 4 0):=by
      first|(simp only[aZ,bQ,bW,cf,cC,if_pos h2,if_pos h5,if_neg h9,if_neg h27];try rfl;done)|rfl
     rw[e];exact YX.weak (by omega)
  ·refine ae 5 [] λ _=>aal [] []<|ag [] [0,5,1,6,2,7,3,8,4,9,10,11] (aab 2)<|aad<|ae 1 [] λ _=>aam (i64.wrap (t.i+1)<(t.S.nb:Int)) 141 (λ h34=>?_) λ h34=>?_
   ·refine ae 2 [] λ _=>aal [11] []<|ag [] [0,4,1,5,2,6,3,7,8,9,10] (aab 2)<|aae 11 (aaf [] [] [0] (al 2 (i64.wrap (t.i+1)) Tf) ?_);rintro _ T35 aaO;refine aad<|ae 1 [] λ _=>aaq [] [0] [0] (v:=.tuple #[]) (H':=(ap [(tb,.lit (Stp.l t mb) 238 (0,0))] [T35])) ?_;refine⟨T35,rfl,?_⟩;have e:(aZ t M)=((M.set ((af t.S t.i)+6) 0).set 2 (i64.wrap (t.i+1))):=by
     first|(simp only[aZ,bQ,bW,cf,cC,if_pos h2,if_neg h5,if_pos h34];try rfl;done)|rfl
    rw[e];exact aaO.weak (by omega)
   ·refine ae 6 [] λ _=>aaj [0] [0] (b8 t 4 1 tb mb (M.set ((af t.S t.i)+6) 0) (k+4) T3 _ Tf hS.up ) ?_;rintro _ T37 aaN;refine ae 7 [.own 0] λ _=>aaj [] [0] (al 4 0 aaN) ?_;rintro _ T39 WK;refine ae 1 [] λ _=>aaq [] [0] [0] (v:=.tuple #[]) (H':=(ap [(tb,.lit (Stp.l t mb) 238 (0,0))] [T39])) ?_;refine⟨T39,rfl,?_⟩;have e:(aZ t M)=((aS t 4 1 (M.set ((af t.S t.i)+6) 0)).set 4 0):=by
     first|(simp only[aZ,bQ,bW,cf,cC,if_pos h2,if_neg h5,if_neg h34];try rfl;done)|rfl
    rw[e];exact WK.weak (by omega)
 ·refine ae 11 [.own 0] λ _=>aai (kI t t.i tb mb _ (az 0) hS.up)<|ae 2 [] λ _=>aam (movP t.S t.i) 32 (λ UX=>?_) λ UX=>?_
  ·have:=movP.has UX;refine ae 8 [.own 0] λ _=>aai (gC t t.i tb mb M _ T _ (az 0) hS.up hM (ak 0) (movP.has UX))<|ae 5 (ow 0 5) λ n42=>aal [9] []<|ag [] [0,2,1,3,4,5,6] [.own 0,.own 0,.own 1,.own 1]<|aac [] 7 (λ X_=>(fh (⟨(au t.S M t.i).vx,(au t.S M t.i).vy⟩:V2) t.S.g  _))<|aae 8 (aag [] [] λ n43=>?_);refine aae 9 (aag [] (aab 2) λ _=>?_);refine aad<|ae 3 [] λ _=>aal [] []<|ag [] [0,4,1,5,2,6,3,7] (ow 2 17)<|aac [] 8 (λ X_=>(i9 t.S t.i _ hS.toSetN)) ?_;have asC:=i8 hS.toSetN t.i;refine ag [] [9] []<|aad<|ae 7 [] λ _=>aam (aj t.S t.i >= 0) 57 (λ h45=>?_) λ h45=>?_
   ·refine ae 2 [] λ _=>aal [] []<|av [] [0,4,7,11,1,5,8,12,2,9,3,10] [.nw,.nw,.own 2,.own 2] [aI ((aj t.S t.i)+1),aI ((aj t.S t.i)+0)]<|aac [] 6 (λ X_=>(aD ((aj t.S t.i)+0) hM (aE 0)))<|aac [] 13 (λ X_=>(aD ((aj t.S t.i)+1) hM (aE 0)))<|ag [] [14,15] []<|aad<|ae 1 [] λ _=>aal [17] []<|ag [] [0,1,2,8,9,3,10,4,11,5,12,6,13,7,14,15] [.own 0,.own 0,.own 2,.own 2]<|aac [] 16 (λ X_=>(fh (aK (⟨(au t.S M t.i).vx,(au t.S M t.i).vy⟩:V2) t.S.g) (⟨i64.wrap ((M.get ((aj t.S t.i)+0))*t.S.push),i64.wrap ((M.get ((aj t.S t.i)+1))*t.S.push)⟩:V2)  _))<|aae 17 (aag [] (aab 2) λ _=>?_);refine aad<|ae 2 [] λ _=>aal [8] []<|ag [] [0,1,2,3,4,5,6] [.own 0,.own 0,.own 2]<|aac [] 7 (λ X_=>(fS (aK (aK (⟨(au t.S M t.i).vx,(au t.S M t.i).vy⟩:V2) t.S.g) (⟨i64.wrap ((M.get ((aj t.S t.i)+0))*t.S.push),i64.wrap ((M.get ((aj t.S t.i)+1))*t.S.push)⟩:V2)) (i64.wrap (1024-t.S.drag))  _))<|aae 8 (aag [] (aab 2) λ _=>?_);refine aad<|ae 2 [] λ _=>aal [] []<|ag [] [0,4,1,5,2,6,3,7] (ow 2 17)<|aac [] 8 (λ X_=>(dj t.S t.i _ hS.toSetN)) ?_;have asB:=di hS.toSetN t.i;refine ag [] [9] []<|aad<|ae 2 [] λ _=>aal [11] []<|av [] [0,4,6,1,5,7,2,3,9,10] [.nw,.own 0,.own 2] [aI ((af t.S t.i)+2)]<|aac [] 8 (λ X_=>(cY ((ar (aK (aK (⟨(au t.S M t.i).vx,(au t.S M t.i).vy⟩:V2) t.S.g) (⟨i64.wrap ((M.get ((aj t.S t.i)+0))*t.S.push),i64.wrap ((M.get ((aj t.S t.i)+1))*t.S.push)⟩:V2)) (i64.wrap (1024-t.S.drag))).x) (-16384) 16384  _))<|aae 11 (aaf [] [] [0] (al ((af t.S t.i)+2) (aM ((ar (aK (aK (⟨(au t.S M t.i).vx,(au t.S M t.i).vy⟩:V2) t.S.g) (⟨i64.wrap ((M.get ((aj t.S t.i)+0))*t.S.push),i64.wrap ((M.get ((aj t.S t.i)+1))*t.S.push)⟩:V2)) (i64.wrap (1024-t.S.drag))).x) (-16384) 16384) hM) ?_);rintro _ T47 afc;refine aad<|ae 1 [] λ _=>aal [11] []<|av [] [0,4,6,1,5,7,2,3,9,10] [.nw,.own 0,.own 2] [aI ((af t.S t.i)+3)]<|aac [] 8 (λ X_=>(cY ((ar (aK (aK (⟨(au t.S M t.i).vx,(au t.S M t.i).vy⟩:V2) t.S.g) (⟨i64.wrap ((M.get ((aj t.S t.i)+0))*t.S.push),i64.wrap ((M.get ((aj t.S t.i)+1))*t.S.push)⟩:V2)) (i64.wrap (1024-t.S.drag))).y) (-16384) 16384  _))<|aae 11 (aaf [] [] [0] (al ((af t.S t.i)+3) (aM ((ar (aK (aK (⟨(au t.S M t.i).vx,(au t.S M t.i).vy⟩:V2) t.S.g) (⟨i64.wrap ((M.get ((aj t.S t.i)+0))*t.S.push),i64.wrap ((M.get ((aj t.S t.i)+1))*t.S.push)⟩:V2)) (i64.wrap (1024-t.S.drag))).y) (-16384) 16384) afc) ?_);rintro _ T49 WJ;refine aad<|ae 3 [] λ _=>aal [] []<|ag [] [0,5,1,6,2,7,3,8,4,9,10,11] [.own 2,.own 2]<|aad<|ae 1 [] λ _=>aam (i64.wrap (t.i+1)<(t.S.nb:Int)) 141 (λ Xv=>?_) λ Xv=>?_
    ·refine ae 2 [] λ _=>aal [11] []<|ag [] [0,4,1,5,2,6,3,7,8,9,10] [.own 2,.own 2]<|aae 11 (aaf [] [] [0] (al 2 (i64.wrap (t.i+1)) WJ) ?_);rintro _ T52 aaK;refine aad<|ae 1 [] λ _=>aaq [] [2] [0] (v:=.tuple #[]) (H':=(ap [(tb,.lit (Stp.l t mb) 238 (0,0))] [T52])) ?_;refine⟨T52,rfl,?_⟩;have e:(aZ t M)=(((M.set ((af t.S t.i)+2) (aM ((ar (aK (aK (⟨(au t.S M t.i).vx,(au t.S M t.i).vy⟩:V2) t.S.g) (⟨i64.wrap ((M.get ((aj t.S t.i)+0))*t.S.push),i64.wrap ((M.get ((aj t.S t.i)+1))*t.S.push)⟩:V2)) (i64.wrap (1024-t.S.drag))).x) (-16384) 16384)).set ((af t.S t.i)+3) (aM ((ar (aK (aK (⟨(au t.S M t.i).vx,(au t.S M t.i).vy⟩:V2) t.S.g) (⟨i64.wrap ((M.get ((aj t.S t.i)+0))*t.S.push),i64.wrap ((M.get ((aj t.S t.i)+1))*t.S.push)⟩:V2)) (i64.wrap (1024-t.S.drag))).y) (-16384) 16384)).set 2 (i64.wrap (t.i+1))):=by
      first|(simp only[aZ,bQ,bW,cf,cC,if_neg h2,if_pos UX,if_pos h45,if_pos Xv];try rfl;done)|rfl
     rw[e];exact aaK.weak (by omega)
    ·refine ae 6 [] λ _=>aaj [2] [0] (b8 t 4 1 tb mb ((M.set ((af t.S t.i)+2) (aM ((ar (aK (aK (⟨(au t.S M t.i).vx,(au t.S M t.i).vy⟩:V2) t.S.g) (⟨i64.wrap ((M.get ((aj t.S t.i)+0))*t.S.push),i64.wrap ((M.get ((aj t.S t.i)+1))*t.S.push)⟩:V2)) (i64.wrap (1024-t.S.drag))).x) (-16384) 16384)).set ((af t.S t.i)+3) (aM ((ar (aK (aK (⟨(au t.S M t.i).vx,(au t.S M t.i).vy⟩:V2) t.S.g) (⟨i64.wrap ((M.get ((aj t.S t.i)+0))*t.S.push),i64.wrap ((M.get ((aj t.S t.i)+1))*t.S.push)⟩:V2)) (i64.wrap (1024-t.S.drag))).y) (-16384) 16384)) (k+3) T49 _ WJ hS.up ) ?_;rintro _ T54 aaJ;refine ae 7 [.own 0] λ _=>aaj [] [0] (al 4 0 aaJ) ?_;rintro _ T56 acA;refine ae 1 [] λ _=>aaq [] [0] [0] (v:=.tuple #[]) (H':=(ap [(tb,.lit (Stp.l t mb) 238 (0,0))] [T56])) ?_;refine⟨T56,rfl,?_⟩;have e:(aZ t M)=((aS t 4 1 ((M.set ((af t.S t.i)+2) (aM ((ar (aK (aK (⟨(au t.S M t.i).vx,(au t.S M t.i).vy⟩:V2) t.S.g) (⟨i64.wrap ((M.get ((aj t.S t.i)+0))*t.S.push),i64.wrap ((M.get ((aj t.S t.i)+1))*t.S.push)⟩:V2)) (i64.wrap (1024-t.S.drag))).x) (-16384) 16384)).set ((af t.S t.i)+3) (aM ((ar (aK (aK (⟨(au t.S M t.i).vx,(au t.S M t.i).vy⟩:V2) t.S.g) (⟨i64.wrap ((M.get ((aj t.S t.i)+0))*t.S.push),i64.wrap ((M.get ((aj t.S t.i)+1))*t.S.push)⟩:V2)) (i64.wrap (1024-t.S.drag))).y) (-16384) 16384))).set 4 0):=by
      first|(simp only[aZ,bQ,bW,cf,cC,if_neg h2,if_pos UX,if_pos h45,if_neg Xv];try rfl;done)|rfl
     rw[e];exact acA.weak (by omega)
   ·refine ae 4 [] λ _=>aal [8] []<|ag [] [0,1,2,3,4,5,6] [.own 0,.own 0,.own 2]<|aac [] 7 (λ X_=>(fS (aK (⟨(au t.S M t.i).vx,(au t.S M t.i).vy⟩:V2) t.S.g) (i64.wrap (1024-t.S.drag))  _))<|aae 8 (aag [] (aab 2) λ _=>?_);refine aad<|ae 2 [] λ _=>aal [] []<|ag [] [0,4,1,5,2,6,3,7] (ow 2 17)<|aac [] 8 (λ X_=>(dj t.S t.i _ hS.toSetN)) ?_;have asA:=di hS.toSetN t.i;refine ag [] [9] []<|aad<|ae 2 [] λ _=>aal [11] []<|av [] [0,4,6,1,5,7,2,3,9,10] [.nw,.own 0,.own 2] [aI ((af t.S t.i)+2)]<|aac [] 8 (λ X_=>(cY ((ar (aK (⟨(au t.S M t.i).vx,(au t.S M t.i).vy⟩:V2) t.S.g) (i64.wrap (1024-t.S.drag))).x) (-16384) 16384  _))<|aae 11 (aaf [] [] [0] (al ((af t.S t.i)+2) (aM ((ar (aK (⟨(au t.S M t.i).vx,(au t.S M t.i).vy⟩:V2) t.S.g) (i64.wrap (1024-t.S.drag))).x) (-16384) 16384) hM) ?_);rintro _ T59 afb;refine aad<|ae 1 [] λ _=>aal [11] []<|av [] [0,4,6,1,5,7,2,3,9,10] [.nw,.own 0,.own 2] [aI ((af t.S t.i)+3)]<|aac [] 8 (λ X_=>(cY ((ar (aK (⟨(au t.S M t.i).vx,(au t.S M t.i).vy⟩:V2) t.S.g) (i64.wrap (1024-t.S.drag))).y) (-16384) 16384  _))<|aae 11 (aaf [] [] [0] (al ((af t.S t.i)+3) (aM ((ar (aK (⟨(au t.S M t.i).vx,(au t.S M t.i).vy⟩:V2) t.S.g) (i64.wrap (1024-t.S.drag))).y) (-16384) 16384) afb) ?_);rintro _ T61 aim;refine aad<|ae 3 [] λ _=>aal [] []<|ag [] [0,5,1,6,2,7,3,8,4,9,10,11] [.own 2,.own 2]<|aad<|ae 1 [] λ _=>aam (i64.wrap (t.i+1)<(t.S.nb:Int)) 141 (λ h63=>?_) λ h63=>?_
    ·refine ae 2 [] λ _=>aal [11] []<|ag [] [0,4,1,5,2,6,3,7,8,9,10] [.own 2,.own 2]<|aae 11 (aaf [] [] [0] (al 2 (i64.wrap (t.i+1)) aim) ?_);rintro _ T64 amG;refine aad<|ae 1 [] λ _=>aaq [] [2] [0] (v:=.tuple #[]) (H':=(ap [(tb,.lit (Stp.l t mb) 238 (0,0))] [T64])) ?_;refine⟨T64,rfl,?_⟩;have e:(aZ t M)=(((M.set ((af t.S t.i)+2) (aM ((ar (aK (⟨(au t.S M t.i).vx,(au t.S M t.i).vy⟩:V2) t.S.g) (i64.wrap (1024-t.S.drag))).x) (-16384) 16384)).set ((af t.S t.i)+3) (aM ((ar (aK (⟨(au t.S M t.i).vx,(au t.S M t.i).vy⟩:V2) t.S.g) (i64.wrap (1024-t.S.drag))).y) (-16384) 16384)).set 2 (i64.wrap (t.i+1))):=by
      first|(simp only[aZ,bQ,bW,cf,cC,if_neg h2,if_pos UX,if_neg h45,if_pos h63];try rfl;done)|rfl
     rw[e];exact amG.weak (by omega)
    ·refine ae 6 [] λ _=>aaj [2] [0] (b8 t 4 1 tb mb ((M.set ((af t.S t.i)+2) (aM ((ar (aK (⟨(au t.S M t.i).vx,(au t.S M t.i).vy⟩:V2) t.S.g) (i64.wrap (1024-t.S.drag))).x) (-16384) 16384)).set ((af t.S t.i)+3) (aM ((ar (aK (⟨(au t.S M t.i).vx,(au t.S M t.i).vy⟩:V2) t.S.g) (i64.wrap (1024-t.S.drag))).y) (-16384) 16384)) (k+3) T61 _ aim hS.up ) ?_;rintro _ T66 amF;refine ae 7 [.own 0] λ _=>aaj [] [0] (al 4 0 amF) ?_;rintro _ T68 amE;refine ae 1 [] λ _=>aaq [] [0] [0] (v:=.tuple #[]) (H':=(ap [(tb,.lit (Stp.l t mb) 238 (0,0))] [T68])) ?_;refine⟨T68,rfl,?_⟩;have e:(aZ t M)=((aS t 4 1 ((M.set ((af t.S t.i)+2) (aM ((ar (aK (⟨(au t.S M t.i).vx,(au t.S M t.i).vy⟩:V2) t.S.g) (i64.wrap (1024-t.S.drag))).x) (-16384) 16384)).set ((af t.S t.i)+3) (aM ((ar (aK (⟨(au t.S M t.i).vx,(au t.S M t.i).vy⟩:V2) t.S.g) (i64.wrap (1024-t.S.drag))).y) (-16384) 16384))).set 4 0):=by
      first|(simp only[aZ,bQ,bW,cf,cC,if_neg h2,if_pos UX,if_neg h45,if_neg h63];try rfl;done)|rfl
     rw[e];exact amE.weak (by omega)
  ·refine ae 5 [] λ _=>aal [] []<|ag [] [0,5,1,6,2,7,3,8,4,9,10,11] (aab 2)<|aad<|ae 1 [] λ _=>aam (i64.wrap (t.i+1)<(t.S.nb:Int)) 141 (λ h70=>?_) λ h70=>?_
   ·refine ae 2 [] λ _=>aal [11] []<|ag [] [0,4,1,5,2,6,3,7,8,9,10] (aab 2)<|aae 11 (aaf [] [] [0] (al 2 (i64.wrap (t.i+1)) hM) ?_);rintro _ T71 amD;refine aad<|ae 1 [] λ _=>aaq [] [0] [0] (v:=.tuple #[]) (H':=(ap [(tb,.lit (Stp.l t mb) 238 (0,0))] [T71])) ?_;refine⟨T71,rfl,?_⟩;have e:(aZ t M)=(M.set 2 (i64.wrap (t.i+1))):=by
     first|(simp only[aZ,bQ,bW,cf,cC,if_neg h2,if_neg UX,if_pos h70];try rfl;done)|rfl
    rw[e];exact amD.weak (by omega)
   ·refine ae 6 [] λ _=>aaj [0] [0] (b8 t 4 1 tb mb M (k+5) T _ hM hS.up ) ?_;rintro _ T73 amC;refine ae 7 [.own 0] λ _=>aaj [] [0] (al 4 0 amC) ?_;rintro _ T75 amB;refine ae 1 [] λ _=>aaq [] [0] [0] (v:=.tuple #[]) (H':=(ap [(tb,.lit (Stp.l t mb) 238 (0,0))] [T75])) ?_;refine⟨T75,rfl,?_⟩;have e:(aZ t M)=((aS t 4 1 M).set 4 0):=by
     first|(simp only[aZ,bQ,bW,cf,cC,if_neg h2,if_neg UX,if_neg h70];try rfl;done)|rfl
    rw[e];exact amB.weak (by omega)
theorem Cq(t:Stp)  (tb mb:Nat) (M:MemS) (k:Nat) (T F:HL) (hM:MemH mb M (k+4) T) (hS:SetIn F t.S) (hi:movP t.S t.i):Sp Tryz.prog 172 #[vP tb 0] (ap [(tb,.lit (Stp.l t mb) 238 (0,0))] [T]) F (λ u H'=>∃x,H'=ap [(tb,.lit (Stp.l t mb) 238 (0,0))] [x] /\ (MemH mb (du t M) k x)):=by
 have hp:=hS.pl;have hn:=hS.nb;have hr:=hS.room;refine aav Tryz.func172 rfl (mc hS.blk mn) (A:=[(tb,.lit (Stp.l t mb) 238 (0,0))]) (Ts:=[T]) rfl λ w0=>?_;refine ae 7 [.own 0] λ _=>aai (gC t t.i tb mb M _ T _ (az 0) hS.up hM (ak 0) (movP.has hi))<|ae 10 (ow 0 5++[.own 1]) λ n1=>aai (aD 5 hM (ak 0))<|ae 6 [] λ _=>aal [8] []<|ag [] [0,2,4,1,3] (aab 4)<|aac [] 5 (λ X_=>(mS (⟨(au t.S M t.i).vx,(au t.S M t.i).vy⟩:V2) (if i64.wrap ((M.get 5)+128)<1024 then i64.wrap ((M.get 5)+128) else 1024) 1024  _))<|aac [] 6 (λ X_=>(fh (⟨(au t.S M t.i).px,(au t.S M t.i).py⟩:V2) (fK (⟨(au t.S M t.i).vx,(au t.S M t.i).vy⟩:V2) (if i64.wrap ((M.get 5)+128)<1024 then i64.wrap ((M.get 5)+128) else 1024) 1024)  _))<|aae 7 (aag [] [] λ n2=>?_);refine aae 8 (aag [] (aab 2) λ _=>?_);refine aad<|ae 2 [] λ _=>aal [16] []<|ag [] [0,4,9,1,5,10,2,6,11,3,7,12,13] (ow 2 21)<|aac [] 8 (λ X_=>(dj t.S t.i _ hS.toSetN)) ?_;have hb3:=di hS.toSetN t.i;refine aae 14 (aag [] [] λ n4=>?_);refine ag [] [15] []<|aae 16 (aag [] (aab 4) λ _=>?_);refine aad<|ah 14 [.nw,.nw,.own 1,.own 0,.own 0] [aI ((af t.S t.i)+2),aI ((af t.S t.i)+0)] λ _=>aaj [3] [0] (wg t ((af t.S t.i)+0) ((af t.S t.i)+2) ((aK (⟨(au t.S M t.i).px,(au t.S M t.i).py⟩:V2) (fK (⟨(au t.S M t.i).vx,(au t.S M t.i).vy⟩:V2) (if i64.wrap ((M.get 5)+128)<1024 then i64.wrap ((M.get 5)+128) else 1024) 1024)).x) t.S.box.x0 t.S.box.x1 tb mb M (k+2) T _ hM hS.up ) ?_;rintro _ T5 UT;refine ah 14 [.nw,.nw,.own 2,.own 1,.own 1] [aI ((af t.S t.i)+3),aI ((af t.S t.i)+1)] λ _=>aaj [0] [0] (wg t ((af t.S t.i)+1) ((af t.S t.i)+3) ((aK (⟨(au t.S M t.i).px,(au t.S M t.i).py⟩:V2) (fK (⟨(au t.S M t.i).vx,(au t.S M t.i).vy⟩:V2) (if i64.wrap ((M.get 5)+128)<1024 then i64.wrap ((M.get 5)+128) else 1024) 1024)).y) t.S.box.y0 t.S.box.y1 tb mb (eE t ((af t.S t.i)+0) ((af t.S t.i)+2) ((aK (⟨(au t.S M t.i).px,(au t.S M t.i).py⟩:V2) (fK (⟨(au t.S M t.i).vx,(au t.S M t.i).vy⟩:V2) (if i64.wrap ((M.get 5)+128)<1024 then i64.wrap ((M.get 5)+128) else 1024) 1024)).x) t.S.box.x0 t.S.box.x1 M) k T5 _ UT hS.up ) ?_;rintro _ T7 WR;refine ae 1 [] λ _=>aaq [] [0] [0] (v:=.tuple #[]) (H':=(ap [(tb,.lit (Stp.l t mb) 238 (0,0))] [T7])) ?_;refine⟨T7,rfl,?_⟩;have e:(du t M)=(eE t ((af t.S t.i)+1) ((af t.S t.i)+3) ((aK (⟨(au t.S M t.i).px,(au t.S M t.i).py⟩:V2) (fK (⟨(au t.S M t.i).vx,(au t.S M t.i).vy⟩:V2) (if i64.wrap ((M.get 5)+128)<1024 then i64.wrap ((M.get 5)+128) else 1024) 1024)).y) t.S.box.y0 t.S.box.y1 (eE t ((af t.S t.i)+0) ((af t.S t.i)+2) ((aK (⟨(au t.S M t.i).px,(au t.S M t.i).py⟩:V2) (fK (⟨(au t.S M t.i).vx,(au t.S M t.i).vy⟩:V2) (if i64.wrap ((M.get 5)+128)<1024 then i64.wrap ((M.get 5)+128) else 1024) 1024)).x) t.S.box.x0 t.S.box.x1 M)):=by
  first|(simp only[du,iU,nO,if_pos hi];try rfl;done)|rfl
 rw[e];exact WR.weak (by omega)
theorem ShIn.up{F X:HL}{s:Shp}(h:ShIn F s):ShIn (X++F) s:=h.mono λ x hx=>List.mem_append_right _ hx
def isZ(a:V2):Prop:=((decide (a.x=0) && (decide (a.y=0) && true)))=true
instance (a:V2):Decidable (isZ a):=inferInstanceAs (Decidable (_=true))
def jC(a:V2):V2:=if isZ (mz a) then ⟨1024,0⟩ else mz a
def ja(pos ax:V2)(l:List V2):Nat -> Int × Int
 | 0=>(0,0)
 | k+1=>if (k:Int)=0 then (if dJ (aK pos (l.getD k ⟨0,0⟩)) ax<dJ (aK pos (l.getD k ⟨0,0⟩)) ax then dJ (aK pos (l.getD k ⟨0,0⟩)) ax else dJ (aK pos (l.getD k ⟨0,0⟩)) ax,if dJ (aK pos (l.getD k ⟨0,0⟩)) ax>dJ (aK pos (l.getD k ⟨0,0⟩)) ax then dJ (aK pos (l.getD k ⟨0,0⟩)) ax else dJ (aK pos (l.getD k ⟨0,0⟩)) ax)
  else (if dJ (aK pos (l.getD k ⟨0,0⟩)) ax<(ja pos ax l k).1 then dJ (aK pos (l.getD k ⟨0,0⟩)) ax else (ja pos ax l k).1,if dJ (aK pos (l.getD k ⟨0,0⟩)) ax>(ja pos ax l k).2 then dJ (aK pos (l.getD k ⟨0,0⟩)) ax else (ja pos ax l k).2)
def j0(s:Shp)(pos ax:V2):Int × Int:=if kV s then (bz (dJ pos ax-s.r),bz (dJ pos ax+s.r)) else ja pos ax s.poly s.poly.length
def o7(a:Shp)(pa:V2)(b:Shp)(pb ax:V2):Int:=bz ((if (j0 b pb ax).2<(j0 a pa ax).2 then (j0 b pb ax).2 else (j0 a pa ax).2)-(if (j0 b pb ax).1>(j0 a pa ax).1 then (j0 b pb ax).1 else (j0 a pa ax).1))
def P6(off v:V2):Int:=bz (bz ((aK off v).x*(aK off v).x)+bz ((aK off v).y*(aK off v).y))
def fT(off:V2)(l:List V2):Nat -> V2 × Int
 | 0=>(l.getD 0 ⟨0,0⟩,P6 off (l.getD 0 ⟨0,0⟩))
 | k+1=>if P6 off (l.getD (1+k) ⟨0,0⟩)<(fT off l k).2 then (l.getD (1+k) ⟨0,0⟩,P6 off (l.getD (1+k) ⟨0,0⟩)) else fT off l k
def kX(c:V2)(s:Shp)(pos:V2):V2:=aK (dY pos c) (fT (dY pos c) s.poly (s.poly.length-1)).1
theorem j4(a:V2)  (F:HL):Sp Tryz.prog 268 #[.agg #[vI a.x,vI a.y]] [] F (λ u H'=>u=.agg #[vI ((jC a).x),vI ((jC a).y)] /\ H'=[]):=by
 refine aav Tryz.func268 rfl mn (A:=[]) (Ts:=[]) rfl λ w0=>?_;refine ae 10 [.own 1,.own 1] λ n1=>aai (FK a  _)<|ae 11 [.own 0,.own 0,.own 0,.own 0,.sq] λ n2=>tp ((decide ((mz a).x=0) && (decide ((mz a).y=0) && true))) 8 (λ h3=>?_) λ h3=>?_
 ·refine ae 9 [.own 1,.own 1] λ _=>aaq [.own 1,.own 1] [] [] (v:=.agg #[vI 1024,vI 0]) (H':=[]) ?_;refine⟨?_,rfl⟩
  first|rw[show jC a=⟨1024,0⟩ from if_pos (by assumption)]|rw[show jC a=mz a from if_neg (by assumption)]
 ·refine ae 7 [.own 0,.own 0,.own 1,.own 1] λ _=>aaq [.own 1,.own 1] [] [] (v:=.agg #[vI ((mz a).x),vI ((mz a).y)]) (H':=[]) ?_;refine⟨?_,rfl⟩
  first|rw[show jC a=⟨1024,0⟩ from if_pos (by assumption)]|rw[show jC a=mz a from if_neg (by assumption)]
theorem zu(r:Int)(A:Option Addr)(cap:Nat)(pos ax:V2)(F:HL):Sp Tryz.prog 271 #[.agg #[vI r,.slice A 0 cap],.agg #[vI pos.x,vI pos.y],.agg #[vI ax.x,vI ax.y]] [] F (λ u H'=>u=.tuple #[vI (j0 ⟨r,[],A,cap⟩ pos ax).1,vI (j0 ⟨r,[],A,cap⟩ pos ax).2] /\ H'=[]):=by
 refine aav Tryz.func271 rfl mn (A:=[]) (Ts:=[]) rfl λ w0=>?_;refine ae 13 [.own 2,.own 2] λ n1=>aai (qM r A 0 cap _)<|ae 7 [.own 1,.own 1,.own 0,.own 0] λ _=>aai (pW pos ax  _)<|ae 4 [] λ _=>aal [] []<|ag [] [0,1,4,5,2,6,3,7,8,9] [.own 2,.own 2]<|aad<|ae 1 [] λ _=>?_;exact aaq [] [] [] ⟨rfl,rfl⟩
theorem FP(r:Int)(l:List V2)(b cap:Nat)(pos ax:V2)(F:HL)(hb:(b,.rows 2 cap (lj l) 29 (0,0))∈F)(YT:3 <= l.length)(h4:l.length <= cap)(h5:l.length <= 1000000):Sp Tryz.prog 271 #[.agg #[vI r,vS b 0 l.length cap],.agg #[vI pos.x,vI pos.y],.agg #[vI ax.x,vI ax.y]] [] F (λ u H'=>u=.tuple #[vI (j0 ⟨r,l,some ⟨b,0,none⟩,cap⟩ pos ax).1,vI (j0 ⟨r,l,some ⟨b,0,none⟩,cap⟩ pos ax).2] /\ H'=[]):=by
 refine aav Tryz.func271 rfl (mc hb mn) (A:=[]) (Ts:=[]) rfl λ w0=>?_;refine ae 13 [.own 2,.own 2] λ n1=>aai (qM r (some ⟨b,0,none⟩) l.length cap _)<|ae 2 [] λ _=>bL 13 (decide_eq_false (show ¬ ((l.length:Int)=0) by omega))<|ae 13 [.own 2] λ _=>aao (σ:=Nat) (λ k=>⟨[(4,vP (n1+1) 0),(5,vP (n1+2) 0),(6,vI ((ja pos ax l k).1)),(7,vI ((ja pos ax l k).2)),(26,vS b 0 l.length cap),(27,vI (l.length:Int)),(28,vI (k:Int))],[((n1+2),.lit [vI ax.x,vI ax.y] 29 (0,0)),((n1+1),.lit [vI pos.x,vI pos.y] 29 (0,0)),((n1+0),.lit [vI r,vS b 0 l.length cap] 85 (0,0))],[],k <= l.length,l.length-k⟩) 0 [0,1,2] [] (Nat.zero_le _) ?_;rintro k Yl Th;refine ae 6 [] λ _=>aam ((k:Int)<(l.length:Int)) 29 (λ h4=>?_) λ h4=>?_
 ·refine ah 16 [.ix k,.rorow 0 k 0,.rorow 0 k 1,.own 0,.own 0] [((0+k*2)+1)=k*2+1 /\ k<cap,(0+k*2)=k*2+0 /\ k<cap,(k:Int)=((k:Nat):Int) /\ k<l.length] λ n5=>aal [] []<|ag [] [0,1,3] [.own 2,.own 2,.own 0,.own 0,.own 1,.own 1]<|aac [] 2 (λ X_=>(fh pos (l.getD k ⟨0,0⟩)  _))<|aac [] 4 (λ X_=>(pW (aK pos (l.getD k ⟨0,0⟩)) ax  _))<|ag [] [5] []<|aad<|ae 8 [] λ _=>aam ((k:Int)=0) 39 (λ h6=>?_) λ h6=>?_
  ·refine ah 24 [.nw] [aI ((k:Int)+1)] λ _=>?_;have e_:ja pos ax l (k+1)=(if dJ (aK pos (l.getD k ⟨0,0⟩)) ax<dJ (aK pos (l.getD k ⟨0,0⟩)) ax then dJ (aK pos (l.getD k ⟨0,0⟩)) ax else dJ (aK pos (l.getD k ⟨0,0⟩)) ax,if dJ (aK pos (l.getD k ⟨0,0⟩)) ax>dJ (aK pos (l.getD k ⟨0,0⟩)) ax then dJ (aK pos (l.getD k ⟨0,0⟩)) ax else dJ (aK pos (l.getD k ⟨0,0⟩)) ax):=by
    rw[ja,if_pos h6]
   refine aC 6 (congrArg (λ v_=>(vI v_:Value)) (congrArg Prod.fst e_).symm)<|aC 7 (congrArg (λ v_=>(vI v_:Value)) (congrArg Prod.snd e_).symm) ?_;refine Th (k+1) [1,2,3] [] ?_
   try dsimp only
   exact⟨by omega,by omega⟩
  ·refine ah 19 [.nw] [aI ((k:Int)+1)] λ _=>?_;have e_:ja pos ax l (k+1)=(if dJ (aK pos (l.getD k ⟨0,0⟩)) ax<(ja pos ax l k).1 then dJ (aK pos (l.getD k ⟨0,0⟩)) ax else (ja pos ax l k).1,if dJ (aK pos (l.getD k ⟨0,0⟩)) ax>(ja pos ax l k).2 then dJ (aK pos (l.getD k ⟨0,0⟩)) ax else (ja pos ax l k).2):=by
    rw[ja,if_neg h6]
   refine aC 6 (congrArg (λ v_=>(vI v_:Value)) (congrArg Prod.fst e_).symm)<|aC 7 (congrArg (λ v_=>(vI v_:Value)) (congrArg Prod.snd e_).symm) ?_;refine Th (k+1) [1,2,3] [] ?_
   try dsimp only
   exact⟨by omega,by omega⟩
 ·refine ae 14 [] λ _=>aaq [] [] [] (v:=.tuple #[vI ((ja pos ax l k).1),vI ((ja pos ax l k).2)]) (H':=[]) ?_;have ek:k=l.length:=by omega
  subst ek;refine⟨?_,rfl⟩;unfold j0;rw[if_neg (by intro e;simp[kV] at e;rw[e] at YT;simp at YT)]
theorem zw(s:Shp)(pos ax:V2)(F:HL)(h:ShIn F s):Sp Tryz.prog 271 #[P4 s,.agg #[vI pos.x,vI pos.y],.agg #[vI ax.x,vI ax.y]] [] F (λ u H'=>u=.tuple #[vI (j0 s pos ax).1,vI (j0 s pos ax).2] /\ H'=[]):=by
 cases h with
 | circle r A cap=>exact zu r A cap pos ax F
 | poly r l b cap h h3 h4 h5=>exact FP r l b cap pos ax F h h3 h4 h5
theorem FQ(a:Shp)(pa:V2)(b:Shp)(pb ax:V2)(F:HL)(ha:ShIn F a)(hb:ShIn F b):Sp Tryz.prog 237 #[.agg #[vI a.r,.slice a.A a.poly.length a.cap],.agg #[vI pa.x,vI pa.y],.agg #[vI b.r,.slice b.A b.poly.length b.cap],.agg #[vI pb.x,vI pb.y],.agg #[vI ax.x,vI ax.y]] [] F (λ u H'=>u=vI (o7 a pa b pb ax) /\ H'=[]):=by
 refine aav Tryz.func237 rfl mn (A:=[]) (Ts:=[]) rfl λ w0=>?_;refine ae 15 [.own 4,.own 4,.own 3,.own 3,.own 0,.own 0] λ n1=>aai (zw a pa ax _ (ha.up))<|ae 12 [.own 2,.own 2,.own 1,.own 1,.own 0,.own 0] λ _=>aai (zw b pb ax _ (hb.up))<|ae 19 [] λ _=>?_;exact aaq [] [] [] ⟨rfl,rfl⟩
theorem D6(v off:V2)(q:Nat)(F:HL)(hq:(q,.lit [vI off.x,vI off.y] 29 (0,0))∈F):Sp Tryz.prog 308 #[.agg #[vI v.x,vI v.y],vP q 0] [] F (λ u H'=>u=vI (P6 off v) /\ H'=[]):=by
 refine aav Tryz.func308 rfl (mc hq mn) (A:=[]) (Ts:=[]) rfl λ w0=>?_;refine ae 10 [.ro 0,.ro 0,.own 0,.own 0] λ n1=>aai (fh off v  _)<|ae 20 (ow 0 6) λ n2=>?_;exact aaq [] [] [] ⟨rfl,rfl⟩
theorem FR(l:List V2)(b cap:Nat)(off:V2)(q:Nat)(F:HL)(hb:(b,.rows 2 cap (lj l) 29 (0,0))∈F)(h3:3 <= l.length)(h4:l.length <= cap)(h5:l.length <= 1000000)(hq:(q,.lit [vI off.x,vI off.y] 29 (0,0))∈F):Sp Tryz.prog 307 #[vS b 0 l.length cap,.func (.func 308) #[] #[vP q 0]] [] F (λ u H'=>u=.agg #[vI (((fT off l (l.length-1)).1).x),vI (((fT off l (l.length-1)).1).y)] /\ H'=[]):=by
 refine aav Tryz.func307 rfl (mc hb (mc hq mn)) (A:=[]) (Ts:=[]) rfl λ w0=>?_;refine ae 6 [] λ n1=>aal [9] [0]<|av [0] [0,3,4,1,5,2,6] [.ix 0,.ix 0,.rorow 0 0 0,.rorow 0 0 1,.rorow 0 0 0,.rorow 0 0 1] [((0+0*2)+1)=0*2+1 /\ 0<cap,(0+0*2)=0*2+0 /\ 0<cap,((0+0*2)+1)=0*2+1 /\ 0<cap,(0+0*2)=0*2+0 /\ 0<cap,0=((0:Nat):Int) /\ 0<l.length,0=((0:Nat):Int) /\ 0<l.length]<|aac [0] 7 (λ X_=>(D6 (l.getD 0 ⟨0,0⟩) off q _ (List.mem_append_right _ (List.mem_append_right _ hq))))<|aae 8 (aag [] [] λ n3=>?_);refine aae 9 (aag [1] (aab 2) λ _=>?_);refine ag [1] [10] []<|aad<|ah 11 [.sl 1 l.length false] [1=((1:Nat):Int) /\ l.length=l.length /\ 1 <= l.length /\ l.length <= cap /\ cap≠1] λ _=>aao (σ:=Nat) (λ k=>⟨[(1,.func (.func 308) #[] #[vP q 0]),(4,vP (n1+0) 0),(5,vP (n3+0) 0),(6,vI ((fT off l k).2)),(19,vS b 2 (l.length-1) (cap-1)),(20,vI (((l.length-1):Nat):Int)),(21,vI (k:Int))],[((n3+0),.lit [vI ((fT off l k).1.x),vI ((fT off l k).1.y)] 29 (0,0)),((n1+0),.lit [vI 0,vI 0] 29 (0,0))],[],k <= l.length-1,l.length-k⟩) 0 [0,1] [] (Nat.zero_le _) ?_;rintro k hI4 mt5;refine ae 6 [] λ _=>aam ((k:Int)<(((l.length-1):Nat):Int)) 22 (λ h6=>?_) λ h6=>?_
 ·refine ah 17 [.ix k,.rorow 0 (1+k) 0,.rorow 0 (1+k) 1,.own 0,.own 0,.own 0,.own 0] [((2+k*2)+1)=(1+k)*2+1 /\ (1+k)<cap,(2+k*2)=(1+k)*2+0 /\ (1+k)<cap,(k:Int)=((k:Nat):Int) /\ k<(l.length-1)] λ n7=>aai (D6 (l.getD (1+k) ⟨0,0⟩) off q _ (List.mem_append_right _ hq))<|ae 10 [] λ _=>aam (P6 off (l.getD (1+k) ⟨0,0⟩)<(fT off l k).2) 30 (λ h8=>?_) λ h8=>?_
  ·refine ah 13 [.own 0,.own 0,.own 1,.own 1,.nw] [aI ((k:Int)+1)] λ _=>?_;have e_:fT off l (k+1)=(l.getD (1+k) ⟨0,0⟩,P6 off (l.getD (1+k) ⟨0,0⟩)):=by rw[fT,if_pos h8]
   refine aC 6 (congrArg (λ v_=>(vI v_:Value)) (congrArg Prod.snd e_).symm)<|aah 1 (congrArg (λ v_=>(.lit [vI v_.1.x,vI v_.1.y] 29 (0,0):Blk)) e_.symm) ?_;refine mt5 (k+1) [1,2] [] ?_
   try dsimp only
   exact⟨by omega,by omega⟩
  ·refine ah 8 [.nw] [aI ((k:Int)+1)] λ _=>?_;have e_:fT off l (k+1)=fT off l k:=by rw[fT,if_neg h8]
   refine aC 6 (congrArg (λ v_=>(vI v_:Value)) (congrArg Prod.snd e_).symm)<|aah 1 (congrArg (λ v_=>(.lit [vI v_.1.x,vI v_.1.y] 29 (0,0):Blk)) e_.symm) ?_;refine mt5 (k+1) [1,2] [] ?_
   try dsimp only
   exact⟨by omega,by omega⟩
 ·refine ae 12 [.own 0,.own 0,.own 1,.own 1] λ _=>aaq [.own 1,.own 1] [] [] (v:=.agg #[vI ((fT off l k).1.x),vI ((fT off l k).1.y)]) (H':=[]) ?_;have ek:k=l.length-1:=by omega
  subst ek;exact⟨rfl,rfl⟩
def rY(l:List V2)(k:Nat):V2:=jC ⟨bz ((l.getD (((k:Int)+1) % (l.length:Int)).toNat ⟨0,0⟩).y-(l.getD k ⟨0,0⟩).y),bz ((l.getD k ⟨0,0⟩).x-(l.getD (((k:Int)+1) % (l.length:Int)).toNat ⟨0,0⟩).x)⟩
def qN(l:List V2):List V2:=(List.range l.length).map (rY l)
def mT(a:Shp)(pa:V2)(b:Shp)(pb:V2):List V2:=if kV a then if kV b then [jC (dY pb pa)] else [jC (kX pa b pb)] else if kV b then [jC (kX pb a pa)] else []
def aO(a:Shp)(pa:V2)(b:Shp)(pb:V2):List V2:=qN a.poly++(qN b.poly++mT a pa b pb)
theorem eS(l:List V2):(qN l).length=l.length:=by simp[qN]
theorem tF{l:List V2}{k:Nat}(h:k<l.length):(qN l)[k]?=some (rY l k):=by simp[qN,h]
theorem Iv{a:Shp}{pa:V2}{b:Shp}{pb:V2}{k:Nat}(h:k<a.poly.length):(aO a pa b pb)[k]?=some (rY a.poly k):=by
 unfold aO;rw[List.getElem?_append_left (by rw[eS];exact h),tF h]
theorem Iw{a:Shp}{pa:V2}{b:Shp}{pb:V2}{k:Nat}(h:k<b.poly.length):(aO a pa b pb)[a.poly.length+k]?=some (rY b.poly k):=by
 unfold aO;rw[List.getElem?_append_right (by rw[eS];omega),eS,Nat.add_sub_cancel_left,List.getElem?_append_left (by rw[eS];exact h),tF h]
theorem Cr{a:Shp}{pa:V2}{b:Shp}{pb x:V2}(h:mT a pa b pb=[x]):(aO a pa b pb)[a.poly.length+b.poly.length]?=some x:=by
 unfold aO;rw[List.getElem?_append_right (by rw[eS];omega),eS,Nat.add_sub_cancel_left,List.getElem?_append_right (by rw[eS];omega),eS,Nat.sub_self,h];rfl
theorem pX{a:Shp}{pa:V2}{b:Shp}{pb:V2}{m:Nat}(h:(mT a pa b pb).length=m):(aO a pa b pb).length=a.poly.length+b.poly.length+m:=by
 unfold aO;rw[List.length_append,List.length_append,eS,eS,h];omega
theorem aP(T:HL):ap [] [T]=T:=by simp
abbrev Iy(x:V2):Array Value:=#[.agg #[vI x.x,vI x.y]]
theorem rZ(c:V2)(r:Int)(l:List V2)(b cap:Nat)(pos:V2)(F:HL)(hb:(b,.rows 2 cap (lj l) 29 (0,0))∈F)(YT:3 <= l.length)(h4:l.length <= cap)(h5:l.length <= 1000000):Sp Tryz.prog 270 #[.agg #[vI c.x,vI c.y],.agg #[vI r,vS b 0 l.length cap],.agg #[vI pos.x,vI pos.y]] [] F (λ u H'=>u=.agg #[vI ((kX c ⟨r,l,some ⟨b,0,none⟩,cap⟩ pos).x),vI ((kX c ⟨r,l,some ⟨b,0,none⟩,cap⟩ pos).y)] /\ H'=[]):=by
 refine aav Tryz.func270 rfl (mc hb mn) (A:=[]) (Ts:=[]) rfl λ w0=>?_;refine ae 12 [.own 1,.own 1,.own 3,.own 3] λ n1=>aai (jY pos c  _)<|ae 9 [.own 0,.own 0,.own 3] λ n2=>aai (FR l b cap (dY pos c) (n2+0) _ (List.mem_append_right _ hb) YT h4 h5 (az 0))<|ae 8 [.own 0,.own 0,.own 1,.own 1,.own 0,.own 0] λ n3=>aai (fh (dY pos c) ((fT (dY pos c) l (l.length-1)).1)  _)<|ae 3 [.own 2,.own 2] λ _=>?_;exact aaq [.own 2,.own 2] [] [] ⟨rfl,rfl⟩
theorem L8(pa pb:V2)(ra rb:Int)(ca cb:Nat)(Aa:Option Addr)(Ab:Option Addr)(q1 q2 q3 q4 lp:Nat)(X F:HL)(J:Nat -> HL -> Prop)(Jx:HL -> Prop)(T0:HL)(Yy:(q1,.lit [vI ra,.slice Aa 0 ca] 85 (0,0))∈F)(Ut:(q2,.lit [vI rb,.slice Ab 0 cb] 85 (0,0))∈F)(Yx:(q3,.lit [vI pb.x,vI pb.y] 29 (0,0))∈F)(X1:(q4,.lit [vI pa.x,vI pa.y] 29 (0,0))∈F)(hY:∀i x H Y,(aO (⟨ra,[],Aa,ca⟩:Shp) pa (⟨rb,[],Ab,cb⟩:Shp) pb)[i]?=some x -> J i H -> YL Tryz.prog lp (Iy x) H (Y++(X++F)) (λ b H'=>(b=true /\ J (i+1) H') \/ (b=false /\ Jx H')))(XI:J 0 T0):Sp Tryz.prog 267 #[.func (.yield lp) #[] #[],vP q1 0,vP q2 0,vP q3 0,vP q4 0] (ap [] [T0]) (X++F) (λ _ H'=>J (aO (⟨ra,[],Aa,ca⟩:Shp) pa (⟨rb,[],Ab,cb⟩:Shp) pb).length H' \/ Jx H'):=by
 have hca:kV (⟨ra,[],Aa,ca⟩:Shp):=rfl;have hcb:kV (⟨rb,[],Ab,cb⟩:Shp):=rfl;have Tl:mT (⟨ra,[],Aa,ca⟩:Shp) pa (⟨rb,[],Ab,cb⟩:Shp) pb=[jC (dY pb pa)]:=by simp only[mT,if_pos hca,if_pos hcb]
 have hlen:(aO (⟨ra,[],Aa,ca⟩:Shp) pa (⟨rb,[],Ab,cb⟩:Shp) pb).length=([]:List V2).length+([]:List V2).length+1:=pX (by rw[Tl];rfl);refine aav Tryz.func267 rfl (mc (List.mem_append_right X Yy) (mc (List.mem_append_right X Ut) (mc (List.mem_append_right X Yx) (mc (List.mem_append_right X X1) mn)))) (A:=[]) (Ts:=[T0]) rfl λ w0=>?_;refine ae 12 [.ro 0,.ro 1] λ _=>aas 2<|ae 25 [] λ _=>aas 1<|ae 43 [] λ _=>aas 1<|ae 34 [.ro 0,.ro 0] λ _=>aai (jZ ra Aa 0 ca _)<|ae 2 [.ro 1,.ro 1] λ _=>aai (jZ rb Ab 0 cb _)<|ae 9 [.ro 2,.ro 2,.ro 3,.ro 3] λ _=>aai (jY pb pa  _)<|aai (j4 (dY pb pa)  _) ?_;refine aat 0 (hY 0 (jC (dY pb pa)) _ _ (Cr Tl) XI) ?_;rintro b_ T1 (⟨rfl,hJ2⟩|⟨rfl,hJ2⟩)
 ·refine ae 2 [] λ _=>aaq [] [] [0] (v:=.tuple #[]) (H':=(ap [] [T1])) ?_;rw[aP];exact .inl (by rw[hlen];exact hJ2)
 ·refine ae 2 [] λ _=>aaq [] [] [0] (v:=.tuple #[]) (H':=(ap [] [T1])) ?_;rw[aP];exact .inr hJ2
theorem L9(pa pb:V2)(ra rb:Int)(ca cb:Nat)(Aa:Option Addr)(lb:List V2)(bb:Nat)(q1 q2 q3 q4 lp:Nat)(X F:HL)(J:Nat -> HL -> Prop)(Jx:HL -> Prop)(T0:HL)(Yy:(q1,.lit [vI ra,.slice Aa 0 ca] 85 (0,0))∈F)(Ut:(q2,.lit [vI rb,vS bb 0 lb.length cb] 85 (0,0))∈F)(Yx:(q3,.lit [vI pb.x,vI pb.y] 29 (0,0))∈F)(X1:(q4,.lit [vI pa.x,vI pa.y] 29 (0,0))∈F)(hbb:(bb,.rows 2 cb (lj lb) 29 (0,0))∈F)(h3b:3 <= lb.length)(h4b:lb.length <= cb)(h5b:lb.length <= 1000000)(hY:∀i x H Y,(aO (⟨ra,[],Aa,ca⟩:Shp) pa (⟨rb,lb,some ⟨bb,0,none⟩,cb⟩:Shp) pb)[i]?=some x -> J i H -> YL Tryz.prog lp (Iy x) H (Y++(X++F)) (λ b H'=>(b=true /\ J (i+1) H') \/ (b=false /\ Jx H')))(XI:J 0 T0):Sp Tryz.prog 267 #[.func (.yield lp) #[] #[],vP q1 0,vP q2 0,vP q3 0,vP q4 0] (ap [] [T0]) (X++F) (λ _ H'=>J (aO (⟨ra,[],Aa,ca⟩:Shp) pa (⟨rb,lb,some ⟨bb,0,none⟩,cb⟩:Shp) pb).length H' \/ Jx H'):=by
 have hca:kV (⟨ra,[],Aa,ca⟩:Shp):=rfl;have hcb:¬ kV (⟨rb,lb,some ⟨bb,0,none⟩,cb⟩:Shp):=by intro e;simp[kV] at e;subst e;simp at h3b
 have Tl:mT (⟨ra,[],Aa,ca⟩:Shp) pa (⟨rb,lb,some ⟨bb,0,none⟩,cb⟩:Shp) pb=[jC (kX pa (⟨rb,lb,some ⟨bb,0,none⟩,cb⟩:Shp) pb)]:=by simp only[mT,if_pos hca,if_neg hcb]
 have hlen:(aO (⟨ra,[],Aa,ca⟩:Shp) pa (⟨rb,lb,some ⟨bb,0,none⟩,cb⟩:Shp) pb).length=([]:List V2).length+lb.length+1:=pX (by rw[Tl];rfl);refine aav Tryz.func267 rfl (mc (List.mem_append_right X Yy) (mc (List.mem_append_right X Ut) (mc (List.mem_append_right X Yx) (mc (List.mem_append_right X X1) (mc (List.mem_append_right X hbb) mn))))) (A:=[]) (Ts:=[T0]) rfl λ w0=>?_;refine ae 12 [.ro 0,.ro 1] λ _=>aas 2<|ae 25 [] λ _=>aas 1<|ae 43 [] λ _=>aao (σ:=Nat × HL) (λ ⟨k,T_⟩=>⟨[(0,.func (.yield lp) #[] #[]),(1,vP q1 0),(2,vP q2 0),(3,vP q3 0),(4,vP q4 0),(7,vS bb 0 lb.length cb),(15,.agg #[.slice Aa 0 ca,vS bb 0 lb.length cb]),(16,vI 1),(19,vS bb 0 lb.length cb),(20,vI (lb.length:Int)),(21,vI (k:Int))],[],[T_],k <= lb.length /\ J (([]:List V2).length+k) T_,lb.length-k⟩) (0,T0) [] [0] (⟨Nat.zero_le _,XI⟩) ?_;rintro⟨k,T_⟩ ⟨X8,UW⟩ Tw
 skip
 refine ae 6 [] λ _=>aam ((k:Int)<(lb.length:Int)) 22 (λ h3=>?_) λ h3=>?_
 ·refine ah 22 [.ix k,.rorow 4 k 0,.rorow 4 k 1,.own 0,.own 0,.nw] [aI ((k:Int)+1),((0+k*2)+1)=k*2+1 /\ k<cb,(0+k*2)=k*2+0 /\ k<cb,(k:Int)=((k:Nat):Int) /\ k<lb.length] λ n4=>?_;have hm1:=Int.emod_nonneg ((k:Int)+1) (show (lb.length:Int)≠0 by omega);have hm2:=Int.emod_lt_of_pos ((k:Int)+1) (show (0:Int)<lb.length by omega);refine ah 21 [.nw,.ix ((((k:Int)+1) % (lb.length:Int)).toNat),.rorow 4 ((((k:Int)+1) % (lb.length:Int)).toNat) 0,.rorow 4 ((((k:Int)+1) % (lb.length:Int)).toNat) 1,.own 0,.own 0,.own 0,.own 1,.own 1,.own 0] [((0+((((k:Int)+1) % (lb.length:Int)).toNat)*2)+1)=((((k:Int)+1) % (lb.length:Int)).toNat)*2+1 /\ ((((k:Int)+1) % (lb.length:Int)).toNat)<cb,(0+((((k:Int)+1) % (lb.length:Int)).toNat)*2)=((((k:Int)+1) % (lb.length:Int)).toNat)*2+0 /\ ((((k:Int)+1) % (lb.length:Int)).toNat)<cb,((k:Int)+1) % (lb.length:Int)=(((((k:Int)+1) % (lb.length:Int)).toNat:Nat):Int) /\ (((k:Int)+1) % (lb.length:Int)).toNat<lb.length,0 <= (k:Int)+1 /\ (0:Int)<(lb.length:Int) /\ (k:Int)+1 <= 9223372036854775807] λ n5=>aai (j4 (⟨i64.wrap (((lb.getD ((((k:Int)+1) % (lb.length:Int)).toNat) ⟨0,0⟩).y)-((lb.getD k ⟨0,0⟩).y)),i64.wrap (((lb.getD k ⟨0,0⟩).x)-((lb.getD ((((k:Int)+1) % (lb.length:Int)).toNat) ⟨0,0⟩).x))⟩:V2)  _)<|aat 0 (hY (([]:List V2).length+k) (rY lb k) _ _ (Iw (a:=(⟨ra,[],Aa,ca⟩:Shp)) (by show k<lb.length;omega)) UW) ?_;rintro b_ T6 (⟨rfl,hJ7⟩|⟨rfl,hJ7⟩)
  ·refine ah 11 [.gen,.nw] [aI ((k:Int)+1)] λ _=>?_;refine Tw (k+1,T6) [] [0] ?_
   try dsimp only
   exact⟨⟨by omega,hJ7⟩,by omega⟩
  ·refine ae 4 [] λ _=>aaq [] [] [0] (v:=.tuple #[]) (H':=(ap [] [T6])) ?_;rw[aP];exact .inr hJ7
 ·have ek1:k=lb.length:=by omega
  subst ek1;refine ae 28 [.ro 0,.ro 0] λ _=>aai (jZ ra Aa 0 ca _)<|ae 2 [.ro 1,.ro 1] λ _=>aai (jZ rb (some ⟨bb,0,none⟩) lb.length cb _)<|ae 4 [] λ _=>bL 51 (decide_eq_false (show ¬ ((lb.length:Int)=0) by omega))<|ae 4 [.ro 0,.ro 0] λ _=>aai (jZ ra Aa 0 ca _)<|ae 9 [.ro 3,.ro 3,.ro 1,.ro 1,.ro 2,.ro 2] λ _=>aai (rZ pa rb lb bb cb pb _ (List.mem_append_right _ (List.mem_append_right X hbb)) h3b h4b h5b)<|aai (j4 (kX pa (⟨rb,lb,some ⟨bb,0,none⟩,cb⟩:Shp) pb)  _)<|aat 0 (hY (([]:List V2).length+lb.length) (jC (kX pa (⟨rb,lb,some ⟨bb,0,none⟩,cb⟩:Shp) pb)) _ _ (Cr Tl) UW) ?_;rintro b_ T8 (⟨rfl,hJ9⟩|⟨rfl,hJ9⟩)
  ·refine ae 2 [] λ _=>aaq [] [] [0] (v:=.tuple #[]) (H':=(ap [] [T8])) ?_;rw[aP];exact .inl (by rw[hlen];exact hJ9)
  ·refine ae 2 [] λ _=>aaq [] [] [0] (v:=.tuple #[]) (H':=(ap [] [T8])) ?_;rw[aP];exact .inr hJ9
theorem Ma(pa pb:V2)(ra rb:Int)(ca cb:Nat)(la:List V2)(ba:Nat)(Ab:Option Addr)(q1 q2 q3 q4 lp:Nat)(X F:HL)(J:Nat -> HL -> Prop)(Jx:HL -> Prop)(T0:HL)(Yy:(q1,.lit [vI ra,vS ba 0 la.length ca] 85 (0,0))∈F)(Ut:(q2,.lit [vI rb,.slice Ab 0 cb] 85 (0,0))∈F)(Yx:(q3,.lit [vI pb.x,vI pb.y] 29 (0,0))∈F)(X1:(q4,.lit [vI pa.x,vI pa.y] 29 (0,0))∈F)(hba:(ba,.rows 2 ca (lj la) 29 (0,0))∈F)(h3a:3 <= la.length)(h4a:la.length <= ca)(h5a:la.length <= 1000000)(hY:∀i x H Y,(aO (⟨ra,la,some ⟨ba,0,none⟩,ca⟩:Shp) pa (⟨rb,[],Ab,cb⟩:Shp) pb)[i]?=some x -> J i H -> YL Tryz.prog lp (Iy x) H (Y++(X++F)) (λ b H'=>(b=true /\ J (i+1) H') \/ (b=false /\ Jx H')))(XI:J 0 T0):Sp Tryz.prog 267 #[.func (.yield lp) #[] #[],vP q1 0,vP q2 0,vP q3 0,vP q4 0] (ap [] [T0]) (X++F) (λ _ H'=>J (aO (⟨ra,la,some ⟨ba,0,none⟩,ca⟩:Shp) pa (⟨rb,[],Ab,cb⟩:Shp) pb).length H' \/ Jx H'):=by
 have hca:¬ kV (⟨ra,la,some ⟨ba,0,none⟩,ca⟩:Shp):=by intro e;simp[kV] at e;subst e;simp at h3a
 have hcb:kV (⟨rb,[],Ab,cb⟩:Shp):=rfl;have Tl:mT (⟨ra,la,some ⟨ba,0,none⟩,ca⟩:Shp) pa (⟨rb,[],Ab,cb⟩:Shp) pb=[jC (kX pb (⟨ra,la,some ⟨ba,0,none⟩,ca⟩:Shp) pa)]:=by simp only[mT,if_neg hca,if_pos hcb]
 have hlen:(aO (⟨ra,la,some ⟨ba,0,none⟩,ca⟩:Shp) pa (⟨rb,[],Ab,cb⟩:Shp) pb).length=la.length+([]:List V2).length+1:=pX (by rw[Tl];rfl);refine aav Tryz.func267 rfl (mc (List.mem_append_right X Yy) (mc (List.mem_append_right X Ut) (mc (List.mem_append_right X Yx) (mc (List.mem_append_right X X1) (mc (List.mem_append_right X hba) mn))))) (A:=[]) (Ts:=[T0]) rfl λ w0=>?_;refine ae 12 [.ro 0,.ro 1] λ _=>aas 2<|ae 25 [] λ _=>aao (σ:=Nat × HL) (λ ⟨k,T_⟩=>⟨[(0,.func (.yield lp) #[] #[]),(1,vP q1 0),(2,vP q2 0),(3,vP q3 0),(4,vP q4 0),(7,vS ba 0 la.length ca),(15,.agg #[vS ba 0 la.length ca,.slice Ab 0 cb]),(16,vI 0),(19,vS ba 0 la.length ca),(20,vI (la.length:Int)),(21,vI (k:Int))],[],[T_],k <= la.length /\ J (k) T_,la.length-k⟩) (0,T0) [] [0] (⟨Nat.zero_le _,XI⟩) ?_;rintro⟨k,T_⟩ ⟨X8,UW⟩ Tw
 skip
 refine ae 6 [] λ _=>aam ((k:Int)<(la.length:Int)) 22 (λ h3=>?_) λ h3=>?_
 ·refine ah 22 [.ix k,.rorow 4 k 0,.rorow 4 k 1,.own 0,.own 0,.nw] [aI ((k:Int)+1),((0+k*2)+1)=k*2+1 /\ k<ca,(0+k*2)=k*2+0 /\ k<ca,(k:Int)=((k:Nat):Int) /\ k<la.length] λ n4=>?_;have hm1:=Int.emod_nonneg ((k:Int)+1) (show (la.length:Int)≠0 by omega);have hm2:=Int.emod_lt_of_pos ((k:Int)+1) (show (0:Int)<la.length by omega);refine ah 21 [.nw,.ix ((((k:Int)+1) % (la.length:Int)).toNat),.rorow 4 ((((k:Int)+1) % (la.length:Int)).toNat) 0,.rorow 4 ((((k:Int)+1) % (la.length:Int)).toNat) 1,.own 0,.own 0,.own 0,.own 1,.own 1,.own 0] [((0+((((k:Int)+1) % (la.length:Int)).toNat)*2)+1)=((((k:Int)+1) % (la.length:Int)).toNat)*2+1 /\ ((((k:Int)+1) % (la.length:Int)).toNat)<ca,(0+((((k:Int)+1) % (la.length:Int)).toNat)*2)=((((k:Int)+1) % (la.length:Int)).toNat)*2+0 /\ ((((k:Int)+1) % (la.length:Int)).toNat)<ca,((k:Int)+1) % (la.length:Int)=(((((k:Int)+1) % (la.length:Int)).toNat:Nat):Int) /\ (((k:Int)+1) % (la.length:Int)).toNat<la.length,0 <= (k:Int)+1 /\ (0:Int)<(la.length:Int) /\ (k:Int)+1 <= 9223372036854775807] λ n5=>aai (j4 (⟨i64.wrap (((la.getD ((((k:Int)+1) % (la.length:Int)).toNat) ⟨0,0⟩).y)-((la.getD k ⟨0,0⟩).y)),i64.wrap (((la.getD k ⟨0,0⟩).x)-((la.getD ((((k:Int)+1) % (la.length:Int)).toNat) ⟨0,0⟩).x))⟩:V2)  _)<|aat 0 (hY k (rY la k) _ _ (Iv (by show k<la.length;omega)) UW) ?_;rintro b_ T6 (⟨rfl,hJ7⟩|⟨rfl,hJ7⟩)
  ·refine ah 11 [.gen,.nw] [aI ((k:Int)+1)] λ _=>?_;refine Tw (k+1,T6) [] [0] ?_
   try dsimp only
   exact⟨⟨by omega,hJ7⟩,by omega⟩
  ·refine ae 4 [] λ _=>aaq [] [] [0] (v:=.tuple #[]) (H':=(ap [] [T6])) ?_;rw[aP];exact .inr hJ7
 ·have ek0:k=la.length:=by omega
  subst ek0;refine ae 37 [] λ _=>aas 1<|ae 34 [.ro 0,.ro 0] λ _=>aai (jZ ra (some ⟨ba,0,none⟩) la.length ca _)<|ae 1 [] λ _=>bL 54 (decide_eq_false (show ¬ ((la.length:Int)=0) by omega))<|ae 10 [.ro 0,.ro 0] λ _=>aai (jZ ra (some ⟨ba,0,none⟩) la.length ca _)<|ae 3 [] λ _=>bL 64 (decide_eq_false (show ¬ ((la.length:Int)=0) by omega))<|ae 4 [.ro 1,.ro 1] λ _=>aai (jZ rb Ab 0 cb _)<|ae 9 [.ro 2,.ro 2,.ro 0,.ro 0,.ro 3,.ro 3] λ _=>?_;refine aai (rZ pb ra la ba ca pa _ (List.mem_append_right _ (List.mem_append_right X hba)) h3a h4a h5a)<|aai (j4 (kX pb (⟨ra,la,some ⟨ba,0,none⟩,ca⟩:Shp) pa)  _)<|aat 0 (hY la.length (jC (kX pb (⟨ra,la,some ⟨ba,0,none⟩,ca⟩:Shp) pa)) _ _ (Cr Tl) UW) ?_;rintro b_ T8 (⟨rfl,hJ9⟩|⟨rfl,hJ9⟩)
  ·refine ae 2 [] λ _=>aaq [] [] [0] (v:=.tuple #[]) (H':=(ap [] [T8])) ?_;rw[aP];exact .inl (by rw[hlen];exact hJ9)
  ·refine ae 2 [] λ _=>aaq [] [] [0] (v:=.tuple #[]) (H':=(ap [] [T8])) ?_;rw[aP];exact .inr hJ9
theorem Mb(pa pb:V2)(ra rb:Int)(ca cb:Nat)(la:List V2)(ba:Nat)(lb:List V2)(bb:Nat)(q1 q2 q3 q4 lp:Nat)(X F:HL)(J:Nat -> HL -> Prop)(Jx:HL -> Prop)(T0:HL)(Yy:(q1,.lit [vI ra,vS ba 0 la.length ca] 85 (0,0))∈F)(Ut:(q2,.lit [vI rb,vS bb 0 lb.length cb] 85 (0,0))∈F)(Yx:(q3,.lit [vI pb.x,vI pb.y] 29 (0,0))∈F)(X1:(q4,.lit [vI pa.x,vI pa.y] 29 (0,0))∈F)(hba:(ba,.rows 2 ca (lj la) 29 (0,0))∈F)(h3a:3 <= la.length)(h4a:la.length <= ca)(h5a:la.length <= 1000000)(hbb:(bb,.rows 2 cb (lj lb) 29 (0,0))∈F)(h3b:3 <= lb.length)(h4b:lb.length <= cb)(h5b:lb.length <= 1000000)(hY:∀i x H Y,(aO (⟨ra,la,some ⟨ba,0,none⟩,ca⟩:Shp) pa (⟨rb,lb,some ⟨bb,0,none⟩,cb⟩:Shp) pb)[i]?=some x -> J i H -> YL Tryz.prog lp (Iy x) H (Y++(X++F)) (λ b H'=>(b=true /\ J (i+1) H') \/ (b=false /\ Jx H')))(XI:J 0 T0):Sp Tryz.prog 267 #[.func (.yield lp) #[] #[],vP q1 0,vP q2 0,vP q3 0,vP q4 0] (ap [] [T0]) (X++F) (λ _ H'=>J (aO (⟨ra,la,some ⟨ba,0,none⟩,ca⟩:Shp) pa (⟨rb,lb,some ⟨bb,0,none⟩,cb⟩:Shp) pb).length H' \/ Jx H'):=by
 have hca:¬ kV (⟨ra,la,some ⟨ba,0,none⟩,ca⟩:Shp):=by intro e;simp[kV] at e;subst e;simp at h3a
 have hcb:¬ kV (⟨rb,lb,some ⟨bb,0,none⟩,cb⟩:Shp):=by intro e;simp[kV] at e;subst e;simp at h3b
 have Tl:mT (⟨ra,la,some ⟨ba,0,none⟩,ca⟩:Shp) pa (⟨rb,lb,some ⟨bb,0,none⟩,cb⟩:Shp) pb=[]:=by simp only[mT,if_neg hca,if_neg hcb]
 have hlen:(aO (⟨ra,la,some ⟨ba,0,none⟩,ca⟩:Shp) pa (⟨rb,lb,some ⟨bb,0,none⟩,cb⟩:Shp) pb).length=la.length+lb.length+0:=pX (by rw[Tl];rfl);refine aav Tryz.func267 rfl (mc (List.mem_append_right X Yy) (mc (List.mem_append_right X Ut) (mc (List.mem_append_right X Yx) (mc (List.mem_append_right X X1) (mc (List.mem_append_right X hba) (mc (List.mem_append_right X hbb) mn)))))) (A:=[]) (Ts:=[T0]) rfl λ w0=>?_;refine ae 12 [.ro 0,.ro 1] λ _=>aas 2<|ae 25 [] λ _=>aao (σ:=Nat × HL) (λ ⟨k,T_⟩=>⟨[(0,.func (.yield lp) #[] #[]),(1,vP q1 0),(2,vP q2 0),(3,vP q3 0),(4,vP q4 0),(7,vS ba 0 la.length ca),(15,.agg #[vS ba 0 la.length ca,vS bb 0 lb.length cb]),(16,vI 0),(19,vS ba 0 la.length ca),(20,vI (la.length:Int)),(21,vI (k:Int))],[],[T_],k <= la.length /\ J (k) T_,la.length-k⟩) (0,T0) [] [0] (⟨Nat.zero_le _,XI⟩) ?_;rintro⟨k,T_⟩ ⟨X8,UW⟩ Tw
 skip
 refine ae 6 [] λ _=>aam ((k:Int)<(la.length:Int)) 22 (λ h3=>?_) λ h3=>?_
 ·refine ah 22 [.ix k,.rorow 4 k 0,.rorow 4 k 1,.own 0,.own 0,.nw] [aI ((k:Int)+1),((0+k*2)+1)=k*2+1 /\ k<ca,(0+k*2)=k*2+0 /\ k<ca,(k:Int)=((k:Nat):Int) /\ k<la.length] λ n4=>?_;have hm1:=Int.emod_nonneg ((k:Int)+1) (show (la.length:Int)≠0 by omega);have hm2:=Int.emod_lt_of_pos ((k:Int)+1) (show (0:Int)<la.length by omega);refine ah 21 [.nw,.ix ((((k:Int)+1) % (la.length:Int)).toNat),.rorow 4 ((((k:Int)+1) % (la.length:Int)).toNat) 0,.rorow 4 ((((k:Int)+1) % (la.length:Int)).toNat) 1,.own 0,.own 0,.own 0,.own 1,.own 1,.own 0] [((0+((((k:Int)+1) % (la.length:Int)).toNat)*2)+1)=((((k:Int)+1) % (la.length:Int)).toNat)*2+1 /\ ((((k:Int)+1) % (la.length:Int)).toNat)<ca,(0+((((k:Int)+1) % (la.length:Int)).toNat)*2)=((((k:Int)+1) % (la.length:Int)).toNat)*2+0 /\ ((((k:Int)+1) % (la.length:Int)).toNat)<ca,((k:Int)+1) % (la.length:Int)=(((((k:Int)+1) % (la.length:Int)).toNat:Nat):Int) /\ (((k:Int)+1) % (la.length:Int)).toNat<la.length,0 <= (k:Int)+1 /\ (0:Int)<(la.length:Int) /\ (k:Int)+1 <= 9223372036854775807] λ n5=>aai (j4 (⟨i64.wrap (((la.getD ((((k:Int)+1) % (la.length:Int)).toNat) ⟨0,0⟩).y)-((la.getD k ⟨0,0⟩).y)),i64.wrap (((la.getD k ⟨0,0⟩).x)-((la.getD ((((k:Int)+1) % (la.length:Int)).toNat) ⟨0,0⟩).x))⟩:V2)  _)<|aat 0 (hY k (rY la k) _ _ (Iv (by show k<la.length;omega)) UW) ?_;rintro b_ T6 (⟨rfl,hJ7⟩|⟨rfl,hJ7⟩)
  ·refine ah 11 [.gen,.nw] [aI ((k:Int)+1)] λ _=>?_;refine Tw (k+1,T6) [] [0] ?_
   try dsimp only
   exact⟨⟨by omega,hJ7⟩,by omega⟩
  ·refine ae 4 [] λ _=>aaq [] [] [0] (v:=.tuple #[]) (H':=(ap [] [T6])) ?_;rw[aP];exact .inr hJ7
 ·have ek0:k=la.length:=by omega
  subst ek0;refine ae 37 [] λ _=>aao (σ:=Nat × HL) (λ ⟨k,T_⟩=>⟨[(0,.func (.yield lp) #[] #[]),(1,vP q1 0),(2,vP q2 0),(3,vP q3 0),(4,vP q4 0),(7,vS bb 0 lb.length cb),(15,.agg #[vS ba 0 la.length ca,vS bb 0 lb.length cb]),(16,vI 1),(19,vS bb 0 lb.length cb),(20,vI (lb.length:Int)),(21,vI (k:Int))],[],[T_],k <= lb.length /\ J (la.length+k) T_,lb.length-k⟩) (0,T_) [] [0] (⟨Nat.zero_le _,UW⟩) ?_;rintro⟨k,T_⟩ ⟨X8,UW⟩ Uy
  skip
  refine ae 6 [] λ _=>aam ((k:Int)<(lb.length:Int)) 22 (λ VU=>?_) λ VU=>?_
  ·refine ah 22 [.ix k,.rorow 5 k 0,.rorow 5 k 1,.own 0,.own 0,.nw] [aI ((k:Int)+1),((0+k*2)+1)=k*2+1 /\ k<cb,(0+k*2)=k*2+0 /\ k<cb,(k:Int)=((k:Nat):Int) /\ k<lb.length] λ n11=>?_;have hm1:=Int.emod_nonneg ((k:Int)+1) (show (lb.length:Int)≠0 by omega);have hm2:=Int.emod_lt_of_pos ((k:Int)+1) (show (0:Int)<lb.length by omega);refine ah 21 [.nw,.ix ((((k:Int)+1) % (lb.length:Int)).toNat),.rorow 5 ((((k:Int)+1) % (lb.length:Int)).toNat) 0,.rorow 5 ((((k:Int)+1) % (lb.length:Int)).toNat) 1,.own 0,.own 0,.own 0,.own 1,.own 1,.own 0] [((0+((((k:Int)+1) % (lb.length:Int)).toNat)*2)+1)=((((k:Int)+1) % (lb.length:Int)).toNat)*2+1 /\ ((((k:Int)+1) % (lb.length:Int)).toNat)<cb,(0+((((k:Int)+1) % (lb.length:Int)).toNat)*2)=((((k:Int)+1) % (lb.length:Int)).toNat)*2+0 /\ ((((k:Int)+1) % (lb.length:Int)).toNat)<cb,((k:Int)+1) % (lb.length:Int)=(((((k:Int)+1) % (lb.length:Int)).toNat:Nat):Int) /\ (((k:Int)+1) % (lb.length:Int)).toNat<lb.length,0 <= (k:Int)+1 /\ (0:Int)<(lb.length:Int) /\ (k:Int)+1 <= 9223372036854775807] λ n12=>aai (j4 (⟨i64.wrap (((lb.getD ((((k:Int)+1) % (lb.length:Int)).toNat) ⟨0,0⟩).y)-((lb.getD k ⟨0,0⟩).y)),i64.wrap (((lb.getD k ⟨0,0⟩).x)-((lb.getD ((((k:Int)+1) % (lb.length:Int)).toNat) ⟨0,0⟩).x))⟩:V2)  _)<|aat 0 (hY (la.length+k) (rY lb k) _ _ (Iw (a:=(⟨ra,la,some ⟨ba,0,none⟩,ca⟩:Shp)) (by show k<lb.length;omega)) UW) ?_;rintro b_ TO (⟨rfl,aff⟩|⟨rfl,aff⟩)
   ·refine ah 11 [.gen,.nw] [aI ((k:Int)+1)] λ _=>?_;refine Uy (k+1,TO) [] [0] ?_
    try dsimp only
    exact⟨⟨by omega,aff⟩,by omega⟩
   ·refine ae 4 [] λ _=>aaq [] [] [0] (v:=.tuple #[]) (H':=(ap [] [TO])) ?_;rw[aP];exact .inr aff
  ·have ek1:k=lb.length:=by omega
   subst ek1;refine ae 28 [.ro 0,.ro 0] λ _=>aai (jZ ra (some ⟨ba,0,none⟩) la.length ca _)<|ae 1 [] λ _=>bL 54 (decide_eq_false (show ¬ ((la.length:Int)=0) by omega))<|ae 10 [.ro 0,.ro 0] λ _=>aai (jZ ra (some ⟨ba,0,none⟩) la.length ca _)<|ae 3 [] λ _=>bL 64 (decide_eq_false (show ¬ ((la.length:Int)=0) by omega))<|ae 4 [.ro 1,.ro 1] λ _=>aai (jZ rb (some ⟨bb,0,none⟩) lb.length cb _)<|ae 3 [] λ _=>bL 74 (decide_eq_false (show ¬ ((lb.length:Int)=0) by omega))<|ae 3 [] λ _=>?_;refine aaq [] [] [0] (v:=.tuple #[]) (H':=(ap [] [T_])) ?_;rw[aP];exact .inl (by rw[hlen];exact UW)
end Go.Proofs.YtdppjkjbghbnjaaGreatDoor
