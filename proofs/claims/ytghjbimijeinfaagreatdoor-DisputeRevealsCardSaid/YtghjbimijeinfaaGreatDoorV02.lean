import Derived.Deep.AppendSrc
import Derived.Laws.AppendOwn
import Derived.LoopN
import Derived.RangeFuncSeq
import Derived.RangeFuncLeaves
import Derived.Shelf.Abstract
import Derived.Test.YtghjbimijeinfaaGreatDoorV01
set_option maxHeartbeats 4000000
set_option maxRecDepth 100000
set_option linter.all false
namespace Go.Proofs.YtghjbimijeinfaaGreatDoor
open Go.RowKit
structure Enc(α:Type) where
 w:Nat
 cell:α -> Nat -> Value
 dflt:α
section
variable {α:Type} (e:Enc α)
def bu(l:List α):Nat -> Nat -> Value:=λ i k=>e.cell (l.getD i e.dflt) k
def aw(l:List α):List Value:=l.flatMap λ x=>(List.range e.w).map (e.cell x)
theorem bQ(l:List α):(aw e l).length=l.length*e.w:=by
 induction l with
 | nil=>simp[aw]
 | cons x l ih=>simp only[aw,List.flatMap_cons,aaV,List.length_map,List.length_range,aaY,Nat.succ_mul] at ih ⊢;omega
theorem cF(l l':List α):aw e (l++l')=aw e l++aw e l':=by simp[aw]
theorem CE(l:List α):∀n,n <= l.length -> bC e.w (bu e l) n=aw e (l.take n)
 | 0,_=>by simp[bC,aw]
 | n+1,h=>by
  rw[bC,CE l n (by omega),List.take_succ_eq_append_getElem (by omega),cF];congr 1;simp[aw,bu,aa3 (show n<l.length by omega)]
theorem j5(l:List α):bC e.w (bu e l) l.length=aw e l:=by rw[CE e l _ (aaS _),List.take_length]
def SlIs(T:TypeId)(l:List α)(A:Option Addr)(cap:Nat)(Hl:HL):Prop :=
 (A=none /\ cap=0 /\ l=[] /\ Hl=[]) \/ ∃b o full,A=some ⟨b,o*e.w,none⟩ /\ Hl=[(b,.rows e.w (o+cap) (bu e full) T (0,0))] /\ full.length=o+cap /\ l.length <= cap /\ (full.drop o).take l.length=l
def bx:Option Addr -> Prop
 | none=>True
 | some a=>a.off=0
theorem SlIs.nil(T:TypeId):SlIs e T [] none 0 []:=.inl ⟨rfl,rfl,rfl,rfl⟩
end
def jR:List Value -> Nat -> List Value -> List Value
 | c,_,[]=>c
 | c,o,v::r=>jR (c.set o v) (o+1) r
theorem nK:∀ (news c:List Value) (o:Nat),o+news.length <= c.length -> ∀j,(jR c o news)[j]?=if o <= j /\ j<o+news.length then news[j-o]? else c[j]?
 | [],c,o,_,j=>by rw[jR,if_neg (by simp only[List.length_nil];omega)]
 | v::r,c,o,h,j=>by
  simp only[aaY] at h;rw[jR,nK r _ (o+1) (by simp;omega) j]
  by_cases h1:o+1 <= j /\ j<o+1+r.length
  ·rw[if_pos h1,if_pos (by simp only[aaY];omega)];obtain⟨d,rfl⟩:∃d,j=o+1+d:=⟨j-(o+1),by omega⟩;rw[show o+1+d-o=d+1 by omega,List.getElem?_cons_succ];congr 1;omega
  ·rw[if_neg h1,List.getElem?_set]
   by_cases h2:o=j
   ·subst h2;rw[if_pos rfl,if_pos (by omega),if_pos (by simp only[aaY];omega)];simp
   ·rw[if_neg h2,if_neg (by simp only[aaY];omega)]
theorem lN(b:Nat):∀ (news:List Value) (o:Nat) (w:World) (c:List Value) (ty:TypeId) (fz:Nat × Nat),w.heap[b]?=some (.cells ⟨c⟩ ty fz) -> (w.setCells b o news).heap[b]?=some (.cells ⟨jR c o news⟩ ty fz)
 | [],o,w,c,ty,fz,h=>h
 | v::r,o,w,c,ty,fz,h=>by
  rw[World.setCells,jR];refine lN b r (o+1) _ _ ty fz ?_;simp only[World.setCell,Array.getElem?_modify,if_true,h,Option.map_some];simp
theorem lO(b:Nat):∀ (news:List Value) (o:Nat) (w:World) (k:Nat),k≠b -> (w.setCells b o news).heap[k]?=w.heap[k]?
 | [],o,w,k,h=>rfl
 | v::r,o,w,k,h=>by
  rw[World.setCells,lO b r (o+1) _ k h];exact Below.heap_setCell _ _ _ _ h
theorem i0(b:Nat):∀ (news:List Value) (o:Nat) (w:World),Below 0 w (w.setCells b o news)
 | [],o,w=>Below.refl _ _
 | v::r,o,w=>((Below.refl 0 w).setCell (aaU _) v).trans (i0 b r (o+1) _)
theorem lu(n c:Nat)(h:c<n):Builtin.nextslicecap n c <= 2*n+192:=by
 unfold Builtin.nextslicecap;split
 ·omega
 ·split
  ·omega
  ·simp only[Builtin.growBy]
   repeat' split
   all_goals omega
section
variable {α:Type} {e:Enc α} {P:Program} {t tx ty T:TypeId} {inf:TypeInfo} {z:Value}
structure EncOk(e:Enc α)(P:Program)(T:TypeId)(inf:TypeInfo)(z:Value):Prop where
 info:P.info? T=some inf
 zero:inf.zero=some z
 size:inf.size=e.w
 zsize:z.cells.size=e.w
 zcell:∀k,k<e.w -> z.cells[k]?=some (e.cell e.dflt k)
 one:∀x k,(e.cell x k).oneCell'=true
 bytes:inf.bytes <= 1000
theorem qJ(ok:EncOk e P T inf z)(n:Nat):(Builtin.zeroCells z.cells n).toList=aw e (List.replicate n e.dflt):=by
 unfold Builtin.zeroCells;rw[xE,ok.zsize];have h1:=j5 e (List.replicate n e.dflt);rw[List.length_replicate] at h1;rw[<- h1];show bC _ _ _=_;refine wl λ i k hi hk=>?_;have h2:=ok.zcell k hk;simp only[bu,aaK,List.getElem?_replicate,Array.getD_eq_getD_getElem?,h2];split <;> rfl
theorem Ea(ok:EncOk e P T inf z)(ht:P.underlying t=some (.slice T)){l:List α}{A:Option Addr}{cap:Nat}{Hl G:HL}{w:World}(h:SlIs e T l A cap Hl)(hR:Rel (Hl++G) w)(src:List α)(x:Value)
  (hs:Src P inf.size tx x src.length (aw e src) w) (hb:l.length+src.length <= 100000000) :
  ∃A' f_ Is w',(Builtin.append_ #[t,tx] ty #[.slice A l.length cap,x]).run P w=.ok (.slice A' (l.length+src.length) f_) w' /\ (SlIs e T (l++src) A' f_ Is /\ (bx A -> bx A')) /\ Rel (Is++G) w' /\ Below 0 w w':=by
 have hby:=ok.bytes;have U9:∀c,c<l.length+src.length -> Builtin.nextslicecap (l.length+src.length) c*inf.bytes <= 281474976710656:=λ c hc=>by
  have h1:=lu (l.length+src.length) c hc;have h2:Builtin.nextslicecap (l.length+src.length) c*inf.bytes <= (2*100000000+192)*1000:=Nat.mul_le_mul (by omega) hby;omega
 have grow:∀ (hg:cap<l.length+src.length) (hold:(Builtin.firstCells inf.size l.length (.slice A l.length cap)).run P w.drew=.ok (aw e l).toArray w.drew),∃A' f_ Is w',(Builtin.append_ #[t,tx] ty #[.slice A l.length cap,x]).run P w=.ok (.slice A' (l.length+src.length) f_) w' /\ (SlIs e T (l++src) A' f_ Is /\ (bx A -> bx A')) /\ Rel (Is++G) w' /\ Below 0 w w':=by
  intro hg hold;have bY:=run_append_grow_src (P:=P) w t tx ty T inf z ht ok.info ok.zero A l.length cap (aw e l) hold x src.length (aw e src) hs hg (by omega) (U9 cap hg);have Yx:=grownCap_ge w (l.length+src.length) cap T;generalize grownCap w (l.length+src.length) cap T=nc at *;refine⟨_,nc,[(w.heap.size,.rows e.w (0+nc) (bu e (l++src++List.replicate (nc-(l.length+src.length)) e.dflt)) T (0,0))],_,bY,⟨.inr ⟨w.heap.size,0,l++src++List.replicate (nc-(l.length+src.length)) e.dflt,by simp,rfl,by simp;omega,by simp;omega,by rw[List.drop_zero,List.take_append_of_le_length (by simp),List.take_of_length_le (by simp)]⟩,λ _=>rfl⟩,?_,?_⟩
  ·have UE:Rel G w:=hR.drop;have:=(Rel.cons (.rows e.w (0+nc) (bu e (l++src++List.replicate (nc-(l.length+src.length)) e.dflt)) T (0,0)) (o:=.cells ((aw e l++aw e src).toArray++Builtin.zeroCells z.cells (nc-(l.length+src.length))) T (0,0)) ?_ (UE.world (w':=w.drew) rfl))
   ·exact this
   ·show Obj.cells _ _ _=_;congr 1;apply Array.ext';show bC _ _ _=_;have hl:0+nc=(l++src++List.replicate (nc-(l.length+src.length)) e.dflt).length:=by simp;omega
    rw[hl,j5,cF,cF,Array.toList_append,qJ ok]
  ·exact⟨rfl,rfl,rfl,by simp,λ k hk=>by omega⟩
 rcases h with ⟨rfl,rfl,rfl,rfl⟩|⟨b,o,full,rfl,rfl,TJ,hle,hl⟩
 ·-- nil
  rcases Nat.eq_zero_or_pos src.length with h0|h0
  ·obtain rfl:src=[]:=abb h0;refine⟨none,0,[],w,?_,⟨.inl ⟨rfl,rfl,by simp,rfl⟩,λ h=>h⟩,hR,Below.refl _ _⟩;have hc:(Builtin.firstCells inf.size 0 x).run P w=.ok #[] w:=hs.cells;rcases hs.kind with ⟨e',hk⟩|hk <;> simp[Builtin.append_,run_underlying ht,run_underlying hk,Go.sizeOf,typeInfo,ok.info,hs.len,hc]
  ·exact grow (by simp;omega) (by simp[aw];exact run_firstCells_none w.drew inf.size 0 0 0)
 ·have S7:=hR.holds _ (aav G (aaA));simp only[Blk.den] at S7;have ZA:(bC e.w (bu e full) (o+cap)).length=(o+cap)*e.w:=cZ _ _ _;have IT:bC e.w (bu e full) (o+cap)=aw e full:=by rw[<- TJ];exact j5 e full
  by_cases DO:l.length+src.length <= cap
  ·-- there is room
   have C_:=ok.size;have hnl:(aw e src).length=src.length*e.w:=bQ e src;have Ue:o*e.w+l.length*inf.size+(aw e src).length <= (o+cap)*e.w:=by
    rw[hnl,C_,<- Nat.add_mul,<- Nat.add_mul];exact Nat.mul_le_mul_right _ (by omega)
   have Ta:∀j,j<(aw e src).length -> (w.cell? ⟨b,o*e.w+l.length*inf.size+j,none⟩).isSome=true:=λ j hj=>by
    simp[World.cell?,S7,ZA];omega
   have aa2:∀j,j<(aw e src).length -> w.frozen? ⟨b,o*e.w+l.length*inf.size+j,none⟩=false:=λ j hj=>by simp[World.frozen?,S7]
   have bY:=run_append_room_src (P:=P) w t tx ty T inf ht ok.info b (o*e.w) l.length cap x src.length (aw e src) hs DO Ta aa2;have adZ:=lN b (aw e src) (o*e.w+l.length*inf.size) w _ _ _ S7;have adL:jR (bC e.w (bu e full) (o+cap)) (o*e.w+l.length*inf.size) (aw e src)=aw e (full.take (o+l.length)++src++full.drop (o+l.length+src.length)):=by
    apply List.ext_getElem?;intro j;rw[nK _ _ _ (by rw[ZA];exact Ue),IT,cF,cF];have c1:(aw e (full.take (o+l.length))).length=(o+l.length)*e.w:=by rw[bQ,aaW];congr 1;omega
    have c0:o*e.w+l.length*inf.size=(o+l.length)*e.w:=by rw[C_,<- Nat.add_mul]
    have WX:aw e full=aw e (full.take (o+l.length))++aw e (full.drop (o+l.length)):=by rw[<- cF,List.take_append_drop]
    have Yi:aw e (full.drop (o+l.length))=aw e ((full.drop (o+l.length)).take src.length)++aw e (full.drop (o+l.length+src.length)):=by
     rw[<- cF,show o+l.length+src.length=(o+l.length)+src.length from rfl,<- List.drop_drop (i:=src.length) (j:=o+l.length),List.take_append_drop]
    have c2:(aw e ((full.drop (o+l.length)).take src.length)).length=src.length*e.w:=by rw[bQ,aaW,List.length_drop];congr 1;omega
    rw[c0]
    by_cases h1:j<(o+l.length)*e.w
    ·rw[if_neg (by omega),WX,aaF,aa4 (by omega),aa4 (by omega)]
    ·by_cases h2:j<(o+l.length)*e.w+src.length*e.w
     ·rw[if_pos (by omega),aaF,aa6 (by omega),aa4 (by omega),c1]
     ·rw[if_neg (by omega),WX,Yi,aaF,aa6 (by omega),aa6 (by omega),aa6 (by omega),aa6 (by omega),c1,c2,hnl]
   have adN:(full.take (o+l.length)++src++full.drop (o+l.length+src.length)).length=o+cap:=by simp;omega
   refine⟨_,cap,[(b,.rows e.w (o+cap) (bu e (full.take (o+l.length)++src++full.drop (o+l.length+src.length))) T (0,0))],_,bY,⟨.inr ⟨b,o,_,rfl,rfl,adN,by simp;omega,?_⟩,λ h=>h⟩,?_,i0 _ _ _ _⟩
   ·have h1:full.take (o+l.length)=full.take o++l:=by rw[List.take_add,hl]
    rw[h1,aaF,aaF,List.drop_append_of_le_length (by simp;omega),List.drop_eq_nil_of_le (by rw[aaW];omega),List.nil_append,<- aaF];rw[List.take_append_of_le_length (by simp)];exact List.take_of_length_le (by simp)
   ·refine⟨?_,by have:=hR.nodup;simpa using this⟩;intro y hy;rcases List.mem_cons.1 hy with rfl|hy
    ·rw[adZ,adL];simp only[Blk.den];rw[<- adN,j5]
    ·have u_:y.1≠b:=by
      have:=hR.nodup;simp only[List.cons_append,List.nil_append,List.map_cons,List.nodup_cons] at this;intro e1;exact this.1 (by rw[<- e1];exact List.mem_map_of_mem hy)
     rw[lO b _ _ _ _ u_];exact hR.holds y (aau _ hy)
  ·refine grow (by omega) ?_;refine run_firstCells_some w.drew inf.size l.length ⟨b,o*e.w,none⟩ l.length cap (aw e l) (by rw[bQ,ok.size]) ?_;intro j u hj;have VZ:j<(aw e l).length:=(List.getElem?_eq_some_iff.1 hj).1;rw[bQ] at VZ;have I_:aw e l=((aw e full).drop (o*e.w)).take (l.length*e.w):=by
    have h1:aw e full=aw e (full.take o)++(aw e l++aw e ((full.drop o).drop l.length)):=by
     rw[<- cF,<- cF];congr 1
     conv=>lhs;rw[<- List.take_append_drop o full]
     congr 1
     conv=>lhs;rw[<- List.take_append_drop l.length (full.drop o)]
     rw[hl]
    have c1:(aw e (full.take o)).length=o*e.w:=by rw[bQ,aaW];congr 1;omega
    rw[h1,List.drop_append_of_le_length (by omega),List.drop_eq_nil_of_le (by omega),List.nil_append,List.take_append_of_le_length (by rw[bQ];exact aaS _),List.take_of_length_le (by rw[bQ];exact aaS _)]
   rw[Addr.add_lit];show World.cell? w ⟨b,o*e.w+j,none⟩=some u;simp only[World.cell?,S7,IT];rw[I_,List.getElem?_take,if_pos (by omega),List.getElem?_drop] at hj;simpa using hj
theorem pK{N:Nat}{D:List Deferred}{F:HL}{L:FL}{H:HL}(ok:EncOk e P T inf z){o:Oper}{a1 a2:Operand}(j_:o.op=.call { callee:=.builtin .append,args:=#[a1,a2],argTypes:=#[t,tx] })(ht:P.underlying t=some (.slice T))
  {l src:List α} {A:Option Addr} {cap n:Nat} {Hl G:HL} {x:Value} (hi:(gB L a1 && gB L a2)=true) (h1:fG L a1=.slice A n cap) (hn:n=l.length) (h2:fG L a2=x) (AT:(Hl++G).Perm H) (hsl:SlIs e T l A cap Hl)
  (hs:∀w,Rel (H++F) w -> Src P inf.size tx x src.length (aw e src) w) (hb:l.length+src.length <= 100000000) (a:Act) (hF:Fm N D L a) (w:World) (hR:Rel (H++F) w) :
  dW P o a w λ u w'=>∃y:Option Addr × Nat × HL,(u=.slice y.1 (n+src.length) y.2.1 /\ (SlIs e T (l++src) y.1 y.2.1 y.2.2 /\ (bx A -> bx y.1))) /\ Rel ((y.2.2++G)++F) w' /\ Below 0 w w':=by
 subst hn;simp only[abe] at hi;have e1:=(hF.eval hi.1).trans h1;have e2:=(hF.eval hi.2).trans h2;have G_:Rel (Hl++(G++F)) w:=by rw[<- aaF];exact hR.perm (AT.append_right F)
 obtain⟨A',f_,Is,w',r1,r2,r3,r4⟩:=Ea (ty:=o.type) ok ht hsl G_ src x (hs w hR) hb;unfold dW;have bY:(execOp a.eval o).run P w=.ok (.value (.slice A' (l.length+src.length) f_)) w':=by
  simp[execOp,j_,resolve,invoke,builtin,abp,e1,e2,r1]
 rw[bY];exact⟨(A',f_,Is),⟨rfl,r2⟩,by rw[aaF];exact r3,r4⟩
theorem CF{H F:HL}{w:World}(ok:EncOk e P T inf z){e':TypeId}(hk:P.underlying tx=some (.slice e')){sb c:Nat}{src:List α}{ty:TypeId}{fz:Nat × Nat}(p:Nat)(h:H[p]?=some (sb,.lit (aw e src) ty fz))(hR:Rel (H++F) w):Src P inf.size tx (vS sb 0 src.length c) src.length (aw e src) w:=by
 refine Src.ofSlice w hk _ _ _ _ (by rw[bQ,ok.size]) ?_ ?_
 ·intro j u hj;have hb:=hR.holds _ (aav F (List.mem_of_getElem? h));simp only[Blk.den] at hb;rw[Addr.add_lit];simp[World.cell?,hb,hj]
 ·intro u hu;simp only[aw,List.mem_flatMap,List.mem_map] at hu;obtain⟨x,_,k,_,rfl⟩:=hu;exact ok.one x k
end
section
variable {r:Option Nat} {P:Program} {N:Nat} {D:List Deferred} {F:HL} {w0:World} {ops:Array Oper} {i:Nat} {L:FL} {H:HL} {Q:Exit -> Act -> World -> Prop}
def i2(H:HL):List (Nat × Obj):=H.map λ x=>(x.1,x.2.den)
theorem Rel.den{H H':HL}{w:World}(e:i2 H=i2 H')(h:Rel H w):Rel H' w:=by
 have h1:H'.map (·.1)=H.map (·.1):=by
  have:=congrArg (List.map (·.1)) e;simpa [i2,Function.comp_def] using this.symm
 refine⟨λ x hx=>?_,by have:=h.nodup;rw[h1];exact this⟩;have:(x.1,x.2.den)∈i2 H:=e ▸ List.mem_map_of_mem hx;obtain⟨y,hy,e2⟩:=List.mem_map.1 this;have h3:=h.holds y hy;simp only[Prod.mk.injEq] at e2;rw[<- e2.1,<- e2.2];exact h3
theorem Rel.denA{A A' F:HL}{Ts:List HL}{w:World}(e:i2 A=i2 A')(h:Rel (ap A Ts++F) w):Rel (ap A' Ts++F) w :=
 h.den (by simp only[i2,List.map_append] at e ⊢;rw[e])
end
theorem SlIs.open{α:Type}{e:Enc α}{T:TypeId}{l:List α}{A:Option Addr}{cap:Nat}{Hl:HL}(h:SlIs e T l A cap Hl)(hl:0<l.length):∃b o full,A=some ⟨b,o*e.w,none⟩ /\ Hl=[(b,.rows e.w (o+cap) (bu e full) T (0,0))] /\ full.length=o+cap /\ l.length <= cap /\ ∀i,i<l.length -> full.getD (o+i) e.dflt=l.getD i e.dflt:=by
 rcases h with ⟨_,_,rfl,_⟩|⟨b,o,full,h1,h2,h3,h4,h5⟩
 ·simp at hl
 ·refine⟨b,o,full,h1,h2,h3,h4,λ i hi=>?_⟩;have:l.getD i e.dflt=((full.drop o).take l.length).getD i e.dflt:=by rw[h5]
  rw[this];simp only[aaK,List.getElem?_take,List.getElem?_drop,hi,if_true]
theorem SlIs.open0{α:Type}{e:Enc α}{T:TypeId}{l:List α}{A:Option Addr}{cap:Nat}{Hl:HL}(h:SlIs e T l A cap Hl)(hz:bx A)(hw:0<e.w)(hl:0<l.length):∃b rest,A=some ⟨b,0,none⟩ /\ Hl=[(b,.rows e.w cap (bu e (l++rest)) T (0,0))] /\ l.length <= cap:=by
 rcases h with ⟨_,_,rfl,_⟩|⟨b,o,full,rfl,rfl,h3,h4,h5⟩
 ·simp at hl
 ·have ho:o=0:=by
   have h6:o*e.w=0:=hz;rcases Nat.mul_eq_zero.1 h6 with h|h
   ·exact h
   ·omega
  subst ho;refine⟨b,full.drop l.length,by rw[Nat.zero_mul],?_,h4⟩;have:l++full.drop l.length=full:=by
   conv=>lhs;lhs;rw[<- h5]
   rw[List.drop_zero,List.take_append_drop]
  rw[this,Nat.zero_add]
section
variable {r:Option Nat} {P:Program} {N:Nat} {D:List Deferred} {F:HL} {w0:World} {ops:Array Oper} {i:Nat} {L:FL} {Q:Exit -> Act -> World -> Prop} {A:HL} {Ts Vk:List HL} {x:Nat × Blk}
theorem AG{A:HL}{Ts Vk:List HL}{x:Nat × Blk}(jr:List Nat)(j:Nat)(hp:([j]++jr).isPerm (List.range Ts.length)=true)(hj:Ts[j]?=some [x])(hr:jr.filterMap (Ts[·]?)=Vk):(ap (x::A) Vk).Perm (ap A Ts):=by
 have h3:=fc Ts [j] jr hp;simp only[List.filterMap_cons,hj,List.filterMap_nil,hr] at h3;have h4:=h3.flatten;simp only[List.cons_append,List.nil_append,List.flatten_cons] at h4;show (x::(A++Vk.flatten)).Perm (A++Ts.flatten);refine List.Perm.trans ?_ (List.Perm.append_left A h4);exact(List.perm_middle (a:=x) (l₁:=A) (l₂:=Vk.flatten)).symm
theorem GC{A:HL}{Ts Vk:List HL}(jp:List Nat)(hp:jp.isPerm (List.range Ts.length)=true)(e:jp.filterMap (Ts[·]?)=Vk):(ap A Vk).Perm (ap A Ts):=by
 have h3:=fc Ts jp [] (by simpa using hp);rw[e] at h3;simp only[List.filterMap_nil,List.append_nil] at h3;exact List.Perm.append_left A h3.flatten
end
open Go.Shelf
def YL(P:Program)(l:Nat)(args:Array Value)(H F:HL)(R:Bool -> HL -> Prop):Prop :=
 ∀w,Rel (H++F) w -> YieldAt (Wr none) 0 P l args w λ e W'=>∃b H',e=.returned (.bool b) /\ R b H' /\ Rel (H'++F) W' /\ Below 0 w W'
def It(P:Program)(g:FuncId)(lb:Array Value)(F:HL){α:Type}(encs:α -> Array Value)(xs:List α):Prop :=
 ∀ (X:HL) (l:Nat) (J:Nat -> HL -> Prop) (Jx:HL -> Prop) (H0:HL),(∀i x H Y,xs[i]?=some x -> J i H -> YL P l (encs x) H (Y++(X++F)) (λ b H'=>(b=true /\ J (i+1) H') \/ (b=false /\ Jx H'))) -> J 0 H0 ->
  Sp P g (#[.func (.yield l) #[] #[]]++lb) H0 (X++F) (λ _ H'=>J xs.length H' \/ Jx H')
def AJ(P:Program)(n0 N:Nat)(ops:List Oper)(i:Nat)(L:FL)(H R:HL)(hints:List Hint):Option (Option Tmp × Nat × Array Value × List Prop) :=
 match ops[i]? with
 | none=>none
 | some o=>match jC ops o L ⟨H,R,hints,0,[],[],true⟩ with
  | some (true,s)=>match iW o.op L,s.hints,s.eq with
   | true,[],[]=>match o.op with
    | .call c=>match c.callee with
     | .value f=>match fG L f with
      | .func (.yield l) cap bound=>match cap.toList,bound.toList with
       | [],[]=>some (o.dst,l,c.args.map (fG L),s.ob)
       | _,_=>none
      | _=>none
     | _=>none
    | _=>none
   | _,_,_=>none
  | _=>none
theorem AK{P:Program}{ρ:Operand -> Value}{o:Oper}{c:Call}{f:Operand}{l:Nat}(ho:o.op=.call c)(hc:c.callee=.value f)(hf:ρ f=.func (.yield l) #[] #[])(w:World) :
  (execOp ρ o).run P w=(Instr.yield l (c.args.map ρ)).run P w:=by
 simp[execOp,ho,resolve,hc,hf,Deferred.ofValue,invoke,abp,Result.andThen]
abbrev cE(d:Nat):Nat × Blk:=(d,.obj (.deferred (some [])))
abbrev coll(d:Nat):Deferred:={ target:=.collected d,args:=#[] }
theorem Rel.putObj{H F:HL}{w:World}{l:Nat}{b:Blk}(b':Blk)(h:Rel ((l,b)::H) w):Rel ((l,b')::H) (w.putObj l b'.den):=by
 have hl:=h.lt (aaA);refine⟨λ x hx=>?_,by simpa using h.nodup⟩;rcases List.mem_cons.1 hx with rfl|hx
 ·exact World.putObj_heap_same hl
 ·have u_:x.1≠l:=by
   have:=h.nodup;simp only[List.map_cons,List.nodup_cons] at this;intro e;exact this.1 (e ▸ List.mem_map_of_mem hx)
  exact(World.putObj_heap_other u_).trans (h.holds x (aaC _ hx))
theorem dX{w:World}(l:Nat)(o:Obj):Below 0 w (w.putObj l o):=⟨rfl,rfl,rfl,by simp,λ k hk=>by omega⟩
theorem iC{w:World}(o:Obj):Below 0 w (w.alloc o):=⟨rfl,rfl,rfl,by simp,λ k hk=>by omega⟩
theorem Rel.alloc{H:HL}{w:World}(b:Blk)(h:Rel H w):Rel ((w.heap.size,b)::H) (w.alloc b.den):=Rel.cons b rfl h
def RQ{σ:Type}(F:HL)(w0:World)(Hx:σ -> HL)(I:σ -> Prop)(Ix:Code -> σ -> Prop):Exit -> Act -> World -> Prop
 | .normal,_,w=>∃s,I s /\ Rel (Hx s++F) w /\ Below 0 w0 w
 | .ret,_,w=>∃s,Ix .ret s /\ Rel (Hx s++F) w /\ Below 0 w0 w
 | .exit id,_,w=>∃s,Ix (.exit id) s /\ Rel (Hx s++F) w /\ Below 0 w0 w
 | _,_,_=>False
section
variable {P:Program} {N:Nat} {D:List Deferred} {F:HL} {w0:World} {L:FL} {Q:Exit -> Act -> World -> Prop}
def rj:List Tmp -> List Value -> FL -> FL
 | p::ps,v::vs,L=>rj ps vs ((p,v)::L)
 | _,_,L=>L
theorem Fm.zip:∀ (ps:List Tmp) (vs:List Value) (L:FL) (tmps:Array Value),(∀p∈ps,p<N) -> Fm N D L { tmps:=tmps,defers:=D } -> Fm N D (rj ps vs L) { tmps:=(ps.zip vs).foldl (λ t (p,v)=>t.setIfInBounds p v) tmps,defers:=D }
 | p::ps,v::vs,L,tmps,hN,h=>by
  rw[rj,List.zip_cons_cons,List.foldl_cons];refine Fm.zip ps vs _ _ (λ q hq=>hN q (aaC _ hq)) ?_;refine⟨by simpa using h.size,rfl,λ t u ht=>?_⟩;have hs:tmps.size=N:=h.size;have hp:=hN p aaA;rw[List.lookup_cons] at ht;simp only
  by_cases e:t=p
  ·subst e;simp at ht;subst ht;rw[Array.getElem?_setIfInBounds];simp[hs,hp]
  ·have:(t == p)=false:=by simpa using e
   rw[this] at ht;rw[Array.getElem?_setIfInBounds,if_neg (λ e'=>e e'.symm)];exact h.has _ _ ht
 | [],vs,L,tmps,_,h=>by simpa [rj] using h
 | _::_,[],L,tmps,_,h=>by simpa [rj] using h
theorem TR.range{α σ τ:Type}{g:Operand}{ps:Array Tmp}{assign body:Code}{encs:α -> Array Value}{xs:List α}{gf:FuncId}{lb:Array Value}(hi:gB L g=true)(hg:fG L g=.func (.func gf) #[] lb)(eg:∀args w,(callFunc gf args).run P w=.ok (.enter gf args) w)
  (Hx:σ -> HL) (I:Nat -> σ -> Prop) (Ix:Code -> σ -> Prop) (La:τ -> FL) (Ha:τ -> HL) (Ia:Nat -> α -> τ -> Prop) (Zz:∀x,(encs x).size=ps.size) (UA:(ps.toList.all λ p=>decide (p<N))=true)
  (x0:σ) (h0:I 0 x0) {A:HL} {Ts:List HL} (ip ir jp jr:List Nat) (hp:(ip++ir).isPerm (List.range A.length)=true) (hj:(jp++jr).isPerm (List.range Ts.length)=true) (Hr:HL) (Tr:List HL) (hHr:ir.filterMap (A[·]?)=Hr) (hTr:jr.filterMap (Ts[·]?)=Tr) (hH:ap (ip.filterMap (A[·]?)) (jp.filterMap (Ts[·]?))=Hx x0)
  (hit:It P gf lb (ap Hr Tr++F) encs xs)
  (r_:∀ (l i:Nat) (x:α) (s:σ) (Y:HL) (w1:World),xs[i]?=some x -> I i s -> TR (some l) P N [] (Y++(ap Hr Tr++F)) w1 (rj ps.toList (encs x).toList L) (Hx s) assign (Exit.then (NY N [] (Y++(ap Hr Tr++F)) w1 La Ha (Ia i x)) (λ _ _ _=>False)))
  (SV:∀ (l i:Nat) (x:α) (t:τ) (Y:HL) (w1:World),xs[i]?=some x -> Ia i x t -> TR (some l) P N [] (Y++(ap Hr Tr++F)) w1 (La t) (Ha t) body (RQ (Y++(ap Hr Tr++F)) w1 Hx (I (i+1)) Ix))
  (RW:∀ (d:Nat) (s:σ),I xs.length s -> EX N (coll d::D) F w0 L (cE d::(Hx s++ap Hr Tr)) Q .normal)
  (OF:∀ (d:Nat) (c:Code) (s:σ),Ix c s -> TR none P N (coll d::D) F w0 L (cE d::(Hx s++ap Hr Tr)) c Q) :
  TR none P N D F w0 L (ap A Ts) (.rangeFunc g ps assign body) Q:=by
 intro a w hF hR hB;have TT:Rel (Hx x0++(ap Hr Tr++F)) w:=by
  have h1:=mu A Ts ip ir jp jr hp hj;rw[hHr,hTr,hH] at h1;rw[<- aaF];exact hR.perm (h1.append_right F)
 refine wpIn_rangeFunc ?_;intro fn hfn;obtain⟨rec,Q_⟩:∃rec:LoopState -> Option Code -> Loop,rec=λ st pe=>{ state:=st,pending:=pe,fn,tmps:=a.tmps,params:=ps,assign,body,defers:=w.heap.size }:=⟨_,rfl⟩;obtain⟨W1,hW1⟩:∃W1,(w.alloc (.deferred (some []))).alloc (.loop (rec .ready none))=W1:=⟨_,rfl⟩;have hB1:Below 0 w W1:=by rw[<- hW1];exact(iC _).trans (iC _)
 have hRW:Rel ((w.heap.size+1,Blk.obj (.loop (rec .ready none)))::cE w.heap.size::(Hx x0++(ap Hr Tr++F))) W1:=by
  rw[<- hW1];have h1:=(TT.alloc (.obj (.deferred (some [])))).alloc (.obj (.loop (rec .ready none)));rw[World.size_alloc] at h1;exact h1
 refine⟨w.heap.size+1,[coll w.heap.size],W1,{ target:=.fn (.func gf) lb,args:=#[.func (.yield (w.heap.size+1)) #[] #[]] },W1,gf,#[.func (.yield (w.heap.size+1)) #[] #[]]++lb,W1,?_,?_,?_,?_,λ h=>(by cases h),?_⟩
 ·rw[<- hW1,Q_];exact run_enterLoop_outer _ _ _ _ _
 ·have Yx:a.eval g=.func (.func gf) #[] lb:=(hF.eval hi).trans hg;simp only[resolve,Yx];simp[Deferred.ofValue];rfl
 ·intro f' _;trivial
 ·simp[invoke,eg]
 ·refine j0 ?_;obtain⟨l,hl⟩:∃l,w.heap.size+1=l:=⟨_,rfl⟩;rw[hl] at hRW ⊢;obtain⟨d,hd⟩:∃d,w.heap.size=d:=⟨_,rfl⟩;rw[hd] at hRW Q_ ⊢;have key:=hit [] l (λ i H'=>∃s,I i s /\ H'=(l,Blk.obj (.loop (rec .ready none)))::cE d::Hx s) (λ H'=>∃c s,Ix c s /\ H'=(l,Blk.obj (.loop (rec .done (some c))))::cE d::Hx s)
   ((l,Blk.obj (.loop (rec .ready none)))::cE d::Hx x0) ?round ⟨x0,h0,rfl⟩ W1 hRW
  case round =>
   rintro i x H' Y hx ⟨s,hs,rfl⟩ W aT;have Tt:Rel ((l,Blk.obj (.loop (rec .ready none)))::(cE d::(Hx s++(Y++(ap Hr Tr++F))))) W:=aT;have hlW:W.heap[l]?=some (.loop (rec .ready none)):=Tt.holds _ aaA;have hy:=run_yield (P:=P) (args:=encs x) hlW (by rw[Q_];exact Zz x);rw[Q_] at hy;refine⟨fn,_,assign,body,hy,roundIn_of_wpIn (F:=Wr none) (n:=0) hfn ?_⟩;have hFm:Fm N [] (rj ps.toList (encs x).toList L) { tmps:=(ps.zip (encs x)).foldl (λ t (p,v)=>t.setIfInBounds p v) a.tmps,defers:=[] }:=by
    have h1:=Fm.zip (D:=[]) ps.toList (encs x).toList L a.tmps (λ p hp=>abq (List.all_eq_true.1 UA p hp)) ⟨hF.size,rfl,hF.has⟩;have e:(ps.zip (encs x)).foldl (λ t (p,v)=>t.setIfInBounds p v) a.tmps=(ps.toList.zip (encs x).toList).foldl (λ t (p,v)=>t.setIfInBounds p v) a.tmps:=by
     rw[<- Array.foldl_toList,Array.toList_zip]
    rw[e];exact h1
   have hRA:Rel (Hx s++(((l,Blk.obj (.loop (rec .ready none)))::cE d::Y)++(ap Hr Tr++F))) W:=by
    have:=Tt;refine this.perm ?_;simp only[List.cons_append];refine List.perm_middle.trans ?_;refine List.Perm.cons _ ?_;exact List.perm_middle
   refine wpIn_mono (r_ l i x s ((l,Blk.obj (.loop (rec .ready none)))::cE d::Y) W hx hs _ W hFm hRA (Below.refl _ _)) ?_;intro e a1 Wa hq;cases e with
   | normal =>
    obtain⟨t,ht,m1,m2,m3⟩:=hq;have hRb:Rel ((l,Blk.obj (.loop (rec .ready none)))::(cE d::(Ha t++(Y++(ap Hr Tr++F))))) Wa:=by
     refine m2.perm ?_;simp only[List.cons_append];refine(List.Perm.trans ?_ List.perm_middle.symm);refine List.Perm.cons _ ?_;exact List.perm_middle.symm
    have hla:Wa.heap[l]?=some (.loop (rec .ready none)):=hRb.holds _ aaA;refine⟨_,run_beginRound hla (by rw[Q_]),?_⟩;have hRc:=hRb.putObj (F:=[]) (.obj (.loop { rec .ready none with state:=.busy }));have Up:Rel (Ha t++(((l,Blk.obj (.loop { rec .ready none with state:=.busy }))::cE d::Y)++(ap Hr Tr++F))) (Wa.putObj l (.loop { rec .ready none with state:=.busy })):=by
     refine hRc.perm ?_;simp only[List.cons_append];refine List.perm_middle.trans ?_;refine List.Perm.cons _ ?_;exact List.perm_middle
    refine wpIn_mono (SV l i x t ((l,Blk.obj (.loop { rec .ready none with state:=.busy }))::cE d::Y) W hx ht a1 _ m1 Up (m3.trans (dX _ _))) ?_;have fin:∀ (jump:Option Code) (s':σ) (W3:World),Rel (Hx s'++(((l,Blk.obj (.loop { rec .ready none with state:=.busy }))::cE d::Y)++(ap Hr Tr++F))) W3 -> Below 0 W W3 ->
      ∃v w',(Instr.endRound l jump).run P W3=.ok v w' /\ v=.bool jump.isNone /\ Rel (((l,Blk.obj (.loop (rec (if jump.isNone then .ready else .done) jump)))::cE d::Hx s')++(Y++([]++(ap Hr Tr++F)))) w' /\ Below 0 W w':=by
     intro jump s' W3 h3 YC;have h4:Rel ((l,Blk.obj (.loop { rec .ready none with state:=.busy }))::(cE d::(Hx s'++(Y++(ap Hr Tr++F))))) W3:=by
      refine h3.perm ?_;simp only[List.cons_append];refine(List.Perm.trans ?_ List.perm_middle.symm);refine List.Perm.cons _ ?_;exact List.perm_middle.symm
     have Wc:W3.heap[l]?=some (.loop { rec .ready none with state:=.busy }):=h4.holds _ aaA;have bY:=run_endRound (P:=P) jump Wc;refine⟨_,_,bY,rfl,?_,YC.trans (dX _ _)⟩;have h5:=h4.putObj (F:=[]) (.obj (.loop (rec (if jump.isNone then .ready else .done) jump)));rw[Q_] at h5 ⊢;exact h5
    intro e2 a2 W3 S0;cases e2 with
    | normal =>
     obtain⟨s',O_,n2,n3⟩:=S0;obtain⟨v,w',k1,k2,k3,k4⟩:=fin none s' W3 n2 n3;exact⟨v,w',k1,true,_,by rw[k2];rfl,.inl ⟨rfl,s',O_,rfl⟩,k3,k4⟩
    | ret =>
     obtain⟨s',O_,n2,n3⟩:=S0;obtain⟨v,w',k1,k2,k3,k4⟩:=fin (some .ret) s' W3 n2 n3;exact⟨v,w',k1,false,_,by rw[k2];rfl,.inr ⟨rfl,.ret,s',O_,rfl⟩,k3,k4⟩
    | exit id =>
     obtain⟨s',O_,n2,n3⟩:=S0;obtain⟨v,w',k1,k2,k3,k4⟩:=fin (some (.exit id)) s' W3 n2 n3;exact⟨v,w',k1,false,_,by rw[k2];rfl,.inr ⟨rfl,.exit id,s',O_,rfl⟩,k3,k4⟩
    | goto t=>exact S0.elim
    | panic ch=>exact S0.elim
    | outgrown=>exact S0.elim
   | exit id=>exact hq.elim
   | goto t=>exact hq.elim
   | ret=>exact hq.elim
   | panic ch=>exact hq.elim
   | outgrown=>exact hq.elim
  refine key.mono ?_;rintro e W2 ⟨v,H',rfl,hor,UE,VK⟩;have fin:∀ (st:LoopState) (pe:Option Code) (s:σ) (hst:st ≠ .busy),Rel (((l,Blk.obj (.loop (rec st pe)))::cE d::Hx s)++([]++(ap Hr Tr++F))) W2 ->
    ∃w4,(Instr.endLoop l).run P W2=.ok pe w4 /\ Rel ((cE d::(Hx s++ap Hr Tr))++F) w4 /\ Below 0 W1 w4:=by
   intro st pe s hst h4;have h5:Rel ((l,Blk.obj (.loop (rec st pe)))::(cE d::(Hx s++(ap Hr Tr++F)))) W2:=h4;have Of:W2.heap[l]?=some (.loop (rec st pe)):=h5.holds _ aaA;have bY:=run_endLoop (P:=P) Of (by rw[Q_];exact hst);refine⟨W2.putObj l (.loop { rec st pe with state:=.exhausted }),?_,?_,VK.trans (dX _ _)⟩
   ·rw[bY,Q_]
   ·have h6:=h5.putObj (F:=[]) (.obj (.loop { rec st pe with state:=.exhausted }));have h7:=Rel.drop (X:=[(l,Blk.obj (.loop { rec st pe with state:=.exhausted }))]) (H:=cE d::(Hx s++(ap Hr Tr++F))) h6;rw[<- aaF] at h7;exact h7
  have hFd:Fm N (coll d::D) L { a with defers:=[coll d]++a.defers }:=⟨hF.size,by rw[hF.defs];rfl,hF.has⟩;rcases hor with ⟨s,hs,rfl⟩|⟨c,s,hs,rfl⟩
  ·obtain⟨w4,k1,k2,k3⟩:=fin .ready none s (by simp) UE;exact⟨none,w4,k1,RW d s hs _ w4 hFd k2 (hB.trans (hB1.trans k3))⟩
  ·obtain⟨w4,k1,k2,k3⟩:=fin .done (some c) s (by simp) UE;exact⟨some c,w4,k1,OF d c s hs _ w4 hFd k2 (hB.trans (hB1.trans k3))⟩
theorem Eb{α σ τ:Type}{g:Operand}{ps:Array Tmp}{assign body:Code}{encs:α -> Array Value}{xs:List α}{gf:FuncId}{lb:Array Value}(hi:gB L g=true)(hg:fG L g=.func (.func gf) #[] lb)(eg:∀args w,(callFunc gf args).run P w=.ok (.enter gf args) w)
  (Ax:σ -> HL) (Tx:σ -> List HL) (I:Nat -> σ -> Prop) (Ix:Code -> σ -> Prop) (La:τ -> FL) (Ha:τ -> HL) (Ia:Nat -> α -> τ -> Prop) (Zz:∀x,(encs x).size=ps.size) (UA:(ps.toList.all λ p=>decide (p<N))=true)
  (x0:σ) (h0:I 0 x0) {A:HL} {Ts:List HL} (ip ir jp jr:List Nat) (hp:(ip++ir).isPerm (List.range A.length)=true) (hj:(jp++jr).isPerm (List.range Ts.length)=true) (Hr:HL) (Tr:List HL) (hHr:ir.filterMap (A[·]?)=Hr) (hTr:jr.filterMap (Ts[·]?)=Tr) (hA:ip.filterMap (A[·]?)=Ax x0) (hT:jp.filterMap (Ts[·]?)=Tx x0)
  (hit:It P gf lb (ap Hr Tr++F) encs xs)
  (r_:∀ (l i:Nat) (x:α) (s:σ) (Y:HL) (w1:World),xs[i]?=some x -> I i s -> TR (some l) P N [] (Y++(ap Hr Tr++F)) w1 (rj ps.toList (encs x).toList L) (ap (Ax s) (Tx s)) assign (Exit.then (NY N [] (Y++(ap Hr Tr++F)) w1 La Ha (Ia i x)) (λ _ _ _=>False)))
  (SV:∀ (l i:Nat) (x:α) (t:τ) (Y:HL) (w1:World),xs[i]?=some x -> Ia i x t -> TR (some l) P N [] (Y++(ap Hr Tr++F)) w1 (La t) (Ha t) body (RQ (Y++(ap Hr Tr++F)) w1 (λ s=>ap (Ax s) (Tx s)) (I (i+1)) Ix))
  (RW:∀ (d:Nat) (s:σ),I xs.length s -> EX N (coll d::D) F w0 L (ap (cE d::(Ax s++Hr)) (Tx s++Tr)) Q .normal)
  (OF:∀ (d:Nat) (c:Code) (s:σ),Ix c s -> TR none P N (coll d::D) F w0 L (ap (cE d::(Ax s++Hr)) (Tx s++Tr)) c Q) :
  TR none P N D F w0 L (ap A Ts) (.rangeFunc g ps assign body) Q:=by
 have hpm:∀ (d:Nat) (s:σ),(ap (cE d::(Ax s++Hr)) (Tx s++Tr)).Perm (cE d::(ap (Ax s) (Tx s)++ap Hr Tr)):=λ d s=>by
  show (cE d::((Ax s++Hr)++(Tx s++Tr).flatten)).Perm _;refine List.Perm.cons _ ?_;rw[List.flatten_append];show ((Ax s++Hr)++((Tx s).flatten++Tr.flatten)).Perm ((Ax s++(Tx s).flatten)++(Hr++Tr.flatten));rw[aaF,aaF];refine List.Perm.append_left _ ?_;rw[<- aaF,<- aaF];exact aa8 _ aa7
 exact TR.range hi hg eg (λ s=>ap (Ax s) (Tx s)) I Ix La Ha Ia Zz UA x0 h0 ip ir jp jr hp hj Hr Tr hHr hTr (by rw[hA,hT]) hit r_ SV
  (λ d s hs a w h1 h2 h3=>RW d s hs a w h1 (h2.perm ((hpm d s).append_right F)) h3) (λ d c s hs a w h1 h2 h3=>OF d c s hs a w h1 (h2.perm ((hpm d s).append_right F)) h3)
theorem oH{fn:Func}{tmps:Array Value}{R:Ending -> World -> Prop}:∀ (ds:List Nat) (H:HL) (w:World),Rel (ds.map cE++H) w -> Below 0 w0 w -> (∀w',Rel H w' -> Below 0 w0 w' -> LeavesIn (Wr none) 0 P fn tmps R [] .returning w') ->
  LeavesInM (Wr none) 0 P fn tmps R (ds.map coll) .returning w
 | [],H,w,h,hB,hk=>hk w h hB
 | d::ds,H,w,h,hB,hk=>by
  have hd:w.heap[d]?=some (.deferred (some [])):=h.holds (cE d) (by simp);have h1:Rel ((d,Blk.obj (.deferred (some [])))::(ds.map cE++H)) w:=h;have h2:=(h1.putObj (F:=[]) (.obj (.deferred none)));exact⟨by simp,.inl ⟨d,_,rfl,run_takeDeferred hd,oH ds H _ (Rel.drop (X:=[(d,Blk.obj (.deferred none))]) h2) (hB.trans (dX _ _)) hk⟩⟩
theorem xM{f:FuncId}{fn:Func}{c:Code}{args:Array Value}{R:Value -> HL -> Prop}{H:HL}(hf:P.funcs[f]?=some fn)(hb:fn.body=some c)(hn:fn.ntmps=N)(ha:decide (args.size <= N)=true)
  (L:FL) (hL:r9 0 args.toList=L) (h:∀w0,TR none P N [] F w0 L H c (bodyPostM (Wr none) 0 P fn (CC F w0 R))):Sp P f args H F R:=by
 intro w hR;refine(callsIn_wide (n:=0)).1 (callsIn_of_wp_marks (F:=Wr none) hf hb trivial ?_);have ha':args.size <= N:=abq ha;refine h w _ w ⟨?_,rfl,?_⟩ hR (Below.refl _ _)
 ·simp[hn];omega
 ·subst hL;intro t v ht;obtain⟨_,h2⟩:=kP 0 _ t v ht;have h3:args[t]?=some v:=by simpa using h2
  have g_:t<args.size:=(Array.getElem?_eq_some_iff.1 h3).1;simp only;rw[Array.getElem?_append_left g_];exact h3
theorem retM{fn:Func}{R:Value -> HL -> Prop}{rs:List ResultVar}(Ww:fn.results=⟨rs⟩)(ds:List Nat)(hD:D=ds.map coll)(dx ax:List Nat)(Ro:HL)(hints:List Hint)(v:Value)(E:List Nat)(Ob:List Prop)
  {A A1:HL} {Ts:List HL} (hdp:(dx++ax).isPerm (List.range A.length)=true) (hdx:dx.filterMap (A[·]?)=ds.map cE) (hax:ax.filterMap (A[·]?)=A1)
  (h:∀n0,AD P n0 L rs (ap A1 Ts) Ro hints=some (v,E,E,Ob)) (YE:∀y∈Ro,y∈F) (iD:AllP Ob) (ip ir jp jr:List Nat) (H':HL) (hp:(ip++ir).isPerm (List.range A1.length)=true) (hj:(jp++jr).isPerm (List.range Ts.length)=true) (hH:ap (ip.filterMap (A1[·]?)) (jp.filterMap (Ts[·]?))=H') (hv:R v H')
  (a:Act) (w:World) (hF:Fm N D L a) (hR:Rel (ap A Ts++F) w) (hB:Below 0 w0 w):LeavesInM (Wr none) 0 P fn a.tmps (CC F w0 R) a.defers .returning w:=by
 rw[hF.defs,hD];have h1:=fc A dx ax hdp;rw[hdx,hax] at h1;have TT:Rel (ds.map cE++(ap A1 Ts++F)) w:=by
  refine hR.perm ?_;rw[<- aaF,<- aaF];exact aa8 F (aa8 _ h1)
 refine oH ds _ w TT hB ?_;intro w' UE VK;have h':=h w'.heap.size;unfold AD at h';split at h'
 case h_2=>cases h'
 rename_i vs s hs;split at h'
 case h_2=>cases h'
 simp only[Option.some.injEq,Prod.mk.injEq] at h';obtain⟨e1,e2,e3,e4⟩:=h';have bY:=j4 (P:=P) hF UE rs _ _ _ hs rfl rfl YE (λ e=>by cases e) (gq e2 e3) (by rw[e4];exact fl iD);subst e1;exact⟨_,jD Ww bY,_,H',rfl,hv,UE.takeT ip ir jp jr hp hj hH,VK⟩
end
def aar:=@SlIs.nil
end Go.Proofs.YtghjbimijeinfaaGreatDoor
