import Derived.Deep.AppendSrc
import Derived.Laws.AppendOwn
import Derived.LoopN
import Derived.RangeFuncSeq
import Derived.RangeFuncLeaves
import Derived.Shelf.Abstract
import Derived.Test.YtdppjkjbghbnjaaGreatDoorY00
set_option maxHeartbeats 4000000
set_option maxRecDepth 100000
set_option linter.all false
namespace Go.Proofs.YtdppjkjbghbnjaaGreatDoor
open Go.RowKit
structure Enc(α:Type) where
 w:Nat
 cell:α -> Nat -> Value
 dflt:α
section
variable {α:Type} (e:Enc α)
def aL(l:List α):Nat -> Nat -> Value:=λ i k=>e.cell (l.getD i e.dflt) k
def aw(l:List α):List Value:=l.flatMap λ x=>(List.range e.w).map (e.cell x)
theorem aR(l:List α):(aw e l).length=l.length*e.w:=by
 induction l with
 | nil=>simp[aw]
 | cons x l ih=>simp only[aw,List.flatMap_cons,List.length_append,List.length_map,List.length_range,List.length_cons,Nat.succ_mul] at ih ⊢;omega
theorem aX(l l':List α):aw e (l++l')=aw e l++aw e l':=by simp[aw]
theorem DU(l:List α):∀n,n <= l.length -> bJ e.w (aL e l) n=aw e (l.take n)
 | 0,_=>by simp[bJ,aw]
 | n+1,h=>by
  rw[bJ,DU l n (by omega),List.take_succ_eq_append_getElem (by omega),aX];congr 1;simp[aw,aL,List.getElem?_eq_getElem (show n<l.length by omega)]
theorem iZ(l:List α):bJ e.w (aL e l) l.length=aw e l:=by rw[DU e l _ (Nat.le_refl _),List.take_length]
def SlIs(T:TypeId)(l:List α)(A:Option Addr)(cap:Nat)(Hl:HL):Prop :=
 (A=none /\ cap=0 /\ l=[] /\ Hl=[]) \/ ∃b o full,A=some ⟨b,o*e.w,none⟩ /\ Hl=[(b,.rows e.w (o+cap) (aL e full) T (0,0))] /\ full.length=o+cap /\ l.length <= cap /\ (full.drop o).take l.length=l
def bA:Option Addr -> Prop
 | none=>True
 | some a=>a.off=0
theorem SlIs.nil(T:TypeId):SlIs e T [] none 0 []:=.inl ⟨rfl,rfl,rfl,rfl⟩
end
def mJ:List Value -> Nat -> List Value -> List Value
 | c,_,[]=>c
 | c,o,v::r=>mJ (c.set o v) (o+1) r
theorem oZ:∀ (news c:List Value) (o:Nat),o+news.length <= c.length -> ∀j,(mJ c o news)[j]?=if o <= j /\ j<o+news.length then news[j-o]? else c[j]?
 | [],c,o,_,j=>by rw[mJ,if_neg (by simp only[List.length_nil];omega)]
 | v::r,c,o,h,j=>by
  simp only[List.length_cons] at h;rw[mJ,oZ r _ (o+1) (by simp;omega) j]
  by_cases h1:o+1 <= j /\ j<o+1+r.length
  ·rw[if_pos h1,if_pos (by simp only[List.length_cons];omega)];obtain⟨d,rfl⟩:∃d,j=o+1+d:=⟨j-(o+1),by omega⟩;rw[show o+1+d-o=d+1 by omega,List.getElem?_cons_succ];congr 1;omega
  ·rw[if_neg h1,List.getElem?_set]
   by_cases h2:o=j
   ·subst h2;rw[if_pos rfl,if_pos (by omega),if_pos (by simp only[List.length_cons];omega)];simp
   ·rw[if_neg h2,if_neg (by simp only[List.length_cons];omega)]
theorem jU(b:Nat):∀ (news:List Value) (o:Nat) (w:World) (c:List Value) (ty:TypeId) (fz:Nat × Nat),w.heap[b]?=some (.cells ⟨c⟩ ty fz) -> (w.setCells b o news).heap[b]?=some (.cells ⟨mJ c o news⟩ ty fz)
 | [],o,w,c,ty,fz,h=>h
 | v::r,o,w,c,ty,fz,h=>by
  rw[World.setCells,mJ];refine jU b r (o+1) _ _ ty fz ?_;simp only[World.setCell,Array.getElem?_modify,if_true,h,Option.map_some];simp
theorem jV(b:Nat):∀ (news:List Value) (o:Nat) (w:World) (k:Nat),k≠b -> (w.setCells b o news).heap[k]?=w.heap[k]?
 | [],o,w,k,h=>rfl
 | v::r,o,w,k,h=>by
  rw[World.setCells,jV b r (o+1) _ k h];exact Below.heap_setCell _ _ _ _ h
theorem jW(b:Nat):∀ (news:List Value) (o:Nat) (w:World),Below 0 w (w.setCells b o news)
 | [],o,w=>Below.refl _ _
 | v::r,o,w=>((Below.refl 0 w).setCell (Nat.zero_le _) v).trans (jW b r (o+1) _)
theorem jl(n c:Nat)(h:c<n):Builtin.nextslicecap n c <= 2*n+192:=by
 unfold Builtin.nextslicecap;split
 ·omega
 ·split
  ·omega
  ·simp only[Builtin.growBy]
   repeat' split
   all_goals omega
section
variable {α:Type} {e:Enc α} {P:Program} {t tx ty T:TypeId} {inf:TypeInfo} {z:Value}
structure EncOk(e:Enc α)(P:Program)(T:TypeId)(inf:TypeInfo)(z:Value):Prop where
 info:P.info? T=some inf
 zero:inf.zero=some z
 size:inf.size=e.w
 zsize:z.cells.size=e.w
 zcell:∀k,k<e.w -> z.cells[k]?=some (e.cell e.dflt k)
 one:∀x k,(e.cell x k).oneCell'=true
 bytes:inf.bytes <= 1000
theorem mK(ok:EncOk e P T inf z)(n:Nat):(Builtin.zeroCells z.cells n).toList=aw e (List.replicate n e.dflt):=by
 unfold Builtin.zeroCells;rw[yZ,ok.zsize];have h1:=iZ e (List.replicate n e.dflt);rw[List.length_replicate] at h1;rw[<- h1];show bJ _ _ _=_;refine xq λ i k hi hk=>?_;have h2:=ok.zcell k hk;simp only[aL,List.getD_eq_getElem?_getD,List.getElem?_replicate,Array.getD_eq_getD_getElem?,h2];split <;> rfl
theorem Fp(ok:EncOk e P T inf z)(ht:P.underlying t=some (.slice T)){l:List α}{A:Option Addr}{cap:Nat}{Hl G:HL}{w:World}(h:SlIs e T l A cap Hl)(hR:Rel (Hl++G) w)(src:List α)(x:Value)
  (hs:Src P inf.size tx x src.length (aw e src) w) (hb:l.length+src.length <= 100000000) :
  ∃A' g_ AT w',(Builtin.append_ #[t,tx] ty #[.slice A l.length cap,x]).run P w=.ok (.slice A' (l.length+src.length) g_) w' /\ (SlIs e T (l++src) A' g_ AT /\ (bA A -> bA A')) /\ Rel (AT++G) w' /\ Below 0 w w':=by
 have hby:=ok.bytes;have V0:∀c,c<l.length+src.length -> Builtin.nextslicecap (l.length+src.length) c*inf.bytes <= 281474976710656:=λ c hc=>by
  have h1:=jl (l.length+src.length) c hc;have h2:Builtin.nextslicecap (l.length+src.length) c*inf.bytes <= (2*100000000+192)*1000:=Nat.mul_le_mul (by omega) hby;omega
 have grow:∀ (hg:cap<l.length+src.length) (hold:(Builtin.firstCells inf.size l.length (.slice A l.length cap)).run P w.drew=.ok (aw e l).toArray w.drew),∃A' g_ AT w',(Builtin.append_ #[t,tx] ty #[.slice A l.length cap,x]).run P w=.ok (.slice A' (l.length+src.length) g_) w' /\ (SlIs e T (l++src) A' g_ AT /\ (bA A -> bA A')) /\ Rel (AT++G) w' /\ Below 0 w w':=by
  intro hg hold;have iN:=run_append_grow_src (P:=P) w t tx ty T inf z ht ok.info ok.zero A l.length cap (aw e l) hold x src.length (aw e src) hs hg (by omega) (V0 cap hg);have WO:=grownCap_ge w (l.length+src.length) cap T;generalize grownCap w (l.length+src.length) cap T=nc at *;refine⟨_,nc,[(w.heap.size,.rows e.w (0+nc) (aL e (l++src++List.replicate (nc-(l.length+src.length)) e.dflt)) T (0,0))],_,iN,⟨.inr ⟨w.heap.size,0,l++src++List.replicate (nc-(l.length+src.length)) e.dflt,by simp,rfl,by simp;omega,by simp;omega,by rw[List.drop_zero,List.take_append_of_le_length (by simp),List.take_of_length_le (by simp)]⟩,λ _=>rfl⟩,?_,?_⟩
  ·have VS:Rel G w:=hR.drop;have:=(Rel.cons (.rows e.w (0+nc) (aL e (l++src++List.replicate (nc-(l.length+src.length)) e.dflt)) T (0,0)) (o:=.cells ((aw e l++aw e src).toArray++Builtin.zeroCells z.cells (nc-(l.length+src.length))) T (0,0)) ?_ (VS.world (w':=w.drew) rfl))
   ·exact this
   ·show Obj.cells _ _ _=_;congr 1;apply Array.ext';show bJ _ _ _=_;have hl:0+nc=(l++src++List.replicate (nc-(l.length+src.length)) e.dflt).length:=by simp;omega
    rw[hl,iZ,aX,aX,Array.toList_append,mK ok]
  ·exact⟨rfl,rfl,rfl,by simp,λ k hk=>by omega⟩
 rcases h with ⟨rfl,rfl,rfl,rfl⟩|⟨b,o,full,rfl,rfl,UQ,hle,hl⟩
 ·-- nil
  rcases Nat.eq_zero_or_pos src.length with h0|h0
  ·obtain rfl:src=[]:=List.eq_nil_of_length_eq_zero h0;refine⟨none,0,[],w,?_,⟨.inl ⟨rfl,rfl,by simp,rfl⟩,λ h=>h⟩,hR,Below.refl _ _⟩;have hc:(Builtin.firstCells inf.size 0 x).run P w=.ok #[] w:=hs.cells;rcases hs.kind with ⟨e',hk⟩|hk <;> simp[Builtin.append_,run_underlying ht,run_underlying hk,Go.sizeOf,typeInfo,ok.info,hs.len,hc]
  ·exact grow (by simp;omega) (by simp[aw];exact run_firstCells_none w.drew inf.size 0 0 0)
 ·have VA:=hR.holds _ (List.mem_append_left G (List.mem_cons_self));simp only[Blk.den] at VA;have Xb:(bJ e.w (aL e full) (o+cap)).length=(o+cap)*e.w:=dt _ _ _;have Tc:bJ e.w (aL e full) (o+cap)=aw e full:=by rw[<- UQ];exact iZ e full
  by_cases L_:l.length+src.length <= cap
  ·-- there is room
   have S4:=ok.size;have hnl:(aw e src).length=src.length*e.w:=aR e src;have U8:o*e.w+l.length*inf.size+(aw e src).length <= (o+cap)*e.w:=by
    rw[hnl,S4,<- Nat.add_mul,<- Nat.add_mul];exact Nat.mul_le_mul_right _ (by omega)
   have TI:∀j,j<(aw e src).length -> (w.cell? ⟨b,o*e.w+l.length*inf.size+j,none⟩).isSome=true:=λ j hj=>by
    simp[World.cell?,VA,Xb];omega
   have Z4:∀j,j<(aw e src).length -> w.frozen? ⟨b,o*e.w+l.length*inf.size+j,none⟩=false:=λ j hj=>by simp[World.frozen?,VA]
   have iN:=run_append_room_src (P:=P) w t tx ty T inf ht ok.info b (o*e.w) l.length cap x src.length (aw e src) hs L_ TI Z4;have aaE:=jU b (aw e src) (o*e.w+l.length*inf.size) w _ _ _ VA;have Xe:mJ (bJ e.w (aL e full) (o+cap)) (o*e.w+l.length*inf.size) (aw e src)=aw e (full.take (o+l.length)++src++full.drop (o+l.length+src.length)):=by
    apply List.ext_getElem?;intro j;rw[oZ _ _ _ (by rw[Xb];exact U8),Tc,aX,aX];have c1:(aw e (full.take (o+l.length))).length=(o+l.length)*e.w:=by rw[aR,List.length_take];congr 1;omega
    have c0:o*e.w+l.length*inf.size=(o+l.length)*e.w:=by rw[S4,<- Nat.add_mul]
    have Vm:aw e full=aw e (full.take (o+l.length))++aw e (full.drop (o+l.length)):=by rw[<- aX,List.take_append_drop]
    have Wv:aw e (full.drop (o+l.length))=aw e ((full.drop (o+l.length)).take src.length)++aw e (full.drop (o+l.length+src.length)):=by
     rw[<- aX,show o+l.length+src.length=(o+l.length)+src.length from rfl,<- List.drop_drop (i:=src.length) (j:=o+l.length),List.take_append_drop]
    have c2:(aw e ((full.drop (o+l.length)).take src.length)).length=src.length*e.w:=by rw[aR,List.length_take,List.length_drop];congr 1;omega
    rw[c0]
    by_cases h1:j<(o+l.length)*e.w
    ·rw[if_neg (by omega),Vm,List.append_assoc,List.getElem?_append_left (by omega),List.getElem?_append_left (by omega)]
    ·by_cases h2:j<(o+l.length)*e.w+src.length*e.w
     ·rw[if_pos (by omega),List.append_assoc,List.getElem?_append_right (by omega),List.getElem?_append_left (by omega),c1]
     ·rw[if_neg (by omega),Vm,Wv,List.append_assoc,List.getElem?_append_right (by omega),List.getElem?_append_right (by omega),List.getElem?_append_right (by omega),List.getElem?_append_right (by omega),c1,c2,hnl]
   have Z6:(full.take (o+l.length)++src++full.drop (o+l.length+src.length)).length=o+cap:=by simp;omega
   refine⟨_,cap,[(b,.rows e.w (o+cap) (aL e (full.take (o+l.length)++src++full.drop (o+l.length+src.length))) T (0,0))],_,iN,⟨.inr ⟨b,o,_,rfl,rfl,Z6,by simp;omega,?_⟩,λ h=>h⟩,?_,jW _ _ _ _⟩
   ·have h1:full.take (o+l.length)=full.take o++l:=by rw[List.take_add,hl]
    rw[h1,List.append_assoc,List.append_assoc,List.drop_append_of_le_length (by simp;omega),List.drop_eq_nil_of_le (by rw[List.length_take];omega),List.nil_append,<- List.append_assoc];rw[List.take_append_of_le_length (by simp)];exact List.take_of_length_le (by simp)
   ·refine⟨?_,by have:=hR.nodup;simpa using this⟩;intro y hy;rcases List.mem_cons.1 hy with rfl|hy
    ·rw[aaE,Xe];simp only[Blk.den];rw[<- Z6,iZ]
    ·have IF:y.1≠b:=by
      have:=hR.nodup;simp only[List.cons_append,List.nil_append,List.map_cons,List.nodup_cons] at this;intro e1;exact this.1 (by rw[<- e1];exact List.mem_map_of_mem hy)
     rw[jV b _ _ _ _ IF];exact hR.holds y (List.mem_append_right _ hy)
  ·refine grow (by omega) ?_;refine run_firstCells_some w.drew inf.size l.length ⟨b,o*e.w,none⟩ l.length cap (aw e l) (by rw[aR,ok.size]) ?_;intro j u hj;have XF:j<(aw e l).length:=(List.getElem?_eq_some_iff.1 hj).1;rw[aR] at XF;have To:aw e l=((aw e full).drop (o*e.w)).take (l.length*e.w):=by
    have h1:aw e full=aw e (full.take o)++(aw e l++aw e ((full.drop o).drop l.length)):=by
     rw[<- aX,<- aX];congr 1
     conv=>lhs;rw[<- List.take_append_drop o full]
     congr 1
     conv=>lhs;rw[<- List.take_append_drop l.length (full.drop o)]
     rw[hl]
    have c1:(aw e (full.take o)).length=o*e.w:=by rw[aR,List.length_take];congr 1;omega
    rw[h1,List.drop_append_of_le_length (by omega),List.drop_eq_nil_of_le (by omega),List.nil_append,List.take_append_of_le_length (by rw[aR];exact Nat.le_refl _),List.take_of_length_le (by rw[aR];exact Nat.le_refl _)]
   rw[Addr.add_lit];show World.cell? w ⟨b,o*e.w+j,none⟩=some u;simp only[World.cell?,VA,Tc];rw[To,List.getElem?_take,if_pos (by omega),List.getElem?_drop] at hj;simpa using hj
theorem qI{N:Nat}{D:List Deferred}{F:HL}{L:FL}{H:HL}(ok:EncOk e P T inf z){o:Oper}{a1 a2:Operand}(S8:o.op=.call { callee:=.builtin .append,args:=#[a1,a2],argTypes:=#[t,tx] })(ht:P.underlying t=some (.slice T))
  {l src:List α} {A:Option Addr} {cap n:Nat} {Hl G:HL} {x:Value} (hi:(iT L a1 && iT L a2)=true) (h1:gm L a1=.slice A n cap) (hn:n=l.length) (h2:gm L a2=x) (AI:(Hl++G).Perm H) (VX:SlIs e T l A cap Hl)
  (hs:∀w,Rel (H++F) w -> Src P inf.size tx x src.length (aw e src) w) (hb:l.length+src.length <= 100000000) (a:Act) (hF:Fm N D L a) (w:World) (hR:Rel (H++F) w) :
  dR P o a w λ u w'=>∃y:Option Addr × Nat × HL,(u=.slice y.1 (n+src.length) y.2.1 /\ (SlIs e T (l++src) y.1 y.2.1 y.2.2 /\ (bA A -> bA y.1))) /\ Rel ((y.2.2++G)++F) w' /\ Below 0 w w':=by
 subst hn;simp only[Bool.and_eq_true] at hi;have e1:=(hF.eval hi.1).trans h1;have e2:=(hF.eval hi.2).trans h2;have S6:Rel (Hl++(G++F)) w:=by rw[<- List.append_assoc];exact hR.perm (AI.append_right F)
 obtain⟨A',g_,AT,w',r1,r2,r3,r4⟩:=Fp (ty:=o.type) ok ht VX S6 src x (hs w hR) hb;unfold dR;have iN:(execOp a.eval o).run P w=.ok (.value (.slice A' (l.length+src.length) g_)) w':=by
  simp[execOp,S8,resolve,invoke,builtin,Sem.run_bind,e1,e2,r1]
 rw[iN];exact⟨(A',g_,AT),⟨rfl,r2⟩,by rw[List.append_assoc];exact r3,r4⟩
theorem sO{H F:HL}{w:World}(ok:EncOk e P T inf z){e':TypeId}(hk:P.underlying tx=some (.slice e')){sb c:Nat}{src:List α}{ty:TypeId}{fz:Nat × Nat}(p:Nat)(h:H[p]?=some (sb,.lit (aw e src) ty fz))(hR:Rel (H++F) w):Src P inf.size tx (vS sb 0 src.length c) src.length (aw e src) w:=by
 refine Src.ofSlice w hk _ _ _ _ (by rw[aR,ok.size]) ?_ ?_
 ·intro j u hj;have hb:=hR.holds _ (List.mem_append_left F (List.mem_of_getElem? h));simp only[Blk.den] at hb;rw[Addr.add_lit];simp[World.cell?,hb,hj]
 ·intro u hu;simp only[aw,List.mem_flatMap,List.mem_map] at hu;obtain⟨x,_,k,_,rfl⟩:=hu;exact ok.one x k
end
section
variable {r:Option Nat} {P:Program} {N:Nat} {D:List Deferred} {F:HL} {w0:World} {ops:Array Oper} {i:Nat} {L:FL} {H:HL} {Q:Exit -> Act -> World -> Prop}
def fo(H:HL):List (Nat × Obj):=H.map λ x=>(x.1,x.2.den)
theorem Rel.den{H H':HL}{w:World}(e:fo H=fo H')(h:Rel H w):Rel H' w:=by
 have h1:H'.map (·.1)=H.map (·.1):=by
  have:=congrArg (List.map (·.1)) e;simpa [fo,Function.comp_def] using this.symm
 refine⟨λ x hx=>?_,by have:=h.nodup;rw[h1];exact this⟩;have:(x.1,x.2.den)∈fo H:=e ▸ List.mem_map_of_mem hx;obtain⟨y,hy,e2⟩:=List.mem_map.1 this;have h3:=h.holds y hy;simp only[Prod.mk.injEq] at e2;rw[<- e2.1,<- e2.2];exact h3
theorem Rel.denA{A A' F:HL}{Ts:List HL}{w:World}(e:fo A=fo A')(h:Rel (ap A Ts++F) w):Rel (ap A' Ts++F) w :=
 h.den (by simp only[fo,List.map_append] at e ⊢;rw[e])
end
theorem OPJ.den{P:Program}{F:HL}{w0:World}{ops:Array Oper}{hards:List Nat}{Rd:HL}{i:Nat}{a:Act}{H H':HL}{K K':Act -> HL -> Prop}(hK:∀a H1 H2,fo H1=fo H2 -> K a H1 -> K' a H2)(hp:fo H=fo H')(h:OPJ P ops F w0 hards Rd i a H K):OPJ P ops F w0 hards Rd i a H' K':=by
 have hx:∀X:HL,fo (X++H)=fo (X++H'):=λ X=>by simp only[fo,List.map_append] at hp ⊢;rw[hp]
 have hf:∀ (A B:HL) (w:World),fo A=fo B -> Rel (A++F) w -> Rel (B++F) w:=λ A B w e h=>h.den (by simp only[fo,List.map_append] at e ⊢;rw[e]);unfold OPJ at h ⊢;cases ho:ops[i]? with
 | none=>rw[ho] at h;exact h
 | some o =>
  rw[ho] at h;simp only at h ⊢;split
  ·rename_i hw;rw[if_pos hw] at h;intro w hR hB;refine fP (h w (hf _ _ _ hp.symm hR) hB) ?_;rintro u w' ⟨H1,⟨s1,s2⟩,k1,k2,k3⟩
   by_cases hi:i∈hards
   ·exact⟨H1,⟨λ e=>absurd hi e,s2⟩,hK _ _ _ rfl k1,k2,k3⟩
   ·obtain⟨X,rfl⟩:=s1 hi;exact⟨X++H',⟨λ _=>⟨X,rfl⟩,λ e=>absurd e hi⟩,hK _ _ _ (hx X) k1,hf _ _ _ (hx X) k2,k3⟩
  ·rename_i hw;rw[if_neg hw] at h;exact hK _ _ _ hp h
theorem JJ.den{P:Program}{F:HL}{w0:World}{ops:Array Oper}{Q:Exit -> Act -> World -> Prop}{hards:List Nat}{Rd:HL}:∀ (fuel:Nat) (listed:Array Bool) (a:Act) (H H':HL),fo H=fo H' -> JJ P ops Q F w0 hards Rd fuel listed a H -> JJ P ops Q F w0 hards Rd fuel listed a H'
 | 0,listed,a,H,H',hp,h=>⟨h.1,λ w hR hB=>h.2 w (hR.den (by simp only[fo,List.map_append] at hp ⊢;rw[hp])) hB⟩
 | fuel+1,listed,a,H,H',hp,h=>⟨λ e w hR hB=>h.1 e w (hR.den (by simp only[fo,List.map_append] at hp ⊢;rw[hp])) hB,λ i hi=>OPJ.den (λ a H1 H2 hp h=>JJ.den fuel _ a H1 H2 hp h) hp (h.2 i hi)⟩
theorem TD.den{P:Program}{N:Nat}{D:List Deferred}{F:HL}{w0:World}{ops:Array Oper}{hards:List Nat}{Rd:HL}{fuel:Nat}{listed:List Bool}{L:FL}{Q:Exit -> Act -> World -> Prop}{A:HL}{Ts:List HL}(A':HL)(e:fo A=fo A')(h:TD P N D F w0 ops hards Rd fuel listed L (ap A' Ts) Q):TD P N D F w0 ops hards Rd fuel listed L (ap A Ts) Q:=by
 intro TA a hF;refine JJ.den _ _ _ _ _ ?_ (h TA a hF);simp only[fo,List.map_append] at e ⊢;rw[e]
theorem SlIs.open0{α:Type}{e:Enc α}{T:TypeId}{l:List α}{A:Option Addr}{cap:Nat}{Hl:HL}(h:SlIs e T l A cap Hl)(hz:bA A)(hw:0<e.w)(hl:0<l.length):∃b rest,A=some ⟨b,0,none⟩ /\ Hl=[(b,.rows e.w cap (aL e (l++rest)) T (0,0))] /\ l.length <= cap:=by
 rcases h with ⟨_,_,rfl,_⟩|⟨b,o,full,rfl,rfl,h3,h4,h5⟩
 ·simp at hl
 ·have ho:o=0:=by
   have h6:o*e.w=0:=hz;rcases Nat.mul_eq_zero.1 h6 with h|h
   ·exact h
   ·omega
  subst ho;refine⟨b,full.drop l.length,by rw[Nat.zero_mul],?_,h4⟩;have:l++full.drop l.length=full:=by
   conv=>lhs;lhs;rw[<- h5]
   rw[List.drop_zero,List.take_append_drop]
  rw[this,Nat.zero_add]
section
variable {r:Option Nat} {P:Program} {N:Nat} {D:List Deferred} {F:HL} {w0:World} {ops:Array Oper} {i:Nat} {L:FL} {Q:Exit -> Act -> World -> Prop} {A:HL} {Ts XK:List HL} {x:Nat × Blk}
theorem Cc{A:HL}{Ts XK:List HL}{x:Nat × Blk}(jr:List Nat)(j:Nat)(hp:([j]++jr).isPerm (List.range Ts.length)=true)(hj:Ts[j]?=some [x])(hr:jr.filterMap (Ts[·]?)=XK):(ap (x::A) XK).Perm (ap A Ts):=by
 have h3:=fE Ts [j] jr hp;simp only[List.filterMap_cons,hj,List.filterMap_nil,hr] at h3;have h4:=h3.flatten;simp only[List.cons_append,List.nil_append,List.flatten_cons] at h4;show (x::(A++XK.flatten)).Perm (A++Ts.flatten);refine List.Perm.trans ?_ (List.Perm.append_left A h4);exact(List.perm_middle (a:=x) (l₁:=A) (l₂:=XK.flatten)).symm
theorem HW{A:HL}{Ts XK:List HL}(jp:List Nat)(hp:jp.isPerm (List.range Ts.length)=true)(e:jp.filterMap (Ts[·]?)=XK):(ap A XK).Perm (ap A Ts):=by
 have h3:=fE Ts jp [] (by simpa using hp);rw[e] at h3;simp only[List.filterMap_nil,List.append_nil] at h3;exact List.Perm.append_left A h3.flatten
end
open Go.Shelf
def YL(P:Program)(l:Nat)(args:Array Value)(H F:HL)(R:Bool -> HL -> Prop):Prop :=
 ∀w,Rel (H++F) w -> YieldAt (Wr none) 0 P l args w λ e W'=>∃b H',e=.returned (.bool b) /\ R b H' /\ Rel (H'++F) W' /\ Below 0 w W'
def It(P:Program)(g:FuncId)(lb:Array Value)(F:HL){α:Type}(encs:α -> Array Value)(xs:List α):Prop :=
 ∀ (X:HL) (l:Nat) (J:Nat -> HL -> Prop) (Jx:HL -> Prop) (H0:HL),(∀i x H Y,xs[i]?=some x -> J i H -> YL P l (encs x) H (Y++(X++F)) (λ b H'=>(b=true /\ J (i+1) H') \/ (b=false /\ Jx H'))) -> J 0 H0 ->
  Sp P g (#[.func (.yield l) #[] #[]]++lb) H0 (X++F) (λ _ H'=>J xs.length H' \/ Jx H')
def Cd(P:Program)(n0 N:Nat)(ops:List Oper)(i:Nat)(L:FL)(H R:HL)(hints:List Hint):Option (Option Tmp × Nat × Array Value × List Prop) :=
 match ops[i]? with
 | none=>none
 | some o=>match kD ops o L ⟨H,R,hints,0,[],[],true⟩ with
  | some (true,s)=>match jQ o.op L,s.hints,s.eq with
   | true,[],[]=>match o.op with
    | .call c=>match c.callee with
     | .value f=>match gm L f with
      | .func (.yield l) cap bound=>match cap.toList,bound.toList with
       | [],[]=>some (o.dst,l,c.args.map (gm L),s.ob)
       | _,_=>none
      | _=>none
     | _=>none
    | _=>none
   | _,_,_=>none
  | _=>none
theorem Ce{P:Program}{ρ:Operand -> Value}{o:Oper}{c:Call}{f:Operand}{l:Nat}(ho:o.op=.call c)(hc:c.callee=.value f)(hf:ρ f=.func (.yield l) #[] #[])(w:World) :
  (execOp ρ o).run P w=(Instr.yield l (c.args.map ρ)).run P w:=by
 simp[execOp,ho,resolve,hc,hf,Deferred.ofValue,invoke,Sem.run_bind,Result.andThen]
abbrev cR(d:Nat):Nat × Blk:=(d,.obj (.deferred (some [])))
abbrev coll(d:Nat):Deferred:={ target:=.collected d,args:=#[] }
theorem Rel.putObj{H F:HL}{w:World}{l:Nat}{b:Blk}(b':Blk)(h:Rel ((l,b)::H) w):Rel ((l,b')::H) (w.putObj l b'.den):=by
 have hl:=h.lt (List.mem_cons_self);refine⟨λ x hx=>?_,by simpa using h.nodup⟩;rcases List.mem_cons.1 hx with rfl|hx
 ·exact World.putObj_heap_same hl
 ·have IF:x.1≠l:=by
   have:=h.nodup;simp only[List.map_cons,List.nodup_cons] at this;intro e;exact this.1 (e ▸ List.mem_map_of_mem hx)
  exact(World.putObj_heap_other IF).trans (h.holds x (List.mem_cons_of_mem _ hx))
theorem eJ{w:World}(l:Nat)(o:Obj):Below 0 w (w.putObj l o):=⟨rfl,rfl,rfl,by simp,λ k hk=>by omega⟩
theorem jG{w:World}(o:Obj):Below 0 w (w.alloc o):=⟨rfl,rfl,rfl,by simp,λ k hk=>by omega⟩
theorem Rel.alloc{H:HL}{w:World}(b:Blk)(h:Rel H w):Rel ((w.heap.size,b)::H) (w.alloc b.den):=Rel.cons b rfl h
def RQ{σ:Type}(F:HL)(w0:World)(Hx:σ -> HL)(I:σ -> Prop)(Ix:Code -> σ -> Prop):Exit -> Act -> World -> Prop
 | .normal,_,w=>∃s,I s /\ Rel (Hx s++F) w /\ Below 0 w0 w
 | .ret,_,w=>∃s,Ix .ret s /\ Rel (Hx s++F) w /\ Below 0 w0 w
 | .exit id,_,w=>∃s,Ix (.exit id) s /\ Rel (Hx s++F) w /\ Below 0 w0 w
 | _,_,_=>False
section
variable {P:Program} {N:Nat} {D:List Deferred} {F:HL} {w0:World} {L:FL} {Q:Exit -> Act -> World -> Prop}
def so:List Tmp -> List Value -> FL -> FL
 | p::ps,v::vs,L=>so ps vs ((p,v)::L)
 | _,_,L=>L
theorem Fm.zip:∀ (ps:List Tmp) (vs:List Value) (L:FL) (tmps:Array Value),(∀p∈ps,p<N) -> Fm N D L { tmps:=tmps,defers:=D } -> Fm N D (so ps vs L) { tmps:=(ps.zip vs).foldl (λ t (p,v)=>t.setIfInBounds p v) tmps,defers:=D }
 | p::ps,v::vs,L,tmps,hN,h=>by
  rw[so,List.zip_cons_cons,List.foldl_cons];refine Fm.zip ps vs _ _ (λ q hq=>hN q (List.mem_cons_of_mem _ hq)) ?_;refine⟨by simpa using h.size,rfl,λ t u ht=>?_⟩;have hs:tmps.size=N:=h.size;have hp:=hN p List.mem_cons_self;rw[List.lookup_cons] at ht;simp only
  by_cases e:t=p
  ·subst e;simp at ht;subst ht;rw[Array.getElem?_setIfInBounds];simp[hs,hp]
  ·have:(t == p)=false:=by simpa using e
   rw[this] at ht;rw[Array.getElem?_setIfInBounds,if_neg (λ e'=>e e'.symm)];exact h.has _ _ ht
 | [],vs,L,tmps,_,h=>by simpa [so] using h
 | _::_,[],L,tmps,_,h=>by simpa [so] using h
theorem TR.range{α σ τ:Type}{g:Operand}{ps:Array Tmp}{assign body:Code}{encs:α -> Array Value}{xs:List α}{gf:FuncId}{lb:Array Value}(hi:iT L g=true)(hg:gm L g=.func (.func gf) #[] lb)(eg:∀args w,(callFunc gf args).run P w=.ok (.enter gf args) w)
  (Hx:σ -> HL) (I:Nat -> σ -> Prop) (Ix:Code -> σ -> Prop) (La:τ -> FL) (Ha:τ -> HL) (Ia:Nat -> α -> τ -> Prop) (hps:∀x,(encs x).size=ps.size) (XB:(ps.toList.all λ p=>decide (p<N))=true)
  (x0:σ) (h0:I 0 x0) {A:HL} {Ts:List HL} (ip ir jp jr:List Nat) (hp:(ip++ir).isPerm (List.range A.length)=true) (hj:(jp++jr).isPerm (List.range Ts.length)=true) (Hr:HL) (Tr:List HL) (hHr:ir.filterMap (A[·]?)=Hr) (hTr:jr.filterMap (Ts[·]?)=Tr) (hH:ap (ip.filterMap (A[·]?)) (jp.filterMap (Ts[·]?))=Hx x0)
  (hit:It P gf lb (ap Hr Tr++F) encs xs)
  (IS:∀ (l i:Nat) (x:α) (s:σ) (Y:HL) (w1:World),xs[i]?=some x -> I i s -> TR (some l) P N [] (Y++(ap Hr Tr++F)) w1 (so ps.toList (encs x).toList L) (Hx s) assign (Exit.then (Oo N [] (Y++(ap Hr Tr++F)) w1 La Ha (Ia i x)) (λ _ _ _=>False)))
  (Ud:∀ (l i:Nat) (x:α) (t:τ) (Y:HL) (w1:World),xs[i]?=some x -> Ia i x t -> TR (some l) P N [] (Y++(ap Hr Tr++F)) w1 (La t) (Ha t) body (RQ (Y++(ap Hr Tr++F)) w1 Hx (I (i+1)) Ix))
  (Uc:∀ (d:Nat) (s:σ),I xs.length s -> EX N (coll d::D) F w0 L (cR d::(Hx s++ap Hr Tr)) Q .normal)
  (TQ:∀ (d:Nat) (c:Code) (s:σ),Ix c s -> TR none P N (coll d::D) F w0 L (cR d::(Hx s++ap Hr Tr)) c Q) :
  TR none P N D F w0 L (ap A Ts) (.rangeFunc g ps assign body) Q:=by
 intro a w hF hR hB;have hR1:Rel (Hx x0++(ap Hr Tr++F)) w:=by
  have h1:=nK A Ts ip ir jp jr hp hj;rw[hHr,hTr,hH] at h1;rw[<- List.append_assoc];exact hR.perm (h1.append_right F)
 refine wpIn_rangeFunc ?_;intro fn Yc;obtain⟨rec,TX⟩:∃rec:LoopState -> Option Code -> Loop,rec=λ st pe=>{ state:=st,pending:=pe,fn,tmps:=a.tmps,params:=ps,assign,body,defers:=w.heap.size }:=⟨_,rfl⟩;obtain⟨W1,hW1⟩:∃W1,(w.alloc (.deferred (some []))).alloc (.loop (rec .ready none))=W1:=⟨_,rfl⟩;have hB1:Below 0 w W1:=by rw[<- hW1];exact(jG _).trans (jG _)
 have hRW:Rel ((w.heap.size+1,Blk.obj (.loop (rec .ready none)))::cR w.heap.size::(Hx x0++(ap Hr Tr++F))) W1:=by
  rw[<- hW1];have h1:=(hR1.alloc (.obj (.deferred (some [])))).alloc (.obj (.loop (rec .ready none)));rw[World.size_alloc] at h1;exact h1
 refine⟨w.heap.size+1,[coll w.heap.size],W1,{ target:=.fn (.func gf) lb,args:=#[.func (.yield (w.heap.size+1)) #[] #[]] },W1,gf,#[.func (.yield (w.heap.size+1)) #[] #[]]++lb,W1,?_,?_,?_,?_,λ h=>(by cases h),?_⟩
 ·rw[<- hW1,TX];exact run_enterLoop_outer _ _ _ _ _
 ·have WO:a.eval g=.func (.func gf) #[] lb:=(hF.eval hi).trans hg;simp only[resolve,WO];simp[Deferred.ofValue];rfl
 ·intro f' _;trivial
 ·simp[invoke,eg]
 ·refine lc ?_;obtain⟨l,hl⟩:∃l,w.heap.size+1=l:=⟨_,rfl⟩;rw[hl] at hRW ⊢;obtain⟨d,hd⟩:∃d,w.heap.size=d:=⟨_,rfl⟩;rw[hd] at hRW TX ⊢;have key:=hit [] l (λ i H'=>∃s,I i s /\ H'=(l,Blk.obj (.loop (rec .ready none)))::cR d::Hx s) (λ H'=>∃c s,Ix c s /\ H'=(l,Blk.obj (.loop (rec .done (some c))))::cR d::Hx s)
   ((l,Blk.obj (.loop (rec .ready none)))::cR d::Hx x0) ?round ⟨x0,h0,rfl⟩ W1 hRW
  case round =>
   rintro i x H' Y hx ⟨s,hs,rfl⟩ W f_;have UD:Rel ((l,Blk.obj (.loop (rec .ready none)))::(cR d::(Hx s++(Y++(ap Hr Tr++F))))) W:=f_;have hlW:W.heap[l]?=some (.loop (rec .ready none)):=UD.holds _ List.mem_cons_self;have hy:=run_yield (P:=P) (args:=encs x) hlW (by rw[TX];exact hps x);rw[TX] at hy;refine⟨fn,_,assign,body,hy,roundIn_of_wpIn (F:=Wr none) (n:=0) Yc ?_⟩;have hFm:Fm N [] (so ps.toList (encs x).toList L) { tmps:=(ps.zip (encs x)).foldl (λ t (p,v)=>t.setIfInBounds p v) a.tmps,defers:=[] }:=by
    have h1:=Fm.zip (D:=[]) ps.toList (encs x).toList L a.tmps (λ p hp=>of_decide_eq_true (List.all_eq_true.1 XB p hp)) ⟨hF.size,rfl,hF.has⟩;have e:(ps.zip (encs x)).foldl (λ t (p,v)=>t.setIfInBounds p v) a.tmps=(ps.toList.zip (encs x).toList).foldl (λ t (p,v)=>t.setIfInBounds p v) a.tmps:=by
     rw[<- Array.foldl_toList,Array.toList_zip]
    rw[e];exact h1
   have hRA:Rel (Hx s++(((l,Blk.obj (.loop (rec .ready none)))::cR d::Y)++(ap Hr Tr++F))) W:=by
    have:=UD;refine this.perm ?_;simp only[List.cons_append];refine List.perm_middle.trans ?_;refine List.Perm.cons _ ?_;exact List.perm_middle
   refine wpIn_mono (IS l i x s ((l,Blk.obj (.loop (rec .ready none)))::cR d::Y) W hx hs _ W hFm hRA (Below.refl _ _)) ?_;intro e a1 Wa hq;cases e with
   | normal =>
    obtain⟨t,ht,m1,m2,m3⟩:=hq;have hRb:Rel ((l,Blk.obj (.loop (rec .ready none)))::(cR d::(Ha t++(Y++(ap Hr Tr++F))))) Wa:=by
     refine m2.perm ?_;simp only[List.cons_append];refine(List.Perm.trans ?_ List.perm_middle.symm);refine List.Perm.cons _ ?_;exact List.perm_middle.symm
    have hla:Wa.heap[l]?=some (.loop (rec .ready none)):=hRb.holds _ List.mem_cons_self;refine⟨_,run_beginRound hla (by rw[TX]),?_⟩;have hRc:=hRb.putObj (F:=[]) (.obj (.loop { rec .ready none with state:=.busy }));have V7:Rel (Ha t++(((l,Blk.obj (.loop { rec .ready none with state:=.busy }))::cR d::Y)++(ap Hr Tr++F))) (Wa.putObj l (.loop { rec .ready none with state:=.busy })):=by
     refine hRc.perm ?_;simp only[List.cons_append];refine List.perm_middle.trans ?_;refine List.Perm.cons _ ?_;exact List.perm_middle
    refine wpIn_mono (Ud l i x t ((l,Blk.obj (.loop { rec .ready none with state:=.busy }))::cR d::Y) W hx ht a1 _ m1 V7 (m3.trans (eJ _ _))) ?_;have fin:∀ (jump:Option Code) (s':σ) (W3:World),Rel (Hx s'++(((l,Blk.obj (.loop { rec .ready none with state:=.busy }))::cR d::Y)++(ap Hr Tr++F))) W3 -> Below 0 W W3 ->
      ∃v w',(Instr.endRound l jump).run P W3=.ok v w' /\ v=.bool jump.isNone /\ Rel (((l,Blk.obj (.loop (rec (if jump.isNone then .ready else .done) jump)))::cR d::Hx s')++(Y++([]++(ap Hr Tr++F)))) w' /\ Below 0 W w':=by
     intro jump s' W3 h3 hb3;have h4:Rel ((l,Blk.obj (.loop { rec .ready none with state:=.busy }))::(cR d::(Hx s'++(Y++(ap Hr Tr++F))))) W3:=by
      refine h3.perm ?_;simp only[List.cons_append];refine(List.Perm.trans ?_ List.perm_middle.symm);refine List.Perm.cons _ ?_;exact List.perm_middle.symm
     have YT:W3.heap[l]?=some (.loop { rec .ready none with state:=.busy }):=h4.holds _ List.mem_cons_self;have iN:=run_endRound (P:=P) jump YT;refine⟨_,_,iN,rfl,?_,hb3.trans (eJ _ _)⟩;have h5:=h4.putObj (F:=[]) (.obj (.loop (rec (if jump.isNone then .ready else .done) jump)));rw[TX] at h5 ⊢;exact h5
    intro e2 a2 W3 Ut;cases e2 with
    | normal =>
     obtain⟨s',TU,n2,n3⟩:=Ut;obtain⟨v,w',k1,k2,k3,k4⟩:=fin none s' W3 n2 n3;exact⟨v,w',k1,true,_,by rw[k2];rfl,.inl ⟨rfl,s',TU,rfl⟩,k3,k4⟩
    | ret =>
     obtain⟨s',TU,n2,n3⟩:=Ut;obtain⟨v,w',k1,k2,k3,k4⟩:=fin (some .ret) s' W3 n2 n3;exact⟨v,w',k1,false,_,by rw[k2];rfl,.inr ⟨rfl,.ret,s',TU,rfl⟩,k3,k4⟩
    | exit id =>
     obtain⟨s',TU,n2,n3⟩:=Ut;obtain⟨v,w',k1,k2,k3,k4⟩:=fin (some (.exit id)) s' W3 n2 n3;exact⟨v,w',k1,false,_,by rw[k2];rfl,.inr ⟨rfl,.exit id,s',TU,rfl⟩,k3,k4⟩
    | goto t=>exact Ut.elim
    | panic ch=>exact Ut.elim
    | outgrown=>exact Ut.elim
   | exit id=>exact hq.elim
   | goto t=>exact hq.elim
   | ret=>exact hq.elim
   | panic ch=>exact hq.elim
   | outgrown=>exact hq.elim
  refine key.mono ?_;rintro e W2 ⟨v,H',rfl,hor,VS,Yn⟩;have fin:∀ (st:LoopState) (pe:Option Code) (s:σ) (At:st ≠ .busy),Rel (((l,Blk.obj (.loop (rec st pe)))::cR d::Hx s)++([]++(ap Hr Tr++F))) W2 ->
    ∃w4,(Instr.endLoop l).run P W2=.ok pe w4 /\ Rel ((cR d::(Hx s++ap Hr Tr))++F) w4 /\ Below 0 W1 w4:=by
   intro st pe s At h4;have h5:Rel ((l,Blk.obj (.loop (rec st pe)))::(cR d::(Hx s++(ap Hr Tr++F)))) W2:=h4;have TM:W2.heap[l]?=some (.loop (rec st pe)):=h5.holds _ List.mem_cons_self;have iN:=run_endLoop (P:=P) TM (by rw[TX];exact At);refine⟨W2.putObj l (.loop { rec st pe with state:=.exhausted }),?_,?_,Yn.trans (eJ _ _)⟩
   ·rw[iN,TX]
   ·have h6:=h5.putObj (F:=[]) (.obj (.loop { rec st pe with state:=.exhausted }));have h7:=Rel.drop (X:=[(l,Blk.obj (.loop { rec st pe with state:=.exhausted }))]) (H:=cR d::(Hx s++(ap Hr Tr++F))) h6;rw[<- List.append_assoc] at h7;exact h7
  have hFd:Fm N (coll d::D) L { a with defers:=[coll d]++a.defers }:=⟨hF.size,by rw[hF.defs];rfl,hF.has⟩;rcases hor with ⟨s,hs,rfl⟩|⟨c,s,hs,rfl⟩
  ·obtain⟨w4,k1,k2,k3⟩:=fin .ready none s (by simp) VS;exact⟨none,w4,k1,Uc d s hs _ w4 hFd k2 (hB.trans (hB1.trans k3))⟩
  ·obtain⟨w4,k1,k2,k3⟩:=fin .done (some c) s (by simp) VS;exact⟨some c,w4,k1,TQ d c s hs _ w4 hFd k2 (hB.trans (hB1.trans k3))⟩
theorem Fq{α σ τ:Type}{g:Operand}{ps:Array Tmp}{assign body:Code}{encs:α -> Array Value}{xs:List α}{gf:FuncId}{lb:Array Value}(hi:iT L g=true)(hg:gm L g=.func (.func gf) #[] lb)(eg:∀args w,(callFunc gf args).run P w=.ok (.enter gf args) w)
  (Ax:σ -> HL) (Tx:σ -> List HL) (I:Nat -> σ -> Prop) (Ix:Code -> σ -> Prop) (La:τ -> FL) (Ha:τ -> HL) (Ia:Nat -> α -> τ -> Prop) (hps:∀x,(encs x).size=ps.size) (XB:(ps.toList.all λ p=>decide (p<N))=true)
  (x0:σ) (h0:I 0 x0) {A:HL} {Ts:List HL} (ip ir jp jr:List Nat) (hp:(ip++ir).isPerm (List.range A.length)=true) (hj:(jp++jr).isPerm (List.range Ts.length)=true) (Hr:HL) (Tr:List HL) (hHr:ir.filterMap (A[·]?)=Hr) (hTr:jr.filterMap (Ts[·]?)=Tr) (hA:ip.filterMap (A[·]?)=Ax x0) (hT:jp.filterMap (Ts[·]?)=Tx x0)
  (hit:It P gf lb (ap Hr Tr++F) encs xs)
  (IS:∀ (l i:Nat) (x:α) (s:σ) (Y:HL) (w1:World),xs[i]?=some x -> I i s -> TR (some l) P N [] (Y++(ap Hr Tr++F)) w1 (so ps.toList (encs x).toList L) (ap (Ax s) (Tx s)) assign (Exit.then (Oo N [] (Y++(ap Hr Tr++F)) w1 La Ha (Ia i x)) (λ _ _ _=>False)))
  (Ud:∀ (l i:Nat) (x:α) (t:τ) (Y:HL) (w1:World),xs[i]?=some x -> Ia i x t -> TR (some l) P N [] (Y++(ap Hr Tr++F)) w1 (La t) (Ha t) body (RQ (Y++(ap Hr Tr++F)) w1 (λ s=>ap (Ax s) (Tx s)) (I (i+1)) Ix))
  (Uc:∀ (d:Nat) (s:σ),I xs.length s -> EX N (coll d::D) F w0 L (ap (cR d::(Ax s++Hr)) (Tx s++Tr)) Q .normal)
  (TQ:∀ (d:Nat) (c:Code) (s:σ),Ix c s -> TR none P N (coll d::D) F w0 L (ap (cR d::(Ax s++Hr)) (Tx s++Tr)) c Q) :
  TR none P N D F w0 L (ap A Ts) (.rangeFunc g ps assign body) Q:=by
 have hpm:∀ (d:Nat) (s:σ),(ap (cR d::(Ax s++Hr)) (Tx s++Tr)).Perm (cR d::(ap (Ax s) (Tx s)++ap Hr Tr)):=λ d s=>by
  show (cR d::((Ax s++Hr)++(Tx s++Tr).flatten)).Perm _;refine List.Perm.cons _ ?_;rw[List.flatten_append];show ((Ax s++Hr)++((Tx s).flatten++Tr.flatten)).Perm ((Ax s++(Tx s).flatten)++(Hr++Tr.flatten));rw[List.append_assoc,List.append_assoc];refine List.Perm.append_left _ ?_;rw[<- List.append_assoc,<- List.append_assoc];exact List.Perm.append_right _ List.perm_append_comm
 exact TR.range hi hg eg (λ s=>ap (Ax s) (Tx s)) I Ix La Ha Ia hps XB x0 h0 ip ir jp jr hp hj Hr Tr hHr hTr (by rw[hA,hT]) hit IS Ud
  (λ d s hs a w h1 h2 h3=>Uc d s hs a w h1 (h2.perm ((hpm d s).append_right F)) h3) (λ d c s hs a w h1 h2 h3=>TQ d c s hs a w h1 (h2.perm ((hpm d s).append_right F)) h3)
theorem pO{fn:Func}{tmps:Array Value}{R:Ending -> World -> Prop}:∀ (ds:List Nat) (H:HL) (w:World),Rel (ds.map cR++H) w -> Below 0 w0 w -> (∀w',Rel H w' -> Below 0 w0 w' -> LeavesIn (Wr none) 0 P fn tmps R [] .returning w') ->
  LeavesInM (Wr none) 0 P fn tmps R (ds.map coll) .returning w
 | [],H,w,h,hB,hk=>hk w h hB
 | d::ds,H,w,h,hB,hk=>by
  have hd:w.heap[d]?=some (.deferred (some [])):=h.holds (cR d) (by simp);have h1:Rel ((d,Blk.obj (.deferred (some [])))::(ds.map cR++H)) w:=h;have h2:=(h1.putObj (F:=[]) (.obj (.deferred none)));exact⟨by simp,.inl ⟨d,_,rfl,run_takeDeferred hd,pO ds H _ (Rel.drop (X:=[(d,Blk.obj (.deferred none))]) h2) (hB.trans (eJ _ _)) hk⟩⟩
theorem zf{f:FuncId}{fn:Func}{c:Code}{args:Array Value}{R:Value -> HL -> Prop}{H:HL}(hf:P.funcs[f]?=some fn)(hb:fn.body=some c)(hn:fn.ntmps=N)(ha:decide (args.size <= N)=true)
  (L:FL) (hL:tg 0 args.toList=L) (h:∀w0,TR none P N [] F w0 L H c (bodyPostM (Wr none) 0 P fn (DS F w0 R))):Sp P f args H F R:=by
 intro w hR;refine(callsIn_wide (n:=0)).1 (callsIn_of_wp_marks (F:=Wr none) hf hb trivial ?_);have ha':args.size <= N:=of_decide_eq_true ha;refine h w _ w ⟨?_,rfl,?_⟩ hR (Below.refl _ _)
 ·simp[hn];omega
 ·subst hL;intro t v ht;obtain⟨_,h2⟩:=lP 0 _ t v ht;have h3:args[t]?=some v:=by simpa using h2
  have iS:t<args.size:=(Array.getElem?_eq_some_iff.1 h3).1;simp only;rw[Array.getElem?_append_left iS];exact h3
theorem retM{fn:Func}{R:Value -> HL -> Prop}{rs:List ResultVar}(Y6:fn.results=⟨rs⟩)(ds:List Nat)(hD:D=ds.map coll)(dx ax:List Nat)(Ro:HL)(hints:List Hint)(v:Value)(E:List Nat)(Ob:List Prop)
  {A A1:HL} {Ts:List HL} (hdp:(dx++ax).isPerm (List.range A.length)=true) (hdx:dx.filterMap (A[·]?)=ds.map cR) (hax:ax.filterMap (A[·]?)=A1)
  (h:∀n0,B9 P n0 L rs (ap A1 Ts) Ro hints=some (v,E,E,Ob)) (hRo:∀y∈Ro,y∈F) (oF:AllP Ob) (ip ir jp jr:List Nat) (H':HL) (hp:(ip++ir).isPerm (List.range A1.length)=true) (hj:(jp++jr).isPerm (List.range Ts.length)=true) (hH:ap (ip.filterMap (A1[·]?)) (jp.filterMap (Ts[·]?))=H') (hv:R v H')
  (a:Act) (w:World) (hF:Fm N D L a) (hR:Rel (ap A Ts++F) w) (hB:Below 0 w0 w):LeavesInM (Wr none) 0 P fn a.tmps (DS F w0 R) a.defers .returning w:=by
 rw[hF.defs,hD];have h1:=fE A dx ax hdp;rw[hdx,hax] at h1;have hR1:Rel (ds.map cR++(ap A1 Ts++F)) w:=by
  refine hR.perm ?_;rw[<- List.append_assoc,<- List.append_assoc];exact List.Perm.append_right F (List.Perm.append_right _ h1)
 refine pO ds _ w hR1 hB ?_;intro w' VS Yn;have h':=h w'.heap.size;unfold B9 at h';split at h'
 case h_2=>cases h'
 rename_i vs s hs;split at h'
 case h_2=>cases h'
 simp only[Option.some.injEq,Prod.mk.injEq] at h';obtain⟨e1,e2,e3,e4⟩:=h';have iN:=ld (P:=P) hF VS rs _ _ _ hs rfl rfl hRo (λ e=>by cases e) (gR e2 e3) (by rw[e4];exact AllP.mem oF);subst e1;exact⟨_,kF Y6 iN,_,H',rfl,hv,VS.takeT ip ir jp jr hp hj hH,Yn⟩
end
theorem HX{r:Option Nat}{P:Program}{n0 N:Nat}{D:List Deferred}{F:HL}{ops:Array Oper}{Q:Exit -> Act -> World -> Prop}{rest:List Oper}{o:Oper}{L L':FL}{s s':SS}{a:Act}{w:World}
  (h:za P n0 N ops.toList [o] L s=some (L',s')) (heq:∀p∈s'.eq,p.1=p.2) (oF:∀p∈s'.ob,p) (hF:Fm N D L a) (hR:Rel (s.h++F) w) (hr:∀y∈s.r,y∈F) (hn:s.wr=true -> n0+s.cnt=w.heap.size)
  (hk:∀a' w',Fm N D L' a' -> Rel (s'.h++F) w' -> Below 0 w w' -> s'.wr=s.wr -> (s'.wr=true -> n0+s'.cnt=w'.heap.size) -> wpListIn (Wr r) 0 P ops Q rest a' w'):wpListIn (Wr r) 0 P ops Q (o::rest) a w:=by
 rw[wpListIn];rw[za] at h;split at h
 ·cases h
 ·rename_i s1 hw;split at h
  case h_2=>cases h
  rename_i L1 hp;rw[za] at h;cases h;obtain⟨a1,a2,a3,a4⟩:=bX hw;obtain⟨c1,c2,c3⟩:=cM hw hF oF;rw[if_neg (by rw[c1];simp)];refine⟨λ _ _=>trivial,?_⟩;exact hk _ w (hF.put hp) (by rw[c2];exact hR) (Below.refl _ _) a4 (λ e=>by rw[c3];exact hn (a4.symm.trans e))
 ·rename_i s1 hw;split at h
  ·cases h
  rename_i iD;obtain⟨a1,a2,a3,a4⟩:=bX hw;split at h
  ·rename_i v s2 he;split at h
   case h_2=>cases h
   rename_i L1 hp;rw[za] at h;cases h;obtain⟨d1,d2,d3,d4⟩:=dX he;obtain⟨c1,c2,c3⟩:=cM hw hF (λ p hp=>oF p (d2 p hp));obtain⟨w1,e1,e2,e3,e4,-⟩:=iY (w:=w) he heq oF (by rw[c2];exact hR) (by rw[a3];exact hr) (λ e=>by rw[c3];exact hn (a4.symm.trans e));rw[if_pos c1];refine⟨λ _ _=>trivial,?_⟩;rw[hF.sem iD,e1,Oper.uponIn_value];exact hk _ w1 (hF.put hp) e2 e3 (d4.trans a4) (λ e=>e4 (d4.symm.trans e))
  ·rename_i s2 he;split at h
   case h_2=>cases h
   rename_i L1 hp;rw[za] at h;cases h;obtain⟨d1,d2,d3,d4⟩:=dX he;obtain⟨c1,c2,c3⟩:=cM hw hF (λ p hp=>oF p (d2 p hp));obtain⟨w1,e1,e2,e3,e4,-⟩:=iY (w:=w) he heq oF (by rw[c2];exact hR) (by rw[a3];exact hr) (λ e=>by rw[c3];exact hn (a4.symm.trans e));rw[if_pos c1];refine⟨λ _ _=>trivial,?_⟩;rw[hF.sem iD,e1,Oper.uponIn_skip];exact hk _ w1 (hF.put hp) e2 e3 (d4.trans a4) (λ e=>e4 (d4.symm.trans e))
  ·cases h
inductive KI where
 | thn (y:Code)
 | blk (id:Nat)
 | scp
 | met (K:Act -> World -> Prop)
 | rnd (c:Code) (n:Nat)
inductive Fo where
 | code (c:Code)
 | ops (ops:Array Oper) (i:Nat)
 | ex (e:Exit)
 | drw (ops:Array Oper) (listed:List Bool)
structure Cfg where
 c:Fo
 k:List KI
 L:FL
 A:HL
 Ts:List HL
def xw(r:Option Nat)(P:Program)(c:Code)(Q:Exit -> Act -> World -> Prop):Nat -> Act -> World -> Prop
 | 0,_,_=>False
 | n+1,a,w=>c.wpIn (Wr r) 0 P (Exit.then (xw r P c Q n) Q) a w
def mL(r:Option Nat)(P:Program):List KI -> (Exit -> Act -> World -> Prop) -> Exit -> Act -> World -> Prop
 | [],Q=>Q
 | .thn y::k,Q=>Exit.then (y.wpIn (Wr r) 0 P (mL r P k Q)) (mL r P k Q)
 | .blk id::k,Q=>Exit.inBlock id (mL r P k Q)
 | .scp::k,Q=>Exit.noGoto (mL r P k Q)
 | .met K::k,Q=>Exit.then K (mL r P k Q)
 | .rnd c n::k,Q=>Exit.then (xw r P c (mL r P k Q) n) (mL r P k Q)
def Wf(r:Option Nat)(P:Program)(Q:Exit -> Act -> World -> Prop)(c:Fo)(k:List KI)(a:Act)(w:World):Prop:=match c with
 | .code c=>c.wpIn (Wr r) 0 P (mL r P k Q) a w
 | .ops ops i=>wpListIn (Wr r) 0 P ops (mL r P k Q) (ops.toList.drop i) a w
 | .ex e=>mL r P k Q e a w
 | .drw _ _=>False
def stp(P:Program)(n0 N:Nat)(c:Fo)(k:List KI)(L:FL)(s:SS):Option (Fo × List KI × FL × SS):=match c with
 | .code (.seq x y)=>some (.code x,.thn y::k,L,s)
 | .code (.region _ ops false)=>some (.ops ops 0,k,L,s)
 | .code (.block id c)=>some (.code c,.blk id::k,L,s)
 | .code .skip=>some (.ex .normal,k,L,s)
 | .code (.exit id)=>some (.ex (.exit id),k,L,s)
 | .code (.scope c)=>some (.code c,.scp::k,L,s)
 | .code (.label _)=>some (.ex .normal,k,L,s)
 | .code (.cond c x y)=>match iT L c,gm L c with
  | true,.bool b=>match s.hints with
   | .gd v::hs=>some (.code (if v then x else y),k,L,{ s with hints:=hs,ob:=(b=v)::s.ob })
   | _=>some (.code (if b then x else y),k,L,s)
  | _,_=>none
 | .ops ops i=>match ops.toList[i]? with
  | none=>some (.ex .normal,k,L,s)
  | some o=>match za P n0 N ops.toList [o] L s with
   | some (L,s)=>some (.ops ops (i+1),k,L,s)
   | none=>none
 | .ex .normal=>match k with
  | .thn y::k=>some (.code y,k,L,s)
  | .blk _::k=>some (.ex .normal,k,L,s)
  | .scp::k=>some (.ex .normal,k,L,s)
  | .rnd c (n+1)::k=>some (.code c,.rnd c n::k,L,s)
  | _=>none
 | .ex (.exit id)=>match k with
  | .thn _::k=>some (.ex (.exit id),k,L,s)
  | .blk XS::k=>some (.ex (if id=XS then .normal else .exit id),k,L,s)
  | .scp::k=>some (.ex (.exit id),k,L,s)
  | .met _::k=>some (.ex (.exit id),k,L,s)
  | .rnd _ _::k=>some (.ex (.exit id),k,L,s)
  | []=>none
 | _=>none
theorem Cf{P:Program}{n0 N:Nat}{ops:List Oper}{o:Oper}{L L':FL}{s s':SS}(h:za P n0 N ops [o] L s=some (L',s')):s'.wr=s.wr:=by
 rw[za] at h;split at h
 ·cases h
 ·rename_i s1 hw;split at h
  case h_2=>cases h
  rw[za] at h;cases h;exact(bX hw).2.2.2
 ·rename_i s1 hw;split at h
  ·cases h
  split at h
  ·rename_i v s2 he;split at h
   case h_2=>cases h
   rw[za] at h;cases h;exact(dX he).2.2.2.trans (bX hw).2.2.2
  ·rename_i s2 he;split at h
   case h_2=>cases h
   rw[za] at h;cases h;exact(dX he).2.2.2.trans (bX hw).2.2.2
  ·cases h
theorem v7{P:Program}{n0 N:Nat}{c c':Fo}{k k':List KI}{L L':FL}{s s':SS}(h:stp P n0 N c k L s=some (c',k',L',s')):(∀p∈s.eq,p∈s'.eq) /\ (∀p∈s.ob,p∈s'.ob) /\ s'.r=s.r /\ s'.wr=s.wr:=by
 have Zj:(∀p∈s.eq,p∈s.eq) /\ (∀p∈s.ob,p∈s.ob) /\ s.r=s.r /\ s.wr=s.wr:=⟨λ _ h=>h,λ _ h=>h,rfl,rfl⟩;unfold stp at h;split at h
 case h_8 =>
  split at h
  ·split at h
   ·cases h;exact⟨λ _ h=>h,λ _ h=>List.mem_cons_of_mem _ h,rfl,rfl⟩
   ·cases h;exact Zj
  ·cases h
 case h_9 =>
  split at h
  ·cases h;exact Zj
  ·split at h
   ·rename_i hs;cases h;obtain⟨b1,b2,b3⟩:=nJ _ _ _ _ _ hs;exact⟨b1,b2,b3,Cf hs⟩
   ·cases h
 case h_10=>split at h <;> first|(cases h;done)|(cases h;exact Zj)
 case h_11=>split at h <;> first|(cases h;done)|(cases h;exact Zj)
 all_goals first|(cases h;done)|(cases h;exact Zj)
theorem Fs{r:Option Nat}{P:Program}{n0 N:Nat}{D:List Deferred}{F:HL}{Q:Exit -> Act -> World -> Prop}{c c':Fo}{k k':List KI}{L L':FL}{s s':SS}{a:Act}{w:World}
  (h:stp P n0 N c k L s=some (c',k',L',s')) (heq:∀p∈s'.eq,p.1=p.2) (oF:∀p∈s'.ob,p) (hF:Fm N D L a) (hR:Rel (s.h++F) w) (hr:∀y∈s.r,y∈F) (hn:s.wr=true -> n0+s.cnt=w.heap.size)
  (hk:∀a' w',Fm N D L' a' -> Rel (s'.h++F) w' -> Below 0 w w' -> (s'.wr=true -> n0+s'.cnt=w'.heap.size) -> Wf r P Q c' k' a' w'):Wf r P Q c k a w:=by
 have B:=Below.refl 0 w;unfold stp at h;split at h
 ·cases h;exact wpIn_seq (hk a w hF hR B hn)
 ·cases h;exact wpIn_region_list (by simpa [Wf] using hk a w hF hR B hn)
 ·cases h;exact wpIn_block (hk a w hF hR B hn)
 ·cases h;exact wpIn_skip (hk a w hF hR B hn)
 ·cases h;exact wpIn_exit (hk a w hF hR B hn)
 ·cases h;exact jA (hk a w hF hR B hn)
 ·cases h;exact wpIn_label (hk a w hF hR B hn)
 ·split at h
  ·rename_i b hi hc;have e:=hF.eval hi;rw[hc] at e;split at h
   ·rename_i v hs hh;cases h;have hb:b=v:=oF _ List.mem_cons_self;subst hb;cases b
    ·exact wpIn_cond_false e (hk a w hF hR B hn)
    ·exact wpIn_cond_true e (hk a w hF hR B hn)
   ·cases h;cases b
    ·exact wpIn_cond_false e (hk a w hF hR B hn)
    ·exact wpIn_cond_true e (hk a w hF hR B hn)
  ·cases h
 ·split at h
  ·rename_i ho;cases h;show wpListIn _ _ _ _ _ _ _ _;rw[List.drop_eq_nil_of_le (List.getElem?_eq_none_iff.1 ho)];exact hk a w hF hR B hn
  ·rename_i o ho;split at h
   ·rename_i hs;cases h;show wpListIn _ _ _ _ _ _ _ _;have iS:=(List.getElem?_eq_some_iff.1 ho).1;rw[List.drop_eq_getElem_cons iS,(List.getElem?_eq_some_iff.1 ho).2];exact HX hs heq oF hF hR hr hn (λ a' w' h1 h2 h3 _ h4=>hk a' w' h1 h2 h3 h4)
   ·cases h
 ·split at h
  ·cases h;exact hk a w hF hR B hn
  ·cases h;exact hk a w hF hR B hn
  ·cases h;exact hk a w hF hR B hn
  ·cases h;exact hk a w hF hR B hn
  ·cases h
 ·split at h
  ·cases h;exact hk a w hF hR B hn
  ·cases h;have h2:=hk a w hF hR B hn;unfold Wf at h2;show (if _=_ then _ else _);split
   ·rename_i e;rw[if_pos e] at h2;exact h2
   ·rename_i e;rw[if_neg e] at h2;exact h2
  ·cases h;exact hk a w hF hR B hn
  ·cases h;exact hk a w hF hR B hn
  ·cases h;exact hk a w hF hR B hn
  ·cases h
 ·cases h
def adv(P:Program)(n0 N:Nat):Nat -> Fo -> List KI -> FL -> SS -> Option (Fo × List KI × FL × SS)
 | 0,c,k,L,s=>some (c,k,L,s)
 | n+1,c,k,L,s=>match stp P n0 N c k L s with
  | some (c,k,L,s)=>adv P n0 N n c k L s
  | none=>none
theorem v8{P:Program}{n0 N:Nat}:∀ (n:Nat) {c c':Fo} {k k':List KI} {L L':FL} {s s':SS},adv P n0 N n c k L s=some (c',k',L',s') -> (∀p∈s.eq,p∈s'.eq) /\ (∀p∈s.ob,p∈s'.ob) /\ s'.r=s.r /\ s'.wr=s.wr
 | 0,_,_,_,_,_,_,s,s',h=>by rw[adv] at h;cases h;exact⟨λ _ h=>h,λ _ h=>h,rfl,rfl⟩
 | n+1,_,_,_,_,_,_,s,s',h=>by
  rw[adv] at h;split at h
  ·rename_i hs;obtain⟨a1,a2,a3,a4⟩:=v7 hs;obtain⟨b1,b2,b3,b4⟩:=v8 n h;exact⟨λ p hp=>b1 p (a1 p hp),λ p hp=>b2 p (a2 p hp),b3.trans a3,b4.trans a4⟩
  ·cases h
theorem wa{r:Option Nat}{P:Program}{n0 N:Nat}{D:List Deferred}{F:HL}{Q:Exit -> Act -> World -> Prop}:∀ (n:Nat) {c c':Fo} {k k':List KI} {L L':FL} {s s':SS} {a:Act} {w:World},adv P n0 N n c k L s=some (c',k',L',s') -> (∀p∈s'.eq,p.1=p.2) -> (∀p∈s'.ob,p) -> Fm N D L a -> Rel (s.h++F) w -> (∀y∈s.r,y∈F) -> (s.wr=true -> n0+s.cnt=w.heap.size) ->
  (∀a' w',Fm N D L' a' -> Rel (s'.h++F) w' -> Below 0 w w' -> Wf r P Q c' k' a' w') -> Wf r P Q c k a w
 | 0,_,_,_,_,_,_,s,s',a,w,h,heq,oF,hF,hR,hr,hn,hk=>by rw[adv] at h;cases h;exact hk a w hF hR (Below.refl _ _)
 | n+1,_,_,_,_,_,_,s,s',a,w,h,heq,oF,hF,hR,hr,hn,hk=>by
  rw[adv] at h;split at h
  ·rename_i hs;obtain⟨a1,a2,a3,a4⟩:=v7 hs;obtain⟨b1,b2,b3,b4⟩:=v8 n h;exact Fs hs (λ p hp=>heq p (b1 p hp)) (λ p hp=>oF p (b2 p hp)) hF hR hr hn (λ a' w' h1 h2 h3 h4=>wa n h heq oF h1 h2 (by rw[a3];exact hr) h4 (λ a2 w2 k1 k2 k3=>hk a2 w2 k1 k2 (h3.trans k3)))
  ·cases h
structure RN(r:Option Nat)(P:Program)(N:Nat)(D:List Deferred)(F:HL)(w0:World)(R:HL)(s:Cfg)(Q:Exit -> Act -> World -> Prop):Prop where
 h:(∀y∈R,y∈F) -> ∀a w,Fm N D s.L a -> Rel (ap s.A s.Ts++F) w -> Below 0 w0 w -> Wf r P Q s.c s.k a w
def zg(P:Program)(n0 N n:Nat)(R:HL)(hints:List Hint)(s:Cfg):Option (Fo × List KI × FL × SS):=adv P n0 N n s.c s.k s.L ⟨s.A,R,hints,0,[],[],true⟩
def LS(P:Program)(n0 N n:Nat)(R:HL)(hints:List Hint)(s:Cfg):Cfg:=match zg P n0 N n R hints s with
 | some (c,k,L,ss)=>⟨c,k,L,ss.h,s.Ts⟩
 | none=>s
def LT(x:Option (Fo × List KI × FL × SS)):List Nat:=match x with
 | some (_,_,_,ss)=>ss.eq.map (·.2)
 | none=>[]
def LU(x:Option (Fo × List KI × FL × SS)):Option (List Nat × List Prop):=match x with
 | some (_,_,_,ss)=>match ss.hints with
  | []=>some (ss.eq.map (·.1),ss.ob)
  | _=>none
 | none=>none
theorem fy(A:HL)(Ts:List HL)(F:HL):ap A Ts++F=A++(Ts.flatten++F):=List.append_assoc _ _ _
theorem az{A:HL}{Ts:List HL}{F:HL}{x:Nat × Blk}(i:Nat)(h:A[i]?=some x:=by kernel_rfl):x∈ap A Ts++F:=List.mem_append_left _ (List.mem_append_left _ (List.mem_of_getElem? h))
theorem gn{X A:HL}{Ts:List HL}{F:HL}{x:Nat × Blk}(i:Nat)(h:A[i]?=some x:=by kernel_rfl):x∈X++(ap A Ts++F):=List.mem_append_right _ (az i h)
theorem ak{A:HL}{Ts:List HL}{F T:HL}(j:Nat)(h:Ts[j]?=some T:=by kernel_rfl):∀x∈T,x∈ap A Ts++F:=λ x hx =>
 List.mem_append_left _ (List.mem_append_right _ (List.mem_flatten.2 ⟨T,List.mem_of_getElem? h,hx⟩))
theorem aE{X A:HL}{Ts:List HL}{F T:HL}(j:Nat)(h:Ts[j]?=some T:=by kernel_rfl):∀x∈T,x∈X++(ap A Ts++F):=λ x hx=>List.mem_append_right _ (ak j h x hx)
theorem aq{A:HL}{Ts:List HL}{F:HL}{x:Nat × Blk}(h:x∈F):x∈ap A Ts++F:=List.mem_append_right _ h
theorem Cg{X A:HL}{Ts:List HL}{F:HL}{x:Nat × Blk}(h:x∈F):x∈X++(ap A Ts++F):=List.mem_append_right _ (List.mem_append_right _ h)
def ow(p n:Nat):List Hint:=List.replicate n (.own p)
def aab(n:Nat):List Hint:=List.replicate n (.own 0)
abbrev aI(n:Int):Prop:=-9223372036854775808 <= n /\ n <= 9223372036854775807
section
variable {r:Option Nat} {P:Program} {N:Nat} {D:List Deferred} {F:HL} {w0:World} {R:HL} {s:Cfg} {Q:Exit -> Act -> World -> Prop}
theorem tn(n:Nat)(hints:List Hint)(Ob:Nat -> List Prop)(oF:∀n0,AllP (Ob n0))(hk:∀n0,RN r P N D F w0 R (LS P n0 N n R hints s) Q)
  (h:∀n0,LU (zg P n0 N n R hints s)=some (LT (zg P n0 N n R hints s),Ob n0):=by intro n0;kernel_rfl):RN r P N D F w0 R s Q:=by
 refine⟨λ hR a w hF f_ hB=>?_⟩;have h':=h w.heap.size;have XE:=(hk w.heap.size).h hR;unfold LS at XE;generalize hx:zg P w.heap.size N n R hints s=x at h' XE;unfold LU at h';split at h'
 case h_2=>cases h'
 rename_i c k L ss;split at h'
 case h_2=>cases h'
 simp only[LT,Option.some.injEq,Prod.mk.injEq] at h';obtain⟨e1,e2⟩:=h';rw[fy] at f_;refine wa n hx (gR e1 rfl) (by rw[e2];exact AllP.mem (oF _)) hF f_ (λ y hy=>List.mem_append_right _ (hR y hy)) (λ _=>rfl) ?_;intro a' w' h1 h2 h3;exact XE a' w' h1 (by rw[fy];exact h2) (hB.trans h3)
theorem ae(n:Nat)(hints:List Hint)(hk:∀n0,RN r P N D F w0 R (LS P n0 N n R hints s) Q)
 (h:∀n0,LU (zg P n0 N n R hints s)=some (LT (zg P n0 N n R hints s),[]):=by intro n0;kernel_rfl):RN r P N D F w0 R s Q:=tn n hints (λ _=>[]) (λ _=>trivial) hk h
theorem ah(n:Nat)(hints:List Hint)(Ob:List Prop)(hk:∀n0,RN r P N D F w0 R (LS P n0 N n R hints s) Q)(oF:AllP Ob:=by simp only[AllP,aI,and_true,true_and] <;> (repeat' with_reducible refine And.intro ?_ ?_) <;> omega)
 (h:∀n0,LU (zg P n0 N n R hints s)=some (LT (zg P n0 N n R hints s),Ob):=by intro n0;kernel_rfl):RN r P N D F w0 R s Q:=tn n hints (λ _=>Ob) (λ _=>oF) hk h
def sr(t:Nat)(b:Bool)(s:Cfg):Cfg:=match s with
 | ⟨c,k,L,A,Ts⟩=>⟨c,k,(t,.bool b)::L,A,Ts⟩
theorem Fm.fix{a:Act}{L:FL}{t:Nat}{v:Value}(hF:Fm N D L a)(h:L.lookup t=some v):Fm N D ((t,v)::L) a:=⟨hF.size,hF.defs,λ t' v' h'=>by
 rw[List.lookup_cons] at h'
 by_cases e:t'=t
 ·subst e;simp at h';subst h';exact hF.has _ _ h
 ·have:(t' == t)=false:=by simpa using e
  rw[this] at h';exact hF.has _ _ h'⟩
theorem bL{b v:Bool}(t:Nat)(hb:b=v)(hk:RN r P N D F w0 R (sr t v s) Q)(h:s.L.lookup t=some (.bool b):=by kernel_rfl):RN r P N D F w0 R s Q:=by
 subst hb;exact⟨λ hR a w h1 h2 h3=>hk.h hR a w (h1.fix h) h2 h3⟩
theorem RN.em(p:Prop)[Decidable p](t:Nat)(h1:p -> RN r P N D F w0 R (sr t true s) Q)(h2:¬ p -> RN r P N D F w0 R (sr t false s) Q)(h:s.L.lookup t=some (.bool (decide p)):=by kernel_rfl):RN r P N D F w0 R s Q:=by
 by_cases hp:p
 ·exact bL t (decide_eq_true hp) (h1 hp) h
 ·exact bL t (decide_eq_false hp) (h2 hp) h
theorem RN.en(p:Prop)[Decidable p](t:Nat)(h1:p -> RN r P N D F w0 R (sr t false s) Q)(h2:¬ p -> RN r P N D F w0 R (sr t true s) Q)(h:s.L.lookup t=some (.bool (!decide p)):=by kernel_rfl):RN r P N D F w0 R s Q:=by
 by_cases hp:p
 ·exact bL t (by simp[hp]) (h1 hp) h
 ·exact bL t (by simp[hp]) (h2 hp) h
theorem jB(b:Bool)(t:Nat)(h1:b=true -> RN r P N D F w0 R (sr t true s) Q)(h2:¬ b=true -> RN r P N D F w0 R (sr t false s) Q)(h:s.L.lookup t=some (.bool b):=by kernel_rfl):RN r P N D F w0 R s Q:=by
 by_cases hp:b=true
 ·exact bL t hp (h1 hp) h
 ·exact bL t (Bool.eq_false_iff.2 hp) (h2 hp) h
theorem tp(b:Bool)(t:Nat)(h1:b=true -> RN r P N D F w0 R (sr t false s) Q)(h2:¬ b=true -> RN r P N D F w0 R (sr t true s) Q)(h:s.L.lookup t=some (.bool (!b)):=by kernel_rfl):RN r P N D F w0 R s Q:=by
 by_cases hp:b=true
 ·exact bL t (by simp[hp]) (h1 hp) h
 ·exact bL t (by simp[hp]) (h2 hp) h
theorem nt{b:Bool}(h:b=true):(!b)=false:=by rw[h];rfl
theorem nf{b:Bool}(h:b=false):(!b)=true:=by rw[h];rfl
theorem Fm.sub{a:Act}{L:FL}:∀ {Lx:FL},Fm N D L a -> Lx.map (λ p=>L.lookup p.1)=Lx.map (λ p=>some p.2) -> Fm N D Lx a
 | [],hF,_=>⟨hF.size,hF.defs,λ t v h=>by cases h⟩
 | p::Lx,hF,h=>by
  simp only[List.map_cons,List.cons.injEq] at h;have ih:=Fm.sub hF h.2;refine⟨hF.size,hF.defs,λ t v h'=>?_⟩;rw[List.lookup_cons] at h'
  by_cases e:t=p.1
  ·subst e;simp at h';subst h';exact hF.has _ _ h.1
  ·have:(t == p.1)=false:=by simpa using e
   rw[this] at h';exact ih.has _ _ h'
theorem RN.ro{R':HL}(h:(∀y∈R,y∈F) -> ∀y∈R',y∈F)(hk:RN r P N D F w0 R' s Q):RN r P N D F w0 R s Q:=⟨λ hR=>hk.h (h hR)⟩
end
theorem dF{N:Nat}{dst:Option Tmp}{L:FL}(h:(fd N dst undef L).isSome=true)(v:Value):∃L',fd N dst v L=some L':=by
 cases dst with
 | none=>exact⟨L,rfl⟩
 | some t =>
  unfold fd at h ⊢;simp only at h ⊢;split at h
  ·exact⟨_,rfl⟩
  ·cases h
def DV(P:Program)(n0 N:Nat)(R:HL)(s:Cfg):Option (Option Tmp × FuncId × Array Value × HL × List Nat × List Nat × List Prop):=match s.c with
 | .ops ops i=>pM P n0 N ops.toList i s.L s.A R []
 | _=>none
def mw(N:Nat)(s:Cfg)(x:Option (Option Tmp × FuncId × Array Value × HL × List Nat × List Nat × List Prop)):Option (FuncId × Array Value × List Prop × List Nat × HL):=match x with
 | some (dst,f,args,H,E,_,Ob)=>match (fd N dst undef s.L).isSome with
  | true=>some (f,args,Ob,E,H)
  | false=>none
 | none=>none
def eR(N:Nat)(v:Value)(s:Cfg):Cfg:=match s with
 | ⟨.ops ops i,k,L,A,Ts⟩=>match ops.toList[i]? with
  | some o=>match fd N o.dst v L with
   | some L'=>⟨.ops ops (i+1),k,L',A,Ts⟩
   | none=>⟨.ops ops i,k,L,A,Ts⟩
  | none=>⟨.ops ops i,k,L,A,Ts⟩
 | s=>s
theorem HY{α:Type}(l:List α):(List.range l.length).filterMap (l[·]?)=l:=by
 induction l with
 | nil=>rfl
 | cons x l ih =>
  rw[List.length_cons,List.range_succ_eq_map,List.filterMap_cons];simp only[List.getElem?_cons_zero,List.filterMap_map];congr 1
def oth(ip:List Nat)(n:Nat):List Nat:=(List.range n).filter λ i=>!(ip.contains i)
def zh(A:HL -> HL)(Ts:List HL -> List HL)(s:Cfg):Cfg:=match s with
 | ⟨c,k,L,A',XK⟩=>⟨c,k,L,A A',Ts XK⟩
section
variable {r:Option Nat} {P:Program} {N:Nat} {D:List Deferred} {F:HL} {w0:World} {R:HL} {s:Cfg} {Q:Exit -> Act -> World -> Prop}
theorem rT{f:FuncId}{args:Array Value}{Hp Hr:HL}{Rv:Value -> HL -> Prop}
  (h:∀n0,mw N s (DV P n0 N R s)=some (f,args,[],[],s.A)) (hp:(Hp++Hr).Perm (ap s.A s.Ts)) (hc:(∀y∈R,y∈F) -> Sp P f args Hp (Hr++F) Rv)
  (hk:(∀y∈R,y∈F) -> ∀v H',Rv v H' -> ∀a w,Fm N D (eR N v s).L a -> Rel ((H'++Hr)++F) w -> Below 0 w0 w -> Wf r P Q (eR N v s).c (eR N v s).k a w):RN r P N D F w0 R s Q:=by
 refine⟨λ hR a w hF f_ hB=>?_⟩;have h1:=h w.heap.size;obtain⟨c,k,L,A,Ts⟩:=s;unfold DV at h1;simp only at h1 hF f_ hp;cases c with
 | code c=>simp[mw] at h1
 | ex e=>simp[mw] at h1
 | drw _ _=>simp[mw] at h1
 | ops ops i =>
  simp only at h1;generalize hx:pM P w.heap.size N ops.toList i L A R []=x at h1;unfold mw at h1;split at h1
  case h_2=>cases h1
  rename_i dst f' z_ H1 E E' Ob';split at h1
  case h_2=>cases h1
  rename_i X2;simp only[Option.some.injEq,Prod.mk.injEq] at h1;obtain⟨e1,e2,e3,e4,e5⟩:=h1;subst e1;subst e2;subst e3;subst e4;subst e5;obtain⟨o,s1,s',ho,hw,iD,XG,hd,hh,g1,g2,g3⟩:=jS hx;have AS:ops.toList.drop i=o::ops.toList.drop (i+1):=by
   have iS:i<ops.toList.length:=(List.getElem?_eq_some_iff.1 ho).1;rw[List.drop_eq_getElem_cons iS,(List.getElem?_eq_some_iff.1 ho).2]
  show wpListIn _ _ _ _ _ _ _ _;rw[AS,wpListIn];obtain⟨d1,d2,d3,d4⟩:=dX XG;obtain⟨a1,a2,a3,a4⟩:=bX hw;have UN:∀p∈s'.ob,p:=by rw[g3];intro p hp;cases hp
  have aeP:∀p∈s'.eq,p.1=p.2:=by
   have:s'.eq=[]:=by simpa using g1
   rw[this];intro p hp;cases hp
  obtain⟨c1,c2,c3⟩:=cM hw hF (λ p hp=>UN p (d2 p hp));rw[fy] at f_;obtain⟨w1,r1,r2,r3,r4,-⟩:=iY (w:=w) (F:=Ts.flatten++F) XG aeP UN (by rw[c2];exact f_) (by rw[a3];exact λ y hy=>List.mem_append_right _ (hR y hy)) (λ _=>by rw[c3];rfl);rw[if_pos c1];refine⟨λ _ _=>trivial,?_⟩;rw[hF.sem iD,r1,Oper.uponIn_enter];refine⟨λ h=>(by cases h),?_⟩;rw[hh,<- fy] at r2;have r2':Rel (Hp++(Hr++F)) w1:=by rw[<- List.append_assoc];exact r2.perm (hp.append_right F)
  refine lc ((hc hR w1 r2').mono ?_);rintro e w2 ⟨v,H',rfl,hv,VS,Yn⟩;have hh2:=hk hR v H' hv;obtain⟨L',hl⟩:=dF X2 v;have TZ:eR N v ⟨.ops ops i,k,L,H1,Ts⟩=⟨.ops ops (i+1),k,L',H1,Ts⟩:=by
   unfold eR;simp only[ho,hd,hl]
  rw[TZ] at hh2;rw[hd];exact hh2 _ w2 (hF.put hl) (by rw[List.append_assoc];exact VS) (hB.trans (r3.trans Yn))
theorem sP{N:Nat}{v:Value}{s:Cfg}:(eR N v s).A=s.A /\ (eR N v s).Ts=s.Ts:=by
 unfold eR;split
 ·split
  ·split <;> exact⟨rfl,rfl⟩
  ·exact⟨rfl,rfl⟩
 ·exact⟨rfl,rfl⟩
theorem RN.cp{f:FuncId}{args:Array Value}{v:Value}(hc:Sp P f args [] (ap s.A s.Ts++F) (λ u H'=>u=v /\ H'=[]))(hk:RN r P N D F w0 R (eR N v s) Q)
  (h:∀n0,mw N s (DV P n0 N R s)=some (f,args,[],[],s.A):=by intro n0;kernel_rfl):RN r P N D F w0 R s Q:=by
 refine rT (Hp:=[]) (Hr:=ap s.A s.Ts) h (List.Perm.refl _) (λ _=>hc) ?_;rintro hR u H' ⟨rfl,rfl⟩ a w h1 h2 h3;exact hk.h hR a w h1 (by rw[sP.1,sP.2];exact h2) h3
def fR(ip:List Nat)(s:Cfg):HL:=(oth ip s.A.length).filterMap (s.A[·]?)
def gM(jp:List Nat)(s:Cfg):List HL:=(oth jp s.Ts.length).filterMap (s.Ts[·]?)
def Qe(N:Nat)(ip jp:List Nat)(Hq:HL)(Tq:List HL)(v:Value)(s:Cfg):Cfg:=zh (λ A=>Hq++(oth ip A.length).filterMap (A[·]?)) (λ Ts=>Tq++(oth jp Ts.length).filterMap (Ts[·]?)) (eR N v s)
theorem sQ{A:HL -> HL}{Ts:List HL -> List HL}{s:Cfg}:(zh A Ts s).A=A s.A /\ (zh A Ts s).Ts=Ts s.Ts /\ (zh A Ts s).L=s.L /\ (zh A Ts s).c=s.c /\ (zh A Ts s).k=s.k:=⟨rfl,rfl,rfl,rfl,rfl⟩
def cB(ip jp:List Nat)(s:Cfg):Bool:=(ip++oth ip s.A.length).isPerm (List.range s.A.length) && (jp++oth jp s.Ts.length).isPerm (List.range s.Ts.length)
def picks(ip jp:List Nat)(s:Cfg):HL × List HL:=(ip.filterMap (s.A[·]?),jp.filterMap (s.Ts[·]?))
theorem RN.ct{τ:Type}(ip jp:List Nat){f:FuncId}{args:Array Value}{Hp:HL}{Tp:List HL}{Hq:τ -> HL}{Tq:τ -> List HL}{Rv:Value -> τ -> Prop}
  (hc:Sp P f args (ap Hp Tp) (ap (fR ip s) (gM jp s)++F) (λ v H'=>∃x,H'=ap (Hq x) (Tq x) /\ Rv v x)) (hk:∀v x,Rv v x -> RN r P N D F w0 R (Qe N ip jp (Hq x) (Tq x) v s) Q)
  (h:∀n0,mw N s (DV P n0 N R s)=some (f,args,[],[],s.A):=by intro n0;kernel_rfl)
  (hp:cB ip jp s=true:=by kernel_rfl) (hH:picks ip jp s=(Hp,Tp):=by kernel_rfl):RN r P N D F w0 R s Q:=by
 unfold cB at hp;unfold picks at hH;rw[Bool.and_eq_true] at hp;simp only[Prod.mk.injEq] at hH;obtain⟨e1,e2⟩:=hH;refine rT (Hp:=ap Hp Tp) (Hr:=ap (fR ip s) (gM jp s)) h ?_ (λ _=>hc) ?_
 ·have h1:=nK s.A s.Ts ip (oth ip s.A.length) jp (oth jp s.Ts.length) hp.1 hp.2;rw[e1,e2] at h1;exact h1
 ·rintro hR v H' ⟨x,rfl,hv⟩ a w h1 h2 h3;refine(hk v x hv).h hR a w h1 ?_ h3;unfold Qe;rw[sQ.1,sQ.2.1,sP.1,sP.2];refine h2.perm ?_;rw[List.append_assoc (ap (Hq x) (Tq x))];exact(xu _ _ _ _ _).symm
theorem Sp.run{f:FuncId}{fn:Func}{c:Code}{args:Array Value}{H:HL}{R':Value -> HL -> Prop}(hf:P.funcs[f]?=some fn)(hb:fn.body=some c)(hR:∀y∈R,y∈F){A:HL}{Ts:List HL}(hH:H=ap A Ts)
  (h:∀w0,RN none P fn.ntmps [] F w0 R ⟨.code c,[],tg 0 args.toList,A,Ts⟩ (bodyPost P fn (DS F w0 R'))) (ha:decide (args.size <= fn.ntmps)=true:=by kernel_rfl):Sp P f args H F R':=by
 subst hH;exact B8 hf hb rfl ha _ rfl λ w0=>(h w0).h hR
theorem jX{r:Option Nat}{P:Program}{a:Act}{w:World}:∀ (k:List KI) {Q:Exit -> Act -> World -> Prop},Q .ret a w -> mL r P k Q .ret a w
 | [],_,h=>h
 | .thn _::k,_,h=>jX k h
 | .blk _::k,_,h=>jX k h
 | .scp::k,_,h=>jX k h
 | .met _::k,_,h=>jX k h
 | .rnd _ _::k,_,h=>jX k h
def o0(s:Cfg):Bool:=match s.c,s.k with
 | .code .ret,_=>true
 | .ex .normal,[]=>true
 | _,_=>false
theorem qJ(h:o0 s=true){a:Act}{w:World}(h1:Q .ret a w)(h2:Q .normal a w):Wf r P Q s.c s.k a w:=by
 obtain⟨c,k,L,A,Ts⟩:=s;unfold o0 at h;split at h
 ·rename_i h0;simp only at h0;subst h0;exact wpIn_ret (jX k h1)
 ·rename_i h0 h3;simp only at h0 h3;subst h0;subst h3;exact h2
 ·cases h
def pP(x:Option (Value × List Nat × List Nat × List Prop)):List Nat:=match x with
 | some (_,E,_,_)=>E
 | none=>[]
def lh(P:Program)(n0:Nat)(rs:List ResultVar)(R:HL)(hints:List Hint)(s:Cfg):Option (Value × List Nat × List Nat × List Prop):=B9 P n0 s.L rs (ap s.A s.Ts) R hints
theorem LW{fn:Func}{R':Value -> HL -> Prop}(hints:List Hint)(Ob:List Prop)(oF:AllP Ob)(ip jp:List Nat){v:Value}{H':HL}(hv:R' v H')
  (hc:o0 s=true:=by kernel_rfl) (h:∀n0,lh P n0 fn.results.toList R hints s=some (v,pP (lh P n0 fn.results.toList R hints s),pP (lh P n0 fn.results.toList R hints s),Ob):=by intro n0;kernel_rfl)
  (hp:cB ip jp s=true:=by kernel_rfl) (hH:ap (picks ip jp s).1 (picks ip jp s).2=H':=by kernel_rfl):RN r P N [] F w0 R s (bodyPost P fn (DS F w0 R')):=by
 unfold cB at hp;unfold picks at hH;refine⟨λ hR a w hF f_ hB=>?_⟩;rw[Bool.and_eq_true] at hp;have h':=h w.heap.size;unfold lh B9 at h';split at h'
 case h_2=>cases h'
 rename_i vs ss hs;split at h'
 case h_2=>cases h'
 simp only[pP,Option.some.injEq,Prod.mk.injEq] at h';obtain⟨e1,-,e3,e4⟩:=h';have iN:=ld (P:=P) hF f_ fn.results.toList _ _ _ hs rfl rfl hR (λ e=>by cases e) (gR rfl e3) (by rw[e4];exact AllP.mem oF);have hh:a.defers=[] /\ ∃v' ,(results fn a.tmps).run P w=.ok v' w /\ DS F w0 R' (.returned v') w:=by
  subst e1;exact⟨hF.defs,_,kF (by simp) iN,_,H',rfl,hv,f_.takeT ip _ jp _ hp.1 hp.2 hH,hB⟩
 obtain⟨q1,v',q2,q3⟩:=hh;exact qJ hc ⟨q1,v',q2,q3⟩ ⟨q1,v',q2,q3⟩
theorem RN.ret{fn:Func}{R':Value -> HL -> Prop}(hints:List Hint)(ip jp:List Nat){v:Value}{H':HL}(hv:R' v H')
 (hc:o0 s=true:=by kernel_rfl) (h:∀n0,lh P n0 fn.results.toList R hints s=some (v,pP (lh P n0 fn.results.toList R hints s),pP (lh P n0 fn.results.toList R hints s),[]):=by intro n0;kernel_rfl)
 (hp:cB ip jp s=true:=by kernel_rfl) (hH:ap (picks ip jp s).1 (picks ip jp s).2=H':=by kernel_rfl):RN r P N [] F w0 R s (bodyPost P fn (DS F w0 R')):=LW hints [] trivial ip jp hv hc h hp hH
structure Inv where
 L:FL
 A:HL
 Ts:List HL
 I:Prop
 m:Nat
def Qf(K:Act -> World -> Prop)(V:Inv)(s:Cfg):Cfg:=match s with
 | ⟨.code (.loop c),k,_,_,_⟩=>⟨.code c,.met K::k,V.L,V.A,V.Ts⟩
 | s=>s
def xx(s:Cfg):Bool:=match s.c with
 | .code (.loop _)=>true
 | _=>false
def MV{σ:Type}(N:Nat)(D:List Deferred)(F:HL)(w0:World)(V:σ -> Inv)(I:σ -> Prop):Act -> World -> Prop:=Oo N D F w0 (λ x=>(V x).L) (λ x=>ap (V x).A (V x).Ts) I
def Ft(s:Cfg):Option (Act -> World -> Prop):=match s.c,s.k with
 | .ex .normal,.met K::_=>some K
 | _,_=>none
def xy(V:Inv)(ip jp:List Nat)(s:Cfg):List (Option Value) × HL × List HL:=(V.L.map λ p=>s.L.lookup p.1,ip.filterMap (s.A[·]?),jp.filterMap (s.Ts[·]?))
def pQ(V:Inv):List (Option Value) × HL × List HL:=(V.L.map λ p=>some p.2,V.A,V.Ts)
theorem tu{V:Inv}{ip jp:List Nat}{a:Act}{w:World}(h:xy V ip jp s=pQ V)(hp:cB ip jp s=true)(h1:Fm N D s.L a)(h2:Rel (ap s.A s.Ts++F) w):Fm N D V.L a /\ Rel (ap V.A V.Ts++F) w:=by
 unfold xy pQ at h;unfold cB at hp;rw[Bool.and_eq_true] at hp;simp only[Prod.mk.injEq] at h;exact⟨h1.sub h.1,h2.takeT ip _ jp _ hp.1 hp.2 (by rw[h.2.1,h.2.2])⟩
theorem sR{σ:Type}{V:σ -> Inv}{I:σ -> Prop}(x:σ)(ip jp:List Nat)(hi:I x)(hm:Ft s=some (MV N D F w0 V I):=by kernel_rfl)(h:xy (V x) ip jp s=pQ (V x):=by kernel_rfl)(hp:cB ip jp s=true:=by kernel_rfl):RN r P N D F w0 R s Q:=by
 refine⟨λ hR a w h1 h2 h3=>?_⟩;obtain⟨k1,k2⟩:=tu h hp h1 h2;obtain⟨c,k,L,A,Ts⟩:=s;unfold Ft at hm;split at hm
 case h_2=>cases hm
 rename_i K k' e1 e2;simp only at e1 e2;subst e1;subst e2;simp only[Option.some.injEq] at hm;subst hm;exact⟨x,hi,k1,k2,h3⟩
theorem HZ{σ:Type}{L:FL}{H:HL}(Lx:σ -> FL)(Hx:σ -> HL)(I:σ -> Prop)(μ:σ -> Nat){c:Code}(round:∀x,I x -> TR r P N D F w0 (Lx x) (Hx x) c (Exit.then (Oo N D F w0 Lx Hx (λ x'=>I x' /\ μ x'<μ x)) Q))(x0:σ)(hi:I x0):TR r P N D F w0 (Lx x0) (Hx x0) (.loop c) Q:=by
 intro a w h1 h2 h3;have key:∀n x,μ x <= n -> I x -> ∀a w,Fm N D (Lx x) a -> Rel (Hx x++F) w -> Below 0 w0 w -> ∀ (b:Frame) (k:List Item) (cs:List Frame),b.roundOf=(Wr r).round -> (Wr r).fn b.fn -> (Wr r).room (cs.length+1+0) -> ∃e a' w',Q e a' w' /\ ArrivesIn (Machine.fenced P (Wr r)) P (lone (b.atR a (.code c :: .inLoop c::k)) cs w) b k cs e a' w':=by
  intro n
  induction n using Nat.strongRecOn with
  | _ n ih =>
   intro x hn hI a w k1 k2 k3 b k cs UM hb hr;obtain⟨e,a₁,w₁,hq,BY⟩:=round x hI a w k1 k2 k3 b (.inLoop c::k) cs UM hb hr;cases e with
   | normal =>
    obtain⟨x',⟨hI',iS⟩,m1,m2,m3⟩:=hq;obtain⟨e₂,a₂,w₂,W9,UC⟩:=ih (μ x') (by omega) x' (Nat.le_refl _) hI' a₁ w₁ m1 m2 m3 b k cs UM hb hr;exact⟨e₂,a₂,w₂,W9,.of_steps (StepsIn.trans BY (.one (fenced_calm hb hr rfl) stepR_inLoop)) UC⟩
   | exit id=>exact⟨_,a₁,w₁,hq,.pass (x:=.inLoop c) rfl (λ _ _=>.inl (by simp)) BY⟩
   | goto l=>exact⟨_,a₁,w₁,hq,.pass (x:=.inLoop c) rfl (λ _ _=>.inl (by simp)) BY⟩
   | ret=>exact⟨_,a₁,w₁,hq,.pass (x:=.inLoop c) rfl (λ _ _=>.inl (by simp)) BY⟩
   | panic ch=>exact⟨_,a₁,w₁,hq,.pass (x:=.inLoop c) rfl (λ _ _=>.inl (by simp)) BY⟩
   | outgrown=>exact⟨_,a₁,w₁,hq,.pass (x:=.inLoop c) rfl (λ _ _=>.inl (by simp)) BY⟩
 intro b k cs UM hb hr;obtain⟨e,a',w',hq,BY⟩:=key _ x0 (Nat.le_refl _) hi a w h1 h2 h3 b k cs UM hb hr;exact⟨e,a',w',hq,.of_steps (.one (fenced_calm hb hr rfl) stepR_loop) BY⟩
theorem RN.loop{σ:Type}(V:σ -> Inv)(x0:σ)(ip jp:List Nat)(hi:(V x0).I)
  (round:∀x,(V x).I -> (∀ {s':Cfg} {R':HL} (x':σ) (ip jp:List Nat),(V x').I /\ (V x').m<(V x).m -> (hm:Ft s'=some (MV N D F w0 V (λ x'=>(V x').I /\ (V x').m<(V x).m)):=by kernel_rfl) -> (h:xy (V x') ip jp s'=pQ (V x'):=by kernel_rfl) -> (hp:cB ip jp s'=true:=by kernel_rfl) -> RN r P N D F w0 R' s' Q) ->
   RN r P N D F w0 R (Qf (MV N D F w0 V (λ x'=>(V x').I /\ (V x').m<(V x).m)) (V x) s) Q)
  (hc:xx s=true:=by kernel_rfl) (h:xy (V x0) ip jp s=pQ (V x0):=by kernel_rfl) (hp:cB ip jp s=true:=by kernel_rfl):RN r P N D F w0 R s Q:=by
 refine⟨λ hR a w h1 h2 h3=>?_⟩;obtain⟨k1,k2⟩:=tu h hp h1 h2;obtain⟨c,k,L,A,Ts⟩:=s;unfold xx at hc;split at hc
 case h_2=>cases hc
 rename_i c' e1;simp only at e1;subst e1;exact HZ (L:=L) (H:=A) (λ x=>(V x).L) (λ x=>ap (V x).A (V x).Ts) (λ x=>(V x).I) (λ x=>(V x).m) (λ x hx=>(round x hx (λ x' ip jp hi hm h hp=>sR x' ip jp hi hm h hp)).h hR) x0 hi a w k1 k2 h3
def R8(n:Nat)(s:Cfg):Cfg:=match s with
 | ⟨.code (.loop c),k,L,A,Ts⟩=>⟨.code c,.rnd c n::k,L,A,Ts⟩
 | s=>s
theorem Fu{c:Code}{n:Nat}:∀a w,xw none P c Q n a w -> Code.rounds P c Q n a w:=by
 induction n with
 | zero=>exact λ _ _ h=>h
 | succ n ih =>
  intro a w h;refine(wpIn_wide (n:=0)).1 (wpIn_mono h λ e a w q=>?_);cases e <;> first|exact ih a w q|exact q
theorem RN.rounds(n:Nat)(hk:RN none P N D F w0 R (R8 n s) Q)(hc:xx s=true:=by kernel_rfl):RN none P N D F w0 R s Q:=by
 refine⟨λ hR a w h1 h2 h3=>?_⟩;obtain⟨c,k,L,A,Ts⟩:=s;unfold xx at hc;split at hc
 case h_2=>cases hc
 rename_i c' e1;simp only at e1;subst e1;exact(wpIn_wide (n:=0)).2 (wp_loop_rounds (n+1) (Fu (n:=n+1) a w (hk.h hR a w h1 h2 h3)))
end
def aai:=@RN.cp
def aaj:=@RN.ct
def aam:=@RN.em
def aan:=@RN.en
def aao:=@RN.loop
def aaq:=@RN.ret
def aar:=@RN.ro
def aas:=@RN.rounds
def aau:=@SlIs.nil
def aav:=@Sp.run
end Go.Proofs.YtdppjkjbghbnjaaGreatDoor
