import Derived.Test.YthoijjeddhfcnaaGreatDoorZ02
import Derived.Deep.AppendSrc
import Derived.Laws.AppendOwn
import Derived.LoopN
import Derived.RangeFuncSeq
import Derived.RangeFuncLeaves
import Derived.Shelf.Abstract
set_option maxHeartbeats 4000000
set_option maxRecDepth 100000
set_option linter.unusedSimpArgs false
set_option linter.unusedVariables false
namespace Go.Proofs.YthoijjeddhfcnaaGreatDoor
open Go.RowKit
structure Enc(α:Type) where
 w:Nat
 cell:α -> Nat -> Value
 dflt:α
section
variable {α:Type} (e:Enc α)
def aD(l:List α):Nat -> Nat -> Value:=λ i k=>e.cell (l.getD i e.dflt) k
def aE(l:List α):List Value:=l.flatMap λ x=>(List.range e.w).map (e.cell x)
theorem bX(l:List α):(aE e l).length=l.length*e.w:=by
 induction l with
 | nil=>simp[aE]
 | cons x l ih=>simp only[aE,List.flatMap_cons,List.length_append,List.length_map,List.length_range,List.length_cons,Nat.succ_mul] at ih ⊢;omega
theorem cP(l l':List α):aE e (l++l')=aE e l++aE e l':=by simp[aE]
theorem zn(l:List α):∀n,n <= l.length -> bU e.w (aD e l) n=aE e (l.take n)
 | 0,_=>by simp[bU,aE]
 | n+1,h=>by
  rw[bU,zn l n (by omega),List.take_succ_eq_append_getElem (by omega),cP]
  congr 1
  simp[aE,aD,List.getElem?_eq_getElem (show n<l.length by omega)]
theorem ku(l:List α):bU e.w (aD e l) l.length=aE e l:=by rw[zn e l _ (Nat.le_refl _),List.take_length]
def SlIs(T:TypeId)(l:List α)(A:Option Addr)(cap:Nat)(Hl:HL):Prop :=
 (A=none /\ cap=0 /\ l=[] /\ Hl=[]) \/ ∃b o full,A=some ⟨b,o*e.w,none⟩ /\ Hl=[(b,.rows e.w (o+cap) (aD e full) T (0,0))] /\ full.length=o+cap /\ l.length <= cap /\ (full.drop o).take l.length=l
def dV:Option Addr -> Prop
 | none=>True
 | some a=>a.off=0
theorem SlIs.nil(T:TypeId):SlIs e T [] none 0 []:=.inl ⟨rfl,rfl,rfl,rfl⟩
end
def l7:List Value -> Nat -> List Value -> List Value
 | c,_,[]=>c
 | c,o,v::r=>l7 (c.set o v) (o+1) r
theorem pm:∀ (news c:List Value) (o:Nat),o+news.length <= c.length -> ∀j,(l7 c o news)[j]?=if o <= j /\ j<o+news.length then news[j-o]? else c[j]?
 | [],c,o,_,j=>by rw[l7,if_neg (by simp only[List.length_nil];omega)]
 | v::r,c,o,h,j=>by
  simp only[List.length_cons] at h
  rw[l7,pm r _ (o+1) (by simp;omega) j]
  by_cases h1:o+1 <= j /\ j<o+1+r.length
  ·rw[if_pos h1,if_pos (by simp only[List.length_cons];omega)]
   obtain⟨d,rfl⟩:∃d,j=o+1+d:=⟨j-(o+1),by omega⟩
   rw[show o+1+d-o=d+1 by omega,List.getElem?_cons_succ]
   congr 1;omega
  ·rw[if_neg h1,List.getElem?_set]
   by_cases h2:o=j
   ·subst h2
    rw[if_pos rfl,if_pos (by omega),if_pos (by simp only[List.length_cons];omega)]
    simp
   ·rw[if_neg h2,if_neg (by simp only[List.length_cons];omega)]
theorem kw(b:Nat):∀ (news:List Value) (o:Nat) (w:World) (c:List Value) (ty:TypeId) (fz:Nat × Nat),w.heap[b]?=some (.cells ⟨c⟩ ty fz) -> (w.setCells b o news).heap[b]?=some (.cells ⟨l7 c o news⟩ ty fz)
 | [],o,w,c,ty,fz,h=>h
 | v::r,o,w,c,ty,fz,h=>by
  rw[World.setCells,l7]
  refine kw b r (o+1) _ _ ty fz ?_
  simp only[World.setCell,Array.getElem?_modify,if_true,h,Option.map_some]
  simp
theorem kx(b:Nat):∀ (news:List Value) (o:Nat) (w:World) (k:Nat),k≠b -> (w.setCells b o news).heap[k]?=w.heap[k]?
 | [],o,w,k,h=>rfl
 | v::r,o,w,k,h=>by
  rw[World.setCells,kx b r (o+1) _ k h]
  exact Below.heap_setCell _ _ _ _ h
theorem ky(b:Nat):∀ (news:List Value) (o:Nat) (w:World),Below 0 w (w.setCells b o news)
 | [],o,w=>Below.refl _ _
 | v::r,o,w=>((Below.refl 0 w).setCell (Nat.zero_le _) v).trans (ky b r (o+1) _)
theorem j8(n c:Nat)(h:c<n):Builtin.nextslicecap n c <= 2*n+192:=by
 unfold Builtin.nextslicecap
 split
 ·omega
 ·split
  ·omega
  ·simp only[Builtin.growBy]
   repeat' split
   all_goals omega
section
variable {α:Type} {e:Enc α} {P:Program} {t tx ty T:TypeId} {inf:TypeInfo} {z:Value}
structure EncOk(e:Enc α)(P:Program)(T:TypeId)(inf:TypeInfo)(z:Value):Prop where
 info:P.info? T=some inf
 zero:inf.zero=some z
 size:inf.size=e.w
 zsize:z.cells.size=e.w
 zcell:∀k,k<e.w -> z.cells[k]?=some (e.cell e.dflt k)
 one:∀x k,(e.cell x k).oneCell'=true
 bytes:inf.bytes <= 1000
theorem nY(ok:EncOk e P T inf z)(n:Nat):(Builtin.zeroCells z.cells n).toList=aE e (List.replicate n e.dflt):=by
 unfold Builtin.zeroCells
 rw[ur,ok.zsize]
 have h1:=ku e (List.replicate n e.dflt)
 rw[List.length_replicate] at h1
 rw[<- h1]
 show bU _ _ _=_
 refine sS λ i k hi hk=>?_
 have h2:=ok.zcell k hk
 simp only[aD,List.getD_eq_getElem?_getD,List.getElem?_replicate,Array.getD_eq_getD_getElem?,h2]
 split <;> rfl
theorem A8(ok:EncOk e P T inf z)(ht:P.underlying t=some (.slice T)){l:List α}{A:Option Addr}{cap:Nat}{Hl G:HL}{w:World}(h:SlIs e T l A cap Hl)(hR:Rel (Hl++G) w)(src:List α)(x:Value)
  (hs:Src P inf.size tx x src.length (aE e src) w) (hb:l.length+src.length <= 100000000) :
  ∃A' g_ K_ w',(Builtin.append_ #[t,tx] ty #[.slice A l.length cap,x]).run P w=.ok (.slice A' (l.length+src.length) g_) w' /\ (SlIs e T (l++src) A' g_ K_ /\ (dV A -> dV A')) /\ Rel (K_++G) w' /\ Below 0 w w':=by
 have WG:=ok.bytes
 have Q3:∀c,c<l.length+src.length -> Builtin.nextslicecap (l.length+src.length) c*inf.bytes <= 281474976710656:=λ c hc=>by
  have h1:=j8 (l.length+src.length) c hc
  have h2:Builtin.nextslicecap (l.length+src.length) c*inf.bytes <= (2*100000000+192)*1000:=Nat.mul_le_mul (by omega) WG
  omega
 have grow:∀ (hg:cap<l.length+src.length) (hold:(Builtin.firstCells inf.size l.length (.slice A l.length cap)).run P w.drew=.ok (aE e l).toArray w.drew),∃A' g_ K_ w',(Builtin.append_ #[t,tx] ty #[.slice A l.length cap,x]).run P w=.ok (.slice A' (l.length+src.length) g_) w' /\ (SlIs e T (l++src) A' g_ K_ /\ (dV A -> dV A')) /\ Rel (K_++G) w' /\ Below 0 w w':=by
  intro hg hold
  have dO:=run_append_grow_src (P:=P) w t tx ty T inf z ht ok.info ok.zero A l.length cap (aE e l) hold x src.length (aE e src) hs hg (by omega) (Q3 cap hg)
  have Uc:=grownCap_ge w (l.length+src.length) cap T
  generalize grownCap w (l.length+src.length) cap T=nc at *
  refine⟨_,nc,[(w.heap.size,.rows e.w (0+nc) (aD e (l++src++List.replicate (nc-(l.length+src.length)) e.dflt)) T (0,0))],_,dO,⟨.inr ⟨w.heap.size,0,l++src++List.replicate (nc-(l.length+src.length)) e.dflt,by simp,rfl,by simp;omega,by simp;omega,by rw[List.drop_zero,List.take_append_of_le_length (by simp),List.take_of_length_le (by simp)]⟩,λ _=>rfl⟩,?_,?_⟩
  ·have QC:Rel G w:=hR.drop
   have:=(Rel.cons (.rows e.w (0+nc) (aD e (l++src++List.replicate (nc-(l.length+src.length)) e.dflt)) T (0,0)) (o:=.cells ((aE e l++aE e src).toArray++Builtin.zeroCells z.cells (nc-(l.length+src.length))) T (0,0)) ?_ (QC.world (w':=w.drew) rfl))
   ·exact this
   ·show Obj.cells _ _ _=_
    congr 1
    apply Array.ext'
    show bU _ _ _=_
    have hl:0+nc=(l++src++List.replicate (nc-(l.length+src.length)) e.dflt).length:=by simp;omega
    rw[hl,ku,cP,cP,Array.toList_append,nY ok]
  ·exact⟨rfl,rfl,rfl,by simp,λ k hk=>by omega⟩
 rcases h with ⟨rfl,rfl,rfl,rfl⟩|⟨b,o,full,rfl,rfl,P3,hle,hl⟩
 ·-- nil
  rcases Nat.eq_zero_or_pos src.length with h0|h0
  ·obtain rfl:src=[]:=List.eq_nil_of_length_eq_zero h0
   refine⟨none,0,[],w,?_,⟨.inl ⟨rfl,rfl,by simp,rfl⟩,λ h=>h⟩,hR,Below.refl _ _⟩
   have hc:(Builtin.firstCells inf.size 0 x).run P w=.ok #[] w:=hs.cells
   rcases hs.kind with ⟨e',hk⟩|hk <;> simp[Builtin.append_,run_underlying ht,run_underlying hk,Go.sizeOf,typeInfo,ok.info,hs.len,hc]
  ·exact grow (by simp;omega) (by simp[aE];exact run_firstCells_none w.drew inf.size 0 0 0)
 ·have SW:=hR.holds _ (List.mem_append_left G (List.mem_cons_self))
  simp only[Blk.den] at SW
  have UQ:(bU e.w (aD e full) (o+cap)).length=(o+cap)*e.w:=dF _ _ _
  have ID:bU e.w (aD e full) (o+cap)=aE e full:=by rw[<- P3];exact ku e full
  by_cases n_:l.length+src.length <= cap
  ·-- there is room
   have Pz:=ok.size
   have Xs:(aE e src).length=src.length*e.w:=bX e src
   have Qi:o*e.w+l.length*inf.size+(aE e src).length <= (o+cap)*e.w:=by
    rw[Xs,Pz,<- Nat.add_mul,<- Nat.add_mul]
    exact Nat.mul_le_mul_right _ (by omega)
   have Px:∀j,j<(aE e src).length -> (w.cell? ⟨b,o*e.w+l.length*inf.size+j,none⟩).isSome=true:=λ j hj=>by
    simp[World.cell?,SW,UQ]
    omega
   have VP:∀j,j<(aE e src).length -> w.frozen? ⟨b,o*e.w+l.length*inf.size+j,none⟩=false:=λ j hj=>by simp[World.frozen?,SW]
   have dO:=run_append_room_src (P:=P) w t tx ty T inf ht ok.info b (o*e.w) l.length cap x src.length (aE e src) hs n_ Px VP
   have XT:=kw b (aE e src) (o*e.w+l.length*inf.size) w _ _ _ SW
   have XD:l7 (bU e.w (aD e full) (o+cap)) (o*e.w+l.length*inf.size) (aE e src)=aE e (full.take (o+l.length)++src++full.drop (o+l.length+src.length)):=by
    apply List.ext_getElem?
    intro j
    rw[pm _ _ _ (by rw[UQ];exact Qi),ID,cP,cP]
    have c1:(aE e (full.take (o+l.length))).length=(o+l.length)*e.w:=by rw[bX,List.length_take];congr 1;omega
    have c0:o*e.w+l.length*inf.size=(o+l.length)*e.w:=by rw[Pz,<- Nat.add_mul]
    have SB:aE e full=aE e (full.take (o+l.length))++aE e (full.drop (o+l.length)):=by rw[<- cP,List.take_append_drop]
    have TP:aE e (full.drop (o+l.length))=aE e ((full.drop (o+l.length)).take src.length)++aE e (full.drop (o+l.length+src.length)):=by
     rw[<- cP,show o+l.length+src.length=(o+l.length)+src.length from rfl,<- List.drop_drop (i:=src.length) (j:=o+l.length),List.take_append_drop]
    have c2:(aE e ((full.drop (o+l.length)).take src.length)).length=src.length*e.w:=by rw[bX,List.length_take,List.length_drop];congr 1;omega
    rw[c0]
    by_cases h1:j<(o+l.length)*e.w
    ·rw[if_neg (by omega),SB,List.append_assoc,List.getElem?_append_left (by omega),List.getElem?_append_left (by omega)]
    ·by_cases h2:j<(o+l.length)*e.w+src.length*e.w
     ·rw[if_pos (by omega),List.append_assoc,List.getElem?_append_right (by omega),List.getElem?_append_left (by omega),c1]
     ·rw[if_neg (by omega),SB,TP,List.append_assoc,List.getElem?_append_right (by omega),List.getElem?_append_right (by omega),List.getElem?_append_right (by omega),List.getElem?_append_right (by omega),c1,c2,Xs]
   have XF:(full.take (o+l.length)++src++full.drop (o+l.length+src.length)).length=o+cap:=by simp;omega
   refine⟨_,cap,[(b,.rows e.w (o+cap) (aD e (full.take (o+l.length)++src++full.drop (o+l.length+src.length))) T (0,0))],_,dO,⟨.inr ⟨b,o,_,rfl,rfl,XF,by simp;omega,?_⟩,λ h=>h⟩,?_,ky _ _ _ _⟩
   ·have h1:full.take (o+l.length)=full.take o++l:=by rw[List.take_add,hl]
    rw[h1,List.append_assoc,List.append_assoc,List.drop_append_of_le_length (by simp;omega),List.drop_eq_nil_of_le (by rw[List.length_take];omega),List.nil_append,<- List.append_assoc]
    rw[List.take_append_of_le_length (by simp)]
    exact List.take_of_length_le (by simp)
   ·refine⟨?_,by have:=hR.nodup;simpa using this⟩
    intro y hy
    rcases List.mem_cons.1 hy with rfl|hy
    ·rw[XT,XD]
     simp only[Blk.den]
     rw[<- XF,ku]
    ·have AT:y.1≠b:=by
      have:=hR.nodup
      simp only[List.cons_append,List.nil_append,List.map_cons,List.nodup_cons] at this
      intro e1
      exact this.1 (by rw[<- e1];exact List.mem_map_of_mem hy)
     rw[kx b _ _ _ _ AT]
     exact hR.holds y (List.mem_append_right _ hy)
  ·refine grow (by omega) ?_
   refine run_firstCells_some w.drew inf.size l.length ⟨b,o*e.w,none⟩ l.length cap (aE e l) (by rw[bX,ok.size]) ?_
   intro j u hj
   have RK:j<(aE e l).length:=(List.getElem?_eq_some_iff.1 hj).1
   rw[bX] at RK
   have IS:aE e l=((aE e full).drop (o*e.w)).take (l.length*e.w):=by
    have h1:aE e full=aE e (full.take o)++(aE e l++aE e ((full.drop o).drop l.length)):=by
     rw[<- cP,<- cP]
     congr 1
     conv=>lhs;rw[<- List.take_append_drop o full]
     congr 1
     conv=>lhs;rw[<- List.take_append_drop l.length (full.drop o)]
     rw[hl]
    have c1:(aE e (full.take o)).length=o*e.w:=by rw[bX,List.length_take];congr 1;omega
    rw[h1,List.drop_append_of_le_length (by omega),List.drop_eq_nil_of_le (by omega),List.nil_append,List.take_append_of_le_length (by rw[bX];exact Nat.le_refl _),List.take_of_length_le (by rw[bX];exact Nat.le_refl _)]
   rw[Addr.add_lit]
   show World.cell? w ⟨b,o*e.w+j,none⟩=some u
   simp only[World.cell?,SW,ID]
   rw[IS,List.getElem?_take,if_pos (by omega),List.getElem?_drop] at hj
   simpa using hj
theorem rx{N:Nat}{D:List Deferred}{F:HL}{L:FL}{H:HL}(ok:EncOk e P T inf z){o:Oper}{a1 a2:Operand}(t_:o.op=.call { callee:=.builtin .append,args:=#[a1,a2],argTypes:=#[t,tx] })(ht:P.underlying t=some (.slice T))
  {l src:List α} {A:Option Addr} {cap n:Nat} {Hl G:HL} {x:Value} (hi:(nX L a1 && nX L a2)=true) (h1:jJ L a1=.slice A n cap) (hn:n=l.length) (h2:jJ L a2=x) (BY:(Hl++G).Perm H) (Tl:SlIs e T l A cap Hl)
  (hs:∀w,Rel (H++F) w -> Src P inf.size tx x src.length (aE e src) w) (hb:l.length+src.length <= 100000000) (a:Act) (hF:Fm N D L a) (w:World) (hR:Rel (H++F) w) :
  fq P o a w λ u w'=>∃y:Option Addr × Nat × HL,(u=.slice y.1 (n+src.length) y.2.1 /\ (SlIs e T (l++src) y.1 y.2.1 y.2.2 /\ (dV A -> dV y.1))) /\ Rel ((y.2.2++G)++F) w' /\ Below 0 w w':=by
 subst hn
 simp only[Bool.and_eq_true] at hi
 have e1:=(hF.eval hi.1).trans h1
 have e2:=(hF.eval hi.2).trans h2
 have Py:Rel (Hl++(G++F)) w:=by rw[<- List.append_assoc];exact hR.perm (BY.append_right F)
 obtain⟨A',g_,K_,w',r1,r2,r3,r4⟩:=A8 (ty:=o.type) ok ht Tl Py src x (hs w hR) hb
 unfold fq
 have dO:(execOp a.eval o).run P w=.ok (.value (.slice A' (l.length+src.length) g_)) w':=by
  simp[execOp,t_,resolve,invoke,builtin,Sem.run_bind,e1,e2,r1]
 rw[dO]
 exact⟨(A',g_,K_),⟨rfl,r2⟩,by rw[List.append_assoc];exact r3,r4⟩
theorem zo{H F:HL}{w:World}(ok:EncOk e P T inf z){e':TypeId}(hk:P.underlying tx=some (.slice e')){sb c:Nat}{src:List α}{ty:TypeId}{fz:Nat × Nat}(p:Nat)(h:H[p]?=some (sb,.lit (aE e src) ty fz))(hR:Rel (H++F) w):Src P inf.size tx (vS sb 0 src.length c) src.length (aE e src) w:=by
 refine Src.ofSlice w hk _ _ _ _ (by rw[bX,ok.size]) ?_ ?_
 ·intro j u hj
  have hb:=hR.holds _ (List.mem_append_left F (List.mem_of_getElem? h))
  simp only[Blk.den] at hb
  rw[Addr.add_lit]
  simp[World.cell?,hb,hj]
 ·intro u hu
  simp only[aE,List.mem_flatMap,List.mem_map] at hu
  obtain⟨x,_,k,_,rfl⟩:=hu
  exact ok.one x k
end
section
variable {r:Option Nat} {P:Program} {N:Nat} {D:List Deferred} {F:HL} {w0:World} {ops:Array Oper} {i:Nat} {L:FL} {H:HL} {Q:Exit -> Act -> World -> Prop}
def gW(H:HL):List (Nat × Obj):=H.map λ x=>(x.1,x.2.den)
theorem Rel.den{H H':HL}{w:World}(e:gW H=gW H')(h:Rel H w):Rel H' w:=by
 have h1:H'.map (·.1)=H.map (·.1):=by
  have:=congrArg (List.map (·.1)) e
  simpa [gW,Function.comp_def] using this.symm
 refine⟨λ x hx=>?_,by have:=h.nodup;rw[h1];exact this⟩
 have:(x.1,x.2.den)∈gW H:=e ▸ List.mem_map_of_mem hx
 obtain⟨y,hy,e2⟩:=List.mem_map.1 this
 have h3:=h.holds y hy
 simp only[Prod.mk.injEq] at e2
 rw[<- e2.1,<- e2.2]
 exact h3
theorem Rel.denA{A A' F:HL}{Ts:List HL}{w:World}(e:gW A=gW A')(h:Rel (ap A Ts++F) w):Rel (ap A' Ts++F) w :=
 h.den (by simp only[gW,List.map_append] at e ⊢;rw[e])
end
theorem SlIs.open0{α:Type}{e:Enc α}{T:TypeId}{l:List α}{A:Option Addr}{cap:Nat}{Hl:HL}(h:SlIs e T l A cap Hl)(hz:dV A)(hw:0<e.w)(hl:0<l.length):∃b rest,A=some ⟨b,0,none⟩ /\ Hl=[(b,.rows e.w cap (aD e (l++rest)) T (0,0))] /\ l.length <= cap:=by
 rcases h with ⟨_,_,rfl,_⟩|⟨b,o,full,rfl,rfl,h3,h4,h5⟩
 ·simp at hl
 ·have ho:o=0:=by
   have h6:o*e.w=0:=hz
   rcases Nat.mul_eq_zero.1 h6 with h|h
   ·exact h
   ·omega
  subst ho
  refine⟨b,full.drop l.length,by rw[Nat.zero_mul],?_,h4⟩
  have:l++full.drop l.length=full:=by
   conv=>lhs;lhs;rw[<- h5]
   rw[List.drop_zero,List.take_append_drop]
  rw[this,Nat.zero_add]
section
variable {r:Option Nat} {P:Program} {N:Nat} {D:List Deferred} {F:HL} {w0:World} {ops:Array Oper} {i:Nat} {L:FL} {Q:Exit -> Act -> World -> Prop} {A:HL} {Ts Rj:List HL} {x:Nat × Blk}
theorem xu{A:HL}{Ts Rj:List HL}{x:Nat × Blk}(jr:List Nat)(j:Nat)(hp:([j]++jr).isPerm (List.range Ts.length)=true)(hj:Ts[j]?=some [x])(hr:jr.filterMap (Ts[·]?)=Rj):(ap (x::A) Rj).Perm (ap A Ts):=by
 have h3:=fU Ts [j] jr hp
 simp only[List.filterMap_cons,hj,List.filterMap_nil,hr] at h3
 have h4:=h3.flatten
 simp only[List.cons_append,List.nil_append,List.flatten_cons] at h4
 show (x::(A++Rj.flatten)).Perm (A++Ts.flatten)
 refine List.Perm.trans ?_ (List.Perm.append_left A h4)
 exact(List.perm_middle (a:=x) (l₁:=A) (l₂:=Rj.flatten)).symm
theorem Dj{A:HL}{Ts Rj:List HL}(jp:List Nat)(hp:jp.isPerm (List.range Ts.length)=true)(e:jp.filterMap (Ts[·]?)=Rj):(ap A Rj).Perm (ap A Ts):=by
 have h3:=fU Ts jp [] (by simpa using hp)
 rw[e] at h3
 simp only[List.filterMap_nil,List.append_nil] at h3
 exact List.Perm.append_left A h3.flatten
end
open Go.Shelf
def YL(P:Program)(l:Nat)(args:Array Value)(H F:HL)(R:Bool -> HL -> Prop):Prop :=
 ∀w,Rel (H++F) w -> YieldAt (Wr none) 0 P l args w λ e W'=>∃b H',e=.returned (.bool b) /\ R b H' /\ Rel (H'++F) W' /\ Below 0 w W'
def It(P:Program)(g:FuncId)(lb:Array Value)(F:HL){α:Type}(encs:α -> Array Value)(xs:List α):Prop :=
 ∀ (X:HL) (l:Nat) (J:Nat -> HL -> Prop) (Jx:HL -> Prop) (H0:HL),(∀i x H Y,xs[i]?=some x -> J i H -> YL P l (encs x) H (Y++(X++F)) (λ b H'=>(b=true /\ J (i+1) H') \/ (b=false /\ Jx H'))) -> J 0 H0 ->
  Sp P g (#[.func (.yield l) #[] #[]]++lb) H0 (X++F) (λ _ H'=>J xs.length H' \/ Jx H')
def xv(P:Program)(n0 N:Nat)(ops:List Oper)(i:Nat)(L:FL)(H R:HL)(hints:List Hint):Option (Option Tmp × Nat × Array Value × List Prop) :=
 match ops[i]? with
 | none=>none
 | some o=>match iI ops o L ⟨H,R,hints,0,[],[],true⟩ with
  | some (true,s)=>match gS o.op L,s.hints,s.eq with
   | true,[],[]=>match o.op with
    | .call c=>match c.callee with
     | .value f=>match jJ L f with
      | .func (.yield l) cap bound=>match cap.toList,bound.toList with
       | [],[]=>some (o.dst,l,c.args.map (jJ L),s.ob)
       | _,_=>none
      | _=>none
     | _=>none
    | _=>none
   | _,_,_=>none
  | _=>none
theorem xw{P:Program}{ρ:Operand -> Value}{o:Oper}{c:Call}{f:Operand}{l:Nat}(ho:o.op=.call c)(hc:c.callee=.value f)(hf:ρ f=.func (.yield l) #[] #[])(w:World) :
  (execOp ρ o).run P w=(Instr.yield l (c.args.map ρ)).run P w:=by
 simp[execOp,ho,resolve,hc,hf,Deferred.ofValue,invoke,Sem.run_bind,Result.andThen]
section
variable {r:Option Nat} {P:Program} {N:Nat} {D:List Deferred} {F:HL} {w0:World} {ops:Array Oper} {i:Nat} {L:FL} {H:HL} {Q:Exit -> Act -> World -> Prop}
end
abbrev cO(d:Nat):Nat × Blk:=(d,.obj (.deferred (some [])))
abbrev coll(d:Nat):Deferred:={ target:=.collected d,args:=#[] }
theorem Rel.putObj{H F:HL}{w:World}{l:Nat}{b:Blk}(b':Blk)(h:Rel ((l,b)::H) w):Rel ((l,b')::H) (w.putObj l b'.den):=by
 have hl:=h.lt (List.mem_cons_self)
 refine⟨λ x hx=>?_,by simpa using h.nodup⟩
 rcases List.mem_cons.1 hx with rfl|hx
 ·exact World.putObj_heap_same hl
 ·have AT:x.1≠l:=by
   have:=h.nodup
   simp only[List.map_cons,List.nodup_cons] at this
   intro e
   exact this.1 (e ▸ List.mem_map_of_mem hx)
  exact(World.putObj_heap_other AT).trans (h.holds x (List.mem_cons_of_mem _ hx))
theorem dW{w:World}(l:Nat)(o:Obj):Below 0 w (w.putObj l o):=⟨rfl,rfl,rfl,by simp,λ k hk=>by omega⟩
theorem gJ{w:World}(o:Obj):Below 0 w (w.alloc o):=⟨rfl,rfl,rfl,by simp,λ k hk=>by omega⟩
theorem Rel.alloc{H:HL}{w:World}(b:Blk)(h:Rel H w):Rel ((w.heap.size,b)::H) (w.alloc b.den):=Rel.cons b rfl h
def RQ{σ:Type}(F:HL)(w0:World)(Hx:σ -> HL)(I:σ -> Prop)(Ix:Code -> σ -> Prop):Exit -> Act -> World -> Prop
 | .normal,_,w=>∃s,I s /\ Rel (Hx s++F) w /\ Below 0 w0 w
 | .ret,_,w=>∃s,Ix .ret s /\ Rel (Hx s++F) w /\ Below 0 w0 w
 | .exit id,_,w=>∃s,Ix (.exit id) s /\ Rel (Hx s++F) w /\ Below 0 w0 w
 | _,_,_=>False
section
variable {P:Program} {N:Nat} {D:List Deferred} {F:HL} {w0:World} {L:FL} {Q:Exit -> Act -> World -> Prop}
def oA:List Tmp -> List Value -> FL -> FL
 | p::ps,v::vs,L=>oA ps vs ((p,v)::L)
 | _,_,L=>L
theorem Fm.zip:∀ (ps:List Tmp) (vs:List Value) (L:FL) (tmps:Array Value),(∀p∈ps,p<N) -> Fm N D L { tmps:=tmps,defers:=D } -> Fm N D (oA ps vs L) { tmps:=(ps.zip vs).foldl (λ t (p,v)=>t.setIfInBounds p v) tmps,defers:=D }
 | p::ps,v::vs,L,tmps,hN,h=>by
  rw[oA,List.zip_cons_cons,List.foldl_cons]
  refine Fm.zip ps vs _ _ (λ q hq=>hN q (List.mem_cons_of_mem _ hq)) ?_
  refine⟨by simpa using h.size,rfl,λ t u ht=>?_⟩
  have hs:tmps.size=N:=h.size
  have hp:=hN p List.mem_cons_self
  rw[List.lookup_cons] at ht
  simp only
  by_cases e:t=p
  ·subst e
   simp at ht
   subst ht
   rw[Array.getElem?_setIfInBounds]
   simp[hs,hp]
  ·have:(t == p)=false:=by simpa using e
   rw[this] at ht
   rw[Array.getElem?_setIfInBounds,if_neg (λ e'=>e e'.symm)]
   exact h.has _ _ ht
 | [],vs,L,tmps,_,h=>by simpa [oA] using h
 | _::_,[],L,tmps,_,h=>by simpa [oA] using h
theorem TR.range{α σ τ:Type}{g:Operand}{ps:Array Tmp}{assign body:Code}{encs:α -> Array Value}{xs:List α}{gf:FuncId}{lb:Array Value}(hi:nX L g=true)(hg:jJ L g=.func (.func gf) #[] lb)(eg:∀args w,(callFunc gf args).run P w=.ok (.enter gf args) w)
  (Hx:σ -> HL) (I:Nat -> σ -> Prop) (Ix:Code -> σ -> Prop) (La:τ -> FL) (Ha:τ -> HL) (Ia:Nat -> α -> τ -> Prop) (UP:∀x,(encs x).size=ps.size) (Re:(ps.toList.all λ p=>decide (p<N))=true)
  (x0:σ) (h0:I 0 x0) {A:HL} {Ts:List HL} (ip ir jp jr:List Nat) (hp:(ip++ir).isPerm (List.range A.length)=true) (hj:(jp++jr).isPerm (List.range Ts.length)=true) (Hr:HL) (Tr:List HL) (Wj:ir.filterMap (A[·]?)=Hr) (V6:jr.filterMap (Ts[·]?)=Tr) (hH:ap (ip.filterMap (A[·]?)) (jp.filterMap (Ts[·]?))=Hx x0)
  (hit:It P gf lb (ap Hr Tr++F) encs xs)
  (rW:∀ (l i:Nat) (x:α) (s:σ) (Y:HL) (w1:World),xs[i]?=some x -> I i s -> TR (some l) P N [] (Y++(ap Hr Tr++F)) w1 (oA ps.toList (encs x).toList L) (Hx s) assign (Exit.then (Kv N [] (Y++(ap Hr Tr++F)) w1 La Ha (Ia i x)) (λ _ _ _=>False)))
  (Po:∀ (l i:Nat) (x:α) (t:τ) (Y:HL) (w1:World),xs[i]?=some x -> Ia i x t -> TR (some l) P N [] (Y++(ap Hr Tr++F)) w1 (La t) (Ha t) body (RQ (Y++(ap Hr Tr++F)) w1 Hx (I (i+1)) Ix))
  (O_:∀ (d:Nat) (s:σ),I xs.length s -> EX N (coll d::D) F w0 L (cO d::(Hx s++ap Hr Tr)) Q .normal)
  (No:∀ (d:Nat) (c:Code) (s:σ),Ix c s -> TR none P N (coll d::D) F w0 L (cO d::(Hx s++ap Hr Tr)) c Q) :
  TR none P N D F w0 L (ap A Ts) (.rangeFunc g ps assign body) Q:=by
 intro a w hF hR hB
 have Ui:Rel (Hx x0++(ap Hr Tr++F)) w:=by
  have h1:=kY A Ts ip ir jp jr hp hj
  rw[Wj,V6,hH] at h1
  rw[<- List.append_assoc]
  exact hR.perm (h1.append_right F)
 refine wpIn_rangeFunc ?_
 intro fn VQ
 obtain⟨rec,OF⟩:∃rec:LoopState -> Option Code -> Loop,rec=λ st pe=>{ state:=st,pending:=pe,fn,tmps:=a.tmps,params:=ps,assign,body,defers:=w.heap.size }:=⟨_,rfl⟩
 obtain⟨W1,V5⟩:∃W1,(w.alloc (.deferred (some []))).alloc (.loop (rec .ready none))=W1:=⟨_,rfl⟩
 have X8:Below 0 w W1:=by rw[<- V5];exact(gJ _).trans (gJ _)
 have V7:Rel ((w.heap.size+1,Blk.obj (.loop (rec .ready none)))::cO w.heap.size::(Hx x0++(ap Hr Tr++F))) W1:=by
  rw[<- V5]
  have h1:=(Ui.alloc (.obj (.deferred (some [])))).alloc (.obj (.loop (rec .ready none)))
  rw[World.size_alloc] at h1
  exact h1
 refine⟨w.heap.size+1,[coll w.heap.size],W1,{ target:=.fn (.func gf) lb,args:=#[.func (.yield (w.heap.size+1)) #[] #[]] },W1,gf,#[.func (.yield (w.heap.size+1)) #[] #[]]++lb,W1,?_,?_,?_,?_,λ h=>(by cases h),?_⟩
 ·rw[<- V5,OF];exact run_enterLoop_outer _ _ _ _ _
 ·have Uc:a.eval g=.func (.func gf) #[] lb:=(hF.eval hi).trans hg
  simp only[resolve,Uc]
  simp[Deferred.ofValue]
  rfl
 ·intro f' _;trivial
 ·simp[invoke,eg]
 ·refine jd ?_
  obtain⟨l,hl⟩:∃l,w.heap.size+1=l:=⟨_,rfl⟩
  rw[hl] at V7 ⊢
  obtain⟨d,hd⟩:∃d,w.heap.size=d:=⟨_,rfl⟩
  rw[hd] at V7 OF ⊢
  have key:=hit [] l (λ i H'=>∃s,I i s /\ H'=(l,Blk.obj (.loop (rec .ready none)))::cO d::Hx s) (λ H'=>∃c s,Ix c s /\ H'=(l,Blk.obj (.loop (rec .done (some c))))::cO d::Hx s)
   ((l,Blk.obj (.loop (rec .ready none)))::cO d::Hx x0) ?round ⟨x0,h0,rfl⟩ W1 V7
  case round =>
   rintro i x H' Y hx ⟨s,hs,rfl⟩ W bY
   have PJ:Rel ((l,Blk.obj (.loop (rec .ready none)))::(cO d::(Hx s++(Y++(ap Hr Tr++F))))) W:=bY
   have hlW:W.heap[l]?=some (.loop (rec .ready none)):=PJ.holds _ List.mem_cons_self
   have hy:=run_yield (P:=P) (args:=encs x) hlW (by rw[OF];exact UP x)
   rw[OF] at hy
   refine⟨fn,_,assign,body,hy,roundIn_of_wpIn (F:=Wr none) (n:=0) VQ ?_⟩
   have hFm:Fm N [] (oA ps.toList (encs x).toList L) { tmps:=(ps.zip (encs x)).foldl (λ t (p,v)=>t.setIfInBounds p v) a.tmps,defers:=[] }:=by
    have h1:=Fm.zip (D:=[]) ps.toList (encs x).toList L a.tmps (λ p hp=>of_decide_eq_true (List.all_eq_true.1 Re p hp)) ⟨hF.size,rfl,hF.has⟩
    have e:(ps.zip (encs x)).foldl (λ t (p,v)=>t.setIfInBounds p v) a.tmps=(ps.toList.zip (encs x).toList).foldl (λ t (p,v)=>t.setIfInBounds p v) a.tmps:=by
     rw[<- Array.foldl_toList,Array.toList_zip]
    rw[e]
    exact h1
   have hRA:Rel (Hx s++(((l,Blk.obj (.loop (rec .ready none)))::cO d::Y)++(ap Hr Tr++F))) W:=by
    have:=PJ
    refine this.perm ?_
    simp only[List.cons_append]
    refine List.perm_middle.trans ?_
    refine List.Perm.cons _ ?_
    exact List.perm_middle
   refine wpIn_mono (rW l i x s ((l,Blk.obj (.loop (rec .ready none)))::cO d::Y) W hx hs _ W hFm hRA (Below.refl _ _)) ?_
   intro e a1 Wa hq
   cases e with
   | normal =>
    obtain⟨t,ht,m1,m2,m3⟩:=hq
    have X2:Rel ((l,Blk.obj (.loop (rec .ready none)))::(cO d::(Ha t++(Y++(ap Hr Tr++F))))) Wa:=by
     refine m2.perm ?_
     simp only[List.cons_append]
     refine(List.Perm.trans ?_ List.perm_middle.symm)
     refine List.Perm.cons _ ?_
     exact List.perm_middle.symm
    have hla:Wa.heap[l]?=some (.loop (rec .ready none)):=X2.holds _ List.mem_cons_self
    refine⟨_,run_beginRound hla (by rw[OF]),?_⟩
    have hRc:=X2.putObj (F:=[]) (.obj (.loop { rec .ready none with state:=.busy }))
    have Qs:Rel (Ha t++(((l,Blk.obj (.loop { rec .ready none with state:=.busy }))::cO d::Y)++(ap Hr Tr++F))) (Wa.putObj l (.loop { rec .ready none with state:=.busy })):=by
     refine hRc.perm ?_
     simp only[List.cons_append]
     refine List.perm_middle.trans ?_
     refine List.Perm.cons _ ?_
     exact List.perm_middle
    refine wpIn_mono (Po l i x t ((l,Blk.obj (.loop { rec .ready none with state:=.busy }))::cO d::Y) W hx ht a1 _ m1 Qs (m3.trans (dW _ _))) ?_
    have fin:∀ (jump:Option Code) (s':σ) (W3:World),Rel (Hx s'++(((l,Blk.obj (.loop { rec .ready none with state:=.busy }))::cO d::Y)++(ap Hr Tr++F))) W3 -> Below 0 W W3 ->
      ∃v w',(Instr.endRound l jump).run P W3=.ok v w' /\ v=.bool jump.isNone /\ Rel (((l,Blk.obj (.loop (rec (if jump.isNone then .ready else .done) jump)))::cO d::Hx s')++(Y++([]++(ap Hr Tr++F)))) w' /\ Below 0 W w':=by
     intro jump s' W3 h3 YU
     have h4:Rel ((l,Blk.obj (.loop { rec .ready none with state:=.busy }))::(cO d::(Hx s'++(Y++(ap Hr Tr++F))))) W3:=by
      refine h3.perm ?_
      simp only[List.cons_append]
      refine(List.Perm.trans ?_ List.perm_middle.symm)
      refine List.Perm.cons _ ?_
      exact List.perm_middle.symm
     have RY:W3.heap[l]?=some (.loop { rec .ready none with state:=.busy }):=h4.holds _ List.mem_cons_self
     have dO:=run_endRound (P:=P) jump RY
     refine⟨_,_,dO,rfl,?_,YU.trans (dW _ _)⟩
     have h5:=h4.putObj (F:=[]) (.obj (.loop (rec (if jump.isNone then .ready else .done) jump)))
     rw[OF] at h5 ⊢
     exact h5
    intro e2 a2 W3 PA
    cases e2 with
    | normal =>
     obtain⟨s',Of,n2,n3⟩:=PA
     obtain⟨v,w',k1,k2,k3,k4⟩:=fin none s' W3 n2 n3
     exact⟨v,w',k1,true,_,by rw[k2];rfl,.inl ⟨rfl,s',Of,rfl⟩,k3,k4⟩
    | ret =>
     obtain⟨s',Of,n2,n3⟩:=PA
     obtain⟨v,w',k1,k2,k3,k4⟩:=fin (some .ret) s' W3 n2 n3
     exact⟨v,w',k1,false,_,by rw[k2];rfl,.inr ⟨rfl,.ret,s',Of,rfl⟩,k3,k4⟩
    | exit id =>
     obtain⟨s',Of,n2,n3⟩:=PA
     obtain⟨v,w',k1,k2,k3,k4⟩:=fin (some (.exit id)) s' W3 n2 n3
     exact⟨v,w',k1,false,_,by rw[k2];rfl,.inr ⟨rfl,.exit id,s',Of,rfl⟩,k3,k4⟩
    | goto t=>exact PA.elim
    | panic ch=>exact PA.elim
    | outgrown=>exact PA.elim
   | exit id=>exact hq.elim
   | goto t=>exact hq.elim
   | ret=>exact hq.elim
   | panic ch=>exact hq.elim
   | outgrown=>exact hq.elim
  refine key.mono ?_
  rintro e W2 ⟨v,H',rfl,Z1,QC,RC⟩
  have fin:∀ (st:LoopState) (pe:Option Code) (s:σ) (iF:st ≠ .busy),Rel (((l,Blk.obj (.loop (rec st pe)))::cO d::Hx s)++([]++(ap Hr Tr++F))) W2 ->
    ∃w4,(Instr.endLoop l).run P W2=.ok pe w4 /\ Rel ((cO d::(Hx s++ap Hr Tr))++F) w4 /\ Below 0 W1 w4:=by
   intro st pe s iF h4
   have h5:Rel ((l,Blk.obj (.loop (rec st pe)))::(cO d::(Hx s++(ap Hr Tr++F)))) W2:=h4
   have Qh:W2.heap[l]?=some (.loop (rec st pe)):=h5.holds _ List.mem_cons_self
   have dO:=run_endLoop (P:=P) Qh (by rw[OF];exact iF)
   refine⟨W2.putObj l (.loop { rec st pe with state:=.exhausted }),?_,?_,RC.trans (dW _ _)⟩
   ·rw[dO,OF]
   ·have h6:=h5.putObj (F:=[]) (.obj (.loop { rec st pe with state:=.exhausted }))
    have h7:=Rel.drop (X:=[(l,Blk.obj (.loop { rec st pe with state:=.exhausted }))]) (H:=cO d::(Hx s++(ap Hr Tr++F))) h6
    rw[<- List.append_assoc] at h7
    exact h7
  have X7:Fm N (coll d::D) L { a with defers:=[coll d]++a.defers }:=⟨hF.size,by rw[hF.defs];rfl,hF.has⟩
  rcases Z1 with ⟨s,hs,rfl⟩|⟨c,s,hs,rfl⟩
  ·obtain⟨w4,k1,k2,k3⟩:=fin .ready none s (by simp) QC
   exact⟨none,w4,k1,O_ d s hs _ w4 X7 k2 (hB.trans (X8.trans k3))⟩
  ·obtain⟨w4,k1,k2,k3⟩:=fin .done (some c) s (by simp) QC
   exact⟨some c,w4,k1,No d c s hs _ w4 X7 k2 (hB.trans (X8.trans k3))⟩
theorem Ba{α σ τ:Type}{g:Operand}{ps:Array Tmp}{assign body:Code}{encs:α -> Array Value}{xs:List α}{gf:FuncId}{lb:Array Value}(hi:nX L g=true)(hg:jJ L g=.func (.func gf) #[] lb)(eg:∀args w,(callFunc gf args).run P w=.ok (.enter gf args) w)
  (Ax:σ -> HL) (Tx:σ -> List HL) (I:Nat -> σ -> Prop) (Ix:Code -> σ -> Prop) (La:τ -> FL) (Ha:τ -> HL) (Ia:Nat -> α -> τ -> Prop) (UP:∀x,(encs x).size=ps.size) (Re:(ps.toList.all λ p=>decide (p<N))=true)
  (x0:σ) (h0:I 0 x0) {A:HL} {Ts:List HL} (ip ir jp jr:List Nat) (hp:(ip++ir).isPerm (List.range A.length)=true) (hj:(jp++jr).isPerm (List.range Ts.length)=true) (Hr:HL) (Tr:List HL) (Wj:ir.filterMap (A[·]?)=Hr) (V6:jr.filterMap (Ts[·]?)=Tr) (hA:ip.filterMap (A[·]?)=Ax x0) (hT:jp.filterMap (Ts[·]?)=Tx x0)
  (hit:It P gf lb (ap Hr Tr++F) encs xs)
  (rW:∀ (l i:Nat) (x:α) (s:σ) (Y:HL) (w1:World),xs[i]?=some x -> I i s -> TR (some l) P N [] (Y++(ap Hr Tr++F)) w1 (oA ps.toList (encs x).toList L) (ap (Ax s) (Tx s)) assign (Exit.then (Kv N [] (Y++(ap Hr Tr++F)) w1 La Ha (Ia i x)) (λ _ _ _=>False)))
  (Po:∀ (l i:Nat) (x:α) (t:τ) (Y:HL) (w1:World),xs[i]?=some x -> Ia i x t -> TR (some l) P N [] (Y++(ap Hr Tr++F)) w1 (La t) (Ha t) body (RQ (Y++(ap Hr Tr++F)) w1 (λ s=>ap (Ax s) (Tx s)) (I (i+1)) Ix))
  (O_:∀ (d:Nat) (s:σ),I xs.length s -> EX N (coll d::D) F w0 L (ap (cO d::(Ax s++Hr)) (Tx s++Tr)) Q .normal)
  (No:∀ (d:Nat) (c:Code) (s:σ),Ix c s -> TR none P N (coll d::D) F w0 L (ap (cO d::(Ax s++Hr)) (Tx s++Tr)) c Q) :
  TR none P N D F w0 L (ap A Ts) (.rangeFunc g ps assign body) Q:=by
 have Xm:∀ (d:Nat) (s:σ),(ap (cO d::(Ax s++Hr)) (Tx s++Tr)).Perm (cO d::(ap (Ax s) (Tx s)++ap Hr Tr)):=λ d s=>by
  show (cO d::((Ax s++Hr)++(Tx s++Tr).flatten)).Perm _
  refine List.Perm.cons _ ?_
  rw[List.flatten_append]
  show ((Ax s++Hr)++((Tx s).flatten++Tr.flatten)).Perm ((Ax s++(Tx s).flatten)++(Hr++Tr.flatten))
  rw[List.append_assoc,List.append_assoc]
  refine List.Perm.append_left _ ?_
  rw[<- List.append_assoc,<- List.append_assoc]
  exact List.Perm.append_right _ List.perm_append_comm
 exact TR.range hi hg eg (λ s=>ap (Ax s) (Tx s)) I Ix La Ha Ia UP Re x0 h0 ip ir jp jr hp hj Hr Tr Wj V6 (by rw[hA,hT]) hit rW Po
  (λ d s hs a w h1 h2 h3=>O_ d s hs a w h1 (h2.perm ((Xm d s).append_right F)) h3) (λ d c s hs a w h1 h2 h3=>No d c s hs a w h1 (h2.perm ((Xm d s).append_right F)) h3)
theorem mH{fn:Func}{tmps:Array Value}{R:Ending -> World -> Prop}:∀ (ds:List Nat) (H:HL) (w:World),Rel (ds.map cO++H) w -> Below 0 w0 w -> (∀w',Rel H w' -> Below 0 w0 w' -> LeavesIn (Wr none) 0 P fn tmps R [] .returning w') ->
  LeavesInM (Wr none) 0 P fn tmps R (ds.map coll) .returning w
 | [],H,w,h,hB,hk=>hk w h hB
 | d::ds,H,w,h,hB,hk=>by
  have hd:w.heap[d]?=some (.deferred (some [])):=h.holds (cO d) (by simp)
  have h1:Rel ((d,Blk.obj (.deferred (some [])))::(ds.map cO++H)) w:=h
  have h2:=(h1.putObj (F:=[]) (.obj (.deferred none)))
  exact⟨by simp,.inl ⟨d,_,rfl,run_takeDeferred hd,mH ds H _ (Rel.drop (X:=[(d,Blk.obj (.deferred none))]) h2) (hB.trans (dW _ _)) hk⟩⟩
theorem uy{f:FuncId}{fn:Func}{c:Code}{args:Array Value}{R:Value -> HL -> Prop}{H:HL}(hf:P.funcs[f]?=some fn)(hb:fn.body=some c)(hn:fn.ntmps=N)(ha:decide (args.size <= N)=true)
  (L:FL) (hL:pf 0 args.toList=L) (h:∀w0,TR none P N [] F w0 L H c (bodyPostM (Wr none) 0 P fn (zl F w0 R))):Sp P f args H F R:=by
 intro w hR
 refine(callsIn_wide (n:=0)).1 (callsIn_of_wp_marks (F:=Wr none) hf hb trivial ?_)
 have ha':args.size <= N:=of_decide_eq_true ha
 refine h w _ w ⟨?_,rfl,?_⟩ hR (Below.refl _ _)
 ·simp[hn];omega
 ·subst hL
  intro t v ht
  obtain⟨_,h2⟩:=jK 0 _ t v ht
  have h3:args[t]?=some v:=by simpa using h2
  have iN:t<args.size:=(Array.getElem?_eq_some_iff.1 h3).1
  simp only
  rw[Array.getElem?_append_left iN]
  exact h3
theorem retM{fn:Func}{R:Value -> HL -> Prop}{rs:List ResultVar}(Se:fn.results=⟨rs⟩)(ds:List Nat)(hD:D=ds.map coll)(dx ax:List Nat)(Ro:HL)(hints:List Hint)(v:Value)(E:List Nat)(Ob:List Prop)
  {A A1:HL} {Ts:List HL} (hdp:(dx++ax).isPerm (List.range A.length)=true) (hdx:dx.filterMap (A[·]?)=ds.map cO) (hax:ax.filterMap (A[·]?)=A1)
  (h:∀n0,xq P n0 L rs (ap A1 Ts) Ro hints=some (v,E,E,Ob)) (Uh:∀y∈Ro,y∈F) (iD:AllP Ob) (ip ir jp jr:List Nat) (H':HL) (hp:(ip++ir).isPerm (List.range A1.length)=true) (hj:(jp++jr).isPerm (List.range Ts.length)=true) (hH:ap (ip.filterMap (A1[·]?)) (jp.filterMap (Ts[·]?))=H') (hv:R v H')
  (a:Act) (w:World) (hF:Fm N D L a) (hR:Rel (ap A Ts++F) w) (hB:Below 0 w0 w):LeavesInM (Wr none) 0 P fn a.tmps (zl F w0 R) a.defers .returning w:=by
 rw[hF.defs,hD]
 have h1:=fU A dx ax hdp
 rw[hdx,hax] at h1
 have Ui:Rel (ds.map cO++(ap A1 Ts++F)) w:=by
  refine hR.perm ?_
  rw[<- List.append_assoc,<- List.append_assoc]
  exact List.Perm.append_right F (List.Perm.append_right _ h1)
 refine mH ds _ w Ui hB ?_
 intro w' QC RC
 have h':=h w'.heap.size
 unfold xq at h'
 split at h'
 case h_2=>cases h'
 rename_i vs s hs
 split at h'
 case h_2=>cases h'
 simp only[Option.some.injEq,Prod.mk.injEq] at h'
 obtain⟨e1,e2,e3,e4⟩:=h'
 have dO:=je (P:=P) hF QC rs _ _ _ hs rfl rfl Uh (λ e=>by cases e) (fM e2 e3) (by rw[e4];exact AllP.mem iD)
 subst e1
 exact⟨_,iJ Se dO,_,H',rfl,hv,QC.takeT ip ir jp jr hp hj hH,RC⟩
end
end Go.Proofs.YthoijjeddhfcnaaGreatDoor
