import Derived.Test.YtobflkidpfkcaaaGreatDoorY01
import Derived.Deep.AppendSrc
import Derived.Laws.AppendOwn
import Derived.LoopN
import Derived.RangeFuncSeq
import Derived.RangeFuncLeaves
import Derived.Shelf.Abstract
set_option maxHeartbeats 4000000
set_option maxRecDepth 100000
set_option linter.unusedSimpArgs false
set_option linter.unusedVariables false
namespace Go.Proofs.YtobflkidpfkcaaaGreatDoor
open Go.RowKit
structure Enc (α:Type) where
 w:Nat
 cell:α -> Nat -> Value
 dflt:α
section
variable {α:Type} (e:Enc α)
def bn (l:List α):Nat -> Nat -> Value:=λ i k=>e.cell (l.getD i e.dflt) k
def ay (l:List α):List Value:=l.flatMap λ x=>(List.range e.w).map (e.cell x)
theorem aS (l:List α):(ay e l).length=l.length * e.w:=by
 induction l with
 | nil=>simp [ay]
 | cons x l ih=>simp only [ay,List.flatMap_cons,List.length_append,List.length_map,List.length_range,List.length_cons,Nat.succ_mul] at ih ⊢;omega
theorem cu (l l':List α):ay e (l++l')=ay e l++ay e l':=by simp [ay]
theorem zC (l:List α):∀ n,n <= l.length -> bB e.w (bn e l) n=ay e (l.take n)
 | 0,_=>by simp [bB,ay]
 | n+1,h=>by
  rw [bB,zC l n (by omega),List.take_succ_eq_append_getElem (by omega),cu]
  congr 1
  simp [ay,bn,List.getElem?_eq_getElem (show n < l.length by omega)]
theorem kC (l:List α):bB e.w (bn e l) l.length=ay e l:=by rw [zC e l _ (Nat.le_refl _),List.take_length]
def SlIs (T:TypeId) (l:List α) (A:Option Addr) (cap:Nat) (Hl:HL):Prop :=
 (A=none /\ cap=0 /\ l=[] /\ Hl=[]) \/ ∃ b o full,A=some ⟨b,o * e.w,none⟩ /\ Hl=[(b,.rows e.w (o+cap) (bn e full) T (0,0))] /\ full.length=o+cap /\ l.length <= cap /\ (full.drop o).take l.length=l
def cq:Option Addr -> Prop
 | none=>True
 | some a=>a.off=0
theorem SlIs.nil (T:TypeId):SlIs e T [] none 0 []:=.inl ⟨rfl,rfl,rfl,rfl⟩
end
def je:List Value -> Nat -> List Value -> List Value
 | c,_,[]=>c
 | c,o,v :: r=>je (c.set o v) (o+1) r
theorem mh:∀ (news c:List Value) (o:Nat),o+news.length <= c.length -> ∀ j,(je c o news)[j]?=if o <= j /\ j < o+news.length then news[j - o]? else c[j]?
 | [],c,o,_,j=>by rw [je,if_neg (by simp only [List.length_nil];omega)]
 | v :: r,c,o,h,j=>by
  simp only [List.length_cons] at h
  rw [je,mh r _ (o+1) (by simp;omega) j]
  by_cases h1:o+1 <= j /\ j < o+1+r.length
  ·rw [if_pos h1,if_pos (by simp only [List.length_cons];omega)]
   obtain ⟨d,rfl⟩:∃ d,j=o+1+d:=⟨j - (o+1),by omega⟩
   rw [show o+1+d - o=d+1 by omega,List.getElem?_cons_succ]
   congr 1;omega
  ·rw [if_neg h1,List.getElem?_set]
   by_cases h2:o=j
   ·subst h2
    rw [if_pos rfl,if_pos (by omega),if_pos (by simp only [List.length_cons];omega)]
    simp
   ·rw [if_neg h2,if_neg (by simp only [List.length_cons];omega)]
theorem kD (b:Nat):∀ (news:List Value) (o:Nat) (w:World) (c:List Value) (ty:TypeId) (fz:Nat × Nat),w.heap[b]?=some (.cells ⟨c⟩ ty fz) -> (w.setCells b o news).heap[b]?=some (.cells ⟨je c o news⟩ ty fz)
 | [],o,w,c,ty,fz,h=>h
 | v :: r,o,w,c,ty,fz,h=>by
  rw [World.setCells,je]
  refine kD b r (o+1) _ _ ty fz ?_
  simp only [World.setCell,Array.getElem?_modify,if_true,h,Option.map_some]
  simp
theorem kF (b:Nat):∀ (news:List Value) (o:Nat) (w:World) (k:Nat),k ≠ b -> (w.setCells b o news).heap[k]?=w.heap[k]?
 | [],o,w,k,h=>rfl
 | v :: r,o,w,k,h=>by
  rw [World.setCells,kF b r (o+1) _ k h]
  exact Below.heap_setCell _ _ _ _ h
theorem il (b:Nat):∀ (news:List Value) (o:Nat) (w:World),Below 0 w (w.setCells b o news)
 | [],o,w=>Below.refl _ _
 | v :: r,o,w=>((Below.refl 0 w).setCell (Nat.zero_le _) v).trans (il b r (o+1) _)
theorem kg (n c:Nat) (h:c < n):Builtin.nextslicecap n c <= 2 * n+192:=by
 unfold Builtin.nextslicecap
 split
 ·omega
 ·split
  ·omega
  ·simp only [Builtin.growBy]
   repeat' split
   all_goals omega
section
variable {α:Type} {e:Enc α} {P:Program} {t tx ty T:TypeId} {inf:TypeInfo} {z:Value}
structure EncOk (e:Enc α) (P:Program) (T:TypeId) (inf:TypeInfo) (z:Value):Prop where
 info:P.info? T=some inf
 zero:inf.zero=some z
 size:inf.size=e.w
 zsize:z.cells.size=e.w
 zcell:∀ k,k < e.w -> z.cells[k]?=some (e.cell e.dflt k)
 one:∀ x k,(e.cell x k).oneCell'=true
 bytes:inf.bytes <= 1000
theorem oK (ok:EncOk e P T inf z) (n:Nat):(Builtin.zeroCells z.cells n).toList=ay e (List.replicate n e.dflt):=by
 unfold Builtin.zeroCells
 rw [uF,ok.zsize]
 have h1:=kC e (List.replicate n e.dflt)
 rw [List.length_replicate] at h1
 rw [<- h1]
 show bB _ _ _=_
 refine tz λ i k hi hk=>?_
 have h2:=ok.zcell k hk
 simp only [bn,List.getD_eq_getElem?_getD,List.getElem?_replicate,Array.getD_eq_getD_getElem?,h2]
 split <;> rfl
theorem Bm (ok:EncOk e P T inf z) (ht:P.underlying t=some (.slice T)) {l:List α} {A:Option Addr} {cap:Nat} {Hl G:HL} {w:World} (h:SlIs e T l A cap Hl) (hR:Rel (Hl++G) w) (src:List α) (x:Value)
  (hs:Src P inf.size tx x src.length (ay e src) w) (hb:l.length+src.length <= 100000000) :
  ∃ A' cap' Hl' w',(Builtin.append_ #[t,tx] ty #[.slice A l.length cap,x]).run P w=.ok (.slice A' (l.length+src.length) cap') w' /\ (SlIs e T (l++src) A' cap' Hl' /\ (cq A -> cq A')) /\ Rel (Hl'++G) w' /\ Below 0 w w':=by
 have hby:=ok.bytes
 have hfit:∀ c,c < l.length+src.length -> Builtin.nextslicecap (l.length+src.length) c * inf.bytes <= 281474976710656:=λ c hc=>by
  have h1:=kg (l.length+src.length) c hc
  have h2:Builtin.nextslicecap (l.length+src.length) c * inf.bytes <= (2 * 100000000+192) * 1000:=Nat.mul_le_mul (by omega) hby
  omega
 have grow:∀ (hg:cap < l.length+src.length) (hold:(Builtin.firstCells inf.size l.length (.slice A l.length cap)).run P w.drew=.ok (ay e l).toArray w.drew),∃ A' cap' Hl' w',(Builtin.append_ #[t,tx] ty #[.slice A l.length cap,x]).run P w=.ok (.slice A' (l.length+src.length) cap') w' /\ (SlIs e T (l++src) A' cap' Hl' /\ (cq A -> cq A')) /\ Rel (Hl'++G) w' /\ Below 0 w w':=by
  intro hg hold
  have hrun:=run_append_grow_src (P:=P) w t tx ty T inf z ht ok.info ok.zero A l.length cap (ay e l) hold x src.length (ay e src) hs hg (by omega) (hfit cap hg)
  have hge:=grownCap_ge w (l.length+src.length) cap T
  generalize grownCap w (l.length+src.length) cap T=nc at *
  refine ⟨_,nc,[(w.heap.size,.rows e.w (0+nc) (bn e (l++src++List.replicate (nc - (l.length+src.length)) e.dflt)) T (0,0))],_,hrun,⟨.inr ⟨w.heap.size,0,l++src++List.replicate (nc - (l.length+src.length)) e.dflt,by simp,rfl,by simp;omega,by simp;omega,by rw [List.drop_zero,List.take_append_of_le_length (by simp),List.take_of_length_le (by simp)]⟩,λ _=>rfl⟩,?_,?_⟩
  ·have hR2:Rel G w:=hR.drop
   have:=(Rel.cons (.rows e.w (0+nc) (bn e (l++src++List.replicate (nc - (l.length+src.length)) e.dflt)) T (0,0)) (o:=.cells ((ay e l++ay e src).toArray++Builtin.zeroCells z.cells (nc - (l.length+src.length))) T (0,0)) ?_ (hR2.world (w':=w.drew) rfl))
   ·exact this
   ·show Obj.cells _ _ _=_
    congr 1
    apply Array.ext'
    show bB _ _ _=_
    have hl:0+nc=(l++src++List.replicate (nc - (l.length+src.length)) e.dflt).length:=by simp;omega
    rw [hl,kC,cu,cu,Array.toList_append,oK ok]
  ·exact ⟨rfl,rfl,rfl,by simp,λ k hk=>by omega⟩
 rcases h with ⟨rfl,rfl,rfl,rfl⟩ | ⟨b,o,full,rfl,rfl,hfl,hle,hl⟩
 ·-- nil
  rcases Nat.eq_zero_or_pos src.length with h0 | h0
  ·obtain rfl:src=[]:=List.eq_nil_of_length_eq_zero h0
   refine ⟨none,0,[],w,?_,⟨.inl ⟨rfl,rfl,by simp,rfl⟩,λ h=>h⟩,hR,Below.refl _ _⟩
   have hc:(Builtin.firstCells inf.size 0 x).run P w=.ok #[] w:=hs.cells
   rcases hs.kind with ⟨e',hk⟩ | hk <;> simp [Builtin.append_,run_underlying ht,run_underlying hk,Go.sizeOf,typeInfo,ok.info,hs.len,hc]
  ·exact grow (by simp;omega) (by simp [ay];exact run_firstCells_none w.drew inf.size 0 0 0)
 ·have hblk:=hR.holds _ (List.mem_append_left G (List.mem_cons_self))
  simp only [Blk.den] at hblk
  have hlenr:(bB e.w (bn e full) (o+cap)).length=(o+cap) * e.w:=cO _ _ _
  have hall:bB e.w (bn e full) (o+cap)=ay e full:=by rw [<- hfl];exact kC e full
  by_cases hroom:l.length+src.length <= cap
  ·-- there is room
   have hsz:=ok.size
   have hnl:(ay e src).length=src.length * e.w:=aS e src
   have hin:o * e.w+l.length * inf.size+(ay e src).length <= (o+cap) * e.w:=by
    rw [hnl,hsz,<- Nat.add_mul,<- Nat.add_mul]
    exact Nat.mul_le_mul_right _ (by omega)
   have hcell:∀ j,j < (ay e src).length -> (w.cell? ⟨b,o * e.w+l.length * inf.size+j,none⟩).isSome=true:=λ j hj=>by
    simp [World.cell?,hblk,hlenr]
    omega
   have hfrz:∀ j,j < (ay e src).length -> w.frozen? ⟨b,o * e.w+l.length * inf.size+j,none⟩=false:=λ j hj=>by simp [World.frozen?,hblk]
   have hrun:=run_append_room_src (P:=P) w t tx ty T inf ht ok.info b (o * e.w) l.length cap x src.length (ay e src) hs hroom hcell hfrz
   have hblk':=kD b (ay e src) (o * e.w+l.length * inf.size) w _ _ _ hblk
   have hfull:je (bB e.w (bn e full) (o+cap)) (o * e.w+l.length * inf.size) (ay e src)=ay e (full.take (o+l.length)++src++full.drop (o+l.length+src.length)):=by
    apply List.ext_getElem?
    intro j
    rw [mh _ _ _ (by rw [hlenr];exact hin),hall,cu,cu]
    have c1:(ay e (full.take (o+l.length))).length=(o+l.length) * e.w:=by rw [aS,List.length_take];congr 1;omega
    have c0:o * e.w+l.length * inf.size=(o+l.length) * e.w:=by rw [hsz,<- Nat.add_mul]
    have hsplit:ay e full=ay e (full.take (o+l.length))++ay e (full.drop (o+l.length)):=by rw [<- cu,List.take_append_drop]
    have hsplit2:ay e (full.drop (o+l.length))=ay e ((full.drop (o+l.length)).take src.length)++ay e (full.drop (o+l.length+src.length)):=by
     rw [<- cu,show o+l.length+src.length=(o+l.length)+src.length from rfl,<- List.drop_drop (i:=src.length) (j:=o+l.length),List.take_append_drop]
    have c2:(ay e ((full.drop (o+l.length)).take src.length)).length=src.length * e.w:=by rw [aS,List.length_take,List.length_drop];congr 1;omega
    rw [c0]
    by_cases h1:j < (o+l.length) * e.w
    ·rw [if_neg (by omega),hsplit,List.append_assoc,List.getElem?_append_left (by omega),List.getElem?_append_left (by omega)]
    ·by_cases h2:j < (o+l.length) * e.w+src.length * e.w
     ·rw [if_pos (by omega),List.append_assoc,List.getElem?_append_right (by omega),List.getElem?_append_left (by omega),c1]
     ·rw [if_neg (by omega),hsplit,hsplit2,List.append_assoc,List.getElem?_append_right (by omega),List.getElem?_append_right (by omega),List.getElem?_append_right (by omega),List.getElem?_append_right (by omega),c1,c2,hnl]
   have hfl':(full.take (o+l.length)++src++full.drop (o+l.length+src.length)).length=o+cap:=by simp;omega
   refine ⟨_,cap,[(b,.rows e.w (o+cap) (bn e (full.take (o+l.length)++src++full.drop (o+l.length+src.length))) T (0,0))],_,hrun,⟨.inr ⟨b,o,_,rfl,rfl,hfl',by simp;omega,?_⟩,λ h=>h⟩,?_,il _ _ _ _⟩
   ·have h1:full.take (o+l.length)=full.take o++l:=by rw [List.take_add,hl]
    rw [h1,List.append_assoc,List.append_assoc,List.drop_append_of_le_length (by simp;omega),List.drop_eq_nil_of_le (by rw [List.length_take];omega),List.nil_append,<- List.append_assoc]
    rw [List.take_append_of_le_length (by simp)]
    exact List.take_of_length_le (by simp)
   ·refine ⟨?_,by have:=hR.nodup;simpa using this⟩
    intro y hy
    rcases List.mem_cons.1 hy with rfl | hy
    ·rw [hblk',hfull]
     simp only [Blk.den]
     rw [<- hfl',kC]
    ·have hne:y.1 ≠ b:=by
      have:=hR.nodup
      simp only [List.cons_append,List.nil_append,List.map_cons,List.nodup_cons] at this
      intro e1
      exact this.1 (by rw [<- e1];exact List.mem_map_of_mem hy)
     rw [kF b _ _ _ _ hne]
     exact hR.holds y (List.mem_append_right _ hy)
  ·refine grow (by omega) ?_
   refine run_firstCells_some w.drew inf.size l.length ⟨b,o * e.w,none⟩ l.length cap (ay e l) (by rw [aS,ok.size]) ?_
   intro j u hj
   have hjl:j < (ay e l).length:=(List.getElem?_eq_some_iff.1 hj).1
   rw [aS] at hjl
   have hsub:ay e l=((ay e full).drop (o * e.w)).take (l.length * e.w):=by
    have h1:ay e full=ay e (full.take o)++(ay e l++ay e ((full.drop o).drop l.length)):=by
     rw [<- cu,<- cu]
     congr 1
     conv=>lhs;rw [<- List.take_append_drop o full]
     congr 1
     conv=>lhs;rw [<- List.take_append_drop l.length (full.drop o)]
     rw [hl]
    have c1:(ay e (full.take o)).length=o * e.w:=by rw [aS,List.length_take];congr 1;omega
    rw [h1,List.drop_append_of_le_length (by omega),List.drop_eq_nil_of_le (by omega),List.nil_append,List.take_append_of_le_length (by rw [aS];exact Nat.le_refl _),List.take_of_length_le (by rw [aS];exact Nat.le_refl _)]
   rw [Addr.add_lit]
   show World.cell? w ⟨b,o * e.w+j,none⟩=some u
   simp only [World.cell?,hblk,hall]
   rw [hsub,List.getElem?_take,if_pos (by omega),List.getElem?_drop] at hj
   simpa using hj
theorem lc {N:Nat} {D:List Deferred} {F:HL} {L:FL} {H:HL} (ok:EncOk e P T inf z) {o:Oper} {a1 a2:Operand} (hop:o.op=.call { callee:=.builtin .append,args:=#[a1,a2],argTypes:=#[t,tx] }) (ht:P.underlying t=some (.slice T))
  {l src:List α} {A:Option Addr} {cap n:Nat} {Hl G:HL} {x:Value} (hi:(lM L a1 && lM L a2)=true) (h1:iT L a1=.slice A n cap) (hn:n=l.length) (h2:iT L a2=x) (hperm:(Hl++G).Perm H) (hsl:SlIs e T l A cap Hl)
  (hs:∀ w,Rel (H++F) w -> Src P inf.size tx x src.length (ay e src) w) (hb:l.length+src.length <= 100000000) (a:Act) (hF:Fm N D L a) (w:World) (hR:Rel (H++F) w) :
  d7 P o a w λ u w'=>∃ y:Option Addr × Nat × HL,(u=.slice y.1 (n+src.length) y.2.1 /\ (SlIs e T (l++src) y.1 y.2.1 y.2.2 /\ (cq A -> cq y.1))) /\ Rel ((y.2.2++G)++F) w' /\ Below 0 w w':=by
 subst hn
 simp only [Bool.and_eq_true] at hi
 have e1:=(hF.eval hi.1).trans h1
 have e2:=(hF.eval hi.2).trans h2
 have hR':Rel (Hl++(G++F)) w:=by rw [<- List.append_assoc];exact hR.perm (hperm.append_right F)
 obtain ⟨A',cap',Hl',w',r1,r2,r3,r4⟩:=Bm (ty:=o.type) ok ht hsl hR' src x (hs w hR) hb
 unfold d7
 have hrun:(execOp a.eval o).run P w=.ok (.value (.slice A' (l.length+src.length) cap')) w':=by
  simp [execOp,hop,resolve,invoke,builtin,Sem.run_bind,e1,e2,r1]
 rw [hrun]
 exact ⟨(A',cap',Hl'),⟨rfl,r2⟩,by rw [List.append_assoc];exact r3,r4⟩
theorem zD {H F:HL} {w:World} (ok:EncOk e P T inf z) {e':TypeId} (hk:P.underlying tx=some (.slice e')) {sb c:Nat} {src:List α} {ty:TypeId} {fz:Nat × Nat} (p:Nat) (h:H[p]?=some (sb,.lit (ay e src) ty fz)) (hR:Rel (H++F) w):Src P inf.size tx (vS sb 0 src.length c) src.length (ay e src) w:=by
 refine Src.ofSlice w hk _ _ _ _ (by rw [aS,ok.size]) ?_ ?_
 ·intro j u hj
  have hb:=hR.holds _ (List.mem_append_left F (List.mem_of_getElem? h))
  simp only [Blk.den] at hb
  rw [Addr.add_lit]
  simp [World.cell?,hb,hj]
 ·intro u hu
  simp only [ay,List.mem_flatMap,List.mem_map] at hu
  obtain ⟨x,_,k,_,rfl⟩:=hu
  exact ok.one x k
end
section
variable {r:Option Nat} {P:Program} {N:Nat} {D:List Deferred} {F:HL} {w0:World} {ops:Array Oper} {i:Nat} {L:FL} {H:HL} {Q:Exit -> Act -> World -> Prop}
def du (H:HL):List (Nat × Obj):=H.map λ x=>(x.1,x.2.den)
theorem Rel.den {H H':HL} {w:World} (e:du H=du H') (h:Rel H w):Rel H' w:=by
 have h1:H'.map (·.1)=H.map (·.1):=by
  have:=congrArg (List.map (·.1)) e
  simpa [du,Function.comp_def] using this.symm
 refine ⟨λ x hx=>?_,by have:=h.nodup;rw [h1];exact this⟩
 have:(x.1,x.2.den) ∈ du H:=e ▸ List.mem_map_of_mem hx
 obtain ⟨y,hy,e2⟩:=List.mem_map.1 this
 have h3:=h.holds y hy
 simp only [Prod.mk.injEq] at e2
 rw [<- e2.1,<- e2.2]
 exact h3
theorem Rel.denA {A A' F:HL} {Ts:List HL} {w:World} (e:du A=du A') (h:Rel (ap A Ts++F) w):Rel (ap A' Ts++F) w :=
 h.den (by simp only [du,List.map_append] at e ⊢;rw [e])
end
theorem OPJ.den {P:Program} {F:HL} {w0:World} {ops:Array Oper} {hards:List Nat} {Rd:HL} {i:Nat} {a:Act} {H H':HL} {K K':Act -> HL -> Prop} (hK:∀ a H1 H2,du H1=du H2 -> K a H1 -> K' a H2) (hp:du H=du H') (h:OPJ P ops F w0 hards Rd i a H K):OPJ P ops F w0 hards Rd i a H' K':=by
 have hx:∀ X:HL,du (X++H)=du (X++H'):=λ X=>by simp only [du,List.map_append] at hp ⊢;rw [hp]
 have hf:∀ (A B:HL) (w:World),du A=du B -> Rel (A++F) w -> Rel (B++F) w:=λ A B w e h=>h.den (by simp only [du,List.map_append] at e ⊢;rw [e])
 unfold OPJ at h ⊢
 cases ho:ops[i]? with
 | none=>rw [ho] at h;exact h
 | some o =>
  rw [ho] at h
  simp only at h ⊢
  split
  ·rename_i hw
   rw [if_pos hw] at h
   intro w hR hB
   refine d8 (h w (hf _ _ _ hp.symm hR) hB) ?_
   rintro u w' ⟨H1,⟨s1,s2⟩,k1,k2,k3⟩
   by_cases hi:i ∈ hards
   ·exact ⟨H1,⟨λ e=>absurd hi e,s2⟩,hK _ _ _ rfl k1,k2,k3⟩
   ·obtain ⟨X,rfl⟩:=s1 hi
    exact ⟨X++H',⟨λ _=>⟨X,rfl⟩,λ e=>absurd e hi⟩,hK _ _ _ (hx X) k1,hf _ _ _ (hx X) k2,k3⟩
  ·rename_i hw
   rw [if_neg hw] at h
   exact hK _ _ _ hp h
theorem JJ.den {P:Program} {F:HL} {w0:World} {ops:Array Oper} {Q:Exit -> Act -> World -> Prop} {hards:List Nat} {Rd:HL}:∀ (fuel:Nat) (listed:Array Bool) (a:Act) (H H':HL),du H=du H' -> JJ P ops Q F w0 hards Rd fuel listed a H -> JJ P ops Q F w0 hards Rd fuel listed a H'
 | 0,listed,a,H,H',hp,h=>⟨h.1,λ w hR hB=>h.2 w (hR.den (by simp only [du,List.map_append] at hp ⊢;rw [hp])) hB⟩
 | fuel+1,listed,a,H,H',hp,h=>⟨λ e w hR hB=>h.1 e w (hR.den (by simp only [du,List.map_append] at hp ⊢;rw [hp])) hB,λ i hi=>OPJ.den (λ a H1 H2 hp h=>JJ.den fuel _ a H1 H2 hp h) hp (h.2 i hi)⟩
theorem TD.den {P:Program} {N:Nat} {D:List Deferred} {F:HL} {w0:World} {ops:Array Oper} {hards:List Nat} {Rd:HL} {fuel:Nat} {listed:List Bool} {L:FL} {Q:Exit -> Act -> World -> Prop} {A:HL} {Ts:List HL} (A':HL) (e:du A=du A') (h:TD P N D F w0 ops hards Rd fuel listed L (ap A' Ts) Q):TD P N D F w0 ops hards Rd fuel listed L (ap A Ts) Q:=by
 intro hcl a hF
 refine JJ.den _ _ _ _ _ ?_ (h hcl a hF)
 simp only [du,List.map_append] at e ⊢
 rw [e]
theorem SlIs.open0 {α:Type} {e:Enc α} {T:TypeId} {l:List α} {A:Option Addr} {cap:Nat} {Hl:HL} (h:SlIs e T l A cap Hl) (hz:cq A) (hw:0 < e.w) (hl:0 < l.length):∃ b rest,A=some ⟨b,0,none⟩ /\ Hl=[(b,.rows e.w cap (bn e (l++rest)) T (0,0))] /\ l.length <= cap:=by
 rcases h with ⟨_,_,rfl,_⟩ | ⟨b,o,full,rfl,rfl,h3,h4,h5⟩
 ·simp at hl
 ·have ho:o=0:=by
   have h6:o * e.w=0:=hz
   rcases Nat.mul_eq_zero.1 h6 with h | h
   ·exact h
   ·omega
  subst ho
  refine ⟨b,full.drop l.length,by rw [Nat.zero_mul],?_,h4⟩
  have:l++full.drop l.length=full:=by
   conv=>lhs;lhs;rw [<- h5]
   rw [List.drop_zero,List.take_append_drop]
  rw [this,Nat.zero_add]
section
variable {r:Option Nat} {P:Program} {N:Nat} {D:List Deferred} {F:HL} {w0:World} {ops:Array Oper} {i:Nat} {L:FL} {Q:Exit -> Act -> World -> Prop} {A:HL} {Ts Ts':List HL} {x:Nat × Blk}
theorem xK {A:HL} {Ts Ts':List HL} {x:Nat × Blk} (jr:List Nat) (j:Nat) (hp:([j]++jr).isPerm (List.range Ts.length)=true) (hj:Ts[j]?=some [x]) (hr:jr.filterMap (Ts[·]?)=Ts'):(ap (x :: A) Ts').Perm (ap A Ts):=by
 have h3:=fq Ts [j] jr hp
 simp only [List.filterMap_cons,hj,List.filterMap_nil,hr] at h3
 have h4:=h3.flatten
 simp only [List.cons_append,List.nil_append,List.flatten_cons] at h4
 show (x :: (A++Ts'.flatten)).Perm (A++Ts.flatten)
 refine List.Perm.trans ?_ (List.Perm.append_left A h4)
 exact (List.perm_middle (a:=x) (l₁:=A) (l₂:=Ts'.flatten)).symm
theorem DF {A:HL} {Ts Ts':List HL} (jp:List Nat) (hp:jp.isPerm (List.range Ts.length)=true) (e:jp.filterMap (Ts[·]?)=Ts'):(ap A Ts').Perm (ap A Ts):=by
 have h3:=fq Ts jp [] (by simpa using hp)
 rw [e] at h3
 simp only [List.filterMap_nil,List.append_nil] at h3
 exact List.Perm.append_left A h3.flatten
end
open Go.Shelf
def YL (P:Program) (l:Nat) (args:Array Value) (H F:HL) (R:Bool -> HL -> Prop):Prop :=
 ∀ w,Rel (H++F) w -> YieldAt (Wr none) 0 P l args w λ e W'=>∃ b H',e=.returned (.bool b) /\ R b H' /\ Rel (H'++F) W' /\ Below 0 w W'
def It (P:Program) (g:FuncId) (lb:Array Value) (F:HL) {α:Type} (encs:α -> Array Value) (xs:List α):Prop :=
 ∀ (X:HL) (l:Nat) (J:Nat -> HL -> Prop) (Jx:HL -> Prop) (H0:HL),(∀ i x H Y,xs[i]?=some x -> J i H -> YL P l (encs x) H (Y++(X++F)) (λ b H'=>(b=true /\ J (i+1) H') \/ (b=false /\ Jx H'))) -> J 0 H0 ->
  Sp P g (#[.func (.yield l) #[] #[]]++lb) H0 (X++F) (λ _ H'=>J xs.length H' \/ Jx H')
def xL (P:Program) (n0 N:Nat) (ops:List Oper) (i:Nat) (L:FL) (H R:HL) (hints:List Hint):Option (Option Tmp × Nat × Array Value × List Prop) :=
 match ops[i]? with
 | none=>none
 | some o=>match iX ops o L ⟨H,R,hints,0,[],[],true⟩ with
  | some (true,s)=>match ii o.op L,s.hints,s.eq with
   | true,[],[]=>match o.op with
    | .call c=>match c.callee with
     | .value f=>match iT L f with
      | .func (.yield l) cap bound=>match cap.toList,bound.toList with
       | [],[]=>some (o.dst,l,c.args.map (iT L),s.ob)
       | _,_=>none
      | _=>none
     | _=>none
    | _=>none
   | _,_,_=>none
  | _=>none
theorem xM {P:Program} {ρ:Operand -> Value} {o:Oper} {c:Call} {f:Operand} {l:Nat} (ho:o.op=.call c) (hc:c.callee=.value f) (hf:ρ f=.func (.yield l) #[] #[]) (w:World) :
  (execOp ρ o).run P w=(Instr.yield l (c.args.map ρ)).run P w:=by
 simp [execOp,ho,resolve,hc,hf,Deferred.ofValue,invoke,Sem.run_bind,Result.andThen]
section
variable {r:Option Nat} {P:Program} {N:Nat} {D:List Deferred} {F:HL} {w0:World} {ops:Array Oper} {i:Nat} {L:FL} {H:HL} {Q:Exit -> Act -> World -> Prop}
end
abbrev cr (d:Nat):Nat × Blk:=(d,.obj (.deferred (some [])))
abbrev coll (d:Nat):Deferred:={ target:=.collected d,args:=#[] }
theorem Rel.putObj {H F:HL} {w:World} {l:Nat} {b:Blk} (b':Blk) (h:Rel ((l,b) :: H) w):Rel ((l,b') :: H) (w.putObj l b'.den):=by
 have hl:=h.lt (List.mem_cons_self)
 refine ⟨λ x hx=>?_,by simpa using h.nodup⟩
 rcases List.mem_cons.1 hx with rfl | hx
 ·exact World.putObj_heap_same hl
 ·have hne:x.1 ≠ l:=by
   have:=h.nodup
   simp only [List.map_cons,List.nodup_cons] at this
   intro e
   exact this.1 (e ▸ List.mem_map_of_mem hx)
  exact (World.putObj_heap_other hne).trans (h.holds x (List.mem_cons_of_mem _ hx))
theorem dG {w:World} (l:Nat) (o:Obj):Below 0 w (w.putObj l o):=⟨rfl,rfl,rfl,by simp,λ k hk=>by omega⟩
theorem gP {w:World} (o:Obj):Below 0 w (w.alloc o):=⟨rfl,rfl,rfl,by simp,λ k hk=>by omega⟩
theorem Rel.alloc {H:HL} {w:World} (b:Blk) (h:Rel H w):Rel ((w.heap.size,b) :: H) (w.alloc b.den):=Rel.cons b rfl h
def RQ {σ:Type} (F:HL) (w0:World) (Hx:σ -> HL) (I:σ -> Prop) (Ix:Code -> σ -> Prop):Exit -> Act -> World -> Prop
 | .normal,_,w=>∃ s,I s /\ Rel (Hx s++F) w /\ Below 0 w0 w
 | .ret,_,w=>∃ s,Ix .ret s /\ Rel (Hx s++F) w /\ Below 0 w0 w
 | .exit id,_,w=>∃ s,Ix (.exit id) s /\ Rel (Hx s++F) w /\ Below 0 w0 w
 | _,_,_=>False
section
variable {P:Program} {N:Nat} {D:List Deferred} {F:HL} {w0:World} {L:FL} {Q:Exit -> Act -> World -> Prop}
def pf:List Tmp -> List Value -> FL -> FL
 | p :: ps,v :: vs,L=>pf ps vs ((p,v) :: L)
 | _,_,L=>L
theorem Fm.zip:∀ (ps:List Tmp) (vs:List Value) (L:FL) (tmps:Array Value),(∀ p ∈ ps,p < N) -> Fm N D L { tmps:=tmps,defers:=D } -> Fm N D (pf ps vs L) { tmps:=(ps.zip vs).foldl (λ t (p,v)=>t.setIfInBounds p v) tmps,defers:=D }
 | p :: ps,v :: vs,L,tmps,hN,h=>by
  rw [pf,List.zip_cons_cons,List.foldl_cons]
  refine Fm.zip ps vs _ _ (λ q hq=>hN q (List.mem_cons_of_mem _ hq)) ?_
  refine ⟨by simpa using h.size,rfl,λ t u ht=>?_⟩
  have hs:tmps.size=N:=h.size
  have hp:=hN p List.mem_cons_self
  rw [List.lookup_cons] at ht
  simp only
  by_cases e:t=p
  ·subst e
   simp at ht
   subst ht
   rw [Array.getElem?_setIfInBounds]
   simp [hs,hp]
  ·have:(t == p)=false:=by simpa using e
   rw [this] at ht
   rw [Array.getElem?_setIfInBounds,if_neg (λ e'=>e e'.symm)]
   exact h.has _ _ ht
 | [],vs,L,tmps,_,h=>by simpa [pf] using h
 | _ :: _,[],L,tmps,_,h=>by simpa [pf] using h
theorem TR.range {α σ τ:Type} {g:Operand} {ps:Array Tmp} {assign body:Code} {encs:α -> Array Value} {xs:List α} {gf:FuncId} {lb:Array Value} (hi:lM L g=true) (hg:iT L g=.func (.func gf) #[] lb) (eg:∀ args w,(callFunc gf args).run P w=.ok (.enter gf args) w)
  (Hx:σ -> HL) (I:Nat -> σ -> Prop) (Ix:Code -> σ -> Prop) (La:τ -> FL) (Ha:τ -> HL) (Ia:Nat -> α -> τ -> Prop) (hps:∀ x,(encs x).size=ps.size) (hpN:(ps.toList.all λ p=>decide (p < N))=true)
  (x0:σ) (h0:I 0 x0) {A:HL} {Ts:List HL} (ip ir jp jr:List Nat) (hp:(ip++ir).isPerm (List.range A.length)=true) (hj:(jp++jr).isPerm (List.range Ts.length)=true) (Hr:HL) (Tr:List HL) (hHr:ir.filterMap (A[·]?)=Hr) (hTr:jr.filterMap (Ts[·]?)=Tr) (hH:ap (ip.filterMap (A[·]?)) (jp.filterMap (Ts[·]?))=Hx x0)
  (hit:It P gf lb (ap Hr Tr++F) encs xs)
  (hassign:∀ (l i:Nat) (x:α) (s:σ) (Y:HL) (w1:World),xs[i]?=some x -> I i s -> TR (some l) P N [] (Y++(ap Hr Tr++F)) w1 (pf ps.toList (encs x).toList L) (Hx s) assign (Exit.then (Kj N [] (Y++(ap Hr Tr++F)) w1 La Ha (Ia i x)) (λ _ _ _=>False)))
  (hbody:∀ (l i:Nat) (x:α) (t:τ) (Y:HL) (w1:World),xs[i]?=some x -> Ia i x t -> TR (some l) P N [] (Y++(ap Hr Tr++F)) w1 (La t) (Ha t) body (RQ (Y++(ap Hr Tr++F)) w1 Hx (I (i+1)) Ix))
  (hdone:∀ (d:Nat) (s:σ),I xs.length s -> EX N (coll d :: D) F w0 L (cr d :: (Hx s++ap Hr Tr)) Q .normal)
  (hstop:∀ (d:Nat) (c:Code) (s:σ),Ix c s -> TR none P N (coll d :: D) F w0 L (cr d :: (Hx s++ap Hr Tr)) c Q) :
  TR none P N D F w0 L (ap A Ts) (.rangeFunc g ps assign body) Q:=by
 intro a w hF hR hB
 have hR1:Rel (Hx x0++(ap Hr Tr++F)) w:=by
  have h1:=k8 A Ts ip ir jp jr hp hj
  rw [hHr,hTr,hH] at h1
  rw [<- List.append_assoc]
  exact hR.perm (h1.append_right F)
 refine wpIn_rangeFunc ?_
 intro fn hfn
 obtain ⟨rec,hrec⟩:∃ rec:LoopState -> Option Code -> Loop,rec=λ st pe=>{ state:=st,pending:=pe,fn,tmps:=a.tmps,params:=ps,assign,body,defers:=w.heap.size }:=⟨_,rfl⟩
 obtain ⟨W1,hW1⟩:∃ W1,(w.alloc (.deferred (some []))).alloc (.loop (rec .ready none))=W1:=⟨_,rfl⟩
 have hB1:Below 0 w W1:=by rw [<- hW1];exact (gP _).trans (gP _)
 have hRW:Rel ((w.heap.size+1,Blk.obj (.loop (rec .ready none))) :: cr w.heap.size :: (Hx x0++(ap Hr Tr++F))) W1:=by
  rw [<- hW1]
  have h1:=(hR1.alloc (.obj (.deferred (some [])))).alloc (.obj (.loop (rec .ready none)))
  rw [World.size_alloc] at h1
  exact h1
 refine ⟨w.heap.size+1,[coll w.heap.size],W1,{ target:=.fn (.func gf) lb,args:=#[.func (.yield (w.heap.size+1)) #[] #[]] },W1,gf,#[.func (.yield (w.heap.size+1)) #[] #[]]++lb,W1,?_,?_,?_,?_,λ h=>(by cases h),?_⟩
 ·rw [<- hW1,hrec];exact run_enterLoop_outer _ _ _ _ _
 ·have hge:a.eval g=.func (.func gf) #[] lb:=(hF.eval hi).trans hg
  simp only [resolve,hge]
  simp [Deferred.ofValue]
  rfl
 ·intro f' _;trivial
 ·simp [invoke,eg]
 ·refine js ?_
  obtain ⟨l,hl⟩:∃ l,w.heap.size+1=l:=⟨_,rfl⟩
  rw [hl] at hRW ⊢
  obtain ⟨d,hd⟩:∃ d,w.heap.size=d:=⟨_,rfl⟩
  rw [hd] at hRW hrec ⊢
  have key:=hit [] l (λ i H'=>∃ s,I i s /\ H'=(l,Blk.obj (.loop (rec .ready none))) :: cr d :: Hx s) (λ H'=>∃ c s,Ix c s /\ H'=(l,Blk.obj (.loop (rec .done (some c)))) :: cr d :: Hx s)
   ((l,Blk.obj (.loop (rec .ready none))) :: cr d :: Hx x0) ?round ⟨x0,h0,rfl⟩ W1 hRW
  case round =>
   rintro i x H' Y hx ⟨s,hs,rfl⟩ W hRel
   have hRel':Rel ((l,Blk.obj (.loop (rec .ready none))) :: (cr d :: (Hx s++(Y++(ap Hr Tr++F))))) W:=hRel
   have hlW:W.heap[l]?=some (.loop (rec .ready none)):=hRel'.holds _ List.mem_cons_self
   have hy:=run_yield (P:=P) (args:=encs x) hlW (by rw [hrec];exact hps x)
   rw [hrec] at hy
   refine ⟨fn,_,assign,body,hy,roundIn_of_wpIn (F:=Wr none) (n:=0) hfn ?_⟩
   have hFm:Fm N [] (pf ps.toList (encs x).toList L) { tmps:=(ps.zip (encs x)).foldl (λ t (p,v)=>t.setIfInBounds p v) a.tmps,defers:=[] }:=by
    have h1:=Fm.zip (D:=[]) ps.toList (encs x).toList L a.tmps (λ p hp=>of_decide_eq_true (List.all_eq_true.1 hpN p hp)) ⟨hF.size,rfl,hF.has⟩
    have e:(ps.zip (encs x)).foldl (λ t (p,v)=>t.setIfInBounds p v) a.tmps=(ps.toList.zip (encs x).toList).foldl (λ t (p,v)=>t.setIfInBounds p v) a.tmps:=by
     rw [<- Array.foldl_toList,Array.toList_zip]
    rw [e]
    exact h1
   have hRA:Rel (Hx s++(((l,Blk.obj (.loop (rec .ready none))) :: cr d :: Y)++(ap Hr Tr++F))) W:=by
    have:=hRel'
    refine this.perm ?_
    simp only [List.cons_append]
    refine List.perm_middle.trans ?_
    refine List.Perm.cons _ ?_
    exact List.perm_middle
   refine wpIn_mono (hassign l i x s ((l,Blk.obj (.loop (rec .ready none))) :: cr d :: Y) W hx hs _ W hFm hRA (Below.refl _ _)) ?_
   intro e a1 Wa hq
   cases e with
   | normal =>
    obtain ⟨t,ht,m1,m2,m3⟩:=hq
    have hRb:Rel ((l,Blk.obj (.loop (rec .ready none))) :: (cr d :: (Ha t++(Y++(ap Hr Tr++F))))) Wa:=by
     refine m2.perm ?_
     simp only [List.cons_append]
     refine (List.Perm.trans ?_ List.perm_middle.symm)
     refine List.Perm.cons _ ?_
     exact List.perm_middle.symm
    have hla:Wa.heap[l]?=some (.loop (rec .ready none)):=hRb.holds _ List.mem_cons_self
    refine ⟨_,run_beginRound hla (by rw [hrec]),?_⟩
    have hRc:=hRb.putObj (F:=[]) (.obj (.loop { rec .ready none with state:=.busy }))
    have hRd:Rel (Ha t++(((l,Blk.obj (.loop { rec .ready none with state:=.busy })) :: cr d :: Y)++(ap Hr Tr++F))) (Wa.putObj l (.loop { rec .ready none with state:=.busy })):=by
     refine hRc.perm ?_
     simp only [List.cons_append]
     refine List.perm_middle.trans ?_
     refine List.Perm.cons _ ?_
     exact List.perm_middle
    refine wpIn_mono (hbody l i x t ((l,Blk.obj (.loop { rec .ready none with state:=.busy })) :: cr d :: Y) W hx ht a1 _ m1 hRd (m3.trans (dG _ _))) ?_
    have fin:∀ (jump:Option Code) (s':σ) (W3:World),Rel (Hx s'++(((l,Blk.obj (.loop { rec .ready none with state:=.busy })) :: cr d :: Y)++(ap Hr Tr++F))) W3 -> Below 0 W W3 ->
      ∃ v w',(Instr.endRound l jump).run P W3=.ok v w' /\ v=.bool jump.isNone /\ Rel (((l,Blk.obj (.loop (rec (if jump.isNone then .ready else .done) jump))) :: cr d :: Hx s')++(Y++([]++(ap Hr Tr++F)))) w' /\ Below 0 W w':=by
     intro jump s' W3 h3 hb3
     have h4:Rel ((l,Blk.obj (.loop { rec .ready none with state:=.busy })) :: (cr d :: (Hx s'++(Y++(ap Hr Tr++F))))) W3:=by
      refine h3.perm ?_
      simp only [List.cons_append]
      refine (List.Perm.trans ?_ List.perm_middle.symm)
      refine List.Perm.cons _ ?_
      exact List.perm_middle.symm
     have hl3:W3.heap[l]?=some (.loop { rec .ready none with state:=.busy }):=h4.holds _ List.mem_cons_self
     have hrun:=run_endRound (P:=P) jump hl3
     refine ⟨_,_,hrun,rfl,?_,hb3.trans (dG _ _)⟩
     have h5:=h4.putObj (F:=[]) (.obj (.loop (rec (if jump.isNone then .ready else .done) jump)))
     rw [hrec] at h5 ⊢
     exact h5
    intro e2 a2 W3 hq2
    cases e2 with
    | normal =>
     obtain ⟨s',hs',n2,n3⟩:=hq2
     obtain ⟨v,w',k1,k2,k3,k4⟩:=fin none s' W3 n2 n3
     exact ⟨v,w',k1,true,_,by rw [k2];rfl,.inl ⟨rfl,s',hs',rfl⟩,k3,k4⟩
    | ret =>
     obtain ⟨s',hs',n2,n3⟩:=hq2
     obtain ⟨v,w',k1,k2,k3,k4⟩:=fin (some .ret) s' W3 n2 n3
     exact ⟨v,w',k1,false,_,by rw [k2];rfl,.inr ⟨rfl,.ret,s',hs',rfl⟩,k3,k4⟩
    | exit id =>
     obtain ⟨s',hs',n2,n3⟩:=hq2
     obtain ⟨v,w',k1,k2,k3,k4⟩:=fin (some (.exit id)) s' W3 n2 n3
     exact ⟨v,w',k1,false,_,by rw [k2];rfl,.inr ⟨rfl,.exit id,s',hs',rfl⟩,k3,k4⟩
    | goto t=>exact hq2.elim
    | panic ch=>exact hq2.elim
    | outgrown=>exact hq2.elim
   | exit id=>exact hq.elim
   | goto t=>exact hq.elim
   | ret=>exact hq.elim
   | panic ch=>exact hq.elim
   | outgrown=>exact hq.elim
  refine key.mono ?_
  rintro e W2 ⟨v,H',rfl,hor,hR2,hB2⟩
  have fin:∀ (st:LoopState) (pe:Option Code) (s:σ) (hst:st ≠ .busy),Rel (((l,Blk.obj (.loop (rec st pe))) :: cr d :: Hx s)++([]++(ap Hr Tr++F))) W2 ->
    ∃ w4,(Instr.endLoop l).run P W2=.ok pe w4 /\ Rel ((cr d :: (Hx s++ap Hr Tr))++F) w4 /\ Below 0 W1 w4:=by
   intro st pe s hst h4
   have h5:Rel ((l,Blk.obj (.loop (rec st pe))) :: (cr d :: (Hx s++(ap Hr Tr++F)))) W2:=h4
   have hl2:W2.heap[l]?=some (.loop (rec st pe)):=h5.holds _ List.mem_cons_self
   have hrun:=run_endLoop (P:=P) hl2 (by rw [hrec];exact hst)
   refine ⟨W2.putObj l (.loop { rec st pe with state:=.exhausted }),?_,?_,hB2.trans (dG _ _)⟩
   ·rw [hrun,hrec]
   ·have h6:=h5.putObj (F:=[]) (.obj (.loop { rec st pe with state:=.exhausted }))
    have h7:=Rel.drop (X:=[(l,Blk.obj (.loop { rec st pe with state:=.exhausted }))]) (H:=cr d :: (Hx s++(ap Hr Tr++F))) h6
    rw [<- List.append_assoc] at h7
    exact h7
  have hFd:Fm N (coll d :: D) L { a with defers:=[coll d]++a.defers }:=⟨hF.size,by rw [hF.defs];rfl,hF.has⟩
  rcases hor with ⟨s,hs,rfl⟩ | ⟨c,s,hs,rfl⟩
  ·obtain ⟨w4,k1,k2,k3⟩:=fin .ready none s (by simp) hR2
   exact ⟨none,w4,k1,hdone d s hs _ w4 hFd k2 (hB.trans (hB1.trans k3))⟩
  ·obtain ⟨w4,k1,k2,k3⟩:=fin .done (some c) s (by simp) hR2
   exact ⟨some c,w4,k1,hstop d c s hs _ w4 hFd k2 (hB.trans (hB1.trans k3))⟩
theorem Bn {α σ τ:Type} {g:Operand} {ps:Array Tmp} {assign body:Code} {encs:α -> Array Value} {xs:List α} {gf:FuncId} {lb:Array Value} (hi:lM L g=true) (hg:iT L g=.func (.func gf) #[] lb) (eg:∀ args w,(callFunc gf args).run P w=.ok (.enter gf args) w)
  (Ax:σ -> HL) (Tx:σ -> List HL) (I:Nat -> σ -> Prop) (Ix:Code -> σ -> Prop) (La:τ -> FL) (Ha:τ -> HL) (Ia:Nat -> α -> τ -> Prop) (hps:∀ x,(encs x).size=ps.size) (hpN:(ps.toList.all λ p=>decide (p < N))=true)
  (x0:σ) (h0:I 0 x0) {A:HL} {Ts:List HL} (ip ir jp jr:List Nat) (hp:(ip++ir).isPerm (List.range A.length)=true) (hj:(jp++jr).isPerm (List.range Ts.length)=true) (Hr:HL) (Tr:List HL) (hHr:ir.filterMap (A[·]?)=Hr) (hTr:jr.filterMap (Ts[·]?)=Tr) (hA:ip.filterMap (A[·]?)=Ax x0) (hT:jp.filterMap (Ts[·]?)=Tx x0)
  (hit:It P gf lb (ap Hr Tr++F) encs xs)
  (hassign:∀ (l i:Nat) (x:α) (s:σ) (Y:HL) (w1:World),xs[i]?=some x -> I i s -> TR (some l) P N [] (Y++(ap Hr Tr++F)) w1 (pf ps.toList (encs x).toList L) (ap (Ax s) (Tx s)) assign (Exit.then (Kj N [] (Y++(ap Hr Tr++F)) w1 La Ha (Ia i x)) (λ _ _ _=>False)))
  (hbody:∀ (l i:Nat) (x:α) (t:τ) (Y:HL) (w1:World),xs[i]?=some x -> Ia i x t -> TR (some l) P N [] (Y++(ap Hr Tr++F)) w1 (La t) (Ha t) body (RQ (Y++(ap Hr Tr++F)) w1 (λ s=>ap (Ax s) (Tx s)) (I (i+1)) Ix))
  (hdone:∀ (d:Nat) (s:σ),I xs.length s -> EX N (coll d :: D) F w0 L (ap (cr d :: (Ax s++Hr)) (Tx s++Tr)) Q .normal)
  (hstop:∀ (d:Nat) (c:Code) (s:σ),Ix c s -> TR none P N (coll d :: D) F w0 L (ap (cr d :: (Ax s++Hr)) (Tx s++Tr)) c Q) :
  TR none P N D F w0 L (ap A Ts) (.rangeFunc g ps assign body) Q:=by
 have hpm:∀ (d:Nat) (s:σ),(ap (cr d :: (Ax s++Hr)) (Tx s++Tr)).Perm (cr d :: (ap (Ax s) (Tx s)++ap Hr Tr)):=λ d s=>by
  show (cr d :: ((Ax s++Hr)++(Tx s++Tr).flatten)).Perm _
  refine List.Perm.cons _ ?_
  rw [List.flatten_append]
  show ((Ax s++Hr)++((Tx s).flatten++Tr.flatten)).Perm ((Ax s++(Tx s).flatten)++(Hr++Tr.flatten))
  rw [List.append_assoc,List.append_assoc]
  refine List.Perm.append_left _ ?_
  rw [<- List.append_assoc,<- List.append_assoc]
  exact List.Perm.append_right _ List.perm_append_comm
 exact TR.range hi hg eg (λ s=>ap (Ax s) (Tx s)) I Ix La Ha Ia hps hpN x0 h0 ip ir jp jr hp hj Hr Tr hHr hTr (by rw [hA,hT]) hit hassign hbody
  (λ d s hs a w h1 h2 h3=>hdone d s hs a w h1 (h2.perm ((hpm d s).append_right F)) h3) (λ d c s hs a w h1 h2 h3=>hstop d c s hs a w h1 (h2.perm ((hpm d s).append_right F)) h3)
theorem mT {fn:Func} {tmps:Array Value} {R:Ending -> World -> Prop}:∀ (ds:List Nat) (H:HL) (w:World),Rel (ds.map cr++H) w -> Below 0 w0 w -> (∀ w',Rel H w' -> Below 0 w0 w' -> LeavesIn (Wr none) 0 P fn tmps R [] .returning w') ->
  LeavesInM (Wr none) 0 P fn tmps R (ds.map coll) .returning w
 | [],H,w,h,hB,hk=>hk w h hB
 | d :: ds,H,w,h,hB,hk=>by
  have hd:w.heap[d]?=some (.deferred (some [])):=h.holds (cr d) (by simp)
  have h1:Rel ((d,Blk.obj (.deferred (some []))) :: (ds.map cr++H)) w:=h
  have h2:=(h1.putObj (F:=[]) (.obj (.deferred none)))
  exact ⟨by simp,.inl ⟨d,_,rfl,run_takeDeferred hd,mT ds H _ (Rel.drop (X:=[(d,Blk.obj (.deferred none))]) h2) (hB.trans (dG _ _)) hk⟩⟩
theorem uM {f:FuncId} {fn:Func} {c:Code} {args:Array Value} {R:Value -> HL -> Prop} {H:HL} (hf:P.funcs[f]?=some fn) (hb:fn.body=some c) (hn:fn.ntmps=N) (ha:decide (args.size <= N)=true)
  (L:FL) (hL:pS 0 args.toList=L) (h:∀ w0,TR none P N [] F w0 L H c (bodyPostM (Wr none) 0 P fn (zB F w0 R))):Sp P f args H F R:=by
 intro w hR
 refine (callsIn_wide (n:=0)).1 (callsIn_of_wp_marks (F:=Wr none) hf hb trivial ?_)
 have ha':args.size <= N:=of_decide_eq_true ha
 refine h w _ w ⟨?_,rfl,?_⟩ hR (Below.refl _ _)
 ·simp [hn];omega
 ·subst hL
  intro t v ht
  obtain ⟨_,h2⟩:=jT 0 _ t v ht
  have h3:args[t]?=some v:=by simpa using h2
  have hlt:t < args.size:=(Array.getElem?_eq_some_iff.1 h3).1
  simp only
  rw [Array.getElem?_append_left hlt]
  exact h3
theorem retM {fn:Func} {R:Value -> HL -> Prop} {rs:List ResultVar} (hrs:fn.results=⟨rs⟩) (ds:List Nat) (hD:D=ds.map coll) (dx ax:List Nat) (Ro:HL) (hints:List Hint) (v:Value) (E:List Nat) (Ob:List Prop)
  {A A1:HL} {Ts:List HL} (hdp:(dx++ax).isPerm (List.range A.length)=true) (hdx:dx.filterMap (A[·]?)=ds.map cr) (hax:ax.filterMap (A[·]?)=A1)
  (h:∀ n0,xH P n0 L rs (ap A1 Ts) Ro hints=some (v,E,E,Ob)) (hRo:∀ y ∈ Ro,y ∈ F) (hob:AllP Ob) (ip ir jp jr:List Nat) (H':HL) (hp:(ip++ir).isPerm (List.range A1.length)=true) (hj:(jp++jr).isPerm (List.range Ts.length)=true) (hH:ap (ip.filterMap (A1[·]?)) (jp.filterMap (Ts[·]?))=H') (hv:R v H')
  (a:Act) (w:World) (hF:Fm N D L a) (hR:Rel (ap A Ts++F) w) (hB:Below 0 w0 w):LeavesInM (Wr none) 0 P fn a.tmps (zB F w0 R) a.defers .returning w:=by
 rw [hF.defs,hD]
 have h1:=fq A dx ax hdp
 rw [hdx,hax] at h1
 have hR1:Rel (ds.map cr++(ap A1 Ts++F)) w:=by
  refine hR.perm ?_
  rw [<- List.append_assoc,<- List.append_assoc]
  exact List.Perm.append_right F (List.Perm.append_right _ h1)
 refine mT ds _ w hR1 hB ?_
 intro w' hR2 hB2
 have h':=h w'.heap.size
 unfold xH at h'
 split at h'
 case h_2=>cases h'
 rename_i vs s hs
 split at h'
 case h_2=>cases h'
 simp only [Option.some.injEq,Prod.mk.injEq] at h'
 obtain ⟨e1,e2,e3,e4⟩:=h'
 have hrun:=ju (P:=P) hF hR2 rs _ _ _ hs rfl rfl hRo (λ e=>by cases e) (fF e2 e3) (by rw [e4];exact AllP.mem hob)
 subst e1
 exact ⟨_,iY hrs hrun,_,H',rfl,hv,hR2.takeT ip ir jp jr hp hj hH,hB2⟩
end
theorem DG {r:Option Nat} {P:Program} {n0 N:Nat} {D:List Deferred} {F:HL} {ops:Array Oper} {Q:Exit -> Act -> World -> Prop} {rest:List Oper} {o:Oper} {L L':FL} {s s':SS} {a:Act} {w:World}
  (h:uG P n0 N ops.toList [o] L s=some (L',s')) (heq:∀ p ∈ s'.eq,p.1=p.2) (hob:∀ p ∈ s'.ob,p) (hF:Fm N D L a) (hR:Rel (s.h++F) w) (hr:∀ y ∈ s.r,y ∈ F) (hn:s.wr=true -> n0+s.cnt=w.heap.size)
  (hk:∀ a' w',Fm N D L' a' -> Rel (s'.h++F) w' -> Below 0 w w' -> s'.wr=s.wr -> (s'.wr=true -> n0+s'.cnt=w'.heap.size) -> wpListIn (Wr r) 0 P ops Q rest a' w'):wpListIn (Wr r) 0 P ops Q (o :: rest) a w:=by
 rw [wpListIn]
 rw [uG] at h
 split at h
 ·cases h
 ·rename_i s1 hw
  split at h
  case h_2=>cases h
  rename_i L1 hp
  rw [uG] at h;cases h
  obtain ⟨a1,a2,a3,a4⟩:=bI hw
  obtain ⟨c1,c2,c3⟩:=ci hw hF hob
  rw [if_neg (by rw [c1];simp)]
  refine ⟨λ _ _=>trivial,?_⟩
  exact hk _ w (hF.put hp) (by rw [c2];exact hR) (Below.refl _ _) a4 (λ e=>by rw [c3];exact hn (a4.symm.trans e))
 ·rename_i s1 hw
  split at h
  ·cases h
  rename_i hok
  obtain ⟨a1,a2,a3,a4⟩:=bI hw
  split at h
  ·rename_i v s2 he
   split at h
   case h_2=>cases h
   rename_i L1 hp
   rw [uG] at h;cases h
   obtain ⟨d1,d2,d3,d4⟩:=dk he
   obtain ⟨c1,c2,c3⟩:=ci hw hF (λ p hp=>hob p (d2 p hp))
   obtain ⟨w1,e1,e2,e3,e4,-⟩:=gi (w:=w) he heq hob (by rw [c2];exact hR) (by rw [a3];exact hr) (λ e=>by rw [c3];exact hn (a4.symm.trans e))
   rw [if_pos c1]
   refine ⟨λ _ _=>trivial,?_⟩
   rw [hF.sem hok,e1,Oper.uponIn_value]
   exact hk _ w1 (hF.put hp) e2 e3 (d4.trans a4) (λ e=>e4 (d4.symm.trans e))
  ·rename_i s2 he
   split at h
   case h_2=>cases h
   rename_i L1 hp
   rw [uG] at h;cases h
   obtain ⟨d1,d2,d3,d4⟩:=dk he
   obtain ⟨c1,c2,c3⟩:=ci hw hF (λ p hp=>hob p (d2 p hp))
   obtain ⟨w1,e1,e2,e3,e4,-⟩:=gi (w:=w) he heq hob (by rw [c2];exact hR) (by rw [a3];exact hr) (λ e=>by rw [c3];exact hn (a4.symm.trans e))
   rw [if_pos c1]
   refine ⟨λ _ _=>trivial,?_⟩
   rw [hF.sem hok,e1,Oper.uponIn_skip]
   exact hk _ w1 (hF.put hp) e2 e3 (d4.trans a4) (λ e=>e4 (d4.symm.trans e))
  ·cases h
inductive KI where
 | thn (y:Code)
 | blk (id:Nat)
 | scp
 | met (K:Act -> World -> Prop)
 | rnd (c:Code) (n:Nat)
inductive Fo where
 | code (c:Code)
 | ops (ops:Array Oper) (i:Nat)
 | ex (e:Exit)
 | drw (ops:Array Oper) (listed:List Bool)
structure Cfg where
 c:Fo
 k:List KI
 L:FL
 A:HL
 Ts:List HL
def tG (r:Option Nat) (P:Program) (c:Code) (Q:Exit -> Act -> World -> Prop):Nat -> Act -> World -> Prop
 | 0,_,_=>False
 | n+1,a,w=>c.wpIn (Wr r) 0 P (Exit.then (tG r P c Q n) Q) a w
def kG (r:Option Nat) (P:Program):List KI -> (Exit -> Act -> World -> Prop) -> Exit -> Act -> World -> Prop
 | [],Q=>Q
 | .thn y :: k,Q=>Exit.then (y.wpIn (Wr r) 0 P (kG r P k Q)) (kG r P k Q)
 | .blk id :: k,Q=>Exit.inBlock id (kG r P k Q)
 | .scp :: k,Q=>Exit.noGoto (kG r P k Q)
 | .met K :: k,Q=>Exit.then K (kG r P k Q)
 | .rnd c n :: k,Q=>Exit.then (tG r P c (kG r P k Q) n) (kG r P k Q)
def Wf (r:Option Nat) (P:Program) (Q:Exit -> Act -> World -> Prop) (c:Fo) (k:List KI) (a:Act) (w:World):Prop:=match c with
 | .code c=>c.wpIn (Wr r) 0 P (kG r P k Q) a w
 | .ops ops i=>wpListIn (Wr r) 0 P ops (kG r P k Q) (ops.toList.drop i) a w
 | .ex e=>kG r P k Q e a w
 | .drw _ _=>False
def stp (P:Program) (n0 N:Nat) (c:Fo) (k:List KI) (L:FL) (s:SS):Option (Fo × List KI × FL × SS):=match c with
 | .code (.seq x y)=>some (.code x,.thn y :: k,L,s)
 | .code (.region _ ops false)=>some (.ops ops 0,k,L,s)
 | .code (.block id c)=>some (.code c,.blk id :: k,L,s)
 | .code .skip=>some (.ex .normal,k,L,s)
 | .code (.exit id)=>some (.ex (.exit id),k,L,s)
 | .code (.scope c)=>some (.code c,.scp :: k,L,s)
 | .code (.label _)=>some (.ex .normal,k,L,s)
 | .code (.cond c x y)=>match lM L c,iT L c with
  | true,.bool b=>match s.hints with
   | .gd v :: hs=>some (.code (if v then x else y),k,L,{ s with hints:=hs,ob:=(b=v) :: s.ob })
   | _=>some (.code (if b then x else y),k,L,s)
  | _,_=>none
 | .ops ops i=>match ops.toList[i]? with
  | none=>some (.ex .normal,k,L,s)
  | some o=>match uG P n0 N ops.toList [o] L s with
   | some (L,s)=>some (.ops ops (i+1),k,L,s)
   | none=>none
 | .ex .normal=>match k with
  | .thn y :: k=>some (.code y,k,L,s)
  | .blk _ :: k=>some (.ex .normal,k,L,s)
  | .scp :: k=>some (.ex .normal,k,L,s)
  | .rnd c (n+1) :: k=>some (.code c,.rnd c n :: k,L,s)
  | _=>none
 | .ex (.exit id)=>match k with
  | .thn _ :: k=>some (.ex (.exit id),k,L,s)
  | .blk id' :: k=>some (.ex (if id=id' then .normal else .exit id),k,L,s)
  | .scp :: k=>some (.ex (.exit id),k,L,s)
  | .met _ :: k=>some (.ex (.exit id),k,L,s)
  | .rnd _ _ :: k=>some (.ex (.exit id),k,L,s)
  | []=>none
 | _=>none
theorem xN {P:Program} {n0 N:Nat} {ops:List Oper} {o:Oper} {L L':FL} {s s':SS} (h:uG P n0 N ops [o] L s=some (L',s')):s'.wr=s.wr:=by
 rw [uG] at h
 split at h
 ·cases h
 ·rename_i s1 hw
  split at h
  case h_2=>cases h
  rw [uG] at h;cases h
  exact (bI hw).2.2.2
 ·rename_i s1 hw
  split at h
  ·cases h
  split at h
  ·rename_i v s2 he
   split at h
   case h_2=>cases h
   rw [uG] at h;cases h
   exact (dk he).2.2.2.trans (bI hw).2.2.2
  ·rename_i s2 he
   split at h
   case h_2=>cases h
   rw [uG] at h;cases h
   exact (dk he).2.2.2.trans (bI hw).2.2.2
  ·cases h
theorem r9 {P:Program} {n0 N:Nat} {c c':Fo} {k k':List KI} {L L':FL} {s s':SS} (h:stp P n0 N c k L s=some (c',k',L',s')):(∀ p ∈ s.eq,p ∈ s'.eq) /\ (∀ p ∈ s.ob,p ∈ s'.ob) /\ s'.r=s.r /\ s'.wr=s.wr:=by
 have triv:(∀ p ∈ s.eq,p ∈ s.eq) /\ (∀ p ∈ s.ob,p ∈ s.ob) /\ s.r=s.r /\ s.wr=s.wr:=⟨λ _ h=>h,λ _ h=>h,rfl,rfl⟩
 unfold stp at h
 split at h
 case h_8 =>
  split at h
  ·split at h
   ·cases h;exact ⟨λ _ h=>h,λ _ h=>List.mem_cons_of_mem _ h,rfl,rfl⟩
   ·cases h;exact triv
  ·cases h
 case h_9 =>
  split at h
  ·cases h;exact triv
  ·split at h
   ·rename_i hs
    cases h
    obtain ⟨b1,b2,b3⟩:=kZ _ _ _ _ _ hs
    exact ⟨b1,b2,b3,xN hs⟩
   ·cases h
 case h_10=>split at h <;> first | (cases h;done) | (cases h;exact triv)
 case h_11=>split at h <;> first | (cases h;done) | (cases h;exact triv)
 all_goals first | (cases h;done) | (cases h;exact triv)
theorem Bo {r:Option Nat} {P:Program} {n0 N:Nat} {D:List Deferred} {F:HL} {Q:Exit -> Act -> World -> Prop} {c c':Fo} {k k':List KI} {L L':FL} {s s':SS} {a:Act} {w:World}
  (h:stp P n0 N c k L s=some (c',k',L',s')) (heq:∀ p ∈ s'.eq,p.1=p.2) (hob:∀ p ∈ s'.ob,p) (hF:Fm N D L a) (hR:Rel (s.h++F) w) (hr:∀ y ∈ s.r,y ∈ F) (hn:s.wr=true -> n0+s.cnt=w.heap.size)
  (hk:∀ a' w',Fm N D L' a' -> Rel (s'.h++F) w' -> Below 0 w w' -> (s'.wr=true -> n0+s'.cnt=w'.heap.size) -> Wf r P Q c' k' a' w'):Wf r P Q c k a w:=by
 have B:=Below.refl 0 w
 unfold stp at h
 split at h
 ·cases h;exact wpIn_seq (hk a w hF hR B hn)
 ·cases h;exact wpIn_region_list (by simpa [Wf] using hk a w hF hR B hn)
 ·cases h;exact wpIn_block (hk a w hF hR B hn)
 ·cases h;exact wpIn_skip (hk a w hF hR B hn)
 ·cases h;exact wpIn_exit (hk a w hF hR B hn)
 ·cases h;exact gJ (hk a w hF hR B hn)
 ·cases h;exact wpIn_label (hk a w hF hR B hn)
 ·split at h
  ·rename_i b hi hc
   have e:=hF.eval hi
   rw [hc] at e
   split at h
   ·rename_i v hs hh
    cases h
    have hb:b=v:=hob _ List.mem_cons_self
    subst hb
    cases b
    ·exact wpIn_cond_false e (hk a w hF hR B hn)
    ·exact wpIn_cond_true e (hk a w hF hR B hn)
   ·cases h
    cases b
    ·exact wpIn_cond_false e (hk a w hF hR B hn)
    ·exact wpIn_cond_true e (hk a w hF hR B hn)
  ·cases h
 ·split at h
  ·rename_i ho
   cases h
   show wpListIn _ _ _ _ _ _ _ _
   rw [List.drop_eq_nil_of_le (List.getElem?_eq_none_iff.1 ho)]
   exact hk a w hF hR B hn
  ·rename_i o ho
   split at h
   ·rename_i hs
    cases h
    show wpListIn _ _ _ _ _ _ _ _
    have hlt:=(List.getElem?_eq_some_iff.1 ho).1
    rw [List.drop_eq_getElem_cons hlt,(List.getElem?_eq_some_iff.1 ho).2]
    exact DG hs heq hob hF hR hr hn (λ a' w' h1 h2 h3 _ h4=>hk a' w' h1 h2 h3 h4)
   ·cases h
 ·split at h
  ·cases h;exact hk a w hF hR B hn
  ·cases h;exact hk a w hF hR B hn
  ·cases h;exact hk a w hF hR B hn
  ·cases h;exact hk a w hF hR B hn
  ·cases h
 ·split at h
  ·cases h;exact hk a w hF hR B hn
  ·cases h
   have h2:=hk a w hF hR B hn
   unfold Wf at h2
   show (if _=_ then _ else _)
   split
   ·rename_i e;rw [if_pos e] at h2;exact h2
   ·rename_i e;rw [if_neg e] at h2;exact h2
  ·cases h;exact hk a w hF hR B hn
  ·cases h;exact hk a w hF hR B hn
  ·cases h;exact hk a w hF hR B hn
  ·cases h
 ·cases h
def JE (P:Program) (n0 N:Nat):Nat -> Fo -> List KI -> FL -> SS -> Option (Fo × List KI × FL × SS)
 | 0,c,k,L,s=>some (c,k,L,s)
 | n+1,c,k,L,s=>match stp P n0 N c k L s with
  | some (c,k,L,s)=>JE P n0 N n c k L s
  | none=>none
theorem sa {P:Program} {n0 N:Nat}:∀ (n:Nat) {c c':Fo} {k k':List KI} {L L':FL} {s s':SS},JE P n0 N n c k L s=some (c',k',L',s') -> (∀ p ∈ s.eq,p ∈ s'.eq) /\ (∀ p ∈ s.ob,p ∈ s'.ob) /\ s'.r=s.r /\ s'.wr=s.wr
 | 0,_,_,_,_,_,_,s,s',h=>by rw [JE] at h;cases h;exact ⟨λ _ h=>h,λ _ h=>h,rfl,rfl⟩
 | n+1,_,_,_,_,_,_,s,s',h=>by
  rw [JE] at h
  split at h
  ·rename_i hs
   obtain ⟨a1,a2,a3,a4⟩:=r9 hs
   obtain ⟨b1,b2,b3,b4⟩:=sa n h
   exact ⟨λ p hp=>b1 p (a1 p hp),λ p hp=>b2 p (a2 p hp),b3.trans a3,b4.trans a4⟩
  ·cases h
theorem sc {r:Option Nat} {P:Program} {n0 N:Nat} {D:List Deferred} {F:HL} {Q:Exit -> Act -> World -> Prop}:∀ (n:Nat) {c c':Fo} {k k':List KI} {L L':FL} {s s':SS} {a:Act} {w:World},JE P n0 N n c k L s=some (c',k',L',s') -> (∀ p ∈ s'.eq,p.1=p.2) -> (∀ p ∈ s'.ob,p) -> Fm N D L a -> Rel (s.h++F) w -> (∀ y ∈ s.r,y ∈ F) -> (s.wr=true -> n0+s.cnt=w.heap.size) ->
  (∀ a' w',Fm N D L' a' -> Rel (s'.h++F) w' -> Below 0 w w' -> Wf r P Q c' k' a' w') -> Wf r P Q c k a w
 | 0,_,_,_,_,_,_,s,s',a,w,h,heq,hob,hF,hR,hr,hn,hk=>by rw [JE] at h;cases h;exact hk a w hF hR (Below.refl _ _)
 | n+1,_,_,_,_,_,_,s,s',a,w,h,heq,hob,hF,hR,hr,hn,hk=>by
  rw [JE] at h
  split at h
  ·rename_i hs
   obtain ⟨a1,a2,a3,a4⟩:=r9 hs
   obtain ⟨b1,b2,b3,b4⟩:=sa n h
   exact Bo hs (λ p hp=>heq p (b1 p hp)) (λ p hp=>hob p (b2 p hp)) hF hR hr hn (λ a' w' h1 h2 h3 h4=>sc n h heq hob h1 h2 (by rw [a3];exact hr) h4 (λ a2 w2 k1 k2 k3=>hk a2 w2 k1 k2 (h3.trans k3)))
  ·cases h
structure RN (r:Option Nat) (P:Program) (N:Nat) (D:List Deferred) (F:HL) (w0:World) (R:HL) (s:Cfg) (Q:Exit -> Act -> World -> Prop):Prop where
 h:(∀ y ∈ R,y ∈ F) -> ∀ a w,Fm N D s.L a -> Rel (ap s.A s.Ts++F) w -> Below 0 w0 w -> Wf r P Q s.c s.k a w
def uN (P:Program) (n0 N n:Nat) (R:HL) (hints:List Hint) (s:Cfg):Option (Fo × List KI × FL × SS):=JE P n0 N n s.c s.k s.L ⟨s.A,R,hints,0,[],[],true⟩
def HE (P:Program) (n0 N n:Nat) (R:HL) (hints:List Hint) (s:Cfg):Cfg:=match uN P n0 N n R hints s with
 | some (c,k,L,ss)=>⟨c,k,L,ss.h,s.Ts⟩
 | none=>s
def HF (x:Option (Fo × List KI × FL × SS)):List Nat:=match x with
 | some (_,_,_,ss)=>ss.eq.map (·.2)
 | none=>[]
def HG (x:Option (Fo × List KI × FL × SS)):Option (List Nat × List Prop):=match x with
 | some (_,_,_,ss)=>match ss.hints with
  | []=>some (ss.eq.map (·.1),ss.ob)
  | _=>none
 | none=>none
theorem jv (A:HL) (Ts:List HL) (F:HL):ap A Ts++F=A++(Ts.flatten++F):=List.append_assoc _ _ _
theorem aB {A:HL} {Ts:List HL} {F:HL} {x:Nat × Blk} (i:Nat) (h:A[i]?=some x:=by kernel_rfl):x ∈ ap A Ts++F:=List.mem_append_left _ (List.mem_append_left _ (List.mem_of_getElem? h))
theorem jf {X A:HL} {Ts:List HL} {F:HL} {x:Nat × Blk} (i:Nat) (h:A[i]?=some x:=by kernel_rfl):x ∈ X++(ap A Ts++F):=List.mem_append_right _ (aB i h)
theorem av {A:HL} {Ts:List HL} {F T:HL} (j:Nat) (h:Ts[j]?=some T:=by kernel_rfl):∀ x ∈ T,x ∈ ap A Ts++F:=λ x hx =>
 List.mem_append_left _ (List.mem_append_right _ (List.mem_flatten.2 ⟨T,List.mem_of_getElem? h,hx⟩))
theorem aU {X A:HL} {Ts:List HL} {F T:HL} (j:Nat) (h:Ts[j]?=some T:=by kernel_rfl):∀ x ∈ T,x ∈ X++(ap A Ts++F):=λ x hx=>List.mem_append_right _ (av j h x hx)
theorem aw {A:HL} {Ts:List HL} {F:HL} {x:Nat × Blk} (h:x ∈ F):x ∈ ap A Ts++F:=List.mem_append_right _ h
theorem nJ {X A:HL} {Ts:List HL} {F:HL} {x:Nat × Blk} (h:x ∈ F):x ∈ X++(ap A Ts++F):=List.mem_append_right _ (List.mem_append_right _ h)
def ow (p n:Nat):List Hint:=List.replicate n (.own p)
abbrev bg (n:Int):Prop:=-9223372036854775808 <= n /\ n <= 9223372036854775807
section
variable {r:Option Nat} {P:Program} {N:Nat} {D:List Deferred} {F:HL} {w0:World} {R:HL} {s:Cfg} {Q:Exit -> Act -> World -> Prop}
theorem pX (n:Nat) (hints:List Hint) (Ob:Nat -> List Prop) (hob:∀ n0,AllP (Ob n0)) (hk:∀ n0,RN r P N D F w0 R (HE P n0 N n R hints s) Q)
  (h:∀ n0,HG (uN P n0 N n R hints s)=some (HF (uN P n0 N n R hints s),Ob n0):=by intro n0;kernel_rfl):RN r P N D F w0 R s Q:=by
 refine ⟨λ hR a w hF hRel hB=>?_⟩
 have h':=h w.heap.size
 have hk':=(hk w.heap.size).h hR
 unfold HE at hk'
 generalize hx:uN P w.heap.size N n R hints s=x at h' hk'
 unfold HG at h'
 split at h'
 case h_2=>cases h'
 rename_i c k L ss
 split at h'
 case h_2=>cases h'
 simp only [HF,Option.some.injEq,Prod.mk.injEq] at h'
 obtain ⟨e1,e2⟩:=h'
 rw [jv] at hRel
 refine sc n hx (fF e1 rfl) (by rw [e2];exact AllP.mem (hob _)) hF hRel (λ y hy=>List.mem_append_right _ (hR y hy)) (λ _=>rfl) ?_
 intro a' w' h1 h2 h3
 exact hk' a' w' h1 (by rw [jv];exact h2) (hB.trans h3)
theorem ae (n:Nat) (hints:List Hint) (hk:∀ n0,RN r P N D F w0 R (HE P n0 N n R hints s) Q)
 (h:∀ n0,HG (uN P n0 N n R hints s)=some (HF (uN P n0 N n R hints s),[]):=by intro n0;kernel_rfl):RN r P N D F w0 R s Q:=pX n hints (λ _=>[]) (λ _=>trivial) hk h
theorem ai (n:Nat) (hints:List Hint) (Ob:List Prop) (hk:∀ n0,RN r P N D F w0 R (HE P n0 N n R hints s) Q) (hob:AllP Ob:=by simp only [AllP,bg,and_true,true_and] <;> (repeat' with_reducible refine And.intro ?_ ?_) <;> omega)
 (h:∀ n0,HG (uN P n0 N n R hints s)=some (HF (uN P n0 N n R hints s),Ob):=by intro n0;kernel_rfl):RN r P N D F w0 R s Q:=pX n hints (λ _=>Ob) (λ _=>hob) hk h
def pg (t:Nat) (b:Bool) (s:Cfg):Cfg:=match s with
 | ⟨c,k,L,A,Ts⟩=>⟨c,k,(t,.bool b) :: L,A,Ts⟩
theorem Fm.fix {a:Act} {L:FL} {t:Nat} {v:Value} (hF:Fm N D L a) (h:L.lookup t=some v):Fm N D ((t,v) :: L) a:=⟨hF.size,hF.defs,λ t' v' h'=>by
 rw [List.lookup_cons] at h'
 by_cases e:t'=t
 ·subst e;simp at h';subst h';exact hF.has _ _ h
 ·have:(t' == t)=false:=by simpa using e
  rw [this] at h';exact hF.has _ _ h'⟩
theorem RN.fx {b v:Bool} (t:Nat) (hb:b=v) (hk:RN r P N D F w0 R (pg t v s) Q) (h:s.L.lookup t=some (.bool b):=by kernel_rfl):RN r P N D F w0 R s Q:=by
 subst hb
 exact ⟨λ hR a w h1 h2 h3=>hk.h hR a w (h1.fix h) h2 h3⟩
theorem RN.em (p:Prop) [Decidable p] (t:Nat) (h1:p -> RN r P N D F w0 R (pg t true s) Q) (h2:¬ p -> RN r P N D F w0 R (pg t false s) Q) (h:s.L.lookup t=some (.bool (decide p)):=by kernel_rfl):RN r P N D F w0 R s Q:=by
 by_cases hp:p
 ·exact RN.fx t (decide_eq_true hp) (h1 hp) h
 ·exact RN.fx t (decide_eq_false hp) (h2 hp) h
theorem RN.en (p:Prop) [Decidable p] (t:Nat) (h1:p -> RN r P N D F w0 R (pg t false s) Q) (h2:¬ p -> RN r P N D F w0 R (pg t true s) Q) (h:s.L.lookup t=some (.bool (!decide p)):=by kernel_rfl):RN r P N D F w0 R s Q:=by
 by_cases hp:p
 ·exact RN.fx t (by simp [hp]) (h1 hp) h
 ·exact RN.fx t (by simp [hp]) (h2 hp) h
theorem i0 (b:Bool) (t:Nat) (h1:b=true -> RN r P N D F w0 R (pg t true s) Q) (h2:¬ b=true -> RN r P N D F w0 R (pg t false s) Q) (h:s.L.lookup t=some (.bool b):=by kernel_rfl):RN r P N D F w0 R s Q:=by
 by_cases hp:b=true
 ·exact RN.fx t hp (h1 hp) h
 ·exact RN.fx t (Bool.eq_false_iff.2 hp) (h2 hp) h
theorem uO (b:Bool) (t:Nat) (h1:b=true -> RN r P N D F w0 R (pg t false s) Q) (h2:¬ b=true -> RN r P N D F w0 R (pg t true s) Q) (h:s.L.lookup t=some (.bool (!b)):=by kernel_rfl):RN r P N D F w0 R s Q:=by
 by_cases hp:b=true
 ·exact RN.fx t (by simp [hp]) (h1 hp) h
 ·exact RN.fx t (by simp [hp]) (h2 hp) h
theorem nt {b:Bool} (h:b=true):(!b)=false:=by rw [h];rfl
theorem nf {b:Bool} (h:b=false):(!b)=true:=by rw [h];rfl
theorem Fm.sub {a:Act} {L:FL}:∀ {Lx:FL},Fm N D L a -> Lx.map (λ p=>L.lookup p.1)=Lx.map (λ p=>some p.2) -> Fm N D Lx a
 | [],hF,_=>⟨hF.size,hF.defs,λ t v h=>by cases h⟩
 | p :: Lx,hF,h=>by
  simp only [List.map_cons,List.cons.injEq] at h
  have ih:=Fm.sub hF h.2
  refine ⟨hF.size,hF.defs,λ t v h'=>?_⟩
  rw [List.lookup_cons] at h'
  by_cases e:t=p.1
  ·subst e;simp at h';subst h';exact hF.has _ _ h.1
  ·have:(t == p.1)=false:=by simpa using e
   rw [this] at h';exact ih.has _ _ h'
theorem RN.ro {R':HL} (h:(∀ y ∈ R,y ∈ F) -> ∀ y ∈ R',y ∈ F) (hk:RN r P N D F w0 R' s Q):RN r P N D F w0 R s Q:=⟨λ hR=>hk.h (h hR)⟩
end
theorem dY {N:Nat} {dst:Option Tmp} {L:FL} (h:(eS N dst undef L).isSome=true) (v:Value):∃ L',eS N dst v L=some L':=by
 cases dst with
 | none=>exact ⟨L,rfl⟩
 | some t =>
  unfold eS at h ⊢
  simp only at h ⊢
  split at h
  ·exact ⟨_,rfl⟩
  ·cases h
def zE (P:Program) (n0 N:Nat) (R:HL) (s:Cfg):Option (Option Tmp × FuncId × Array Value × HL × List Nat × List Nat × List Prop):=match s.c with
 | .ops ops i=>mR P n0 N ops.toList i s.L s.A R []
 | _=>none
def kh (N:Nat) (s:Cfg) (x:Option (Option Tmp × FuncId × Array Value × HL × List Nat × List Nat × List Prop)):Option (FuncId × Array Value × List Prop × List Nat × HL):=match x with
 | some (dst,f,args,H,E,_,Ob)=>match (eS N dst undef s.L).isSome with
  | true=>some (f,args,Ob,E,H)
  | false=>none
 | none=>none
def fl (N:Nat) (v:Value) (s:Cfg):Cfg:=match s with
 | ⟨.ops ops i,k,L,A,Ts⟩=>match ops.toList[i]? with
  | some o=>match eS N o.dst v L with
   | some L'=>⟨.ops ops (i+1),k,L',A,Ts⟩
   | none=>⟨.ops ops i,k,L,A,Ts⟩
  | none=>⟨.ops ops i,k,L,A,Ts⟩
 | s=>s
theorem DH {α:Type} (l:List α):(List.range l.length).filterMap (l[·]?)=l:=by
 induction l with
 | nil=>rfl
 | cons x l ih =>
  rw [List.length_cons,List.range_succ_eq_map,List.filterMap_cons]
  simp only [List.getElem?_cons_zero,List.filterMap_map]
  congr 1
def oth (ip:List Nat) (n:Nat):List Nat:=(List.range n).filter λ i=>!(ip.contains i)
def uP (A:HL -> HL) (Ts:List HL -> List HL) (s:Cfg):Cfg:=match s with
 | ⟨c,k,L,A',Ts'⟩=>⟨c,k,L,A A',Ts Ts'⟩
section
variable {r:Option Nat} {P:Program} {N:Nat} {D:List Deferred} {F:HL} {w0:World} {R:HL} {s:Cfg} {Q:Exit -> Act -> World -> Prop}
theorem oL {f:FuncId} {args:Array Value} {Hp Hr:HL} {Rv:Value -> HL -> Prop}
  (h:∀ n0,kh N s (zE P n0 N R s)=some (f,args,[],[],s.A)) (hp:(Hp++Hr).Perm (ap s.A s.Ts)) (hc:(∀ y ∈ R,y ∈ F) -> Sp P f args Hp (Hr++F) Rv)
  (hk:(∀ y ∈ R,y ∈ F) -> ∀ v H',Rv v H' -> ∀ a w,Fm N D (fl N v s).L a -> Rel ((H'++Hr)++F) w -> Below 0 w0 w -> Wf r P Q (fl N v s).c (fl N v s).k a w):RN r P N D F w0 R s Q:=by
 refine ⟨λ hR a w hF hRel hB=>?_⟩
 have h1:=h w.heap.size
 obtain ⟨c,k,L,A,Ts⟩:=s
 unfold zE at h1
 simp only at h1 hF hRel hp
 cases c with
 | code c=>simp [kh] at h1
 | ex e=>simp [kh] at h1
 | drw _ _=>simp [kh] at h1
 | ops ops i =>
  simp only at h1
  generalize hx:mR P w.heap.size N ops.toList i L A R []=x at h1
  unfold kh at h1
  split at h1
  case h_2=>cases h1
  rename_i dst f' args' H1 E E' Ob'
  split at h1
  case h_2=>cases h1
  rename_i hput
  simp only [Option.some.injEq,Prod.mk.injEq] at h1
  obtain ⟨e1,e2,e3,e4,e5⟩:=h1
  subst e1;subst e2;subst e3;subst e4;subst e5
  obtain ⟨o,s1,s',ho,hw,hok,hev,hd,hh,g1,g2,g3⟩:=ij hx
  have hdrop:ops.toList.drop i=o :: ops.toList.drop (i+1):=by
   have hlt:i < ops.toList.length:=(List.getElem?_eq_some_iff.1 ho).1
   rw [List.drop_eq_getElem_cons hlt,(List.getElem?_eq_some_iff.1 ho).2]
  show wpListIn _ _ _ _ _ _ _ _
  rw [hdrop,wpListIn]
  obtain ⟨d1,d2,d3,d4⟩:=dk hev
  obtain ⟨a1,a2,a3,a4⟩:=bI hw
  have hobs:∀ p ∈ s'.ob,p:=by rw [g3];intro p hp;cases hp
  have heqs:∀ p ∈ s'.eq,p.1=p.2:=by
   have:s'.eq=[]:=by simpa using g1
   rw [this];intro p hp;cases hp
  obtain ⟨c1,c2,c3⟩:=ci hw hF (λ p hp=>hobs p (d2 p hp))
  rw [jv] at hRel
  obtain ⟨w1,r1,r2,r3,r4,-⟩:=gi (w:=w) (F:=Ts.flatten++F) hev heqs hobs (by rw [c2];exact hRel) (by rw [a3];exact λ y hy=>List.mem_append_right _ (hR y hy)) (λ _=>by rw [c3];rfl)
  rw [if_pos c1]
  refine ⟨λ _ _=>trivial,?_⟩
  rw [hF.sem hok,r1,Oper.uponIn_enter]
  refine ⟨λ h=>(by cases h),?_⟩
  rw [hh,<- jv] at r2
  have r2':Rel (Hp++(Hr++F)) w1:=by rw [<- List.append_assoc];exact r2.perm (hp.append_right F)
  refine js ((hc hR w1 r2').mono ?_)
  rintro e w2 ⟨v,H',rfl,hv,hR2,hB2⟩
  have hh2:=hk hR v H' hv
  obtain ⟨L',hl⟩:=dY hput v
  have hpc:fl N v ⟨.ops ops i,k,L,H1,Ts⟩=⟨.ops ops (i+1),k,L',H1,Ts⟩:=by
   unfold fl
   simp only [ho,hd,hl]
  rw [hpc] at hh2
  rw [hd]
  exact hh2 _ w2 (hF.put hl) (by rw [List.append_assoc];exact hR2) (hB.trans (r3.trans hB2))
theorem pA {N:Nat} {v:Value} {s:Cfg}:(fl N v s).A=s.A /\ (fl N v s).Ts=s.Ts:=by
 unfold fl
 split
 ·split
  ·split <;> exact ⟨rfl,rfl⟩
  ·exact ⟨rfl,rfl⟩
 ·exact ⟨rfl,rfl⟩
theorem aj {f:FuncId} {args:Array Value} {v:Value} (hc:Sp P f args [] (ap s.A s.Ts++F) (λ u H'=>u=v /\ H'=[])) (hk:RN r P N D F w0 R (fl N v s) Q)
  (h:∀ n0,kh N s (zE P n0 N R s)=some (f,args,[],[],s.A):=by intro n0;kernel_rfl):RN r P N D F w0 R s Q:=by
 refine oL (Hp:=[]) (Hr:=ap s.A s.Ts) h (List.Perm.refl _) (λ _=>hc) ?_
 rintro hR u H' ⟨rfl,rfl⟩ a w h1 h2 h3
 exact hk.h hR a w h1 (by rw [pA.1,pA.2];exact h2) h3
def eH (ip:List Nat) (s:Cfg):HL:=(oth ip s.A.length).filterMap (s.A[·]?)
def fC (jp:List Nat) (s:Cfg):List HL:=(oth jp s.Ts.length).filterMap (s.Ts[·]?)
def Md (N:Nat) (ip jp:List Nat) (Hq:HL) (Tq:List HL) (v:Value) (s:Cfg):Cfg:=uP (λ A=>Hq++(oth ip A.length).filterMap (A[·]?)) (λ Ts=>Tq++(oth jp Ts.length).filterMap (Ts[·]?)) (fl N v s)
theorem pB {A:HL -> HL} {Ts:List HL -> List HL} {s:Cfg}:(uP A Ts s).A=A s.A /\ (uP A Ts s).Ts=Ts s.Ts /\ (uP A Ts s).L=s.L /\ (uP A Ts s).c=s.c /\ (uP A Ts s).k=s.k:=⟨rfl,rfl,rfl,rfl,rfl⟩
def bX (ip jp:List Nat) (s:Cfg):Bool:=(ip++oth ip s.A.length).isPerm (List.range s.A.length) && (jp++oth jp s.Ts.length).isPerm (List.range s.Ts.length)
def picks (ip jp:List Nat) (s:Cfg):HL × List HL:=(ip.filterMap (s.A[·]?),jp.filterMap (s.Ts[·]?))
theorem RN.ct {τ:Type} (ip jp:List Nat) {f:FuncId} {args:Array Value} {Hp:HL} {Tp:List HL} {Hq:τ -> HL} {Tq:τ -> List HL} {Rv:Value -> τ -> Prop}
  (hc:Sp P f args (ap Hp Tp) (ap (eH ip s) (fC jp s)++F) (λ v H'=>∃ x,H'=ap (Hq x) (Tq x) /\ Rv v x)) (hk:∀ v x,Rv v x -> RN r P N D F w0 R (Md N ip jp (Hq x) (Tq x) v s) Q)
  (h:∀ n0,kh N s (zE P n0 N R s)=some (f,args,[],[],s.A):=by intro n0;kernel_rfl)
  (hp:bX ip jp s=true:=by kernel_rfl) (hH:picks ip jp s=(Hp,Tp):=by kernel_rfl):RN r P N D F w0 R s Q:=by
 unfold bX at hp
 unfold picks at hH
 rw [Bool.and_eq_true] at hp
 simp only [Prod.mk.injEq] at hH
 obtain ⟨e1,e2⟩:=hH
 refine oL (Hp:=ap Hp Tp) (Hr:=ap (eH ip s) (fC jp s)) h ?_ (λ _=>hc) ?_
 ·have h1:=k8 s.A s.Ts ip (oth ip s.A.length) jp (oth jp s.Ts.length) hp.1 hp.2
  rw [e1,e2] at h1
  exact h1
 ·rintro hR v H' ⟨x,rfl,hv⟩ a w h1 h2 h3
  refine (hk v x hv).h hR a w h1 ?_ h3
  unfold Md
  rw [pB.1,pB.2.1,pA.1,pA.2]
  refine h2.perm ?_
  rw [List.append_assoc (ap (Hq x) (Tq x))]
  exact (tE _ _ _ _ _).symm
theorem Sp.run {f:FuncId} {fn:Func} {c:Code} {args:Array Value} {H:HL} {R':Value -> HL -> Prop} (hf:P.funcs[f]?=some fn) (hb:fn.body=some c) (hR:∀ y ∈ R,y ∈ F) {A:HL} {Ts:List HL} (hH:H=ap A Ts)
  (h:∀ w0,RN none P fn.ntmps [] F w0 R ⟨.code c,[],pS 0 args.toList,A,Ts⟩ (bodyPost P fn (zB F w0 R'))) (ha:decide (args.size <= fn.ntmps)=true:=by kernel_rfl):Sp P f args H F R':=by
 subst hH
 exact xG hf hb rfl ha _ rfl λ w0=>(h w0).h hR
theorem im {r:Option Nat} {P:Program} {a:Act} {w:World}:∀ (k:List KI) {Q:Exit -> Act -> World -> Prop},Q .ret a w -> kG r P k Q .ret a w
 | [],_,h=>h
 | .thn _ :: k,_,h=>im k h
 | .blk _ :: k,_,h=>im k h
 | .scp :: k,_,h=>im k h
 | .met _ :: k,_,h=>im k h
 | .rnd _ _ :: k,_,h=>im k h
def mi (s:Cfg):Bool:=match s.c,s.k with
 | .code .ret,_=>true
 | .ex .normal,[]=>true
 | _,_=>false
theorem nK (h:mi s=true) {a:Act} {w:World} (h1:Q .ret a w) (h2:Q .normal a w):Wf r P Q s.c s.k a w:=by
 obtain ⟨c,k,L,A,Ts⟩:=s
 unfold mi at h
 split at h
 ·rename_i h0
  simp only at h0
  subst h0
  exact wpIn_ret (im k h1)
 ·rename_i h0 h3
  simp only at h0 h3
  subst h0;subst h3
  exact h2
 ·cases h
def mU (x:Option (Value × List Nat × List Nat × List Prop)):List Nat:=match x with
 | some (_,E,_,_)=>E
 | none=>[]
def jx (P:Program) (n0:Nat) (rs:List ResultVar) (R:HL) (hints:List Hint) (s:Cfg):Option (Value × List Nat × List Nat × List Prop):=xH P n0 s.L rs (ap s.A s.Ts) R hints
theorem HH {fn:Func} {R':Value -> HL -> Prop} (hints:List Hint) (Ob:List Prop) (hob:AllP Ob) (ip jp:List Nat) {v:Value} {H':HL} (hv:R' v H')
  (hc:mi s=true:=by kernel_rfl) (h:∀ n0,jx P n0 fn.results.toList R hints s=some (v,mU (jx P n0 fn.results.toList R hints s),mU (jx P n0 fn.results.toList R hints s),Ob):=by intro n0;kernel_rfl)
  (hp:bX ip jp s=true:=by kernel_rfl) (hH:ap (picks ip jp s).1 (picks ip jp s).2=H':=by kernel_rfl):RN r P N [] F w0 R s (bodyPost P fn (zB F w0 R')):=by
 unfold bX at hp
 unfold picks at hH
 refine ⟨λ hR a w hF hRel hB=>?_⟩
 rw [Bool.and_eq_true] at hp
 have h':=h w.heap.size
 unfold jx xH at h'
 split at h'
 case h_2=>cases h'
 rename_i vs ss hs
 split at h'
 case h_2=>cases h'
 simp only [mU,Option.some.injEq,Prod.mk.injEq] at h'
 obtain ⟨e1,-,e3,e4⟩:=h'
 have hrun:=ju (P:=P) hF hRel fn.results.toList _ _ _ hs rfl rfl hR (λ e=>by cases e) (fF rfl e3) (by rw [e4];exact AllP.mem hob)
 have hh:a.defers=[] /\ ∃ v' ,(results fn a.tmps).run P w=.ok v' w /\ zB F w0 R' (.returned v') w:=by
  subst e1
  exact ⟨hF.defs,_,iY (by simp) hrun,_,H',rfl,hv,hRel.takeT ip _ jp _ hp.1 hp.2 hH,hB⟩
 obtain ⟨q1,v',q2,q3⟩:=hh
 exact nK hc ⟨q1,v',q2,q3⟩ ⟨q1,v',q2,q3⟩
theorem RN.ret {fn:Func} {R':Value -> HL -> Prop} (hints:List Hint) (ip jp:List Nat) {v:Value} {H':HL} (hv:R' v H')
 (hc:mi s=true:=by kernel_rfl) (h:∀ n0,jx P n0 fn.results.toList R hints s=some (v,mU (jx P n0 fn.results.toList R hints s),mU (jx P n0 fn.results.toList R hints s),[]):=by intro n0;kernel_rfl)
 (hp:bX ip jp s=true:=by kernel_rfl) (hH:ap (picks ip jp s).1 (picks ip jp s).2=H':=by kernel_rfl):RN r P N [] F w0 R s (bodyPost P fn (zB F w0 R')):=HH hints [] trivial ip jp hv hc h hp hH
structure Inv where
 L:FL
 A:HL
 Ts:List HL
 I:Prop
 m:Nat
def Me (K:Act -> World -> Prop) (V:Inv) (s:Cfg):Cfg:=match s with
 | ⟨.code (.loop c),k,_,_,_⟩=>⟨.code c,.met K :: k,V.L,V.A,V.Ts⟩
 | s=>s
def tH (s:Cfg):Bool:=match s.c with
 | .code (.loop _)=>true
 | _=>false
def MV {σ:Type} (N:Nat) (D:List Deferred) (F:HL) (w0:World) (V:σ -> Inv) (I:σ -> Prop):Act -> World -> Prop:=Kj N D F w0 (λ x=>(V x).L) (λ x=>ap (V x).A (V x).Ts) I
def Bp (s:Cfg):Option (Act -> World -> Prop):=match s.c,s.k with
 | .ex .normal,.met K :: _=>some K
 | _,_=>none
def tI (V:Inv) (ip jp:List Nat) (s:Cfg):List (Option Value) × HL × List HL:=(V.L.map λ p=>s.L.lookup p.1,ip.filterMap (s.A[·]?),jp.filterMap (s.Ts[·]?))
def mV (V:Inv):List (Option Value) × HL × List HL:=(V.L.map λ p=>some p.2,V.A,V.Ts)
theorem pY {V:Inv} {ip jp:List Nat} {a:Act} {w:World} (h:tI V ip jp s=mV V) (hp:bX ip jp s=true) (h1:Fm N D s.L a) (h2:Rel (ap s.A s.Ts++F) w):Fm N D V.L a /\ Rel (ap V.A V.Ts++F) w:=by
 unfold tI mV at h
 unfold bX at hp
 rw [Bool.and_eq_true] at hp
 simp only [Prod.mk.injEq] at h
 exact ⟨h1.sub h.1,h2.takeT ip _ jp _ hp.1 hp.2 (by rw [h.2.1,h.2.2])⟩
theorem pC {σ:Type} {V:σ -> Inv} {I:σ -> Prop} (x:σ) (ip jp:List Nat) (hi:I x) (hm:Bp s=some (MV N D F w0 V I):=by kernel_rfl) (h:tI (V x) ip jp s=mV (V x):=by kernel_rfl) (hp:bX ip jp s=true:=by kernel_rfl):RN r P N D F w0 R s Q:=by
 refine ⟨λ hR a w h1 h2 h3=>?_⟩
 obtain ⟨k1,k2⟩:=pY h hp h1 h2
 obtain ⟨c,k,L,A,Ts⟩:=s
 unfold Bp at hm
 split at hm
 case h_2=>cases hm
 rename_i K k' e1 e2
 simp only at e1 e2
 subst e1;subst e2
 simp only [Option.some.injEq] at hm
 subst hm
 exact ⟨x,hi,k1,k2,h3⟩
theorem DI {σ:Type} {L:FL} {H:HL} (Lx:σ -> FL) (Hx:σ -> HL) (I:σ -> Prop) (μ:σ -> Nat) {c:Code} (round:∀ x,I x -> TR r P N D F w0 (Lx x) (Hx x) c (Exit.then (Kj N D F w0 Lx Hx (λ x'=>I x' /\ μ x' < μ x)) Q)) (x0:σ) (hi:I x0):TR r P N D F w0 (Lx x0) (Hx x0) (.loop c) Q:=by
 intro a w h1 h2 h3
 have key:∀ n x,μ x <= n -> I x -> ∀ a w,Fm N D (Lx x) a -> Rel (Hx x++F) w -> Below 0 w0 w -> ∀ (b:Frame) (k:List Item) (cs:List Frame),b.roundOf=(Wr r).round -> (Wr r).fn b.fn -> (Wr r).room (cs.length+1+0) -> ∃ e a' w',Q e a' w' /\ ArrivesIn (Machine.fenced P (Wr r)) P (lone (b.atR a (.code c :: .inLoop c :: k)) cs w) b k cs e a' w':=by
  intro n
  induction n using Nat.strongRecOn with
  | _ n ih =>
   intro x hn hI a w k1 k2 k3 b k cs hro hb hr
   obtain ⟨e,a₁,w₁,hq,harr⟩:=round x hI a w k1 k2 k3 b (.inLoop c :: k) cs hro hb hr
   cases e with
   | normal =>
    obtain ⟨x',⟨hI',hlt⟩,m1,m2,m3⟩:=hq
    obtain ⟨e₂,a₂,w₂,hq₂,harr₂⟩:=ih (μ x') (by omega) x' (Nat.le_refl _) hI' a₁ w₁ m1 m2 m3 b k cs hro hb hr
    exact ⟨e₂,a₂,w₂,hq₂,.of_steps (StepsIn.trans harr (.one (fenced_calm hb hr rfl) stepR_inLoop)) harr₂⟩
   | exit id=>exact ⟨_,a₁,w₁,hq,.pass (x:=.inLoop c) rfl (λ _ _=>.inl (by simp)) harr⟩
   | goto l=>exact ⟨_,a₁,w₁,hq,.pass (x:=.inLoop c) rfl (λ _ _=>.inl (by simp)) harr⟩
   | ret=>exact ⟨_,a₁,w₁,hq,.pass (x:=.inLoop c) rfl (λ _ _=>.inl (by simp)) harr⟩
   | panic ch=>exact ⟨_,a₁,w₁,hq,.pass (x:=.inLoop c) rfl (λ _ _=>.inl (by simp)) harr⟩
   | outgrown=>exact ⟨_,a₁,w₁,hq,.pass (x:=.inLoop c) rfl (λ _ _=>.inl (by simp)) harr⟩
 intro b k cs hro hb hr
 obtain ⟨e,a',w',hq,harr⟩:=key _ x0 (Nat.le_refl _) hi a w h1 h2 h3 b k cs hro hb hr
 exact ⟨e,a',w',hq,.of_steps (.one (fenced_calm hb hr rfl) stepR_loop) harr⟩
theorem RN.loop {σ:Type} (V:σ -> Inv) (x0:σ) (ip jp:List Nat) (hi:(V x0).I)
  (round:∀ x,(V x).I -> (∀ {s':Cfg} {R':HL} (x':σ) (ip jp:List Nat),(V x').I /\ (V x').m < (V x).m -> (hm:Bp s'=some (MV N D F w0 V (λ x'=>(V x').I /\ (V x').m < (V x).m)):=by kernel_rfl) -> (h:tI (V x') ip jp s'=mV (V x'):=by kernel_rfl) -> (hp:bX ip jp s'=true:=by kernel_rfl) -> RN r P N D F w0 R' s' Q) ->
   RN r P N D F w0 R (Me (MV N D F w0 V (λ x'=>(V x').I /\ (V x').m < (V x).m)) (V x) s) Q)
  (hc:tH s=true:=by kernel_rfl) (h:tI (V x0) ip jp s=mV (V x0):=by kernel_rfl) (hp:bX ip jp s=true:=by kernel_rfl):RN r P N D F w0 R s Q:=by
 refine ⟨λ hR a w h1 h2 h3=>?_⟩
 obtain ⟨k1,k2⟩:=pY h hp h1 h2
 obtain ⟨c,k,L,A,Ts⟩:=s
 unfold tH at hc
 split at hc
 case h_2=>cases hc
 rename_i c' e1
 simp only at e1
 subst e1
 exact DI (L:=L) (H:=A) (λ x=>(V x).L) (λ x=>ap (V x).A (V x).Ts) (λ x=>(V x).I) (λ x=>(V x).m) (λ x hx=>(round x hx (λ x' ip jp hi hm h hp=>pC x' ip jp hi hm h hp)).h hR) x0 hi a w k1 k2 h3
def Oj (n:Nat) (s:Cfg):Cfg:=match s with
 | ⟨.code (.loop c),k,L,A,Ts⟩=>⟨.code c,.rnd c n :: k,L,A,Ts⟩
 | s=>s
theorem Bq {c:Code} {n:Nat}:∀ a w,tG none P c Q n a w -> Code.rounds P c Q n a w:=by
 induction n with
 | zero=>exact λ _ _ h=>h
 | succ n ih =>
  intro a w h
  refine (wpIn_wide (n:=0)).1 (wpIn_mono h λ e a w q=>?_)
  cases e <;> first | exact ih a w q | exact q
theorem RN.rounds (n:Nat) (hk:RN none P N D F w0 R (Oj n s) Q) (hc:tH s=true:=by kernel_rfl):RN none P N D F w0 R s Q:=by
 refine ⟨λ hR a w h1 h2 h3=>?_⟩
 obtain ⟨c,k,L,A,Ts⟩:=s
 unfold tH at hc
 split at hc
 case h_2=>cases hc
 rename_i c' e1
 simp only at e1
 subst e1
 exact (wpIn_wide (n:=0)).2 (wp_loop_rounds (n+1) (Bq (n:=n+1) a w (hk.h hR a w h1 h2 h3)))
end
end Go.Proofs.YtobflkidpfkcaaaGreatDoor
