import Derived.Test.YtcfajdgeejeieaaGreatDoorV03
import Derived.Deep.AppendSrc
import Derived.Laws.AppendOwn
import Derived.LoopN
set_option maxHeartbeats 4000000
set_option maxRecDepth 100000
set_option linter.unusedSimpArgs false
set_option linter.unusedVariables false
namespace Go.Proofs.YtcfajdgeejeieaaGreatDoor
open Go.RowKit
structure Enc (α:Type) where
  w:Nat
  cell:α -> Nat -> Value
  dflt:α
section
variable {α:Type} (e:Enc α)
def rowE (l:List α):Nat -> Nat -> Value:=λ i k=>e.cell (l.getD i e.dflt) k
def cellsE (l:List α):List Value:=l.flatMap λ x=>(List.range e.w).map (e.cell x)
theorem cellsE_length (l:List α):(cellsE e l).length=l.length * e.w:=by
  induction l with
  | nil=>simp [cellsE]
  | cons x l ih=>simp only [cellsE,List.flatMap_cons,List.length_append,List.length_map,List.length_range,List.length_cons,Nat.succ_mul] at ih ⊢;omega
theorem cellsE_append (l l':List α):cellsE e (l++l')=cellsE e l++cellsE e l':=by simp [cellsE]
theorem rows_eq (l:List α):∀ n,n <= l.length -> rowsOf e.w (rowE e l) n=cellsE e (l.take n)
  | 0,_=>by simp [rowsOf,cellsE]
  | n+1,h=>by
    rw [rowsOf,rows_eq l n (by omega),List.take_succ_eq_append_getElem (by omega),cellsE_append]
    congr 1
    simp [cellsE,rowE,List.getElem?_eq_getElem (show n < l.length by omega)]
theorem rows_all (l:List α):rowsOf e.w (rowE e l) l.length=cellsE e l:=by rw [rows_eq e l _ (Nat.le_refl _),List.take_length]
def SlIs (T:TypeId) (l:List α) (A:Option Addr) (cap:Nat) (Hl:HL):Prop :=
  (A=none /\ cap=0 /\ l=[] /\ Hl=[]) \/ ∃ b o full,A=some ⟨b,o * e.w,none⟩ /\ Hl=[(b,.rows e.w (o+cap) (rowE e full) T (0,0))] /\ full.length=o+cap /\ l.length <= cap /\ (full.drop o).take l.length=l
def zeroOff:Option Addr -> Prop
  | none=>True
  | some a=>a.off=0
theorem SlIs.nil (T:TypeId):SlIs e T [] none 0 []:=.inl ⟨rfl,rfl,rfl,rfl⟩
end
def splice:List Value -> Nat -> List Value -> List Value
  | c,_,[]=>c
  | c,o,v :: r=>splice (c.set o v) (o+1) r
theorem splice_get:∀ (news c:List Value) (o:Nat),o+news.length <= c.length -> ∀ j,(splice c o news)[j]?=if o <= j /\ j < o+news.length then news[j - o]? else c[j]?
  | [],c,o,_,j=>by rw [splice,if_neg (by simp only [List.length_nil];omega)]
  | v :: r,c,o,h,j=>by
    simp only [List.length_cons] at h
    rw [splice,splice_get r _ (o+1) (by simp;omega) j]
    by_cases h1:o+1 <= j /\ j < o+1+r.length
    · rw [if_pos h1,if_pos (by simp only [List.length_cons];omega)]
      obtain ⟨d,rfl⟩:∃ d,j=o+1+d:=⟨j - (o+1),by omega⟩
      rw [show o+1+d - o=d+1 by omega,List.getElem?_cons_succ]
      congr 1;omega
    · rw [if_neg h1,List.getElem?_set]
      by_cases h2:o=j
      · subst h2
        rw [if_pos rfl,if_pos (by omega),if_pos (by simp only [List.length_cons];omega)]
        simp
      · rw [if_neg h2,if_neg (by simp only [List.length_cons];omega)]
theorem setCells_block (b:Nat):∀ (news:List Value) (o:Nat) (w:World) (c:List Value) (ty:TypeId) (fz:Nat × Nat),w.heap[b]?=some (.cells ⟨c⟩ ty fz) -> (w.setCells b o news).heap[b]?=some (.cells ⟨splice c o news⟩ ty fz)
  | [],o,w,c,ty,fz,h=>h
  | v :: r,o,w,c,ty,fz,h=>by
    rw [World.setCells,splice]
    refine setCells_block b r (o+1) _ _ ty fz ?_
    simp only [World.setCell,Array.getElem?_modify,if_true,h,Option.map_some]
    simp
theorem setCells_other (b:Nat):∀ (news:List Value) (o:Nat) (w:World) (k:Nat),k ≠ b -> (w.setCells b o news).heap[k]?=w.heap[k]?
  | [],o,w,k,h=>rfl
  | v :: r,o,w,k,h=>by
    rw [World.setCells,setCells_other b r (o+1) _ k h]
    exact Below.heap_setCell _ _ _ _ h
theorem setCells_below (b:Nat):∀ (news:List Value) (o:Nat) (w:World),Below 0 w (w.setCells b o news)
  | [],o,w=>Below.refl _ _
  | v :: r,o,w=>((Below.refl 0 w).setCell (Nat.zero_le _) v).trans (setCells_below b r (o+1) _)
theorem nextslicecap_le (n c:Nat) (h:c < n):Builtin.nextslicecap n c <= 2 * n+192:=by
  unfold Builtin.nextslicecap
  split
  · omega
  · split
    · omega
    · simp only [Builtin.growBy]
      repeat' split
      all_goals omega
section
variable {α:Type} {e:Enc α} {P:Program} {t tx ty T:TypeId} {inf:TypeInfo} {z:Value}
structure EncOk (e:Enc α) (P:Program) (T:TypeId) (inf:TypeInfo) (z:Value):Prop where
  info:P.info? T=some inf
  zero:inf.zero=some z
  size:inf.size=e.w
  zsize:z.cells.size=e.w
  zcell:∀ k,k < e.w -> z.cells[k]?=some (e.cell e.dflt k)
  one:∀ x k,(e.cell x k).oneCell'=true
  bytes:inf.bytes <= 1000
theorem cellsE_zero (ok:EncOk e P T inf z) (n:Nat):(Builtin.zeroCells z.cells n).toList=cellsE e (List.replicate n e.dflt):=by
  unfold Builtin.zeroCells
  rw [zeroFill,ok.zsize]
  have h1:=rows_all e (List.replicate n e.dflt)
  rw [List.length_replicate] at h1
  rw [<- h1]
  show rowsOf _ _ _=_
  refine rowsOf_congr λ i k hi hk=>?_
  have h2:=ok.zcell k hk
  simp only [rowE,List.getD_eq_getElem?_getD,List.getElem?_replicate,Array.getD_eq_getD_getElem?,h2]
  split <;> rfl
theorem append_sl (ok:EncOk e P T inf z) (ht:P.underlying t=some (.slice T)) {l:List α} {A:Option Addr} {cap:Nat} {Hl G:HL} {w:World} (h:SlIs e T l A cap Hl) (hR:Rel (Hl++G) w) (src:List α) (x:Value)
    (hs:Src P inf.size tx x src.length (cellsE e src) w) (hb:l.length+src.length <= 100000000) :
    ∃ A' cap' Hl' w',(Builtin.append_ #[t,tx] ty #[.slice A l.length cap,x]).run P w=.ok (.slice A' (l.length+src.length) cap') w' /\ (SlIs e T (l++src) A' cap' Hl' /\ (zeroOff A -> zeroOff A')) /\ Rel (Hl'++G) w' /\ Below 0 w w':=by
  have hby:=ok.bytes
  have hfit:∀ c,c < l.length+src.length -> Builtin.nextslicecap (l.length+src.length) c * inf.bytes <= 281474976710656:=λ c hc=>by
    have h1:=nextslicecap_le (l.length+src.length) c hc
    have h2:Builtin.nextslicecap (l.length+src.length) c * inf.bytes <= (2 * 100000000+192) * 1000:=Nat.mul_le_mul (by omega) hby
    omega
  have grow:∀ (hg:cap < l.length+src.length) (hold:(Builtin.firstCells inf.size l.length (.slice A l.length cap)).run P w.drew=.ok (cellsE e l).toArray w.drew),
      ∃ A' cap' Hl' w',(Builtin.append_ #[t,tx] ty #[.slice A l.length cap,x]).run P w=.ok (.slice A' (l.length+src.length) cap') w' /\ (SlIs e T (l++src) A' cap' Hl' /\ (zeroOff A -> zeroOff A')) /\ Rel (Hl'++G) w' /\ Below 0 w w':=by
    intro hg hold
    have hrun:=run_append_grow_src (P:=P) w t tx ty T inf z ht ok.info ok.zero A l.length cap (cellsE e l) hold x src.length (cellsE e src) hs hg (by omega) (hfit cap hg)
    have hge:=grownCap_ge w (l.length+src.length) cap T
    generalize grownCap w (l.length+src.length) cap T=nc at *
    refine ⟨_,nc,[(w.heap.size,.rows e.w (0+nc) (rowE e (l++src++List.replicate (nc - (l.length+src.length)) e.dflt)) T (0,0))],_,hrun,⟨.inr ⟨w.heap.size,0,l++src++List.replicate (nc - (l.length+src.length)) e.dflt,by simp,rfl,by simp;omega,by simp;omega,by rw [List.drop_zero,List.take_append_of_le_length (by simp),List.take_of_length_le (by simp)]⟩,λ _=>rfl⟩,?_,?_⟩
    · have hR2:Rel G w:=hR.drop
      have:=(Rel.cons (.rows e.w (0+nc) (rowE e (l++src++List.replicate (nc - (l.length+src.length)) e.dflt)) T (0,0)) (o:=.cells ((cellsE e l++cellsE e src).toArray++Builtin.zeroCells z.cells (nc - (l.length+src.length))) T (0,0)) ?_ (hR2.world (w':=w.drew) rfl))
      · exact this
      · show Obj.cells _ _ _=_
        congr 1
        apply Array.ext'
        show rowsOf _ _ _=_
        have hl:0+nc=(l++src++List.replicate (nc - (l.length+src.length)) e.dflt).length:=by simp;omega
        rw [hl,rows_all,cellsE_append,cellsE_append,Array.toList_append,cellsE_zero ok]
    · exact ⟨rfl,rfl,rfl,by simp,λ k hk=>by omega⟩
  rcases h with ⟨rfl,rfl,rfl,rfl⟩ | ⟨b,o,full,rfl,rfl,hfl,hle,hl⟩
  · -- nil
    rcases Nat.eq_zero_or_pos src.length with h0 | h0
    · obtain rfl:src=[]:=List.eq_nil_of_length_eq_zero h0
      refine ⟨none,0,[],w,?_,⟨.inl ⟨rfl,rfl,by simp,rfl⟩,λ h=>h⟩,hR,Below.refl _ _⟩
      have hc:(Builtin.firstCells inf.size 0 x).run P w=.ok #[] w:=hs.cells
      rcases hs.kind with ⟨e',hk⟩ | hk <;> simp [Builtin.append_,run_underlying ht,run_underlying hk,Go.sizeOf,typeInfo,ok.info,hs.len,hc]
    · exact grow (by simp;omega) (by simp [cellsE];exact run_firstCells_none w.drew inf.size 0 0 0)
  · have hblk:=hR.holds _ (List.mem_append_left G (List.mem_cons_self))
    simp only [Blk.den] at hblk
    have hlenr:(rowsOf e.w (rowE e full) (o+cap)).length=(o+cap) * e.w:=rowsOf_length _ _ _
    have hall:rowsOf e.w (rowE e full) (o+cap)=cellsE e full:=by rw [<- hfl];exact rows_all e full
    by_cases hroom:l.length+src.length <= cap
    · -- there is room
      have hsz:=ok.size
      have hnl:(cellsE e src).length=src.length * e.w:=cellsE_length e src
      have hin:o * e.w+l.length * inf.size+(cellsE e src).length <= (o+cap) * e.w:=by
        rw [hnl,hsz,<- Nat.add_mul,<- Nat.add_mul]
        exact Nat.mul_le_mul_right _ (by omega)
      have hcell:∀ j,j < (cellsE e src).length -> (w.cell? ⟨b,o * e.w+l.length * inf.size+j,none⟩).isSome=true:=λ j hj=>by
        simp [World.cell?,hblk,hlenr]
        omega
      have hfrz:∀ j,j < (cellsE e src).length -> w.frozen? ⟨b,o * e.w+l.length * inf.size+j,none⟩=false:=λ j hj=>by simp [World.frozen?,hblk]
      have hrun:=run_append_room_src (P:=P) w t tx ty T inf ht ok.info b (o * e.w) l.length cap x src.length (cellsE e src) hs hroom hcell hfrz
      have hblk':=setCells_block b (cellsE e src) (o * e.w+l.length * inf.size) w _ _ _ hblk
      have hfull:splice (rowsOf e.w (rowE e full) (o+cap)) (o * e.w+l.length * inf.size) (cellsE e src)=cellsE e (full.take (o+l.length)++src++full.drop (o+l.length+src.length)):=by
        apply List.ext_getElem?
        intro j
        rw [splice_get _ _ _ (by rw [hlenr];exact hin),hall,cellsE_append,cellsE_append]
        have c1:(cellsE e (full.take (o+l.length))).length=(o+l.length) * e.w:=by rw [cellsE_length,List.length_take];congr 1;omega
        have c0:o * e.w+l.length * inf.size=(o+l.length) * e.w:=by rw [hsz,<- Nat.add_mul]
        have hsplit:cellsE e full=cellsE e (full.take (o+l.length))++cellsE e (full.drop (o+l.length)):=by rw [<- cellsE_append,List.take_append_drop]
        have hsplit2:cellsE e (full.drop (o+l.length))=cellsE e ((full.drop (o+l.length)).take src.length)++cellsE e (full.drop (o+l.length+src.length)):=by
          rw [<- cellsE_append,show o+l.length+src.length=(o+l.length)+src.length from rfl,<- List.drop_drop (i:=src.length) (j:=o+l.length),List.take_append_drop]
        have c2:(cellsE e ((full.drop (o+l.length)).take src.length)).length=src.length * e.w:=by rw [cellsE_length,List.length_take,List.length_drop];congr 1;omega
        rw [c0]
        by_cases h1:j < (o+l.length) * e.w
        · rw [if_neg (by omega),hsplit,List.append_assoc,List.getElem?_append_left (by omega),List.getElem?_append_left (by omega)]
        · by_cases h2:j < (o+l.length) * e.w+src.length * e.w
          · rw [if_pos (by omega),List.append_assoc,List.getElem?_append_right (by omega),List.getElem?_append_left (by omega),c1]
          · rw [if_neg (by omega),hsplit,hsplit2,List.append_assoc,List.getElem?_append_right (by omega),List.getElem?_append_right (by omega),List.getElem?_append_right (by omega),List.getElem?_append_right (by omega),c1,c2,hnl]
      have hfl':(full.take (o+l.length)++src++full.drop (o+l.length+src.length)).length=o+cap:=by simp;omega
      refine ⟨_,cap,[(b,.rows e.w (o+cap) (rowE e (full.take (o+l.length)++src++full.drop (o+l.length+src.length))) T (0,0))],_,hrun,⟨.inr ⟨b,o,_,rfl,rfl,hfl',by simp;omega,?_⟩,λ h=>h⟩,?_,setCells_below _ _ _ _⟩
      · have h1:full.take (o+l.length)=full.take o++l:=by rw [List.take_add,hl]
        rw [h1,List.append_assoc,List.append_assoc,List.drop_append_of_le_length (by simp;omega),List.drop_eq_nil_of_le (by rw [List.length_take];omega),List.nil_append,<- List.append_assoc]
        rw [List.take_append_of_le_length (by simp)]
        exact List.take_of_length_le (by simp)
      · refine ⟨?_,by have:=hR.nodup;simpa using this⟩
        intro y hy
        rcases List.mem_cons.1 hy with rfl | hy
        · rw [hblk',hfull]
          simp only [Blk.den]
          rw [<- hfl',rows_all]
        · have hne:y.1 ≠ b:=by
            have:=hR.nodup
            simp only [List.cons_append,List.nil_append,List.map_cons,List.nodup_cons] at this
            intro e1
            exact this.1 (by rw [<- e1];exact List.mem_map_of_mem hy)
          rw [setCells_other b _ _ _ _ hne]
          exact hR.holds y (List.mem_append_right _ hy)
    · refine grow (by omega) ?_
      refine run_firstCells_some w.drew inf.size l.length ⟨b,o * e.w,none⟩ l.length cap (cellsE e l) (by rw [cellsE_length,ok.size]) ?_
      intro j u hj
      have hjl:j < (cellsE e l).length:=(List.getElem?_eq_some_iff.1 hj).1
      rw [cellsE_length] at hjl
      have hsub:cellsE e l=((cellsE e full).drop (o * e.w)).take (l.length * e.w):=by
        have h1:cellsE e full=cellsE e (full.take o)++(cellsE e l++cellsE e ((full.drop o).drop l.length)):=by
          rw [<- cellsE_append,<- cellsE_append]
          congr 1
          conv=>lhs;rw [<- List.take_append_drop o full]
          congr 1
          conv=>lhs;rw [<- List.take_append_drop l.length (full.drop o)]
          rw [hl]
        have c1:(cellsE e (full.take o)).length=o * e.w:=by rw [cellsE_length,List.length_take];congr 1;omega
        rw [h1,List.drop_append_of_le_length (by omega),List.drop_eq_nil_of_le (by omega),List.nil_append,List.take_append_of_le_length (by rw [cellsE_length];exact Nat.le_refl _),List.take_of_length_le (by rw [cellsE_length];exact Nat.le_refl _)]
      rw [Addr.add_lit]
      show World.cell? w ⟨b,o * e.w+j,none⟩=some u
      simp only [World.cell?,hblk,hall]
      rw [hsub,List.getElem?_take,if_pos (by omega),List.getElem?_drop] at hj
      simpa using hj
theorem app_gives {N:Nat} {D:List Deferred} {F:HL} {L:FL} {H:HL} (ok:EncOk e P T inf z) {o:Oper} {a1 a2:Operand} (hop:o.op=.call { callee:=.builtin .append,args:=#[a1,a2],argTypes:=#[t,tx] }) (ht:P.underlying t=some (.slice T))
    {l src:List α} {A:Option Addr} {cap n:Nat} {Hl G:HL} {x:Value} (hi:(inL L a1 && inL L a2)=true) (h1:rho L a1=.slice A n cap) (hn:n=l.length) (h2:rho L a2=x) (hperm:(Hl++G).Perm H) (hsl:SlIs e T l A cap Hl)
    (hs:∀ w,Rel (H++F) w -> Src P inf.size tx x src.length (cellsE e src) w) (hb:l.length+src.length <= 100000000) (a:Act) (hF:Fm N D L a) (w:World) (hR:Rel (H++F) w) :
    gives P o a w λ u w'=>∃ y:Option Addr × Nat × HL,(u=.slice y.1 (n+src.length) y.2.1 /\ (SlIs e T (l++src) y.1 y.2.1 y.2.2 /\ (zeroOff A -> zeroOff y.1))) /\ Rel ((y.2.2++G)++F) w' /\ Below 0 w w':=by
  subst hn
  simp only [Bool.and_eq_true] at hi
  have e1:=(hF.eval hi.1).trans h1
  have e2:=(hF.eval hi.2).trans h2
  have hR':Rel (Hl++(G++F)) w:=by rw [<- List.append_assoc];exact hR.perm (hperm.append_right F)
  obtain ⟨A',cap',Hl',w',r1,r2,r3,r4⟩:=append_sl (ty:=o.type) ok ht hsl hR' src x (hs w hR) hb
  unfold gives
  have hrun:(execOp a.eval o).run P w=.ok (.value (.slice A' (l.length+src.length) cap')) w':=by
    simp [execOp,hop,resolve,invoke,builtin,Sem.run_bind,e1,e2,r1]
  rw [hrun]
  exact ⟨(A',cap',Hl'),⟨rfl,r2⟩,by rw [List.append_assoc];exact r3,r4⟩
theorem src_lit {H F:HL} {w:World} (ok:EncOk e P T inf z) {e':TypeId} (hk:P.underlying tx=some (.slice e')) {sb c:Nat} {src:List α} {ty:TypeId} {fz:Nat × Nat} (p:Nat) (h:H[p]?=some (sb,.lit (cellsE e src) ty fz)) (hR:Rel (H++F) w):Src P inf.size tx (vS sb 0 src.length c) src.length (cellsE e src) w:=by
  refine Src.ofSlice w hk _ _ _ _ (by rw [cellsE_length,ok.size]) ?_ ?_
  · intro j u hj
    have hb:=hR.holds _ (List.mem_append_left F (List.mem_of_getElem? h))
    simp only [Blk.den] at hb
    rw [Addr.add_lit]
    simp [World.cell?,hb,hj]
  · intro u hu
    simp only [cellsE,List.mem_flatMap,List.mem_map] at hu
    obtain ⟨x,_,k,_,rfl⟩:=hu
    exact ok.one x k
end
section
variable {r:Option Nat} {P:Program} {N:Nat} {D:List Deferred} {F:HL} {w0:World} {ops:Array Oper} {i:Nat} {L:FL} {H:HL} {Q:Exit -> Act -> World -> Prop}
def denL (H:HL):List (Nat × Obj):=H.map λ x=>(x.1,x.2.den)
theorem Rel.den {H H':HL} {w:World} (e:denL H=denL H') (h:Rel H w):Rel H' w:=by
  have h1:H'.map (·.1)=H.map (·.1):=by
    have:=congrArg (List.map (·.1)) e
    simpa [denL,Function.comp_def] using this.symm
  refine ⟨λ x hx=>?_,by have:=h.nodup;rw [h1];exact this⟩
  have:(x.1,x.2.den) ∈ denL H:=e ▸ List.mem_map_of_mem hx
  obtain ⟨y,hy,e2⟩:=List.mem_map.1 this
  have h3:=h.holds y hy
  simp only [Prod.mk.injEq] at e2
  rw [<- e2.1,<- e2.2]
  exact h3
theorem Rel.denA {A A' F:HL} {Ts:List HL} {w:World} (e:denL A=denL A') (h:Rel (ap A Ts++F) w):Rel (ap A' Ts++F) w :=
  h.den (by simp only [denL,List.map_append] at e ⊢;rw [e])
end
theorem OPJ.den {P:Program} {F:HL} {w0:World} {ops:Array Oper} {hards:List Nat} {Rd:HL} {i:Nat} {a:Act} {H H':HL} {K K':Act -> HL -> Prop} (hK:∀ a H1 H2,denL H1=denL H2 -> K a H1 -> K' a H2) (hp:denL H=denL H') (h:OPJ P ops F w0 hards Rd i a H K):OPJ P ops F w0 hards Rd i a H' K':=by
  have hx:∀ X:HL,denL (X++H)=denL (X++H'):=λ X=>by simp only [denL,List.map_append] at hp ⊢;rw [hp]
  have hf:∀ (A B:HL) (w:World),denL A=denL B -> Rel (A++F) w -> Rel (B++F) w:=λ A B w e h=>h.den (by simp only [denL,List.map_append] at e ⊢;rw [e])
  unfold OPJ at h ⊢
  cases ho:ops[i]? with
  | none=>rw [ho] at h;exact h
  | some o =>
    rw [ho] at h
    simp only at h ⊢
    split
    · rename_i hw
      rw [if_pos hw] at h
      intro w hR hB
      refine gives_mono (h w (hf _ _ _ hp.symm hR) hB) ?_
      rintro u w' ⟨H1,⟨s1,s2⟩,k1,k2,k3⟩
      by_cases hi:i ∈ hards
      · exact ⟨H1,⟨λ e=>absurd hi e,s2⟩,hK _ _ _ rfl k1,k2,k3⟩
      · obtain ⟨X,rfl⟩:=s1 hi
        exact ⟨X++H',⟨λ _=>⟨X,rfl⟩,λ e=>absurd e hi⟩,hK _ _ _ (hx X) k1,hf _ _ _ (hx X) k2,k3⟩
    · rename_i hw
      rw [if_neg hw] at h
      exact hK _ _ _ hp h
theorem JJ.den {P:Program} {F:HL} {w0:World} {ops:Array Oper} {Q:Exit -> Act -> World -> Prop} {hards:List Nat} {Rd:HL}:∀ (fuel:Nat) (listed:Array Bool) (a:Act) (H H':HL),denL H=denL H' -> JJ P ops Q F w0 hards Rd fuel listed a H -> JJ P ops Q F w0 hards Rd fuel listed a H'
  | 0,listed,a,H,H',hp,h=>⟨h.1,λ w hR hB=>h.2 w (hR.den (by simp only [denL,List.map_append] at hp ⊢;rw [hp])) hB⟩
  | fuel+1,listed,a,H,H',hp,h=>⟨λ e w hR hB=>h.1 e w (hR.den (by simp only [denL,List.map_append] at hp ⊢;rw [hp])) hB,λ i hi=>OPJ.den (λ a H1 H2 hp h=>JJ.den fuel _ a H1 H2 hp h) hp (h.2 i hi)⟩
theorem TD.den {P:Program} {N:Nat} {D:List Deferred} {F:HL} {w0:World} {ops:Array Oper} {hards:List Nat} {Rd:HL} {fuel:Nat} {listed:List Bool} {L:FL} {Q:Exit -> Act -> World -> Prop} {A:HL} {Ts:List HL} (A':HL) (e:denL A=denL A') (h:TD P N D F w0 ops hards Rd fuel listed L (ap A' Ts) Q):TD P N D F w0 ops hards Rd fuel listed L (ap A Ts) Q:=by
  intro hcl a hF
  refine JJ.den _ _ _ _ _ ?_ (h hcl a hF)
  simp only [denL,List.map_append] at e ⊢
  rw [e]
theorem SlIs.open0 {α:Type} {e:Enc α} {T:TypeId} {l:List α} {A:Option Addr} {cap:Nat} {Hl:HL} (h:SlIs e T l A cap Hl) (hz:zeroOff A) (hw:0 < e.w) (hl:0 < l.length):∃ b rest,A=some ⟨b,0,none⟩ /\ Hl=[(b,.rows e.w cap (rowE e (l++rest)) T (0,0))] /\ l.length <= cap:=by
  rcases h with ⟨_,_,rfl,_⟩ | ⟨b,o,full,rfl,rfl,h3,h4,h5⟩
  · simp at hl
  · have ho:o=0:=by
      have h6:o * e.w=0:=hz
      rcases Nat.mul_eq_zero.1 h6 with h | h
      · exact h
      · omega
    subst ho
    refine ⟨b,full.drop l.length,by rw [Nat.zero_mul],?_,h4⟩
    have:l++full.drop l.length=full:=by
      conv=>lhs;lhs;rw [<- h5]
      rw [List.drop_zero,List.take_append_drop]
    rw [this,Nat.zero_add]
section
variable {r:Option Nat} {P:Program} {N:Nat} {D:List Deferred} {F:HL} {w0:World} {ops:Array Oper} {i:Nat} {L:FL} {Q:Exit -> Act -> World -> Prop} {A:HL} {Ts Ts':List HL} {x:Nat × Blk}
theorem openT_perm {A:HL} {Ts Ts':List HL} {x:Nat × Blk} (jr:List Nat) (j:Nat) (hp:([j]++jr).isPerm (List.range Ts.length)=true) (hj:Ts[j]?=some [x]) (hr:jr.filterMap (Ts[·]?)=Ts'):(ap (x :: A) Ts').Perm (ap A Ts):=by
  have h3:=pick_perm Ts [j] jr hp
  simp only [List.filterMap_cons,hj,List.filterMap_nil,hr] at h3
  have h4:=h3.flatten
  simp only [List.cons_append,List.nil_append,List.flatten_cons] at h4
  show (x :: (A++Ts'.flatten)).Perm (A++Ts.flatten)
  refine List.Perm.trans ?_ (List.Perm.append_left A h4)
  exact (List.perm_middle (a:=x) (l₁:=A) (l₂:=Ts'.flatten)).symm
theorem apT_perm {A:HL} {Ts Ts':List HL} (jp:List Nat) (hp:jp.isPerm (List.range Ts.length)=true) (e:jp.filterMap (Ts[·]?)=Ts'):(ap A Ts').Perm (ap A Ts):=by
  have h3:=pick_perm Ts jp [] (by simpa using hp)
  rw [e] at h3
  simp only [List.filterMap_nil,List.append_nil] at h3
  exact List.Perm.append_left A h3.flatten
end
end Go.Proofs.YtcfajdgeejeieaaGreatDoor
