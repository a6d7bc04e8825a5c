import Derived.Test.YtgdcbiiopbpgaaaGreatDoorY06
set_option maxHeartbeats 4000000
set_option maxRecDepth 100000
set_option linter.unusedSimpArgs false
set_option linter.unusedVariables false
namespace Go.Proofs.YtgdcbiiopbpgaaaGreatDoor
open Go.RowKit Go.Shelf
inductive RowL{α:Type}(e:Enc α)(T:TypeId)(F:HL):Option Addr -> Nat -> List α -> Prop
 | zero (A:Option Addr):RowL e T F A 0 []
 | rows (q o N:Nat) (full:List α) (fz:Nat × Nat) (n:Nat) (xs:List α) (hq:(q,.rows e.w N (aJ e full) T fz)∈F) (ho:o+n <= N) (hn:xs.length=n) (hx:∀k,k<n -> full.getD (o+k) e.dflt=xs.getD k e.dflt):RowL e T F (some ⟨q,o*e.w,none⟩) n xs
section
variable {α:Type} {e:Enc α} {T:TypeId} {F:HL} {A:Option Addr} {n:Nat} {xs:List α}
theorem RowL.mono{F':HL}(h:RowL e T F A n xs)(hs:∀x∈F,x∈F'):RowL e T F' A n xs:=by
 cases h with
 | zero=>exact .zero _
 | rows q o N full fz n xs hq ho hn hx=>exact .rows q o N full fz n xs (hs _ hq) ho hn hx
theorem RowL.up{X:HL}(h:RowL e T F A n xs):RowL e T (X++F) A n xs:=h.mono λ x hx=>List.mem_append_right _ hx
theorem RowL.len(h:RowL e T F A n xs):xs.length=n:=by
 cases h with
 | zero=>rfl
 | rows q o N full fz n xs hq ho hn hx=>exact hn
theorem RowL.at(h:RowL e T F A n xs){k:Nat}(hk:k<n):∃q o N full fz,A=some ⟨q,o*e.w,none⟩ /\ (q,.rows e.w N (aJ e full) T fz)∈F /\ o+k<N /\ full.getD (o+k) e.dflt=xs.getD k e.dflt:=by
 cases h with
 | zero=>omega
 | rows q o N full fz n xs hq ho hn hx=>exact⟨q,o,N,full,fz,rfl,hq,by omega,hx k hk⟩
theorem RowL.whole{q N:Nat}{fz:Nat × Nat}(hq:(q,.rows e.w N (aJ e xs) T fz)∈F)(h:xs.length <= N):RowL e T F (some ⟨q,0,none⟩) xs.length xs:=by
 have:=RowL.rows (e:=e) (T:=T) (F:=F) q 0 N xs fz xs.length xs hq (by omega) rfl (λ k hk=>by rw[Nat.zero_add])
 rwa [Nat.zero_mul] at this
end
section
variable {α:Type} {e:Enc α} {P:Program} {t tx ty T:TypeId} {inf:TypeInfo} {z:Value} {F:HL}
theorem m6(l:List α)(hw:0<e.w):∀ {j:Nat},j<l.length*e.w -> (ay e l)[j]?=some (e.cell (l.getD (j / e.w) e.dflt) (j % e.w)):=by
 induction l with
 | nil=>intro j hj;simp at hj
 | cons x l ih =>
  intro j hj
  have hc:ay e (x::l)=(List.range e.w).map (e.cell x)++ay e l:=by simp[ay]
  rw[hc]
  by_cases h:j<e.w
  ·rw[List.getElem?_append_left (by simpa using h),Nat.div_eq_of_lt h,Nat.mod_eq_of_lt h]
   simp[h]
  ·rw[List.getElem?_append_right (by simp;omega)]
   simp only[List.length_map,List.length_range]
   have h2:j=(j-e.w)+e.w:=by omega
   rw[ih (by simp only[List.length_cons,Nat.add_mul,Nat.one_mul] at hj;omega)]
   conv=>rhs;rw[h2,Nat.add_div_right _ hw,Nat.add_mod_right]
   rfl
theorem Gj(ok:EncOk e P T inf z)(hw:0<e.w){F:HL}{A:Option Addr}{n:Nat}{xs:List α}(hl:RowL e T F A n xs){c:Nat}{e':TypeId}(hk:P.underlying tx=some (.slice e'))(X:HL)(w:World)(hR:Rel (X++F) w):Src P inf.size tx (.slice A n c) xs.length (ay e xs) w:=by
 cases hl with
 | zero =>
  cases A with
  | none=>exact Src.ofNil w hk c
  | some a=>exact Src.ofSlice w hk a 0 c [] (by simp) (λ j u h=>by simp at h) (λ u h=>by simp at h)
 | rows q o N full fz n xs hq ho hn hx =>
  subst hn
  refine Src.ofSlice w hk _ _ _ _ (by rw[bn,ok.size]) ?_ ?_
  ·intro j u hj
   have Ur:j<xs.length*e.w:=by rw[<- bn];exact(List.getElem?_eq_some_iff.1 hj).1
   rw[m6 xs hw Ur] at hj
   have hd:j / e.w<xs.length:=Nat.div_lt_of_lt_mul (by rw[Nat.mul_comm];exact Ur)
   have hb:=hR.holds _ (List.mem_append_right X hq)
   rw[Addr.add_lit]
   have RS:o*e.w+j=(o+j / e.w)*e.w+j % e.w:=by
    rw[Nat.add_mul,Nat.add_assoc,Nat.mul_comm (j / e.w) e.w,Nat.div_add_mod]
   rw[jQ (i:=o+j / e.w) (k:=j % e.w) hb rfl rfl RS (by omega) (Nat.mod_lt _ hw)]
   rw[<- hj]
   show some (aJ e full (o+j / e.w) (j % e.w))=_
   unfold aJ
   rw[hx _ hd]
  ·intro u hu
   simp only[ay,List.mem_flatMap,List.mem_map] at hu
   obtain⟨x,_,k,_,rfl⟩:=hu
   exact ok.one x k
def SrcIn(P:Program)(e:Enc α)(F:HL)(A:Option Addr)(n:Nat)(xs:List α):Prop :=
 (xs.length=n /\ (A=none -> n=0)) /\ ∀ {tx e':TypeId} (c:Nat),P.underlying tx=some (.slice e') -> ∀X w,Rel (X++F) w -> Src P e.w tx (.slice A n c) xs.length (ay e xs) w
theorem SrcIn.mono{F F':HL}{A:Option Addr}{n:Nat}{xs:List α}(h:SrcIn P e F A n xs)(hs:∃X,F'.Perm (X++F)):SrcIn P e F' A n xs:=by
 obtain⟨X,hX⟩:=hs
 refine⟨h.1,λ c hk Y w hR=>h.2 c hk (Y++X) w ?_⟩
 rw[List.append_assoc]
 exact hR.perm (List.Perm.append_left Y hX.symm)
theorem SrcIn.up{F X:HL}{A:Option Addr}{n:Nat}{xs:List α}(h:SrcIn P e F A n xs):SrcIn P e (X++F) A n xs:=h.mono ⟨X,List.Perm.refl _⟩
theorem SrcIn.none:SrcIn P e F Option.none 0 []:=⟨⟨rfl,λ _=>rfl⟩,λ c hk X w hR=>Src.ofNil w hk c⟩
theorem RowL.src(ok:EncOk e P T inf z)(hw:0<e.w){F:HL}{A:Option Addr}{n:Nat}{xs:List α}(hl:RowL e T F A n xs):SrcIn P e F A n xs:=by
 refine⟨⟨hl.len,λ h=>?_⟩,λ c hk X w hR=>?_⟩
 ·subst h;cases hl;rfl
 ·have:=Gj (c:=c) ok hw hl hk X w hR
  rwa [ok.size] at this
theorem SrcIn.lit(ok:EncOk e P T inf z){F:HL}{q:Nat}{xs:List α}{rest:List Value}{ty:TypeId}{fz:Nat × Nat}(hq:(q,.lit (ay e xs++rest) ty fz)∈F):SrcIn P e F (some ⟨q,0,Option.none⟩) xs.length xs:=by
 refine⟨⟨rfl,λ h=>by cases h⟩,λ c hk X w hR=>Src.ofSlice w hk _ _ _ _ (by rw[bn]) ?_ ?_⟩
 ·intro j u hj
  have hb:=hR.holds _ (List.mem_append_right X hq)
  have hl:j<(ay e xs).length:=(List.getElem?_eq_some_iff.1 hj).1
  simp only[Blk.den] at hb
  rw[Addr.add_lit]
  simp[World.cell?,hb,List.getElem?_append_left hl,hj]
 ·intro u hu
  simp only[ay,List.mem_flatMap,List.mem_map] at hu
  obtain⟨x,_,k,_,rfl⟩:=hu
  exact ok.one x k
def NewS(e:Enc α)(T:TypeId)(src:List α)(A A':Option Addr)(bY:Nat)(H_:HL):Prop :=
 (src=[] /\ A'=A /\ bY=0 /\ H_=[]) \/ ∃b,A'=some ⟨b,0,none⟩ /\ H_=[(b,.rows e.w bY (aJ e src) T (0,0))] /\ src.length <= bY
theorem NewS.rowL{src:List α}{A A':Option Addr}{bY:Nat}{H_:HL}(h:NewS e T src A A' bY H_){F:HL}(hF:∀x∈H_,x∈F):RowL e T F A' src.length src:=by
 rcases h with ⟨rfl,rfl,rfl,rfl⟩|⟨b,rfl,rfl,hc⟩
 ·exact .zero _
 ·exact RowL.whole (hF _ (List.mem_singleton.2 rfl)) hc
theorem jZ(l:List α)(k:Nat):aJ e (l++List.replicate k e.dflt)=aJ e l:=by
 funext i j
 unfold aJ
 congr 1
 rw[List.getD_eq_getElem?_getD,List.getD_eq_getElem?_getD]
 by_cases h:i<l.length
 ·rw[List.getElem?_append_left h]
 ·rw[List.getElem?_append_right (by omega),List.getElem?_replicate,List.getElem?_eq_none (by omega)]
  split <;> rfl
theorem zC(ok:EncOk e P T inf z)(ht:P.underlying t=some (.slice T)){A:Option Addr}{G:HL}{w:World}(hA:∀a,A=some a -> a.spot=none)(hR:Rel G w)(src:List α)(x:Value)
  (hs:Src P inf.size tx x src.length (ay e src) w) (hb:src.length <= 100000000) :
  ∃A' bY H_ w',(Builtin.append_ #[t,tx] ty #[.slice A 0 0,x]).run P w=.ok (.slice A' src.length bY) w' /\ NewS e T src A A' bY H_ /\ Rel (H_++G) w' /\ Below 0 w w':=by
 rcases Nat.eq_zero_or_pos src.length with h0|h0
 ·obtain rfl:src=[]:=List.eq_nil_of_length_eq_zero h0
  cases A with
  | none =>
   refine⟨none,0,[],w,?_,.inl ⟨rfl,rfl,rfl,rfl⟩,hR,Below.refl _ _⟩
   have hc:(Builtin.firstCells inf.size 0 x).run P w=.ok #[] w:=hs.cells
   rcases hs.kind with ⟨e',hk⟩|hk <;> simp[Builtin.append_,run_underlying ht,run_underlying hk,Go.sizeOf,typeInfo,ok.info,hs.len,hc]
  | some a =>
   obtain⟨b,off,spot⟩:=a
   obtain rfl:spot=none:=hA _ rfl
   refine⟨some ⟨b,off,none⟩,0,[],w,?_,.inl ⟨rfl,rfl,rfl,rfl⟩,hR,Below.refl _ _⟩
   have:=run_append_room_src (P:=P) w t tx ty T inf ht ok.info b off 0 0 x 0 (ay e ([]:List α)) hs (Nat.le_refl _) (λ j hj=>by simp[ay] at hj) (λ j hj=>by simp[ay] at hj)
   exact this
 ·have Zv:=ok.bytes
  have Th:Builtin.nextslicecap (0+src.length) 0*inf.bytes <= 281474976710656:=by
   have h1:=kS (0+src.length) 0 (by omega)
   have h2:Builtin.nextslicecap (0+src.length) 0*inf.bytes <= (2*100000000+192)*1000:=Nat.mul_le_mul (by omega) Zv
   omega
  have hold:(Builtin.firstCells inf.size 0 (.slice A 0 0)).run P w.drew=.ok ([]:List Value).toArray w.drew:=by
   cases A with
   | none=>exact run_firstCells_none w.drew inf.size 0 0 0
   | some a =>
    obtain⟨b,off,spot⟩:=a
    obtain rfl:spot=none:=hA _ rfl
    exact run_firstCells_some w.drew inf.size 0 ⟨b,off,none⟩ 0 0 [] (by simp) (λ j u hj=>by simp at hj)
  have f_:=run_append_grow_src (P:=P) w t tx ty T inf z ht ok.info ok.zero A 0 0 [] hold x src.length (ay e src) hs (by omega) (by omega) Th
  have Vv:=grownCap_ge w (0+src.length) 0 T
  generalize grownCap w (0+src.length) 0 T=nc at *
  rw[Nat.zero_add] at f_ Vv
  refine⟨_,nc,[(w.heap.size,.rows e.w nc (aJ e src) T (0,0))],_,f_,.inr ⟨_,rfl,rfl,Vv⟩,?_,?_⟩
  ·have:=(Rel.cons (.rows e.w nc (aJ e src) T (0,0)) (o:=.cells (([]++ay e src).toArray++Builtin.zeroCells z.cells (nc-src.length)) T (0,0)) ?_ (hR.world (w':=w.drew) rfl))
   ·exact this
   ·show Obj.cells _ _ _=_
    congr 1
    apply Array.ext'
    show bm _ _ _=_
    have hl:nc=(src++List.replicate (nc-src.length) e.dflt).length:=by simp;omega
    have h3:=ln e (src++List.replicate (nc-src.length) e.dflt)
    rw[<- hl,jZ] at h3
    rw[h3,cy,List.nil_append,Array.toList_append,pF ok]
  ·exact⟨rfl,rfl,rfl,by simp,λ k hk=>by omega⟩
end
section
variable {r:Option Nat} {P:Program} {N:Nat} {D:List Deferred} {F:HL} {w0:World} {R:HL} {s:Cfg} {Q:Exit -> Act -> World -> Prop}
variable {α:Type} {e:Enc α} {T:TypeId} {inf:TypeInfo} {z:Value}
theorem jy(ok:EncOk e P T inf z)(src:List α)(j:Nat){A:Option Addr}{B:Option Addr}{m c':Nat}{tx:TypeId}(hA:∀a,A=some a -> a.spot=none)(hm:m=src.length)(hb:src.length <= 100000000)
  (hs:∀e',P.underlying tx=some (.slice e') -> ∀X w,Rel (X++F) w -> Src P inf.size tx (.slice B m c') src.length (ay e src) w)
  (hk:∀ (A':Option Addr) (bY:Nat) (H_:HL),NewS e T src A A' bY H_ -> RN r P N D F w0 R (NV j H_ (fD N (.slice A' src.length bY) s)) Q)
  (h:xb P N j (p7 s) s=some (A,0,0,T,B,m,c',tx,([]:HL)):=by kernel_rfl):RN r P N D F w0 R s Q:=by
 obtain⟨o,a1,a2,t,e',q0,q1,q2,q3,q4,q5,q6,q7,q9,Sc,Ui⟩:=m5 h
 refine⟨λ hR a w hF aT hB=>?_⟩
 obtain⟨c,k,L,Bs,Ts⟩:=s
 unfold p7 at q0
 cases c with
 | code c=>cases q0
 | ex c=>cases q0
 | drw _ _=>cases q0
 | ops ops i =>
  simp only at q0 q3 q4 q5 q9 Sc Ui hF aT
  have K_:ops.toList.drop i=o::ops.toList.drop (i+1):=by
   have iF:i<ops.toList.length:=(List.getElem?_eq_some_iff.1 q0).1
   rw[List.drop_eq_getElem_cons iF,(List.getElem?_eq_some_iff.1 q0).2]
  show wpListIn _ _ _ _ _ _ _ _
  rw[K_,wpListIn,if_pos (by simp[Region.wanted,q1])]
  refine⟨λ _ _=>trivial,?_⟩
  have rW:=iE (A:=Bs) q9 Sc
  have key:ez P o a w λ u w'=>∃y:Option Addr × Nat × HL,(u=.slice y.1 src.length y.2.1 /\ NewS e T src A y.1 y.2.1 y.2.2) /\ Rel ((y.2.2++(Bs++((oth [j] Ts.length).filterMap (Ts[·]?)).flatten))++F) w' /\ Below 0 w w':=by
   simp only[Bool.and_eq_true] at q3
   have e1:=(hF.eval q3.1).trans q4
   have e2:=(hF.eval q3.2).trans q5
   have Q1:Rel ((Bs++((oth [j] Ts.length).filterMap (Ts[·]?)).flatten)++F) w:=by
    have:=aT.perm (rW.append_right F)
    exact this
   obtain⟨A',bY,H_,w',r1,r2,r3,r4⟩:=zC (ty:=o.type) ok q6 hA Q1 src (.slice B m c') (hs e' q7 _ w aT) hb
   unfold ez
   have f_:(execOp a.eval o).run P w=.ok (.value (.slice A' src.length bY)) w':=by
    simp[execOp,q2,resolve,invoke,builtin,Sem.run_bind,e1,e2,r1]
   rw[f_]
   exact⟨(A',bY,H_),⟨rfl,r2⟩,by rw[List.append_assoc];exact r3,r4⟩
  refine gh (by rw[q2];intro c hc;cases hc) key ?_
  rintro u w' ⟨⟨A',bY,H_⟩,⟨rfl,Vd⟩,Q1,Tn⟩
  obtain⟨L',p1⟩:=eJ Ui (.slice A' src.length bY)
  have hh:=(hk A' bY H_ Vd).h hR
  have RZ:fD N (.slice A' src.length bY) ⟨.ops ops i,k,L,Bs,Ts⟩=⟨.ops ops (i+1),k,L',Bs,Ts⟩:=by
   unfold fD
   simp only[q0,p1]
  rw[RZ] at hh
  refine hh _ w' (hF.put p1) (Q1.perm (List.Perm.append_right F ?_)) (hB.trans Tn)
  show (Bs++(H_::(oth [j] Ts.length).filterMap (Ts[·]?)).flatten).Perm _
  rw[List.flatten_cons,<- List.append_assoc,<- List.append_assoc]
  exact List.Perm.append_right _ List.perm_append_comm
end
def zD:Enc Int:=⟨1,λ p k=>match k with|0=>vI p|_=>vI p,0⟩
noncomputable def LL:TypeInfo:=match Tryz.prog.info? 3 with | some i=>i | none=>⟨.bool,"",0,0,false,0,0,none,false,#[]⟩
noncomputable def LM:Value:=match LL.zero with|some z=>z|none=>.bool false
theorem Gk:EncOk zD Tryz.prog 3 LL LM where
 info:=by kernel_rfl
 zero:=by kernel_rfl
 size:=by kernel_rfl
 zsize:=by kernel_rfl
 zcell:=λ k hk=>by
  have h:∀k<1,LM.cells[k]?=some (zD.cell zD.dflt k):=by intro k hk;(iterate 1 (rcases k with _|k;· kernel_rfl));omega
  exact h k hk
 one:=λ x k=>by unfold zD;dsimp only;split <;> rfl
 bytes:=Nat.le_of_ble_eq_true (by kernel_rfl)
abbrev ol(n:Int):Prop:=-9223372036854775808 <= n /\ n <= 9223372036854775807
theorem cq{n:Int}(hn:ol n)(Rk:Int)(h:0<Rk):0 <= au n Rk /\ au n Rk<Rk:=by
 unfold au
 have hx:0 <= (if n<0 then bg (0-bg (n+1)) else n):=by
  split
  ·rw[cZ (x:=n+1) (by omega),cZ (by omega)];omega
  ·omega
 exact⟨Int.tmod_nonneg _ hx,Int.tmod_lt_of_pos _ h⟩
inductive ArgL(F:HL):Option Addr -> Nat -> List Int -> Prop
 | zero (A:Option Addr):ArgL F A 0 []
 | cells (q o N:Nat) (g:Nat -> Nat -> Value) (ty:TypeId) (fz:Nat × Nat) (xs:List Int) (hq:(q,.rows 1 N g ty fz)∈F) (ho:o+xs.length <= N) (hx:∀k,k<xs.length -> g (o+k) 0=vI (xs.getD k 0)) (hb:∀k,k<xs.length -> ol (xs.getD k 0)):ArgL F (some ⟨q,o,none⟩) xs.length xs
theorem ArgL.up{F X:HL}{A:Option Addr}{n:Nat}{xs:List Int}(h:ArgL F A n xs):ArgL (X++F) A n xs:=by
 cases h with
 | zero=>exact .zero _
 | cells q o N g ty fz xs hq ho hx hb=>exact .cells q o N g ty fz xs (List.mem_append_right _ hq) ho hx hb
theorem ArgL.len{F:HL}{A:Option Addr}{n:Nat}{xs:List Int}(h:ArgL F A n xs):xs.length=n:=by
 cases h <;> rfl
theorem ArgL.at{F:HL}{A:Option Addr}{n:Nat}{xs:List Int}(h:ArgL F A n xs){k:Nat}(hk:k<n):∃q o N g ty fz,A=some ⟨q,o,none⟩ /\ (q,.rows 1 N g ty fz)∈F /\ o+k<N /\ g (o+k) 0=vI (xs.getD k 0) /\ ol (xs.getD k 0):=by
 cases h with
 | zero=>omega
 | cells q o N g ty fz xs hq ho hx hb=>exact⟨q,o,N,g,ty,fz,rfl,hq,by omega,hx k hk,hb k hk⟩
def kv(xs:List Int)(i:Nat):Int:=if i<xs.length then au (xs.getD i 0) 1000000 else 0
theorem ie{F:HL}{A:Option Addr}{n:Nat}{xs:List Int}(h:ArgL F A n xs)(i:Nat):0 <= kv xs i /\ kv xs i<1000000:=by
 unfold kv
 split
 ·next hi =>
  rw[h.len] at hi
  obtain⟨_,_,_,_,_,_,_,_,_,_,hr⟩:=h.at hi
  exact cq hr 1000000 (by decide)
 ·omega
def ks(xs:List Int)(n:Nat):List Int:=(List.range n).map (kv xs)
theorem m9(xs:List Int)(n:Nat):(ks xs n).length=n:=by simp[ks]
theorem Bz(xs:List Int)(n:Nat):ks xs (n+1)=ks xs n++[kv xs n]:=by simp[ks,List.range_succ]
theorem MM{xs:List Int}{n i:Nat}(h:i<n):(ks xs n).getD i 0=kv xs i:=by simp[ks,h]
structure Dr where (a b:Int)
def lA:Enc V2:=⟨2,λ p k=>match k with|0=>vI p.x|_=>vI p.y,⟨0,0⟩⟩
noncomputable def LN:TypeInfo:=match Tryz.prog.info? 29 with | some i=>i | none=>⟨.bool,"",0,0,false,0,0,none,false,#[]⟩
noncomputable def LO:Value:=match LN.zero with|some z=>z|none=>.bool false
theorem zE:EncOk lA Tryz.prog 29 LN LO where
 info:=by kernel_rfl
 zero:=by kernel_rfl
 size:=by kernel_rfl
 zsize:=by kernel_rfl
 zcell:=λ k hk=>by
  have h:∀k<2,LO.cells[k]?=some (lA.cell lA.dflt k):=by intro k hk;(iterate 2 (rcases k with _|k;· kernel_rfl));omega
  exact h k hk
 one:=λ x k=>by unfold lA;dsimp only;split <;> rfl
 bytes:=Nat.le_of_ble_eq_true (by kernel_rfl)
def xc:Enc Bx:=⟨4,λ p k=>match k with|0=>vI p.x0|1=>vI p.y0|2=>vI p.x1|_=>vI p.y1,⟨0,0,0,0⟩⟩
noncomputable def OC:TypeInfo:=match Tryz.prog.info? 25 with | some i=>i | none=>⟨.bool,"",0,0,false,0,0,none,false,#[]⟩
noncomputable def OD:Value:=match OC.zero with|some z=>z|none=>.bool false
theorem Gl:EncOk xc Tryz.prog 25 OC OD where
 info:=by kernel_rfl
 zero:=by kernel_rfl
 size:=by kernel_rfl
 zsize:=by kernel_rfl
 zcell:=λ k hk=>by
  have h:∀k<4,OD.cells[k]?=some (xc.cell xc.dflt k):=by intro k hk;(iterate 4 (rcases k with _|k;· kernel_rfl));omega
  exact h k hk
 one:=λ x k=>by unfold xc;dsimp only;split <;> rfl
 bytes:=Nat.le_of_ble_eq_true (by kernel_rfl)
def ne:Enc Dr:=⟨2,λ p k=>match k with|0=>vI p.a|_=>vI p.b,⟨0,0⟩⟩
noncomputable def OE:TypeInfo:=match Tryz.prog.info? 69 with | some i=>i | none=>⟨.bool,"",0,0,false,0,0,none,false,#[]⟩
noncomputable def OG:Value:=match OE.zero with|some z=>z|none=>.bool false
theorem Gn:EncOk ne Tryz.prog 69 OE OG where
 info:=by kernel_rfl
 zero:=by kernel_rfl
 size:=by kernel_rfl
 zsize:=by kernel_rfl
 zcell:=λ k hk=>by
  have h:∀k<2,OG.cells[k]?=some (ne.cell ne.dflt k):=by intro k hk;(iterate 2 (rcases k with _|k;· kernel_rfl));omega
  exact h k hk
 one:=λ x k=>by unfold ne;dsimp only;split <;> rfl
 bytes:=Nat.le_of_ble_eq_true (by kernel_rfl)
structure MapIn(F:HL)(S:Setup)(rs:List Bx)(ds:List Dr):Prop where
 rooms:RowL xc 25 F S.rA S.rn rs
 doors:RowL ne 69 F S.dA S.dn ds
theorem MapIn.up{F X:HL}{S:Setup}{rs:List Bx}{ds:List Dr}(h:MapIn F S rs ds):MapIn (X++F) S rs ds:=⟨h.rooms.up,h.doors.up⟩
abbrev vi:List Bx:=[⟨-12000,-9000,-1,9000⟩,⟨0,0,12000,9000⟩,⟨0,-9000,12000,-1⟩]
abbrev lB(i:Nat):List Dr:=match i with|0=>[]|1=>[⟨0,1⟩]|_=>[⟨0,2⟩,⟨1,2⟩]
def ClS{α:Type}(e:Enc α)(T:TypeId)(xs:List α)(A':Option Addr)(c':Nat)(Hl:HL):Prop:=∃A0,NewS e T xs A0 A' c' Hl
theorem ClS.rowL{α:Type}{e:Enc α}{T:TypeId}{xs:List α}{A':Option Addr}{c':Nat}{Hl:HL}(h:ClS e T xs A' c' Hl){F:HL}(hF:∀x∈Hl,x∈F):RowL e T F A' xs.length xs:=h.elim λ _ h=>h.rowL hF
theorem ClS.nil{α:Type}(e:Enc α)(T:TypeId)(A:Option Addr):ClS e T [] A 0 []:=⟨A,.inl ⟨rfl,rfl,rfl,rfl⟩⟩
def J5(xs:List Int):Int:=1+kv xs 0 % 3
def rg(xs:List Int):Int:=J5 xs+kv xs 3 / 3 % 3
def bN(xs:List Int)(i:Nat):Int:=kv xs (4+2*i)
def bM(xs:List Int)(i:Nat):Int:=kv xs (5+2*i)
def tP(xs:List Int)(i:Nat)(A:Option Addr)(c:Nat):Bod:=⟨⟨(cP (bN xs i)).1,(cP (bN xs i)).2,A,c⟩,⟨((((bN xs i) / 1000) % 13)-6)*900,((((bM xs i) / 50) % 11)-5)*800,((((bM xs i) / 550) % 9)-4)*300,((((bN xs i) / 13000) % 9)-4)*300,([1024,1024,512,2048,0]:List Int).getD (((bM xs i) / 5000) % 5).toNat 0⟩,(bM xs i) % 50,(bN xs i) % 7⟩
def xd(a b c:Nat)(i:Nat):Option Addr:=match i with|0=>some ⟨a,0,none⟩|1=>some ⟨b,0,none⟩|_=>some ⟨c,0,none⟩
def j0(i:Nat):Nat:=match i with|0=>0|1=>1|_=>2
def BA(a b c:Nat):Nat -> Nat -> Value:=λ i _=>.slice (xd a b c i) (j0 i) (j0 i)
theorem vj{F:HL}{A:Option Addr}{n:Nat}{xs:List Int}(h:ArgL F A n xs):1 <= J5 xs /\ J5 xs <= 3:=by
 have:=ie h 0
 unfold J5;omega
theorem qx{F:HL}{A:Option Addr}{n:Nat}{xs:List Int}(h:ArgL F A n xs):1 <= rg xs /\ rg xs <= 5 /\ J5 xs <= rg xs:=by
 have:=ie h 0
 have:=ie h 3
 unfold rg J5;omega
theorem Gp{xs rest:List Int}{n i:Nat}(h:i<n):(ks xs n++rest).getD i 0=kv xs i:=by
 rw[List.getD_eq_getElem?_getD,List.getElem?_append_left (by rw[m9];exact h),<- List.getD_eq_getElem?_getD,MM h]
theorem rh{α:Type}{l r:List α}{i:Nat}{d:α}(h:i<l.length):(l++r).getD i d=l.getD i d:=by
 rw[List.getD_eq_getElem?_getD,List.getElem?_append_left h,<- List.getD_eq_getElem?_getD]
theorem tQ{α:Type}{l:List α}{x d:α}:(l++[x]).getD l.length d=x:=by simp
theorem ShH.left{s:Shp}{T X:HL}(h:ShH s T):ShH s (T++X):=λ F hF=>h F λ x hx=>hF x (List.mem_append_left _ hx)
theorem ShH.right{s:Shp}{T X:HL}(h:ShH s X):ShH s (T++X):=λ F hF=>h F λ x hx=>hF x (List.mem_append_right _ hx)
theorem zF{F:HL}{a b c:Nat}(hb:(b,.rows 2 1 (aJ ne (lB 1)) 69 (0,0))∈F)(hc:(c,.rows 2 2 (aJ ne (lB 2)) 69 (0,0))∈F):∀i:Nat,RowL ne 69 F (xd a b c i) (j0 i) (lB i)
 | 0=>.zero _
 | 1=>RowL.whole (xs:=lB 1) hb (Nat.le_refl _)
 | _+2=>RowL.whole (xs:=lB 2) hc (Nat.le_refl _)
structure SetG(xs:List Int)(S:Setup)(T:HL):Prop where
 pl:S.players=J5 xs
 nb:(S.nb:Int)=rg xs
 bo:S.bo=0
 cap:S.nb <= S.bc
 room:S.bo+S.nb <= S.bR
 nums:S.box=⟨-12000,-9000,12000,9000⟩ /\ S.fog=4000+(kv xs 1 % 9)*1000 /\ S.g=⟨0,(-((kv xs 2 / 36) % 3))*40⟩ /\ S.push=((kv xs 1 / 9) % 5)*100 /\ S.drag=(kv xs 2 % 4)*100 /\ S.rest=((kv xs 2 / 4) % 3)*512 /\ S.rounds=1+(kv xs 2 / 12) % 3 /\ S.fuel=60
 bod:∀j,j<S.nb -> ∃A c,S.body j=tP xs j A c
 sin:∀F,(S.bb,.rows 9 S.bR (jJ S.bods) 78 (0,0))∈F -> (∀x∈T,x∈F) -> SetIn F S
 maps:(S.rn=3 /\ S.dn=j0 (kv xs 3 % 3).toNat) /\ ∀F,(∀x∈T,x∈F) -> MapIn F S vi (lB (kv xs 3 % 3).toNat)
theorem Dx(A:Option Addr)(n cap:Nat)(xs:List Int)(F:HL)(hl:ArgL F A n xs)(hn:n <= 9223372036854775807):Sp Tryz.prog 7 #[.slice A n cap] (ap [] []) F (λ u H'=>∃x:Setup × HL,H'=ap [(x.1.bb,.rows 9 x.1.bR (jJ x.1.bods) 78 (0,0))] [x.2] /\ (u=Setup.v x.1 /\ SetG xs x.1 x.2)):=by
 refine Sp.run Tryz.func7 rfl mn (A:=[]) (Ts:=[]) rfl λ w0=>?_
 refine ae 17 [] λ n1=>RN.nt<|RN.loop (σ:=Nat × Option Addr × Nat × HL) (λ ⟨i,A_,c_,T_⟩=>⟨[(0,.slice A n cap),(2,vP (n1+0) 0),(3,.slice A_ i c_),(4,vI (i:Int))],[((n1+0),.lit [vI 0,.slice none 0 0,vI 0,vI 0,vI 0,vI 0,.slice none 0 0,.slice none 0 0,vI 0,vI 0,vI 0,vI 0,vI 0,vI 0,vI 0,vI 0] 31 (0,0))],[T_],i <= 24 /\ SlIs zD 3 (ks xs i) A_ c_ T_ /\ cu A_,24-i⟩) (0,none,0,[]) [0] [0] (⟨Nat.zero_le _,SlIs.nil _ _,trivial⟩) ?_
 rintro⟨i,A_,c_,T_⟩ ⟨WR,IS,Xq⟩ Ri
 refine ae 7 [] λ _=>RN.em ((i:Int)<24) 12 (λ h4=>?_) λ h4=>?_
 ·refine ae 19 [] λ _=>RN.em ((i:Int)<(n:Int)) 18 (λ h5=>?_) λ h5=>?_
  ·refine ae 4 [] λ _=>?_
   obtain⟨qx6,Wt,Nx6,gx6,tyx6,fzx6,Y0,Yh,hox6,Yw,Yd⟩:=hl.at (k:=i) (by omega)
   refine aB 19 (congrArg (λ v_=>(.slice v_ n cap:Value)) Y0)<|RN.ro (λ _=>(mc Yh mn))<|ai 2 [.ix i,.rorow 0 (Wt+i) 0] [(Wt+i*1)=(Wt+i)*1+0 /\ (Wt+i)<Nx6,(i:Int)=((i:Nat):Int) /\ i<n] λ _=>aB 22 (congrArg (λ v_=>(v_:Value)) Yw)<|RN.cp (gt (xs.getD i 0) 1000000 (by decide) _) ?_
   have hA7:=cq (n:=xs.getD i 0) Yd 1000000 (by decide)
   refine ae 7 [] λ n8=>fR Gk (ks xs i) [au (xs.getD i 0) 1000000] 0 0 (m9 xs i).symm IS (by rw[m9];show i+1 <= 100000000;omega) ?_
   rintro A9 Ug Of ⟨Vf,X6⟩
   refine ai 9 [.nw] [aU ((i:Int)+1)] λ _=>?_
   have US:=X6 Xq
   refine Ri (i+1,A9,Ug,Of) [1] [0] ?_
   try dsimp only
   refine⟨⟨by omega,?_,US⟩,by omega⟩
   rw[Bz,show kv xs i=_ from by unfold kv;rw[if_pos (by rw[hl.len];omega)]]
   exact Vf
  ·refine ae 7 [] λ ZM=>fR Gk (ks xs i) [0] 0 0 (m9 xs i).symm IS (by rw[m9];show i+1 <= 100000000;omega) ?_
   rintro A15 c16 Sy ⟨hs18,hz19⟩
   refine ai 9 [.nw] [aU ((i:Int)+1)] λ _=>?_
   have US:=hz19 Xq
   refine Ri (i+1,A15,c16,Sy) [1] [0] ?_
   try dsimp only
   refine⟨⟨by omega,?_,US⟩,by omega⟩
   rw[Bz,show kv xs i=_ from by unfold kv;rw[if_neg (by rw[hl.len];omega)]]
   exact hs18
 ·refine ae 7 [] λ _=>?_
  have ei:i=24:=by omega
  subst ei
  obtain⟨kb,rest,rfl,rfl,RJ⟩:=IS.open0 Xq (by decide) (by rw[m9];decide)
  have hcap:24 <= c_:=by rw[m9] at RJ;exact RJ
  refine pK 0 (x:=(kb,.rows 1 c_ (aJ zD (ks xs 24++rest)) 3 (0,0))) ?_
  have hk0:=ie hl 0
  have Wg:=ie hl 1
  have hk2:=ie hl 2
  have hk3:=ie hl 3
  have hse:rg xs=1+kv xs 0 % 3+kv xs 3 / 3 % 3:=rfl
  have hsc:=qx hl
  have Un:=vj hl
  refine RN.draw [37] []<|aG [] [0,5,6,12,18,23,29,1,7,13,19,24,30,2,8,14,20,25,31,3,9,15,21,26,32,4,10,16,22,27,33,11,17,28,34,35] [.row 0 0 0,.row 0 1 0,.row 0 1 0,.row 0 2 0,.row 0 2 0,.row 0 2 0,.nw,.nw,.nw,.nw,.nw,.nw,.nw,.nw,.nw,.nw,.nw,.nw,.nw,.nw,.nw,.nw] [aU (1+(((kv xs 2) / 12) % 3)),aU ((((kv xs 2) / 4) % 3)*512),aU ((((kv xs 1) / 9) % 5)*100),aU (4000+(((kv xs 1) % 9)*1000)),0 <= (kv xs 2) / 12 /\ (0:Int)<3 /\ (kv xs 2) / 12 <= 9223372036854775807,0 <= (kv xs 2) / 4 /\ (0:Int)<3 /\ (kv xs 2) / 4 <= 9223372036854775807,aU (((kv xs 2) % 4)*100),0 <= (kv xs 1) / 9 /\ (0:Int)<5 /\ (kv xs 1) / 9 <= 9223372036854775807,aU (((kv xs 1) % 9)*1000),aU (1+((kv xs 0) % 3)),0 <= kv xs 2 /\ (0:Int)<12 /\ kv xs 2 <= 9223372036854775807,0 <= kv xs 2 /\ (0:Int)<4 /\ kv xs 2 <= 9223372036854775807,0 <= kv xs 2 /\ (0:Int)<4 /\ kv xs 2 <= 9223372036854775807,0 <= kv xs 1 /\ (0:Int)<9 /\ kv xs 1 <= 9223372036854775807,0 <= kv xs 1 /\ (0:Int)<9 /\ kv xs 1 <= 9223372036854775807,0 <= kv xs 0 /\ (0:Int)<3 /\ kv xs 0 <= 9223372036854775807,2=2*1+0 /\ 2<c_,2=2*1+0 /\ 2<c_,2=2*1+0 /\ 2<c_,1=1*1+0 /\ 1<c_,1=1*1+0 /\ 1<c_,0=0*1+0 /\ 0<c_]<|RD.one 36 (RDO.ev [] [] λ XZ=>?_)
  refine RD.one 37 (RDO.ev [] (ow 0 16) λ _=>?_)
  refine RD.fin<|ai 38 [.row 1 2 0,.nw,.nw,.nw,.nw,.own 0,.own 0,.own 1,.row 6 3 0,.nw] [0 <= kv xs 3 /\ (0:Int)<3 /\ kv xs 3 <= 9223372036854775807,3=3*1+0 /\ 3<c_,aU ((-(((kv xs 2) / 36) % 3))*40),-9223372036854775807 <= ((kv xs 2) / 36) % 3 /\ ((kv xs 2) / 36) % 3 <= 9223372036854775808,0 <= (kv xs 2) / 36 /\ (0:Int)<3 /\ (kv xs 2) / 36 <= 9223372036854775807,0 <= kv xs 2 /\ (0:Int)<36 /\ kv xs 2 <= 9223372036854775807,2=2*1+0 /\ 2<c_] λ Rf=>RN.dn 0 (.rows 1 3 (BA (Rf+1) (Rf+2) (Rf+3)) 27 (0,0))<|ai 13 [.ix (((kv xs 3) % 3).toNat),.row 0 (((kv xs 3) % 3).toNat) 0,.own 5] [(0+(((kv xs 3) % 3).toNat)*1)=(((kv xs 3) % 3).toNat)*1+0 /\ (((kv xs 3) % 3).toNat)<3,(kv xs 3) % 3=((((kv xs 3) % 3).toNat:Nat):Int) /\ ((kv xs 3) % 3).toNat<3] λ _=>RN.nt<|RN.nt<|RN.loop (σ:=Nat × List Bod × Option Addr × Nat × HL × HL) (λ ⟨j,bods,B_,d_,V_,U_⟩=>⟨[(2,vP (n1+0) 0),(3,vS kb 0 24 c_),(6,vP (XZ+0) 0),(7,vI (j:Int))],[((Rf+4),.rows 1 3 (BA (Rf+1) (Rf+2) (Rf+3)) 27 (0,0)),((Rf+3),.lit [vI 0,vI 2,vI 1,vI 2] 69 (0,0)),((Rf+2),.lit [vI 0,vI 1] 69 (0,0)),((Rf+1),.lit [] 69 (0,0)),((Rf+0),.lit [vI (-12000),vI (-9000),vI (-1),vI 9000,vI 0,vI 0,vI 12000,vI 9000,vI 0,vI (-9000),vI 12000,vI (-1)] 25 (0,0)),((XZ+0),.lit [vI (1+((kv xs 0) % 3)),.slice B_ j d_,vI (-12000),vI (-9000),vI 12000,vI 9000,vS (Rf+0) 0 3 3,.slice (xd (Rf+1) (Rf+2) (Rf+3) (((kv xs 3) % 3).toNat)) (j0 (((kv xs 3) % 3).toNat)) (j0 (((kv xs 3) % 3).toNat)),vI (4000+(((kv xs 1) % 9)*1000)),vI 0,vI ((-(((kv xs 2) / 36) % 3))*40),vI ((((kv xs 1) / 9) % 5)*100),vI (((kv xs 2) % 4)*100),vI ((((kv xs 2) / 4) % 3)*512),vI (1+(((kv xs 2) / 12) % 3)),vI 60] 31 (0,0)),(kb,.rows 1 c_ (aJ zD (ks xs 24++rest)) 3 (0,0)),((n1+0),.lit [vI 0,.slice none 0 0,vI 0,vI 0,vI 0,vI 0,.slice none 0 0,.slice none 0 0,vI 0,vI 0,vI 0,vI 0,vI 0,vI 0,vI 0,vI 0] 31 (0,0))],[V_,U_],(j:Int) <= rg xs /\ bods.length=j /\ (∀t,t<j -> ∃A c,bods.getD t dB=tP xs t A c) /\ (∀t,t<j -> ShH (bods.getD t dB).sh U_) /\ SlIs lh 78 bods B_ d_ V_ /\ cu B_,(rg xs).toNat-j⟩) (0,[],none,0,[],[]) [0,1,2,3,4,5,6,7] [0,1] (⟨by show (0:Int) <= _;omega,rfl,λ t ht=>absurd ht (Nat.not_lt_zero _),λ t ht=>absurd ht (Nat.not_lt_zero _),SlIs.nil _ _,trivial⟩) ?_
  rintro⟨j,bods,B_,d_,V_,U_⟩ ⟨UX,Rp,Wl,S_,UB,ZQ⟩ mt23
  refine ae 2 [] λ _=>RN.draw [] []<|aG [] [0,1,3,2,4,5,6,7,8,9] [.own 5,.row 6 3 0,.nw,.nw,.nw] [aU ((1+((kv xs 0) % 3))+(((kv xs 3) / 3) % 3)),0 <= (kv xs 3) / 3 /\ (0:Int)<3 /\ (kv xs 3) / 3 <= 9223372036854775807,0 <= kv xs 3 /\ (0:Int)<3 /\ kv xs 3 <= 9223372036854775807,3=3*1+0 /\ 3<c_]<|RD.fin<|ae 1 [] λ _=>RN.em ((j:Int)<(1+((kv xs 0) % 3))+(((kv xs 3) / 3) % 3)) 101 (λ h24=>?_) λ h24=>?_
  ·refine ai 13 [.nw,.nw,.ix ((4+(2*(j:Int))).toNat),.row 6 ((4+(2*(j:Int))).toNat) 0] [(0+((4+(2*(j:Int))).toNat)*1)=((4+(2*(j:Int))).toNat)*1+0 /\ ((4+(2*(j:Int))).toNat)<c_,4+(2*(j:Int))=(((4+(2*(j:Int))).toNat:Nat):Int) /\ (4+(2*(j:Int))).toNat<24,aU (4+(2*(j:Int))),aU (2*(j:Int))] λ _=>aB 109 (congrArg (λ v_=>(vI v_:Value)) (Gp (xs:=xs) (rest:=rest) (n:=24) (i:=4+2*j) (by omega))) ?_
   have hbN:=ie hl (4+2*j)
   rw[show kv xs (4+2*j)=bN xs j from rfl] at hbN
   refine ai 11 [.nw,.nw,.ix ((5+(2*(j:Int))).toNat),.row 6 ((5+(2*(j:Int))).toNat) 0] [(0+((5+(2*(j:Int))).toNat)*1)=((5+(2*(j:Int))).toNat)*1+0 /\ ((5+(2*(j:Int))).toNat)<c_,5+(2*(j:Int))=(((5+(2*(j:Int))).toNat:Nat):Int) /\ (5+(2*(j:Int))).toNat<24,aU (5+(2*(j:Int))),aU (2*(j:Int))] λ _=>aB 115 (congrArg (λ v_=>(vI v_:Value)) (Gp (xs:=xs) (rest:=rest) (n:=24) (i:=5+2*j) (by omega))) ?_
   have hbM:=ie hl (5+2*j)
   rw[show kv xs (5+2*j)=bM xs j from rfl] at hbM
   refine ae 6 [] λ _=>RN.ct (Hp:=[]) (Tp:=[]) [] [] (xa (bN xs j) _) ?_
   rintro _ ⟨A25,c26,Ux⟩ ⟨rfl,Xx⟩
   dsimp only at Xx
   refine ai 37 ([.nw,.nw]++ow 0 9++[.nw,.nw,.nw,.nw,.nw,.nw,.nw,.nw,.nw,.nw,.nw,.nw,.nw,.nw,.nw,.nw,.nw,.nw]) [0 <= (bM xs j) / 5000 /\ (0:Int)<5 /\ (bM xs j) / 5000 <= 9223372036854775807,0 <= bM xs j /\ (0:Int)<5000 /\ bM xs j <= 9223372036854775807,aU (((((bN xs j) / 13000) % 9)-4)*300),aU ((((bN xs j) / 13000) % 9)-4),0 <= (bN xs j) / 13000 /\ (0:Int)<9 /\ (bN xs j) / 13000 <= 9223372036854775807,0 <= bN xs j /\ (0:Int)<13000 /\ bN xs j <= 9223372036854775807,aU (((((bM xs j) / 550) % 9)-4)*300),aU ((((bM xs j) / 550) % 9)-4),0 <= (bM xs j) / 550 /\ (0:Int)<9 /\ (bM xs j) / 550 <= 9223372036854775807,0 <= bM xs j /\ (0:Int)<550 /\ bM xs j <= 9223372036854775807,aU (((((bM xs j) / 50) % 11)-5)*800),aU ((((bM xs j) / 50) % 11)-5),0 <= (bM xs j) / 50 /\ (0:Int)<11 /\ (bM xs j) / 50 <= 9223372036854775807,0 <= bM xs j /\ (0:Int)<50 /\ bM xs j <= 9223372036854775807,aU (((((bN xs j) / 1000) % 13)-6)*900),aU ((((bN xs j) / 1000) % 13)-6),0 <= (bN xs j) / 1000 /\ (0:Int)<13 /\ (bN xs j) / 1000 <= 9223372036854775807,0 <= bN xs j /\ (0:Int)<1000 /\ bN xs j <= 9223372036854775807,0 <= bN xs j /\ (0:Int)<7 /\ bN xs j <= 9223372036854775807,0 <= bM xs j /\ (0:Int)<50 /\ bM xs j <= 9223372036854775807] λ n29=>RN.dn 0 (.rows 1 5 (aN [1024,1024,512,2048,0]) 3 (0,0))<|ai 12 ([.ix ((((bM xs j) / 5000) % 5).toNat),.row 0 ((((bM xs j) / 5000) % 5).toNat) 0]++ow 1 5++[.own 7]++ow 1 9) [(0+((((bM xs j) / 5000) % 5).toNat)*1)=((((bM xs j) / 5000) % 5).toNat)*1+0 /\ ((((bM xs j) / 5000) % 5).toNat)<5,((bM xs j) / 5000) % 5=(((((bM xs j) / 5000) % 5).toNat:Nat):Int) /\ (((bM xs j) / 5000) % 5).toNat<5] λ n30=>fR uU bods [tP xs j A25 c26] 1 0 Rp.symm UB (by rw[Rp];show j+1 <= 100000000;omega) ?_
   rintro A31 c32 T33 ⟨hs34,hz35⟩
   refine ai 10 [.own 8,.nw] [aU ((j:Int)+1)] λ _=>?_
   have US:=hz35 ZQ
   refine kV [2,1,0]<|mE ?_
   refine mt23 (j+1,bods++[(tP xs j A25 c26)],A31,c32,T33,U_++Ux) [3,4,5,6,7,8,9,10] [1,0] ?_
   try dsimp only
   refine⟨⟨by omega,by rw[List.length_append,Rp];rfl,?_,?_,hs34,US⟩,by omega⟩
   ·intro t ht
    rcases Nat.lt_or_ge t j with h|h
    ·rw[rh (by omega)];exact Wl t h
    ·have:t=bods.length:=by omega
     subst this
     rw[tQ,Rp];exact⟨_,_,rfl⟩
   ·intro t ht
    rcases Nat.lt_or_ge t j with h|h
    ·rw[rh (by omega)];exact(S_ t h).left
    ·have:t=bods.length:=by omega
     subst this
     rw[tQ];exact ShH.right Xx
  ·refine ae 7 [] λ _=>?_
   have ej:(j:Int)=rg xs:=by unfold rg J5;unfold rg J5 at UX;omega
   obtain⟨bb,Ss,rfl,rfl,R4⟩:=UB.open0 ZQ (by decide) (by rw[Rp];omega)
   refine pK 0 (x:=(bb,.rows 9 d_ (aJ lh (bods++Ss)) 78 (0,0)))<|ae 5 (ow 6 16++ow 8 16) λ _=>RN.dn 5 (.rows 4 3 (aJ xc vi) 25 (0,0))<|RN.dn 3 (.rows 2 1 (aJ ne (lB 1)) 69 (0,0))<|RN.dn 2 (.rows 2 2 (aJ ne (lB 2)) 69 (0,0))<|RN.ret (ow 8 16) [0,5,3,2] [0] (v:=.agg #[vI (1+((kv xs 0) % 3)),vS bb 0 j d_,vI (-12000),vI (-9000),vI 12000,vI 9000,vS (Rf+0) 0 3 3,.slice (xd (Rf+1) (Rf+2) (Rf+3) (((kv xs 3) % 3).toNat)) (j0 (((kv xs 3) % 3).toNat)) (j0 (((kv xs 3) % 3).toNat)),vI (4000+(((kv xs 1) % 9)*1000)),vI 0,vI ((-(((kv xs 2) / 36) % 3))*40),vI ((((kv xs 1) / 9) % 5)*100),vI (((kv xs 2) % 4)*100),vI ((((kv xs 2) / 4) % 3)*512),vI (1+(((kv xs 2) / 12) % 3)),vI 60]) (H':=(ap [(bb,.rows 9 d_ (aJ lh (bods++Ss)) 78 (0,0)),((Rf+0),.rows 4 3 (aJ xc vi) 25 (0,0)),((Rf+2),.rows 2 1 (aJ ne (lB 1)) 69 (0,0)),((Rf+3),.rows 2 2 (aJ ne (lB 2)) 69 (0,0))] [U_])) ?_
   have Tj:∀k,k<j -> (bods++Ss).getD (0+k) dB=bods.getD k dB:=λ k hk=>by rw[Nat.zero_add,rh (by omega)]
   refine⟨((⟨1+((kv xs 0) % 3),bb,0,j,d_,d_,bods++Ss,⟨-12000,-9000,12000,9000⟩,some ⟨(Rf+0),0,none⟩,3,3,xd (Rf+1) (Rf+2) (Rf+3) (kv xs 3 % 3).toNat,j0 (kv xs 3 % 3).toNat,j0 (kv xs 3 % 3).toNat,4000+(((kv xs 1) % 9)*1000),⟨0,(-(((kv xs 2) / 36) % 3))*40⟩,(((kv xs 1) / 9) % 5)*100,((kv xs 2) % 4)*100,(((kv xs 2) / 4) % 3)*512,1+(((kv xs 2) / 12) % 3),60⟩:Setup),[((Rf+0),.rows 4 3 (aJ xc vi) 25 (0,0)),((Rf+2),.rows 2 1 (aJ ne (lB 1)) 69 (0,0)),((Rf+3),.rows 2 2 (aJ ne (lB 2)) 69 (0,0))]++U_),(by simp[ap]),rfl,?_⟩
   refine⟨rfl,ej,rfl,(by rw[Rp] at R4;exact R4),(by rw[Rp] at R4;show 0+j <= d_;omega),⟨rfl,rfl,rfl,rfl,rfl,rfl,rfl,rfl⟩,λ k hk=>?_,λ F hbF hF=>⟨⟨by show (0:Int) <= 1+kv xs 0 % 3 /\ 1+kv xs 0 % 3 <= 1000000;omega,by show j <= 1000000;omega⟩,hbF,by show 0+j <= d_;rw[Rp] at R4;omega,λ k hk=>?_⟩,⟨⟨rfl,rfl⟩,λ F hF=>⟨RowL.whole (xs:=vi) (hF _ (List.mem_append_left _ (List.mem_cons_self))) (Nat.le_refl _),zF (hF _ (List.mem_append_left _ (List.mem_cons_of_mem _ (List.mem_cons_self)))) (hF _ (List.mem_append_left _ (List.mem_cons_of_mem _ (List.mem_cons_of_mem _ (List.mem_cons_self))))) _⟩⟩⟩
   ·obtain⟨A,c,h⟩:=Wl k hk
    exact⟨A,c,by show (bods++Ss).getD (0+k) dB=_;rw[Tj k hk];exact h⟩
   ·show ShIn F ((bods++Ss).getD (0+k) dB).sh
    rw[Tj k hk]
    exact S_ k hk F λ x hx=>hF x (by simp[hx])
def rowN(pl:Int)(xs:List Int)(t:Int)(q:Nat):Int:=if xs.length>0 then au (xs.getD ((t*pl+(q:Int)) % (xs.length:Int)).toNat 0) 1000000 else 0
def xe(n:Int):Inp:=⟨n % 3-1,n / 3 % 3-1,if n / 9 % 3=0 then n / 27 % 4 else 0⟩
def vk(pl:Int)(xs:List Int)(t:Int)(q:Nat):Inp:=xe (rowN pl xs t q)
def rowL(pl:Int)(xs:List Int)(t:Int)(n:Nat):List Inp:=(List.range n).map (vk pl xs t)
theorem fA(pl:Int)(xs:List Int)(t:Int)(n:Nat):(rowL pl xs t n).length=n:=by simp[rowL]
theorem oZ(pl:Int)(xs:List Int)(t:Int)(n:Nat):rowL pl xs t (n+1)=rowL pl xs t n++[vk pl xs t n]:=by simp[rowL,List.range_succ]
theorem Gq{pl:Int}{xs:List Int}{t:Int}{n i:Nat}(h:i<n):(rowL pl xs t n).getD i dI=vk pl xs t i:=by simp[rowL,h]
theorem J6{F:HL}{A:Option Addr}{n:Nat}{xs:List Int}(h:ArgL F A n xs)(pl t:Int)(q:Nat):0 <= rowN pl xs t q /\ rowN pl xs t q<1000000:=by
 unfold rowN
 split
 ·next hi =>
  rw[h.len] at hi
  have h1:=Int.emod_nonneg (t*pl+(q:Int)) (show (n:Int)≠0 by omega)
  have h2:=Int.emod_lt_of_pos (t*pl+(q:Int)) (show (0:Int)<n by omega)
  rw[h.len]
  obtain⟨_,_,_,_,_,_,_,_,_,_,hr⟩:=h.at (k:=((t*pl+(q:Int)) % (n:Int)).toNat) (by omega)
  exact cq hr 1000000 (by decide)
 ·omega
theorem J7(S:Setup)(A:Option Addr)(n cap:Nat)(xs:List Int)(t:Int)(F:HL)(hl:ArgL F A n xs)(hn:n <= 9223372036854775807)(hp:0 <= S.players /\ S.players <= 1000000)(ht:0 <= t /\ t <= 1000000):Sp Tryz.prog 58 #[Setup.v S,.slice A n cap,vI t] (ap [] []) F (λ u H'=>∃x:Option Addr × Nat × HL,H'=ap [] [x.2.2] /\ (u=.slice x.1 S.players.toNat x.2.1 /\ SlIs eE 119 (rowL S.players xs t S.players.toNat) x.1 x.2.1 x.2.2 /\ cu x.1)):=by
 have hm:0 <= t*S.players /\ t*S.players <= 1000000000000:=⟨Int.mul_nonneg ht.1 hp.1,Int.le_trans (Int.mul_le_mul ht.2 hp.2 hp.1 (by decide)) (by decide)⟩
 refine Sp.run Tryz.func58 rfl mn (A:=[]) (Ts:=[]) rfl λ w0=>?_
 refine ae 18 [] λ n1=>RN.nt<|RN.loop (σ:=Nat × Option Addr × Nat × HL) (λ ⟨q,A_,c_,T_⟩=>⟨[(1,.slice A n cap),(2,vI t),(3,vP (n1+0) 0),(7,.slice A_ q c_),(8,vI (q:Int))],[((n1+0),.lit (Setup.l S) 31 (0,0))],[T_],(q:Int) <= S.players /\ SlIs eE 119 (rowL S.players xs t q) A_ c_ T_ /\ cu A_,S.players.toNat-q⟩) (0,none,0,[]) [0] [0] (⟨by show (0:Int) <= _;omega,SlIs.nil _ _,trivial⟩) ?_
 rintro⟨q,A_,c_,T_⟩ ⟨WR,IS,Xq⟩ Ri
 refine ae 9 [.own 0] λ _=>RN.em ((q:Int)<S.players) 14 (λ h4=>?_) λ h4=>?_
 ·refine ae 18 [] λ _=>RN.em ((n:Int)>0) 19 (λ h5=>?_) λ h5=>?_
  ·refine ai 12 [.own 0,.nw,.nw,.nw] [0 <= (t*S.players)+(q:Int) /\ (0:Int)<(n:Int) /\ (t*S.players)+(q:Int) <= 9223372036854775807,aU ((t*S.players)+(q:Int)),aU (t*S.players)] λ _=>?_
   have hix1:=Int.emod_nonneg (t*S.players+(q:Int)) (show (n:Int)≠0 by omega)
   have hix2:=Int.emod_lt_of_pos (t*S.players+(q:Int)) (show (0:Int)<n by omega)
   obtain⟨qx6,Wt,Nx6,gx6,tyx6,fzx6,Y0,Yh,hox6,Yw,Yd⟩:=hl.at (k:=((t*S.players+(q:Int)) % (n:Int)).toNat) (by omega)
   refine aB 20 (congrArg (λ v_=>(.slice v_ n cap:Value)) Y0)<|RN.ro (λ _=>(mc Yh mn))<|ai 2 [.ix ((((t*S.players)+(q:Int)) % (n:Int)).toNat),.rorow 0 (Wt+((((t*S.players)+(q:Int)) % (n:Int)).toNat)) 0] [(Wt+((((t*S.players)+(q:Int)) % (n:Int)).toNat)*1)=(Wt+((((t*S.players)+(q:Int)) % (n:Int)).toNat))*1+0 /\ (Wt+((((t*S.players)+(q:Int)) % (n:Int)).toNat))<Nx6,((t*S.players)+(q:Int)) % (n:Int)=(((((t*S.players)+(q:Int)) % (n:Int)).toNat:Nat):Int) /\ (((t*S.players)+(q:Int)) % (n:Int)).toNat<n] λ _=>aB 31 (congrArg (λ v_=>(v_:Value)) Yw)<|RN.cp (gt (xs.getD (((t*S.players+(q:Int)) % (n:Int)).toNat) 0) 1000000 (by decide) _) ?_
   have hA7:=cq (n:=xs.getD (((t*S.players+(q:Int)) % (n:Int)).toNat) 0) Yd 1000000 (by decide)
   refine ae 4 [] λ _=>ai 22 [.nw,.nw,.nw,.nw,.nw,.own 0,.own 0,.own 0,.nw,.nw] [0 <= (au (xs.getD (((t*S.players+(q:Int)) % (n:Int)).toNat) 0) 1000000) / 9 /\ (0:Int)<3 /\ (au (xs.getD (((t*S.players+(q:Int)) % (n:Int)).toNat) 0) 1000000) / 9 <= 9223372036854775807,0 <= au (xs.getD (((t*S.players+(q:Int)) % (n:Int)).toNat) 0) 1000000 /\ (0:Int)<9 /\ au (xs.getD (((t*S.players+(q:Int)) % (n:Int)).toNat) 0) 1000000 <= 9223372036854775807,aU ((((au (xs.getD (((t*S.players+(q:Int)) % (n:Int)).toNat) 0) 1000000) / 3) % 3)-1),0 <= (au (xs.getD (((t*S.players+(q:Int)) % (n:Int)).toNat) 0) 1000000) / 3 /\ (0:Int)<3 /\ (au (xs.getD (((t*S.players+(q:Int)) % (n:Int)).toNat) 0) 1000000) / 3 <= 9223372036854775807,0 <= au (xs.getD (((t*S.players+(q:Int)) % (n:Int)).toNat) 0) 1000000 /\ (0:Int)<3 /\ au (xs.getD (((t*S.players+(q:Int)) % (n:Int)).toNat) 0) 1000000 <= 9223372036854775807,aU (((au (xs.getD (((t*S.players+(q:Int)) % (n:Int)).toNat) 0) 1000000) % 3)-1),0 <= au (xs.getD (((t*S.players+(q:Int)) % (n:Int)).toNat) 0) 1000000 /\ (0:Int)<3 /\ au (xs.getD (((t*S.players+(q:Int)) % (n:Int)).toNat) 0) 1000000 <= 9223372036854775807] λ n8=>RN.em (((au (xs.getD (((t*S.players+(q:Int)) % (n:Int)).toNat) 0) 1000000) / 9) % 3=0) 44 (λ h9=>?_) λ h9=>?_
   ·refine ai 13 [.nw,.nw,.own 0,.own 0,.own 0,.own 0] [0 <= (au (xs.getD (((t*S.players+(q:Int)) % (n:Int)).toNat) 0) 1000000) / 27 /\ (0:Int)<4 /\ (au (xs.getD (((t*S.players+(q:Int)) % (n:Int)).toNat) 0) 1000000) / 27 <= 9223372036854775807,0 <= au (xs.getD (((t*S.players+(q:Int)) % (n:Int)).toNat) 0) 1000000 /\ (0:Int)<27 /\ au (xs.getD (((t*S.players+(q:Int)) % (n:Int)).toNat) 0) 1000000 <= 9223372036854775807] λ Sg=>?_
    have RU:vk S.players xs t q=(⟨((au (xs.getD (((t*S.players+(q:Int)) % (n:Int)).toNat) 0) 1000000) % 3)-1,(((au (xs.getD (((t*S.players+(q:Int)) % (n:Int)).toNat) 0) 1000000) / 3) % 3)-1,((au (xs.getD (((t*S.players+(q:Int)) % (n:Int)).toNat) 0) 1000000) / 27) % 4⟩:Inp):=by
     unfold vk
     rw[show rowN S.players xs t q=au (xs.getD (((t*S.players+(q:Int)) % (n:Int)).toNat) 0) 1000000 from by unfold rowN;rw[hl.len];rw[if_pos (by omega)]]
     first|rfl|(unfold xe;simp only[if_pos h9])
    refine fR qS (rowL S.players xs t q) [(⟨((au (xs.getD (((t*S.players+(q:Int)) % (n:Int)).toNat) 0) 1000000) % 3)-1,(((au (xs.getD (((t*S.players+(q:Int)) % (n:Int)).toNat) 0) 1000000) / 3) % 3)-1,((au (xs.getD (((t*S.players+(q:Int)) % (n:Int)).toNat) 0) 1000000) / 27) % 4⟩:Inp)] 0 0 (fA _ _ _ _).symm IS (by rw[fA];show q+1 <= 100000000;omega) ?_
    rintro Xj Xf To ⟨Ta,WA⟩
    refine ai 9 [.nw] [aU ((q:Int)+1)] λ _=>?_
    have US:=WA Xq
    refine Ri (q+1,Xj,Xf,To) [2] [0] ?_
    try dsimp only
    refine⟨⟨by omega,?_,US⟩,by omega⟩
    rw[oZ,RU]
    exact Ta
   ·refine ae 7 [.own 0,.own 0,.own 0] λ n16=>?_
    have RU:vk S.players xs t q=(⟨((au (xs.getD (((t*S.players+(q:Int)) % (n:Int)).toNat) 0) 1000000) % 3)-1,(((au (xs.getD (((t*S.players+(q:Int)) % (n:Int)).toNat) 0) 1000000) / 3) % 3)-1,0⟩:Inp):=by
     unfold vk
     rw[show rowN S.players xs t q=au (xs.getD (((t*S.players+(q:Int)) % (n:Int)).toNat) 0) 1000000 from by unfold rowN;rw[hl.len];rw[if_pos (by omega)]]
     first|rfl|(unfold xe;simp only[if_neg h9])
    refine fR qS (rowL S.players xs t q) [(⟨((au (xs.getD (((t*S.players+(q:Int)) % (n:Int)).toNat) 0) 1000000) % 3)-1,(((au (xs.getD (((t*S.players+(q:Int)) % (n:Int)).toNat) 0) 1000000) / 3) % 3)-1,0⟩:Inp)] 0 0 (fA _ _ _ _).symm IS (by rw[fA];show q+1 <= 100000000;omega) ?_
    rintro Zi Zc Uh ⟨hs20,hz21⟩
    refine ai 9 [.nw] [aU ((q:Int)+1)] λ _=>?_
    have US:=hz21 Xq
    refine Ri (q+1,Zi,Zc,Uh) [2] [0] ?_
    try dsimp only
    refine⟨⟨by omega,?_,US⟩,by omega⟩
    rw[oZ,RU]
    exact hs20
  ·refine ae 4 [] λ _=>ae 35 (ow 0 7) λ n22=>?_
   have RU:vk S.players xs t q=(⟨(-1),(-1),0⟩:Inp):=by
    unfold vk
    rw[show rowN S.players xs t q=0 from by unfold rowN;rw[hl.len];rw[if_neg (by omega)]]
    rfl
   refine fR qS (rowL S.players xs t q) [(⟨(-1),(-1),0⟩:Inp)] 0 0 (fA _ _ _ _).symm IS (by rw[fA];show q+1 <= 100000000;omega) ?_
   rintro A23 c24 XV ⟨hs26,hz27⟩
   refine ai 9 [.nw] [aU ((q:Int)+1)] λ _=>?_
   have US:=hz27 Xq
   refine Ri (q+1,A23,c24,XV) [2] [0] ?_
   try dsimp only
   refine⟨⟨by omega,?_,US⟩,by omega⟩
   rw[oZ,RU]
   exact hs26
 ·refine ae 12 [] λ _=>RN.ret [] [] [0] (v:=.slice A_ q c_) (H':=(ap [] [T_])) ?_
  have ei:q=S.players.toNat:=by omega
  subst ei
  exact⟨(A_,c_,T_),rfl,rfl,IS,Xq⟩
theorem p8(a:Addr)(n c:Nat)(xs:List Bod)(F:HL)(hl:SrcIn Tryz.prog lh F (some a) n xs)(hb:n <= 100000000):Sp Tryz.prog 79 #[.slice (some a) n c] [] F (λ u H'=>∃x:Option Addr × Nat × HL,H'=ap [] [x.2.2] /\ (u=.slice x.1 n x.2.1 /\ ClS lh 78 xs x.1 x.2.1 x.2.2)):=by
 refine Sp.run Tryz.func79 rfl mn (A:=[]) (Ts:=[]) rfl λ w0=>?_
 refine ae 19 [] λ n1=>RN.nt<|jy (A:=(some ⟨(n1+0),0,none⟩)) (B:=(some a)) (c':=c) uU xs 0 (λ a_ e_=>by cases e_;rfl) (m:=n) (tx:=23) hl.1.1.symm (by rw[hl.1.1];exact hb) (λ e_ he X w hR=>hl.2 c he X w hR) ?_
 rintro A2 c3 T4 Sd
 refine ae 3 [] λ _=>RN.ret [] [] [0] (v:=.slice A2 xs.length c3) (H':=(ap [] [T4])) ?_
 exact⟨(A2,c3,T4),rfl,by rw[hl.1.1],_,Sd⟩
theorem p9(c:Nat)(F:HL):Sp Tryz.prog 79 #[.slice none 0 c] [] F (λ u H'=>∃x:Option Addr × Nat × HL,H'=ap [] [x.2.2] /\ (u=.slice x.1 0 x.2.1 /\ ClS lh 78 [] x.1 x.2.1 x.2.2)):=by
 refine Sp.run Tryz.func79 rfl mn (A:=[]) (Ts:=[]) rfl λ w0=>?_
 refine ae 18 [] λ _=>RN.ret [] [] [] (v:=.slice none 0 0) (H':=(ap [] [])) ?_
 exact⟨(none,0,[]),rfl,rfl,.nil _ _ _⟩
theorem lC(A:Option Addr)(n c:Nat)(xs:List Bod)(F:HL)(hl:SrcIn Tryz.prog lh F A n xs)(hb:n <= 100000000):Sp Tryz.prog 79 #[.slice A n c] (ap [] []) F (λ u H'=>∃x:Option Addr × Nat × HL,H'=ap [] [x.2.2] /\ (u=.slice x.1 n x.2.1 /\ ClS lh 78 xs x.1 x.2.1 x.2.2)):=by
 cases A with
 | some a=>exact p8 a n c xs F hl hb
 | none =>
  obtain rfl:n=0:=hl.1.2 rfl
  obtain rfl:xs=[]:=List.eq_nil_of_length_eq_zero hl.1.1
  exact p9 c F
theorem ri(a:Addr)(n c:Nat)(xs:List V2)(F:HL)(hl:SrcIn Tryz.prog lA F (some a) n xs)(hb:n <= 100000000):Sp Tryz.prog 80 #[.slice (some a) n c] [] F (λ u H'=>∃x:Option Addr × Nat × HL,H'=ap [] [x.2.2] /\ (u=.slice x.1 n x.2.1 /\ ClS lA 29 xs x.1 x.2.1 x.2.2)):=by
 refine Sp.run Tryz.func80 rfl mn (A:=[]) (Ts:=[]) rfl λ w0=>?_
 refine ae 19 [] λ n1=>RN.nt<|jy (A:=(some ⟨(n1+0),0,none⟩)) (B:=(some a)) (c':=c) zE xs 0 (λ a_ e_=>by cases e_;rfl) (m:=n) (tx:=71) hl.1.1.symm (by rw[hl.1.1];exact hb) (λ e_ he X w hR=>hl.2 c he X w hR) ?_
 rintro A2 c3 T4 Sd
 refine ae 3 [] λ _=>RN.ret [] [] [0] (v:=.slice A2 xs.length c3) (H':=(ap [] [T4])) ?_
 exact⟨(A2,c3,T4),rfl,by rw[hl.1.1],_,Sd⟩
theorem rj(c:Nat)(F:HL):Sp Tryz.prog 80 #[.slice none 0 c] [] F (λ u H'=>∃x:Option Addr × Nat × HL,H'=ap [] [x.2.2] /\ (u=.slice x.1 0 x.2.1 /\ ClS lA 29 [] x.1 x.2.1 x.2.2)):=by
 refine Sp.run Tryz.func80 rfl mn (A:=[]) (Ts:=[]) rfl λ w0=>?_
 refine ae 18 [] λ _=>RN.ret [] [] [] (v:=.slice none 0 0) (H':=(ap [] [])) ?_
 exact⟨(none,0,[]),rfl,rfl,.nil _ _ _⟩
theorem mH(A:Option Addr)(n c:Nat)(xs:List V2)(F:HL)(hl:SrcIn Tryz.prog lA F A n xs)(hb:n <= 100000000):Sp Tryz.prog 80 #[.slice A n c] (ap [] []) F (λ u H'=>∃x:Option Addr × Nat × HL,H'=ap [] [x.2.2] /\ (u=.slice x.1 n x.2.1 /\ ClS lA 29 xs x.1 x.2.1 x.2.2)):=by
 cases A with
 | some a=>exact ri a n c xs F hl hb
 | none =>
  obtain rfl:n=0:=hl.1.2 rfl
  obtain rfl:xs=[]:=List.eq_nil_of_length_eq_zero hl.1.1
  exact rj c F
theorem rk(a:Addr)(n c:Nat)(xs:List Bx)(F:HL)(hl:SrcIn Tryz.prog xc F (some a) n xs)(hb:n <= 100000000):Sp Tryz.prog 81 #[.slice (some a) n c] [] F (λ u H'=>∃x:Option Addr × Nat × HL,H'=ap [] [x.2.2] /\ (u=.slice x.1 n x.2.1 /\ ClS xc 25 xs x.1 x.2.1 x.2.2)):=by
 refine Sp.run Tryz.func81 rfl mn (A:=[]) (Ts:=[]) rfl λ w0=>?_
 refine ae 19 [] λ n1=>RN.nt<|jy (A:=(some ⟨(n1+0),0,none⟩)) (B:=(some a)) (c':=c) Gl xs 0 (λ a_ e_=>by cases e_;rfl) (m:=n) (tx:=26) hl.1.1.symm (by rw[hl.1.1];exact hb) (λ e_ he X w hR=>hl.2 c he X w hR) ?_
 rintro A2 c3 T4 Sd
 refine ae 3 [] λ _=>RN.ret [] [] [0] (v:=.slice A2 xs.length c3) (H':=(ap [] [T4])) ?_
 exact⟨(A2,c3,T4),rfl,by rw[hl.1.1],_,Sd⟩
theorem rm(c:Nat)(F:HL):Sp Tryz.prog 81 #[.slice none 0 c] [] F (λ u H'=>∃x:Option Addr × Nat × HL,H'=ap [] [x.2.2] /\ (u=.slice x.1 0 x.2.1 /\ ClS xc 25 [] x.1 x.2.1 x.2.2)):=by
 refine Sp.run Tryz.func81 rfl mn (A:=[]) (Ts:=[]) rfl λ w0=>?_
 refine ae 18 [] λ _=>RN.ret [] [] [] (v:=.slice none 0 0) (H':=(ap [] [])) ?_
 exact⟨(none,0,[]),rfl,rfl,.nil _ _ _⟩
theorem mI(A:Option Addr)(n c:Nat)(xs:List Bx)(F:HL)(hl:SrcIn Tryz.prog xc F A n xs)(hb:n <= 100000000):Sp Tryz.prog 81 #[.slice A n c] (ap [] []) F (λ u H'=>∃x:Option Addr × Nat × HL,H'=ap [] [x.2.2] /\ (u=.slice x.1 n x.2.1 /\ ClS xc 25 xs x.1 x.2.1 x.2.2)):=by
 cases A with
 | some a=>exact rk a n c xs F hl hb
 | none =>
  obtain rfl:n=0:=hl.1.2 rfl
  obtain rfl:xs=[]:=List.eq_nil_of_length_eq_zero hl.1.1
  exact rm c F
theorem qa(a:Addr)(n c:Nat)(xs:List Dr)(F:HL)(hl:SrcIn Tryz.prog ne F (some a) n xs)(hb:n <= 100000000):Sp Tryz.prog 82 #[.slice (some a) n c] [] F (λ u H'=>∃x:Option Addr × Nat × HL,H'=ap [] [x.2.2] /\ (u=.slice x.1 n x.2.1 /\ ClS ne 69 xs x.1 x.2.1 x.2.2)):=by
 refine Sp.run Tryz.func82 rfl mn (A:=[]) (Ts:=[]) rfl λ w0=>?_
 refine ae 19 [] λ n1=>RN.nt<|jy (A:=(some ⟨(n1+0),0,none⟩)) (B:=(some a)) (c':=c) Gn xs 0 (λ a_ e_=>by cases e_;rfl) (m:=n) (tx:=27) hl.1.1.symm (by rw[hl.1.1];exact hb) (λ e_ he X w hR=>hl.2 c he X w hR) ?_
 rintro A2 c3 T4 Sd
 refine ae 3 [] λ _=>RN.ret [] [] [0] (v:=.slice A2 xs.length c3) (H':=(ap [] [T4])) ?_
 exact⟨(A2,c3,T4),rfl,by rw[hl.1.1],_,Sd⟩
theorem qb(c:Nat)(F:HL):Sp Tryz.prog 82 #[.slice none 0 c] [] F (λ u H'=>∃x:Option Addr × Nat × HL,H'=ap [] [x.2.2] /\ (u=.slice x.1 0 x.2.1 /\ ClS ne 69 [] x.1 x.2.1 x.2.2)):=by
 refine Sp.run Tryz.func82 rfl mn (A:=[]) (Ts:=[]) rfl λ w0=>?_
 refine ae 18 [] λ _=>RN.ret [] [] [] (v:=.slice none 0 0) (H':=(ap [] [])) ?_
 exact⟨(none,0,[]),rfl,rfl,.nil _ _ _⟩
theorem lD(A:Option Addr)(n c:Nat)(xs:List Dr)(F:HL)(hl:SrcIn Tryz.prog ne F A n xs)(hb:n <= 100000000):Sp Tryz.prog 82 #[.slice A n c] (ap [] []) F (λ u H'=>∃x:Option Addr × Nat × HL,H'=ap [] [x.2.2] /\ (u=.slice x.1 n x.2.1 /\ ClS ne 69 xs x.1 x.2.1 x.2.2)):=by
 cases A with
 | some a=>exact qa a n c xs F hl hb
 | none =>
  obtain rfl:n=0:=hl.1.2 rfl
  obtain rfl:xs=[]:=List.eq_nil_of_length_eq_zero hl.1.1
  exact qb c F
theorem rq(a:Addr)(n c:Nat)(xs:List Ins)(F:HL)(hl:SrcIn Tryz.prog iq F (some a) n xs)(hb:n <= 100000000):Sp Tryz.prog 147 #[.slice (some a) n c] [] F (λ u H'=>∃x:Option Addr × Nat × HL,H'=ap [] [x.2.2] /\ (u=.slice x.1 n x.2.1 /\ ClS iq 155 xs x.1 x.2.1 x.2.2)):=by
 refine Sp.run Tryz.func147 rfl mn (A:=[]) (Ts:=[]) rfl λ w0=>?_
 refine ae 19 [] λ n1=>RN.nt<|jy (A:=(some ⟨(n1+0),0,none⟩)) (B:=(some a)) (c':=c) Fx xs 0 (λ a_ e_=>by cases e_;rfl) (m:=n) (tx:=106) hl.1.1.symm (by rw[hl.1.1];exact hb) (λ e_ he X w hR=>hl.2 c he X w hR) ?_
 rintro A2 c3 T4 Sd
 refine ae 3 [] λ _=>RN.ret [] [] [0] (v:=.slice A2 xs.length c3) (H':=(ap [] [T4])) ?_
 exact⟨(A2,c3,T4),rfl,by rw[hl.1.1],_,Sd⟩
theorem rt(c:Nat)(F:HL):Sp Tryz.prog 147 #[.slice none 0 c] [] F (λ u H'=>∃x:Option Addr × Nat × HL,H'=ap [] [x.2.2] /\ (u=.slice x.1 0 x.2.1 /\ ClS iq 155 [] x.1 x.2.1 x.2.2)):=by
 refine Sp.run Tryz.func147 rfl mn (A:=[]) (Ts:=[]) rfl λ w0=>?_
 refine ae 18 [] λ _=>RN.ret [] [] [] (v:=.slice none 0 0) (H':=(ap [] [])) ?_
 exact⟨(none,0,[]),rfl,rfl,.nil _ _ _⟩
theorem mJ(A:Option Addr)(n c:Nat)(xs:List Ins)(F:HL)(hl:SrcIn Tryz.prog iq F A n xs)(hb:n <= 100000000):Sp Tryz.prog 147 #[.slice A n c] (ap [] []) F (λ u H'=>∃x:Option Addr × Nat × HL,H'=ap [] [x.2.2] /\ (u=.slice x.1 n x.2.1 /\ ClS iq 155 xs x.1 x.2.1 x.2.2)):=by
 cases A with
 | some a=>exact rq a n c xs F hl hb
 | none =>
  obtain rfl:n=0:=hl.1.2 rfl
  obtain rfl:xs=[]:=List.eq_nil_of_length_eq_zero hl.1.1
  exact rt c F
theorem o0(a:Addr)(n c:Nat)(xs:List Inp)(F:HL)(hl:SrcIn Tryz.prog eE F (some a) n xs)(hb:n <= 100000000):Sp Tryz.prog 51 #[.slice (some a) n c] [] F (λ u H'=>∃x:Option Addr × Nat × HL,H'=ap [] [x.2.2] /\ (u=.slice x.1 n x.2.1 /\ ClS eE 119 xs x.1 x.2.1 x.2.2)):=by
 refine Sp.run Tryz.func51 rfl mn (A:=[]) (Ts:=[]) rfl λ w0=>?_
 refine ae 19 [] λ n1=>RN.nt<|jy (A:=(some ⟨(n1+0),0,none⟩)) (B:=(some a)) (c':=c) qS xs 0 (λ a_ e_=>by cases e_;rfl) (m:=n) (tx:=54) hl.1.1.symm (by rw[hl.1.1];exact hb) (λ e_ he X w hR=>hl.2 c he X w hR) ?_
 rintro A2 c3 T4 Sd
 refine ae 3 [] λ _=>RN.ret [] [] [0] (v:=.slice A2 xs.length c3) (H':=(ap [] [T4])) ?_
 exact⟨(A2,c3,T4),rfl,by rw[hl.1.1],_,Sd⟩
theorem o7(c:Nat)(F:HL):Sp Tryz.prog 51 #[.slice none 0 c] [] F (λ u H'=>∃x:Option Addr × Nat × HL,H'=ap [] [x.2.2] /\ (u=.slice x.1 0 x.2.1 /\ ClS eE 119 [] x.1 x.2.1 x.2.2)):=by
 refine Sp.run Tryz.func51 rfl mn (A:=[]) (Ts:=[]) rfl λ w0=>?_
 refine ae 18 [] λ _=>RN.ret [] [] [] (v:=.slice none 0 0) (H':=(ap [] [])) ?_
 exact⟨(none,0,[]),rfl,rfl,.nil _ _ _⟩
theorem qd(A:Option Addr)(n c:Nat)(xs:List Inp)(F:HL)(hl:SrcIn Tryz.prog eE F A n xs)(hb:n <= 100000000):Sp Tryz.prog 51 #[.slice A n c] (ap [] []) F (λ u H'=>∃x:Option Addr × Nat × HL,H'=ap [] [x.2.2] /\ (u=.slice x.1 n x.2.1 /\ ClS eE 119 xs x.1 x.2.1 x.2.2)):=by
 cases A with
 | some a=>exact o0 a n c xs F hl hb
 | none =>
  obtain rfl:n=0:=hl.1.2 rfl
  obtain rfl:xs=[]:=List.eq_nil_of_length_eq_zero hl.1.1
  exact o7 c F
def eG(lo hi:Int)(ns:List Int):Prop:=∀k,k<ns.length -> lo <= ns.getD k 0 /\ ns.getD k 0 <= hi
instance (lo hi:Int) (ns:List Int):Decidable (eG lo hi ns):=inferInstanceAs (Decidable (∀k,k<ns.length -> _))
theorem xf(lo hi:Int):eG lo hi []:=λ k hk=>absurd hk (Nat.not_lt_zero _)
theorem tR{lo hi x:Int}{ns:List Int}:eG lo hi (x::ns)↔(lo <= x /\ x <= hi) /\ eG lo hi ns:=by
 constructor
 ·intro h
  exact⟨h 0 (Nat.succ_pos _),λ k hk=>h (k+1) (Nat.succ_lt_succ hk)⟩
 ·rintro⟨h1,h2⟩ k hk
  cases k with
  | zero=>exact h1
  | succ k=>exact h2 k (Nat.lt_of_succ_lt_succ hk)
theorem eF(lo hi:Int)(ns:List Int)(q:Nat)(F:HL)(hq:(q,.rows 1 ns.length (aN ns) 3 (0,0))∈F)(hn:ns.length <= 1000000):Sp Tryz.prog 120 #[vI lo,vI hi,vS q 0 ns.length ns.length] [] F (λ u H'=>u=.bool (decide (eG lo hi ns)) /\ H'=[]):=by
 refine Sp.run Tryz.func120 rfl (mc hq mn) (A:=[]) (Ts:=[]) rfl λ w0=>?_
 refine ae 14 [] λ _=>RN.loop (σ:=Nat) (λ k=>⟨[(0,vI lo),(1,vI hi),(9,vS q 0 ns.length ns.length),(10,vI (ns.length:Int)),(11,vI (k:Int))],[],[],k <= ns.length /\ ∀t,t<k -> lo <= ns.getD t 0 /\ ns.getD t 0 <= hi,ns.length-k⟩) 0 [] [] (⟨Nat.zero_le _,λ t ht=>absurd ht (Nat.not_lt_zero _)⟩) ?_
 rintro k ⟨hkl,hwk⟩ Rx
 refine ae 6 [] λ _=>RN.em ((k:Int)<(ns.length:Int)) 12 (λ h3=>?_) λ h3=>?_
 ·refine ai 18 [.ix k,.rorow 0 k 0] [(0+k*1)=k*1+0 /\ k<ns.length,(k:Int)=((k:Nat):Int) /\ k<ns.length] λ _=>RN.em (ns.getD k 0<lo) 18 (λ h4=>?_) λ h4=>?_
  ·refine ae 12 [] λ _=>RN.ret [] [] [] (v:=.bool false) (H':=[]) ?_
   exact⟨by rw[decide_eq_false (show ¬ eG lo hi ns from λ h_=>by have:=h_ k (by omega);omega)],rfl⟩
  ·refine ae 6 [] λ _=>RN.em (ns.getD k 0>hi) 22 (λ h5=>?_) λ h5=>?_
   ·refine ae 6 [] λ _=>RN.ret [] [] [] (v:=.bool false) (H':=[]) ?_
    exact⟨by rw[decide_eq_false (show ¬ eG lo hi ns from λ h_=>by have:=h_ k (by omega);omega)],rfl⟩
   ·refine ai 8 [.nw] [aU ((k:Int)+1)] λ _=>?_
    refine Rx (k+1) [] [] ?_
    try dsimp only
    refine⟨⟨by omega,λ t ht=>?_⟩,by omega⟩
    rcases Nat.lt_or_ge t k with h_|h_
    ·exact hwk t h_
    ·obtain rfl:t=k:=by omega
     exact⟨by omega,by omega⟩
 ·refine ae 11 [] λ _=>RN.ret [] [] [] (v:=.bool true) (H':=[]) ?_
  exact⟨by rw[decide_eq_true (show eG lo hi ns from λ t ht=>hwk t (by omega))],rfl⟩
def gB(b:Bx):Prop:=(b.x0 <= b.x1 /\ b.y0 <= b.y1) /\ eG (-1048576) 1048576 [b.x0,b.y0,b.x1,b.y1]
instance (b:Bx):Decidable (gB b):=inferInstanceAs (Decidable (_ /\ _))
def fv(b:Bod)(x:Bx):Prop:=eG 0 4096 [b.mot.inv] /\ eG (-16384) 16384 [b.mot.vx,b.mot.vy] /\ eG x.x0 x.x1 [b.mot.px] /\ eG x.y0 x.y1 [b.mot.py] /\ eG (-2147483647) 2147483647 [b.a,b.b]
instance (b:Bod) (x:Bx):Decidable (fv b x):=inferInstanceAs (Decidable (_ /\ _))
def jz(S:Setup):Prop:=eG 1 8 [S.players] /\ eG S.players 24 [(S.nb:Int)] /\ eG 0 4194304 [S.fog] /\ eG (-16384) 16384 [S.g.x,S.g.y] /\ eG 0 16384 [S.push] /\ eG 0 1024 [S.drag,S.rest] /\ eG 1 4 [S.rounds] /\ eG 0 1000 [S.fuel]
instance (S:Setup):Decidable (jz S):=inferInstanceAs (Decidable (_ /\ _))
theorem ru(b:Bx)  (F:HL):Sp Tryz.prog 95 #[.agg #[vI b.x0,vI b.y0,vI b.x1,vI b.y1]] [] F (λ u H'=>u=.bool (decide (gB b)) /\ H'=[]):=by
 refine Sp.run Tryz.func95 rfl mn (A:=[]) (Ts:=[]) rfl λ w0=>?_
 refine ae 14 [.own 0,.own 0] λ n1=>RN.em (b.x0 <= b.x1) 8 (λ h2=>?_) λ h2=>?_
 ·refine ae 7 [.own 0,.own 0] λ _=>RN.em (b.y0 <= b.y1) 15 (λ h3=>?_) λ h3=>?_
  ·refine ae 9 [.own 0,.own 0,.own 0,.own 0] λ n4=>RN.dn 0 (.rows 1 4 (aN [b.x0,b.y0,b.x1,b.y1]) 3 (0,0))<|RN.cp (eF (-1048576) 1048576 [b.x0,b.y0,b.x1,b.y1] (n4+0) _ (az 0) (Nat.le_of_ble_eq_true rfl))<|ae 4 [] λ _=>RN.ret [] [] [] (v:=.bool (decide (eG (-1048576) 1048576 [b.x0,b.y0,b.x1,b.y1]))) (H':=[]) ?_
   exact⟨by simp[gB, *],rfl⟩
  ·refine ae 14 [] λ _=>RN.ret [] [] [] (v:=.bool false) (H':=[]) ?_
   exact⟨by simp[gB, *],rfl⟩
 ·refine ae 21 [] λ _=>RN.ret [] [] [] (v:=.bool false) (H':=[]) ?_
  exact⟨by simp[gB, *],rfl⟩
theorem Dy(b:Bod)(x:Bx)(F:HL):Sp Tryz.prog 97 #[.agg #[vI b.sh.r,.slice b.sh.A b.sh.poly.length b.sh.cap,vI b.mot.px,vI b.mot.py,vI b.mot.vx,vI b.mot.vy,vI b.mot.inv,vI b.a,vI b.b],.agg #[vI x.x0,vI x.y0,vI x.x1,vI x.y1]] [] F (λ u H'=>u=.bool (decide (fv b x)) /\ H'=[]):=by
 refine Sp.run Tryz.func97 rfl mn (A:=[]) (Ts:=[]) rfl λ w0=>?_
 refine ae 20 (ow 1 5++ow 0 6) λ n1=>RN.dn 0 (.rows 1 1 (aN [b.mot.inv]) 3 (0,0))<|RN.cp (eF 0 4096 [b.mot.inv] (n1+3) _ (az 0) (Nat.le_of_ble_eq_true rfl))<|ae 1 [] λ _=>RN.em (eG 0 4096 [b.mot.inv]) 12 (λ h2=>?_) λ h2=>?_
 ·refine ae 7 [.own 1,.own 1] λ n3=>RN.dn 0 (.rows 1 2 (aN [b.mot.vx,b.mot.vy]) 3 (0,0))<|RN.cp (eF (-16384) 16384 [b.mot.vx,b.mot.vy] (n3+0) _ (az 0) (Nat.le_of_ble_eq_true rfl))<|ae 2 [] λ _=>RN.em (eG (-16384) 16384 [b.mot.vx,b.mot.vy]) 22 (λ h4=>?_) λ h4=>?_
  ·refine ae 8 [.own 3,.own 3,.own 2] λ n5=>RN.dn 0 (.rows 1 1 (aN [b.mot.px]) 3 (0,0))<|RN.cp (eF x.x0 x.x1 [b.mot.px] (n5+0) _ (az 0) (Nat.le_of_ble_eq_true rfl))<|ae 2 [] λ _=>RN.em (eG x.x0 x.x1 [b.mot.px]) 33 (λ h6=>?_) λ h6=>?_
   ·refine ae 8 [.own 4,.own 4,.own 3] λ n7=>RN.dn 0 (.rows 1 1 (aN [b.mot.py]) 3 (0,0))<|RN.cp (eF x.y0 x.y1 [b.mot.py] (n7+0) _ (az 0) (Nat.le_of_ble_eq_true rfl))<|ae 2 [] λ _=>RN.em (eG x.y0 x.y1 [b.mot.py]) 44 (λ h8=>?_) λ h8=>?_
    ·refine ae 5 [.own 6,.own 6] λ n9=>RN.dn 0 (.rows 1 2 (aN [b.a,b.b]) 3 (0,0))<|RN.cp (eF (-2147483647) 2147483647 [b.a,b.b] (n9+0) _ (az 0) (Nat.le_of_ble_eq_true rfl))<|ae 4 [] λ _=>RN.ret [] [] [] (v:=.bool (decide (eG (-2147483647) 2147483647 [b.a,b.b]))) (H':=[]) ?_
     exact⟨by simp[fv, *],rfl⟩
    ·refine ae 10 [] λ _=>RN.ret [] [] [] (v:=.bool false) (H':=[]) ?_
     exact⟨by simp[fv, *],rfl⟩
   ·refine ae 21 [] λ _=>RN.ret [] [] [] (v:=.bool false) (H':=[]) ?_
    exact⟨by simp[fv, *],rfl⟩
  ·refine ae 32 [] λ _=>RN.ret [] [] [] (v:=.bool false) (H':=[]) ?_
   exact⟨by simp[fv, *],rfl⟩
 ·refine ae 42 [] λ _=>RN.ret [] [] [] (v:=.bool false) (H':=[]) ?_
  exact⟨by simp[fv, *],rfl⟩
theorem Gr(S:Setup)(F:HL):Sp Tryz.prog 94 #[(Setup.v S)] [] F (λ u H'=>u=.bool (decide (jz S)) /\ H'=[]):=by
 refine Sp.run Tryz.func94 rfl mn (A:=[]) (Ts:=[]) rfl λ w0=>?_
 refine ae 11 [.own 0] λ n1=>RN.dn 0 (.rows 1 1 (aN [S.players]) 3 (0,0))<|RN.cp (eF 1 8 [S.players] (n1+1) _ (az 0) (Nat.le_of_ble_eq_true rfl))<|ae 1 [] λ _=>RN.em (eG 1 8 [S.players]) 7 (λ h2=>?_) λ h2=>?_
 ·refine ae 6 [.own 1,.own 1] λ n3=>RN.dn 0 (.rows 1 1 (aN [(S.nb:Int)]) 3 (0,0))<|RN.cp (eF S.players 24 [(S.nb:Int)] (n3+0) _ (az 0) (Nat.le_of_ble_eq_true rfl))<|ae 2 [] λ _=>RN.em (eG S.players 24 [(S.nb:Int)]) 16 (λ h4=>?_) λ h4=>?_
  ·refine ae 3 [.own 2] λ n5=>RN.dn 0 (.rows 1 1 (aN [S.fog]) 3 (0,0))<|RN.cp (eF 0 4194304 [S.fog] (n5+0) _ (az 0) (Nat.le_of_ble_eq_true rfl))<|ae 2 [] λ _=>RN.em (eG 0 4194304 [S.fog]) 22 (λ h6=>?_) λ h6=>?_
   ·refine ae 7 [.own 3,.own 3] λ n7=>RN.dn 0 (.rows 1 2 (aN [S.g.x,S.g.y]) 3 (0,0))<|RN.cp (eF (-16384) 16384 [S.g.x,S.g.y] (n7+0) _ (az 0) (Nat.le_of_ble_eq_true rfl))<|ae 2 [] λ _=>RN.em (eG (-16384) 16384 [S.g.x,S.g.y]) 32 (λ h8=>?_) λ h8=>?_
    ·refine ae 3 [.own 4] λ n9=>RN.dn 0 (.rows 1 1 (aN [S.push]) 3 (0,0))<|RN.cp (eF 0 16384 [S.push] (n9+0) _ (az 0) (Nat.le_of_ble_eq_true rfl))<|ae 2 [] λ _=>RN.em (eG 0 16384 [S.push]) 38 (λ Uf=>?_) λ Uf=>?_
     ·refine ae 5 [.own 5,.own 5] λ n11=>RN.dn 0 (.rows 1 2 (aN [S.drag,S.rest]) 3 (0,0))<|RN.cp (eF 0 1024 [S.drag,S.rest] (n11+0) _ (az 0) (Nat.le_of_ble_eq_true rfl))<|ae 2 [] λ _=>RN.em (eG 0 1024 [S.drag,S.rest]) 46 (λ RE=>?_) λ RE=>?_
      ·refine ae 3 [.own 6] λ V8=>RN.dn 0 (.rows 1 1 (aN [S.rounds]) 3 (0,0))<|RN.cp (eF 1 4 [S.rounds] (V8+0) _ (az 0) (Nat.le_of_ble_eq_true rfl))<|ae 2 [] λ _=>RN.em (eG 1 4 [S.rounds]) 52 (λ SZ=>?_) λ SZ=>?_
       ·refine ae 3 [.own 7] λ n15=>RN.dn 0 (.rows 1 1 (aN [S.fuel]) 3 (0,0))<|RN.cp (eF 0 1000 [S.fuel] (n15+0) _ (az 0) (Nat.le_of_ble_eq_true rfl))<|ae 4 [] λ _=>RN.ret [] [] [] (v:=.bool (decide (eG 0 1000 [S.fuel]))) (H':=[]) ?_
        exact⟨by simp[jz, *],rfl⟩
       ·refine ae 8 [] λ _=>RN.ret [] [] [] (v:=.bool false) (H':=[]) ?_
        exact⟨by simp[jz, *],rfl⟩
      ·refine ae 14 [] λ _=>RN.ret [] [] [] (v:=.bool false) (H':=[]) ?_
       exact⟨by simp[jz, *],rfl⟩
     ·refine ae 22 [] λ _=>RN.ret [] [] [] (v:=.bool false) (H':=[]) ?_
      exact⟨by simp[jz, *],rfl⟩
    ·refine ae 28 [] λ _=>RN.ret [] [] [] (v:=.bool false) (H':=[]) ?_
     exact⟨by simp[jz, *],rfl⟩
   ·refine ae 38 [] λ _=>RN.ret [] [] [] (v:=.bool false) (H':=[]) ?_
    exact⟨by simp[jz, *],rfl⟩
  ·refine ae 44 [] λ _=>RN.ret [] [] [] (v:=.bool false) (H':=[]) ?_
   exact⟨by simp[jz, *],rfl⟩
 ·refine ae 53 [] λ _=>RN.ret [] [] [] (v:=.bool false) (H':=[]) ?_
  exact⟨by simp[jz, *],rfl⟩
def rv(n:Nat)(d:Dr):Prop:=eG 0 ((n:Int)-1) [d.a,d.b] /\ ¬ d.a=d.b
instance (n:Nat) (d:Dr):Decidable (rv n d):=inferInstanceAs (Decidable (_ /\ _))
def lE(S:Setup)(rs:List Bx)(ds:List Dr):Prop:=((S.rn:Int) <= 8 /\ (S.dn:Int) <= 16) /\ (∀k,k<S.rn -> gB (rs.getD k xc.dflt)) /\ ∀k,k<S.dn -> rv S.rn (ds.getD k ne.dflt)
instance (S:Setup) (rs:List Bx) (ds:List Dr):Decidable (lE S rs ds):=inferInstanceAs (Decidable (_ /\ _ /\ _))
theorem Gs(S:Setup)(rs:List Bx)(ds:List Dr)(F:HL)(hM:MapIn F S rs ds):Sp Tryz.prog 96 #[(Setup.v S)] [] F (λ u H'=>u=.bool (decide (lE S rs ds)) /\ H'=[]):=by
 refine Sp.run Tryz.func96 rfl mn (A:=[]) (Ts:=[]) rfl λ w0=>?_
 refine ae 14 [.own 0] λ n1=>RN.em ((S.rn:Int)>8) 11 (λ h2=>?_) λ h2=>?_
 ·refine ae 13 [] λ _=>RN.ret [] [] [] (v:=.bool false) (H':=[]) ?_
  exact⟨by rw[decide_eq_false (show ¬ lE S rs ds from λ h_=>by have:=h_.1;omega)],rfl⟩
 ·refine ae 7 [.own 0] λ _=>RN.em ((S.dn:Int)>16) 16 (λ h3=>?_) λ h3=>?_
  ·refine ae 6 [] λ _=>RN.ret [] [] [] (v:=.bool false) (H':=[]) ?_
   exact⟨by rw[decide_eq_false (show ¬ lE S rs ds from λ h_=>by have:=h_.1;omega)],rfl⟩
  ·refine ae 13 [.own 0] λ _=>RN.loop (σ:=Nat) (λ k=>⟨[(1,vP (n1+0) 0),(18,.slice S.rA S.rn S.rc),(19,vI (S.rn:Int)),(20,vI (k:Int))],[((n1+0),.lit (Setup.l S) 31 (0,0))],[],k <= S.rn /\ ∀t,t<k -> gB (rs.getD t xc.dflt),S.rn-k⟩) 0 [0] [] (⟨Nat.zero_le _,λ t ht=>absurd ht (Nat.not_lt_zero _)⟩) ?_
   rintro k ⟨hkl,Yg⟩ SQ
   refine ae 6 [] λ _=>RN.em ((k:Int)<(S.rn:Int)) 21 (λ h6=>?_) λ h6=>?_
   ·refine ae 7 [] λ _=>?_
    obtain⟨qx7,RF,XX,fx7,fzx7,Ud,Vk,hox7,Vt⟩:=hM.rooms.at (k:=k) (by omega)
    refine aB 18 (congrArg (λ v_=>(.slice v_ S.rn S.rc:Value)) Ud)<|RN.ro (λ _=>(mc Vk mn))<|ai 2 [.ix k,.rorow 0 (RF+k) 0,.rorow 0 (RF+k) 1,.rorow 0 (RF+k) 2,.rorow 0 (RF+k) 3] [((RF*4+k*4)+3)=(RF+k)*4+3 /\ (RF+k)<XX,((RF*4+k*4)+2)=(RF+k)*4+2 /\ (RF+k)<XX,((RF*4+k*4)+1)=(RF+k)*4+1 /\ (RF+k)<XX,(RF*4+k*4)=(RF+k)*4+0 /\ (RF+k)<XX,(k:Int)=((k:Nat):Int) /\ k<S.rn] λ _=>aB 23 (congrArg (λ v_=>(.agg #[vI v_.x0,vI v_.y0,vI v_.x1,vI v_.y1]:Value)) Vt)<|ae 7 (ow 0 8) λ n8=>RN.cp (ru (rs.getD k xc.dflt)  _)<|ae 3 [] λ _=>RN.en (gB (rs.getD k xc.dflt)) 26 (λ h9=>?_) λ h9=>?_
    ·refine ai 8 [.nw] [aU ((k:Int)+1)] λ _=>aB 18 (congrArg (λ v_=>(.slice v_ S.rn S.rc:Value)) Ud.symm) ?_
     refine SQ (k+1) [1] [] ?_
     try dsimp only
     refine⟨⟨by omega,λ t ht=>?_⟩,by omega⟩
     rcases Nat.lt_or_ge t k with h_|h_
     ·exact Yg t h_
     ·obtain rfl:t=k:=by omega
      exact h9
    ·refine ae 6 [] λ _=>RN.ret [] [] [] (v:=.bool false) (H':=[]) ?_
     exact⟨by rw[decide_eq_false (show ¬ lE S rs ds from λ h_=>h9 (h_.2.1 k (by omega)))],rfl⟩
   ·refine ae 16 [.own 0] λ _=>RN.loop (σ:=Nat) (λ j=>⟨[(1,vP (n1+0) 0),(29,.slice S.dA S.dn S.dc),(30,vI (S.dn:Int)),(31,vI (j:Int))],[((n1+0),.lit (Setup.l S) 31 (0,0))],[],j <= S.dn /\ ∀t,t<j -> rv S.rn (ds.getD t ne.dflt),S.dn-j⟩) 0 [0] [] (⟨Nat.zero_le _,λ t ht=>absurd ht (Nat.not_lt_zero _)⟩) ?_
    rintro j ⟨Ur,UG⟩ U4
    refine ae 6 [] λ _=>RN.em ((j:Int)<(S.dn:Int)) 32 (λ RE=>?_) λ RE=>?_
    ·refine ae 7 [] λ _=>?_
     obtain⟨qx13,S6,Nx13,fx13,fzx13,XQ,hqx13,hox13,hgx13⟩:=hM.doors.at (k:=j) (by omega)
     refine aB 29 (congrArg (λ v_=>(.slice v_ S.dn S.dc:Value)) XQ)<|RN.ro (λ _=>(mc hqx13 mn))<|ai 2 [.ix j,.rorow 0 (S6+j) 0,.rorow 0 (S6+j) 1] [((S6*2+j*2)+1)=(S6+j)*2+1 /\ (S6+j)<Nx13,(S6*2+j*2)=(S6+j)*2+0 /\ (S6+j)<Nx13,(j:Int)=((j:Nat):Int) /\ j<S.dn] λ _=>aB 34 (congrArg (λ v_=>(.agg #[vI v_.a,vI v_.b]:Value)) hgx13)<|ai 15 [.own 0,.own 0,.own 1,.nw,.own 0,.own 0] [aU ((S.rn:Int)-1)] λ ZM=>RN.dn 0 (.rows 1 2 (aN [(ds.getD j ne.dflt).a,(ds.getD j ne.dflt).b]) 3 (0,0))<|RN.cp (eF 0 ((S.rn:Int)-1) [(ds.getD j ne.dflt).a,(ds.getD j ne.dflt).b] (ZM+1) _ (az 0) (Nat.le_of_ble_eq_true rfl))<|ae 2 [] λ _=>RN.en (eG 0 ((S.rn:Int)-1) [(ds.getD j ne.dflt).a,(ds.getD j ne.dflt).b]) 46 (λ Wo=>?_) λ Wo=>?_
     ·refine ae 8 [.own 1,.own 1] λ _=>RN.em ((ds.getD j ne.dflt).a=(ds.getD j ne.dflt).b) 52 (λ Ru=>?_) λ Ru=>?_
      ·refine ae 6 [] λ _=>RN.ret [] [] [] (v:=.bool false) (H':=[]) ?_
       exact⟨by rw[decide_eq_false (show ¬ lE S rs ds from λ h_=>(h_.2.2 j (by omega)).2 Ru)],rfl⟩
      ·refine ai 8 [.nw] [aU ((j:Int)+1)] λ _=>aB 29 (congrArg (λ v_=>(.slice v_ S.dn S.dc:Value)) XQ.symm) ?_
       refine U4 (j+1) [2] [] ?_
       try dsimp only
       refine⟨⟨by omega,λ t ht=>?_⟩,by omega⟩
       rcases Nat.lt_or_ge t j with h_|h_
       ·exact UG t h_
       ·obtain rfl:t=j:=by omega
        exact⟨Wo,Ru⟩
     ·refine ae 14 [] λ _=>RN.ret [] [] [] (v:=.bool false) (H':=[]) ?_
      exact⟨by rw[decide_eq_false (show ¬ lE S rs ds from λ h_=>Wo (h_.2.2 j (by omega)).1)],rfl⟩
    ·refine ae 11 [] λ _=>RN.ret [] [] [] (v:=.bool true) (H':=[]) ?_
     exact⟨by rw[decide_eq_true (show lE S rs ds from ⟨⟨by omega,by omega⟩,λ t ht=>Yg t (by omega),λ t ht=>UG t (by omega)⟩)],rfl⟩
def tS(v w p:V2):Int:=bg (bg (bg (w.x-v.x)*bg (p.y-v.y))-bg (bg (w.y-v.y)*bg (p.x-v.x)))
def vl(n:Nat):List (Int × Int):=(List.range n).map λ i:Nat=>((i:Int),((i:Int)+1) % (n:Int))
theorem rx(n:Nat):(vl n).length=n:=by simp[vl]
theorem xg{n k:Nat}(h:k<n):(vl n)[k]?=some ((k:Int),((k:Int)+1) % (n:Int)):=by simp[vl,h]
theorem xh{n k:Nat}{x:Int × Int}(h:(vl n)[k]?=some x):k<n /\ x=((k:Int),((k:Int)+1) % (n:Int)):=by
 have hk:k<n:=by rw[<- rx n];exact(List.getElem?_eq_some_iff.1 h).1
 rw[xg hk] at h
 exact⟨hk,(Option.some.inj h).symm⟩
abbrev LP(x:Int × Int):Array Value:=#[vI x.1,vI x.2]
def xi(n k:Nat):Int:=((k:Int)+1) % (n:Int)
abbrev vat(l:List V2)(k:Nat):V2:=l.getD k ⟨0,0⟩
def xj(f:Nat -> V2)(n i:Nat):Prop:=¬ tS (f i) (f (xi n i).toNat) ⟨0,0⟩ <= 0 /\ ∀k,k<n -> ¬ (k:Int)=(i:Int) -> ¬ (k:Int)=xi n i -> ¬ tS (f i) (f (xi n i).toNat) (f k) <= 0
instance (f:Nat -> V2) (n i:Nat):Decidable (xj f n i):=inferInstanceAs (Decidable (_ /\ _))
def pR(f:Nat -> V2)(n:Nat):Prop:=∀i,i<n -> xj f n i
instance (f:Nat -> V2) (n:Nat):Decidable (pR f n):=inferInstanceAs (Decidable (∀i,i<n -> _))
theorem J8{n k:Nat}(h:k<n):0 <= xi n k /\ xi n k<n:=⟨Int.emod_nonneg _ (by omega),Int.emod_lt_of_pos _ (by omega)⟩
theorem xk{f g:Nat -> V2}{n:Nat}(h:∀k,k<n -> f k=g k)(hf:pR f n):pR g n:=λ i hi=>by
 have hb:=J8 hi
 have h1:=hf i hi
 unfold xj at h1 ⊢
 rw[h i hi,h (xi n i).toNat (by omega)] at h1
 refine⟨h1.1,λ k hk a b=>?_⟩
 have:=h1.2 k hk a b
 rwa [h k hk] at this
theorem tT(v w p:V2)(qw qv:Nat)(F:HL)(hqw:(qw,.lit [vI w.x,vI w.y] 29 (0,0))∈F)(hqv:(qv,.lit [vI v.x,vI v.y] 29 (0,0))∈F):Sp Tryz.prog 182 #[.agg #[vI p.x,vI p.y],vP qw 0,vP qv 0] [] F (λ u H'=>u=vI (tS v w p) /\ H'=[]):=by
 refine Sp.run Tryz.func182 rfl (mc hqw (mc hqv mn)) (A:=[]) (Ts:=[]) rfl λ w0=>?_
 refine ae 34 [.ro 0,.ro 1,.own 0,.ro 1,.ro 0,.ro 1,.own 0,.ro 1] λ n1=>?_
 exact RN.ret [] [] [] ⟨rfl,rfl⟩
theorem Gt(v w:V2)(F:HL):Sp Tryz.prog 143 #[.agg #[vI v.x,vI v.y],.agg #[vI w.x,vI w.y]] (ap [] []) F (λ u H'=>∃n:Nat,H'=ap [((n+1),.lit [vI w.x,vI w.y] 29 (0,0)),((n+0),.lit [vI v.x,vI v.y] 29 (0,0))] [] /\ u=.func (.func 182) #[] #[vP (n+1) 0,vP (n+0) 0]):=by
 refine Sp.run Tryz.func143 rfl mn (A:=[]) (Ts:=[]) rfl λ w0=>?_
 refine ae 13 [] λ n1=>RN.ret [] [0,1] [] (v:=.func (.func 182) #[] #[vP (n1+1) 0,vP (n1+0) 0]) (H':=(ap [((n1+1),.lit [vI w.x,vI w.y] 29 (0,0)),((n1+0),.lit [vI v.x,vI v.y] 29 (0,0))] [])) ?_
 exact⟨_,rfl,rfl⟩
theorem Dz(n:Nat)(F:HL):Sp Tryz.prog 142 #[vI (n:Int)] (ap [] []) F (λ u H'=>∃q:Nat,H'=ap [(q,.lit [vI (n:Int)] 3 (0,0))] [] /\ u=.func (.func 181) #[] #[vP q 0]):=by
 refine Sp.run Tryz.func142 rfl mn (A:=[]) (Ts:=[]) rfl λ w0=>?_
 refine ae 12 [] λ n1=>RN.ret [] [0] [] (v:=.func (.func 181) #[] #[vP (n1+0) 0]) (H':=(ap [((n1+0),.lit [vI (n:Int)] 3 (0,0))] [])) ?_
 exact⟨_,rfl,rfl⟩
theorem zG(n q lp:Nat)(X F:HL)(J:Nat -> HL -> Prop)(Jx:HL -> Prop)(T0:HL)(hn:n <= 1000000)(hq:(q,.lit [vI (n:Int)] 3 (0,0))∈F)(hY:∀i x H Y,(vl n)[i]?=some x -> J i H -> YL Tryz.prog lp (LP x) H (Y++(X++F)) (λ b H'=>(b=true /\ J (i+1) H') \/ (b=false /\ Jx H')))(Sx:J 0 T0):Sp Tryz.prog 181 #[.func (.yield lp) #[] #[],vP q 0] (ap [] [T0]) (X++F) (λ _ H'=>J (vl n).length H' \/ Jx H'):=by
 refine Sp.run Tryz.func181 rfl (mc (List.mem_append_right X hq) mn) (A:=[]) (Ts:=[T0]) rfl λ w0=>?_
 refine ae 7 [.ro 0] λ _=>RN.loop (σ:=Nat × HL) (λ ⟨k,T_⟩=>⟨[(0,.func (.yield lp) #[] #[]),(1,vP q 0),(4,vI (n:Int)),(5,vI (k:Int))],[],[T_],k <= n /\ J k T_,n-k⟩) (0,T0) [] [0] (⟨Nat.zero_le _,Sx⟩) ?_
 rintro⟨k,T_⟩ ⟨TT,Q8⟩ Rx
 refine ae 6 [] λ _=>RN.em ((k:Int)<(n:Int)) 6 (λ h3=>?_) λ h3=>?_
 ·refine ai 19 [.nw,.ro 0,.nw] [0 <= (k:Int)+1 /\ (0:Int)<(n:Int) /\ (k:Int)+1 <= 9223372036854775807,aU ((k:Int)+1)] λ _=>RN.yield 0 (hY k _ _ _ (xg (by omega)) Q8) ?_
  rintro b_ T4 (⟨rfl,hJ5⟩|⟨rfl,hJ5⟩)
  ·refine ai 11 [.gen,.nw] [aU ((k:Int)+1)] λ _=>?_
   refine Rx (k+1,T4) [] [0] ?_
   try dsimp only
   exact⟨⟨by omega,hJ5⟩,by omega⟩
  ·refine ae 4 [] λ _=>RN.ret [] [] [0] (v:=.tuple #[]) (H':=(ap [] [T4])) ?_
   rw[bD]
   exact .inr hJ5
 ·refine ae 5 [] λ _=>RN.ret [] [] [0] (v:=.tuple #[]) (H':=(ap [] [T_])) ?_
  rw[bD]
  obtain rfl:k=n:=by omega
  exact .inl (by rw[rx];exact Q8)
theorem Gu(n q:Nat)(F:HL)(hn:n <= 1000000)(hq:(q,.lit [vI (n:Int)] 3 (0,0))∈F):It Tryz.prog 181 #[vP q 0] F LP (vl n):=by
 intro X l J Jx H0 hY h0
 have key:=zG n q l X F J Jx H0 hn hq hY h0
 rw[bD] at key
 exact key
theorem Gv(full:List V2)(b o N n cap:Nat)(fz:Nat × Nat)(F:HL)(hb:(b,.rows 2 N (jV full) 29 fz)∈F)(ho:o+n <= N)(hnn:n <= 1000000):Sp Tryz.prog 119 #[vS b (o*2) n cap] [] F (λ u H'=>u=.bool (decide (pR (λ k_=>full.getD (o+k_) ⟨0,0⟩) n)) /\ H'=[]):=by
 refine Sp.runM Tryz.func119 rfl (mc hb mn) (A:=[]) (Ts:=[]) rfl λ w0=>?_
 refine ae 9 [] λ n1=>ae 2 [.own 1] λ _=>RN.ct (Hp:=[]) (Tp:=[]) [] [] (Dz n _) ?_
 rintro _ q2 rfl
 refine ae 3 [] λ _=>RN.range (σ:=Nat) (τ:=Nat) (encs:=λ (x_:Int × Int)=>#[vI x_.1,vI x_.2]) (xs:=(vl n)) (enters_of Tryz.func181 (by kernel_rfl) rfl) (λ m_=>([((n1+1),.lit [.bool false] 4 (0,0)),((n1+0),.lit [vS b (o*2) n cap] 71 (0,0))],[])) (λ i_ m_=>m_=i_ /\ ∀t,t<m_ -> xj (λ k_=>full.getD (o+k_) ⟨0,0⟩) n t) (λ c_ m_=>c_=Code.ret /\ ¬ pR (λ k_=>full.getD (o+k_) ⟨0,0⟩) n) (λ m_=>⟨[(1,vP (n1+0) 0),(2,vP (n1+1) 0),(3,vI (m_:Int)),(4,vI (((m_:Int)+1) % (n:Int)))],[((n1+1),.lit [.bool false] 4 (0,0)),((n1+0),.lit [vS b (o*2) n cap] 71 (0,0))],[],True,0⟩) (λ i_ x_ m_=>m_=i_ /\ ∀t,t<m_ -> xj (λ k_=>full.getD (o+k_) ⟨0,0⟩) n t) 0 (⟨rfl,λ t ht=>absurd ht (Nat.not_lt_zero _)⟩) [1,2] [] (Gu n q2 _ hnn (az 0)) ?_ ?_ ?_ ?_
 ·rintro l_ i_ x_ m_ Y3 w4 hx5 TA X1
  obtain⟨rfl,dO⟩:=TA
  obtain⟨UC,rfl⟩:=xh hx5
  refine ae 8 [] λ _=>?_
  refine X1 m_ [0,1] [] ?_
  try dsimp only
  exact⟨rfl,dO⟩
 ·rintro l_ i_ x_ m_ Y7 w8 hx9 TA
  obtain⟨rfl,dO⟩:=TA
  obtain⟨UC,rfl⟩:=xh hx9
  have hm1:=Int.emod_nonneg ((m_:Int)+1) (show (n:Int)≠0 by omega)
  have hm2:=Int.emod_lt_of_pos ((m_:Int)+1) (show (0:Int)<n by omega)
  refine ae 2 [] λ _=>RN.draw [] []<|aG [] [0,1,4,5,2,6,3,7] [.own 1,.own 1,.ix m_,.ix (((((m_:Int)+1) % (n:Int))).toNat),.rorow 1 (o+m_) 0,.rorow 1 (o+m_) 1,.rorow 1 (o+(((((m_:Int)+1) % (n:Int))).toNat)) 0,.rorow 1 (o+(((((m_:Int)+1) % (n:Int))).toNat)) 1] [((o*2+(((((m_:Int)+1) % (n:Int))).toNat)*2)+1)=(o+(((((m_:Int)+1) % (n:Int))).toNat))*2+1 /\ (o+(((((m_:Int)+1) % (n:Int))).toNat))<N,(o*2+(((((m_:Int)+1) % (n:Int))).toNat)*2)=(o+(((((m_:Int)+1) % (n:Int))).toNat))*2+0 /\ (o+(((((m_:Int)+1) % (n:Int))).toNat))<N,((o*2+m_*2)+1)=(o+m_)*2+1 /\ (o+m_)<N,(o*2+m_*2)=(o+m_)*2+0 /\ (o+m_)<N,(((m_:Int)+1) % (n:Int))=((((((m_:Int)+1) % (n:Int))).toNat:Nat):Int) /\ ((((m_:Int)+1) % (n:Int))).toNat<n,(m_:Int)=((m_:Nat):Int) /\ m_<n]<|RD.one 8 (RDO.ct [] (Hp:=[]) (Tp:=[]) [] [] (Gt (full.getD (o+m_) ⟨0,0⟩) (full.getD (o+(((((m_:Int)+1) % (n:Int))).toNat)) ⟨0,0⟩) _) ?_)
  rintro _ m10 rfl
  refine ag [] [9] []<|RD.fin<|ae 6 [] λ _=>RN.cp (tT (full.getD (o+m_) ⟨0,0⟩) (full.getD (o+(((((m_:Int)+1) % (n:Int))).toNat)) ⟨0,0⟩) (⟨0,0⟩:V2) (m10+1) (m10+0) _ (az 0) (az 1))<|ae 3 [] λ _=>RN.em (tS (full.getD (o+m_) ⟨0,0⟩) (full.getD (o+(((((m_:Int)+1) % (n:Int))).toNat)) ⟨0,0⟩) (⟨0,0⟩:V2) <= 0) 25 (λ Sr=>?_) λ Sr=>?_
  ·refine ae 6 [.own 2] λ _=>RN.rr m_ [2,3] [] ?_
   try dsimp only
   exact⟨rfl,λ Ut=>(Ut m_ UC).1 Sr⟩
  ·refine ae 11 [.own 3] λ _=>RN.loop (σ:=Nat) (λ k=>⟨[(2,vP (n1+1) 0),(3,vI (m_:Int)),(4,vI (((m_:Int)+1) % (n:Int))),(5,.func (.func 182) #[] #[vP (m10+1) 0,vP (m10+0) 0]),(26,vS b (o*2) n cap),(27,vI (n:Int)),(28,vI (k:Int))],[((m10+1),.lit [vI ((full.getD (o+(((((m_:Int)+1) % (n:Int))).toNat)) ⟨0,0⟩).x),vI ((full.getD (o+(((((m_:Int)+1) % (n:Int))).toNat)) ⟨0,0⟩).y)] 29 (0,0)),((m10+0),.lit [vI ((full.getD (o+m_) ⟨0,0⟩).x),vI ((full.getD (o+m_) ⟨0,0⟩).y)] 29 (0,0)),((n1+1),.lit [.bool false] 4 (0,0)),((n1+0),.lit [vS b (o*2) n cap] 71 (0,0))],[],k <= n /\ ∀t,t<k -> ¬ (t:Int)=(m_:Int) -> ¬ (t:Int)=xi n m_ -> ¬ tS (full.getD (o+m_) ⟨0,0⟩) (full.getD (o+(xi n m_).toNat) ⟨0,0⟩) (full.getD (o+t) ⟨0,0⟩) <= 0,n-k⟩) 0 [0,1,2,3] [] (⟨Nat.zero_le _,λ t ht=>absurd ht (Nat.not_lt_zero _)⟩) ?_
   rintro k ⟨hkl,RT⟩ U2
   refine ae 6 [] λ _=>RN.em ((k:Int)<(n:Int)) 29 (λ SZ=>?_) λ SZ=>?_
   ·refine ai 21 [.ix k,.rorow 1 (o+k) 0,.rorow 1 (o+k) 1,.own 0,.own 0] [((o*2+k*2)+1)=(o+k)*2+1 /\ (o+k)<N,(o*2+k*2)=(o+k)*2+0 /\ (o+k)<N,(k:Int)=((k:Nat):Int) /\ k<n] λ n15=>RN.en ((k:Int)=(m_:Int)) 36 (λ Ru=>?_) λ Ru=>?_
    ·refine ai 20 [.nw] [aU ((k:Int)+1)] λ _=>?_
     refine U2 (k+1) [1,2,3,4] [] ?_
     try dsimp only
     refine⟨⟨by omega,λ t ht ZB ZA=>?_⟩,by omega⟩
     rcases Nat.lt_or_ge t k with h_|h_
     ·exact RT t h_ ZB ZA
     ·obtain rfl:t=k:=by omega
      exact absurd Ru ZB
    ·refine ae 5 [] λ _=>RN.en ((k:Int)=(((m_:Int)+1) % (n:Int))) 41 (λ h17=>?_) λ h17=>?_
     ·refine ai 15 [.nw] [aU ((k:Int)+1)] λ _=>?_
      refine U2 (k+1) [1,2,3,4] [] ?_
      try dsimp only
      refine⟨⟨by omega,λ t ht ZB ZA=>?_⟩,by omega⟩
      rcases Nat.lt_or_ge t k with h_|h_
      ·exact RT t h_ ZB ZA
      ·obtain rfl:t=k:=by omega
       exact absurd h17 ZA
     ·refine ae 2 [.own 0,.own 0] λ _=>RN.cp (tT (full.getD (o+m_) ⟨0,0⟩) (full.getD (o+(((((m_:Int)+1) % (n:Int))).toNat)) ⟨0,0⟩) (full.getD (o+k) ⟨0,0⟩) (m10+1) (m10+0) _ (az 1) (az 2))<|ae 4 [] λ _=>RN.em (tS (full.getD (o+m_) ⟨0,0⟩) (full.getD (o+(((((m_:Int)+1) % (n:Int))).toNat)) ⟨0,0⟩) (full.getD (o+k) ⟨0,0⟩) <= 0) 46 (λ h18=>?_) λ h18=>?_
      ·refine ae 6 [.own 3] λ _=>RN.rr m_ [3,4] [] ?_
       try dsimp only
       refine⟨rfl,λ Ut=>?_⟩
       exact(Ut m_ UC).2 k (by omega) Ru h17 h18
      ·refine ai 8 [.nw] [aU ((k:Int)+1)] λ _=>?_
       refine U2 (k+1) [1,2,3,4] [] ?_
       try dsimp only
       refine⟨⟨by omega,λ t ht ZB ZA=>?_⟩,by omega⟩
       rcases Nat.lt_or_ge t k with h_|h_
       ·exact RT t h_ ZB ZA
       ·obtain rfl:t=k:=by omega
        exact h18
   ·refine ae 6 [] λ _=>RN.rn (m_+1) [2,3] [] ?_
    try dsimp only
    refine⟨rfl,λ t ht=>?_⟩
    rcases Nat.lt_or_ge t m_ with h_|h_
    ·exact dO t h_
    ·obtain rfl:t=m_:=by omega
     exact⟨Sr,λ s_ IS=>RT s_ (by omega)⟩
 ·rintro d19 m_  TA
  obtain⟨rfl,dO⟩:=TA
  refine ae 7 [.own 1] λ _=>RN.retM [d19] [0] [.own 0] [] [] (v:=.bool true) (H':=[]) ?_
  exact⟨by rw[decide_eq_true (show pR (λ k_=>full.getD (o+k_) ⟨0,0⟩) n from λ t ht=>dO t (by rw[rx];exact ht))],rfl⟩
 ·rintro d20 c_ m_ ⟨rfl,Se⟩
  refine RN.retM [d20] [0] [.own 0] [] [] (v:=.bool false) (H':=[]) ?_
  exact⟨by rw[decide_eq_false Se],rfl⟩
def sW(n:Int):Prop:=-32768 <= n /\ n <= 32768
instance (n:Int):Decidable (sW n):=inferInstanceAs (Decidable (_ /\ _))
def ng(r:Int):Prop:=1 <= r /\ r <= 32768
instance (r:Int):Decidable (ng r):=inferInstanceAs (Decidable (_ /\ _))
def ig(r:Int)(f:Nat -> V2)(n:Nat):Prop:=(r=0 /\ 3 <= n /\ n <= 6) /\ (∀k,k<n -> sW (f k).x /\ sW (f k).y) /\ pR f n
instance (r:Int) (f:Nat -> V2) (n:Nat):Decidable (ig r f n):=inferInstanceAs (Decidable (_ /\ _ /\ _))
theorem pS{r:Int}{f g:Nat -> V2}{n:Nat}(h:∀k,k<n -> f k=g k)(hf:ig r f n):ig r g n :=
 ⟨hf.1,λ k hk=>by rw[<- h k hk];exact hf.2.1 k hk,xk h hf.2.2⟩
def kC(s:Shp):Prop:=if s.poly.length=0 then ng s.r else ig s.r (vat s.poly) s.poly.length
instance (s:Shp):Decidable (kC s):=inferInstanceAs (Decidable (if s.poly.length=0 then ng s.r else ig s.r (vat s.poly) s.poly.length))
theorem o8{r:Int}{A:Option Addr}{cap:Nat}:kC ⟨r,[],A,cap⟩↔ng r:=by
 show (if (0:Nat)=0 then ng r else _)↔_
 rw[if_pos rfl]
def DA(s:Shp):Int:=if kC s then 0 else 10
theorem xl(n:Int)  (F:HL):Sp Tryz.prog 118 #[vI n] [] F (λ u H'=>u=.bool (decide (sW n)) /\ H'=[]):=by
 refine Sp.run Tryz.func118 rfl mn (A:=[]) (Ts:=[]) rfl λ w0=>?_
 refine ae 10 [] λ _=>RN.em ((-32768) <= n) 5 (λ h1=>?_) λ h1=>?_
 ·refine ae 6 [] λ _=>RN.ret [] [] [] (v:=.bool (decide (n <= 32768))) (H':=[]) ?_
  exact⟨by simp[sW, *],rfl⟩
 ·refine ae 6 [] λ _=>RN.ret [] [] [] (v:=.bool false) (H':=[]) ?_
  exact⟨by simp[sW, *],rfl⟩
theorem zH(r:Int)(A:Option Addr)(cap:Nat)(F:HL):Sp Tryz.prog 93 #[.agg #[vI r,.slice A 0 cap]] [] F (λ u H'=>u=vI (DA ⟨r,[],A,cap⟩) /\ H'=[]):=by
 refine Sp.run Tryz.func93 rfl mn (A:=[]) (Ts:=[]) rfl λ w0=>?_
 refine ae 10 [.own 0,.own 0] λ n1=>RN.cp (oP r A 0 cap _)<|ae 10 [.own 0] λ _=>RN.em (r<1) 10 (λ h2=>?_) λ h2=>?_
 ·refine ae 12 [] λ _=>RN.ret [] [] [] (v:=vI 10) (H':=[]) ?_
  exact⟨by rw[DA,if_neg (λ h_=>by have Rj:=o8.1 h_;unfold ng at Rj;omega)],rfl⟩
 ·refine ae 6 [.own 0] λ _=>RN.em (r>32768) 14 (λ h3=>?_) λ h3=>?_
  ·refine ae 6 [] λ _=>RN.ret [] [] [] (v:=vI 10) (H':=[]) ?_
   exact⟨by rw[DA,if_neg (λ h_=>by have Rj:=o8.1 h_;unfold ng at Rj;omega)],rfl⟩
  ·refine ae 8 [] λ _=>RN.ret [] [] [] (v:=vI 0) (H':=[]) ?_
   exact⟨by rw[DA,if_pos (o8.2 ⟨by omega,by omega⟩)],rfl⟩
theorem Gw(r:Int)(full:List V2)(b o N n cap:Nat)(fz:Nat × Nat)(F:HL)(hb:(b,.rows 2 N (jV full) 29 fz)∈F)(ho:o+n <= N)(h1:1 <= n)(hnn:n <= 1000000):Sp Tryz.prog 93 #[.agg #[vI r,vS b (o*2) n cap]] [] F (λ u H'=>u=vI (if ig r (λ k_=>full.getD (o+k_) ⟨0,0⟩) n then 0 else 10) /\ H'=[]):=by
 refine Sp.run Tryz.func93 rfl (mc hb mn) (A:=[]) (Ts:=[]) rfl λ w0=>?_
 refine ae 10 [.own 0,.own 0] λ n1=>RN.cp (oP r (some ⟨b,o*2,none⟩) n cap _)<|ae 2 [] λ _=>cH 6 (decide_eq_false (show ¬ ((n:Int)=0) by omega))<|ae 10 [.own 0] λ _=>RN.en (r=0) 18 (λ h2=>?_) λ h2=>?_
 ·refine ae 6 [.own 0] λ _=>RN.em ((n:Int)<3) 24 (λ h3=>?_) λ h3=>?_
  ·refine ae 13 [] λ _=>RN.ret [] [] [] (v:=vI 10) (H':=[]) ?_
   exact⟨by rw[if_neg (show ¬ ig r (λ k_=>full.getD (o+k_) ⟨0,0⟩) n from λ h_=>by have:=h_.1;omega)],rfl⟩
  ·refine ae 7 [.own 0] λ _=>RN.em ((n:Int)>6) 29 (λ h4=>?_) λ h4=>?_
   ·refine ae 6 [] λ _=>RN.ret [] [] [] (v:=vI 10) (H':=[]) ?_
    exact⟨by rw[if_neg (show ¬ ig r (λ k_=>full.getD (o+k_) ⟨0,0⟩) n from λ h_=>by have:=h_.1;omega)],rfl⟩
   ·refine ae 13 [.own 0] λ _=>RN.loop (σ:=Nat) (λ k=>⟨[(1,vP (n1+0) 0),(31,vS b (o*2) n cap),(32,vI (n:Int)),(33,vI (k:Int))],[((n1+0),.lit [vI r,vS b (o*2) n cap] 73 (0,0))],[],k <= n /\ ∀t,t<k -> sW (full.getD (o+t) (⟨0,0⟩:V2)).x /\ sW (full.getD (o+t) (⟨0,0⟩:V2)).y,n-k⟩) 0 [0] [] (⟨Nat.zero_le _,λ t ht=>absurd ht (Nat.not_lt_zero _)⟩) ?_
    rintro k ⟨hkl,RT⟩ X1
    refine ae 6 [] λ _=>RN.em ((k:Int)<(n:Int)) 34 (λ h7=>?_) λ h7=>?_
    ·refine ai 17 [.ix k,.rorow 0 (o+k) 0,.rorow 0 (o+k) 1,.own 0,.own 0,.own 0] [((o*2+k*2)+1)=(o+k)*2+1 /\ (o+k)<N,(o*2+k*2)=(o+k)*2+0 /\ (o+k)<N,(k:Int)=((k:Nat):Int) /\ k<n] λ n8=>RN.cp (xl ((full.getD (o+k) ⟨0,0⟩).x)  _)<|ae 2 [] λ _=>RN.en (sW ((full.getD (o+k) ⟨0,0⟩).x)) 41 (λ h9=>?_) λ h9=>?_
     ·refine ae 2 [.own 0] λ _=>RN.cp (xl ((full.getD (o+k) ⟨0,0⟩).y)  _)<|ae 4 [] λ _=>RN.en (sW ((full.getD (o+k) ⟨0,0⟩).y)) 46 (λ Uf=>?_) λ Uf=>?_
      ·refine ai 8 [.nw] [aU ((k:Int)+1)] λ _=>?_
       refine X1 (k+1) [1] [] ?_
       try dsimp only
       refine⟨⟨by omega,λ t ht=>?_⟩,by omega⟩
       rcases Nat.lt_or_ge t k with h_|h_
       ·exact RT t h_
       ·obtain rfl:t=k:=by omega
        exact⟨h9,Uf⟩
      ·refine ae 6 [] λ _=>RN.ret [] [] [] (v:=vI 10) (H':=[]) ?_
       exact⟨by rw[if_neg (show ¬ ig r (λ k_=>full.getD (o+k_) ⟨0,0⟩) n from λ h_=>Uf (h_.2.1 k (by omega)).2)],rfl⟩
     ·refine ae 13 [] λ _=>RN.ret [] [] [] (v:=vI 10) (H':=[]) ?_
      exact⟨by rw[if_neg (show ¬ ig r (λ k_=>full.getD (o+k_) ⟨0,0⟩) n from λ h_=>h9 (h_.2.1 k (by omega)).1)],rfl⟩
    ·refine ae 11 [.own 0] λ _=>RN.cp (Gv full b o N n cap fz _ (aq hb) ho hnn)<|ae 3 [] λ _=>RN.en (pR (λ k_=>full.getD (o+k_) ⟨0,0⟩) n) 51 (λ Sr=>?_) λ Sr=>?_
     ·refine ae 8 [] λ _=>RN.ret [] [] [] (v:=vI 0) (H':=[]) ?_
      exact⟨by rw[if_pos (show ig r (λ k_=>full.getD (o+k_) ⟨0,0⟩) n from ⟨⟨by omega,by omega,by omega⟩,λ t ht=>RT t (by omega),Sr⟩)],rfl⟩
     ·refine ae 6 [] λ _=>RN.ret [] [] [] (v:=vI 10) (H':=[]) ?_
      exact⟨by rw[if_neg (show ¬ ig r (λ k_=>full.getD (o+k_) ⟨0,0⟩) n from λ h_=>Sr h_.2.2)],rfl⟩
 ·refine ae 19 [] λ _=>RN.ret [] [] [] (v:=vI 10) (H':=[]) ?_
  exact⟨by rw[if_neg (show ¬ ig r (λ k_=>full.getD (o+k_) ⟨0,0⟩) n from λ h_=>by have:=h_.1;omega)],rfl⟩
theorem J9(s:Shp)(F:HL)(h:RowL lA 29 F s.A s.poly.length s.poly)(hn:s.poly.length <= 1000000):Sp Tryz.prog 93 #[NT s] [] F (λ u H'=>u=vI (DA s) /\ H'=[]):=by
 obtain⟨r,l,A,cap⟩:=s
 simp only at h hn
 rcases Nat.eq_zero_or_pos l.length with h0|h0
 ·obtain rfl:l=[]:=List.eq_nil_of_length_eq_zero h0
  exact zH r A cap F
 ·generalize hm:l.length=m at h h0 hn
  cases h with
  | zero=>omega
  | rows q o N full fz n xs hq ho WM hx =>
   have:=Gw r full q o N m cap fz F hq ho h0 hn
   have e:DA ⟨r,l,some ⟨q,o*2,none⟩,cap⟩=if ig r (λ k_=>full.getD (o+k_) ⟨0,0⟩) m then 0 else 10:=by
    have e1:kC ⟨r,l,some ⟨q,o*2,none⟩,cap⟩↔ig r (λ k_=>full.getD (o+k_) ⟨0,0⟩) m:=by
     unfold kC
     simp only
     rw[if_neg (by omega),hm]
     exact⟨pS λ k hk=>(hx k hk).symm,pS λ k hk=>hx k hk⟩
    unfold DA
    by_cases hc:ig r (λ k_=>full.getD (o+k_) ⟨0,0⟩) m
    ·rw[if_pos hc,if_pos (e1.2 hc)]
    ·rw[if_neg hc,if_neg λ h=>hc (e1.1 h)]
   show Sp _ _ #[.agg #[vI r,.slice (some ⟨q,o*2,none⟩) l.length cap]] _ _ (λ u H'=>u=vI (DA ⟨r,l,some ⟨q,o*2,none⟩,cap⟩) /\ H'=[])
   rw[e,hm]
   exact this
structure SetSh(F:HL)(S:Setup):Prop where
 nb:S.nb <= 1000000
 blk:(S.bb,.rows 9 S.bR (jJ S.bods) 78 (0,0))∈F
 room:S.bo+S.nb <= S.bR
 pol:∀k,k<S.nb -> RowL lA 29 F (S.body k).sh.A (S.body k).sh.poly.length (S.body k).sh.poly /\ (S.body k).sh.poly.length <= 1000000
theorem ShIn.rowL{F:HL}{s:Shp}(h:ShIn F s):RowL lA 29 F s.A s.poly.length s.poly /\ s.poly.length <= 1000000:=by
 cases h with
 | circle r A cap=>exact⟨.zero _,Nat.zero_le _⟩
 | poly r l b cap h h3 h4 h5=>exact⟨RowL.whole (e:=lA) h h4,h5⟩
def sX(S:Setup)(rs:List Bx)(ds:List Dr):Prop:=jz S /\ gB S.box /\ lE S rs ds
instance (S:Setup) (rs:List Bx) (ds:List Dr):Decidable (sX S rs ds):=inferInstanceAs (Decidable (_ /\ _))
def i0(S:Setup)(rs:List Bx)(ds:List Dr):Int:=if ∀k,k<S.nb -> kC (S.body k).sh then (if sX S rs ds then (if ∀k,k<S.nb -> fv (S.body k) S.box then 0 else 11) else 11) else 10
theorem MN{s:Shp}(h:DA s=0):kC s:=by
 unfold DA at h
 split at h
 ·assumption
 ·omega
theorem MO{s:Shp}(h:¬ DA s=0):¬ kC s:=λ hc=>h (by rw[DA,if_pos hc])
theorem Ka(S:Setup)(rs:List Bx)(ds:List Dr)(F:HL)(hS:SetSh F S)(hM:MapIn F S rs ds):Sp Tryz.prog 61 #[(Setup.v S)] [] F (λ u H'=>u=vI (i0 S rs ds) /\ H'=[]):=by
 have hn:=hS.nb
 have hr:=hS.room
 refine Sp.run Tryz.func61 rfl (mc hS.blk mn) (A:=[]) (Ts:=[]) rfl λ w0=>?_
 refine ae 16 [.own 0] λ n1=>RN.loop (σ:=Nat) (λ k=>⟨[(1,vP (n1+0) 0),(8,vS S.bb (S.bo*9) S.nb S.bc),(9,vI (S.nb:Int)),(10,vI (k:Int))],[((n1+0),.lit (Setup.l S) 31 (0,0))],[],k <= S.nb /\ ∀t,t<k -> kC (S.body t).sh,S.nb-k⟩) 0 [0] [] (⟨Nat.zero_le _,λ t ht=>absurd ht (Nat.not_lt_zero _)⟩) ?_
 rintro k ⟨hkl,UU⟩ Ri
 refine ae 6 [] λ _=>RN.em ((k:Int)<(S.nb:Int)) 11 (λ h4=>?_) λ h4=>?_
 ·refine ai 17 ([.ix k,.rorow 0 (S.bo+k) 0,.rorow 0 (S.bo+k) 1,.rorow 0 (S.bo+k) 2,.rorow 0 (S.bo+k) 3,.rorow 0 (S.bo+k) 4,.rorow 0 (S.bo+k) 5,.rorow 0 (S.bo+k) 6,.rorow 0 (S.bo+k) 7,.rorow 0 (S.bo+k) 8]++ow 0 11) [((S.bo*9+k*9)+8)=(S.bo+k)*9+8 /\ (S.bo+k)<S.bR,((S.bo*9+k*9)+7)=(S.bo+k)*9+7 /\ (S.bo+k)<S.bR,((S.bo*9+k*9)+6)=(S.bo+k)*9+6 /\ (S.bo+k)<S.bR,((S.bo*9+k*9)+5)=(S.bo+k)*9+5 /\ (S.bo+k)<S.bR,((S.bo*9+k*9)+4)=(S.bo+k)*9+4 /\ (S.bo+k)<S.bR,((S.bo*9+k*9)+3)=(S.bo+k)*9+3 /\ (S.bo+k)<S.bR,((S.bo*9+k*9)+2)=(S.bo+k)*9+2 /\ (S.bo+k)<S.bR,((S.bo*9+k*9)+1)=(S.bo+k)*9+1 /\ (S.bo+k)<S.bR,(S.bo*9+k*9)=(S.bo+k)*9+0 /\ (S.bo+k)<S.bR,(k:Int)=((k:Nat):Int) /\ k<S.nb] λ n5=>RN.cp (J9 ((S.bods.getD (S.bo+k) dB).sh) _ (hS.pol k (by omega)).1.up (hS.pol k (by omega)).2)<|ae 3 [] λ _=>RN.en (DA ((S.bods.getD (S.bo+k) dB).sh)=0) 17 (λ h6=>?_) λ h6=>?_
  ·refine ai 8 [.nw] [aU ((k:Int)+1)] λ _=>?_
   refine Ri (k+1) [1] [] ?_
   try dsimp only
   refine⟨⟨by omega,λ t ht=>?_⟩,by omega⟩
   rcases Nat.lt_or_ge t k with h_|h_
   ·exact UU t h_
   ·obtain rfl:t=k:=by omega
    exact MN h6
  ·refine ae 6 [] λ _=>RN.ret [] [] [] (v:=vI 10) (H':=[]) ?_
   exact⟨by rw[i0,if_neg (show ¬ ∀k,k<S.nb -> kC (S.body k).sh from λ h_=>MO h6 (h_ k (by omega)))],rfl⟩
 ·refine ae 10 (ow 0 16) λ _=>RN.cp (Gr S _)<|ae 2 [] λ _=>RN.en (jz S) 22 (λ h7=>?_) λ h7=>?_
  ·refine ae 2 [.own 0,.own 0,.own 0,.own 0] λ _=>RN.cp (ru S.box  _)<|ae 3 [] λ _=>RN.en (gB S.box) 28 (λ h8=>?_) λ h8=>?_
   ·refine ae 1 (ow 0 16) λ _=>RN.cp (Gs S rs ds _ hM.up)<|ae 4 [] λ _=>RN.en (lE S rs ds) 32 (λ h9=>?_) λ h9=>?_
    ·refine ae 13 [.own 0] λ _=>RN.loop (σ:=Nat) (λ j=>⟨[(1,vP (n1+0) 0),(34,vS S.bb (S.bo*9) S.nb S.bc),(35,vI (S.nb:Int)),(36,vI (j:Int))],[((n1+0),.lit (Setup.l S) 31 (0,0))],[],j <= S.nb /\ ∀t,t<j -> fv (S.body t) S.box,S.nb-j⟩) 0 [0] [] (⟨Nat.zero_le _,λ t ht=>absurd ht (Nat.not_lt_zero _)⟩) ?_
     rintro j ⟨Ur,hvb⟩ U4
     refine ae 6 [] λ _=>RN.em ((j:Int)<(S.nb:Int)) 37 (λ RE=>?_) λ RE=>?_
     ·refine ai 18 ([.ix j,.rorow 0 (S.bo+j) 0,.rorow 0 (S.bo+j) 1,.rorow 0 (S.bo+j) 2,.rorow 0 (S.bo+j) 3,.rorow 0 (S.bo+j) 4,.rorow 0 (S.bo+j) 5,.rorow 0 (S.bo+j) 6,.rorow 0 (S.bo+j) 7,.rorow 0 (S.bo+j) 8]++ow 0 18++[.own 1,.own 1,.own 1,.own 1]) [((S.bo*9+j*9)+8)=(S.bo+j)*9+8 /\ (S.bo+j)<S.bR,((S.bo*9+j*9)+7)=(S.bo+j)*9+7 /\ (S.bo+j)<S.bR,((S.bo*9+j*9)+6)=(S.bo+j)*9+6 /\ (S.bo+j)<S.bR,((S.bo*9+j*9)+5)=(S.bo+j)*9+5 /\ (S.bo+j)<S.bR,((S.bo*9+j*9)+4)=(S.bo+j)*9+4 /\ (S.bo+j)<S.bR,((S.bo*9+j*9)+3)=(S.bo+j)*9+3 /\ (S.bo+j)<S.bR,((S.bo*9+j*9)+2)=(S.bo+j)*9+2 /\ (S.bo+j)<S.bR,((S.bo*9+j*9)+1)=(S.bo+j)*9+1 /\ (S.bo+j)<S.bR,(S.bo*9+j*9)=(S.bo+j)*9+0 /\ (S.bo+j)<S.bR,(j:Int)=((j:Nat):Int) /\ j<S.nb] λ V8=>RN.cp (Dy (S.bods.getD (S.bo+j) dB) S.box _)<|ae 3 [] λ _=>RN.en (fv (S.bods.getD (S.bo+j) dB) S.box) 44 (λ SZ=>?_) λ SZ=>?_
      ·refine ai 8 [.nw] [aU ((j:Int)+1)] λ _=>?_
       refine U4 (j+1) [1] [] ?_
       try dsimp only
       refine⟨⟨by omega,λ t ht=>?_⟩,by omega⟩
       rcases Nat.lt_or_ge t j with h_|h_
       ·exact hvb t h_
       ·obtain rfl:t=j:=by omega
        exact SZ
      ·refine ae 6 [] λ _=>RN.ret [] [] [] (v:=vI 11) (H':=[]) ?_
       exact⟨by rw[i0,if_pos (show ∀k,k<S.nb -> kC (S.body k).sh from λ t ht=>UU t (by omega)),if_pos (show sX S rs ds from ⟨h7,h8,h9⟩),if_neg (show ¬ ∀k,k<S.nb -> fv (S.body k) S.box from λ h_=>SZ (h_ j (by omega)))],rfl⟩
     ·refine ae 11 [] λ _=>RN.ret [] [] [] (v:=vI 0) (H':=[]) ?_
      exact⟨by rw[i0,if_pos (show ∀k,k<S.nb -> kC (S.body k).sh from λ t ht=>UU t (by omega)),if_pos (show sX S rs ds from ⟨h7,h8,h9⟩),if_pos (show ∀k,k<S.nb -> fv (S.body k) S.box from λ t ht=>hvb t (by omega))],rfl⟩
    ·refine ae 6 [] λ _=>RN.ret [] [] [] (v:=vI 11) (H':=[]) ?_
     exact⟨by rw[i0,if_pos (show ∀k,k<S.nb -> kC (S.body k).sh from λ t ht=>UU t (by omega)),if_neg (show ¬ sX S rs ds from λ h_=>h9 h_.2.2)],rfl⟩
   ·refine ae 12 [] λ _=>RN.ret [] [] [] (v:=vI 11) (H':=[]) ?_
    exact⟨by rw[i0,if_pos (show ∀k,k<S.nb -> kC (S.body k).sh from λ t ht=>UU t (by omega)),if_neg (show ¬ sX S rs ds from λ h_=>h8 h_.2.1)],rfl⟩
  ·refine ae 18 [] λ _=>RN.ret [] [] [] (v:=vI 11) (H':=[]) ?_
   exact⟨by rw[i0,if_pos (show ∀k,k<S.nb -> kC (S.body k).sh from λ t ht=>UU t (by omega)),if_neg (show ¬ sX S rs ds from λ h_=>h7 h_.1)],rfl⟩
end Go.Proofs.YtgdcbiiopbpgaaaGreatDoor
