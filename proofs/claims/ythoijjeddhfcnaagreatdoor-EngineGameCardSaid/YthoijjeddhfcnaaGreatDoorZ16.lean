import Derived.Test.YthoijjeddhfcnaaGreatDoorZ15
set_option maxHeartbeats 4000000
set_option maxRecDepth 100000
set_option linter.unusedSimpArgs false
set_option linter.unusedVariables false
namespace Go.Proofs.YthoijjeddhfcnaaGreatDoor
open Go.RowKit Go.Shelf
inductive RowL{α:Type}(e:Enc α)(T:TypeId)(F:HL):Option Addr -> Nat -> List α -> Prop
 | zero (A:Option Addr):RowL e T F A 0 []
 | rows (q o N:Nat) (full:List α) (fz:Nat × Nat) (n:Nat) (xs:List α) (hq:(q,.rows e.w N (aD e full) T fz)∈F) (ho:o+n <= N) (hn:xs.length=n) (hx:∀k,k<n -> full.getD (o+k) e.dflt=xs.getD k e.dflt):RowL e T F (some ⟨q,o*e.w,none⟩) n xs
section
variable {α:Type} {e:Enc α} {T:TypeId} {F:HL} {A:Option Addr} {n:Nat} {xs:List α}
theorem RowL.mono{F':HL}(h:RowL e T F A n xs)(hs:∀x∈F,x∈F'):RowL e T F' A n xs:=by
 cases h with
 | zero=>exact .zero _
 | rows q o N full fz n xs hq ho hn hx=>exact .rows q o N full fz n xs (hs _ hq) ho hn hx
theorem RowL.up{X:HL}(h:RowL e T F A n xs):RowL e T (X++F) A n xs:=h.mono λ x hx=>List.mem_append_right _ hx
theorem RowL.len(h:RowL e T F A n xs):xs.length=n:=by
 cases h with
 | zero=>rfl
 | rows q o N full fz n xs hq ho hn hx=>exact hn
theorem RowL.at(h:RowL e T F A n xs){k:Nat}(hk:k<n):∃q o N full fz,A=some ⟨q,o*e.w,none⟩ /\ (q,.rows e.w N (aD e full) T fz)∈F /\ o+k<N /\ full.getD (o+k) e.dflt=xs.getD k e.dflt:=by
 cases h with
 | zero=>omega
 | rows q o N full fz n xs hq ho hn hx=>exact⟨q,o,N,full,fz,rfl,hq,by omega,hx k hk⟩
theorem RowL.whole{q N:Nat}{fz:Nat × Nat}(hq:(q,.rows e.w N (aD e xs) T fz)∈F)(h:xs.length <= N):RowL e T F (some ⟨q,0,none⟩) xs.length xs:=by
 have:=RowL.rows (e:=e) (T:=T) (F:=F) q 0 N xs fz xs.length xs hq (by omega) rfl (λ k hk=>by rw[Nat.zero_add])
 rwa [Nat.zero_mul] at this
end
section
variable {α:Type} {e:Enc α} {P:Program} {t tx ty T:TypeId} {inf:TypeInfo} {z:Value} {F:HL}
theorem xY(l:List α)(hw:0<e.w):∀ {j:Nat},j<l.length*e.w -> (aE e l)[j]?=some (e.cell (l.getD (j / e.w) e.dflt) (j % e.w)):=by
 induction l with
 | nil=>intro j hj;simp at hj
 | cons x l ih =>
  intro j hj
  have hc:aE e (x::l)=(List.range e.w).map (e.cell x)++aE e l:=by simp[aE]
  rw[hc]
  by_cases h:j<e.w
  ·rw[List.getElem?_append_left (by simpa using h),Nat.div_eq_of_lt h,Nat.mod_eq_of_lt h]
   simp[h]
  ·rw[List.getElem?_append_right (by simp;omega)]
   simp only[List.length_map,List.length_range]
   have h2:j=(j-e.w)+e.w:=by omega
   rw[ih (by simp only[List.length_cons,Nat.add_mul,Nat.one_mul] at hj;omega)]
   conv=>rhs;rw[h2,Nat.add_div_right _ hw,Nat.add_mod_right]
   rfl
theorem EH(ok:EncOk e P T inf z)(hw:0<e.w){F:HL}{A:Option Addr}{n:Nat}{xs:List α}(hl:RowL e T F A n xs){c:Nat}{e':TypeId}(hk:P.underlying tx=some (.slice e'))(X:HL)(w:World)(hR:Rel (X++F) w):Src P inf.size tx (.slice A n c) xs.length (aE e xs) w:=by
 cases hl with
 | zero =>
  cases A with
  | none=>exact Src.ofNil w hk c
  | some a=>exact Src.ofSlice w hk a 0 c [] (by simp) (λ j u h=>by simp at h) (λ u h=>by simp at h)
 | rows q o N full fz n xs hq ho hn hx =>
  subst hn
  refine Src.ofSlice w hk _ _ _ _ (by rw[bX,ok.size]) ?_ ?_
  ·intro j u hj
   have RK:j<xs.length*e.w:=by rw[<- bX];exact(List.getElem?_eq_some_iff.1 hj).1
   rw[xY xs hw RK] at hj
   have hd:j / e.w<xs.length:=Nat.div_lt_of_lt_mul (by rw[Nat.mul_comm];exact RK)
   have hb:=hR.holds _ (List.mem_append_right X hq)
   rw[Addr.add_lit]
   have hj2:o*e.w+j=(o+j / e.w)*e.w+j % e.w:=by
    rw[Nat.add_mul,Nat.add_assoc,Nat.mul_comm (j / e.w) e.w,Nat.div_add_mod]
   rw[kW (i:=o+j / e.w) (k:=j % e.w) hb rfl rfl hj2 (by omega) (Nat.mod_lt _ hw)]
   rw[<- hj]
   show some (aD e full (o+j / e.w) (j % e.w))=_
   unfold aD
   rw[hx _ hd]
  ·intro u hu
   simp only[aE,List.mem_flatMap,List.mem_map] at hu
   obtain⟨x,_,k,_,rfl⟩:=hu
   exact ok.one x k
def SrcIn(P:Program)(e:Enc α)(F:HL)(A:Option Addr)(n:Nat)(xs:List α):Prop :=
 (xs.length=n /\ (A=none -> n=0)) /\ ∀ {tx e':TypeId} (c:Nat),P.underlying tx=some (.slice e') -> ∀X w,Rel (X++F) w -> Src P e.w tx (.slice A n c) xs.length (aE e xs) w
theorem SrcIn.mono{F F':HL}{A:Option Addr}{n:Nat}{xs:List α}(h:SrcIn P e F A n xs)(hs:∃X,F'.Perm (X++F)):SrcIn P e F' A n xs:=by
 obtain⟨X,hX⟩:=hs
 refine⟨h.1,λ c hk Y w hR=>h.2 c hk (Y++X) w ?_⟩
 rw[List.append_assoc]
 exact hR.perm (List.Perm.append_left Y hX.symm)
theorem SrcIn.up{F X:HL}{A:Option Addr}{n:Nat}{xs:List α}(h:SrcIn P e F A n xs):SrcIn P e (X++F) A n xs:=h.mono ⟨X,List.Perm.refl _⟩
theorem SrcIn.none:SrcIn P e F Option.none 0 []:=⟨⟨rfl,λ _=>rfl⟩,λ c hk X w hR=>Src.ofNil w hk c⟩
theorem RowL.src(ok:EncOk e P T inf z)(hw:0<e.w){F:HL}{A:Option Addr}{n:Nat}{xs:List α}(hl:RowL e T F A n xs):SrcIn P e F A n xs:=by
 refine⟨⟨hl.len,λ h=>?_⟩,λ c hk X w hR=>?_⟩
 ·subst h;cases hl;rfl
 ·have:=EH (c:=c) ok hw hl hk X w hR
  rwa [ok.size] at this
theorem SrcIn.lit(ok:EncOk e P T inf z){F:HL}{q:Nat}{xs:List α}{rest:List Value}{ty:TypeId}{fz:Nat × Nat}(hq:(q,.lit (aE e xs++rest) ty fz)∈F):SrcIn P e F (some ⟨q,0,Option.none⟩) xs.length xs:=by
 refine⟨⟨rfl,λ h=>by cases h⟩,λ c hk X w hR=>Src.ofSlice w hk _ _ _ _ (by rw[bX]) ?_ ?_⟩
 ·intro j u hj
  have hb:=hR.holds _ (List.mem_append_right X hq)
  have hl:j<(aE e xs).length:=(List.getElem?_eq_some_iff.1 hj).1
  simp only[Blk.den] at hb
  rw[Addr.add_lit]
  simp[World.cell?,hb,List.getElem?_append_left hl,hj]
 ·intro u hu
  simp only[aE,List.mem_flatMap,List.mem_map] at hu
  obtain⟨x,_,k,_,rfl⟩:=hu
  exact ok.one x k
def NewS(e:Enc α)(T:TypeId)(src:List α)(A A':Option Addr)(g_:Nat)(K_:HL):Prop :=
 (src=[] /\ A'=A /\ g_=0 /\ K_=[]) \/ ∃b,A'=some ⟨b,0,none⟩ /\ K_=[(b,.rows e.w g_ (aD e src) T (0,0))] /\ src.length <= g_
theorem NewS.rowL{src:List α}{A A':Option Addr}{g_:Nat}{K_:HL}(h:NewS e T src A A' g_ K_){F:HL}(hF:∀x∈K_,x∈F):RowL e T F A' src.length src:=by
 rcases h with ⟨rfl,rfl,rfl,rfl⟩|⟨b,rfl,rfl,hc⟩
 ·exact .zero _
 ·exact RowL.whole (hF _ (List.mem_singleton.2 rfl)) hc
theorem EI(l:List α)(k:Nat):aD e (l++List.replicate k e.dflt)=aD e l:=by
 funext i j
 unfold aD
 congr 1
 rw[List.getD_eq_getElem?_getD,List.getD_eq_getElem?_getD]
 by_cases h:i<l.length
 ·rw[List.getElem?_append_left h]
 ·rw[List.getElem?_append_right (by omega),List.getElem?_replicate,List.getElem?_eq_none (by omega)]
  split <;> rfl
theorem xZ(ok:EncOk e P T inf z)(ht:P.underlying t=some (.slice T)){A:Option Addr}{G:HL}{w:World}(hA:∀a,A=some a -> a.spot=none)(hR:Rel G w)(src:List α)(x:Value)
  (hs:Src P inf.size tx x src.length (aE e src) w) (hb:src.length <= 100000000) :
  ∃A' g_ K_ w',(Builtin.append_ #[t,tx] ty #[.slice A 0 0,x]).run P w=.ok (.slice A' src.length g_) w' /\ NewS e T src A A' g_ K_ /\ Rel (K_++G) w' /\ Below 0 w w':=by
 rcases Nat.eq_zero_or_pos src.length with h0|h0
 ·obtain rfl:src=[]:=List.eq_nil_of_length_eq_zero h0
  cases A with
  | none =>
   refine⟨none,0,[],w,?_,.inl ⟨rfl,rfl,rfl,rfl⟩,hR,Below.refl _ _⟩
   have hc:(Builtin.firstCells inf.size 0 x).run P w=.ok #[] w:=hs.cells
   rcases hs.kind with ⟨e',hk⟩|hk <;> simp[Builtin.append_,run_underlying ht,run_underlying hk,Go.sizeOf,typeInfo,ok.info,hs.len,hc]
  | some a =>
   obtain⟨b,off,spot⟩:=a
   obtain rfl:spot=none:=hA _ rfl
   refine⟨some ⟨b,off,none⟩,0,[],w,?_,.inl ⟨rfl,rfl,rfl,rfl⟩,hR,Below.refl _ _⟩
   have:=run_append_room_src (P:=P) w t tx ty T inf ht ok.info b off 0 0 x 0 (aE e ([]:List α)) hs (Nat.le_refl _) (λ j hj=>by simp[aE] at hj) (λ j hj=>by simp[aE] at hj)
   exact this
 ·have WG:=ok.bytes
  have Q3:Builtin.nextslicecap (0+src.length) 0*inf.bytes <= 281474976710656:=by
   have h1:=j8 (0+src.length) 0 (by omega)
   have h2:Builtin.nextslicecap (0+src.length) 0*inf.bytes <= (2*100000000+192)*1000:=Nat.mul_le_mul (by omega) WG
   omega
  have hold:(Builtin.firstCells inf.size 0 (.slice A 0 0)).run P w.drew=.ok ([]:List Value).toArray w.drew:=by
   cases A with
   | none=>exact run_firstCells_none w.drew inf.size 0 0 0
   | some a =>
    obtain⟨b,off,spot⟩:=a
    obtain rfl:spot=none:=hA _ rfl
    exact run_firstCells_some w.drew inf.size 0 ⟨b,off,none⟩ 0 0 [] (by simp) (λ j u hj=>by simp at hj)
  have dO:=run_append_grow_src (P:=P) w t tx ty T inf z ht ok.info ok.zero A 0 0 [] hold x src.length (aE e src) hs (by omega) (by omega) Q3
  have Uc:=grownCap_ge w (0+src.length) 0 T
  generalize grownCap w (0+src.length) 0 T=nc at *
  rw[Nat.zero_add] at dO Uc
  refine⟨_,nc,[(w.heap.size,.rows e.w nc (aD e src) T (0,0))],_,dO,.inr ⟨_,rfl,rfl,Uc⟩,?_,?_⟩
  ·have:=(Rel.cons (.rows e.w nc (aD e src) T (0,0)) (o:=.cells (([]++aE e src).toArray++Builtin.zeroCells z.cells (nc-src.length)) T (0,0)) ?_ (hR.world (w':=w.drew) rfl))
   ·exact this
   ·show Obj.cells _ _ _=_
    congr 1
    apply Array.ext'
    show bU _ _ _=_
    have hl:nc=(src++List.replicate (nc-src.length) e.dflt).length:=by simp;omega
    have h3:=ku e (src++List.replicate (nc-src.length) e.dflt)
    rw[<- hl,EI] at h3
    rw[h3,cP,List.nil_append,Array.toList_append,nY ok]
  ·exact⟨rfl,rfl,rfl,by simp,λ k hk=>by omega⟩
end
section
variable {r:Option Nat} {P:Program} {N:Nat} {D:List Deferred} {F:HL} {w0:World} {R:HL} {s:Cfg} {Q:Exit -> Act -> World -> Prop}
variable {α:Type} {e:Enc α} {T:TypeId} {inf:TypeInfo} {z:Value}
theorem mW(ok:EncOk e P T inf z)(src:List α)(j:Nat){A:Option Addr}{B:Option Addr}{m c':Nat}{tx:TypeId}(hA:∀a,A=some a -> a.spot=none)(hm:m=src.length)(hb:src.length <= 100000000)
  (hs:∀e',P.underlying tx=some (.slice e') -> ∀X w,Rel (X++F) w -> Src P inf.size tx (.slice B m c') src.length (aE e src) w)
  (hk:∀ (A':Option Addr) (g_:Nat) (K_:HL),NewS e T src A A' g_ K_ -> RN r P N D F w0 R (Oc j K_ (iB N (.slice A' src.length g_) s)) Q)
  (h:EG P N j (Bn s) s=some (A,0,0,T,B,m,c',tx,([]:HL)):=by kernel_rfl):RN r P N D F w0 R s Q:=by
 obtain⟨o,a1,a2,t,e',q0,q1,q2,q3,q4,q5,q6,q7,q9,Q8,UB⟩:=xX h
 refine⟨λ hR a w hF bY hB=>?_⟩
 obtain⟨c,k,L,Bs,Ts⟩:=s
 unfold Bn at q0
 cases c with
 | code c=>cases q0
 | ex c=>cases q0
 | drw _ _=>cases q0
 | ops ops i =>
  simp only at q0 q3 q4 q5 q9 Q8 UB hF bY
  have PH:ops.toList.drop i=o::ops.toList.drop (i+1):=by
   have iN:i<ops.toList.length:=(List.getElem?_eq_some_iff.1 q0).1
   rw[List.drop_eq_getElem_cons iN,(List.getElem?_eq_some_iff.1 q0).2]
  show wpListIn _ _ _ _ _ _ _ _
  rw[PH,wpListIn,if_pos (by simp[Region.wanted,q1])]
  refine⟨λ _ _=>trivial,?_⟩
  have BY:=k9 (A:=Bs) q9 Q8
  have key:fq P o a w λ u w'=>∃y:Option Addr × Nat × HL,(u=.slice y.1 src.length y.2.1 /\ NewS e T src A y.1 y.2.1 y.2.2) /\ Rel ((y.2.2++(Bs++((oth [j] Ts.length).filterMap (Ts[·]?)).flatten))++F) w' /\ Below 0 w w':=by
   simp only[Bool.and_eq_true] at q3
   have e1:=(hF.eval q3.1).trans q4
   have e2:=(hF.eval q3.2).trans q5
   have Py:Rel ((Bs++((oth [j] Ts.length).filterMap (Ts[·]?)).flatten)++F) w:=by
    have:=bY.perm (BY.append_right F)
    exact this
   obtain⟨A',g_,K_,w',r1,r2,r3,r4⟩:=xZ (ty:=o.type) ok q6 hA Py src (.slice B m c') (hs e' q7 _ w bY) hb
   unfold fq
   have dO:(execOp a.eval o).run P w=.ok (.value (.slice A' src.length g_)) w':=by
    simp[execOp,q2,resolve,invoke,builtin,Sem.run_bind,e1,e2,r1]
   rw[dO]
   exact⟨(A',g_,K_),⟨rfl,r2⟩,by rw[List.append_assoc];exact r3,r4⟩
  refine lZ (by rw[q2];intro c hc;cases hc) key ?_
  rintro u w' ⟨⟨A',g_,K_⟩,⟨rfl,Vq⟩,Py,Us⟩
  obtain⟨L',p1⟩:=fW UB (.slice A' src.length g_)
  have hh:=(hk A' g_ K_ Vq).h hR
  have Rt:iB N (.slice A' src.length g_) ⟨.ops ops i,k,L,Bs,Ts⟩=⟨.ops ops (i+1),k,L',Bs,Ts⟩:=by
   unfold iB
   simp only[q0,p1]
  rw[Rt] at hh
  refine hh _ w' (hF.put p1) (Py.perm (List.Perm.append_right F ?_)) (hB.trans Us)
  show (Bs++(K_::(oth [j] Ts.length).filterMap (Ts[·]?)).flatten).Perm _
  rw[List.flatten_cons,<- List.append_assoc,<- List.append_assoc]
  exact List.Perm.append_right _ List.perm_append_comm
end
def ya:Enc Int:=⟨1,λ p k=>match k with|0=>vI p|_=>vI p,0⟩
noncomputable def J8:TypeInfo:=match Tryz.prog.info? 3 with | some i=>i | none=>⟨.bool,"",0,0,false,0,0,none,false,#[]⟩
noncomputable def J9:Value:=match J8.zero with|some z=>z|none=>.bool false
theorem EJ:EncOk ya Tryz.prog 3 J8 J9 where
 info:=by kernel_rfl
 zero:=by kernel_rfl
 size:=by kernel_rfl
 zsize:=by kernel_rfl
 zcell:=λ k hk=>by
  have h:∀k<1,J9.cells[k]?=some (ya.cell ya.dflt k):=by intro k hk;(iterate 1 (rcases k with _|k;· kernel_rfl));omega
  exact h k hk
 one:=λ x k=>by unfold ya;dsimp only;split <;> rfl
 bytes:=Nat.le_of_ble_eq_true (by kernel_rfl)
abbrev pA(n:Int):Prop:=-9223372036854775808 <= n /\ n <= 9223372036854775807
theorem fl{n:Int}(hn:pA n)(PF:Int)(h:0<PF):0 <= aP n PF /\ aP n PF<PF:=by
 unfold aP
 have hx:0 <= (if n<0 then aV (0-aV (n+1)) else n):=by
  split
  ·rw[aK (x:=n+1) (by omega),aK (by omega)];omega
  ·omega
 exact⟨Int.tmod_nonneg _ hx,Int.tmod_lt_of_pos _ h⟩
inductive ArgL(F:HL):Option Addr -> Nat -> List Int -> Prop
 | zero (A:Option Addr):ArgL F A 0 []
 | cells (q o N:Nat) (g:Nat -> Nat -> Value) (ty:TypeId) (fz:Nat × Nat) (xs:List Int) (hq:(q,.rows 1 N g ty fz)∈F) (ho:o+xs.length <= N) (hx:∀k,k<xs.length -> g (o+k) 0=vI (xs.getD k 0)) (hb:∀k,k<xs.length -> pA (xs.getD k 0)):ArgL F (some ⟨q,o,none⟩) xs.length xs
theorem ArgL.up{F X:HL}{A:Option Addr}{n:Nat}{xs:List Int}(h:ArgL F A n xs):ArgL (X++F) A n xs:=by
 cases h with
 | zero=>exact .zero _
 | cells q o N g ty fz xs hq ho hx hb=>exact .cells q o N g ty fz xs (List.mem_append_right _ hq) ho hx hb
theorem ArgL.len{F:HL}{A:Option Addr}{n:Nat}{xs:List Int}(h:ArgL F A n xs):xs.length=n:=by
 cases h <;> rfl
theorem ArgL.at{F:HL}{A:Option Addr}{n:Nat}{xs:List Int}(h:ArgL F A n xs){k:Nat}(hk:k<n):∃q o N g ty fz,A=some ⟨q,o,none⟩ /\ (q,.rows 1 N g ty fz)∈F /\ o+k<N /\ g (o+k) 0=vI (xs.getD k 0) /\ pA (xs.getD k 0):=by
 cases h with
 | zero=>omega
 | cells q o N g ty fz xs hq ho hx hb=>exact⟨q,o,N,g,ty,fz,rfl,hq,by omega,hx k hk,hb k hk⟩
def kv(xs:List Int)(i:Nat):Int:=if i<xs.length then aP (xs.getD i 0) 1000000 else 0
theorem gn{F:HL}{A:Option Addr}{n:Nat}{xs:List Int}(h:ArgL F A n xs)(i:Nat):0 <= kv xs i /\ kv xs i<1000000:=by
 unfold kv
 split
 ·next hi =>
  rw[h.len] at hi
  obtain⟨_,_,_,_,_,_,_,_,_,_,hr⟩:=h.at hi
  exact fl hr 1000000 (by decide)
 ·omega
def ks(xs:List Int)(n:Nat):List Int:=(List.range n).map (kv xs)
theorem md(xs:List Int)(n:Nat):(ks xs n).length=n:=by simp[ks]
theorem zK(xs:List Int)(n:Nat):ks xs (n+1)=ks xs n++[kv xs n]:=by simp[ks,List.range_succ]
theorem Lh{xs:List Int}{n i:Nat}(h:i<n):(ks xs n).getD i 0=kv xs i:=by simp[ks,h]
structure Dr where (a b:Int)
def lI:Enc V2:=⟨2,λ p k=>match k with|0=>vI p.x|_=>vI p.y,⟨0,0⟩⟩
noncomputable def Ka:TypeInfo:=match Tryz.prog.info? 29 with | some i=>i | none=>⟨.bool,"",0,0,false,0,0,none,false,#[]⟩
noncomputable def Kb:Value:=match Ka.zero with|some z=>z|none=>.bool false
theorem EK:EncOk lI Tryz.prog 29 Ka Kb where
 info:=by kernel_rfl
 zero:=by kernel_rfl
 size:=by kernel_rfl
 zsize:=by kernel_rfl
 zcell:=λ k hk=>by
  have h:∀k<2,Kb.cells[k]?=some (lI.cell lI.dflt k):=by intro k hk;(iterate 2 (rcases k with _|k;· kernel_rfl));omega
  exact h k hk
 one:=λ x k=>by unfold lI;dsimp only;split <;> rfl
 bytes:=Nat.le_of_ble_eq_true (by kernel_rfl)
def fj:Enc Bx:=⟨4,λ p k=>match k with|0=>vI p.x0|1=>vI p.y0|2=>vI p.x1|_=>vI p.y1,⟨0,0,0,0⟩⟩
noncomputable def Nc:TypeInfo:=match Tryz.prog.info? 25 with | some i=>i | none=>⟨.bool,"",0,0,false,0,0,none,false,#[]⟩
noncomputable def Nd:Value:=match Nc.zero with|some z=>z|none=>.bool false
theorem Kd:EncOk fj Tryz.prog 25 Nc Nd where
 info:=by kernel_rfl
 zero:=by kernel_rfl
 size:=by kernel_rfl
 zsize:=by kernel_rfl
 zcell:=λ k hk=>by
  have h:∀k<4,Nd.cells[k]?=some (fj.cell fj.dflt k):=by intro k hk;(iterate 4 (rcases k with _|k;· kernel_rfl));omega
  exact h k hk
 one:=λ x k=>by unfold fj;dsimp only;split <;> rfl
 bytes:=Nat.le_of_ble_eq_true (by kernel_rfl)
def me:Enc Dr:=⟨2,λ p k=>match k with|0=>vI p.a|_=>vI p.b,⟨0,0⟩⟩
noncomputable def Nf:TypeInfo:=match Tryz.prog.info? 119 with | some i=>i | none=>⟨.bool,"",0,0,false,0,0,none,false,#[]⟩
noncomputable def Ng:Value:=match Nf.zero with|some z=>z|none=>.bool false
theorem Ke:EncOk me Tryz.prog 119 Nf Ng where
 info:=by kernel_rfl
 zero:=by kernel_rfl
 size:=by kernel_rfl
 zsize:=by kernel_rfl
 zcell:=λ k hk=>by
  have h:∀k<2,Ng.cells[k]?=some (me.cell me.dflt k):=by intro k hk;(iterate 2 (rcases k with _|k;· kernel_rfl));omega
  exact h k hk
 one:=λ x k=>by unfold me;dsimp only;split <;> rfl
 bytes:=Nat.le_of_ble_eq_true (by kernel_rfl)
structure MapIn(F:HL)(S:Setup)(rs:List Bx)(ds:List Dr):Prop where
 rooms:RowL fj 25 F S.rA S.rn rs
 doors:RowL me 119 F S.dA S.dn ds
theorem MapIn.up{F X:HL}{S:Setup}{rs:List Bx}{ds:List Dr}(h:MapIn F S rs ds):MapIn (X++F) S rs ds:=⟨h.rooms.up,h.doors.up⟩
abbrev pB:List Bx:=[⟨-12000,-9000,-1,9000⟩,⟨0,0,12000,9000⟩,⟨0,-9000,12000,-1⟩]
abbrev jQ(i:Nat):List Dr:=match i with|0=>[]|1=>[⟨0,1⟩]|_=>[⟨0,2⟩,⟨1,2⟩]
def ClS{α:Type}(e:Enc α)(T:TypeId)(xs:List α)(A':Option Addr)(c':Nat)(Hl:HL):Prop:=∃A0,NewS e T xs A0 A' c' Hl
theorem ClS.rowL{α:Type}{e:Enc α}{T:TypeId}{xs:List α}{A':Option Addr}{c':Nat}{Hl:HL}(h:ClS e T xs A' c' Hl){F:HL}(hF:∀x∈Hl,x∈F):RowL e T F A' xs.length xs:=h.elim λ _ h=>h.rowL hF
theorem ClS.nil{α:Type}(e:Enc α)(T:TypeId)(A:Option Addr):ClS e T [] A 0 []:=⟨A,.inl ⟨rfl,rfl,rfl,rfl⟩⟩
def Im(xs:List Int):Int:=1+kv xs 0 % 3
def pC(xs:List Int):Int:=Im xs+kv xs 3 / 3 % 3
def bN(xs:List Int)(i:Nat):Int:=kv xs (4+2*i)
def bM(xs:List Int)(i:Nat):Int:=kv xs (5+2*i)
def rU(xs:List Int)(i:Nat)(A:Option Addr)(c:Nat):Bod:=⟨⟨(c6 (bN xs i)).1,(c6 (bN xs i)).2,A,c⟩,⟨((((bN xs i) / 1000) % 13)-6)*900,((((bM xs i) / 50) % 11)-5)*800,((((bM xs i) / 550) % 9)-4)*300,((((bN xs i) / 13000) % 9)-4)*300,([1024,1024,512,2048,0]:List Int).getD (((bM xs i) / 5000) % 5).toNat 0⟩,(bM xs i) % 50,(bN xs i) % 7⟩
def vt(a b c:Nat)(i:Nat):Option Addr:=match i with|0=>some ⟨a,0,none⟩|1=>some ⟨b,0,none⟩|_=>some ⟨c,0,none⟩
def jn(i:Nat):Nat:=match i with|0=>0|1=>1|_=>2
def zL(a b c:Nat):Nat -> Nat -> Value:=λ i _=>.slice (vt a b c i) (jn i) (jn i)
theorem tz{F:HL}{A:Option Addr}{n:Nat}{xs:List Int}(h:ArgL F A n xs):1 <= Im xs /\ Im xs <= 3:=by
 have:=gn h 0
 unfold Im;omega
theorem oV{F:HL}{A:Option Addr}{n:Nat}{xs:List Int}(h:ArgL F A n xs):1 <= pC xs /\ pC xs <= 5 /\ Im xs <= pC xs:=by
 have:=gn h 0
 have:=gn h 3
 unfold pC Im;omega
theorem EL{xs rest:List Int}{n i:Nat}(h:i<n):(ks xs n++rest).getD i 0=kv xs i:=by
 rw[List.getD_eq_getElem?_getD,List.getElem?_append_left (by rw[md];exact h),<- List.getD_eq_getElem?_getD,Lh h]
theorem pD{α:Type}{l r:List α}{i:Nat}{d:α}(h:i<l.length):(l++r).getD i d=l.getD i d:=by
 rw[List.getD_eq_getElem?_getD,List.getElem?_append_left h,<- List.getD_eq_getElem?_getD]
theorem rV{α:Type}{l:List α}{x d:α}:(l++[x]).getD l.length d=x:=by simp
theorem ShH.left{s:Shp}{T X:HL}(h:ShH s T):ShH s (T++X):=λ F hF=>h F λ x hx=>hF x (List.mem_append_left _ hx)
theorem ShH.right{s:Shp}{T X:HL}(h:ShH s X):ShH s (T++X):=λ F hF=>h F λ x hx=>hF x (List.mem_append_right _ hx)
theorem yb{F:HL}{a b c:Nat}(hb:(b,.rows 2 1 (aD me (jQ 1)) 119 (0,0))∈F)(hc:(c,.rows 2 2 (aD me (jQ 2)) 119 (0,0))∈F):∀i:Nat,RowL me 119 F (vt a b c i) (jn i) (jQ i)
 | 0=>.zero _
 | 1=>RowL.whole (xs:=jQ 1) hb (Nat.le_refl _)
 | _+2=>RowL.whole (xs:=jQ 2) hc (Nat.le_refl _)
structure SetG(xs:List Int)(S:Setup)(T:HL):Prop where
 pl:S.players=Im xs
 nb:(S.nb:Int)=pC xs
 bo:S.bo=0
 cap:S.nb <= S.bc
 room:S.bo+S.nb <= S.bR
 nums:S.box=⟨-12000,-9000,12000,9000⟩ /\ S.fog=4000+(kv xs 1 % 9)*1000 /\ S.g=⟨0,(-((kv xs 2 / 36) % 3))*40⟩ /\ S.push=((kv xs 1 / 9) % 5)*100 /\ S.drag=(kv xs 2 % 4)*100 /\ S.rest=((kv xs 2 / 4) % 3)*512 /\ S.rounds=1+(kv xs 2 / 12) % 3 /\ S.fuel=60
 bod:∀j,j<S.nb -> ∃A c,S.body j=rU xs j A c
 sin:∀F,(S.bb,.rows 9 S.bR (ge S.bods) 73 (0,0))∈F -> (∀x∈T,x∈F) -> SetIn F S
 maps:(S.rn=3 /\ S.dn=jn (kv xs 3 % 3).toNat) /\ ∀F,(∀x∈T,x∈F) -> MapIn F S pB (jQ (kv xs 3 % 3).toNat)
theorem B4(A:Option Addr)(n cap:Nat)(xs:List Int)(F:HL)(hl:ArgL F A n xs)(hn:n <= 9223372036854775807):Sp Tryz.prog 20 #[.slice A n cap] [] F (λ u H'=>∃x:Setup × HL,H'=ap [(x.1.bb,.rows 9 x.1.bR (ge x.1.bods) 73 (0,0))] [x.2] /\ (u=Setup.v x.1 /\ SetG xs x.1 x.2)):=by
 refine Sp.run Tryz.func20 rfl mn (A:=[]) (Ts:=[]) rfl λ w0=>?_
 refine aa 17 [] λ n1=>RN.nt<|RN.loop (σ:=Nat × Option Addr × Nat × HL) (λ ⟨i,A_,c_,T_⟩=>⟨[(0,.slice A n cap),(2,vP (n1+0) 0),(3,.slice A_ i c_),(4,vI (i:Int))],[((n1+0),.lit [vI 0,.slice none 0 0,vI 0,vI 0,vI 0,vI 0,.slice none 0 0,.slice none 0 0,vI 0,vI 0,vI 0,vI 0,vI 0,vI 0,vI 0,vI 0] 31 (0,0))],[T_],i <= 24 /\ SlIs ya 3 (ks xs i) A_ c_ T_ /\ dV A_,24-i⟩) (0,none,0,[]) [0] [0] (⟨Nat.zero_le _,SlIs.nil _ _,trivial⟩) ?_
 rintro⟨i,A_,c_,T_⟩ ⟨YO,P1,TM⟩ PK
 refine aa 7 [] λ _=>RN.em ((i:Int)<24) 12 (λ h4=>?_) λ h4=>?_
 ·refine aa 19 [] λ _=>RN.em ((i:Int)<(n:Int)) 18 (λ h5=>?_) λ h5=>?_
  ·refine aa 4 [] λ _=>?_
   obtain⟨qx6,Qo,Ws,gx6,Ze,Yf,R8,SG,Xp,SN,Vu⟩:=hl.at (k:=i) (by omega)
   refine bZ 19 (congrArg (λ v_=>(.slice v_ n cap:Value)) R8)<|RN.ro (λ _=>(mc SG mn))<|aq 2 [.ix i,.rorow 0 (Qo+i) 0] [(Qo+i*1)=(Qo+i)*1+0 /\ (Qo+i)<Ws,(i:Int)=((i:Nat):Int) /\ i<n] λ _=>bZ 22 (congrArg (λ v_=>(v_:Value)) SN)<|al (fZ (xs.getD i 0) 1000000 (by decide) _) ?_
   have hA7:=fl (n:=xs.getD i 0) Vu 1000000 (by decide)
   refine aa 7 [] λ n8=>kC EJ (ks xs i) [aP (xs.getD i 0) 1000000] 0 0 (md xs i).symm P1 (by rw[md];show i+1 <= 100000000;omega) ?_
   rintro A9 WM Pp ⟨ZO,Zz⟩
   refine aq 9 [.nw] [bF ((i:Int)+1)] λ _=>?_
   have Sy:=Zz TM
   refine PK (i+1,A9,WM,Pp) [1] [0] ?_
   try dsimp only
   refine⟨⟨by omega,?_,Sy⟩,by omega⟩
   rw[zK,show kv xs i=_ from by unfold kv;rw[if_pos (by rw[hl.len];omega)]]
   exact ZO
  ·refine aa 7 [] λ WY=>kC EJ (ks xs i) [0] 0 0 (md xs i).symm P1 (by rw[md];show i+1 <= 100000000;omega) ?_
   rintro A15 c16 Q7 ⟨ZL,Zx⟩
   refine aq 9 [.nw] [bF ((i:Int)+1)] λ _=>?_
   have Sy:=Zx TM
   refine PK (i+1,A15,c16,Q7) [1] [0] ?_
   try dsimp only
   refine⟨⟨by omega,?_,Sy⟩,by omega⟩
   rw[zK,show kv xs i=_ from by unfold kv;rw[if_neg (by rw[hl.len];omega)]]
   exact ZL
 ·refine aa 7 [] λ _=>?_
  have ei:i=24:=by omega
  subst ei
  obtain⟨kb,rest,rfl,rfl,Q6⟩:=P1.open0 TM (by decide) (by rw[md];decide)
  have hcap:24 <= c_:=by rw[md] at Q6;exact Q6
  refine DH 0 (x:=(kb,.rows 1 c_ (aD ya (ks xs 24++rest)) 3 (0,0))) ?_
  have P2:=gn hl 0
  have hk1:=gn hl 1
  have YK:=gn hl 2
  have hk3:=gn hl 3
  have hse:pC xs=1+kv xs 0 % 3+kv xs 3 / 3 % 3:=rfl
  have YD:=oV hl
  have Rb:=tz hl
  refine RN.draw [37] []<|aL [] [0,5,6,12,18,23,29,1,7,13,19,24,30,2,8,14,20,25,31,3,9,15,21,26,32,4,10,16,22,27,33,11,17,28,34,35] [.row 0 0 0,.row 0 1 0,.row 0 1 0,.row 0 2 0,.row 0 2 0,.row 0 2 0,.nw,.nw,.nw,.nw,.nw,.nw,.nw,.nw,.nw,.nw,.nw,.nw,.nw,.nw,.nw,.nw] [bF (1+(((kv xs 2) / 12) % 3)),bF ((((kv xs 2) / 4) % 3)*512),bF ((((kv xs 1) / 9) % 5)*100),bF (4000+(((kv xs 1) % 9)*1000)),0 <= (kv xs 2) / 12 /\ (0:Int)<3 /\ (kv xs 2) / 12 <= 9223372036854775807,0 <= (kv xs 2) / 4 /\ (0:Int)<3 /\ (kv xs 2) / 4 <= 9223372036854775807,bF (((kv xs 2) % 4)*100),0 <= (kv xs 1) / 9 /\ (0:Int)<5 /\ (kv xs 1) / 9 <= 9223372036854775807,bF (((kv xs 1) % 9)*1000),bF (1+((kv xs 0) % 3)),0 <= kv xs 2 /\ (0:Int)<12 /\ kv xs 2 <= 9223372036854775807,0 <= kv xs 2 /\ (0:Int)<4 /\ kv xs 2 <= 9223372036854775807,0 <= kv xs 2 /\ (0:Int)<4 /\ kv xs 2 <= 9223372036854775807,0 <= kv xs 1 /\ (0:Int)<9 /\ kv xs 1 <= 9223372036854775807,0 <= kv xs 1 /\ (0:Int)<9 /\ kv xs 1 <= 9223372036854775807,0 <= kv xs 0 /\ (0:Int)<3 /\ kv xs 0 <= 9223372036854775807,2=2*1+0 /\ 2<c_,2=2*1+0 /\ 2<c_,2=2*1+0 /\ 2<c_,1=1*1+0 /\ 1<c_,1=1*1+0 /\ 1<c_,0=0*1+0 /\ 0<c_]<|RD.one 36 (RDO.ev [] [] λ TE=>?_)
  refine RD.one 37 (RDO.ev [] (ow 0 16) λ _=>?_)
  refine RD.fin<|aq 38 [.row 1 2 0,.nw,.nw,.nw,.nw,.own 0,.own 0,.own 1,.row 6 3 0,.nw] [0 <= kv xs 3 /\ (0:Int)<3 /\ kv xs 3 <= 9223372036854775807,3=3*1+0 /\ 3<c_,bF ((-(((kv xs 2) / 36) % 3))*40),-9223372036854775807 <= ((kv xs 2) / 36) % 3 /\ ((kv xs 2) / 36) % 3 <= 9223372036854775808,0 <= (kv xs 2) / 36 /\ (0:Int)<3 /\ (kv xs 2) / 36 <= 9223372036854775807,0 <= kv xs 2 /\ (0:Int)<36 /\ kv xs 2 <= 9223372036854775807,2=2*1+0 /\ 2<c_] λ Pr=>RN.dn 0 (.rows 1 3 (zL (Pr+1) (Pr+2) (Pr+3)) 27 (0,0))<|aq 13 [.ix (((kv xs 3) % 3).toNat),.row 0 (((kv xs 3) % 3).toNat) 0,.own 5] [(0+(((kv xs 3) % 3).toNat)*1)=(((kv xs 3) % 3).toNat)*1+0 /\ (((kv xs 3) % 3).toNat)<3,(kv xs 3) % 3=((((kv xs 3) % 3).toNat:Nat):Int) /\ ((kv xs 3) % 3).toNat<3] λ _=>RN.nt<|RN.nt<|RN.loop (σ:=Nat × List Bod × Option Addr × Nat × HL × HL) (λ ⟨j,bods,B_,d_,V_,U_⟩=>⟨[(2,vP (n1+0) 0),(3,vS kb 0 24 c_),(6,vP (TE+0) 0),(7,vI (j:Int))],[((Pr+4),.rows 1 3 (zL (Pr+1) (Pr+2) (Pr+3)) 27 (0,0)),((Pr+3),.lit [vI 0,vI 2,vI 1,vI 2] 119 (0,0)),((Pr+2),.lit [vI 0,vI 1] 119 (0,0)),((Pr+1),.lit [] 119 (0,0)),((Pr+0),.lit [vI (-12000),vI (-9000),vI (-1),vI 9000,vI 0,vI 0,vI 12000,vI 9000,vI 0,vI (-9000),vI 12000,vI (-1)] 25 (0,0)),((TE+0),.lit [vI (1+((kv xs 0) % 3)),.slice B_ j d_,vI (-12000),vI (-9000),vI 12000,vI 9000,vS (Pr+0) 0 3 3,.slice (vt (Pr+1) (Pr+2) (Pr+3) (((kv xs 3) % 3).toNat)) (jn (((kv xs 3) % 3).toNat)) (jn (((kv xs 3) % 3).toNat)),vI (4000+(((kv xs 1) % 9)*1000)),vI 0,vI ((-(((kv xs 2) / 36) % 3))*40),vI ((((kv xs 1) / 9) % 5)*100),vI (((kv xs 2) % 4)*100),vI ((((kv xs 2) / 4) % 3)*512),vI (1+(((kv xs 2) / 12) % 3)),vI 60] 31 (0,0)),(kb,.rows 1 c_ (aD ya (ks xs 24++rest)) 3 (0,0)),((n1+0),.lit [vI 0,.slice none 0 0,vI 0,vI 0,vI 0,vI 0,.slice none 0 0,.slice none 0 0,vI 0,vI 0,vI 0,vI 0,vI 0,vI 0,vI 0,vI 0] 31 (0,0))],[V_,U_],(j:Int) <= pC xs /\ bods.length=j /\ (∀t,t<j -> ∃A c,bods.getD t dB=rU xs t A c) /\ (∀t,t<j -> ShH (bods.getD t dB).sh U_) /\ SlIs jM 73 bods B_ d_ V_ /\ dV B_,(pC xs).toNat-j⟩) (0,[],none,0,[],[]) [0,1,2,3,4,5,6,7] [0,1] (⟨by show (0:Int) <= _;omega,rfl,λ t ht=>absurd ht (Nat.not_lt_zero _),λ t ht=>absurd ht (Nat.not_lt_zero _),SlIs.nil _ _,trivial⟩) ?_
  rintro⟨j,bods,B_,d_,V_,U_⟩ ⟨UR,Ql,UY,SD,QG,W8⟩ Zo
  refine aa 2 [] λ _=>RN.draw [] []<|aL [] [0,1,3,2,4,5,6,7,8,9] [.own 5,.row 6 3 0,.nw,.nw,.nw] [bF ((1+((kv xs 0) % 3))+(((kv xs 3) / 3) % 3)),0 <= (kv xs 3) / 3 /\ (0:Int)<3 /\ (kv xs 3) / 3 <= 9223372036854775807,0 <= kv xs 3 /\ (0:Int)<3 /\ kv xs 3 <= 9223372036854775807,3=3*1+0 /\ 3<c_]<|RD.fin<|aa 1 [] λ _=>RN.em ((j:Int)<(1+((kv xs 0) % 3))+(((kv xs 3) / 3) % 3)) 101 (λ h24=>?_) λ h24=>?_
  ·refine aq 13 [.nw,.nw,.ix ((4+(2*(j:Int))).toNat),.row 6 ((4+(2*(j:Int))).toNat) 0] [(0+((4+(2*(j:Int))).toNat)*1)=((4+(2*(j:Int))).toNat)*1+0 /\ ((4+(2*(j:Int))).toNat)<c_,4+(2*(j:Int))=(((4+(2*(j:Int))).toNat:Nat):Int) /\ (4+(2*(j:Int))).toNat<24,bF (4+(2*(j:Int))),bF (2*(j:Int))] λ _=>bZ 109 (congrArg (λ v_=>(vI v_:Value)) (EL (xs:=xs) (rest:=rest) (n:=24) (i:=4+2*j) (by omega))) ?_
   have hbN:=gn hl (4+2*j)
   rw[show kv xs (4+2*j)=bN xs j from rfl] at hbN
   refine aq 11 [.nw,.nw,.ix ((5+(2*(j:Int))).toNat),.row 6 ((5+(2*(j:Int))).toNat) 0] [(0+((5+(2*(j:Int))).toNat)*1)=((5+(2*(j:Int))).toNat)*1+0 /\ ((5+(2*(j:Int))).toNat)<c_,5+(2*(j:Int))=(((5+(2*(j:Int))).toNat:Nat):Int) /\ (5+(2*(j:Int))).toNat<24,bF (5+(2*(j:Int))),bF (2*(j:Int))] λ _=>bZ 115 (congrArg (λ v_=>(vI v_:Value)) (EL (xs:=xs) (rest:=rest) (n:=24) (i:=5+2*j) (by omega))) ?_
   have hbM:=gn hl (5+2*j)
   rw[show kv xs (5+2*j)=bM xs j from rfl] at hbM
   refine aa 6 [] λ _=>RN.ct (Hp:=[]) (Tp:=[]) [] [] (vq (bN xs j) _) ?_
   rintro _ ⟨A25,c26,RO⟩ ⟨rfl,UK⟩
   dsimp only at UK
   refine aq 37 ([.nw,.nw]++ow 0 9++[.nw,.nw,.nw,.nw,.nw,.nw,.nw,.nw,.nw,.nw,.nw,.nw,.nw,.nw,.nw,.nw,.nw,.nw]) [0 <= (bM xs j) / 5000 /\ (0:Int)<5 /\ (bM xs j) / 5000 <= 9223372036854775807,0 <= bM xs j /\ (0:Int)<5000 /\ bM xs j <= 9223372036854775807,bF (((((bN xs j) / 13000) % 9)-4)*300),bF ((((bN xs j) / 13000) % 9)-4),0 <= (bN xs j) / 13000 /\ (0:Int)<9 /\ (bN xs j) / 13000 <= 9223372036854775807,0 <= bN xs j /\ (0:Int)<13000 /\ bN xs j <= 9223372036854775807,bF (((((bM xs j) / 550) % 9)-4)*300),bF ((((bM xs j) / 550) % 9)-4),0 <= (bM xs j) / 550 /\ (0:Int)<9 /\ (bM xs j) / 550 <= 9223372036854775807,0 <= bM xs j /\ (0:Int)<550 /\ bM xs j <= 9223372036854775807,bF (((((bM xs j) / 50) % 11)-5)*800),bF ((((bM xs j) / 50) % 11)-5),0 <= (bM xs j) / 50 /\ (0:Int)<11 /\ (bM xs j) / 50 <= 9223372036854775807,0 <= bM xs j /\ (0:Int)<50 /\ bM xs j <= 9223372036854775807,bF (((((bN xs j) / 1000) % 13)-6)*900),bF ((((bN xs j) / 1000) % 13)-6),0 <= (bN xs j) / 1000 /\ (0:Int)<13 /\ (bN xs j) / 1000 <= 9223372036854775807,0 <= bN xs j /\ (0:Int)<1000 /\ bN xs j <= 9223372036854775807,0 <= bN xs j /\ (0:Int)<7 /\ bN xs j <= 9223372036854775807,0 <= bM xs j /\ (0:Int)<50 /\ bM xs j <= 9223372036854775807] λ Zg=>RN.dn 0 (.rows 1 5 (bk [1024,1024,512,2048,0]) 3 (0,0))<|aq 12 ([.ix ((((bM xs j) / 5000) % 5).toNat),.row 0 ((((bM xs j) / 5000) % 5).toNat) 0]++ow 1 5++[.own 7]++ow 1 9) [(0+((((bM xs j) / 5000) % 5).toNat)*1)=((((bM xs j) / 5000) % 5).toNat)*1+0 /\ ((((bM xs j) / 5000) % 5).toNat)<5,((bM xs j) / 5000) % 5=(((((bM xs j) / 5000) % 5).toNat:Nat):Int) /\ (((bM xs j) / 5000) % 5).toNat<5] λ n30=>kC xz bods [rU xs j A25 c26] 1 0 Ql.symm QG (by rw[Ql];show j+1 <= 100000000;omega) ?_
   rintro A31 c32 T33 ⟨ZI,Zu⟩
   refine aq 10 [.own 8,.nw] [bF ((j:Int)+1)] λ _=>?_
   have Sy:=Zu W8
   refine DG [2,1,0]<|JV ?_
   refine Zo (j+1,bods++[(rU xs j A25 c26)],A31,c32,T33,U_++RO) [3,4,5,6,7,8,9,10] [1,0] ?_
   try dsimp only
   refine⟨⟨by omega,by rw[List.length_append,Ql];rfl,?_,?_,ZI,Sy⟩,by omega⟩
   ·intro t ht
    rcases Nat.lt_or_ge t j with h|h
    ·rw[pD (by omega)];exact UY t h
    ·have:t=bods.length:=by omega
     subst this
     rw[rV,Ql];exact⟨_,_,rfl⟩
   ·intro t ht
    rcases Nat.lt_or_ge t j with h|h
    ·rw[pD (by omega)];exact(SD t h).left
    ·have:t=bods.length:=by omega
     subst this
     rw[rV];exact ShH.right UK
  ·refine aa 7 [] λ _=>?_
   have ej:(j:Int)=pC xs:=by unfold pC Im;unfold pC Im at UR;omega
   obtain⟨bb,Qv,rfl,rfl,Qj⟩:=QG.open0 W8 (by decide) (by rw[Ql];omega)
   refine DH 0 (x:=(bb,.rows 9 d_ (aD jM (bods++Qv)) 73 (0,0)))<|aa 5 (ow 6 16++ow 8 16) λ _=>RN.dn 5 (.rows 4 3 (aD fj pB) 25 (0,0))<|RN.dn 3 (.rows 2 1 (aD me (jQ 1)) 119 (0,0))<|RN.dn 2 (.rows 2 2 (aD me (jQ 2)) 119 (0,0))<|RN.ret (ow 8 16) [0,5,3,2] [0] (v:=.agg #[vI (1+((kv xs 0) % 3)),vS bb 0 j d_,vI (-12000),vI (-9000),vI 12000,vI 9000,vS (Pr+0) 0 3 3,.slice (vt (Pr+1) (Pr+2) (Pr+3) (((kv xs 3) % 3).toNat)) (jn (((kv xs 3) % 3).toNat)) (jn (((kv xs 3) % 3).toNat)),vI (4000+(((kv xs 1) % 9)*1000)),vI 0,vI ((-(((kv xs 2) / 36) % 3))*40),vI ((((kv xs 1) / 9) % 5)*100),vI (((kv xs 2) % 4)*100),vI ((((kv xs 2) / 4) % 3)*512),vI (1+(((kv xs 2) / 12) % 3)),vI 60]) (H':=(ap [(bb,.rows 9 d_ (aD jM (bods++Qv)) 73 (0,0)),((Pr+0),.rows 4 3 (aD fj pB) 25 (0,0)),((Pr+2),.rows 2 1 (aD me (jQ 1)) 119 (0,0)),((Pr+3),.rows 2 2 (aD me (jQ 2)) 119 (0,0))] [U_])) ?_
   have SV:∀k,k<j -> (bods++Qv).getD (0+k) dB=bods.getD k dB:=λ k hk=>by rw[Nat.zero_add,pD (by omega)]
   refine⟨((⟨1+((kv xs 0) % 3),bb,0,j,d_,d_,bods++Qv,⟨-12000,-9000,12000,9000⟩,some ⟨(Pr+0),0,none⟩,3,3,vt (Pr+1) (Pr+2) (Pr+3) (kv xs 3 % 3).toNat,jn (kv xs 3 % 3).toNat,jn (kv xs 3 % 3).toNat,4000+(((kv xs 1) % 9)*1000),⟨0,(-(((kv xs 2) / 36) % 3))*40⟩,(((kv xs 1) / 9) % 5)*100,((kv xs 2) % 4)*100,(((kv xs 2) / 4) % 3)*512,1+(((kv xs 2) / 12) % 3),60⟩:Setup),[((Pr+0),.rows 4 3 (aD fj pB) 25 (0,0)),((Pr+2),.rows 2 1 (aD me (jQ 1)) 119 (0,0)),((Pr+3),.rows 2 2 (aD me (jQ 2)) 119 (0,0))]++U_),(by simp[ap]),rfl,?_⟩
   refine⟨rfl,ej,rfl,(by rw[Ql] at Qj;exact Qj),(by rw[Ql] at Qj;show 0+j <= d_;omega),⟨rfl,rfl,rfl,rfl,rfl,rfl,rfl,rfl⟩,λ k hk=>?_,λ F hbF hF=>⟨⟨by show (0:Int) <= 1+kv xs 0 % 3 /\ 1+kv xs 0 % 3 <= 1000000;omega,by show j <= 1000000;omega⟩,hbF,by show 0+j <= d_;rw[Ql] at Qj;omega,λ k hk=>?_⟩,⟨⟨rfl,rfl⟩,λ F hF=>⟨RowL.whole (xs:=pB) (hF _ (List.mem_append_left _ (List.mem_cons_self))) (Nat.le_refl _),yb (hF _ (List.mem_append_left _ (List.mem_cons_of_mem _ (List.mem_cons_self)))) (hF _ (List.mem_append_left _ (List.mem_cons_of_mem _ (List.mem_cons_of_mem _ (List.mem_cons_self))))) _⟩⟩⟩
   ·obtain⟨A,c,h⟩:=UY k hk
    exact⟨A,c,by show (bods++Qv).getD (0+k) dB=_;rw[SV k hk];exact h⟩
   ·show ShIn F ((bods++Qv).getD (0+k) dB).sh
    rw[SV k hk]
    exact SD k hk F λ x hx=>hF x (by simp[hx])
end Go.Proofs.YthoijjeddhfcnaaGreatDoor
