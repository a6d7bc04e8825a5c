import Derived.Test.YtgdcbiiopbpgaaaGreatDoorY11
import Derived.Test.YtgdcbiiopbpgaaaGreatDoorY36
import Derived.Test.YtgdcbiiopbpgaaaGreatDoorProg
import Derived.RecoverIn
set_option maxHeartbeats 4000000
set_option maxRecDepth 100000
set_option linter.unusedSimpArgs false
set_option linter.unusedVariables false
namespace Go.Proofs.YtgdcbiiopbpgaaaGreatDoor
open Go.RowKit Go.Shelf
def N0 (P:Program) (g:FuncId) (lb:Array Value) (own:HL) (F:HL) {α:Type} (encs:α -> Array Value) (xs:List α) (Te Tx:HL -> Prop):Prop :=
 ∀ (X:HL) (l:Nat) (J:Nat -> HL -> Prop) (Jx:HL -> Prop) (H0:HL),(∀ i x H Y,xs[i]?=some x -> J i H -> YL P l (encs x) H (Y++(X++F)) (λ b H'=>(b=true /\ J (i+1) H') \/ (b=false /\ Jx H'))) -> J 0 H0 ->
  Sp P g (#[.func (.yield l) #[] #[]]++lb) (H0++own) (X++F) (λ _ H'=>∃ H1 T1,H'=H1++T1 /\ ((J xs.length H1 /\ Te T1) \/ (Jx H1 /\ Tx T1)))
section
variable {P:Program} {N:Nat} {D:List Deferred} {F:HL} {w0:World} {L:FL} {Q:Exit -> Act -> World -> Prop}
theorem CD {α σ τ:Type} {g:Operand} {ps:Array Tmp} {assign body:Code} {encs:α -> Array Value} {xs:List α} {gf:FuncId} {lb:Array Value} (hi:mO L g=true) (hg:jd L g=.func (.func gf) #[] lb) (eg:∀ args w,(callFunc gf args).run P w=.ok (.enter gf args) w)
  (Hx:σ -> HL) (I:Nat -> σ -> Prop) (Ix:Code -> σ -> Prop) (La:τ -> FL) (Ha:τ -> HL) (Ia:Nat -> α -> τ -> Prop) (hps:∀ x,(encs x).size=ps.size) (hpN:(ps.toList.all λ p=>decide (p < N))=true)
  (x0:σ) (h0:I 0 x0) {A:HL} {Ts:List HL} (ip ir jp jr:List Nat) (hp:(ip++ir).isPerm (List.range A.length)=true) (hj:(jp++jr).isPerm (List.range Ts.length)=true) (Hr:HL) (Tr:List HL) (hHr:ir.filterMap (A[·]?)=Hr) (own:HL) {Te Tx:HL -> Prop} (hTr:jr.filterMap (Ts[·]?)=own :: Tr) (hH:ap (ip.filterMap (A[·]?)) (jp.filterMap (Ts[·]?))=Hx x0)
  (hit:N0 P gf lb own (ap Hr Tr++F) encs xs Te Tx)
  (hassign:∀ (l i:Nat) (x:α) (s:σ) (Y:HL) (w1:World),xs[i]?=some x -> I i s -> TR (some l) P N [] (Y++(ap Hr Tr++F)) w1 (pm ps.toList (encs x).toList L) (Hx s) assign (Exit.then (J6 N [] (Y++(ap Hr Tr++F)) w1 La Ha (Ia i x)) (λ _ _ _=>False)))
  (hbody:∀ (l i:Nat) (x:α) (t:τ) (Y:HL) (w1:World),xs[i]?=some x -> Ia i x t -> TR (some l) P N [] (Y++(ap Hr Tr++F)) w1 (La t) (Ha t) body (RQ (Y++(ap Hr Tr++F)) w1 Hx (I (i+1)) Ix))
  (hdone:∀ (d:Nat) (s:σ) (T1:HL),I xs.length s -> Te T1 -> EX N (coll d :: D) F w0 L (cm d :: (Hx s++ap Hr (T1 :: Tr))) Q .normal)
  (hstop:∀ (d:Nat) (c:Code) (s:σ) (T1:HL),Ix c s -> Tx T1 -> TR none P N (coll d :: D) F w0 L (cm d :: (Hx s++ap Hr (T1 :: Tr))) c Q) :
  TR none P N D F w0 L (ap A Ts) (.rangeFunc g ps assign body) Q:=by
 intro a w hF hR hB
 have hpo:∀ (X:HL) (T1:HL),((X++T1)++(ap Hr Tr++F)).Perm (X++(ap Hr (T1 :: Tr)++F)):=λ X T1=>by
  rw [List.append_assoc]
  refine List.Perm.append_left X ?_
  rw [<- List.append_assoc]
  refine List.Perm.append_right F ?_
  show (T1++(Hr++Tr.flatten)).Perm (Hr++(T1 :: Tr).flatten)
  rw [List.flatten_cons,<- List.append_assoc,<- List.append_assoc]
  exact List.Perm.append_right _ List.perm_append_comm
 have hR1:Rel ((Hx x0++own)++(ap Hr Tr++F)) w:=by
  have h1:=lh A Ts ip ir jp jr hp hj
  rw [hHr,hTr,hH] at h1
  have h2:=hR.perm (h1.append_right F)
  rw [List.append_assoc] at h2
  exact h2.perm (hpo _ _)
 refine wpIn_rangeFunc ?_
 intro fn hfn
 obtain ⟨rec,hrec⟩:∃ rec:LoopState -> Option Code -> Loop,rec=λ st pe=>{ state:=st,pending:=pe,fn,tmps:=a.tmps,params:=ps,assign,body,defers:=w.heap.size }:=⟨_,rfl⟩
 obtain ⟨W1,hW1⟩:∃ W1,(w.alloc (.deferred (some []))).alloc (.loop (rec .ready none))=W1:=⟨_,rfl⟩
 have hB1:Below 0 w W1:=by rw [<- hW1];exact (gQ _).trans (gQ _)
 have hRW:Rel ((w.heap.size+1,Blk.obj (.loop (rec .ready none))) :: cm w.heap.size :: ((Hx x0++own)++(ap Hr Tr++F))) W1:=by
  rw [<- hW1]
  have h1:=(hR1.alloc (.obj (.deferred (some [])))).alloc (.obj (.loop (rec .ready none)))
  rw [World.size_alloc] at h1
  exact h1
 refine ⟨w.heap.size+1,[coll w.heap.size],W1,{ target:=.fn (.func gf) lb,args:=#[.func (.yield (w.heap.size+1)) #[] #[]] },W1,gf,#[.func (.yield (w.heap.size+1)) #[] #[]]++lb,W1,?_,?_,?_,?_,λ h=>(by cases h),?_⟩
 ·rw [<- hW1,hrec];exact run_enterLoop_outer _ _ _ _ _
 ·have hge:a.eval g=.func (.func gf) #[] lb:=(hF.eval hi).trans hg
  simp only [resolve,hge]
  simp [Deferred.ofValue]
  rfl
 ·intro f' _;trivial
 ·simp [invoke,eg]
 ·refine js ?_
  obtain ⟨l,hl⟩:∃ l,w.heap.size+1=l:=⟨_,rfl⟩
  rw [hl] at hRW ⊢
  obtain ⟨d,hd⟩:∃ d,w.heap.size=d:=⟨_,rfl⟩
  rw [hd] at hRW hrec ⊢
  have key:=hit [] l (λ i H'=>∃ s,I i s /\ H'=(l,Blk.obj (.loop (rec .ready none))) :: cm d :: Hx s) (λ H'=>∃ c s,Ix c s /\ H'=(l,Blk.obj (.loop (rec .done (some c)))) :: cm d :: Hx s)
   ((l,Blk.obj (.loop (rec .ready none))) :: cm d :: Hx x0) ?round ⟨x0,h0,rfl⟩ W1 hRW
  case round =>
   rintro i x H' Y hx ⟨s,hs,rfl⟩ W hRel
   have hRel':Rel ((l,Blk.obj (.loop (rec .ready none))) :: (cm d :: (Hx s++(Y++(ap Hr Tr++F))))) W:=hRel
   have hlW:W.heap[l]?=some (.loop (rec .ready none)):=hRel'.holds _ List.mem_cons_self
   have hy:=run_yield (P:=P) (args:=encs x) hlW (by rw [hrec];exact hps x)
   rw [hrec] at hy
   refine ⟨fn,_,assign,body,hy,roundIn_of_wpIn (F:=Wr none) (n:=0) hfn ?_⟩
   have hFm:Fm N [] (pm ps.toList (encs x).toList L) { tmps:=(ps.zip (encs x)).foldl (λ t (p,v)=>t.setIfInBounds p v) a.tmps,defers:=[] }:=by
    have h1:=Fm.zip (D:=[]) ps.toList (encs x).toList L a.tmps (λ p hp=>of_decide_eq_true (List.all_eq_true.1 hpN p hp)) ⟨hF.size,rfl,hF.has⟩
    have e:(ps.zip (encs x)).foldl (λ t (p,v)=>t.setIfInBounds p v) a.tmps=(ps.toList.zip (encs x).toList).foldl (λ t (p,v)=>t.setIfInBounds p v) a.tmps:=by
     rw [<- Array.foldl_toList,Array.toList_zip]
    rw [e]
    exact h1
   have hRA:Rel (Hx s++(((l,Blk.obj (.loop (rec .ready none))) :: cm d :: Y)++(ap Hr Tr++F))) W:=by
    have:=hRel'
    refine this.perm ?_
    simp only [List.cons_append]
    refine List.perm_middle.trans ?_
    refine List.Perm.cons _ ?_
    exact List.perm_middle
   refine wpIn_mono (hassign l i x s ((l,Blk.obj (.loop (rec .ready none))) :: cm d :: Y) W hx hs _ W hFm hRA (Below.refl _ _)) ?_
   intro e a1 Wa hq
   cases e with
   | normal =>
    obtain ⟨t,ht,m1,m2,m3⟩:=hq
    have hRb:Rel ((l,Blk.obj (.loop (rec .ready none))) :: (cm d :: (Ha t++(Y++(ap Hr Tr++F))))) Wa:=by
     refine m2.perm ?_
     simp only [List.cons_append]
     refine (List.Perm.trans ?_ List.perm_middle.symm)
     refine List.Perm.cons _ ?_
     exact List.perm_middle.symm
    have hla:Wa.heap[l]?=some (.loop (rec .ready none)):=hRb.holds _ List.mem_cons_self
    refine ⟨_,run_beginRound hla (by rw [hrec]),?_⟩
    have hRc:=hRb.putObj (F:=[]) (.obj (.loop { rec .ready none with state:=.busy }))
    have hRd:Rel (Ha t++(((l,Blk.obj (.loop { rec .ready none with state:=.busy })) :: cm d :: Y)++(ap Hr Tr++F))) (Wa.putObj l (.loop { rec .ready none with state:=.busy })):=by
     refine hRc.perm ?_
     simp only [List.cons_append]
     refine List.perm_middle.trans ?_
     refine List.Perm.cons _ ?_
     exact List.perm_middle
    refine wpIn_mono (hbody l i x t ((l,Blk.obj (.loop { rec .ready none with state:=.busy })) :: cm d :: Y) W hx ht a1 _ m1 hRd (m3.trans (dE _ _))) ?_
    have fin:∀ (jump:Option Code) (s':σ) (W3:World),Rel (Hx s'++(((l,Blk.obj (.loop { rec .ready none with state:=.busy })) :: cm d :: Y)++(ap Hr Tr++F))) W3 -> Below 0 W W3 ->
      ∃ v w',(Instr.endRound l jump).run P W3=.ok v w' /\ v=.bool jump.isNone /\ Rel (((l,Blk.obj (.loop (rec (if jump.isNone then .ready else .done) jump))) :: cm d :: Hx s')++(Y++([]++(ap Hr Tr++F)))) w' /\ Below 0 W w':=by
     intro jump s' W3 h3 hb3
     have h4:Rel ((l,Blk.obj (.loop { rec .ready none with state:=.busy })) :: (cm d :: (Hx s'++(Y++(ap Hr Tr++F))))) W3:=by
      refine h3.perm ?_
      simp only [List.cons_append]
      refine (List.Perm.trans ?_ List.perm_middle.symm)
      refine List.Perm.cons _ ?_
      exact List.perm_middle.symm
     have hl3:W3.heap[l]?=some (.loop { rec .ready none with state:=.busy }):=h4.holds _ List.mem_cons_self
     have hrun:=run_endRound (P:=P) jump hl3
     refine ⟨_,_,hrun,rfl,?_,hb3.trans (dE _ _)⟩
     have h5:=h4.putObj (F:=[]) (.obj (.loop (rec (if jump.isNone then .ready else .done) jump)))
     rw [hrec] at h5 ⊢
     exact h5
    intro e2 a2 W3 hq2
    cases e2 with
    | normal =>
     obtain ⟨s',hs',n2,n3⟩:=hq2
     obtain ⟨v,w',k1,k2,k3,k4⟩:=fin none s' W3 n2 n3
     exact ⟨v,w',k1,true,_,by rw [k2];rfl,.inl ⟨rfl,s',hs',rfl⟩,k3,k4⟩
    | ret =>
     obtain ⟨s',hs',n2,n3⟩:=hq2
     obtain ⟨v,w',k1,k2,k3,k4⟩:=fin (some .ret) s' W3 n2 n3
     exact ⟨v,w',k1,false,_,by rw [k2];rfl,.inr ⟨rfl,.ret,s',hs',rfl⟩,k3,k4⟩
    | exit id =>
     obtain ⟨s',hs',n2,n3⟩:=hq2
     obtain ⟨v,w',k1,k2,k3,k4⟩:=fin (some (.exit id)) s' W3 n2 n3
     exact ⟨v,w',k1,false,_,by rw [k2];rfl,.inr ⟨rfl,.exit id,s',hs',rfl⟩,k3,k4⟩
    | goto t=>exact hq2.elim
    | panic ch=>exact hq2.elim
    | outgrown=>exact hq2.elim
   | exit id=>exact hq.elim
   | goto t=>exact hq.elim
   | ret=>exact hq.elim
   | panic ch=>exact hq.elim
   | outgrown=>exact hq.elim
  refine key.mono ?_
  rintro e W2 ⟨v,H',rfl,hor,hR2,hB2⟩
  have fin:∀ (st:LoopState) (pe:Option Code) (s:σ) (T1:HL) (hst:st ≠ .busy),Rel ((((l,Blk.obj (.loop (rec st pe))) :: cm d :: Hx s)++T1)++([]++(ap Hr Tr++F))) W2 ->
    ∃ w4,(Instr.endLoop l).run P W2=.ok pe w4 /\ Rel ((cm d :: (Hx s++ap Hr (T1 :: Tr)))++F) w4 /\ Below 0 W1 w4:=by
   intro st pe s T1 hst h4
   have h5:Rel ((l,Blk.obj (.loop (rec st pe))) :: (cm d :: (Hx s++(ap Hr (T1 :: Tr)++F)))) W2:=h4.perm (((hpo (Hx s) T1).symm.cons _).cons _)
   have hl2:W2.heap[l]?=some (.loop (rec st pe)):=h5.holds _ List.mem_cons_self
   have hrun:=run_endLoop (P:=P) hl2 (by rw [hrec];exact hst)
   refine ⟨W2.putObj l (.loop { rec st pe with state:=.exhausted }),?_,?_,hB2.trans (dE _ _)⟩
   ·rw [hrun,hrec]
   ·have h6:=h5.putObj (F:=[]) (.obj (.loop { rec st pe with state:=.exhausted }))
    have h7:=Rel.drop (X:=[(l,Blk.obj (.loop { rec st pe with state:=.exhausted }))]) (H:=cm d :: (Hx s++(ap Hr (T1 :: Tr)++F))) h6
    rw [<- List.append_assoc] at h7
    exact h7
  have hFd:Fm N (coll d :: D) L { a with defers:=[coll d]++a.defers }:=⟨hF.size,by rw [hF.defs];rfl,hF.has⟩
  rcases hor with ⟨H1,T1,rfl,⟨⟨s,hs,rfl⟩,hT⟩ | ⟨⟨c,s,hs,rfl⟩,hT⟩⟩
  ·obtain ⟨w4,k1,k2,k3⟩:=fin .ready none s T1 (by simp) hR2
   exact ⟨none,w4,k1,hdone d s T1 hs hT _ w4 hFd k2 (hB.trans (hB1.trans k3))⟩
  ·obtain ⟨w4,k1,k2,k3⟩:=fin .done (some c) s T1 (by simp) hR2
   exact ⟨some c,w4,k1,hstop d c s T1 hs hT _ w4 hFd k2 (hB.trans (hB1.trans k3))⟩
theorem yV {α σ τ:Type} {g:Operand} {ps:Array Tmp} {assign body:Code} {encs:α -> Array Value} {xs:List α} {gf:FuncId} {lb:Array Value} (hi:mO L g=true) (hg:jd L g=.func (.func gf) #[] lb) (eg:∀ args w,(callFunc gf args).run P w=.ok (.enter gf args) w)
  (Ax:σ -> HL) (Tx:σ -> List HL) (I:Nat -> σ -> Prop) (Ix:Code -> σ -> Prop) (La:τ -> FL) (Ha:τ -> HL) (Ia:Nat -> α -> τ -> Prop) (hps:∀ x,(encs x).size=ps.size) (hpN:(ps.toList.all λ p=>decide (p < N))=true)
  (x0:σ) (h0:I 0 x0) {A:HL} {Ts:List HL} (ip ir jp jr:List Nat) (hp:(ip++ir).isPerm (List.range A.length)=true) (hj:(jp++jr).isPerm (List.range Ts.length)=true) (Hr:HL) (Tr:List HL) (hHr:ir.filterMap (A[·]?)=Hr) (own:HL) {Te Tx':HL -> Prop} (hTr:jr.filterMap (Ts[·]?)=own :: Tr) (hA:ip.filterMap (A[·]?)=Ax x0) (hT:jp.filterMap (Ts[·]?)=Tx x0)
  (hit:N0 P gf lb own (ap Hr Tr++F) encs xs Te Tx')
  (hassign:∀ (l i:Nat) (x:α) (s:σ) (Y:HL) (w1:World),xs[i]?=some x -> I i s -> TR (some l) P N [] (Y++(ap Hr Tr++F)) w1 (pm ps.toList (encs x).toList L) (ap (Ax s) (Tx s)) assign (Exit.then (J6 N [] (Y++(ap Hr Tr++F)) w1 La Ha (Ia i x)) (λ _ _ _=>False)))
  (hbody:∀ (l i:Nat) (x:α) (t:τ) (Y:HL) (w1:World),xs[i]?=some x -> Ia i x t -> TR (some l) P N [] (Y++(ap Hr Tr++F)) w1 (La t) (Ha t) body (RQ (Y++(ap Hr Tr++F)) w1 (λ s=>ap (Ax s) (Tx s)) (I (i+1)) Ix))
  (hdone:∀ (d:Nat) (s:σ) (T1:HL),I xs.length s -> Te T1 -> EX N (coll d :: D) F w0 L (ap (cm d :: (Ax s++Hr)) (Tx s++T1 :: Tr)) Q .normal)
  (hstop:∀ (d:Nat) (c:Code) (s:σ) (T1:HL),Ix c s -> Tx' T1 -> TR none P N (coll d :: D) F w0 L (ap (cm d :: (Ax s++Hr)) (Tx s++T1 :: Tr)) c Q) :
  TR none P N D F w0 L (ap A Ts) (.rangeFunc g ps assign body) Q:=by
 have hpm:∀ (d:Nat) (s:σ) (Tr:List HL),(ap (cm d :: (Ax s++Hr)) (Tx s++Tr)).Perm (cm d :: (ap (Ax s) (Tx s)++ap Hr Tr)):=λ d s Tr=>by
  show (cm d :: ((Ax s++Hr)++(Tx s++Tr).flatten)).Perm _
  refine List.Perm.cons _ ?_
  rw [List.flatten_append]
  show ((Ax s++Hr)++((Tx s).flatten++Tr.flatten)).Perm ((Ax s++(Tx s).flatten)++(Hr++Tr.flatten))
  rw [List.append_assoc,List.append_assoc]
  refine List.Perm.append_left _ ?_
  rw [<- List.append_assoc,<- List.append_assoc]
  exact List.Perm.append_right _ List.perm_append_comm
 exact CD hi hg eg (λ s=>ap (Ax s) (Tx s)) I Ix La Ha Ia hps hpN x0 h0 ip ir jp jr hp hj Hr Tr hHr own hTr (by rw [hA,hT]) hit hassign hbody
  (λ d s T1 hs hT a w h1 h2 h3=>hdone d s T1 hs hT a w h1 (h2.perm ((hpm d s _).append_right F)) h3) (λ d c s T1 hs hT a w h1 h2 h3=>hstop d c s T1 hs hT a w h1 (h2.perm ((hpm d s _).append_right F)) h3)
end
section
variable {P:Program} {N:Nat} {D:List Deferred} {F:HL} {w0:World} {R:HL} {s:Cfg} {Q:Exit -> Act -> World -> Prop}
def Nc (c:Fo) (d:Nat) (ip jp:List Nat) (A:HL) (Ts:List HL) (T1:HL) (s:Cfg):Cfg:=match s with
 | ⟨_,k,L,A',Ts'⟩=>⟨c,k,L,cm d :: (A++(oth ip A'.length).filterMap (A'[·]?)),Ts++T1 :: ((oth jp Ts'.length).filterMap (Ts'[·]?)).tail⟩
theorem CE {α σ τ:Type} {encs:α -> Array Value} {xs:List α} {gf:FuncId} {lb:Array Value} (eg:∀ args w,(callFunc gf args).run P w=.ok (.enter gf args) w)
  (S:σ -> HL × List HL) (I:Nat -> σ -> Prop) (Ix:Code -> σ -> Prop) (W:τ -> Inv) (Ia:Nat -> α -> τ -> Prop) (x0:σ) (h0:I 0 x0) (ip jp:List Nat)
  (own:HL) {Te Tx:HL -> Prop} (hit:N0 P gf lb own (ap (eJ ip s) (fD jp s).tail++F) encs xs Te Tx)
  (hassign:∀ (l i:Nat) (x:α) (s1:σ) (Y:HL) (w1:World),xs[i]?=some x -> I i s1 ->
   (∀ {s':Cfg} {R':HL} (t:τ) (ip' jp':List Nat),Ia i x t -> (hm:Dp s'=some (MV N [] (Y++(ap (eJ ip s) (fD jp s).tail++F)) w1 W (Ia i x)):=by kernel_rfl) -> (h:uU (W t) ip' jp' s'=oU (W t):=by kernel_rfl) -> (hp:b9 ip' jp' s'=true:=by kernel_rfl) -> RN (some l) P N [] (Y++(ap (eJ ip s) (fD jp s).tail++F)) w1 R' s' (λ _ _ _=>False)) ->
   RN (some l) P N [] (Y++(ap (eJ ip s) (fD jp s).tail++F)) w1 (eJ ip s++R) (Ma (MV N [] (Y++(ap (eJ ip s) (fD jp s).tail++F)) w1 W (Ia i x)) (encs x).toList (S s1).1 (S s1).2 s) (λ _ _ _=>False))
  (hbody:∀ (l i:Nat) (x:α) (t:τ) (Y:HL) (w1:World),xs[i]?=some x -> Ia i x t -> RN (some l) P N [] (Y++(ap (eJ ip s) (fD jp s).tail++F)) w1 (eJ ip s++R) (Mb (W t) s) (RQ (Y++(ap (eJ ip s) (fD jp s).tail++F)) w1 (λ s=>ap (S s).1 (S s).2) (I (i+1)) Ix))
  (hdone:∀ (d:Nat) (s1:σ) (T1:HL),I xs.length s1 -> Te T1 -> RN none P N (coll d :: D) F w0 R (Nc (.ex .normal) d ip jp (S s1).1 (S s1).2 T1 s) Q)
  (hstop:∀ (d:Nat) (c:Code) (s1:σ) (T1:HL),Ix c s1 -> Tx T1 -> RN none P N (coll d :: D) F w0 R (Nc (.code c) d ip jp (S s1).1 (S s1).2 T1 s) Q)
  (hpN:HE N s=true:=by kernel_rfl) (hp:b9 ip jp s=true:=by kernel_rfl) (hH:picks ip jp s=((S x0).1,(S x0).2):=by kernel_rfl) (ho:(fD jp s).head?=some own:=by kernel_rfl) (hG:(lN s).map (·.1)=some (.func (.func gf) #[] lb):=by kernel_rfl) (hne:∀ x:α,(lN s).map (·.2)=some (encs x).size:=by intro x;kernel_rfl):RN none P N D F w0 R s Q:=by
 refine ⟨λ hR=>?_⟩
 obtain ⟨c,k,L,A,Ts⟩:=s
 unfold b9 at hp
 unfold picks at hH
 rw [Bool.and_eq_true] at hp
 simp only [Prod.mk.injEq] at hH
 cases c with
 | ops _ _=>simp [lN] at hG
 | ex _=>simp [lN] at hG
 | drw _ _=>simp [lN] at hG
 | code c =>
 cases c with
 | rangeFunc g ps assign body =>
  have hi:mO L g=true:=by
   cases h:mO L g with
   | true=>rfl
   | false=>simp [lN,h] at hG
  simp only [lN,hi,Option.map_some,Option.some.injEq] at hG hne
  simp only [HE] at hpN
  have hRo:∀ (Y:HL),∀ y ∈ eJ ip ⟨.code (.rangeFunc g ps assign body),k,L,A,Ts⟩++R,y ∈ Y++(ap (eJ ip ⟨.code (.rangeFunc g ps assign body),k,L,A,Ts⟩) (fD jp ⟨.code (.rangeFunc g ps assign body),k,L,A,Ts⟩).tail++F):=by
   intro Y y hy
   rcases List.mem_append.1 hy with hy | hy
   ·exact List.mem_append_right _ (List.mem_append_left _ (List.mem_append_left _ hy))
   ·exact List.mem_append_right _ (List.mem_append_right _ (hR y hy))
  have ho':(oth jp Ts.length).filterMap (Ts[·]?)=own :: ((oth jp Ts.length).filterMap (Ts[·]?)).tail:=by
   have h1:((oth jp Ts.length).filterMap (Ts[·]?)).head?=some own:=ho
   generalize (oth jp Ts.length).filterMap (Ts[·]?)=l at h1 ⊢
   cases l with
   | nil=>cases h1
   | cons x l=>simp only [List.head?_cons,Option.some.injEq] at h1;rw [h1];rfl
  exact yV (assign:=assign) (body:=body) hi hG eg (λ s=>(S s).1) (λ s=>(S s).2) I Ix (λ t=>(W t).L) (λ t=>ap (W t).A (W t).Ts) Ia (λ x=>(hne x).symm) hpN x0 h0 ip (oth ip A.length) jp (oth jp Ts.length) hp.1 hp.2 _ _ rfl own ho' hH.1 hH.2 hit
   (λ l i x s1 Y w1 hx hi=>(hassign l i x s1 Y w1 hx hi (λ t ip' jp' ht hm h hp=>tM t ip' jp' ht hm h hp)).h (hRo Y))
   (λ l i x t Y w1 hx ht=>(hbody l i x t Y w1 hx ht).h (hRo Y))
   (λ d s1 T1 hs hT=>(hdone d s1 T1 hs hT).h hR) (λ d c s1 T1 hs hT=>(hstop d c s1 T1 hs hT).h hR)
 | _=>simp [lN] at hG
def mkC (i:Nat) (s:Cfg):Cfg:=match s with
 | ⟨c,k,L,A,Ts⟩=>⟨c,k,L,(oth [i] A.length).filterMap (A[·]?),Ts⟩
theorem LV.mark {fn:Func} {R':Value -> HL -> Prop} {d:Nat} (i:Nat) (hk:LV P N D F w0 R fn R' (mkC i s)) (h:((s.A[i]?),([i]++oth [i] s.A.length).isPerm (List.range s.A.length))=(some (cm d),true):=by kernel_rfl):LV P N (coll d :: D) F w0 R fn R' s:=by
 simp only [Prod.mk.injEq] at h
 refine ⟨λ hR a w hF hRel hB=>?_⟩
 obtain ⟨c,k,L,A,Ts⟩:=s
 simp only at h hF hRel
 have hp:=fv A [i] (oth [i] A.length) h.2
 simp only [List.filterMap_cons,h.1,List.filterMap_nil,List.cons_append,List.nil_append] at hp
 have h1:Rel ((d,Blk.obj (.deferred (some []))) :: (ap ((oth [i] A.length).filterMap (A[·]?)) Ts++F)) w:=by
  refine hRel.perm ?_
  have h2:(cm d :: ap ((oth [i] A.length).filterMap (A[·]?)) Ts).Perm (ap A Ts):=List.Perm.append_right Ts.flatten hp
  exact h2.append_right F
 have hd:w.heap[d]?=some (.deferred (some [])):=h1.holds (cm d) (by simp)
 have h2:=(h1.putObj (F:=[]) (.obj (.deferred none)))
 rw [hF.defs]
 refine ⟨by simp,.inl ⟨d,_,rfl,run_takeDeferred hd,?_⟩⟩
 exact hk.h hR { a with defers:=D } _ ⟨hF.size,rfl,hF.has⟩ (Rel.drop (X:=[(d,Blk.obj (.deferred none))]) h2) (hB.trans (dE _ _))
end
theorem F8 (c0 c1 c2 c3 c4:Value) (F:HL):SpD Tryz.prog 102 #[c0,c1,c2,c3,c4] [] F (λ _ H'=>H'=[]):=by
 intro w hR
 refine callsDIn_of_wpSIn (F:=Wr none) (n:=0) Tryz.func102 rfl trivial λ c₀ cs hu=>?_
 have hrc:recoverD (c₀ :: cs)=none:=by simp [recoverD,hu]
 refine wpSIn_seq (wpSIn_region ?_)
 show wpOpsSIn _ _ _ _ _ [0,1] _ _ _
 simp only [wpOpsSIn,List.getElem?_toArray,List.getElem?_cons_zero,List.getElem?_cons_succ]
 simp [wpOpsSIn,go_sem,hrc,Tryz.ntmps102,Exit.thenS]
 refine wpSIn_cond (t:=false) (by simp [Act.eval,Array.replicate]) ?_
 refine wpSIn_of_wpIn rfl ?_
 refine wpIn_skip ?_
 simp [bodyPostS,results,Tryz.results102,hu]
 exact ⟨.returning,by cases c₀;simp at hu;subst hu;rfl,hu ▸ rfl,hR,Below.refl _ _⟩
end Go.Proofs.YtgdcbiiopbpgaaaGreatDoor
