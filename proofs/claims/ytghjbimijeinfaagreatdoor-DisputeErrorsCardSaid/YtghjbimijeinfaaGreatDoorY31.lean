import Derived.Test.YtghjbimijeinfaaGreatDoorY09
import Derived.Test.YtghjbimijeinfaaGreatDoorY30
import Derived.Test.YtghjbimijeinfaaGreatDoorProg
import Derived.RecoverIn
import Derived.Test.YtghjbimijeinfaaGreatDoorY17
set_option maxHeartbeats 4000000
set_option maxRecDepth 100000
set_option linter.unusedSimpArgs false
set_option linter.unusedVariables false
namespace Go.Proofs.YtghjbimijeinfaaGreatDoor
open Go.RowKit Go.Shelf
def Ny (P:Program) (g:FuncId) (lb:Array Value) (own:HL) (F:HL) {α:Type} (encs:α -> Array Value) (xs:List α) (Te Tx:HL -> Prop):Prop :=
 ∀ (X:HL) (l:Nat) (J:Nat -> HL -> Prop) (Jx:HL -> Prop) (H0:HL),(∀ i x H Y,xs[i]?=some x -> J i H -> YL P l (encs x) H (Y++(X++F)) (λ b H'=>(b=true /\ J (i+1) H') \/ (b=false /\ Jx H'))) -> J 0 H0 ->
  Sp P g (#[.func (.yield l) #[] #[]]++lb) (H0++own) (X++F) (λ _ H'=>∃ H1 T1,H'=H1++T1 /\ ((J xs.length H1 /\ Te T1) \/ (Jx H1 /\ Tx T1)))
section
variable {P:Program} {N:Nat} {D:List Deferred} {F:HL} {w0:World} {L:FL} {Q:Exit -> Act -> World -> Prop}
theorem Cq {α σ τ:Type} {g:Operand} {ps:Array Tmp} {assign body:Code} {encs:α -> Array Value} {xs:List α} {gf:FuncId} {lb:Array Value} (hi:mC L g=true) (hg:i5 L g=.func (.func gf) #[] lb) (eg:∀ args w,(callFunc gf args).run P w=.ok (.enter gf args) w)
  (Hx:σ -> HL) (I:Nat -> σ -> Prop) (Ix:Code -> σ -> Prop) (La:τ -> FL) (Ha:τ -> HL) (Ia:Nat -> α -> τ -> Prop) (hps:∀ x,(encs x).size=ps.size) (hpN:(ps.toList.all λ p=>decide (p < N))=true)
  (x0:σ) (h0:I 0 x0) {A:HL} {Ts:List HL} (ip ir jp jr:List Nat) (hp:(ip++ir).isPerm (List.range A.length)=true) (hj:(jp++jr).isPerm (List.range Ts.length)=true) (Hr:HL) (Tr:List HL) (hHr:ir.filterMap (A[·]?)=Hr) (own:HL) {Te Tx:HL -> Prop} (hTr:jr.filterMap (Ts[·]?)=own :: Tr) (hH:ap (ip.filterMap (A[·]?)) (jp.filterMap (Ts[·]?))=Hx x0)
  (hit:Ny P gf lb own (ap Hr Tr++F) encs xs Te Tx)
  (hassign:∀ (l i:Nat) (x:α) (s:σ) (Y:HL) (w1:World),xs[i]?=some x -> I i s -> TR (some l) P N [] (Y++(ap Hr Tr++F)) w1 (oW ps.toList (encs x).toList L) (Hx s) assign (Exit.then (J0 N [] (Y++(ap Hr Tr++F)) w1 La Ha (Ia i x)) (λ _ _ _=>False)))
  (hbody:∀ (l i:Nat) (x:α) (t:τ) (Y:HL) (w1:World),xs[i]?=some x -> Ia i x t -> TR (some l) P N [] (Y++(ap Hr Tr++F)) w1 (La t) (Ha t) body (RQ (Y++(ap Hr Tr++F)) w1 Hx (I (i+1)) Ix))
  (hdone:∀ (d:Nat) (s:σ) (T1:HL),I xs.length s -> Te T1 -> EX N (coll d :: D) F w0 L (cm d :: (Hx s++ap Hr (T1 :: Tr))) Q .normal)
  (hstop:∀ (d:Nat) (c:Code) (s:σ) (T1:HL),Ix c s -> Tx T1 -> TR none P N (coll d :: D) F w0 L (cm d :: (Hx s++ap Hr (T1 :: Tr))) c Q) :
  TR none P N D F w0 L (ap A Ts) (.rangeFunc g ps assign body) Q:=by
 intro a w hF hR hB
 have hpo:∀ (X:HL) (T1:HL),((X++T1)++(ap Hr Tr++F)).Perm (X++(ap Hr (T1 :: Tr)++F)):=λ X T1=>by
  rw [List.append_assoc]
  refine List.Perm.append_left X ?_
  rw [<- List.append_assoc]
  refine List.Perm.append_right F ?_
  show (T1++(Hr++Tr.flatten)).Perm (Hr++(T1 :: Tr).flatten)
  rw [List.flatten_cons,<- List.append_assoc,<- List.append_assoc]
  exact List.Perm.append_right _ List.perm_append_comm
 have hR1:Rel ((Hx x0++own)++(ap Hr Tr++F)) w:=by
  have h1:=kY A Ts ip ir jp jr hp hj
  rw [hHr,hTr,hH] at h1
  have h2:=hR.perm (h1.append_right F)
  rw [List.append_assoc] at h2
  exact h2.perm (hpo _ _)
 refine wpIn_rangeFunc ?_
 intro fn hfn
 obtain ⟨rec,hrec⟩:∃ rec:LoopState -> Option Code -> Loop,rec=λ st pe=>{ state:=st,pending:=pe,fn,tmps:=a.tmps,params:=ps,assign,body,defers:=w.heap.size }:=⟨_,rfl⟩
 obtain ⟨W1,hW1⟩:∃ W1,(w.alloc (.deferred (some []))).alloc (.loop (rec .ready none))=W1:=⟨_,rfl⟩
 have hB1:Below 0 w W1:=by rw [<- hW1];exact (gR _).trans (gR _)
 have hRW:Rel ((w.heap.size+1,Blk.obj (.loop (rec .ready none))) :: cm w.heap.size :: ((Hx x0++own)++(ap Hr Tr++F))) W1:=by
  rw [<- hW1]
  have h1:=(hR1.alloc (.obj (.deferred (some [])))).alloc (.obj (.loop (rec .ready none)))
  rw [World.size_alloc] at h1
  exact h1
 refine ⟨w.heap.size+1,[coll w.heap.size],W1,{ target:=.fn (.func gf) lb,args:=#[.func (.yield (w.heap.size+1)) #[] #[]] },W1,gf,#[.func (.yield (w.heap.size+1)) #[] #[]]++lb,W1,?_,?_,?_,?_,λ h=>(by cases h),?_⟩
 ·rw [<- hW1,hrec];exact run_enterLoop_outer _ _ _ _ _
 ·have hge:a.eval g=.func (.func gf) #[] lb:=(hF.eval hi).trans hg
  simp only [resolve,hge]
  simp [Deferred.ofValue]
  rfl
 ·intro f' _;trivial
 ·simp [invoke,eg]
 ·refine jh ?_
  obtain ⟨l,hl⟩:∃ l,w.heap.size+1=l:=⟨_,rfl⟩
  rw [hl] at hRW ⊢
  obtain ⟨d,hd⟩:∃ d,w.heap.size=d:=⟨_,rfl⟩
  rw [hd] at hRW hrec ⊢
  have key:=hit [] l (λ i H'=>∃ s,I i s /\ H'=(l,Blk.obj (.loop (rec .ready none))) :: cm d :: Hx s) (λ H'=>∃ c s,Ix c s /\ H'=(l,Blk.obj (.loop (rec .done (some c)))) :: cm d :: Hx s)
   ((l,Blk.obj (.loop (rec .ready none))) :: cm d :: Hx x0) ?round ⟨x0,h0,rfl⟩ W1 hRW
  case round =>
   rintro i x H' Y hx ⟨s,hs,rfl⟩ W hRel
   have hRel':Rel ((l,Blk.obj (.loop (rec .ready none))) :: (cm d :: (Hx s++(Y++(ap Hr Tr++F))))) W:=hRel
   have hlW:W.heap[l]?=some (.loop (rec .ready none)):=hRel'.holds _ List.mem_cons_self
   have hy:=run_yield (P:=P) (args:=encs x) hlW (by rw [hrec];exact hps x)
   rw [hrec] at hy
   refine ⟨fn,_,assign,body,hy,roundIn_of_wpIn (F:=Wr none) (n:=0) hfn ?_⟩
   have hFm:Fm N [] (oW ps.toList (encs x).toList L) { tmps:=(ps.zip (encs x)).foldl (λ t (p,v)=>t.setIfInBounds p v) a.tmps,defers:=[] }:=by
    have h1:=Fm.zip (D:=[]) ps.toList (encs x).toList L a.tmps (λ p hp=>of_decide_eq_true (List.all_eq_true.1 hpN p hp)) ⟨hF.size,rfl,hF.has⟩
    have e:(ps.zip (encs x)).foldl (λ t (p,v)=>t.setIfInBounds p v) a.tmps=(ps.toList.zip (encs x).toList).foldl (λ t (p,v)=>t.setIfInBounds p v) a.tmps:=by
     rw [<- Array.foldl_toList,Array.toList_zip]
    rw [e]
    exact h1
   have hRA:Rel (Hx s++(((l,Blk.obj (.loop (rec .ready none))) :: cm d :: Y)++(ap Hr Tr++F))) W:=by
    have:=hRel'
    refine this.perm ?_
    simp only [List.cons_append]
    refine List.perm_middle.trans ?_
    refine List.Perm.cons _ ?_
    exact List.perm_middle
   refine wpIn_mono (hassign l i x s ((l,Blk.obj (.loop (rec .ready none))) :: cm d :: Y) W hx hs _ W hFm hRA (Below.refl _ _)) ?_
   intro e a1 Wa hq
   cases e with
   | normal =>
    obtain ⟨t,ht,m1,m2,m3⟩:=hq
    have hRb:Rel ((l,Blk.obj (.loop (rec .ready none))) :: (cm d :: (Ha t++(Y++(ap Hr Tr++F))))) Wa:=by
     refine m2.perm ?_
     simp only [List.cons_append]
     refine (List.Perm.trans ?_ List.perm_middle.symm)
     refine List.Perm.cons _ ?_
     exact List.perm_middle.symm
    have hla:Wa.heap[l]?=some (.loop (rec .ready none)):=hRb.holds _ List.mem_cons_self
    refine ⟨_,run_beginRound hla (by rw [hrec]),?_⟩
    have hRc:=hRb.putObj (F:=[]) (.obj (.loop { rec .ready none with state:=.busy }))
    have hRd:Rel (Ha t++(((l,Blk.obj (.loop { rec .ready none with state:=.busy })) :: cm d :: Y)++(ap Hr Tr++F))) (Wa.putObj l (.loop { rec .ready none with state:=.busy })):=by
     refine hRc.perm ?_
     simp only [List.cons_append]
     refine List.perm_middle.trans ?_
     refine List.Perm.cons _ ?_
     exact List.perm_middle
    refine wpIn_mono (hbody l i x t ((l,Blk.obj (.loop { rec .ready none with state:=.busy })) :: cm d :: Y) W hx ht a1 _ m1 hRd (m3.trans (dC _ _))) ?_
    have fin:∀ (jump:Option Code) (s':σ) (W3:World),Rel (Hx s'++(((l,Blk.obj (.loop { rec .ready none with state:=.busy })) :: cm d :: Y)++(ap Hr Tr++F))) W3 -> Below 0 W W3 ->
      ∃ v w',(Instr.endRound l jump).run P W3=.ok v w' /\ v=.bool jump.isNone /\ Rel (((l,Blk.obj (.loop (rec (if jump.isNone then .ready else .done) jump))) :: cm d :: Hx s')++(Y++([]++(ap Hr Tr++F)))) w' /\ Below 0 W w':=by
     intro jump s' W3 h3 hb3
     have h4:Rel ((l,Blk.obj (.loop { rec .ready none with state:=.busy })) :: (cm d :: (Hx s'++(Y++(ap Hr Tr++F))))) W3:=by
      refine h3.perm ?_
      simp only [List.cons_append]
      refine (List.Perm.trans ?_ List.perm_middle.symm)
      refine List.Perm.cons _ ?_
      exact List.perm_middle.symm
     have hl3:W3.heap[l]?=some (.loop { rec .ready none with state:=.busy }):=h4.holds _ List.mem_cons_self
     have hrun:=run_endRound (P:=P) jump hl3
     refine ⟨_,_,hrun,rfl,?_,hb3.trans (dC _ _)⟩
     have h5:=h4.putObj (F:=[]) (.obj (.loop (rec (if jump.isNone then .ready else .done) jump)))
     rw [hrec] at h5 ⊢
     exact h5
    intro e2 a2 W3 hq2
    cases e2 with
    | normal =>
     obtain ⟨s',hs',n2,n3⟩:=hq2
     obtain ⟨v,w',k1,k2,k3,k4⟩:=fin none s' W3 n2 n3
     exact ⟨v,w',k1,true,_,by rw [k2];rfl,.inl ⟨rfl,s',hs',rfl⟩,k3,k4⟩
    | ret =>
     obtain ⟨s',hs',n2,n3⟩:=hq2
     obtain ⟨v,w',k1,k2,k3,k4⟩:=fin (some .ret) s' W3 n2 n3
     exact ⟨v,w',k1,false,_,by rw [k2];rfl,.inr ⟨rfl,.ret,s',hs',rfl⟩,k3,k4⟩
    | exit id =>
     obtain ⟨s',hs',n2,n3⟩:=hq2
     obtain ⟨v,w',k1,k2,k3,k4⟩:=fin (some (.exit id)) s' W3 n2 n3
     exact ⟨v,w',k1,false,_,by rw [k2];rfl,.inr ⟨rfl,.exit id,s',hs',rfl⟩,k3,k4⟩
    | goto t=>exact hq2.elim
    | panic ch=>exact hq2.elim
    | outgrown=>exact hq2.elim
   | exit id=>exact hq.elim
   | goto t=>exact hq.elim
   | ret=>exact hq.elim
   | panic ch=>exact hq.elim
   | outgrown=>exact hq.elim
  refine key.mono ?_
  rintro e W2 ⟨v,H',rfl,hor,hR2,hB2⟩
  have fin:∀ (st:LoopState) (pe:Option Code) (s:σ) (T1:HL) (hst:st ≠ .busy),Rel ((((l,Blk.obj (.loop (rec st pe))) :: cm d :: Hx s)++T1)++([]++(ap Hr Tr++F))) W2 ->
    ∃ w4,(Instr.endLoop l).run P W2=.ok pe w4 /\ Rel ((cm d :: (Hx s++ap Hr (T1 :: Tr)))++F) w4 /\ Below 0 W1 w4:=by
   intro st pe s T1 hst h4
   have h5:Rel ((l,Blk.obj (.loop (rec st pe))) :: (cm d :: (Hx s++(ap Hr (T1 :: Tr)++F)))) W2:=h4.perm (((hpo (Hx s) T1).symm.cons _).cons _)
   have hl2:W2.heap[l]?=some (.loop (rec st pe)):=h5.holds _ List.mem_cons_self
   have hrun:=run_endLoop (P:=P) hl2 (by rw [hrec];exact hst)
   refine ⟨W2.putObj l (.loop { rec st pe with state:=.exhausted }),?_,?_,hB2.trans (dC _ _)⟩
   ·rw [hrun,hrec]
   ·have h6:=h5.putObj (F:=[]) (.obj (.loop { rec st pe with state:=.exhausted }))
    have h7:=Rel.drop (X:=[(l,Blk.obj (.loop { rec st pe with state:=.exhausted }))]) (H:=cm d :: (Hx s++(ap Hr (T1 :: Tr)++F))) h6
    rw [<- List.append_assoc] at h7
    exact h7
  have hFd:Fm N (coll d :: D) L { a with defers:=[coll d]++a.defers }:=⟨hF.size,by rw [hF.defs];rfl,hF.has⟩
  rcases hor with ⟨H1,T1,rfl,⟨⟨s,hs,rfl⟩,hT⟩ | ⟨⟨c,s,hs,rfl⟩,hT⟩⟩
  ·obtain ⟨w4,k1,k2,k3⟩:=fin .ready none s T1 (by simp) hR2
   exact ⟨none,w4,k1,hdone d s T1 hs hT _ w4 hFd k2 (hB.trans (hB1.trans k3))⟩
  ·obtain ⟨w4,k1,k2,k3⟩:=fin .done (some c) s T1 (by simp) hR2
   exact ⟨some c,w4,k1,hstop d c s T1 hs hT _ w4 hFd k2 (hB.trans (hB1.trans k3))⟩
theorem yM {α σ τ:Type} {g:Operand} {ps:Array Tmp} {assign body:Code} {encs:α -> Array Value} {xs:List α} {gf:FuncId} {lb:Array Value} (hi:mC L g=true) (hg:i5 L g=.func (.func gf) #[] lb) (eg:∀ args w,(callFunc gf args).run P w=.ok (.enter gf args) w)
  (Ax:σ -> HL) (Tx:σ -> List HL) (I:Nat -> σ -> Prop) (Ix:Code -> σ -> Prop) (La:τ -> FL) (Ha:τ -> HL) (Ia:Nat -> α -> τ -> Prop) (hps:∀ x,(encs x).size=ps.size) (hpN:(ps.toList.all λ p=>decide (p < N))=true)
  (x0:σ) (h0:I 0 x0) {A:HL} {Ts:List HL} (ip ir jp jr:List Nat) (hp:(ip++ir).isPerm (List.range A.length)=true) (hj:(jp++jr).isPerm (List.range Ts.length)=true) (Hr:HL) (Tr:List HL) (hHr:ir.filterMap (A[·]?)=Hr) (own:HL) {Te Tx':HL -> Prop} (hTr:jr.filterMap (Ts[·]?)=own :: Tr) (hA:ip.filterMap (A[·]?)=Ax x0) (hT:jp.filterMap (Ts[·]?)=Tx x0)
  (hit:Ny P gf lb own (ap Hr Tr++F) encs xs Te Tx')
  (hassign:∀ (l i:Nat) (x:α) (s:σ) (Y:HL) (w1:World),xs[i]?=some x -> I i s -> TR (some l) P N [] (Y++(ap Hr Tr++F)) w1 (oW ps.toList (encs x).toList L) (ap (Ax s) (Tx s)) assign (Exit.then (J0 N [] (Y++(ap Hr Tr++F)) w1 La Ha (Ia i x)) (λ _ _ _=>False)))
  (hbody:∀ (l i:Nat) (x:α) (t:τ) (Y:HL) (w1:World),xs[i]?=some x -> Ia i x t -> TR (some l) P N [] (Y++(ap Hr Tr++F)) w1 (La t) (Ha t) body (RQ (Y++(ap Hr Tr++F)) w1 (λ s=>ap (Ax s) (Tx s)) (I (i+1)) Ix))
  (hdone:∀ (d:Nat) (s:σ) (T1:HL),I xs.length s -> Te T1 -> EX N (coll d :: D) F w0 L (ap (cm d :: (Ax s++Hr)) (Tx s++T1 :: Tr)) Q .normal)
  (hstop:∀ (d:Nat) (c:Code) (s:σ) (T1:HL),Ix c s -> Tx' T1 -> TR none P N (coll d :: D) F w0 L (ap (cm d :: (Ax s++Hr)) (Tx s++T1 :: Tr)) c Q) :
  TR none P N D F w0 L (ap A Ts) (.rangeFunc g ps assign body) Q:=by
 have hpm:∀ (d:Nat) (s:σ) (Tr:List HL),(ap (cm d :: (Ax s++Hr)) (Tx s++Tr)).Perm (cm d :: (ap (Ax s) (Tx s)++ap Hr Tr)):=λ d s Tr=>by
  show (cm d :: ((Ax s++Hr)++(Tx s++Tr).flatten)).Perm _
  refine List.Perm.cons _ ?_
  rw [List.flatten_append]
  show ((Ax s++Hr)++((Tx s).flatten++Tr.flatten)).Perm ((Ax s++(Tx s).flatten)++(Hr++Tr.flatten))
  rw [List.append_assoc,List.append_assoc]
  refine List.Perm.append_left _ ?_
  rw [<- List.append_assoc,<- List.append_assoc]
  exact List.Perm.append_right _ List.perm_append_comm
 exact Cq hi hg eg (λ s=>ap (Ax s) (Tx s)) I Ix La Ha Ia hps hpN x0 h0 ip ir jp jr hp hj Hr Tr hHr own hTr (by rw [hA,hT]) hit hassign hbody
  (λ d s T1 hs hT a w h1 h2 h3=>hdone d s T1 hs hT a w h1 (h2.perm ((hpm d s _).append_right F)) h3) (λ d c s T1 hs hT a w h1 h2 h3=>hstop d c s T1 hs hT a w h1 (h2.perm ((hpm d s _).append_right F)) h3)
end
section
variable {P:Program} {N:Nat} {D:List Deferred} {F:HL} {w0:World} {R:HL} {s:Cfg} {Q:Exit -> Act -> World -> Prop}
def MZ (c:Fo) (d:Nat) (ip jp:List Nat) (A:HL) (Ts:List HL) (T1:HL) (s:Cfg):Cfg:=match s with
 | ⟨_,k,L,A',Ts'⟩=>⟨c,k,L,cm d :: (A++(oth ip A'.length).filterMap (A'[·]?)),Ts++T1 :: ((oth jp Ts'.length).filterMap (Ts'[·]?)).tail⟩
theorem Cr {α σ τ:Type} {encs:α -> Array Value} {xs:List α} {gf:FuncId} {lb:Array Value} (eg:∀ args w,(callFunc gf args).run P w=.ok (.enter gf args) w)
  (S:σ -> HL × List HL) (I:Nat -> σ -> Prop) (Ix:Code -> σ -> Prop) (W:τ -> Inv) (Ia:Nat -> α -> τ -> Prop) (x0:σ) (h0:I 0 x0) (ip jp:List Nat)
  (own:HL) {Te Tx:HL -> Prop} (hit:Ny P gf lb own (ap (eF ip s) (fE jp s).tail++F) encs xs Te Tx)
  (hassign:∀ (l i:Nat) (x:α) (s1:σ) (Y:HL) (w1:World),xs[i]?=some x -> I i s1 ->
   (∀ {s':Cfg} {R':HL} (t:τ) (ip' jp':List Nat),Ia i x t -> (hm:AY s'=some (MV N [] (Y++(ap (eF ip s) (fE jp s).tail++F)) w1 W (Ia i x)):=by kernel_rfl) -> (h:tF (W t) ip' jp' s'=mN (W t):=by kernel_rfl) -> (hp:bT ip' jp' s'=true:=by kernel_rfl) -> RN (some l) P N [] (Y++(ap (eF ip s) (fE jp s).tail++F)) w1 R' s' (λ _ _ _=>False)) ->
   RN (some l) P N [] (Y++(ap (eF ip s) (fE jp s).tail++F)) w1 (eF ip s++R) (L5 (MV N [] (Y++(ap (eF ip s) (fE jp s).tail++F)) w1 W (Ia i x)) (encs x).toList (S s1).1 (S s1).2 s) (λ _ _ _=>False))
  (hbody:∀ (l i:Nat) (x:α) (t:τ) (Y:HL) (w1:World),xs[i]?=some x -> Ia i x t -> RN (some l) P N [] (Y++(ap (eF ip s) (fE jp s).tail++F)) w1 (eF ip s++R) (L6 (W t) s) (RQ (Y++(ap (eF ip s) (fE jp s).tail++F)) w1 (λ s=>ap (S s).1 (S s).2) (I (i+1)) Ix))
  (hdone:∀ (d:Nat) (s1:σ) (T1:HL),I xs.length s1 -> Te T1 -> RN none P N (coll d :: D) F w0 R (MZ (.ex .normal) d ip jp (S s1).1 (S s1).2 T1 s) Q)
  (hstop:∀ (d:Nat) (c:Code) (s1:σ) (T1:HL),Ix c s1 -> Tx T1 -> RN none P N (coll d :: D) F w0 R (MZ (.code c) d ip jp (S s1).1 (S s1).2 T1 s) Q)
  (hpN:Hj N s=true:=by kernel_rfl) (hp:bT ip jp s=true:=by kernel_rfl) (hH:picks ip jp s=((S x0).1,(S x0).2):=by kernel_rfl) (ho:(fE jp s).head?=some own:=by kernel_rfl) (hG:(lI s).map (·.1)=some (.func (.func gf) #[] lb):=by kernel_rfl) (hne:∀ x:α,(lI s).map (·.2)=some (encs x).size:=by intro x;kernel_rfl):RN none P N D F w0 R s Q:=by
 refine ⟨λ hR=>?_⟩
 obtain ⟨c,k,L,A,Ts⟩:=s
 unfold bT at hp
 unfold picks at hH
 rw [Bool.and_eq_true] at hp
 simp only [Prod.mk.injEq] at hH
 cases c with
 | ops _ _=>simp [lI] at hG
 | ex _=>simp [lI] at hG
 | drw _ _=>simp [lI] at hG
 | code c =>
 cases c with
 | rangeFunc g ps assign body =>
  have hi:mC L g=true:=by
   cases h:mC L g with
   | true=>rfl
   | false=>simp [lI,h] at hG
  simp only [lI,hi,Option.map_some,Option.some.injEq] at hG hne
  simp only [Hj] at hpN
  have hRo:∀ (Y:HL),∀ y ∈ eF ip ⟨.code (.rangeFunc g ps assign body),k,L,A,Ts⟩++R,y ∈ Y++(ap (eF ip ⟨.code (.rangeFunc g ps assign body),k,L,A,Ts⟩) (fE jp ⟨.code (.rangeFunc g ps assign body),k,L,A,Ts⟩).tail++F):=by
   intro Y y hy
   rcases List.mem_append.1 hy with hy | hy
   ·exact List.mem_append_right _ (List.mem_append_left _ (List.mem_append_left _ hy))
   ·exact List.mem_append_right _ (List.mem_append_right _ (hR y hy))
  have ho':(oth jp Ts.length).filterMap (Ts[·]?)=own :: ((oth jp Ts.length).filterMap (Ts[·]?)).tail:=by
   have h1:((oth jp Ts.length).filterMap (Ts[·]?)).head?=some own:=ho
   generalize (oth jp Ts.length).filterMap (Ts[·]?)=l at h1 ⊢
   cases l with
   | nil=>cases h1
   | cons x l=>simp only [List.head?_cons,Option.some.injEq] at h1;rw [h1];rfl
  exact yM (assign:=assign) (body:=body) hi hG eg (λ s=>(S s).1) (λ s=>(S s).2) I Ix (λ t=>(W t).L) (λ t=>ap (W t).A (W t).Ts) Ia (λ x=>(hne x).symm) hpN x0 h0 ip (oth ip A.length) jp (oth jp Ts.length) hp.1 hp.2 _ _ rfl own ho' hH.1 hH.2 hit
   (λ l i x s1 Y w1 hx hi=>(hassign l i x s1 Y w1 hx hi (λ t ip' jp' ht hm h hp=>pn t ip' jp' ht hm h hp)).h (hRo Y))
   (λ l i x t Y w1 hx ht=>(hbody l i x t Y w1 hx ht).h (hRo Y))
   (λ d s1 T1 hs hT=>(hdone d s1 T1 hs hT).h hR) (λ d c s1 T1 hs hT=>(hstop d c s1 T1 hs hT).h hR)
 | _=>simp [lI] at hG
def mkC (i:Nat) (s:Cfg):Cfg:=match s with
 | ⟨c,k,L,A,Ts⟩=>⟨c,k,L,(oth [i] A.length).filterMap (A[·]?),Ts⟩
theorem LV.mark {fn:Func} {R':Value -> HL -> Prop} {d:Nat} (i:Nat) (hk:LV P N D F w0 R fn R' (mkC i s)) (h:((s.A[i]?),([i]++oth [i] s.A.length).isPerm (List.range s.A.length))=(some (cm d),true):=by kernel_rfl):LV P N (coll d :: D) F w0 R fn R' s:=by
 simp only [Prod.mk.injEq] at h
 refine ⟨λ hR a w hF hRel hB=>?_⟩
 obtain ⟨c,k,L,A,Ts⟩:=s
 simp only at h hF hRel
 have hp:=eS A [i] (oth [i] A.length) h.2
 simp only [List.filterMap_cons,h.1,List.filterMap_nil,List.cons_append,List.nil_append] at hp
 have h1:Rel ((d,Blk.obj (.deferred (some []))) :: (ap ((oth [i] A.length).filterMap (A[·]?)) Ts++F)) w:=by
  refine hRel.perm ?_
  have h2:(cm d :: ap ((oth [i] A.length).filterMap (A[·]?)) Ts).Perm (ap A Ts):=List.Perm.append_right Ts.flatten hp
  exact h2.append_right F
 have hd:w.heap[d]?=some (.deferred (some [])):=h1.holds (cm d) (by simp)
 have h2:=(h1.putObj (F:=[]) (.obj (.deferred none)))
 rw [hF.defs]
 refine ⟨by simp,.inl ⟨d,_,rfl,run_takeDeferred hd,?_⟩⟩
 exact hk.h hR { a with defers:=D } _ ⟨hF.size,rfl,hF.has⟩ (Rel.drop (X:=[(d,Blk.obj (.deferred none))]) h2) (hB.trans (dC _ _))
end
theorem FD (c0 c1 c2 c3 c4:Value) (F:HL):SpD Tryz.prog 59 #[c0,c1,c2,c3,c4] [] F (λ _ H'=>H'=[]):=by
 intro w hR
 refine callsDIn_of_wpSIn (F:=Wr none) (n:=0) Tryz.func59 rfl trivial λ c₀ cs hu=>?_
 have hrc:recoverD (c₀ :: cs)=none:=by simp [recoverD,hu]
 refine wpSIn_seq (wpSIn_region ?_)
 show wpOpsSIn _ _ _ _ _ [0,1] _ _ _
 simp only [wpOpsSIn,List.getElem?_toArray,List.getElem?_cons_zero,List.getElem?_cons_succ]
 simp [wpOpsSIn,go_sem,hrc,Tryz.ntmps59,Exit.thenS]
 refine wpSIn_cond (t:=false) (by simp [Act.eval,Array.replicate]) ?_
 refine wpSIn_of_wpIn rfl ?_
 refine wpIn_skip ?_
 simp [bodyPostS,results,Tryz.results59,hu]
 exact ⟨.returning,by cases c₀;simp at hu;subst hu;rfl,hu ▸ rfl,hR,Below.refl _ _⟩
abbrev gh (S:Setup) (j:Nat × Int) (n:Nat) (xs:List Inp):Gm:=⟨S,none,fy j.1,0,bC j.1 0,bC j.1 1,bC j.1 2,j.2,0,0,n,0,0,xs,jZ j.1⟩
def AtOk (F:HL) (bp:Nat) (t:Int) (j:Nat × Int):Prop:=∀ F',(∀ x ∈ F,x ∈ F') -> Sp Tryz.prog 15 #[vP bp 0,vI t] (ap [] []) F' (λ u H'=>∃ x:Option Addr × Nat × HL,H'=ap [] [x.2.2] /\ (u=.tuple #[vI j.2,.agg #[.slice x.1 (fy j.1) x.2.1,vI (bC j.1 0),vI (bC j.1 1),vI (bC j.1 2)]] /\ ClS kG 129 (jZ j.1) x.1 x.2.1 x.2.2))
theorem AtOk.mono {F F':HL} {bp:Nat} {t:Int} {j:Nat × Int} (h:AtOk F bp t j) (hs:∀ x ∈ F,x ∈ F'):AtOk F' bp t j:=λ F2 h2=>h F2 λ x hx=>h2 x (hs x hx)
theorem Book1.at {j bp:Nat} {TB F:HL} (hB:Book1 j bp TB) (hT:∀ x ∈ TB,x ∈ F) (hj:j < 5) (t:Int) (ht:0 <= t):AtOk F bp t (j,0):=λ F' hF=>IJ hB (λ x hx=>hF x (hT x hx)) hj t ht
abbrev M2 (x:Eff × Bool):Array Value:=#[.agg #[vI x.1.t,vI x.1.i,vI x.1.k,vI x.1.v,.bool x.2]]
theorem ClS.code {j:Nat} (hj:j < 5) {A:Option Addr} {c:Nat} {Hl F:HL} (h:ClS kG 129 (jZ j) A c Hl) (hF:∀ x ∈ Hl,x ∈ F):CodeIn F (jZ j) A (fy j):=by
 have hl:=wW hj
 have hb:=Au hj
 obtain ⟨A0,h⟩:=h
 rcases h with ⟨h1,rfl,rfl,rfl⟩ | ⟨b,rfl,rfl,h3⟩
 ·rw [h1] at hl
  rw [<- hl]
  exact .nil _
 ·exact .mk b c _ (hF _ (List.mem_singleton.2 rfl)) (by rw [<- hl];exact h3) (by omega)
theorem og {S:Setup} {A:Option Addr} {j:Nat × Int} {c ib io n ic N:Nat} {full xs:List Inp} (hx:∀ k,k < n -> full.getD (io+k) dI=xs.getD k dI):GEq ⟨S,A,fy j.1,c,bC j.1 0,bC j.1 1,bC j.1 2,j.2,ib,io,n,ic,N,full,jZ j.1⟩ (gh S j n xs) :=
 ⟨rfl,λ k hk=>(hx k hk).trans (by rw [Nat.zero_add])⟩
theorem jH {g g0:Gm} (e:GEq g g0) (mb:Nat) (M:MemS) (k:Nat) (T F:HL) (hM:MemH mb M (k+20) T) (hg:GmIn F g) (h0:Bt M) (ver:Int) (hver:g.version=ver):Sp Tryz.prog 18 #[.iface 40 (vP mb 0),.agg #[vI g.S.players,vS g.S.bb (g.S.bo * 9) g.S.nb g.S.bc,vI g.S.box.x0,vI g.S.box.y0,vI g.S.box.x1,vI g.S.box.y1,.slice g.S.rA g.S.rn g.S.rc,.slice g.S.dA g.S.dn g.S.dc,vI g.S.fog,vI g.S.g.x,vI g.S.g.y,vI g.S.push,vI g.S.drag,vI g.S.rest,vI g.S.rounds,vI g.S.fuel],.agg #[.slice g.cA g.cn g.cc,vI g.e0,vI g.e1,vI g.e2],vI ver,vS g.ib (g.io * 3) g.ni g.ic] (ap [] [T]) F (λ u H'=>∃ x,H'=ap [] [x] /\ (MemH mb (fO g0 M) k x /\ u=.tuple #[.bool (gM g0 M),.agg #[vI ((eD g0 M).e.t),vI ((eD g0 M).e.i),vI ((eD g0 M).e.k),vI ((eD g0 M).e.v)],.bool ((eD g0 M).em)])):=by
 have h:=Bu g mb M k T F hM hg h0 ver hver
 rwa [fO,xO e,nJ e] at h
theorem IL (S:Setup) (bp gb mb q1 q2 ib io N ni ic m k:Nat) (j:Nat × Int) (full xs:List Inp) (M:MemS) (F:HL) (hj:j.1 < 5) (hA:AtOk F bp (M.get 0) j) (hg:(gb,.lit (ez S bp mb) 115 (0,0)) ∈ F) (h1:(q1,.lit [vP gb 0] 35 (0,0)) ∈ F) (h2:(q2,.lit [vS ib (io * 3) ni ic] 56 (0,0)) ∈ F) (hS:SetIn F S) (hE:ck F) (hI:(ib,.rows 3 N (j9 full) 151 (0,0)) ∈ F) (hir:io+ni <= N /\ ni <= 1000000) (hx:∀ k,k < ni -> full.getD (io+k) dI=xs.getD k dI) (T:HL) (hM:MemH mb M (k+20 * m+20) T) (h0:0 <= M.get 0) (hgood:dE (gh S j ni xs) (m+1) M) (lp:Nat) (X:HL) (J:Nat -> HL -> Prop) (Jx:HL -> Prop) (T0:HL) (hY:∀ i x H Y,(iz (gh S j ni xs) (m+1) M)[i]?=some x -> J i H -> YL Tryz.prog lp (M2 x) H (Y++(X++F)) (λ b H'=>(b=true /\ J (i+1) H') \/ (b=false /\ Jx H'))) (hJ0:J 0 T0):Sp Tryz.prog 100 #[.func (.yield lp) #[] #[],vP q1 0,vP q2 0] (ap [] [T0,T]) (X++F) (λ _ H'=>∃ x:HL × HL,H'=ap [] [x.1,x.2] /\ ((J (iz (gh S j ni xs) (m+1) M).length x.1 /\ MemH mb (fI (gh S j ni xs) (m+1) M) k x.2) \/ Jx x.1)):=by
 have hg_:=List.mem_append_right X hg
 have h1_:=List.mem_append_right X h1
 have h2_:=List.mem_append_right X h2
 have hS_:SetIn (X++F) S:=hS.up
 have hE_:ck (X++F):=List.mem_append_right X hE
 have hI_:=List.mem_append_right X hI
 have hA_:AtOk (X++F) bp (M.get 0) j:=hA.mono λ x hx=>List.mem_append_right X hx
 refine Sp.run Tryz.func100 rfl (mc hg_ (mc h1_ (mc h2_ mn))) (A:=[]) (Ts:=[T0,T]) rfl λ w0=>?_
 refine ae 1 [] λ _=>RN.draw [12] []<|ag [] [0,4,1,2,3] [.ro 1,.ro 1,.ro 0]<|ar [] 5 (λ X_=>(we S bp gb mb M (k+20 * m+20) T _ (xz hg_) hM (aR 1)))<|eh 6 10 ?_ ?_
 ·refine RDO.ct [] (Hp:=[]) (Tp:=[]) [] [] (hA_ _ (λ x hx=>au hx)) ?_
  rintro _ ⟨A1,c2,T3⟩ ⟨rfl,hc4⟩
  dsimp only at hc4
  refine ag [] [7,8,9] []<|RD.one 10 (RDO.ev [] [] λ n5=>?_)
  refine ag [] [11] []<|RD.one 12 (RDO.ev [] [.own 0,.own 0,.own 0,.own 0] λ _=>?_)
  refine RD.fin<|ae 2 [] λ _=>RN.loop (σ:=Nat × Nat × MemS × HL × HL) (λ ⟨r,i_,M_,T_,J_⟩=>⟨[(0,.func (.yield lp) #[] #[]),(1,vP q1 0),(2,vP q2 0),(4,vI j.2),(5,vP (n5+0) 0)],[((n5+0),.lit [.slice A1 (fy j.1) c2,vI (bC j.1 0),vI (bC j.1 1),vI (bC j.1 2)] 47 (0,0))],[T_,J_,T3],i_+(r+1)=m+1 /\ dE (gh S j ni xs) (r+1) M_ /\ fI (gh S j ni xs) (r+1) M_=fI (gh S j ni xs) (m+1) M /\ MemH mb M_ (k+20 * r+20) T_ /\ (iz (gh S j ni xs) (m+1) M).drop i_=iz (gh S j ni xs) (r+1) M_ /\ J i_ J_,r⟩) (m,0,M,T,T0) [0] [2,1,0] (⟨by omega,hgood,rfl,hM,rfl,hJ0⟩) ?_
  rintro ⟨r,i_,M_,T_,J_⟩ ⟨hd_,hgood_,hrun_,hM_,hdr_,hJ_⟩ mt7
  refine ae 2 [] λ _=>RN.draw [12,19] []<|ag [] [0,5,9,10,11,1,6,2,7,3,8,4] [.ro 1,.ro 1,.own 0,.own 0,.own 0,.own 0,.ro 2,.ro 0,.ro 0,.ro 0,.ro 0,.ro 0,.ro 0,.ro 0,.ro 0,.ro 0,.ro 0,.ro 0,.ro 0,.ro 0,.ro 0,.ro 0,.ro 0,.ro 0]<|eh 12 17 ?_ ?_
  ·refine RDO.ct [] [] [0] (jH (g:=(⟨S,A1,fy j.1,c2,bC j.1 0,bC j.1 1,bC j.1 2,j.2,ib,io,ni,ic,N,full,jZ j.1⟩:Gm)) (og hx) mb M_ (k+20 * r) T_ _ hM_ ⟨hS_.up,au hI_,hir,au hE_,hc4.code hj (aA 1)⟩ hgood_.1 j.2 rfl) ?_
   rintro _ T8 ⟨hM9,rfl⟩
   refine ag [] [13,14,15,16] []<|RD.one 17 (RDO.ev [] [] λ n10=>?_)
   refine ag [] [18] []<|RD.one 19 (RDO.ev [] [.own 0,.own 0,.own 0,.own 0] λ _=>?_)
   refine ag [] [20] []<|RD.fin<|ae 7 [.own 0,.own 0,.own 0,.own 0] λ _=>RN.yield 1 (hY i_ ((eD (gh S j ni xs) M_).e,(eD (gh S j ni xs) M_).em) _ _ (gu hdr_).1 hJ_) ?_
   rintro b_ T11 (⟨rfl,hJ12⟩ | ⟨rfl,hJ12⟩)
   ·refine ae 6 [] λ _=>fT (gM (gh S j ni xs) M_) 44 (λ h13=>?_) λ h13=>?_
    ·refine ae 1 [] λ _=>RN.ret [] [] [0,1] (v:=.tuple #[]) (H':=(ap [] [T11,T8])) ?_
     have er:r=0:=by
      rcases hgood_.2 with ⟨e,_⟩ | ⟨e,_⟩
      ·exact e
      ·have hh:gM (gh S j ni xs) M_=true:=by assumption
       rw [e] at hh;cases hh
     subst er
     have ed:i_+1=(iz (gh S j ni xs) (m+1) M).length:=by rw [iA];omega
     refine ⟨(T11,T8),rfl,.inl ⟨?_,?_⟩⟩
     ·rw [<- ed];exact hJ12
     ·rw [<- hrun_];exact hM9.weak (by omega)
    ·refine ae 3 [] λ _=>?_
     have hg2:=hgood_.2
     rcases hg2 with ⟨_,e_⟩ | ⟨_,hg2⟩
     ·exact absurd e_ (by assumption)
     rcases r with _ | r
     ·exact hg2.elim
     refine mt7 (r,i_+1,(fO (gh S j ni xs) M_),T8,T11) [1] [1,0,2] ?_
     try dsimp only
     exact ⟨⟨by omega,hg2,hrun_,hM9.weak (by omega),(gu hdr_).2,hJ12⟩,by omega⟩
   ·refine ae 7 [] λ _=>RN.ret [] [] [0,1] (v:=.tuple #[]) (H':=(ap [] [T11,T8])) ?_
    exact ⟨(T11,T8),rfl,.inr hJ12⟩
  ·refine RDO.ev [] [] λ n14=>RD.one 12 (RDO.ct [] [] [0] (jH (g:=(⟨S,A1,fy j.1,c2,bC j.1 0,bC j.1 1,bC j.1 2,j.2,ib,io,ni,ic,N,full,jZ j.1⟩:Gm)) (og hx) mb M_ (k+20 * r) T_ _ hM_ ⟨hS_.up,au hI_,hir,au hE_,hc4.code hj (aA 1)⟩ hgood_.1 j.2 rfl) ?_)
   rintro _ T15 ⟨hM16,rfl⟩
   refine ag [] [13,14,15,16,18] []<|RD.one 19 (RDO.ev [] [.own 0,.own 0,.own 0,.own 0] λ _=>?_)
   refine ag [] [20] []<|RD.fin<|ae 7 [.own 0,.own 0,.own 0,.own 0] λ _=>RN.yield 1 (hY i_ ((eD (gh S j ni xs) M_).e,(eD (gh S j ni xs) M_).em) _ _ (gu hdr_).1 hJ_) ?_
   rintro b_ T17 (⟨rfl,hJ18⟩ | ⟨rfl,hJ18⟩)
   ·refine ae 6 [] λ _=>fT (gM (gh S j ni xs) M_) 44 (λ h19=>?_) λ h19=>?_
    ·refine ae 1 [] λ _=>RN.ret [] [] [0,1] (v:=.tuple #[]) (H':=(ap [] [T17,T15])) ?_
     have er:r=0:=by
      rcases hgood_.2 with ⟨e,_⟩ | ⟨e,_⟩
      ·exact e
      ·have hh:gM (gh S j ni xs) M_=true:=by assumption
       rw [e] at hh;cases hh
     subst er
     have ed:i_+1=(iz (gh S j ni xs) (m+1) M).length:=by rw [iA];omega
     refine ⟨(T17,T15),rfl,.inl ⟨?_,?_⟩⟩
     ·rw [<- ed];exact hJ18
     ·rw [<- hrun_];exact hM16.weak (by omega)
    ·refine ae 3 [] λ _=>?_
     have hg2:=hgood_.2
     rcases hg2 with ⟨_,e_⟩ | ⟨_,hg2⟩
     ·exact absurd e_ (by assumption)
     rcases r with _ | r
     ·exact hg2.elim
     refine mt7 (r,i_+1,(fO (gh S j ni xs) M_),T15,T17) [1] [1,0,2] ?_
     try dsimp only
     exact ⟨⟨by omega,hg2,hrun_,hM16.weak (by omega),(gu hdr_).2,hJ18⟩,by omega⟩
   ·refine ae 7 [] λ _=>RN.ret [] [] [0,1] (v:=.tuple #[]) (H':=(ap [] [T17,T15])) ?_
    exact ⟨(T17,T15),rfl,.inr hJ18⟩
 ·refine RDO.ev [] [] λ n20=>RD.one 6 (RDO.ct [] (Hp:=[]) (Tp:=[]) [] [] (hA_ _ (λ x hx=>au hx)) ?_)
  rintro _ ⟨A21,c22,T23⟩ ⟨rfl,hc24⟩
  dsimp only at hc24
  refine ag [] [7,8,9,11] []<|RD.one 12 (RDO.ev [] [.own 0,.own 0,.own 0,.own 0] λ _=>?_)
  refine RD.fin<|ae 2 [] λ _=>RN.loop (σ:=Nat × Nat × MemS × HL × HL) (λ ⟨r,i_,M_,T_,J_⟩=>⟨[(0,.func (.yield lp) #[] #[]),(1,vP q1 0),(2,vP q2 0),(4,vI j.2),(5,vP (n20+0) 0)],[((n20+0),.lit [.slice A21 (fy j.1) c22,vI (bC j.1 0),vI (bC j.1 1),vI (bC j.1 2)] 47 (0,0))],[T_,J_,T23],i_+(r+1)=m+1 /\ dE (gh S j ni xs) (r+1) M_ /\ fI (gh S j ni xs) (r+1) M_=fI (gh S j ni xs) (m+1) M /\ MemH mb M_ (k+20 * r+20) T_ /\ (iz (gh S j ni xs) (m+1) M).drop i_=iz (gh S j ni xs) (r+1) M_ /\ J i_ J_,r⟩) (m,0,M,T,T0) [0] [2,1,0] (⟨by omega,hgood,rfl,hM,rfl,hJ0⟩) ?_
  rintro ⟨r,i_,M_,T_,J_⟩ ⟨hd_,hgood_,hrun_,hM_,hdr_,hJ_⟩ mt26
  refine ae 2 [] λ _=>RN.draw [12,19] []<|ag [] [0,5,9,10,11,1,6,2,7,3,8,4] [.ro 1,.ro 1,.own 0,.own 0,.own 0,.own 0,.ro 2,.ro 0,.ro 0,.ro 0,.ro 0,.ro 0,.ro 0,.ro 0,.ro 0,.ro 0,.ro 0,.ro 0,.ro 0,.ro 0,.ro 0,.ro 0,.ro 0,.ro 0]<|eh 12 17 ?_ ?_
  ·refine RDO.ct [] [] [0] (jH (g:=(⟨S,A21,fy j.1,c22,bC j.1 0,bC j.1 1,bC j.1 2,j.2,ib,io,ni,ic,N,full,jZ j.1⟩:Gm)) (og hx) mb M_ (k+20 * r) T_ _ hM_ ⟨hS_.up,au hI_,hir,au hE_,hc24.code hj (aA 1)⟩ hgood_.1 j.2 rfl) ?_
   rintro _ T27 ⟨hM28,rfl⟩
   refine ag [] [13,14,15,16] []<|RD.one 17 (RDO.ev [] [] λ n29=>?_)
   refine ag [] [18] []<|RD.one 19 (RDO.ev [] [.own 0,.own 0,.own 0,.own 0] λ _=>?_)
   refine ag [] [20] []<|RD.fin<|ae 7 [.own 0,.own 0,.own 0,.own 0] λ _=>RN.yield 1 (hY i_ ((eD (gh S j ni xs) M_).e,(eD (gh S j ni xs) M_).em) _ _ (gu hdr_).1 hJ_) ?_
   rintro b_ T30 (⟨rfl,hJ31⟩ | ⟨rfl,hJ31⟩)
   ·refine ae 6 [] λ _=>fT (gM (gh S j ni xs) M_) 44 (λ h32=>?_) λ h32=>?_
    ·refine ae 1 [] λ _=>RN.ret [] [] [0,1] (v:=.tuple #[]) (H':=(ap [] [T30,T27])) ?_
     have er:r=0:=by
      rcases hgood_.2 with ⟨e,_⟩ | ⟨e,_⟩
      ·exact e
      ·have hh:gM (gh S j ni xs) M_=true:=by assumption
       rw [e] at hh;cases hh
     subst er
     have ed:i_+1=(iz (gh S j ni xs) (m+1) M).length:=by rw [iA];omega
     refine ⟨(T30,T27),rfl,.inl ⟨?_,?_⟩⟩
     ·rw [<- ed];exact hJ31
     ·rw [<- hrun_];exact hM28.weak (by omega)
    ·refine ae 3 [] λ _=>?_
     have hg2:=hgood_.2
     rcases hg2 with ⟨_,e_⟩ | ⟨_,hg2⟩
     ·exact absurd e_ (by assumption)
     rcases r with _ | r
     ·exact hg2.elim
     refine mt26 (r,i_+1,(fO (gh S j ni xs) M_),T27,T30) [1] [1,0,2] ?_
     try dsimp only
     exact ⟨⟨by omega,hg2,hrun_,hM28.weak (by omega),(gu hdr_).2,hJ31⟩,by omega⟩
   ·refine ae 7 [] λ _=>RN.ret [] [] [0,1] (v:=.tuple #[]) (H':=(ap [] [T30,T27])) ?_
    exact ⟨(T30,T27),rfl,.inr hJ31⟩
  ·refine RDO.ev [] [] λ n33=>RD.one 12 (RDO.ct [] [] [0] (jH (g:=(⟨S,A21,fy j.1,c22,bC j.1 0,bC j.1 1,bC j.1 2,j.2,ib,io,ni,ic,N,full,jZ j.1⟩:Gm)) (og hx) mb M_ (k+20 * r) T_ _ hM_ ⟨hS_.up,au hI_,hir,au hE_,hc24.code hj (aA 1)⟩ hgood_.1 j.2 rfl) ?_)
   rintro _ T34 ⟨hM35,rfl⟩
   refine ag [] [13,14,15,16,18] []<|RD.one 19 (RDO.ev [] [.own 0,.own 0,.own 0,.own 0] λ _=>?_)
   refine ag [] [20] []<|RD.fin<|ae 7 [.own 0,.own 0,.own 0,.own 0] λ _=>RN.yield 1 (hY i_ ((eD (gh S j ni xs) M_).e,(eD (gh S j ni xs) M_).em) _ _ (gu hdr_).1 hJ_) ?_
   rintro b_ T36 (⟨rfl,hJ37⟩ | ⟨rfl,hJ37⟩)
   ·refine ae 6 [] λ _=>fT (gM (gh S j ni xs) M_) 44 (λ h38=>?_) λ h38=>?_
    ·refine ae 1 [] λ _=>RN.ret [] [] [0,1] (v:=.tuple #[]) (H':=(ap [] [T36,T34])) ?_
     have er:r=0:=by
      rcases hgood_.2 with ⟨e,_⟩ | ⟨e,_⟩
      ·exact e
      ·have hh:gM (gh S j ni xs) M_=true:=by assumption
       rw [e] at hh;cases hh
     subst er
     have ed:i_+1=(iz (gh S j ni xs) (m+1) M).length:=by rw [iA];omega
     refine ⟨(T36,T34),rfl,.inl ⟨?_,?_⟩⟩
     ·rw [<- ed];exact hJ37
     ·rw [<- hrun_];exact hM35.weak (by omega)
    ·refine ae 3 [] λ _=>?_
     have hg2:=hgood_.2
     rcases hg2 with ⟨_,e_⟩ | ⟨_,hg2⟩
     ·exact absurd e_ (by assumption)
     rcases r with _ | r
     ·exact hg2.elim
     refine mt26 (r,i_+1,(fO (gh S j ni xs) M_),T34,T36) [1] [1,0,2] ?_
     try dsimp only
     exact ⟨⟨by omega,hg2,hrun_,hM35.weak (by omega),(gu hdr_).2,hJ37⟩,by omega⟩
   ·refine ae 7 [] λ _=>RN.ret [] [] [0,1] (v:=.tuple #[]) (H':=(ap [] [T36,T34])) ?_
    exact ⟨(T36,T34),rfl,.inr hJ37⟩
theorem Lo (S:Setup) (bp gb mb q1 q2 ib io N ni ic m k:Nat) (j:Nat × Int) (full xs:List Inp) (M:MemS) (F:HL) (hj:j.1 < 5) (hA:AtOk F bp (M.get 0) j) (hg:(gb,.lit (ez S bp mb) 115 (0,0)) ∈ F) (h1:(q1,.lit [vP gb 0] 35 (0,0)) ∈ F) (h2:(q2,.lit [vS ib (io * 3) ni ic] 56 (0,0)) ∈ F) (hS:SetIn F S) (hE:ck F) (hI:(ib,.rows 3 N (j9 full) 151 (0,0)) ∈ F) (hir:io+ni <= N /\ ni <= 1000000) (hx:∀ k,k < ni -> full.getD (io+k) dI=xs.getD k dI) (T:HL) (hM:MemH mb M (k+20 * m+20) T) (h0:0 <= M.get 0) (hgood:dE (gh S j ni xs) (m+1) M):Ny Tryz.prog 100 #[vP q1 0,vP q2 0] T F M2 (iz (gh S j ni xs) (m+1) M) (λ T1=>MemH mb (fI (gh S j ni xs) (m+1) M) k T1) (λ _=>True):=by
 intro X l J Jx H0 hY h0'
 have e:∀ A B:HL,ap [] [A,B]=A++B:=λ A B=>by simp [ap]
 have key:=IL S bp gb mb q1 q2 ib io N ni ic m k j full xs M F hj hA hg h1 h2 hS hE hI hir hx T hM h0 hgood l X J Jx H0 hY h0'
 rw [e] at key
 refine key.mono λ u H' h=>?_
 obtain ⟨x,rfl,h⟩:=h
 refine ⟨x.1,x.2,e _ _,?_⟩
 rcases h with ⟨a,b⟩ | a
 ·exact .inl ⟨a,b⟩
 ·exact .inr ⟨a,trivial⟩
theorem w7 (e:Int) (S:Setup) (bp gb mb:Nat) (M:MemS) (k:Nat) (A:Option Addr) (n cap:Nat) (xs:List Inp) (T F:HL) (hg:(gb,.lit (ez S bp mb) 115 (0,0)) ∈ F) (hM:MemH mb M k T) (hT:∀ x ∈ T,x ∈ F) (hl:RowL gC 151 F A n xs) (hn:n <= 1000000) (he:cO S.players n xs (M.get 0)=e):Sp Tryz.prog 57 #[vP gb 0,.slice A n cap] [] F (λ u H'=>u=vI e /\ H'=[]):=he ▸ yh S bp gb mb M k A n cap xs T F hg hM hT hl hn
theorem FF (c0 c1 c2 c3 c4:Value) (F:HL):SpD Tryz.prog 59 #[c0,c1,c2,c3,c4] (ap [] []) F (λ _ H'=>∃ _:Unit,H'=ap [] [] /\ True):=by
 exact (FD c0 c1 c2 c3 c4 F).mono λ u H' h=>⟨(),h,trivial⟩
theorem FG (S:Setup) (rs:List Bx) (ds:List Dr) (bp gb mb ib io N ni ic m k:Nat) (j:Nat × Int) (full xs:List Inp) (M:MemS) (T U F:HL) (hj:j.1 < 5) (hA:AtOk F bp (M.get 0) j) (hU:m0 S rs ds U) (hE:ck F) (hI:(ib,.rows 3 N (j9 full) 151 (0,0)) ∈ F) (hir:io+ni <= N) (hni:ni <= 1000000) (hmb:m <= 1000000) (hlen:xs.length=ni) (hx:∀ k,k < ni -> full.getD (io+k) dI=xs.getD k dI) (hM:MemH mb M (k+20 * m+20) T) (h0:0 <= M.get 0) (hgood:dE (gh S j ni xs) (m+1) M) (hw:cO S.players ni xs (M.get 0)=0):Sp Tryz.prog 19 #[vP gb 0,vS ib (io * 3) ni ic] (ap [(gb,.lit (ez S bp mb) 115 (0,0))] [T,U]) F (λ u H'=>∃ x:HL × Option Addr × Nat × HL,H'=ap [(gb,.lit (ez S bp mb) 115 (0,0))] [x.1,U,x.2.2.2] /\ (MemH mb (fI (gh S j ni xs) (m+1) M) k x.1 /\ SlIs oY 53 (dt (gh S j ni xs) (m+1) M) x.2.1 x.2.2.1 x.2.2.2 /\ u=.tuple #[.slice x.2.1 (dt (gh S j ni xs) (m+1) M).length x.2.2.1,vI ((m+1:Nat):Int),vI 0])):=by
 have hl:RowL gC 151 F (some ⟨ib,io * 3,none⟩) ni xs:=.rows ib io N full (0,0) ni xs hI hir hlen hx
 have hM2:=hM
 refine Sp.runM Tryz.func19 rfl mn (A:=[(gb,.lit (ez S bp mb) 115 (0,0))]) (Ts:=[T,U]) rfl λ w0=>?_
 refine ae 13 [.own 3] λ n1=>aj (w7 0 S bp gb mb M (k+20 * m+20) (some ⟨ib,io * 3,none⟩) ni ic xs T _ (aB 4) hM (aA 0) hl.up hni hw)<|ae 18 [.own 3,.own 4] λ _=>aj (wc hM (aA 0))<|ae 7 [.own 0] λ n2=>JN (g:=59) (args:=#[]) (cap:=#[vP (n1+0) 0,vP (n2+0) 0,vP (n1+1) 0,vP (n1+2) 0,vP (n1+3) 0])<|ae 7 [.own 4] λ _=>RN.ct (Hp:=[]) (Tp:=[]) [] [] (yi gb ib io ni ic _) ?_
 rintro _ n3 rfl
 refine ae 3 [] λ _=>RN.nt<|oG [1,0,2]<|Cr (σ:=Nat × List Eff × Option Addr × Nat × HL) (τ:=(Nat × List Eff × Option Addr × Nat × HL) × Nat × (Eff × Bool)) (encs:=λ (x_:Eff × Bool)=>#[.agg #[vI x_.1.t,vI x_.1.i,vI x_.1.k,vI x_.1.v,.bool x_.2]]) (xs:=(iz (gh S j ni xs) (m+1) M)) (enters_of Tryz.func100 (by kernel_rfl) rfl) (λ ⟨c_,es_,B_,b_,E_⟩=>([((n1+1),.lit [.slice B_ es_.length b_] 57 (0,0)),((n1+2),.lit [vI (c_:Int)] 3 (0,0))],[E_])) (λ i_ ⟨c_,es_,B_,b_,E_⟩=>c_=i_ /\ es_=lK ((iz (gh S j ni xs) (m+1) M).take i_) /\ SlIs oY 53 es_ B_ b_ E_) (λ c_ ⟨c_,es_,B_,b_,E_⟩=>False) (λ ⟨⟨c_,es_,B_,b_,E_⟩,nn_,y_⟩=>⟨[(4,vP (n1+1) 0),(5,vP (n1+2) 0),(6,vP (n1+3) 0),(9,vP (nn_+0) 0)],[((nn_+0),.lit [vI y_.1.t,vI y_.1.i,vI y_.1.k,vI y_.1.v,.bool y_.2] 147 (0,0)),((n1+1),.lit [.slice B_ es_.length b_] 57 (0,0)),((n1+2),.lit [vI (c_:Int)] 3 (0,0))],[E_],True,0⟩) (λ i_ x_ ⟨⟨c_,es_,B_,b_,E_⟩,nn_,y_⟩=>(c_=i_ /\ es_=lK ((iz (gh S j ni xs) (m+1) M).take i_) /\ SlIs oY 53 es_ B_ b_ E_) /\ y_=x_) (0,[],none,0,[]) (⟨rfl,rfl,SlIs.nil _ _⟩) [5,4] [1] T (Lo S bp gb mb (n3+0) (n3+1) ib io N ni ic m k j full xs M _ hj (hA.mono λ x hx=>au hx) (aB 5) (aB 1) (aB 0) (hU _ (aA 0)).1 (au hE) (au hI) ⟨hir,hni⟩ hx T hM2 h0 hgood) ?_ ?_ ?_ ?_
 ·rintro l_ i_ x_ ⟨c_,es_,B_,b_,E_⟩ Y4 w5 hx6 ⟨hc_,he_,hs_⟩ mt7
  refine ae 4 (ow 0 5) λ n8=>?_
  refine mt7 ((c_,es_,B_,b_,E_),n8,x_) [0,1,2] [0] ?_
  try dsimp only
  exact ⟨⟨hc_,he_,hs_⟩,rfl⟩
 ·rintro l_ i_ x_ ⟨⟨c_,es_,B_,b_,E_⟩,nn_,y_⟩ Y9 w10 hx11 ⟨⟨hc_,he_,hs_⟩,ey_⟩
  subst ey_
  have hbd_:i_ < m+1:=by have:=(List.getElem?_eq_some_iff.1 hx11).1;rwa [iA] at this
  have hel_:es_.length <= i_:=by rw [he_];have:=vG ((iz (gh S j ni xs) (m+1) M).take i_);rw [List.length_take] at this;omega
  refine al 14 [.own 2,.nw,.own 2,.own 0] [br ((c_:Int)+1)] λ _=>fT (y_.2) 29 (λ h12=>?_) λ h12=>?_
  ·refine ae 6 [.own 1,.own 0,.own 0,.own 0,.own 0] λ n13=>iu pY es_ [y_.1] 0 0 rfl hs_ (by simp;omega) ?_
   rintro A14 c15 T16 ⟨hs17,hz18⟩
   refine ae 3 [.own 2] λ _=>eI 3 (congrArg (λ v_=>(.lit [vI v_] 3 (0,0):Blk)) (show ((c_:Int)+1)=((c_+1:Nat):Int) by omega))<|eI 2 (congrArg (λ v_=>(.lit [.slice A14 v_ c15] 57 (0,0):Blk)) (show es_.length+1=(es_++[y_.1]).length by simp))<|RN.rn (c_+1,es_++[y_.1],A14,c15,T16) [2,3] [0] ?_
   try dsimp only
   exact ⟨by omega,by rw [Ea hx11 h12,<- he_],hs17⟩
  ·refine ae 3 [] λ _=>eI 2 (congrArg (λ v_=>(.lit [vI v_] 3 (0,0):Blk)) (show ((c_:Int)+1)=((c_+1:Nat):Int) by omega))<|RN.rn (c_+1,es_,B_,b_,E_) [1,2] [0] ?_
   try dsimp only
   exact ⟨by omega,by rw [HM hx11 h12,<- he_],hs_⟩
 ·rintro d19 ⟨c_,es_,B_,b_,E_⟩ T20 ⟨hc_,he_,hs_⟩ hT21
  refine ae 3 [] λ _=>RN.draw [0,1,2,3,4] []<|il (σ:=Unit) (λ _=>⟨[(4,vP (n1+1) 0),(5,vP (n1+2) 0),(6,vP (n1+3) 0)],[(d19,.obj (.deferred (some []))),((n1+1),.lit [.slice B_ es_.length b_] 57 (0,0)),((n1+2),.lit [vI (c_:Int)] 3 (0,0)),((n3+1),.lit [vS ib (io * 3) ni ic] 56 (0,0)),((n3+0),.lit [vP gb 0] 35 (0,0)),((n2+0),.lit [vI (aY (M.base+(M.lg.length:Int)))] 3 (0,0)),((n1+3),.lit [vI 0] 58 (0,0)),((n1+0),.lit [vP gb 0] 35 (0,0)),(gb,.lit (ez S bp mb) 115 (0,0))],[E_,T20,U],True,0⟩) ?_ ?_
  ·rintro ⟨⟩
   refine ae 1 [] λ _=>FC ?_
   refine LV.mark 0 ?_
   refine JO (enters_of Tryz.func59 (by kernel_rfl) rfl) [] [] (FF _ _ _ _ _ _) ?_
   rintro _ _ _
   refine LV.ret [.own 0,.own 1,.own 5] [7] [1,2,0] (v:=.tuple #[.slice B_ es_.length b_,vI (c_:Int),vI 0]) (H':=(ap [(gb,.lit (ez S bp mb) 115 (0,0))] [T20,U,E_])) ?_
   have e1:es_=dt (gh S j ni xs) (m+1) M:=by rw [he_,List.take_length,vF]
   have e2:c_=m+1:=by rw [hc_,iA]
   subst e1
   subst e2
   exact ⟨(T20,B_,b_,E_),rfl,hT21,hs_,rfl⟩
  ·intro key22
   refine eh 0 1 ?_ ?_
   ·refine RDO.ev [] [.own 1] λ _=>eh 1 2 ?_ ?_
    ·refine RDO.ev [] [.own 2] λ _=>RD.one 2 (RDO.ev [] [.own 1] λ _=>?_)
     refine RD.one 3 (RDO.ev [] [.own 2] λ _=>?_)
     refine RD.one 4 (RDO.ev [] [.own 6] λ _=>?_)
     exact key22 () [0,1,2,3,4,5,6,7,8] [0,1,2]
    ·refine RDO.ev [] [.own 1] λ _=>RD.one 1 (RDO.ev [] [.own 2] λ _=>?_)
     refine RD.one 3 (RDO.ev [] [.own 2] λ _=>?_)
     refine RD.one 4 (RDO.ev [] [.own 6] λ _=>?_)
     exact key22 () [0,1,2,3,4,5,6,7,8] [0,1,2]
   ·refine RDO.ev [] [.own 2] λ _=>RD.one 0 (RDO.ev [] [.own 1] λ _=>?_)
    refine RD.one 2 (RDO.ev [] [.own 1] λ _=>?_)
    refine RD.one 3 (RDO.ev [] [.own 2] λ _=>?_)
    refine RD.one 4 (RDO.ev [] [.own 6] λ _=>?_)
    exact key22 () [0,1,2,3,4,5,6,7,8] [0,1,2]
 ·exact λ _ _ _ _ h _=>h.elim
theorem td (e:Int) (S:Setup) (bp gb mb n cap k:Nat) (A:Option Addr) (xs:List Inp) (M:MemS) (T U F:HL) (hl:RowL gC 151 F A n xs) (hni:n <= 1000000) (hM:MemH mb M k T) (hw:cO S.players n xs (M.get 0)=e) (hne:¬ e=0):Sp Tryz.prog 19 #[vP gb 0,.slice A n cap] (ap [(gb,.lit (ez S bp mb) 115 (0,0))] [T,U]) F (λ u H'=>H'=ap [(gb,.lit (ez S bp mb) 115 (0,0))] [T,U] /\ u=.tuple #[.slice none 0 0,vI 0,vI e]):=by
 refine Sp.runM Tryz.func19 rfl mn (A:=[(gb,.lit (ez S bp mb) 115 (0,0))]) (Ts:=[T,U]) rfl λ w0=>?_
 refine ae 13 [.own 3] λ n1=>aj (w7 e S bp gb mb M k A n cap xs T _ (aB 4) hM (aA 0) hl.up hni hw)<|ae 9 [] λ _=>cV 14 (nf (decide_eq_false hne))<|ae 9 [.own 2,.own 1,.own 0] λ _=>FC ?_
 exact LV.ret [.own 2,.own 1,.own 0] [4] [0,1] ⟨rfl,rfl⟩
end Go.Proofs.YtghjbimijeinfaaGreatDoor
