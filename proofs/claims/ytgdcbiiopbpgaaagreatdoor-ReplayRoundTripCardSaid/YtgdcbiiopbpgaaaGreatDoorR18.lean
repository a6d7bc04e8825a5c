import Derived.Test.YtgdcbiiopbpgaaaGreatDoorR14
import Derived.Test.YtgdcbiiopbpgaaaGreatDoorR16
import Derived.Test.YtgdcbiiopbpgaaaGreatDoorR17
set_option maxHeartbeats 4000000
set_option maxRecDepth 100000
set_option linter.unusedSimpArgs false
set_option linter.unusedVariables false
namespace Go.Proofs.YtgdcbiiopbpgaaaGreatDoor
open IntKind
open Go.RowKit Go.Shelf
def PU(P:Program)(g:FuncId)(lb:Array Value)(own:HL)(F:HL){α:Type}(encs:α -> Array Value)(blks:α -> HL)(Pe:Nat -> α -> Prop)(Te:Nat -> HL -> Prop)(Tx:HL -> Prop):Prop :=
 ∀ (X:HL) (l:Nat) (J:Nat -> HL -> Prop) (Jx:HL -> Prop) (H0:HL),(∀i x H Y,Pe i x -> J i H -> YL P l (encs x) (H++blks x) (Y++(X++F)) (λ b H'=>(b=true /\ J (i+1) H') \/ (b=false /\ Jx H'))) -> J 0 H0 ->
  Sp P g (#[.func (.yield l) #[] #[]]++lb) (H0++own) (X++F) (λ _ H'=>∃H1 T1,H'=H1++T1 /\ ((∃n,J n H1 /\ Te n T1) \/ (Jx H1 /\ Tx T1)))
theorem IA(A:HL)(Ts:List HL)(T:HL):ap A (Ts++[T])=ap A Ts++T:=by simp[ap]
section
variable {P:Program} {N:Nat} {D:List Deferred} {F:HL} {w0:World} {L:FL} {Q:Exit -> Act -> World -> Prop}
theorem Ee{α σ τ:Type}{g:Operand}{ps:Array Tmp}{assign body:Code}{encs:α -> Array Value}{blks:α -> HL}{Pe:Nat -> α -> Prop}{gf:FuncId}{lb:Array Value}(hi:kJ L g=true)(hg:ie L g=.func (.func gf) #[] lb)(eg:∀args w,(callFunc gf args).run P w=.ok (.enter gf args) w)
  (Hx:σ -> HL) (I:Nat -> σ -> Prop) (Ix:Code -> σ -> Prop) (La:τ -> FL) (Ha:τ -> HL) (Ia:Nat -> α -> τ -> Prop) (Vf:∀x,(encs x).size=ps.size) (RK:(ps.toList.all λ p=>decide (p<N))=true)
  (x0:σ) (h0:I 0 x0) {A:HL} {Ts:List HL} (ip ir jp jr:List Nat) (hp:(ip++ir).isPerm (List.range A.length)=true) (hj:(jp++jr).isPerm (List.range Ts.length)=true) (Hr:HL) (Tr:List HL) (VT:ir.filterMap (A[·]?)=Hr) (own:HL) {Te:Nat -> HL -> Prop} {Tx:HL -> Prop} (VB:jr.filterMap (Ts[·]?)=own::Tr) (hH:ap (ip.filterMap (A[·]?)) (jp.filterMap (Ts[·]?))=Hx x0)
  (hit:PU P gf lb own (ap Hr Tr++F) encs blks Pe Te Tx)
  (iD:∀ (l i:Nat) (x:α) (s:σ) (Y:HL) (w1:World),Pe i x -> I i s -> TR (some l) P N [] (Y++(ap Hr Tr++F)) w1 (mQ ps.toList (encs x).toList L) (Hx s++blks x) assign (Exit.then (Ja N [] (Y++(ap Hr Tr++F)) w1 La Ha (Ia i x)) (λ _ _ _=>False)))
  (DO:∀ (l i:Nat) (x:α) (t:τ) (Y:HL) (w1:World),Pe i x -> Ia i x t -> TR (some l) P N [] (Y++(ap Hr Tr++F)) w1 (La t) (Ha t) body (RQ (Y++(ap Hr Tr++F)) w1 Hx (I (i+1)) Ix))
  (C_:∀ (d:Nat) (s:σ) (n:Nat) (T1:HL),I n s -> Te n T1 -> EX N (coll d::D) F w0 L (bn d::(Hx s++ap Hr (T1::Tr))) Q .normal)
  (By:∀ (d:Nat) (c:Code) (s:σ) (T1:HL),Ix c s -> Tx T1 -> TR none P N (coll d::D) F w0 L (bn d::(Hx s++ap Hr (T1::Tr))) c Q) :
  TR none P N D F w0 L (ap A Ts) (.rangeFunc g ps assign body) Q:=by
 intro a w hF hR hB
 have Z_:∀ (X:HL) (T1:HL),((X++T1)++(ap Hr Tr++F)).Perm (X++(ap Hr (T1::Tr)++F)):=λ X T1=>by
  rw[List.append_assoc]
  refine List.Perm.append_left X ?_
  rw[<- List.append_assoc]
  refine List.Perm.append_right F ?_
  show (T1++(Hr++Tr.flatten)).Perm (Hr++(T1::Tr).flatten)
  rw[List.flatten_cons,<- List.append_assoc,<- List.append_assoc]
  exact List.Perm.append_right _ List.perm_append_comm
 have VD:Rel ((Hx x0++own)++(ap Hr Tr++F)) w:=by
  have h1:=kl A Ts ip ir jp jr hp hj
  rw[VT,VB,hH] at h1
  have h2:=hR.perm (h1.append_right F)
  rw[List.append_assoc] at h2
  exact h2.perm (Z_ _ _)
 refine wpIn_rangeFunc ?_
 intro fn WL
 obtain⟨rec,BY⟩:∃rec:LoopState -> Option Code -> Loop,rec=λ st pe=>{ state:=st,pending:=pe,fn,tmps:=a.tmps,params:=ps,assign,body,defers:=w.heap.size }:=⟨_,rfl⟩
 obtain⟨W1,VA⟩:∃W1,(w.alloc (.deferred (some []))).alloc (.loop (rec .ready none))=W1:=⟨_,rfl⟩
 have XG:Below 0 w W1:=by rw[<- VA];exact(fi _).trans (fi _)
 have VC:Rel ((w.heap.size+1,Blk.obj (.loop (rec .ready none)))::bn w.heap.size::((Hx x0++own)++(ap Hr Tr++F))) W1:=by
  rw[<- VA]
  have h1:=(VD.alloc (.obj (.deferred (some [])))).alloc (.obj (.loop (rec .ready none)))
  rw[World.size_alloc] at h1
  exact h1
 refine⟨w.heap.size+1,[coll w.heap.size],W1,{ target:=.fn (.func gf) lb,args:=#[.func (.yield (w.heap.size+1)) #[] #[]] },W1,gf,#[.func (.yield (w.heap.size+1)) #[] #[]]++lb,W1,?_,?_,?_,?_,λ h=>(by cases h),?_⟩
 ·rw[<- VA,BY];exact run_enterLoop_outer _ _ _ _ _
 ·have Vp:a.eval g=.func (.func gf) #[] lb:=(hF.eval hi).trans hg
  simp only[resolve,Vp]
  simp[Deferred.ofValue]
  rfl
 ·intro f' _;trivial
 ·simp[invoke,eg]
 ·refine iI ?_
  obtain⟨l,hl⟩:∃l,w.heap.size+1=l:=⟨_,rfl⟩
  rw[hl] at VC ⊢
  obtain⟨d,hd⟩:∃d,w.heap.size=d:=⟨_,rfl⟩
  rw[hd] at VC BY ⊢
  have key:=hit [] l (λ i H'=>∃s,I i s /\ H'=(l,Blk.obj (.loop (rec .ready none)))::bn d::Hx s) (λ H'=>∃c s,Ix c s /\ H'=(l,Blk.obj (.loop (rec .done (some c))))::bn d::Hx s)
   ((l,Blk.obj (.loop (rec .ready none)))::bn d::Hx x0) ?round ⟨x0,h0,rfl⟩ W1 VC
  case round =>
   rintro i x H' Y hx ⟨s,hs,rfl⟩ W aT
   have QM:Rel ((l,Blk.obj (.loop (rec .ready none)))::(bn d::((Hx s++blks x)++(Y++(ap Hr Tr++F))))) W:=aT
   have hlW:W.heap[l]?=some (.loop (rec .ready none)):=QM.holds _ List.mem_cons_self
   have hy:=run_yield (P:=P) (args:=encs x) hlW (by rw[BY];exact Vf x)
   rw[BY] at hy
   refine⟨fn,_,assign,body,hy,roundIn_of_wpIn (F:=Wr none) (n:=0) WL ?_⟩
   have hFm:Fm N [] (mQ ps.toList (encs x).toList L) { tmps:=(ps.zip (encs x)).foldl (λ t (p,v)=>t.setIfInBounds p v) a.tmps,defers:=[] }:=by
    have h1:=Fm.zip (D:=[]) ps.toList (encs x).toList L a.tmps (λ p hp=>of_decide_eq_true (List.all_eq_true.1 RK p hp)) ⟨hF.size,rfl,hF.has⟩
    have e:(ps.zip (encs x)).foldl (λ t (p,v)=>t.setIfInBounds p v) a.tmps=(ps.toList.zip (encs x).toList).foldl (λ t (p,v)=>t.setIfInBounds p v) a.tmps:=by
     rw[<- Array.foldl_toList,Array.toList_zip]
    rw[e]
    exact h1
   have hRA:Rel ((Hx s++blks x)++(((l,Blk.obj (.loop (rec .ready none)))::bn d::Y)++(ap Hr Tr++F))) W:=by
    have:=QM
    refine this.perm ?_
    simp only[List.cons_append]
    refine List.perm_middle.trans ?_
    refine List.Perm.cons _ ?_
    exact List.perm_middle
   refine wpIn_mono (iD l i x s ((l,Blk.obj (.loop (rec .ready none)))::bn d::Y) W hx hs _ W hFm hRA (Below.refl _ _)) ?_
   intro e a1 Wa hq
   cases e with
   | normal =>
    obtain⟨t,ht,m1,m2,m3⟩:=hq
    have XD:Rel ((l,Blk.obj (.loop (rec .ready none)))::(bn d::(Ha t++(Y++(ap Hr Tr++F))))) Wa:=by
     refine m2.perm ?_
     simp only[List.cons_append]
     refine(List.Perm.trans ?_ List.perm_middle.symm)
     refine List.Perm.cons _ ?_
     exact List.perm_middle.symm
    have hla:Wa.heap[l]?=some (.loop (rec .ready none)):=XD.holds _ List.mem_cons_self
    refine⟨_,run_beginRound hla (by rw[BY]),?_⟩
    have hRc:=XD.putObj (F:=[]) (.obj (.loop { rec .ready none with state:=.busy }))
    have RS:Rel (Ha t++(((l,Blk.obj (.loop { rec .ready none with state:=.busy }))::bn d::Y)++(ap Hr Tr++F))) (Wa.putObj l (.loop { rec .ready none with state:=.busy })):=by
     refine hRc.perm ?_
     simp only[List.cons_append]
     refine List.perm_middle.trans ?_
     refine List.Perm.cons _ ?_
     exact List.perm_middle
    refine wpIn_mono (DO l i x t ((l,Blk.obj (.loop { rec .ready none with state:=.busy }))::bn d::Y) W hx ht a1 _ m1 RS (m3.trans (cw _ _))) ?_
    have fin:∀ (jump:Option Code) (s':σ) (W3:World),Rel (Hx s'++(((l,Blk.obj (.loop { rec .ready none with state:=.busy }))::bn d::Y)++(ap Hr Tr++F))) W3 -> Below 0 W W3 ->
      ∃v w',(Instr.endRound l jump).run P W3=.ok v w' /\ v=.bool jump.isNone /\ Rel (((l,Blk.obj (.loop (rec (if jump.isNone then .ready else .done) jump)))::bn d::Hx s')++(Y++([]++(ap Hr Tr++F)))) w' /\ Below 0 W w':=by
     intro jump s' W3 h3 XC
     have h4:Rel ((l,Blk.obj (.loop { rec .ready none with state:=.busy }))::(bn d::(Hx s'++(Y++(ap Hr Tr++F))))) W3:=by
      refine h3.perm ?_
      simp only[List.cons_append]
      refine(List.Perm.trans ?_ List.perm_middle.symm)
      refine List.Perm.cons _ ?_
      exact List.perm_middle.symm
     have RC:W3.heap[l]?=some (.loop { rec .ready none with state:=.busy }):=h4.holds _ List.mem_cons_self
     have f_:=run_endRound (P:=P) jump RC
     refine⟨_,_,f_,rfl,?_,XC.trans (cw _ _)⟩
     have h5:=h4.putObj (F:=[]) (.obj (.loop (rec (if jump.isNone then .ready else .done) jump)))
     rw[BY] at h5 ⊢
     exact h5
    intro e2 a2 W3 P_
    cases e2 with
    | normal =>
     obtain⟨s',QH,n2,n3⟩:=P_
     obtain⟨v,w',k1,k2,k3,k4⟩:=fin none s' W3 n2 n3
     exact⟨v,w',k1,true,_,by rw[k2];rfl,.inl ⟨rfl,s',QH,rfl⟩,k3,k4⟩
    | ret =>
     obtain⟨s',QH,n2,n3⟩:=P_
     obtain⟨v,w',k1,k2,k3,k4⟩:=fin (some .ret) s' W3 n2 n3
     exact⟨v,w',k1,false,_,by rw[k2];rfl,.inr ⟨rfl,.ret,s',QH,rfl⟩,k3,k4⟩
    | exit id =>
     obtain⟨s',QH,n2,n3⟩:=P_
     obtain⟨v,w',k1,k2,k3,k4⟩:=fin (some (.exit id)) s' W3 n2 n3
     exact⟨v,w',k1,false,_,by rw[k2];rfl,.inr ⟨rfl,.exit id,s',QH,rfl⟩,k3,k4⟩
    | goto t=>exact P_.elim
    | panic ch=>exact P_.elim
    | outgrown=>exact P_.elim
   | exit id=>exact hq.elim
   | goto t=>exact hq.elim
   | ret=>exact hq.elim
   | panic ch=>exact hq.elim
   | outgrown=>exact hq.elim
  refine key.mono ?_
  rintro e W2 ⟨v,H',rfl,hor,RT,S8⟩
  have fin:∀ (st:LoopState) (pe:Option Code) (s:σ) (T1:HL) (iS:st ≠ .busy),Rel ((((l,Blk.obj (.loop (rec st pe)))::bn d::Hx s)++T1)++([]++(ap Hr Tr++F))) W2 ->
    ∃w4,(Instr.endLoop l).run P W2=.ok pe w4 /\ Rel ((bn d::(Hx s++ap Hr (T1::Tr)))++F) w4 /\ Below 0 W1 w4:=by
   intro st pe s T1 iS h4
   have h5:Rel ((l,Blk.obj (.loop (rec st pe)))::(bn d::(Hx s++(ap Hr (T1::Tr)++F)))) W2:=h4.perm (((Z_ (Hx s) T1).symm.cons _).cons _)
   have QS:W2.heap[l]?=some (.loop (rec st pe)):=h5.holds _ List.mem_cons_self
   have f_:=run_endLoop (P:=P) QS (by rw[BY];exact iS)
   refine⟨W2.putObj l (.loop { rec st pe with state:=.exhausted }),?_,?_,S8.trans (cw _ _)⟩
   ·rw[f_,BY]
   ·have h6:=h5.putObj (F:=[]) (.obj (.loop { rec st pe with state:=.exhausted }))
    have h7:=Rel.drop (X:=[(l,Blk.obj (.loop { rec st pe with state:=.exhausted }))]) (H:=bn d::(Hx s++(ap Hr (T1::Tr)++F))) h6
    rw[<- List.append_assoc] at h7
    exact h7
  have XE:Fm N (coll d::D) L { a with defers:=[coll d]++a.defers }:=⟨hF.size,by rw[hF.defs];rfl,hF.has⟩
  rcases hor with ⟨H1,T1,rfl,⟨n,⟨s,hs,rfl⟩,hT⟩|⟨⟨c,s,hs,rfl⟩,hT⟩⟩
  ·obtain⟨w4,k1,k2,k3⟩:=fin .ready none s T1 (by simp) RT
   exact⟨none,w4,k1,C_ d s n T1 hs hT _ w4 XE k2 (hB.trans (XG.trans k3))⟩
  ·obtain⟨w4,k1,k2,k3⟩:=fin .done (some c) s T1 (by simp) RT
   exact⟨some c,w4,k1,By d c s T1 hs hT _ w4 XE k2 (hB.trans (XG.trans k3))⟩
theorem Ao{α σ τ:Type}{g:Operand}{ps:Array Tmp}{assign body:Code}{encs:α -> Array Value}{blks:α -> HL}{Pe:Nat -> α -> Prop}{gf:FuncId}{lb:Array Value}(hi:kJ L g=true)(hg:ie L g=.func (.func gf) #[] lb)(eg:∀args w,(callFunc gf args).run P w=.ok (.enter gf args) w)
  (Ax:σ -> HL) (Tx:σ -> List HL) (I:Nat -> σ -> Prop) (Ix:Code -> σ -> Prop) (La:τ -> FL) (Ha:τ -> HL) (Ia:Nat -> α -> τ -> Prop) (Vf:∀x,(encs x).size=ps.size) (RK:(ps.toList.all λ p=>decide (p<N))=true)
  (x0:σ) (h0:I 0 x0) {A:HL} {Ts:List HL} (ip ir jp jr:List Nat) (hp:(ip++ir).isPerm (List.range A.length)=true) (hj:(jp++jr).isPerm (List.range Ts.length)=true) (Hr:HL) (Tr:List HL) (VT:ir.filterMap (A[·]?)=Hr) (own:HL) {Te:Nat -> HL -> Prop} {Tx':HL -> Prop} (VB:jr.filterMap (Ts[·]?)=own::Tr) (hA:ip.filterMap (A[·]?)=Ax x0) (hT:jp.filterMap (Ts[·]?)=Tx x0)
  (hit:PU P gf lb own (ap Hr Tr++F) encs blks Pe Te Tx')
  (iD:∀ (l i:Nat) (x:α) (s:σ) (Y:HL) (w1:World),Pe i x -> I i s -> TR (some l) P N [] (Y++(ap Hr Tr++F)) w1 (mQ ps.toList (encs x).toList L) (ap (Ax s) (Tx s++[blks x])) assign (Exit.then (Ja N [] (Y++(ap Hr Tr++F)) w1 La Ha (Ia i x)) (λ _ _ _=>False)))
  (DO:∀ (l i:Nat) (x:α) (t:τ) (Y:HL) (w1:World),Pe i x -> Ia i x t -> TR (some l) P N [] (Y++(ap Hr Tr++F)) w1 (La t) (Ha t) body (RQ (Y++(ap Hr Tr++F)) w1 (λ s=>ap (Ax s) (Tx s)) (I (i+1)) Ix))
  (C_:∀ (d:Nat) (s:σ) (n:Nat) (T1:HL),I n s -> Te n T1 -> EX N (coll d::D) F w0 L (ap (bn d::(Ax s++Hr)) (Tx s++T1::Tr)) Q .normal)
  (By:∀ (d:Nat) (c:Code) (s:σ) (T1:HL),Ix c s -> Tx' T1 -> TR none P N (coll d::D) F w0 L (ap (bn d::(Ax s++Hr)) (Tx s++T1::Tr)) c Q) :
  TR none P N D F w0 L (ap A Ts) (.rangeFunc g ps assign body) Q:=by
 have Xs:∀ (d:Nat) (s:σ) (Tr:List HL),(ap (bn d::(Ax s++Hr)) (Tx s++Tr)).Perm (bn d::(ap (Ax s) (Tx s)++ap Hr Tr)):=λ d s Tr=>by
  show (bn d::((Ax s++Hr)++(Tx s++Tr).flatten)).Perm _
  refine List.Perm.cons _ ?_
  rw[List.flatten_append]
  show ((Ax s++Hr)++((Tx s).flatten++Tr.flatten)).Perm ((Ax s++(Tx s).flatten)++(Hr++Tr.flatten))
  rw[List.append_assoc,List.append_assoc]
  refine List.Perm.append_left _ ?_
  rw[<- List.append_assoc,<- List.append_assoc]
  exact List.Perm.append_right _ List.perm_append_comm
 exact Ee hi hg eg (λ s=>ap (Ax s) (Tx s)) I Ix La Ha Ia Vf RK x0 h0 ip ir jp jr hp hj Hr Tr VT own VB (by rw[hA,hT]) hit (λ l i x s Y w1 hx hi=>(IA (Ax s) (Tx s) (blks x)) ▸ iD l i x s Y w1 hx hi) DO
  (λ d s n T1 hs hT a w h1 h2 h3=>C_ d s n T1 hs hT a w h1 (h2.perm ((Xs d s _).append_right F)) h3) (λ d c s T1 hs hT a w h1 h2 h3=>By d c s T1 hs hT a w h1 (h2.perm ((Xs d s _).append_right F)) h3)
end
section
variable {P:Program} {N:Nat} {D:List Deferred} {F:HL} {w0:World} {R:HL} {s:Cfg} {Q:Exit -> Act -> World -> Prop}
theorem Eg{α σ τ:Type}{encs:α -> Array Value}{blks:α -> HL}{Pe:Nat -> α -> Prop}{gf:FuncId}{lb:Array Value}(eg:∀args w,(callFunc gf args).run P w=.ok (.enter gf args) w)
  (S:σ -> HL × List HL) (I:Nat -> σ -> Prop) (Ix:Code -> σ -> Prop) (W:τ -> Inv) (Ia:Nat -> α -> τ -> Prop) (x0:σ) (h0:I 0 x0) (ip jp:List Nat)
  (own:HL) {Te:Nat -> HL -> Prop} {Tx:HL -> Prop} (hit:PU P gf lb own (ap (dF ip s) (ez jp s).tail++F) encs blks Pe Te Tx)
  (iD:∀ (l i:Nat) (x:α) (s1:σ) (Y:HL) (w1:World),Pe i x -> I i s1 ->
   (∀ {s':Cfg} {R':HL} (t:τ) (Ud Uc:List Nat),Ia i x t -> (hm:Cv s'=some (MV N [] (Y++(ap (dF ip s) (ez jp s).tail++F)) w1 W (Ia i x)):=by kernel_rfl) -> (h:uA (W t) Ud Uc s'=nG (W t):=by kernel_rfl) -> (hp:bI Ud Uc s'=true:=by kernel_rfl) -> RN (some l) P N [] (Y++(ap (dF ip s) (ez jp s).tail++F)) w1 R' s' (λ _ _ _=>False)) ->
   RN (some l) P N [] (Y++(ap (dF ip s) (ez jp s).tail++F)) w1 (dF ip s++R) (L2 (MV N [] (Y++(ap (dF ip s) (ez jp s).tail++F)) w1 W (Ia i x)) (encs x).toList (S s1).1 ((S s1).2++[blks x]) s) (λ _ _ _=>False))
  (DO:∀ (l i:Nat) (x:α) (t:τ) (Y:HL) (w1:World),Pe i x -> Ia i x t -> RN (some l) P N [] (Y++(ap (dF ip s) (ez jp s).tail++F)) w1 (dF ip s++R) (L3 (W t) s) (RQ (Y++(ap (dF ip s) (ez jp s).tail++F)) w1 (λ s=>ap (S s).1 (S s).2) (I (i+1)) Ix))
  (C_:∀ (d:Nat) (s1:σ) (n:Nat) (T1:HL),I n s1 -> Te n T1 -> RN none P N (coll d::D) F w0 R (KC (.ex .normal) d ip jp (S s1).1 (S s1).2 T1 s) Q)
  (By:∀ (d:Nat) (c:Code) (s1:σ) (T1:HL),Ix c s1 -> Tx T1 -> RN none P N (coll d::D) F w0 R (KC (.code c) d ip jp (S s1).1 (S s1).2 T1 s) Q)
  (RK:CI N s=true:=by kernel_rfl) (hp:bI ip jp s=true:=by kernel_rfl) (hH:picks ip jp s=((S x0).1,(S x0).2):=by kernel_rfl) (ho:(ez jp s).head?=some own:=by kernel_rfl) (hG:(ii s).map (·.1)=some (.func (.func gf) #[] lb):=by kernel_rfl) (I_:∀x:α,(ii s).map (·.2)=some (encs x).size:=by intro x;kernel_rfl):RN none P N D F w0 R s Q:=by
 refine⟨λ hR=>?_⟩
 obtain⟨c,k,L,A,Ts⟩:=s
 unfold bI at hp
 unfold picks at hH
 rw[Bool.and_eq_true] at hp
 simp only[Prod.mk.injEq] at hH
 cases c with
 | ops _ _=>simp[ii] at hG
 | ex _=>simp[ii] at hG
 | drw _ _=>simp[ii] at hG
 | code c =>
 cases c with
 | rangeFunc g ps assign body =>
  have hi:kJ L g=true:=by
   cases h:kJ L g with
   | true=>rfl
   | false=>simp[ii,h] at hG
  simp only[ii,hi,Option.map_some,Option.some.injEq] at hG I_
  simp only[CI] at RK
  have UQ:∀ (Y:HL),∀y∈dF ip ⟨.code (.rangeFunc g ps assign body),k,L,A,Ts⟩++R,y∈Y++(ap (dF ip ⟨.code (.rangeFunc g ps assign body),k,L,A,Ts⟩) (ez jp ⟨.code (.rangeFunc g ps assign body),k,L,A,Ts⟩).tail++F):=by
   intro Y y hy
   rcases List.mem_append.1 hy with hy|hy
   ·exact List.mem_append_right _ (List.mem_append_left _ (List.mem_append_left _ hy))
   ·exact List.mem_append_right _ (List.mem_append_right _ (hR y hy))
  have AT:(oth jp Ts.length).filterMap (Ts[·]?)=own::((oth jp Ts.length).filterMap (Ts[·]?)).tail:=by
   have h1:((oth jp Ts.length).filterMap (Ts[·]?)).head?=some own:=ho
   generalize (oth jp Ts.length).filterMap (Ts[·]?)=l at h1 ⊢
   cases l with
   | nil=>cases h1
   | cons x l=>simp only[List.head?_cons,Option.some.injEq] at h1;rw[h1];rfl
  exact Ao (assign:=assign) (body:=body) hi hG eg (λ s=>(S s).1) (λ s=>(S s).2) I Ix (λ t=>(W t).L) (λ t=>ap (W t).A (W t).Ts) Ia (λ x=>(I_ x).symm) RK x0 h0 ip (oth ip A.length) jp (oth jp Ts.length) hp.1 hp.2 _ _ rfl own AT hH.1 hH.2 hit
   (λ l i x s1 Y w1 hx hi=>(iD l i x s1 Y w1 hx hi (λ t Ud Uc ht hm h hp=>qf t Ud Uc ht hm h hp)).h (UQ Y))
   (λ l i x t Y w1 hx ht=>(DO l i x t Y w1 hx ht).h (UQ Y))
   (λ d s1 n T1 hs hT=>(C_ d s1 n T1 hs hT).h hR) (λ d c s1 T1 hs hT=>(By d c s1 T1 hs hT).h hR)
 | _=>simp[ii] at hG
end
section
variable {α:Type} {e:Enc α} {T:TypeId} {F:HL} {A:Option Addr} {n cap:Nat} {xs:List α}
theorem RowL.drop(h:RowL e T F A n xs)(hc:n <= cap){k:Nat}(hk:k <= n):RowL e T F (jb A k e.w cap) (n-k) (xs.drop k):=by
 cases h with
 | zero =>
  obtain rfl:k=0:=by omega
  exact .zero _
 | rows q o N full fz n xs hq ho hn hx =>
  by_cases hc2:cap=k
  ·have e1:n-k=0:=by omega
   have e2:xs.drop k=[]:=List.eq_nil_of_length_eq_zero (by rw[List.length_drop];omega)
   rw[e1,e2]
   exact .zero _
  ·have e1:jb (some ⟨q,o * e.w,none⟩) k e.w cap=some ⟨q,(o+k) * e.w,none⟩:=by
    unfold jb
    rw[if_neg hc2,Option.map_some,nA rfl]
    simp[Cq,Nat.add_mul]
   rw[e1]
   refine .rows q (o+k) N full fz _ _ hq (by omega) (by rw[List.length_drop,hn]) (λ i hi=>?_)
   have h4:=hx (k+i) (by omega)
   rw[List.getD_eq_getElem?_getD (l:=xs.drop k),List.getElem?_drop,<- List.getD_eq_getElem?_getD,<- h4,Nat.add_assoc]
end
theorem Ny{x:Int}(h:0 <= x /\ x<128):u8.wrap ((BitVec.ofInt 8 x &&& BitVec.ofInt 8 127).toNat:Int)=x:=by
 obtain⟨k,rfl⟩:=Int.eq_ofNat_of_zero_le h.1
 have hk:k<128:=by omega
 have e:(BitVec.ofInt 8 (k:Int) &&& BitVec.ofInt 8 127).toNat=k:=by
  rw[BitVec.toNat_and,show (BitVec.ofInt 8 127).toNat=2 ^ 7-1 from rfl,Nat.and_two_pow_sub_one_eq_mod,BitVec.toNat_ofInt]
  omega
 rw[e,IntKind.wrap_u8]
 omega
theorem un{w:Nat}{g g':Nat -> Nat -> Value}:∀ {n:Nat},(∀i k,i<n -> k<w -> g i k=g' i k) -> bd w g n=bd w g' n
 | 0,_=>rfl
 | n+1,h=>by
  rw[bd,bd,un λ i k hi hk=>h i k (by omega) hk]
  congr 1
  exact List.map_congr_left λ k hk=>h n k (by omega) (List.mem_range.1 hk)
theorem yu{w n:Nat}{g g':Nat -> Nat -> Value}{ty:TypeId}{fz:Nat × Nat}(h:∀i k,i<n -> k<w -> g i k=g' i k):(Blk.rows w n g ty fz).den=(Blk.rows w n g' ty fz).den:=by
 simp only[Blk.den,un h]
section
variable {r:Option Nat} {P:Program} {N:Nat} {D:List Deferred} {F:HL} {w0:World} {R:HL} {s:Cfg} {Q:Exit -> Act -> World -> Prop}
theorem LO(i:Nat)(a b:Blk)(e:a.den=b.den)(hk:RN r P N D F w0 R (N0 i b s) Q)(h:N1 i s=some a.den:=by kernel_rfl):RN r P N D F w0 R s Q:=RN.dn i b hk (h.trans (congrArg some e))
end
theorem IB(x:Inp)(F:HL):Sp Tryz.prog 78 #[.agg #[vI x.dx,vI x.dy,vI x.act]] [] F (λ u H'=>u=.int .u8 (sQ x) /\ H'=[]):=by
 refine Sp.run Tryz.func78 rfl mn (A:=[]) (Ts:=[]) rfl λ w0=>?_
 refine ae 24 [.own 0,.own 0,.own 0] λ n1=>?_
 exact RN.ret [] [] [] ⟨rfl,rfl⟩
theorem IC(A:Option Addr)(n c:Nat)(xs:List Inp)(F:HL)(hl:RowL ep 119 F A n xs)(hn:n <= 1000000):Sp Tryz.prog 47 #[.slice A n c] (ap [] []) F (λ u H'=>∃q:Nat,H'=ap [(q,.rows 1 n (aO iy (lG xs)) 5 (0,0))] [] /\ u=vS q 0 n n):=by
 have Us:=hl.len
 refine Sp.run Tryz.func47 rfl mn (A:=[]) (Ts:=[]) rfl λ w0=>?_
 refine ai 22 [.mk n n] [(n:Int)=((n:Nat):Int) /\ (n:Int)=((n:Nat):Int) /\ n <= n /\ 1 * n <= 140737488355328 /\ 1=1 /\ n <= 9223372036854775807] λ n1=>cr 0 (congrArg (λ v_=>(.rows 1 n v_ 5 (0,0):Blk)) (show (ig [.int .u8 0])=(aO iy (i8 xs 0)) from (KT _)))<|RN.loop (σ:=Nat) (λ k_=>⟨[(3,vS (n1+0) 0 n n),(9,.slice A n c),(10,vI (n:Int)),(11,vI (k_:Int))],[((n1+0),.rows 1 n (aO iy (i8 xs k_)) 5 (0,0))],[],k_ <= n,n-k_⟩) 0 [0] [] (Nat.zero_le _) ?_
 rintro k_ SW QP
 refine ae 6 [] λ _=>RN.em ((k_:Int)<(n:Int)) 12 (λ h4=>?_) λ h4=>?_
 ·refine ae 8 [] λ _=>?_
  obtain⟨qx5,At,Tv,fx5,YW,RV,TE,Yh,TJ⟩:=hl.at (k:=k_) (by omega)
  refine aB 9 (congrArg (λ v_=>(.slice v_ n c:Value)) RV)<|RN.ro (λ _=>(mc TE mn))<|ai 2 [.ix k_,.rorow 0 (At+k_) 0,.rorow 0 (At+k_) 1,.rorow 0 (At+k_) 2] [((At * 3+k_ * 3)+2)=(At+k_) * 3+2 /\ (At+k_)<Tv,((At * 3+k_ * 3)+1)=(At+k_) * 3+1 /\ (At+k_)<Tv,(At * 3+k_ * 3)=(At+k_) * 3+0 /\ (At+k_)<Tv,(k_:Int)=((k_:Nat):Int) /\ k_<n] λ _=>aB 15 (congrArg (λ v_=>(.agg #[vI v_.dx,vI v_.dy,vI v_.act]:Value)) TJ)<|ae 9 (ow 0 6) λ n6=>RN.cp (IB (xs.getD k_ dI) _)<|ai 9 [.ix k_,.row 1 k_ 0,.nw] [aS ((k_:Int)+1),(0+k_ * 1)=k_ * 1+0 /\ k_<n,(k_:Int)=((k_:Nat):Int) /\ k_<n] λ _=>aB 9 (congrArg (λ v_=>(.slice v_ n c:Value)) RV.symm)<|cr 1 (congrArg (λ v_=>(.rows 1 n v_ 5 (0,0):Blk)) (show (dh (aO iy (i8 xs k_)) k_ 0 (.int .u8 (sQ (xs.getD k_ dI))))=(aO iy (i8 xs (k_+1))) from (by rw[Ps (by rw[D8 (by omega)];omega),Ea (by omega)]))) ?_
  refine QP (k_+1) [1] [] ?_
  try dsimp only
  exact⟨by omega,by omega⟩
 ·refine ae 12 [] λ _=>RN.ret [] [0] [] (v:=vS (n1+0) 0 n n) (H':=(ap [((n1+0),.rows 1 n (aO iy (i8 xs k_)) 5 (0,0))] [])) ?_
  obtain rfl:k_=n:=by omega
  exact⟨(n1+0),by rw[<- D9,Us],rfl⟩
theorem yv(A:Option Addr)(n c m:Nat)(l:List Int)(T0 F:HL)(hs:SlIs iy 5 l A c T0)(hn:n=l.length)(hm:m<128)(hb:n <= 1000000):Sp Tryz.prog 46 #[.slice A n c,vI (m:Int)] (ap [] [T0]) F (λ u H'=>∃x:Option Addr × Nat × HL,H'=ap [] [x.2.2] /\ (u=.slice x.1 (n+1) x.2.1 /\ SlIs iy 5 (l++[u8.wrap (m:Int)]) x.1 x.2.1 x.2.2)):=by
 refine Sp.run Tryz.func46 rfl mn (A:=[]) (Ts:=[T0]) rfl λ w0=>?_
 refine ae 7 [] λ _=>RN.rounds 1<|ae 7 [] λ _=>cF 6 (decide_eq_false (show ¬ (m:Int) >= 128 by omega))<|ae 12 [] λ n1=>fR Ce l [u8.wrap (m:Int)] 0 0 hn hs (by rw[List.length_singleton];omega) ?_
 rintro A2 c3 T4 ⟨R0,hz6⟩
 refine ae 3 [] λ _=>RN.ret [] [] [0] (v:=.slice A2 (n+1) c3) (H':=(ap [] [T4])) ?_
 exact⟨(A2,c3,T4),rfl,rfl,R0⟩
theorem se{W:Nat -> List Int}{ev m k:Nat}(h:k<m):(aI W ev m).getD k 0=ia (W (k * ev)):=by simp[aI,h]
theorem yw(S3:Setup)(bp ev SJ rp n rc cc:Nat)(rA cA:Option Addr)(rl:List Rw)(cl:List Ck)(xss:List (List Inp))(W:Nat -> List Int)(F:HL)(RB:(rp,.lit (Setup.l S3++[vP bp 0,vI (ev:Int),vP SJ 0,.slice rA n rc,.slice cA cl.length cc]) 86 (0,0))∈F)(hr:RowL mH 54 F rA n rl)(hw:RwsIn F rl xss)(hc:RowL yc 88 F cA cl.length cl)(hck:∀k,k<cl.length -> ∃q,cl.getD k yc.dflt=⟨some ⟨q,0,none⟩,(W (k * ev)).length,(W (k * ev)).length,ia (W (k * ev))⟩ /\ (q,.rows 1 (W (k * ev)).length (aJ (W (k * ev))) 3 (0,0))∈F)(hcl:cl.length <= 1000)(Is:ev<128)(hn:n<128)(hlen:∀i,i<n -> (xss.getD i []).length <= 1000):Sp Tryz.prog 19 #[vP rp 0] (ap [] []) F (λ u H'=>∃x:Option Addr × Nat × HL,H'=ap [] [x.2.2] /\ (u=.slice x.1 (eG ev n xss (aI W ev cl.length)).length x.2.1 /\ SlIs iy 5 (eG ev n xss (aI W ev cl.length)) x.1 x.2.1 x.2.2)):=by
 have hxn_:xss.length=n:=by rw[<- hw.len,hr.len]
 have Q6:∀i,i<xss.length -> (xss.getD i []).length <= 1000:=λ i hi=>hlen i (by omega)
 have WC:=vw (ev:=ev) (n:=n) Q6 (n-0) (by omega)
 refine Sp.runM Tryz.func19 rfl (mc RB mn) (A:=[]) (Ts:=[]) rfl λ w0=>?_
 refine ae 11 [.ro 0] λ _=>RN.nt<|RN.ct [] [0] (yv none 0 0 ev [] ([]:HL) _ (SlIs.nil _ _) rfl (by omega) (by decide)) ?_
 rintro _ ⟨A1,c2,T3⟩ ⟨rfl,Z3⟩
 dsimp only at Z3
 refine ae 5 [.own 0] λ n5=>RN.draw [6,7] []<|ag [] [0,1,2,3,4,5] [.own 0,.ro 0]<|RD.one 6 (RDO.ct [] [] [0] (yv A1 1 c2 n ([]++[u8.wrap (ev:Int)]) T3 _ Z3 rfl (by omega) (by decide)) ?_)
 rintro _ ⟨A6,c7,T8⟩ ⟨rfl,hs9⟩
 dsimp only at hs9
 refine RD.one 7 (RDO.ev [] [.own 0] λ _=>?_)
 refine RD.fin<|ae 10 [.ro 0] λ _=>RN.ct (Hp:=[]) (Tp:=[]) [] [] (rY 0 (n:Int) rp _) ?_
 rintro _ m10 rfl
 refine ae 3 [] λ _=>cr 3 (congrArg (λ v_=>(.lit [.slice A6 v_ c7] 50 (0,0):Blk)) (show 2=(fB ev n xss 0).length from rfl))<|RN.range (σ:=Nat × Option Addr × Nat × HL) (τ:=Nat × Option Addr × Nat × HL × Rw) (encs:=λ (x_:Rw)=>#[.slice x_.A x_.n x_.c]) (xs:=(H8 rl 0 n)) (enters_of Tryz.func69 (by kernel_rfl) rfl) (λ ⟨m_,A_,c_,T_⟩=>([((n5+0),.lit [.slice A_ ((fB ev n xss m_).length) c_] 50 (0,0))],[T_])) (λ i_ ⟨m_,A_,c_,T_⟩=>m_=i_ /\ SlIs iy 5 (fB ev n xss m_) A_ c_ T_) (λ c_ ⟨m_,A_,c_,T_⟩=>False) (λ ⟨m_,A_,c_,T_,p_⟩=>⟨[(0,vP rp 0),(3,vP (n5+0) 0),(4,.slice p_.A p_.n p_.c)],[((n5+0),.lit [.slice A_ ((fB ev n xss m_).length) c_] 50 (0,0))],[T_],True,0⟩) (λ i_ x_ ⟨m_,A_,c_,T_,p_⟩=>m_=i_ /\ p_=rl.getD (0+m_) mH.dflt /\ m_<n-0 /\ SlIs iy 5 (fB ev n xss m_) A_ c_ T_) (0,A6,c7,T8) (⟨rfl,hs9⟩) [3] [0] (vv S3 bp ev SJ rp n rc cc 0 n (m10+1) (m10+2) (m10+0) rA cA rl cl _ (av 1) (av 0) (av 2) (ar RB) hr.up ⟨by omega,by omega,by omega⟩) ?_ ?_ ?_ ?_
 ·rintro l_ i_ x_ ⟨m_,A_,c_,T_⟩ Y11 w12 ZP ⟨rfl,ID⟩ mt14
  refine ae 3 [] λ _=>?_
  refine mt14 (m_,A_,c_,T_,x_) [0] [0] ?_
  try dsimp only
  exact⟨rfl,(pk ZP).2,(pk ZP).1,ID⟩
 ·rintro l_ i_ x_ ⟨m_,A_,c_,T_,p_⟩ Y15 w16 hx17 ⟨rfl,hp_,hlt_,ID⟩
  obtain⟨bk,ok,Nk,fk,ck,UE,hIk,Zi,Zf,Uk⟩:=hw.get (k:=0+m_) (by rw[hr.len];omega)
  rw[Nat.zero_add] at UE Zi Zf
  have hle_:=vw (ev:=ev) (n:=n) Q6 m_ (by omega)
  refine aB 4 (congrArg (λ v_:Rw=>Value.slice v_.A v_.n v_.c) (hp_.trans ((congrArg (λ z_=>rl.getD z_ mH.dflt) (Nat.zero_add m_)).trans UE)))<|ae 1 [] λ _=>RN.draw [3,4] []<|ag [] [0,1] [.own 0]<|RD.one 2 (RDO.ct [] (Hp:=[]) (Tp:=[]) [] [] (IC _ (xss.getD m_ []).length ck (xss.getD m_ []) _ (.rows bk ok Nk fk (0,0) _ _ (ar (List.mem_append_right Y15 (List.mem_append_right _ hIk))) Zi rfl Zf) (by have h_:=hlen m_ (by omega);omega)) ?_)
  rintro _ q18 rfl
  refine RD.one 3 (RDO.appU (c':=((xss.getD m_ []).length)) (tx:=50) [] Ce (fB ev n xss m_) (lG (xss.getD m_ [])) 0 rfl ID (by rw[i7];have h_:=hlen m_ (by omega);omega) (Ip (q:=q18) (n:=(xss.getD m_ []).length) (N:=(xss.getD m_ []).length) (l:=lG (xss.getD m_ [])) (fz:=(0,0)) (av 0) (i7 _) (Nat.le_refl _)) ?_)
  rintro A19 c20 Zz ⟨U7,hz23⟩
  refine RD.one 4 (RDO.ev [] [.own 1] λ _=>?_)
  refine RD.fin<|ae 1 [] λ _=>cr 1 (congrArg (λ v_=>(.lit [.slice A19 v_ c20] 50 (0,0):Blk)) (show (fB ev n xss m_).length+(lG (xss.getD m_ [])).length=(fB ev n xss (m_+1)).length by rw[mh (by omega),List.length_append]))<|RN.rn (m_+1,A19,c20,Zz) [1] [0] ?_
  try dsimp only
  exact⟨rfl,by rw[mh (by omega)];exact U7⟩
 ·rintro d24 ⟨m_,A_,c_,T_⟩  ⟨rfl,ID⟩
  rw[mg] at ID
  refine cr 1 (congrArg (λ v_=>(.lit [.slice A_ (fB ev n xss v_).length c_] 50 (0,0):Blk)) (mg rl 0 n)) ?_
  have hq0_:SlIs iy 5 (gc (fB ev n xss (n-0)) (aI W ev cl.length) 0 0) A_ c_ T_:=by rw[Cf];exact ID
  refine cr 1 (congrArg (λ v_=>(.lit [.slice A_ v_ c_] 50 (0,0):Blk)) (show (fB ev n xss (n-0)).length=(gc (fB ev n xss (n-0)) (aI W ev cl.length) 0 0).length by rw[Cf]))<|ae 14 [.ro 0] λ _=>RN.loop (σ:=Nat × Option Addr × Nat × HL) (λ ⟨k_,UI,UF,Zy⟩=>⟨[(3,vP (n5+0) 0),(35,.slice cA cl.length cc),(36,vI (cl.length:Int)),(37,vI (k_:Int))],[(d24,.obj (.deferred (some []))),((n5+0),.lit [.slice UI ((gc (fB ev n xss (n-0)) (aI W ev cl.length) k_ 0).length) UF] 50 (0,0))],[Zy],k_ <= cl.length /\ SlIs iy 5 (gc (fB ev n xss (n-0)) (aI W ev cl.length) k_ 0) UI UF Zy,cl.length-k_⟩) (0,A_,c_,T_) [0,1] [0] (⟨Nat.zero_le _,hq0_⟩) ?_
  rintro⟨k_,UI,UF,Zy⟩ ⟨SW,Ut⟩ Wo
  refine ae 6 [] λ _=>RN.em ((k_:Int)<(cl.length:Int)) 38 (λ h27=>?_) λ h27=>?_
  ·refine ae 7 [] λ _=>?_
   obtain⟨qx28,Sl,Nx28,fx28,fzx28,XH,Z7,hox28,hgx28⟩:=hc.at (k:=k_) (by omega)
   refine aB 35 (congrArg (λ v_=>(.slice v_ cl.length cc:Value)) XH)<|RN.ro (λ _=>(mc RB (mc Z7 mn)))<|ai 2 [.ix k_,.rorow 1 (Sl+k_) 0,.rorow 1 (Sl+k_) 1] [((Sl * 2+k_ * 2)+1)=(Sl+k_) * 2+1 /\ (Sl+k_)<Nx28,(Sl * 2+k_ * 2)=(Sl+k_) * 2+0 /\ (Sl+k_)<Nx28,(k_:Int)=((k_:Nat):Int) /\ k_<cl.length] λ _=>aB 40 (congrArg (λ v_=>(.agg #[.slice v_.A v_.n v_.c,.int .u64 v_.r]:Value)) hgx28) ?_
   obtain⟨qk,W8,WB⟩:=hck k_ (by omega)
   refine aB 40 (congrArg (λ v_:Ck=>(.agg #[.slice v_.A v_.n v_.c,.int .u64 v_.r]:Value)) W8)<|aB 40 (congrArg (λ v_=>(.agg #[vS qk 0 (W (k_ * ev)).length (W (k_ * ev)).length,.int .u64 v_]:Value)) (se (W:=W) (ev:=ev) (m:=cl.length) (k:=k_) (by omega)).symm)<|ae 10 [.own 0,.own 0] λ n29=>RN.loop (σ:=Nat × Option Addr × Nat × HL) (λ ⟨j_,A3_,c3_,T3_⟩=>⟨[(3,vP (n5+0) 0),(6,vP (n29+0) 0),(35,vS qx28 (Sl * 2) cl.length cc),(36,vI (cl.length:Int)),(37,vI (k_:Int)),(41,vI (j_:Int))],[((n29+0),.lit [vS qk 0 ((W (k_ * ev)).length) ((W (k_ * ev)).length),.int .u64 ((aI W ev cl.length).getD k_ 0)] 88 (0,0)),(d24,.obj (.deferred (some []))),((n5+0),.lit [.slice A3_ ((gc (fB ev n xss (n-0)) (aI W ev cl.length) k_ j_).length) c3_] 50 (0,0))],[T3_],j_ <= 8 /\ SlIs iy 5 (gc (fB ev n xss (n-0)) (aI W ev cl.length) k_ j_) A3_ c3_ T3_,8-j_⟩) (0,UI,UF,Zy) [0,1,2] [0] (⟨Nat.zero_le _,Ut⟩) ?_
   rintro⟨j_,A3_,c3_,T3_⟩ ⟨UO,Z4⟩ mt31
   refine ae 6 [] λ _=>RN.em ((j_:Int)<8) 42 (λ VW=>?_) λ VW=>?_
   ·refine ae 11 [] λ _=>RN.draw [8,9] []<|aC [] [0,1,3,2,4,5,6] [.own 2,.own 0,.nw,.dv] [0 <= 8 * (j_:Int),aS (8 * (j_:Int))]<|fg 50 (congrArg (λ v_=>(.int .u8 v_:Value)) (Io (r:=(aI W ev cl.length).getD k_ 0) (k:=j_) (by omega)))<|RD.one 7 (RDO.ev [] [] λ n33=>?_)
    refine RD.one 8 (lQ [] Ce (gc (fB ev n xss (n-0)) (aI W ev cl.length) k_ j_) [u8.wrap (((aI W ev cl.length).getD k_ 0).fdiv (2 ^ (8 * j_)))] 0 0 rfl Z4 (by rw[List.length_singleton,r8 (by rw[bV];omega)];omega) ?_)
    rintro A34 c35 Y1 ⟨hs37,hz38⟩
    refine RD.one 9 (RDO.ev [] [.own 3] λ _=>?_)
    refine RD.fin<|ai 6 [.nw] [aS ((j_:Int)+1)] λ _=>cr 3 (congrArg (λ v_=>(.lit [.slice A34 v_ c35] 50 (0,0):Blk)) (show (gc (fB ev n xss (n-0)) (aI W ev cl.length) k_ j_).length+1=(gc (fB ev n xss (n-0)) (aI W ev cl.length) k_ (j_+1)).length by rw[uk,List.length_append,List.length_singleton])) ?_
    refine mt31 (j_+1,A34,c35,Y1) [1,2,3] [0] ?_
    try dsimp only
    exact⟨⟨by omega,by rw[uk];exact hs37⟩,by omega⟩
   ·refine ai 11 [.nw] [aS ((k_:Int)+1)] λ _=>aB 35 (congrArg (λ v_=>(.slice v_ cl.length cc:Value)) XH.symm)<|cr 2 (congrArg (λ v_=>(.lit [.slice A3_ v_ c3_] 50 (0,0):Blk)) (show (gc (fB ev n xss (n-0)) (aI W ev cl.length) k_ j_).length=(gc (fB ev n xss (n-0)) (aI W ev cl.length) (k_+1) 0).length by rw[show j_=8 by omega,pm (by rw[bV];omega)])) ?_
    refine Wo (k_+1,A3_,c3_,T3_) [1,2] [0] ?_
    try dsimp only
    exact⟨⟨by omega,by rw[<- pm (by rw[bV];omega),show 8=j_ by omega];exact Z4⟩,by omega⟩
  ·refine ae 12 [.own 1] λ _=>RN.retM [d24] [0] [] [] [0] (v:=.slice UI ((gc (fB ev n xss (n-0)) (aI W ev cl.length) k_ 0).length) UF) (H':=(ap [] [Zy])) ?_
   obtain rfl:k_=cl.length:=by omega
   have RF:(gc (fB ev n xss (n-0)) (aI W ev cl.length) cl.length 0)=(eG ev n xss (aI W ev cl.length)):=yn (by omega) (by rw[bV])
   rw[RF] at Ut
   exact⟨(UI,UF,Zy),rfl,by rw[<- RF],Ut⟩
 ·exact λ _ _ _ h=>h.elim
theorem Eh(l:List Int)(A:Option Addr)(n c q:Nat)(lp:Nat)(X F:HL)(J:Nat -> HL -> Prop)(Jx:HL -> Prop)(T0:HL)(hb:n <= 1000000)(hl:RowL iy 5 F A n l)(hq:(q,.lit [.slice A n c] 50 (0,0))∈F)(hY:∀i x H Y,(bu l)[i]?=some x -> J i H -> YL Tryz.prog lp (Js x) H (Y++(X++F)) (λ b H'=>(b=true /\ J (i+1) H') \/ (b=false /\ Jx H')))(Si:J 0 T0):Sp Tryz.prog 77 #[.func (.yield lp) #[] #[],vP q 0] (ap [] [T0]) (X++F) (λ _ H'=>J (bu l).length H' \/ Jx H'):=by
 have Vk:=hl.len
 refine Sp.run Tryz.func77 rfl (mc (List.mem_append_right _ hq) mn) (A:=[]) (Ts:=[T0]) rfl λ w0=>?_
 refine ae 6 [] λ _=>RN.loop (σ:=Nat × HL) (λ ⟨i,T_⟩=>⟨[(0,.func (.yield lp) #[] #[]),(1,vP q 0),(3,vI (8 * (i:Int)))],[],[T_],i <= k9 l /\ J i T_,k9 l-i⟩) (0,T0) [] [0] (⟨Nat.zero_le _,Si⟩) ?_
 rintro⟨i,T_⟩ ⟨WK,QQ⟩ Rb
 refine ae 9 [.ro 0] λ _=>RN.em (8 * (i:Int)<(n:Int)) 9 (λ h3=>?_) λ h3=>?_
 ·refine ae 17 [] λ _=>RN.loop (σ:=Nat) (λ k=>⟨[(0,.func (.yield lp) #[] #[]),(1,vP q 0),(3,vI (8 * (i:Int))),(4,.int .u64 (eK l i k)),(5,vI (k:Int))],[],[T_],k <= 8 /\ 8 * i+k <= n,8-k⟩) 0 [] [0] (⟨by omega,by omega⟩) ?_
  rintro k ⟨SW,hk2_⟩ SC
  refine ae 6 [] λ _=>RN.em ((k:Int)<8) 14 (λ h6=>?_) λ h6=>?_
  ·refine ai 9 [.nw,.ro 0] [aS ((8 * (i:Int))+(k:Int))] λ _=>RN.em ((8 * (i:Int))+(k:Int)<(n:Int)) 21 (λ h7=>?_) λ h7=>?_
   ·refine ai 11 [.ro 0,.nw] [aS ((8 * (i:Int))+(k:Int))] λ _=>?_
    obtain⟨qx8,ox8,Nx8,fx8,fzx8,hAx8,hqx8,hox8,hgx8⟩:=(hl.up (X:=X)).at (k:=(8 * i+k)) (by omega)
    refine aB 25 (congrArg (λ v_=>(.slice v_ n c:Value)) hAx8)<|RN.ro (λ _=>(mc (List.mem_append_right _ hq) (mc hqx8 mn)))<|ai 2 [.ix (8 * i+k),.rorow 1 (ox8+(8 * i+k)) 0] [(ox8 * 1+(8 * i+k) * 1)=(ox8+(8 * i+k)) * 1+0 /\ (ox8+(8 * i+k))<Nx8,(8 * (i:Int))+(k:Int)=(((8 * i+k):Nat):Int) /\ (8 * i+k)<n] λ _=>aB 30 (congrArg (λ v_=>(.int .u8 v_:Value)) hgx8)<|ai 14 [.nw,.dv,.gen,.nw] [aS ((k:Int)+1),0 <= 8 * (k:Int),aS (8 * (k:Int))] λ _=>?_
    refine SC (k+1) [] [0] ?_
    try dsimp only
    exact⟨⟨by omega,by omega⟩,by omega⟩
   ·obtain rfl:k=LN l i:=by unfold LN;omega
    refine ae 10 [] λ _=>RN.yield 0 (hY i (eK l i (LN l i)) _ _ (pQ (by omega)) QQ) ?_
    rintro b_ T9 (⟨rfl,YR⟩|⟨rfl,YR⟩)
    ·refine ai 12 [.gen,.nw] [aS ((8 * (i:Int))+8)] λ _=>aB 3 (congrArg (λ v_=>(vI v_:Value)) (show (8 * (i:Int)+8)=8 * ((i+1:Nat):Int) by omega)) ?_
     refine Rb (i+1,T9) [] [0] ?_
     try dsimp only
     exact⟨⟨by unfold k9 at *;omega,YR⟩,by unfold k9 at *;omega⟩
    ·refine ae 4 [] λ _=>RN.ret [] [] [0] (v:=.tuple #[]) (H':=(ap [] [T9])) ?_
     rw[bB]
     exact .inr YR
  ·obtain rfl:k=LN l i:=by unfold LN;omega
   refine ae 19 [] λ _=>RN.yield 0 (hY i (eK l i (LN l i)) _ _ (pQ (by omega)) QQ) ?_
   rintro b_ No (⟨rfl,S7⟩|⟨rfl,S7⟩)
   ·refine ai 12 [.gen,.nw] [aS ((8 * (i:Int))+8)] λ _=>aB 3 (congrArg (λ v_=>(vI v_:Value)) (show (8 * (i:Int)+8)=8 * ((i+1:Nat):Int) by omega)) ?_
    refine Rb (i+1,No) [] [0] ?_
    try dsimp only
    exact⟨⟨by unfold k9 at *;omega,S7⟩,by unfold k9 at *;omega⟩
   ·refine ae 4 [] λ _=>RN.ret [] [] [0] (v:=.tuple #[]) (H':=(ap [] [No])) ?_
    rw[bB]
    exact .inr S7
 ·obtain rfl:i=k9 l:=by unfold k9 at *;omega
  refine ae 5 [] λ _=>RN.ret [] [] [0] (v:=.tuple #[]) (H':=(ap [] [T_])) ?_
  rw[bB]
  exact .inl (by rw[lH];exact QQ)
theorem yx(l:List Int)(A:Option Addr)(n c q:Nat)(F:HL)(hb:n <= 1000000)(hl:RowL iy 5 F A n l)(hq:(q,.lit [.slice A n c] 50 (0,0))∈F):It Tryz.prog 77 #[vP q 0] F Js (bu l):=by
 intro X lp J Jx H0 hY h0
 have key:=Eh l A n c q lp X F J Jx H0 hb hl hq hY h0
 rw[bB] at key
 exact key
theorem uo(A:Option Addr)(n c:Nat)(F:HL):Sp Tryz.prog 45 #[.slice A n c] (ap [] []) F (λ u H'=>∃m:Nat,H'=ap [((m+0),.lit [.slice A n c] 50 (0,0))] [] /\ u=.func (.func 77) #[] #[vP (m+0) 0]):=by
 refine Sp.run Tryz.func45 rfl mn (A:=[]) (Ts:=[]) rfl λ w0=>?_
 refine ae 12 [] λ n1=>RN.ret [] [0] [] (v:=.func (.func 77) #[] #[vP (n1+0) 0]) (H':=(ap [((n1+0),.lit [.slice A n c] 50 (0,0))] [])) ?_
 exact⟨_,rfl,rfl⟩
theorem Ap(b:ByteArray)(l:List Int)(A:Option Addr)(n c:Nat)(F:HL)(Vy:b.size <= 1000000)(hb:n <= 1000000)(hl:RowL iy 5 F A n l):Sp Tryz.prog 18 #[.string b,.slice A n c] [] F (λ u H'=>u=.int .u64 (sa b l) /\ H'=[]):=by
 have Vk:=hl.len
 refine Sp.runM Tryz.func18 rfl mn (A:=[]) (Ts:=[]) rfl λ w0=>?_
 refine ai 22 [.nw,.nw] [0 <= (n:Int) /\ (0:Int)<8 /\ (n:Int) <= 9223372036854775807,0 <= (n:Int) /\ (0:Int)<8 /\ (n:Int) <= 9223372036854775807] λ _=>RN.en ((n:Int) % 8=0) 14 (λ h1=>?_) λ h1=>?_
 ·refine ai 8 [.nw] [aS (((n:Int) / 8)+1)] λ _=>aB 19 (congrArg (λ v_=>(vI v_:Value)) (show ((n:Int) / 8)+1=((k9 l:Nat):Int)+1 by unfold k9;omega))<|RN.cp (iV b (((k9 l:Nat):Int)+1) _ Vy)<|ae 8 [.own 0] λ n2=>RN.ct (Hp:=[]) (Tp:=[]) [] [] (uo A n c _) ?_
  rintro _ m3 rfl
  refine ae 3 [] λ _=>RN.range (σ:=Nat) (τ:=Nat × Int) (encs:=λ (x_:Int)=>#[.int .u64 x_]) (xs:=(bu l)) (enters_of Tryz.func77 (by kernel_rfl) rfl) (λ m_=>([((n2+0),.lit [.int .u64 (fM (cM b (((k9 l:Nat):Int)+1)) (bu l) m_)] 45 (0,0))],[])) (λ i_ m_=>m_=i_) (λ c_ m_=>False) (λ ⟨m_,y_⟩=>⟨[(1,.slice A n c),(6,vP (n2+0) 0),(7,.int .u64 y_)],[((n2+0),.lit [.int .u64 (fM (cM b (((k9 l:Nat):Int)+1)) (bu l) m_)] 45 (0,0))],[],True,0⟩) (λ i_ x_ ⟨m_,y_⟩=>m_=i_ /\ y_=x_) 0 rfl [1] [] (yx l A n c (m3+0) _ hb (hl.mono λ x hx=>ar hx) (av 0)) ?_ ?_ ?_ ?_
  ·rintro l_ i_ x_ m_ Y4 w5 hx6 rfl V5
   refine ae 3 [] λ _=>?_
   refine V5 (m_,x_) [0] [] ?_
   try dsimp only
   exact⟨rfl,rfl⟩
  ·rintro l_ i_ x_ ⟨m_,y_⟩ Y8 w9 hx10 ⟨rfl,W7⟩
   refine ae 4 [.own 0] λ _=>RN.cp (eM (fM (cM b (((k9 l:Nat):Int)+1)) (bu l) m_) y_ _)<|ae 3 [.own 0] λ _=>?_
   have e_:fM (cM b (((k9 l:Nat):Int)+1)) (bu l) (m_+1)=iU (fM (cM b (((k9 l:Nat):Int)+1)) (bu l) m_) y_:=by rw[fM,W7,qL hx10]
   refine cr 0 (congrArg (λ v_=>(.lit [.int .u64 v_] 45 (0,0):Blk)) e_.symm)<|RN.rn (m_+1) [0] [] ?_
   try dsimp only
   first|done|rfl
  ·rintro d11 m_  rfl
   refine ae 8 [.own 1] λ _=>RN.cp (eM (fM (cM b (((k9 l:Nat):Int)+1)) (bu l) (bu l).length) (u64.wrap (n:Int)) _)<|RN.cp (eM (iU (fM (cM b (((k9 l:Nat):Int)+1)) (bu l) (bu l).length) (u64.wrap (n:Int))) 0 _)<|ae 3 [] λ _=>RN.retM [d11] [0] [] [] [] (v:=.int .u64 (iU (iU (fM (cM b (((k9 l:Nat):Int)+1)) (bu l) (bu l).length) (u64.wrap (n:Int))) 0)) (H':=[]) ?_
   exact⟨by rw[lH,<- Vk];rfl,rfl⟩
  ·exact λ _ _ _ h=>h.elim
 ·refine ai 12 [.nw,.nw] [aS ((((n:Int) / 8)+1)+1),aS (((n:Int) / 8)+1)] λ _=>aB 19 (congrArg (λ v_=>(vI v_:Value)) (show (((n:Int) / 8)+1)+1=((k9 l:Nat):Int)+1 by unfold k9;omega))<|RN.cp (iV b (((k9 l:Nat):Int)+1) _ Vy)<|ae 8 [.own 0] λ Xf=>RN.ct (Hp:=[]) (Tp:=[]) [] [] (uo A n c _) ?_
  rintro _ m13 rfl
  refine ae 3 [] λ _=>RN.range (σ:=Nat) (τ:=Nat × Int) (encs:=λ (x_:Int)=>#[.int .u64 x_]) (xs:=(bu l)) (enters_of Tryz.func77 (by kernel_rfl) rfl) (λ m_=>([((Xf+0),.lit [.int .u64 (fM (cM b (((k9 l:Nat):Int)+1)) (bu l) m_)] 45 (0,0))],[])) (λ i_ m_=>m_=i_) (λ c_ m_=>False) (λ ⟨m_,y_⟩=>⟨[(1,.slice A n c),(6,vP (Xf+0) 0),(7,.int .u64 y_)],[((Xf+0),.lit [.int .u64 (fM (cM b (((k9 l:Nat):Int)+1)) (bu l) m_)] 45 (0,0))],[],True,0⟩) (λ i_ x_ ⟨m_,y_⟩=>m_=i_ /\ y_=x_) 0 rfl [1] [] (yx l A n c (m13+0) _ hb (hl.mono λ x hx=>ar hx) (av 0)) ?_ ?_ ?_ ?_
  ·rintro l_ i_ x_ m_ Y14 w15 hx16 rfl mt17
   refine ae 3 [] λ _=>?_
   refine mt17 (m_,x_) [0] [] ?_
   try dsimp only
   exact⟨rfl,rfl⟩
  ·rintro l_ i_ x_ ⟨m_,y_⟩ Y18 w19 hx20 ⟨rfl,W7⟩
   refine ae 4 [.own 0] λ _=>RN.cp (eM (fM (cM b (((k9 l:Nat):Int)+1)) (bu l) m_) y_ _)<|ae 3 [.own 0] λ _=>?_
   have e_:fM (cM b (((k9 l:Nat):Int)+1)) (bu l) (m_+1)=iU (fM (cM b (((k9 l:Nat):Int)+1)) (bu l) m_) y_:=by rw[fM,W7,qL hx20]
   refine cr 0 (congrArg (λ v_=>(.lit [.int .u64 v_] 45 (0,0):Blk)) e_.symm)<|RN.rn (m_+1) [0] [] ?_
   try dsimp only
   first|done|rfl
  ·rintro d21 m_  rfl
   refine ae 8 [.own 1] λ _=>RN.cp (eM (fM (cM b (((k9 l:Nat):Int)+1)) (bu l) (bu l).length) (u64.wrap (n:Int)) _)<|RN.cp (eM (iU (fM (cM b (((k9 l:Nat):Int)+1)) (bu l) (bu l).length) (u64.wrap (n:Int))) 0 _)<|ae 3 [] λ _=>RN.retM [d21] [0] [] [] [] (v:=.int .u64 (iU (iU (fM (cM b (((k9 l:Nat):Int)+1)) (bu l) (bu l).length) (u64.wrap (n:Int))) 0)) (H':=[]) ?_
   exact⟨by rw[lH,<- Vk];rfl,rfl⟩
  ·exact λ _ _ _ h=>h.elim
def sB:Enc Int:=⟨1,λ p k=>match k with|0=>vI p|_=>default,0⟩
noncomputable def Pt:TypeInfo:=match Tryz.prog.info? 3 with|some i=>i|none=>⟨.bool,"",0,0,false,0,0,none,false,#[]⟩
noncomputable def Pu:Value:=match Pt.zero with|some z=>z|none=>.bool false
theorem Ch:EncOk sB Tryz.prog 3 Pt Pu where
 info:=by kernel_rfl
 zero:=by kernel_rfl
 size:=by kernel_rfl
 zsize:=by kernel_rfl
 zcell:=λ k hk=>by
  have h:∀k<1,Pu.cells[k]?=some (sB.cell sB.dflt k):=by intro k hk;(iterate 1 (rcases k with _|k;· kernel_rfl));omega
  exact h k hk
 one:=λ x k=>by unfold sB;dsimp only;split <;> rfl
 bytes:=Nat.le_of_ble_eq_true (by kernel_rfl)
theorem uq(b:ByteArray)(xs:List Int)(A:Option Addr)(n c:Nat)(F:HL)(Vy:b.size <= 1000000)(hb:n <= 1000000)(hl:RowL sB 3 F A n xs):Sp Tryz.prog 16 #[.string b,.slice A n c] [] F (λ u H'=>u=.int .u64 (kY b xs) /\ H'=[]):=by
 have Vk:=hl.len
 refine Sp.run Tryz.func16 rfl mn (A:=[]) (Ts:=[]) rfl λ w0=>?_
 refine ae 10 [] λ _=>RN.cp (iV b (n:Int) _ Vy)<|ae 12 [] λ _=>RN.loop (σ:=Nat) (λ k=>⟨[(5,.int .u64 (uH (cM b (n:Int)) xs k)),(12,.slice A n c),(13,vI (n:Int)),(14,vI (k:Int))],[],[],k <= n,n-k⟩) 0 [] [] (Nat.zero_le _) ?_
 rintro k SW Rb
 refine ae 6 [] λ _=>RN.em ((k:Int)<(n:Int)) 15 (λ h3=>?_) λ h3=>?_
 ·refine ae 7 [] λ _=>?_
  obtain⟨qx4,Wm,Nx4,fx4,fzx4,W4,Yf,hox4,Yu⟩:=hl.at (k:=k) (by omega)
  refine aB 12 (congrArg (λ v_=>(.slice v_ n c:Value)) W4)<|RN.ro (λ _=>(mc Yf mn))<|ai 2 [.ix k,.rorow 0 (Wm+k) 0] [(Wm * 1+k * 1)=(Wm+k) * 1+0 /\ (Wm+k)<Nx4,(k:Int)=((k:Nat):Int) /\ k<n] λ _=>aB 17 (congrArg (λ v_=>(vI v_:Value)) Yu)<|ae 7 [] λ _=>RN.cp (eM (uH (cM b (n:Int)) xs k) (u64.wrap (xs.getD k 0)) _)<|ai 8 [.nw] [aS ((k:Int)+1)] λ _=>aB 12 (congrArg (λ v_=>(.slice v_ n c:Value)) W4.symm) ?_
  refine Rb (k+1) [] [] ?_
  try dsimp only
  exact⟨by omega,by omega⟩
 ·refine ae 9 [] λ _=>RN.cp (eM (uH (cM b (n:Int)) xs k) 0 _)<|ae 3 [] λ _=>RN.ret [] [] [] (v:=.int .u64 (iU (uH (cM b (n:Int)) xs k) 0)) (H':=[]) ?_
  obtain rfl:k=n:=by omega
  exact⟨by unfold kY;rw[Vk],rfl⟩
def yz(cs:List Value):Nat -> Nat -> Value:=λ i k=>match k with|0=>cs.getD i default|_=>default
theorem Pv:∀cs:List Value,bd 1 (yz cs) cs.length=cs:=λ cs=>by
 have h:∀n,n <= cs.length -> bd 1 (yz cs) n=cs.take n:=λ n=>by
  induction n with
  | zero=>intro _;rfl
  | succ n ih =>
   intro hn
   rw[bd,ih (by omega),List.take_add_one,List.getElem?_eq_getElem (by omega)]
   simp[yz,List.getD_eq_getElem?_getD,List.getElem?_eq_getElem (show n<cs.length by omega),List.range_one]
 rw[h _ (Nat.le_refl _),List.take_length]
def QF:Nat × Blk -> Nat × Blk
 | (b,.lit cs ty fz)=>(b,.rows 1 cs.length (yz cs) ty fz)
 | x=>x
theorem KZ(F:HL):dR (F.map QF)=dR F:=by
 unfold dR
 rw[List.map_map]
 refine List.map_congr_left λ x _=>?_
 obtain⟨b,k⟩:=x
 cases k with
 | lit cs ty fz=>simp[QF,Blk.den,Pv]
 | rows w n g ty fz=>rfl
 | obj o=>rfl
def oy(j k:Nat):List Int:=[bz j 0,bz j 1,bz j 2]++((fO j).take k).flatMap λ x=>[x.op,x.n]
theorem sf{j k:Nat}(h:k<(fO j).length):oy j (k+1)=oy j k++[((fO j).getD k dIns).op,((fO j).getD k dIns).n]:=by
 unfold oy
 rw[kg h dIns,List.flatMap_append]
 simp
theorem mi{j:Nat}:∀k,k <= (fO j).length -> (oy j k).length=3+2 * k
 | 0,_=>rfl
 | k+1,h=>by
  rw[sf (by omega),List.length_append,mi k (by omega)]
  simp
  omega
def yA(j:Nat):Int:=kY ⟨#[112,114,111,103,114,97,109]⟩ (oy j (cE j))
theorem yB(h:Nat):ig [.int .i64 0]=aO sB (List.replicate h 0):=by
 have e:=jU (e:=sB) ([]:List Int) h
 rw[List.nil_append] at e
 rw[show List.replicate h (0:Int)=List.replicate h sB.dflt from rfl,e]
 funext i k
 cases k with
 | zero=>rfl
 | succ k=>simp[ig,aO,sB]
theorem sg{h:Nat}{b:Nat}{T:TypeId}:SlIs sB T [] (some ⟨b,0,none⟩) h [(b,.rows 1 h (aO sB (List.replicate h 0)) T (0,0))]:=.inr ⟨b,0,List.replicate h 0,by simp,by rw[Nat.zero_add];rfl,by simp,Nat.zero_le _,rfl⟩
theorem SrcIn.off{P:Program}{F:HL}{q o:Nat}{xs:List Int}{cs:List Value}{ty:TypeId}{fz:Nat × Nat}(hq:(q,.lit cs ty fz)∈F)(hc:∀j,j<xs.length -> cs[o+j]?=some (vI (xs.getD j 0))):SrcIn P sB F (some ⟨q,o,Option.none⟩) xs.length xs:=by
 have hlen:(ay sB xs).length=xs.length:=by rw[bg];exact Nat.mul_one _
 have bL:∀j,j<xs.length -> (ay sB xs)[j]?=some (vI (xs.getD j 0)):=λ j hj=>by
  rw[mU (e:=sB) xs (by decide) (by rw[show sB.w=1 from rfl];omega)]
  rw[show sB.w=1 from rfl,Nat.div_one,Nat.mod_one]
  rfl
 refine⟨⟨rfl,λ h=>by cases h⟩,λ c hk X w hR=>Src.ofSlice w hk _ _ _ _ (by rw[hlen];exact(Nat.mul_one _).symm) ?_ ?_⟩
 ·intro j u hj
  have hl:j<xs.length:=by rw[<- hlen];exact(List.getElem?_eq_some_iff.1 hj).1
  rw[bL j hl] at hj
  obtain rfl:=Option.some.inj hj
  have hb:=hR.holds _ (List.mem_append_right X hq)
  simp only[Blk.den] at hb
  rw[Addr.add_lit]
  simp[World.cell?,hb,hc j hl]
 ·intro u hu
  simp only[ay,List.mem_flatMap,List.mem_map] at hu
  obtain⟨x,_,k,_,rfl⟩:=hu
  exact Ch.one x k
def Pw(F:HL)(j:Nat)(A:Option Addr):Prop:=0<cE j -> ∃b rest,A=some ⟨b,0,none⟩ /\ (b,Blk.rows 1 (pf j++rest).length (yz (pf j++rest)) 155 (0,0))∈F
theorem InsW.r{F:HL}{j:Nat}{A:Option Addr}(h:InsW F j A):Pw (F.map QF) j A:=λ h0=>by
 obtain⟨b,rest,h1,h2⟩:=h h0
 exact⟨b,rest,h1,List.mem_map.2 ⟨_,h2,rfl⟩⟩
theorem Nz{j:Nat}(hj:j<5)(rest:List Value){k:Nat}(hk:k<cE j):(.agg #[(pf j++rest).getD (k * 2) default,(pf j++rest).getD (1+k * 2) default]:Value)=.agg #[vI ((fO j).getD k dIns).op,vI ((fO j).getD k dIns).n]:=by
 have hl:=lF hj
 have e:∀m,m<2 -> (pf j++rest).getD (m+k * 2) default=ij.cell ((fO j).getD k dIns) m:=λ m hm=>by
  rw[nh hj,List.getD_eq_getElem?_getD,List.getElem?_append_left (by rw[bg,show ij.w=2 from rfl];omega),mU (e:=ij) (fO j) (by decide) (by rw[show ij.w=2 from rfl];omega),show ij.w=2 from rfl,show (m+k * 2) / 2=k by omega,show (m+k * 2) % 2=m by omega]
  rfl
 have e0:=e 0 (by decide)
 rw[Nat.zero_add] at e0
 rw[e0,e 1 (by decide)]
 rfl
theorem Ei(j:Nat)(A:Option Addr)(c:Nat)(F:HL)(hj:j<5)(hw:Pw F j A):Sp Tryz.prog 44 #[.agg #[.slice A (cE j) c,vI (bz j 0),vI (bz j 1),vI (bz j 2)]] [] F (λ u H'=>u=.int .u64 (yA j) /\ H'=[]):=by
 have hl_:=lF hj
 have hl32_:=qx hj
 refine Sp.run Tryz.func44 rfl mn (A:=[]) (Ts:=[]) rfl λ w0=>?_
 refine ai 22 [.own 0,.nw,.nw,.mk 0 ((3+(2 * (((cE j):Nat):Int))).toNat)] [0=((0:Nat):Int) /\ 3+(2 * (((cE j):Nat):Int))=(((3+(2 * (((cE j):Nat):Int))).toNat:Nat):Int) /\ 0 <= (3+(2 * (((cE j):Nat):Int))).toNat /\ 8 * ((3+(2 * (((cE j):Nat):Int))).toNat) <= 140737488355328 /\ 1=1 /\ (3+(2 * (((cE j):Nat):Int))).toNat <= 9223372036854775807,aS (3+(2 * (((cE j):Nat):Int))),aS (2 * (((cE j):Nat):Int))] λ n1=>cr 0 (congrArg (λ v_=>(.rows 1 ((3+(2 * (((cE j):Nat):Int))).toNat) v_ 3 (0,0):Blk)) (show (ig [vI 0])=(aO sB (List.replicate ((3+(2 * (((cE j):Nat):Int))).toNat) 0)) from (yB _)))<|kW 0<|RN.appU (c':=3) (tx:=22) Ch ([]:List Int) ([bz j 0,bz j 1,bz j 2]) 0 rfl (sg (h:=(3+(2 * (((cE j):Nat):Int))).toNat) (b:=(n1+1)) (T:=3)) (Nat.le_of_ble_eq_true rfl) (SrcIn.off (q:=(n1+0)) (o:=1) (ty:=109) (fz:=(0,0)) (cs:=[.slice A (cE j) c,vI (bz j 0),vI (bz j 1),vI (bz j 2)]) (av 0) (λ j_ UO=>by obtain rfl|rfl|rfl:j_=0 \/ j_=1 \/ j_=2:=by { have:j_<3:=UO;omega } <;> rfl)) ?_
 rintro A2 c3 T4 ⟨R0,hz6⟩
 refine ae 13 [.own 0] λ _=>RN.loop (σ:=Nat × Option Addr × Nat × HL) (λ ⟨k_,A_,c_,T_⟩=>⟨[(3,.slice A_ (3+2 * k_) c_),(17,.slice A (cE j) c),(18,vI (((cE j):Nat):Int)),(19,vI (k_:Int))],[((n1+0),.lit [.slice A (cE j) c,vI (bz j 0),vI (bz j 1),vI (bz j 2)] 109 (0,0))],[T_],k_ <= cE j /\ SlIs sB 3 (oy j k_) A_ c_ T_,cE j-k_⟩) (0,A2,c3,T4) [0] [0] (⟨Nat.zero_le _,R0⟩) ?_
 rintro⟨k_,A_,c_,T_⟩ ⟨SW,ID⟩ XV
 refine ae 6 [] λ _=>RN.em ((k_:Int)<(((cE j):Nat):Int)) 20 (λ h9=>?_) λ h9=>?_
 ·refine ae 7 [] λ _=>?_
  obtain⟨qi,rst,hAi,hqi⟩:=hw (by omega)
  refine aB 17 (congrArg (λ v_=>(.slice v_ (cE j) c:Value)) hAi)<|RN.ro (λ _=>(mc hqi mn)) ?_
  have hcl_:2 * cE j <= (pf j++rst).length:=by rw[List.length_append,nh hj,bg,lF hj,show ij.w=2 from rfl];omega
  refine ai 2 [.ix k_,.rorow 0 (k_ * 2) 0,.rorow 0 (1+k_ * 2) 0] [((0+k_ * 2)+1)=(1+k_ * 2) * 1+0 /\ (1+k_ * 2)<((pf j++rst).length),(0+k_ * 2)=k_ * 2 * 1+0 /\ k_ * 2<((pf j++rst).length),(k_:Int)=((k_:Nat):Int) /\ k_<(cE j)] λ _=>aB 22 (Nz hj rst (k:=k_) (by omega))<|ae 11 [.own 0,.own 0,.own 0,.own 0] λ R3=>fR Ch (oy j k_) [((fO j).getD k_ dIns).op,((fO j).getD k_ dIns).n] 0 0 (mi k_ (by omega)).symm ID (by rw[mi k_ (by omega)];show _+2 <= _;omega) ?_
  rintro Xd W9 Td ⟨SP,Wt⟩
  refine ai 8 [.nw] [aS ((k_:Int)+1)] λ _=>aB 17 (congrArg (λ v_=>(.slice v_ (cE j) c:Value)) hAi.symm) ?_
  refine XV (k_+1,Xd,W9,Td) [2] [0] ?_
  try dsimp only
  exact⟨⟨by omega,by rw[sf (by omega)];exact SP⟩,by omega⟩
 ·refine ae 9 [] λ _=>RN.cp (uq ⟨#[112,114,111,103,114,97,109]⟩ (oy j k_) A_ (3+2 * k_) c_ _ (by decide) (by omega) (ID.rowN (aq 0) (mi k_ (by omega))))<|ae 3 [] λ _=>RN.ret [] [] [] (v:=.int .u64 (kY ⟨#[112,114,111,103,114,97,109]⟩ (oy j k_))) (H':=[]) ?_
  obtain rfl:k_=cE j:=by omega
  exact⟨rfl,rfl⟩
theorem Ej(j:Nat)(A:Option Addr)(c:Nat)(F:HL)(hj:j<5)(hw:InsW F j A):Sp Tryz.prog 44 #[.agg #[.slice A (cE j) c,vI (bz j 0),vI (bz j 1),vI (bz j 2)]] [] F (λ u H'=>u=.int .u64 (yA j) /\ H'=[]):=(Ei j A c _ hj hw.r).den (KZ F)
def oz(tt:Nat -> Int)(jj:Nat -> Nat)(k:Nat):List Int:=(List.range k).flatMap λ i=>[tt i,i64.wrap (yA (jj i))]
theorem si(tt:Nat -> Int)(jj:Nat -> Nat)(k:Nat):oz tt jj (k+1)=oz tt jj k++[tt k,i64.wrap (yA (jj k))]:=by simp[oz,List.range_succ]
theorem mj(tt:Nat -> Int)(jj:Nat -> Nat):∀k,(oz tt jj k).length=2 * k
 | 0=>rfl
 | k+1=>by
  rw[si,List.length_append,mj tt jj k]
  simp
  omega
def LP(tt:Nat -> Int)(jj:Nat -> Nat)(n:Nat):Int:=kY ⟨#[98,111,111,107]⟩ (oz tt jj n)
theorem Ek(bp:Nat)(A:Option Addr)(n c:Nat)(vs:List Ver)(tt:Nat -> Int)(jj:Nat -> Nat)(F:HL)(hbp:(bp,.lit [.slice A n c] 105 (0,0))∈F)(hl:RowL fy 111 F A n vs)(hn:n <= 1000)(hv:∀k,k<n -> ∃Av cv,vs.getD k fy.dflt=kf (tt k) (jj k) Av cv /\ jj k<5 /\ InsW F (jj k) Av):Sp Tryz.prog 17 #[vP bp 0] [] F (λ u H'=>u=.int .u64 (LP tt jj n) /\ H'=[]):=by
 refine Sp.run Tryz.func17 rfl (mc hbp mn) (A:=[]) (Ts:=[]) rfl λ w0=>?_
 refine ai 29 [.ro 0,.nw,.mk 0 ((2 * (n:Int)).toNat),.ro 0] [0=((0:Nat):Int) /\ 2 * (n:Int)=(((2 * (n:Int)).toNat:Nat):Int) /\ 0 <= (2 * (n:Int)).toNat /\ 8 * ((2 * (n:Int)).toNat) <= 140737488355328 /\ 1=1 /\ (2 * (n:Int)).toNat <= 9223372036854775807,aS (2 * (n:Int))] λ n1=>cr 0 (congrArg (λ v_=>(.rows 1 ((2 * (n:Int)).toNat) v_ 3 (0,0):Blk)) (show (ig [vI 0])=(aO sB (List.replicate ((2 * (n:Int)).toNat) 0)) from (yB _)))<|kW 0<|RN.loop (σ:=Nat × Option Addr × Nat × HL) (λ ⟨k_,A_,c_,T_⟩=>⟨[(3,.slice A_ (2 * k_) c_),(16,.slice A n c),(17,vI (n:Int)),(18,vI (k_:Int))],[],[T_],k_ <= n /\ SlIs sB 3 (oz tt jj k_) A_ c_ T_,n-k_⟩) (0,some ⟨(n1+0),0,none⟩,(2 * (n:Int)).toNat,[((n1+0),.rows 1 ((2 * (n:Int)).toNat) (aO sB (List.replicate ((2 * (n:Int)).toNat) 0)) 3 (0,0))]) [] [0] (⟨Nat.zero_le _,sg⟩) ?_
 rintro⟨k_,A_,c_,T_⟩ ⟨SW,ID⟩ QP
 refine ae 6 [] λ _=>RN.em ((k_:Int)<(n:Int)) 19 (λ h4=>?_) λ h4=>?_
 ·refine ae 7 [] λ _=>?_
  obtain⟨qx5,At,Tv,fx5,YW,RV,TE,Yh,TJ⟩:=hl.at (k:=k_) (by omega)
  refine aB 16 (congrArg (λ v_=>(.slice v_ n c:Value)) RV)<|RN.ro (λ _=>(mc hbp (mc TE mn)))<|ai 2 [.ix k_,.rorow 1 (At+k_) 0,.rorow 1 (At+k_) 1,.rorow 1 (At+k_) 2,.rorow 1 (At+k_) 3,.rorow 1 (At+k_) 4] [((At * 5+k_ * 5)+4)=(At+k_) * 5+4 /\ (At+k_)<Tv,((At * 5+k_ * 5)+3)=(At+k_) * 5+3 /\ (At+k_)<Tv,((At * 5+k_ * 5)+2)=(At+k_) * 5+2 /\ (At+k_)<Tv,((At * 5+k_ * 5)+1)=(At+k_) * 5+1 /\ (At+k_)<Tv,(At * 5+k_ * 5)=(At+k_) * 5+0 /\ (At+k_)<Tv,(k_:Int)=((k_:Nat):Int) /\ k_<n] λ _=>aB 21 (congrArg (λ v_=>(.agg #[vI v_.t,.slice v_.A v_.n v_.c,vI v_.e0,vI v_.e1,vI v_.e2]:Value)) TJ) ?_
  obtain⟨Av,cv,ev_,UO,hw_⟩:=hv k_ (by omega)
  refine aB 21 (congrArg (λ v_:Ver=>(.agg #[vI v_.t,.slice v_.A v_.n v_.c,vI v_.e0,vI v_.e1,vI v_.e2]:Value)) ev_)<|ae 4 (ow 0 5) λ n6=>RN.draw [8] []<|ag [] [0,1,3,2,4] (ow 0 5)<|RD.cp [] 5 (λ X_=>(Ej (jj k_) Av cv _ UO (λ h0_=>(hw_ h0_).imp λ _ W6=>W6.imp λ _ Q1=>⟨Q1.1,oB Q1.2⟩)))<|ag [] [6] []<|RD.one 7 (RDO.ev [] [] λ n8=>?_)
  refine RD.one 8 (lQ [] Ch (oz tt jj k_) [tt k_,i64.wrap (yA (jj k_))] 0 0 (mj tt jj k_).symm ID (by rw[mj];show _+2 <= _;omega) ?_)
  rintro A9 TY No ⟨U8,X1⟩
  refine ag [] [9] []<|RD.fin<|ai 6 [.nw] [aS ((k_:Int)+1)] λ _=>aB 16 (congrArg (λ v_=>(.slice v_ n c:Value)) RV.symm) ?_
  refine QP (k_+1,A9,TY,No) [] [0] ?_
  try dsimp only
  exact⟨⟨by omega,by rw[si];exact U8⟩,by omega⟩
 ·refine ae 9 [] λ _=>RN.cp (uq ⟨#[98,111,111,107]⟩ (oz tt jj k_) A_ (2 * k_) c_ _ (by decide) (by omega) (ID.rowN (aq 0) (mj tt jj k_)))<|ae 3 [] λ _=>RN.ret [] [] [] (v:=.int .u64 (kY ⟨#[98,111,111,107]⟩ (oz tt jj k_))) (H':=[]) ?_
  obtain rfl:k_=n:=by omega
  exact⟨rfl,rfl⟩
def Aq(tk:Int)(j1 j2:Nat):Int:=LP (λ k=>if k=0 then 0 else tk) (λ k=>if k=0 then j1 else j2) 2
theorem NA{tk:Int}{j1 j2 bp:Nat}{TB F:HL}(hB:Book2 tk j1 j2 bp TB)(hT:∀x∈TB,x∈F)(Rx:j1<5)(Q0:j2<5):Sp Tryz.prog 17 #[vP bp 0] [] F (λ u H'=>u=.int .u64 (Aq tk j1 j2) /\ H'=[]):=by
 cases hB with
 | mk A c A1 A2 c1 c2 Hl T1 T2 hs h1 h2 =>
  refine Ek bp A 2 c _ _ _ F (hT _ (by simp[ap])) (hs.rowN (λ x hx=>hT x (by simp[ap,hx])) rfl) (by decide) (λ k hk=>?_)
  obtain rfl|rfl:k=0 \/ k=1:=by omega
  ·exact⟨A1,c1,rfl,Rx,h1.wrd F λ x hx=>hT x (by simp[ap,hx])⟩
  ·exact⟨A2,c2,rfl,Q0,h2.wrd F λ x hx=>hT x (by simp[ap,hx])⟩
theorem IE{b:ByteArray}{l:List Int}{Z:Int}(e:sa b l=Z)(A:Option Addr)(n c:Nat)(F:HL)(Vy:b.size <= 1000000)(hb:n <= 1000000)(hl:RowL iy 5 F A n l):Sp Tryz.prog 18 #[.string b,.slice A n c] [] F (λ u H'=>u=.int .u64 Z /\ H'=[]):=e ▸ Ap b l A n c F Vy hb hl
theorem RwsIn.up{F X:HL}{rs:List Rw}{xss:List (List Inp)}(h:RwsIn F rs xss):RwsIn (X++F) rs xss:=h.mono λ x hx=>List.mem_append_right _ hx
theorem Ci{ev n:Nat}{xss:List (List Inp)}{roots:List Int}(hn:xss.length <= 1000)(hr:roots.length <= 1000)(hx:∀i,i<xss.length -> (xss.getD i []).length <= 10):(eG ev n xss roots).length <= 100000:=by
 have h0:=yn (ev:=ev) (n:=xss.length) (xss:=xss) (roots:=roots) rfl rfl
 have h2:(eG ev n xss roots).length=(eG ev xss.length xss roots).length:=by simp[eG]
 rw[h2,<- h0,r8 (Nat.le_refl _)]
 have h1:∀m,m <= xss.length -> (fB ev xss.length xss m).length <= 2+10 * m:=λ m=>by
  induction m with
  | zero=>intro _;simp[fB]
  | succ m ih =>
   intro hm
   rw[mh (by omega),List.length_append,i7]
   have:=ih (by omega)
   have:=hx m (by omega)
   omega
 have:=h1 xss.length (Nat.le_refl _)
 omega
theorem El(S3:Setup)(bp ev SJ rp n rc cc:Nat)(rA cA:Option Addr)(rl:List Rw)(cl:List Ck)(xss:List (List Inp))(W:Nat -> List Int)(F:HL)(RB:(rp,.lit (Setup.l S3++[vP bp 0,vI (ev:Int),vP SJ 0,.slice rA n rc,.slice cA cl.length cc]) 86 (0,0))∈F)(hr:RowL mH 54 F rA n rl)(hw:RwsIn F rl xss)(hc:RowL yc 88 F cA cl.length cl)(hck:∀k,k<cl.length -> ∃q,cl.getD k yc.dflt=⟨some ⟨q,0,none⟩,(W (k * ev)).length,(W (k * ev)).length,ia (W (k * ev))⟩ /\ (q,.rows 1 (W (k * ev)).length (aJ (W (k * ev))) 3 (0,0))∈F)(hcl:cl.length <= 1000)(Is:ev<128)(hn:n<128)(hlen:∀i,i<n -> (xss.getD i []).length <= 1000)(BH:Int)(hel_:(eG ev n xss (aI W ev cl.length)).length <= 1000000)(hBH:∀F',(∀x∈F,x∈F') -> Sp Tryz.prog 17 #[vP bp 0] [] F' (λ u H'=>u=.int .u64 BH /\ H'=[])):Sp Tryz.prog 15 #[vP rp 0] [] F (λ u H'=>u=.int .u64 (kY ⟨#[114,101,112,108,97,121]⟩ [i64.wrap BH,(ev:Int),i64.wrap (sa ⟨#[114,101,112,108,97,121]⟩ (eG ev n xss (aI W ev cl.length)))]) /\ H'=[]):=by
 obtain⟨Z,hZ⟩:∃Z,sa ⟨#[114,101,112,108,97,121]⟩ (eG ev n xss (aI W ev cl.length))=Z:=⟨_,rfl⟩
 rw[hZ]
 refine Sp.run Tryz.func15 rfl (mc RB mn) (A:=[]) (Ts:=[]) rfl λ w0=>?_
 refine ae 6 [] λ _=>RN.draw [] []<|ag [] [0,6,10,1,7,2,8,3,9] [.ro 0,.ro 0]<|RD.cp [] 4 (λ X_=>(hBH _ (λ x hx=>oB hx)))<|ag [] [5] []<|RD.one 11 (RDO.ct [] (Hp:=[]) (Tp:=[]) [] [] (yw S3 bp ev SJ rp n rc cc rA cA rl cl xss W _ (ar RB) hr.up hw.up hc.up (λ k hk=>(hck k hk).imp λ q h_=>⟨h_.1,ar h_.2⟩) hcl Is hn hlen) ?_)
 rintro _ ⟨A1,c2,T3⟩ ⟨rfl,Z3⟩
 dsimp only at Z3
 refine RD.cp [] 12 (λ X_=>(IE hZ A1 _ c2 _ (by decide) hel_ (Z3.rowN (aR 0) rfl)))<|ag [] [13] []<|RD.one 14 (RDO.ev [] [] λ n5=>?_)
 refine RD.dn 0 (.rows 1 3 (aJ [i64.wrap BH,(ev:Int),i64.wrap Z]) 3 (0,0))<|RD.cp [] 15 (λ X_=>(nN (⟨#[114,101,112,108,97,121]⟩) ([i64.wrap BH,(ev:Int),i64.wrap Z]) (n5+0) 3 _ (by decide) (Nat.le_of_ble_eq_true rfl) (Nat.le_of_ble_eq_true rfl) (jD 0)))<|ag [] [16] []<|RD.fin<|ae 1 [] λ _=>?_
 exact RN.ret [] [] [] ⟨rfl,rfl⟩
def Cj(BH:Int)(ev n:Nat)(xss:List (List Inp))(W:Nat -> List Int):Int:=kY ⟨#[114,101,112,108,97,121]⟩ [i64.wrap BH,(ev:Int),i64.wrap (sa ⟨#[114,101,112,108,97,121]⟩ (eG ev n xss (aI W ev (n / ev+1))))]
section
variable {rs_:List Bx} {ds_:List Dr} {bp ev rp n:Nat} {S S2:Setup} {W:Nat -> List Int} {xss:List (List Inp)} {G F:HL}
theorem IG(h:RecH rs_ ds_ bp ev rp S S2 W n xss G)(hF:∀x∈G,x∈F)(Is:ev<128)(hn:n<128)(hlen:∀i,i<n -> (xss.getD i []).length <= 10):Sp Tryz.prog 19 #[vP rp 0] (ap [] []) F (λ u H'=>∃x:Option Addr × Nat × HL,H'=ap [] [x.2.2] /\ (u=.slice x.1 (eG ev n xss (aI W ev (n / ev+1))).length x.2.1 /\ SlIs iy 5 (eG ev n xss (aI W ev (n / ev+1))) x.1 x.2.1 x.2.2)):=by
 cases h with
 | mk h3 hs hg hcs hb hr hrl hrr hc hcl hck =>
  have hd:n / ev <= n:=Nat.div_le_self _ _
  have h5:=hr.toRowL (F:=F) λ x hx=>hF x (by simp[ap,hx])
  rw[hrl] at h5
  have key:=yw _ bp ev _ rp n _ _ _ _ _ _ xss W F (hF _ (List.mem_append_left _ (List.mem_singleton.2 rfl))) h5 (hrr F λ x hx=>hF x (by simp[ap,hx])) (hc.toRowL λ x hx=>hF x (by simp[ap,hx])) (hck F λ x hx=>hF x (by simp[ap,hx])) (by omega) Is hn (λ i hi=>by have:=hlen i hi;omega)
  rw[hcl] at key
  exact key
theorem NB(h:RecH rs_ ds_ bp ev rp S S2 W n xss G)(hF:∀x∈G,x∈F)(Is:ev<128)(hn:n<128)(hlen:∀i,i<n -> (xss.getD i []).length <= 10)(BH:Int)(hBH:∀F',(∀x∈F,x∈F') -> Sp Tryz.prog 17 #[vP bp 0] [] F' (λ u H'=>u=.int .u64 BH /\ H'=[])):Sp Tryz.prog 15 #[vP rp 0] [] F (λ u H'=>u=.int .u64 (Cj BH ev n xss W) /\ H'=[]):=by
 cases h with
 | mk h3 hs hg hcs hb hr hrl hrr hc hcl hck =>
  have hd:n / ev <= n:=Nat.div_le_self _ _
  have h5:=hr.toRowL (F:=F) λ x hx=>hF x (by simp[ap,hx])
  rw[hrl] at h5
  have hw:=hrr F λ x hx=>hF x (by simp[ap,hx])
  have hx:=hw.len
  have key:=El _ bp ev _ rp n _ _ _ _ _ _ xss W F (hF _ (List.mem_append_left _ (List.mem_singleton.2 rfl))) h5 hw (hc.toRowL λ x hx=>hF x (by simp[ap,hx])) (hck F λ x hx=>hF x (by simp[ap,hx])) (by omega) Is hn (λ i hi=>by have:=hlen i hi;omega) BH (by rw[hcl];exact Nat.le_trans (Ci (by omega) (by rw[bV];omega) (λ i hi=>hlen i (by omega))) (by decide)) hBH
  rw[hcl] at key
  exact key
end
theorem SlIs.capL{α:Type}{e:Enc α}{T:TypeId}{l:List α}{A:Option Addr}{cap:Nat}{Hl:HL}(h:SlIs e T l A cap Hl):l.length <= cap:=by
 rcases h with ⟨_,rfl,rfl,_⟩|⟨b,o,full,_,_,h1,h2,h3⟩
 ·exact Nat.le_refl _
 ·exact h2
theorem Cm{G G':Nat -> Gm}{M:MemS}:∀k,(∀i,i<k -> G i=G' i) -> yJ G M k=yJ G' M k
 | 0,_=>rfl
 | k+1,h=>by rw[yJ,yJ,Cm k λ i hi=>h i (by omega),h k (by omega)]
theorem vz{tk:Int}{j1 j2 bp:Nat}{TB F:HL}{z:Int}(hB:Book2 tk j1 j2 bp TB)(hT:∀x∈TB,x∈F)(Rx:j1<5)(Q0:j2<5)(e:Aq tk j1 j2=z):Sp Tryz.prog 17 #[vP bp 0] [] F (λ u H'=>u=.int .u64 z /\ H'=[]):=e ▸ NA hB hT Rx Q0
theorem vA{rs_:List Bx}{ds_:List Dr}{bp ev rp n:Nat}{S S2:Setup}{W:Nat -> List Int}{xss:List (List Inp)}{G F:HL}{z:Int}(h:RecH rs_ ds_ bp ev rp S S2 W n xss G)(hF:∀x∈G,x∈F)(Is:ev<128)(hn:n<128)(hlen:∀i,i<n -> (xss.getD i []).length <= 10)(BH:Int)(hBH:∀F',(∀x∈F,x∈F') -> Sp Tryz.prog 17 #[vP bp 0] [] F' (λ u H'=>u=.int .u64 BH /\ H'=[]))(e:Cj BH ev n xss W=z):Sp Tryz.prog 15 #[vP rp 0] [] F (λ u H'=>u=.int .u64 z /\ H'=[]):=e ▸ NB h hF Is hn hlen BH hBH
theorem vB{rs_:List Bx}{ds_:List Dr}{bp ev rp n m:Nat}{S S2:Setup}{W:Nat -> List Int}{xss:List (List Inp)}{G F:HL}(h:RecH rs_ ds_ bp ev rp S S2 W n xss G)(hF:∀x∈G,x∈F)(hn:n <= 1000)(e:n / ev=m):Sp Tryz.prog 12 #[vP rp 0] (ap [] []) F (λ u H'=>∃x:Option Addr × Nat × HL,H'=ap [] [x.2.2] /\ (u=.slice x.1 (m+1) x.2.1 /\ SlIs jf 45 (aI W ev (m+1)) x.1 x.2.1 x.2.2)):=e ▸ Cd h hF hn
theorem NC{ev n:Nat}{pl:Int}{xs:List Int}{W:Nat -> List Int}(hn:n <= 100)(hr:n / ev+1 <= 1000)(hx:∀i,i<n -> ((bD pl xs n).getD i []).length <= 10):(eG ev n (bD pl xs n) (aI W ev (n / ev+1))).length <= 1000000:=Nat.le_trans (Ci (by rw[dD];omega) (by rw[bV];exact hr) (λ i hi=>hx i (by rwa [dD] at hi))) (by decide)
theorem qy(dp:Nat)(e:Int)(F:HL):Sp Tryz.prog 53 #[vP dp 0,.bool true,vI e] [] F (λ u H'=>u=.tuple #[] /\ H'=[]):=by
 refine Sp.run Tryz.func53 rfl mn (A:=[]) (Ts:=[]) rfl λ w0=>?_
 refine ae 15 [] λ _=>?_
 exact RN.ret [] [] [] ⟨rfl,rfl⟩
theorem ND(dp n c pl:Nat)(A:Option Addr)(e:Int)(F:HL):Sp Tryz.prog 53 #[vP dp 0,.bool false,vI e] [(dp,.lit [.slice A n c,vI 0,vI (pl:Int)] 127 (0,0))] F (λ u H'=>u=.tuple #[] /\ H'=[(dp,.lit [.slice A n c,vI e,vI (pl:Int)] 127 (0,0))]):=by
 refine Sp.run Tryz.func53 rfl mn (A:=[(dp,.lit [.slice A n c,vI 0,vI (pl:Int)] 127 (0,0))]) (Ts:=[]) rfl λ w0=>?_
 refine ae 21 [.own 0,.own 0] λ _=>?_
 exact RN.ret [] [0] [] ⟨rfl,rfl⟩
theorem Cn(dp n c pl:Nat)(A:Option Addr)(er e:Int)(F:HL)(Yx:¬ er=0)(We:(dp,.lit [.slice A n c,vI er,vI (pl:Int)] 127 (0,0))∈F)(b:Bool):Sp Tryz.prog 53 #[vP dp 0,.bool b,vI e] [] F (λ u H'=>u=.tuple #[] /\ H'=[]):=by
 refine Sp.run Tryz.func53 rfl (mc We mn) (A:=[]) (Ts:=[]) rfl λ w0=>?_
 refine ae 5 [] λ _=>s8 (b) 8 (λ h1=>?_) λ h1=>?_
 ·refine ae 10 [] λ _=>?_
  exact RN.ret [] [] [] ⟨rfl,rfl⟩
 ·refine ae 8 [.ro 0] λ _=>cF 14 (decide_eq_false Yx)<|ae 2 [] λ _=>?_
  exact RN.ret [] [] [] ⟨rfl,rfl⟩
theorem QG{v:Nat}(h:v<128):i64.wrap ((BitVec.ofInt 64 0 ||| BitVec.ofInt 64 (i64.wrap (i64.wrap (u8.wrap ((BitVec.ofInt 8 (v:Int) &&& BitVec.ofInt 8 127).toNat:Int)) * 1))).toNat:Int)=(v:Int):=by
 rw[Ny ⟨by omega,by omega⟩,Int.mul_one,show i64.wrap (v:Int)=(v:Int) by rw[IntKind.wrap_i64];omega,show i64.wrap (v:Int)=(v:Int) by rw[IntKind.wrap_i64];omega]
 rw[show BitVec.ofInt 64 0=0#64 from rfl,BitVec.zero_or,BitVec.toNat_ofInt,IntKind.wrap_i64]
 omega
theorem SlIs.whole{α:Type}{e:Enc α}{T:TypeId}{l:List α}{b n:Nat}(hn:l.length=n):SlIs e T l (some ⟨b,0,none⟩) n [(b,.rows e.w n (aO e l) T (0,0))]:=by
 subst hn
 exact .inr ⟨b,0,l,by simp,by rw[Nat.zero_add],by simp,Nat.le_refl _,by simp⟩
theorem sj(dp n c pl v:Nat)(A:Option Addr)(xs:List Int)(F:HL)(hl:RowL iy 5 F A n xs)(h1:1 <= n)(hc:n <= c)(hv:xs.getD 0 0=(v:Int))(hv1:v<128):Sp Tryz.prog 52 #[vP dp 0] (ap [(dp,.lit [.slice A n c,vI 0,vI (pl:Int)] 127 (0,0))] []) F (λ u H'=>∃x:Unit,H'=ap [(dp,.lit [.slice (jb A 1 1 c) (n-1) (c-1),vI 0,vI (pl:Int)] 127 (0,0))] [] /\ u=vI (v:Int)):=by
 refine Sp.run Tryz.func52 rfl mn (A:=[(dp,.lit [.slice A n c,vI 0,vI (pl:Int)] 127 (0,0))]) (Ts:=[]) rfl λ w0=>?_
 refine ae 30 [.own 0] λ _=>RN.rounds 1<|ae 29 [.own 0] λ _=>RN.em (0=(n:Int)) 20 (λ h1=>?_) λ h1=>?_
 ·(exfalso;omega)
 ·refine ae 10 [.own 0] λ _=>?_
  obtain⟨qx2,ox2,Nx2,fx2,fzx2,hAx2,hqx2,hox2,hgx2⟩:=hl.at (k:=0) (by omega)
  refine aB 27 (congrArg (λ v_=>(.slice v_ n c:Value)) hAx2)<|RN.ro (λ _=>(mc hqx2 mn))<|ai 2 [.ix 0,.rorow 0 (ox2+0) 0] [(ox2 * 1+0 * 1)=(ox2+0) * 1+0 /\ (ox2+0)<Nx2,0=((0:Nat):Int) /\ 0<n] λ _=>aB 30 (congrArg (λ v_=>(.int .u8 v_:Value)) hgx2)<|aB 30 (congrArg (λ v_=>(.int .u8 v_:Value)) hv)<|ae 13 [] λ _=>aB 38 (congrArg (λ v_=>(vI v_:Value)) (QG hv1))<|ae 9 [] λ _=>RN.em ((v:Int)<128) 40 (λ h3=>?_) λ h3=>?_
  ·refine ae 10 [] λ _=>RN.cp (qy dp 8 _)<|ae 11 [.own 0] λ _=>RN.slA (A:=A) (n:=n) (cap:=c) (l:=1) (sz:=1) rfl (by omega) hc<|ae 11 [.own 0] λ _=>RN.ret [] [0] [] (v:=vI (v:Int)) (H':=(ap [(dp,.lit [.slice (jb A 1 1 c) (n-1) (c-1),vI 0,vI (pl:Int)] 127 (0,0))] [])) ?_
   exact⟨(),rfl,rfl⟩
  ·(exfalso;omega)
theorem yC(dp n c pl m:Nat)(A:Option Addr)(F:HL)(hm:m <= n)(hc:n <= c):Sp Tryz.prog 85 #[vP dp 0,vI (m:Int)] (ap [(dp,.lit [.slice A n c,vI 0,vI (pl:Int)] 127 (0,0))] []) F (λ u H'=>∃x:Unit,H'=ap [(dp,.lit [.slice (jb A m 1 c) (n-m) (c-m),vI 0,vI (pl:Int)] 127 (0,0))] [] /\ u=.slice A m c):=by
 refine Sp.run Tryz.func85 rfl mn (A:=[(dp,.lit [.slice A n c,vI 0,vI (pl:Int)] 127 (0,0))]) (Ts:=[]) rfl λ w0=>?_
 refine ae 15 [.own 0] λ _=>aB 13 (congrArg (λ v_=>(.bool v_:Value)) (decide_eq_true (show (n:Int) >= (m:Int) by omega)))<|RN.cp (qy dp 7 _)<|ai 34 [.own 0,.own 0,.sl0 m,.own 0] [(m:Int)=((m:Nat):Int) /\ m <= c] λ _=>RN.slA (A:=A) (n:=n) (cap:=c) (l:=m) (sz:=1) rfl (by omega) hc<|ae 11 [.own 0] λ _=>RN.ret [] [0] [] (v:=.slice A m c) (H':=(ap [(dp,.lit [.slice (jb A m 1 c) (n-m) (c-m),vI 0,vI (pl:Int)] 127 (0,0))] [])) ?_
 exact⟨(),rfl,rfl⟩
theorem IH(dp n c pl:Nat)(m:Int)(A:Option Addr)(er:Int)(F:HL)(Yx:¬ er=0)(We:(dp,.lit [.slice A n c,vI er,vI (pl:Int)] 127 (0,0))∈F):Sp Tryz.prog 85 #[vP dp 0,vI m] [] F (λ u H'=>u=.slice none 0 0 /\ H'=[]):=by
 refine Sp.run Tryz.func85 rfl (mc We mn) (A:=[]) (Ts:=[]) rfl λ w0=>?_
 refine ae 15 [.ro 0] λ _=>RN.cp (Cn dp n c pl A er 7 _ Yx (ar We) (decide ((n:Int) >= m)))<|ae 12 [.ro 0] λ _=>cF 19 (nf (decide_eq_false Yx))<|ae 6 [] λ _=>?_
 exact RN.ret [] [] [] ⟨rfl,rfl⟩
theorem K3(dp n c pl:Nat)(A:Option Addr)(e:Int)(F:HL):Sp Tryz.prog 53 #[vP dp 0,.bool false,vI e] (ap [(dp,.lit [.slice A n c,vI 0,vI (pl:Int)] 127 (0,0))] []) F (λ u H'=>∃x:Unit,H'=ap [(dp,.lit [.slice A n c,vI e,vI (pl:Int)] 127 (0,0))] [] /\ u=.tuple #[]):=(show Sp _ _ _ (ap [(dp,.lit [.slice A n c,vI 0,vI (pl:Int)] 127 (0,0))] []) _ _ from ND dp n c pl A e F).mono λ u H' h=>⟨(),h.2,h.1⟩
def fY:List Inp:=(List.range 36).map λ i:Nat=>jg (i:Int)
theorem Ar{i:Nat}(h:i<36):fY.getD i dI=jg (i:Int):=by simp[fY,h]
abbrev lK(F:HL):Prop:=(0,Blk.rows 3 36 (fS fY) 232 (0,0))∈F
theorem II(v:Nat)(F:HL)(hv:v<36)(hI:lK F):Sp Tryz.prog 109 #[.int .u8 (v:Int)] [] F (λ u H'=>u=.tuple #[.agg #[vI ((jg (v:Int)).dx),vI ((jg (v:Int)).dy),vI ((jg (v:Int)).act)],vI 0] /\ H'=[]):=by
 refine Sp.run Tryz.func109 rfl (mc hI mn) (A:=[]) (Ts:=[]) rfl λ w0=>?_
 refine ae 11 [] λ n1=>aB 5 (congrArg (λ v_=>(vI v_:Value)) (show i64.wrap (v:Int)=(v:Int) by rw[IntKind.wrap_i64];omega))<|ae 3 [] λ _=>RN.em ((v:Int) >= 36) 6 (λ h2=>?_) λ h2=>?_
 ·(exfalso;omega)
 ·refine ai 12 [.ix v,.rorow 0 v 0,.rorow 0 v 1,.rorow 0 v 2,.own 0,.own 0,.own 0] [((0+v * 3)+2)=v * 3+2 /\ v<36,((0+v * 3)+1)=v * 3+1 /\ v<36,(0+v * 3)=v * 3+0 /\ v<36,(v:Int)=((v:Nat):Int) /\ v<36] λ _=>RN.ret [.own 0,.own 0,.own 0] [] [] (v:=.tuple #[.agg #[vI ((fY.getD v dI).dx),vI ((fY.getD v dI).dy),vI ((fY.getD v dI).act)],vI 0]) (H':=[]) ?_
  exact⟨by rw[Ar hv],rfl⟩
theorem K4(v:Nat)(F:HL)(hv:36 <= v)(Xn:v<256):Sp Tryz.prog 109 #[.int .u8 (v:Int)] [] F (λ u H'=>u=.tuple #[.agg #[vI 0,vI 0,vI 0],vI 8] /\ H'=[]):=by
 refine Sp.run Tryz.func109 rfl mn (A:=[]) (Ts:=[]) rfl λ w0=>?_
 refine ae 11 [] λ n1=>aB 5 (congrArg (λ v_=>(vI v_:Value)) (show i64.wrap (v:Int)=(v:Int) by rw[IntKind.wrap_i64];omega))<|ae 3 [] λ _=>RN.em ((v:Int) >= 36) 6 (λ h2=>?_) λ h2=>?_
 ·refine ae 8 [.own 0,.own 0,.own 0] λ _=>?_
  exact RN.ret [.own 0,.own 0,.own 0] [] [] ⟨rfl,rfl⟩
 ·(exfalso;omega)
theorem IJ(v lo hi:Int)(F:HL)(h1:lo <= v)(h2:v <= hi):Sp Tryz.prog 108 #[vI v,vI lo,vI hi] [] F (λ u H'=>u=.bool true /\ H'=[]):=by
 refine Sp.run Tryz.func108 rfl mn (A:=[]) (Ts:=[]) rfl λ w0=>?_
 refine ae 11 [] λ _=>cF 10 (decide_eq_true h1)<|ae 7 [] λ _=>RN.ret [] [] [] (v:=.bool (decide (v <= hi))) (H':=[]) ?_
 exact⟨by rw[decide_eq_true h2],rfl⟩
def i9(ys:List Int)(n k:Nat):List Inp:=((ys.take k).map jg)++List.replicate (n-k) dI
theorem Em{ys:List Int}{n k:Nat}(hk:k <= n)(hy:ys.length=n):(i9 ys n k).length=n:=by
 subst hy
 simp[i9]
 omega
theorem Eo{ys:List Int}{n k:Nat}(h:k<n)(hy:ys.length=n):(i9 ys n k).set k (jg (ys.getD k 0))=i9 ys n (k+1):=by
 subst hy
 apply List.ext_getElem?
 intro i
 unfold i9
 rw[List.getElem?_set]
 by_cases e:k=i
 ·subst e
  rw[if_pos rfl,if_pos (by simp;omega),List.getElem?_append,if_pos (by simp;omega),List.getElem?_map,List.getElem?_take,if_pos (by omega)]
  simp[h,List.getD_eq_getElem?_getD]
 ·rw[if_neg e,List.getElem?_append,List.getElem?_append]
  by_cases h1:i<k
  ·rw[if_pos (by simp;omega),if_pos (by simp;omega),List.getElem?_map,List.getElem?_map,List.getElem?_take,List.getElem?_take,if_pos h1,if_pos (by omega)]
  ·rw[if_neg (by simp;omega),if_neg (by simp;omega)]
   simp only[List.getElem?_replicate,List.length_map,List.length_take]
   congr 1
   simp only[eq_iff_iff]
   omega
theorem Px{l:List Inp}{n i:Nat}(hl:l.length=n)(h:i<n)(p:Inp):∀i' k',i'<n -> k'<3 -> dh (dh (dh (aO ep l) i 0 (vI p.dx)) i 1 (vI p.dy)) i 2 (vI p.act) i' k'=aO ep (l.set i p) i' k':=λ i' k' h1 h2=>by
 unfold dh aO
 by_cases h1:i'=i
 ·subst h1
  rw[dq (by omega)]
  obtain rfl|rfl|rfl:k'=0 \/ k'=1 \/ k'=2:=by omega
  ·rw[if_neg (by simp),if_neg (by simp),if_pos ⟨rfl,rfl⟩];rfl
  ·rw[if_neg (by simp),if_pos ⟨rfl,rfl⟩];rfl
  ·rw[if_pos ⟨rfl,rfl⟩];rfl
 ·rw[cS (λ e=>h1 e.symm),if_neg (λ e=>h1 e.1),if_neg (λ e=>h1 e.1),if_neg (λ e=>h1 e.1)]
theorem IK(ys:List Int)(n:Nat):∀i' k',i'<n -> k'<3 -> ig [vI 0,vI 0,vI 0] i' k'=aO ep (i9 ys n 0) i' k':=λ i' k' h1 h2=>by
 have e:(i9 ys n 0).getD i' ep.dflt=dI:=by simp[i9,List.getD_eq_getElem?_getD,h1]
 unfold aO
 rw[e]
 obtain rfl|rfl|rfl:k'=0 \/ k'=1 \/ k'=2:=by omega
 ·rfl
 ·rfl
 ·rfl
theorem IL{v lo hi:Int}(F:HL)(h1:lo <= v)(h2:v <= hi):Sp Tryz.prog 108 #[vI v,vI lo,vI hi] [] F (λ u H'=>u=.bool true /\ H'=[]):=IJ v lo hi F h1 h2
theorem IM(A:Option Addr)(n c:Nat)(ys:List Int)(F:HL)(hl:RowL iy 5 F A n ys)(h1:1 <= n /\ n <= 8)(hy8:∀i,0 <= ys.getD i 0 /\ ys.getD i 0<256)(hI:lK F):Sp Tryz.prog 86 #[.slice A n c,vI (n:Int)] [] F (λ u H'=>∃x:HL,H'=ap [] [x] /\ (((∀j,j<n -> ys.getD j 0<36) /\ ∃b,u=.tuple #[vS b 0 n n,vI 0] /\ x=[(b,.rows 3 n (aO ep (ys.map jg)) 119 (0,0))]) \/ ((∃j,j<n /\ ¬ ys.getD j 0<36) /\ u=.tuple #[.slice none 0 0,vI 8] /\ x=[]))):=by
 refine Sp.run Tryz.func86 rfl mn (A:=[]) (Ts:=[]) rfl λ w0=>?_
 refine ae 11 [] λ _=>RN.cp (IL _ (show (1:Int) <= (n:Int) by omega) (show (n:Int) <= 8 by omega))<|ae 14 [] λ _=>RN.em ((n:Int)<(n:Int)) 15 (λ h1=>?_) λ h1=>?_
 ·(exfalso;omega)
 ·refine ae 10 [] λ _=>RN.em ((n:Int)>(n:Int)) 20 (λ h2=>?_) λ h2=>?_
  ·(exfalso;omega)
  ·refine ai 20 [.mk n n] [(n:Int)=((n:Nat):Int) /\ (n:Int)=((n:Nat):Int) /\ n <= n /\ 24 * n <= 140737488355328 /\ 3=3 /\ n <= 9223372036854775807] λ n3=>LO 0 (.rows 3 n (ig [vI 0,vI 0,vI 0]) 119 (0,0)) (.rows 3 n (aO ep (i9 ys n 0)) 119 (0,0)) (yu (IK ys n))<|RN.loop (σ:=Nat) (λ k_=>⟨[(6,vS (n3+0) 0 n n),(27,.slice A n c),(28,vI (n:Int)),(29,vI (k_:Int))],[((n3+0),.rows 3 n (aO ep (i9 ys n k_)) 119 (0,0))],[],k_ <= n /\ ∀j_,j_<k_ -> ys.getD j_ 0<36,n-k_⟩) 0 [0] [] (⟨Nat.zero_le _,λ j_ UO=>absurd UO (Nat.not_lt_zero _)⟩) ?_
   rintro k_ ⟨SW,Ru⟩ SC
   refine ae 6 [] λ _=>RN.em ((k_:Int)<(n:Int)) 30 (λ h6=>?_) λ h6=>?_
   ·refine ae 8 [] λ _=>?_
    obtain⟨v_,Wu⟩:=Int.eq_ofNat_of_zero_le (hy8 k_).1
    have hv2_:v_<256:=by have:=(hy8 k_).2;omega
    obtain⟨qx7,Rl,XR,fx7,fzx7,TW,Ve,hox7,Vn⟩:=hl.at (k:=k_) (by omega)
    refine aB 27 (congrArg (λ v_=>(.slice v_ n c:Value)) TW)<|RN.ro (λ _=>(mc Ve mn))<|ai 2 [.ix k_,.rorow 0 (Rl+k_) 0] [(Rl * 1+k_ * 1)=(Rl+k_) * 1+0 /\ (Rl+k_)<XR,(k_:Int)=((k_:Nat):Int) /\ k_<n] λ _=>aB 33 (congrArg (λ v_=>(.int .u8 v_:Value)) Vn)<|aB 33 (congrArg (λ w_:Int=>Value.int .u8 w_) Wu)<|ae 7 [] λ _=>?_
    rcases Nat.lt_or_ge v_ 36 with U2|U2
    ·refine RN.cp (II v_ _ U2 (ar hI))<|ai 31 (ow 0 6++[.ix k_,.row 1 k_ 0,.row 1 k_ 1,.row 1 k_ 2,.nw]) [aS ((k_:Int)+1),((0+k_ * 3)+2)=k_ * 3+2 /\ k_<n,((0+k_ * 3)+1)=k_ * 3+1 /\ k_<n,(0+k_ * 3)=k_ * 3+0 /\ k_<n,(k_:Int)=((k_:Nat):Int) /\ k_<n] λ n8=>aB 27 (congrArg (λ v_=>(.slice v_ n c:Value)) TW.symm)<|LO 1 (.rows 3 n (dh (dh (dh (aO ep (i9 ys n k_)) k_ 0 (vI ((jg (v_:Int)).dx))) k_ 1 (vI ((jg (v_:Int)).dy))) k_ 2 (vI ((jg (v_:Int)).act))) 119 (0,0)) (.rows 3 n (aO ep (i9 ys n (k_+1))) 119 (0,0)) (yu (λ i_ j_ W6 Q1=>(Px (Em (by omega) hl.len) (by omega) (jg (v_:Int)) i_ j_ W6 Q1).trans (by rw[<- Wu,Eo (by omega) hl.len]))) ?_
     refine SC (k_+1) [1] [] ?_
     try dsimp only
     refine⟨⟨by omega,λ j_ UO=>?_⟩,by omega⟩
     by_cases ej_:j_=k_
     ·rw[ej_,Wu];omega
     ·exact Ru j_ (by omega)
    ·refine RN.cp (K4 v_ _ U2 hv2_)<|ae 23 [.own 0,.own 0,.own 0] λ n9=>RN.nt<|RN.ret [] [] [0] (v:=.tuple #[.slice none 0 0,vI 8]) (H':=(ap [] [([]:HL)])) ?_
     exact⟨_,rfl,.inr ⟨⟨k_,by omega,by rw[Wu];omega⟩,rfl,rfl⟩⟩
   ·refine ae 13 [] λ _=>kW 0<|RN.ret [] [] [0] (v:=.tuple #[vS (n3+0) 0 n n,vI 0]) (H':=(ap [] [[((n3+0),.rows 3 n (aO ep (i9 ys n k_)) 119 (0,0))]])) ?_
    obtain rfl:k_=n:=by omega
    have hall_:i9 ys k_ k_=ys.map jg:=by unfold i9;rw[List.take_of_length_le (by rw[hl.len];exact Nat.le_refl _)];simp
    exact⟨_,rfl,.inl ⟨Ru,(n3+0),rfl,by rw[hall_]⟩⟩
theorem Co{t i p:Nat}(h:i<t):(t-i) * p=(t-(i+1)) * p+p:=by
 obtain⟨d,rfl⟩:∃d,t=i+1+d:=⟨t-(i+1),by omega⟩
 rw[show i+1+d-i=d+1 by omega,show i+1+d-(i+1)=d by omega,Nat.succ_mul]
theorem NE{t i p:Nat}(h:(t-i) * p=0)(hp:1 <= p)(hi:i <= t):i=t:=by
 rcases Nat.mul_eq_zero.1 h with h|h <;> omega
def sR(pl:Nat)(D:List Int)(i:Nat):List Inp:=((D.drop (i * pl)).take pl).map jg
def eH(pl:Nat)(D:List Int)(n:Nat):List (List Inp):=(List.range n).map (sR pl D)
theorem Au(pl:Nat)(D:List Int)(n:Nat):eH pl D (n+1)=eH pl D n++[sR pl D n]:=by simp[eH,List.range_succ]
theorem lL{pl:Nat}{D:List Int}{i n:Nat}(h:D.length=n * pl)(hi:i<n):(sR pl D i).length=pl:=by
 have:(i+1) * pl <= n * pl:=Nat.mul_le_mul_right _ hi
 rw[Nat.succ_mul] at this
 simp[sR]
 omega
theorem Sp.permH{P:Program}{f:FuncId}{args:Array Value}{H H2 F:HL}{R:Value -> HL -> Prop}(h:Sp P f args H F R)(e:H.Perm H2):Sp P f args H2 F R:=λ w hR=>h w (hR.perm (e.append_right F))
abbrev RX:=Option Addr × Nat × HL
theorem IO(dp tk:Nat)(F:HL):Sp Tryz.prog 55 #[vP dp 0,vI (tk:Int)] (ap [] []) F (λ u H'=>∃m:Nat,H'=ap [((m+1),.lit [vI (tk:Int)] 3 (0,0)),((m+0),.lit [vP dp 0] 123 (0,0))] [] /\ u=.func (.func 84) #[] #[vP (m+0) 0,vP (m+1) 0]):=by
 refine Sp.run Tryz.func55 rfl mn (A:=[]) (Ts:=[]) rfl λ w0=>?_
 refine ae 13 [] λ n1=>RN.ret [] [0,1] [] (v:=.func (.func 84) #[] #[vP (n1+0) 0,vP (n1+1) 0]) (H':=(ap [((n1+1),.lit [vI (tk:Int)] 3 (0,0)),((n1+0),.lit [vP dp 0] 123 (0,0))] [])) ?_
 exact⟨_,rfl,rfl⟩
theorem Py{xs:List Int}(h:∀i,0 <= xs.getD i 0 /\ xs.getD i 0<256)(a b c k:Nat):0 <= (((xs.take a).drop b).take c).getD k 0 /\ (((xs.take a).drop b).take c).getD k 0<256:=by
 rw[List.getD_eq_getElem?_getD,List.getElem?_take]
 split
 ·rw[List.getElem?_drop,List.getElem?_take]
  split
  ·rw[<- List.getD_eq_getElem?_getD];exact h _
  ·exact⟨by decide,by decide⟩
 ·exact⟨by decide,by decide⟩
theorem Ep{pl i:Nat}{D:List Int}(h:∀j,j<i * pl -> D.getD j 0<36)(h2:∀j,j<pl -> ((D.drop (i * pl)).take pl).getD j 0<36){j:Nat}(hj:j<(i+1) * pl):D.getD j 0<36:=by
 rw[Nat.succ_mul] at hj
 rcases Nat.lt_or_ge j (i * pl) with h3|h3
 ·exact h j h3
 ·have:=h2 (j-i * pl) (by omega)
  rw[List.getD_eq_getElem?_getD,List.getElem?_take,if_pos (by omega),List.getElem?_drop,show i * pl+(j-i * pl)=j by omega,<- List.getD_eq_getElem?_getD] at this
  exact this
theorem IP{pl i tk:Nat}{D:List Int}(hi:i<tk)(h2:∃j,j<pl /\ ¬ ((D.drop (i * pl)).take pl).getD j 0<36):∃j,j<tk * pl /\ ¬ D.getD j 0<36:=by
 obtain⟨j,hj,h⟩:=h2
 have:(i+1) * pl <= tk * pl:=Nat.mul_le_mul_right _ hi
 rw[Nat.succ_mul] at this
 refine⟨i * pl+j,by omega,λ hc=>h ?_⟩
 rw[List.getD_eq_getElem?_getD,List.getElem?_take,if_pos hj,List.getElem?_drop,<- List.getD_eq_getElem?_getD]
 exact hc
theorem IQ(dp q1 q2 n c pl tk:Nat)(A:Option Addr)(xs:List Int)(F:HL)(hl:RowL iy 5 F A n xs)(hm:tk * pl <= n)(hc:n <= c)(IN:1 <= pl /\ pl <= 8)(V6:tk <= 1000)(Wv:∀i,0 <= xs.getD i 0 /\ xs.getD i 0<256)(hI:lK F)(h1:(q1,.lit [vP dp 0] 123 (0,0))∈F)(h2:(q2,.lit [vI (tk:Int)] 3 (0,0))∈F)(lp:Nat)(X:HL)(J:Nat -> HL -> Prop)(Jx:HL -> Prop)(T0:HL)(hY:∀ (i:Nat) (x:RX) H Y,(i<tk /\ SlIs ep 119 (sR pl (xs.take (tk * pl)) i) x.1 x.2.1 x.2.2) -> J i H -> YL Tryz.prog lp #[.slice x.1 pl x.2.1] (H++x.2.2) (Y++(X++F)) (λ b H'=>(b=true /\ J (i+1) H') \/ (b=false /\ Jx H')))(Si:J 0 T0):Sp Tryz.prog 84 #[.func (.yield lp) #[] #[],vP q1 0,vP q2 0] (ap [(dp,.lit [.slice A n c,vI 0,vI (pl:Int)] 127 (0,0))] [T0]) (X++F) (λ _ H'=>∃x:HL × HL,H'=ap [] [x.1,x.2] /\ ((∃k,J k x.1 /\ ((k=tk /\ (∀j,j<tk * pl -> (xs.take (tk * pl)).getD j 0<36) /\ x.2=[(dp,.lit [.slice (jb A (tk * pl) 1 c) (n-tk * pl) (c-tk * pl),vI 0,vI (pl:Int)] 127 (0,0))]) \/ (k <= tk /\ (∃j,j<tk * pl /\ ¬ (xs.take (tk * pl)).getD j 0<36) /\ x.2=[(dp,.lit [.slice (jb A (tk * pl) 1 c) (n-tk * pl) (c-tk * pl),vI 8,vI (pl:Int)] 127 (0,0))]))) \/ Jx x.1)):=by
 have Us:(xs.take (tk * pl)).length=tk * pl:=by rw[List.length_take,hl.len];omega
 have htp_:tk * pl <= 8000:=Nat.mul_le_mul V6 IN.2
 refine Sp.run Tryz.func84 rfl (mc (List.mem_append_right X h1) (mc (List.mem_append_right X h2) mn)) (A:=[(dp,.lit [.slice A n c,vI 0,vI (pl:Int)] 127 (0,0))]) (Ts:=[T0]) rfl λ w0=>?_
 refine ae 1 [] λ _=>RN.draw [9] []<|qF [] [0,3,4,1,5,2,6,7,8] [.ro 0,.ro 1,.ro 0,.own 0,.nw] [aS ((tk:Int) * (pl:Int))] (ac ⟨by have h_:=Int.natCast_mul tk pl;omega,by have h_:=Int.natCast_mul tk pl;omega⟩ an)<|fg 15 (congrArg (λ v_=>(vI v_:Value)) (Int.natCast_mul tk pl).symm)<|RD.one 9 (RDO.ct [] [0] [] (yC dp n c pl (tk * pl) A _ hm hc) ?_)
 rintro _ ⟨⟩ rfl
 refine ag [] [10] []<|RD.fin<|ae 2 [] λ _=>RN.loop (σ:=Nat × Option Addr × Nat × Nat × HL) (λ ⟨i_,A_,n_,c_,J_⟩=>⟨[(0,.func (.yield lp) #[] #[]),(1,vP q1 0),(4,.slice A_ n_ c_)],[(dp,.lit [.slice (jb A (tk * pl) 1 c) (n-tk * pl) (c-tk * pl),vI 0,vI (pl:Int)] 127 (0,0))],[J_],i_ <= tk /\ n_=(tk-i_) * pl /\ n_ <= c_ /\ RowL iy 5 F A_ n_ ((xs.take (tk * pl)).drop (i_ * pl)) /\ (∀j,j<i_ * pl -> (xs.take (tk * pl)).getD j 0<36) /\ J i_ J_,tk-i_⟩) (0,A,tk * pl,c,T0) [0] [0] (⟨Nat.zero_le _,by rw[Nat.sub_zero],by omega,by rw[Nat.zero_mul];exact hl.take hm,λ j hj=>by rw[Nat.zero_mul] at hj;exact absurd hj (Nat.not_lt_zero _),Si⟩) ?_
 rintro⟨i_,A_,n_,c_,J_⟩ ⟨WK,Yk,Ul,Rn,Ru,QQ⟩ Rb
 refine ae 8 [] λ _=>RN.em ((n_:Int)>0) 19 (λ h3=>?_) λ h3=>?_
 ·have WJ:i_<tk:=by rcases Nat.lt_or_ge i_ tk with h_|h_;exact h_;exfalso;rw[Nat.sub_eq_zero_of_le h_,Nat.zero_mul] at Yk;omega
  have Wx:=Co (p:=pl) WJ
  have hpn_:pl <= n_:=by omega
  refine ae 6 [] λ _=>RN.draw [] []<|aC [] [0,1,6,2,7,3,8,4,9,5] [.ro 0,.ro 0,.own 0,.own 0,.sl0 pl] [(pl:Int)=((pl:Nat):Int) /\ pl <= c_]<|RD.one 10 (RDO.ct [] (Hp:=[]) (Tp:=[]) [] [] (IM A_ pl c_ (((xs.take (tk * pl)).drop (i_ * pl)).take pl) _ ((Rn.take (by omega)).up.up) IN (λ k_=>Py Wv _ _ _ _) (ar (List.mem_append_right X hI))) ?_)
  rintro v_ T5 (⟨h6,b4,rfl,rfl⟩|⟨h6,rfl,rfl⟩)
  ·refine ag [] [11,12,13,14,15] []<|RD.fin<|ae 8 [.ro 0] λ _=>RN.cp (qy dp 8 _)<|ae 13 [.ro 0,.own 0] λ _=>kO [1,0]<|mv<|RN.yield 0 (hY i_ (some ⟨b4,0,none⟩,pl,[(b4,.rows 3 pl (aO ep ((((xs.take (tk * pl)).drop (i_ * pl)).take pl).map jg)) 119 (0,0))]) _ _ ⟨by omega,SlIs.whole (lL (n:=tk) Us (by omega))⟩ QQ) ?_
   rintro b_ T7 (⟨rfl,hJ8⟩|⟨rfl,hJ8⟩)
   ·refine ae 14 [.ro 0,.own 0] λ _=>RN.slA (A:=A_) (n:=n_) (cap:=c_) (l:=pl) (sz:=1) rfl (by omega) Ul<|ae 2 [] λ _=>?_
    refine Rb (i_+1,jb A_ pl 1 c_,n_-pl,c_-pl,T7) [0] [0] ?_
    try dsimp only
    have Wx:=Co (p:=pl) (show i_<tk by omega)
    refine⟨⟨by omega,by omega,by omega,?_,λ j_ UO=>?_,hJ8⟩,by omega⟩
    ·have h_:=Rn.drop Ul (k:=pl) (by omega);rw[List.drop_drop,show i_ * pl+pl=(i_+1) * pl by rw[Nat.succ_mul]] at h_;exact h_
    ·exact Ep Ru h6 UO
   ·refine ae 5 [] λ _=>kW 0<|RN.ret [] [] [1,0] (v:=.tuple #[]) (H':=(ap [] [T7,[(dp,.lit [.slice (jb A (tk * pl) 1 c) (n-tk * pl) (c-tk * pl),vI 0,vI (pl:Int)] 127 (0,0))]])) ?_
    exact⟨(T7,[(dp,.lit [.slice (jb A (tk * pl) 1 c) (n-tk * pl) (c-tk * pl),vI 0,vI (pl:Int)] 127 (0,0))]),rfl,.inr hJ8⟩
  ·refine ag [] [11,12,13,14,15] []<|RD.fin<|ae 8 [.ro 0] λ _=>RN.ct [0] [] (K3 dp (n-tk * pl) (c-tk * pl) pl (jb A (tk * pl) 1 c) 8 _) ?_
   rintro _ ⟨⟩ ⟨rfl,rfl⟩
   refine ae 19 [.ro 0,.own 0] λ _=>kW 0<|RN.ret [] [] [2,0] (v:=.tuple #[]) (H':=(ap [] [J_,[(dp,.lit [.slice (jb A (tk * pl) 1 c) (n-tk * pl) (c-tk * pl),vI 8,vI (pl:Int)] 127 (0,0))]])) ?_
   exact⟨(J_,[(dp,.lit [.slice (jb A (tk * pl) 1 c) (n-tk * pl) (c-tk * pl),vI 8,vI (pl:Int)] 127 (0,0))]),rfl,.inl ⟨i_,QQ,.inr ⟨by omega,IP (by omega) h6,rfl⟩⟩⟩
 ·refine ae 5 [] λ _=>kW 0<|RN.ret [] [] [1,0] (v:=.tuple #[]) (H':=(ap [] [J_,[(dp,.lit [.slice (jb A (tk * pl) 1 c) (n-tk * pl) (c-tk * pl),vI 0,vI (pl:Int)] 127 (0,0))]])) ?_
  have hin_:i_=tk:=NE (p:=pl) (by omega) IN.1 WK
  exact⟨(J_,[(dp,.lit [.slice (jb A (tk * pl) 1 c) (n-tk * pl) (c-tk * pl),vI 0,vI (pl:Int)] 127 (0,0))]),rfl,.inl ⟨i_,QQ,.inl ⟨hin_,λ j hj=>Ru j (by rw[hin_];exact hj),rfl⟩⟩⟩
theorem K5(dp q1 q2 n c pl tk:Nat)(A:Option Addr)(xs:List Int)(F:HL)(hl:RowL iy 5 F A n xs)(hm:tk * pl <= n)(hc:n <= c)(IN:1 <= pl /\ pl <= 8)(V6:tk <= 1000)(Wv:∀i,0 <= xs.getD i 0 /\ xs.getD i 0<256)(hI:lK F)(h1:(q1,.lit [vP dp 0] 123 (0,0))∈F)(h2:(q2,.lit [vI (tk:Int)] 3 (0,0))∈F):PU Tryz.prog 84 #[vP q1 0,vP q2 0] [(dp,.lit [.slice A n c,vI 0,vI (pl:Int)] 127 (0,0))] F (λ x:RX=>#[.slice x.1 pl x.2.1]) (λ x:RX=>x.2.2) (λ (i:Nat) (x:RX)=>i<tk /\ SlIs ep 119 (sR pl (xs.take (tk * pl)) i) x.1 x.2.1 x.2.2) (λ k T1=>((k=tk /\ (∀j,j<tk * pl -> (xs.take (tk * pl)).getD j 0<36) /\ T1=[(dp,.lit [.slice (jb A (tk * pl) 1 c) (n-tk * pl) (c-tk * pl),vI 0,vI (pl:Int)] 127 (0,0))]) \/ (k <= tk /\ (∃j,j<tk * pl /\ ¬ (xs.take (tk * pl)).getD j 0<36) /\ T1=[(dp,.lit [.slice (jb A (tk * pl) 1 c) (n-tk * pl) (c-tk * pl),vI 8,vI (pl:Int)] 127 (0,0))]))) (λ _=>True):=by
 intro X l J Jx H0 hY h0
 have e:∀A B:HL,ap [] [A,B]=A++B:=λ A B=>by simp[ap]
 have key:=IQ dp q1 q2 n c pl tk A xs F hl hm hc IN V6 Wv hI h1 h2 l X J Jx H0 hY h0
 have e2:(ap [(dp,.lit [.slice A n c,vI 0,vI (pl:Int)] 127 (0,0))] [H0]).Perm (H0++[(dp,.lit [.slice A n c,vI 0,vI (pl:Int)] 127 (0,0))]):=by simp only[ap,List.flatten_cons,List.flatten_nil,List.append_nil];exact List.perm_append_comm
 refine(key.permH e2).mono λ u H' h=>?_
 obtain⟨x,rfl,h⟩:=h
 refine⟨x.1,x.2,e _ _,?_⟩
 rcases h with h|h
 ·exact .inl h
 ·exact .inr ⟨h,trivial⟩
theorem Er(dp q1 q2 n c pl tk:Nat)(A:Option Addr)(xs:List Int)(F:HL)(hl:RowL iy 5 F A n xs)(hm:tk * pl <= n)(hc:n <= c)(IN:1 <= pl /\ pl <= 8)(V6:tk <= 1000)(Wv:∀i,0 <= xs.getD i 0 /\ xs.getD i 0<256)(hI:lK F)(h1:(q1,.lit [vP dp 0] 123 (0,0))∈F)(h2:(q2,.lit [vI (tk:Int)] 3 (0,0))∈F):Sp Tryz.prog 83 #[.slice none 0 0,.func (.func 84) #[] #[vP q1 0,vP q2 0]] (ap [] [[(dp,.lit [.slice A n c,vI 0,vI (pl:Int)] 127 (0,0))]]) F (λ u H'=>∃x:(Nat × Option Addr × Nat × List Rw) × HL × HL × HL,H'=ap [] [x.2.1,x.2.2.1,x.2.2.2] /\ (u=.slice x.1.2.1 x.1.1 x.1.2.2.1 /\ SlIs mH 54 x.1.2.2.2 x.1.2.1 x.1.2.2.1 x.2.1 /\ x.1.2.2.2.length=x.1.1 /\ RwsT x.1.2.2.2 (eH pl (xs.take (tk * pl)) x.1.1) x.2.2.1 /\ ((x.1.1=tk /\ (∀j,j<tk * pl -> (xs.take (tk * pl)).getD j 0<36) /\ x.2.2.2=[(dp,.lit [.slice (jb A (tk * pl) 1 c) (n-tk * pl) (c-tk * pl),vI 0,vI (pl:Int)] 127 (0,0))]) \/ (x.1.1 <= tk /\ (∃j,j<tk * pl /\ ¬ (xs.take (tk * pl)).getD j 0<36) /\ x.2.2.2=[(dp,.lit [.slice (jb A (tk * pl) 1 c) (n-tk * pl) (c-tk * pl),vI 8,vI (pl:Int)] 127 (0,0))])))):=by
 have Us:(xs.take (tk * pl)).length=tk * pl:=by rw[List.length_take,hl.len];omega
 refine Sp.runM Tryz.func83 rfl (mc (h1) (mc (h2) mn)) (A:=[]) (Ts:=[[(dp,.lit [.slice A n c,vI 0,vI (pl:Int)] 127 (0,0))]]) rfl λ w0=>?_
 refine ae 13 [] λ n1=>RN.nt<|RN.nt<|kO [2,0,1]<|Eg (σ:=Nat × List Rw × Option Addr × Nat × HL × HL) (τ:=Nat × List Rw × Option Addr × Nat × HL × HL × RX × HL) (encs:=λ (x_:RX)=>#[.slice x_.1 pl x_.2.1]) (blks:=λ (x_:RX)=>x_.2.2) (enters_of Tryz.func84 (by kernel_rfl) rfl) (λ ⟨m_,rs_,A_,c_,E_,T_⟩=>([((n1+0),.lit [.slice A_ m_ c_] 35 (0,0))],[E_,T_])) (λ i_ ⟨m_,rs_,A_,c_,E_,T_⟩=>m_=i_ /\ rs_.length=m_ /\ SlIs mH 54 rs_ A_ c_ E_ /\ RwsT rs_ (eH pl (xs.take (tk * pl)) m_) T_ /\ m_ <= tk) (λ c_ ⟨m_,rs_,A_,c_,E_,T_⟩=>False) (λ ⟨m_,rs_,A_,c_,E_,T_,y_,Te_⟩=>⟨[(2,vP (n1+0) 0),(5,.slice y_.1 pl y_.2.1)],[((n1+0),.lit [.slice A_ m_ c_] 35 (0,0))],[E_,T_,Te_],True,0⟩) (λ i_ x_ ⟨m_,rs_,A_,c_,E_,T_,y_,Te_⟩=>m_=i_ /\ (rs_.length=m_ /\ SlIs mH 54 rs_ A_ c_ E_ /\ RwsT rs_ (eH pl (xs.take (tk * pl)) m_) T_ /\ m_ <= tk) /\ y_=x_ /\ Te_=x_.2.2) (0,[],none,0,[],[]) (⟨rfl,rfl,SlIs.nil _ _,RwsT.nil,Nat.zero_le _⟩) [0] [1,2] ([(dp,.lit [.slice A n c,vI 0,vI (pl:Int)] 127 (0,0))]) (K5 dp q1 q2 n c pl tk A xs _ (hl.mono λ x hx=>ar hx) hm hc IN V6 Wv (ar hI) (ar h1) (ar h2)) ?_ ?_ ?_ ?_
 ·rintro l_ i_ x_ ⟨m_,rs_,A_,c_,E_,T_⟩ Y2 w3 hx4 ⟨rfl,Of,ID,SF,Yl⟩ SC
  refine ae 3 [] λ _=>?_
  refine SC (m_,rs_,A_,c_,E_,T_,x_,x_.2.2) [0] [0,1,2] ?_
  try dsimp only
  exact⟨rfl,⟨Of,ID,SF,Yl⟩,rfl,rfl⟩
 ·rintro l_ i_ x_ ⟨m_,rs_,A_,c_,E_,T_,y_,Te_⟩ Y6 w7 Wv ⟨rfl,⟨Of,ID,SF,Yl⟩,W7,eT_⟩
  subst W7
  obtain⟨WJ,ZZ⟩:=Wv
  rw[<- eT_] at ZZ
  refine ae 5 [.own 0] λ n9=>fR B4 rs_ [(⟨y_.1,pl,y_.2.1⟩:Rw)] 0 0 Of.symm ID (by simp;omega) ?_
  rintro A10 c11 Xc ⟨hs13,hz14⟩
  refine ae 3 [.own 1] λ _=>kO [1,2,0]<|mv<|RN.rn (m_+1,rs_++[(⟨y_.1,pl,y_.2.1⟩:Rw)],A10,c11,Xc,T_++Te_) [1] [1,0] ?_
  try dsimp only
  refine⟨rfl,by simp;omega,hs13,?_,by omega⟩
  rw[Au]
  exact SF.snoc ZZ (by rw[lL Us WJ];omega) (lL Us WJ).symm
 ·rintro d15 ⟨m_,rs_,A_,c_,E_,T_⟩ n18 Tt ⟨rfl,Of,ID,SF,Yl⟩ hT17
  refine ae 8 [.own 1] λ _=>RN.retM [d15] [0] [] [] [0,1,2] (v:=.slice A_ m_ c_) (H':=(ap [] [E_,T_,Tt])) ?_
  exact⟨((m_,A_,c_,rs_),E_,T_,Tt),rfl,rfl,ID,Of,SF,hT17⟩
 ·exact λ _ _ _ _ h _=>h.elim
theorem IR(dp q1 q2 n c pl tk:Nat)(A:Option Addr)(xs:List Int)(F:HL)(hl:RowL iy 5 F A n xs)(hm:tk * pl <= n)(hc:n <= c)(IN:1 <= pl /\ pl <= 8)(V6:tk <= 1000)(Wv:∀i,0 <= xs.getD i 0 /\ xs.getD i 0<256)(hI:lK F)(h1:(q1,.lit [vP dp 0] 123 (0,0))∈F)(h2:(q2,.lit [vI (tk:Int)] 3 (0,0))∈F):Sp Tryz.prog 54 #[.func (.func 84) #[] #[vP q1 0,vP q2 0]] (ap [] [[(dp,.lit [.slice A n c,vI 0,vI (pl:Int)] 127 (0,0))]]) F (λ u H'=>∃x:(Nat × Option Addr × Nat × List Rw) × HL × HL × HL,H'=ap [] [x.2.1,x.2.2.1,x.2.2.2] /\ (u=.slice x.1.2.1 x.1.1 x.1.2.2.1 /\ SlIs mH 54 x.1.2.2.2 x.1.2.1 x.1.2.2.1 x.2.1 /\ x.1.2.2.2.length=x.1.1 /\ RwsT x.1.2.2.2 (eH pl (xs.take (tk * pl)) x.1.1) x.2.2.1 /\ ((x.1.1=tk /\ (∀j,j<tk * pl -> (xs.take (tk * pl)).getD j 0<36) /\ x.2.2.2=[(dp,.lit [.slice (jb A (tk * pl) 1 c) (n-tk * pl) (c-tk * pl),vI 0,vI (pl:Int)] 127 (0,0))]) \/ (x.1.1 <= tk /\ (∃j,j<tk * pl /\ ¬ (xs.take (tk * pl)).getD j 0<36) /\ x.2.2.2=[(dp,.lit [.slice (jb A (tk * pl) 1 c) (n-tk * pl) (c-tk * pl),vI 8,vI (pl:Int)] 127 (0,0))])))):=by
 refine Sp.run Tryz.func54 rfl mn (A:=[]) (Ts:=[[(dp,.lit [.slice A n c,vI 0,vI (pl:Int)] 127 (0,0))]]) rfl λ w0=>?_
 refine ae 8 [] λ _=>RN.ct [] [0] (Er dp q1 q2 n c pl tk A xs _ (hl.mono λ x hx=>ar hx) hm hc IN V6 Wv (ar hI) (ar h1) (ar h2)) ?_
 rintro _ ⟨⟨m_,A_,c_,rs_⟩,E_,T_,O_⟩ ⟨rfl,Xk⟩
 refine ae 3 [] λ _=>RN.ret [] [] [0,1,2] (v:=.slice A_ m_ c_) (H':=(ap [] [E_,T_,O_])) ?_
 exact⟨((m_,A_,c_,rs_),E_,T_,O_),rfl,rfl,Xk⟩
theorem Aw(dp:Nat)(e:Int)(F:HL){b:Bool}(h:b=true):Sp Tryz.prog 53 #[vP dp 0,.bool b,vI e] [] F (λ u H'=>u=.tuple #[] /\ H'=[]):=h ▸ qy dp e F
theorem kH(xs:List Int)(o k:Nat):(xs.drop o).getD k 0=xs.getD (o+k) 0:=by rw[List.getD_eq_getElem?_getD,List.getElem?_drop,<- List.getD_eq_getElem?_getD]
def fZ(xs:List Int)(m:Nat):List Int:=(List.range m).map λ r=>eK xs r 8
theorem yD(xs:List Int)(m:Nat):fZ xs (m+1)=fZ xs m++[eK xs m 8]:=by simp[fZ,List.range_succ]
theorem nq(xs:List Int)(m:Nat):(fZ xs m).length=m:=by simp[fZ]
theorem Ay(dp n c pl cnt:Nat)(A:Option Addr)(xs:List Int)(F:HL)(hl:RowL iy 5 F A n xs)(hn:n=cnt * 8)(hc:n <= c)(hcn:cnt <= 1000):Sp Tryz.prog 56 #[vP dp 0,vI (cnt:Int)] (ap [(dp,.lit [.slice A n c,vI 0,vI (pl:Int)] 127 (0,0))] []) F (λ u H'=>∃x:Option Addr × Nat × HL,H'=ap [(dp,.lit [.slice (jb A (cnt * 8) 1 c) (n-(cnt * 8)) (c-(cnt * 8)),vI 0,vI (pl:Int)] 127 (0,0))] [x.2.2] /\ (u=.slice x.1 cnt x.2.1 /\ SlIs jf 45 (fZ xs cnt) x.1 x.2.1 x.2.2)):=by
 refine Sp.run Tryz.func56 rfl mn (A:=[(dp,.lit [.slice A n c,vI 0,vI (pl:Int)] 127 (0,0))]) (Ts:=[]) rfl λ w0=>?_
 refine ai 12 [.nw] [aS ((cnt:Int) * 8)] λ _=>aB 13 (congrArg (λ v_=>(vI v_:Value)) (show (cnt:Int) * 8=((cnt * 8:Nat):Int) by omega))<|RN.ct [0] [] (yC dp n c pl (cnt * 8) A _ (by omega) hc) ?_
 rintro _ ⟨⟩ rfl
 refine ae 4 [] λ _=>RN.draw [] []<|ag [] [0,3,1,4,2,5,6,7,8,9] [.own 0]<|RD.cp [] 10 (λ X_=>(Aw dp 8 _ (decide_eq_true (show (((n-(cnt * 8)):Nat):Int)=0 by omega))))<|RD.fin<|ae 8 [] λ _=>RN.nt<|RN.loop (σ:=Nat × Option Addr × Nat × Nat × Option Addr × Nat × HL) (λ ⟨i_,A_,n_,c_,UI,UF,T_⟩=>⟨[(5,.slice A_ n_ c_),(6,.slice UI i_ UF)],[(dp,.lit [.slice (jb A (cnt * 8) 1 c) (n-(cnt * 8)) (c-(cnt * 8)),vI 0,vI (pl:Int)] 127 (0,0))],[T_],i_ <= cnt /\ n_=(cnt-i_) * 8 /\ n_ <= c_ /\ RowL iy 5 F A_ n_ (xs.drop (8 * i_)) /\ SlIs jf 45 (fZ xs i_) UI UF T_,cnt-i_⟩) (0,A,cnt * 8,c,none,0,[]) [0] [0] (⟨Nat.zero_le _,by omega,by omega,by rw[show cnt * 8=n by omega];exact hl,SlIs.nil _ _⟩) ?_
 rintro⟨i_,A_,n_,c_,UI,UF,T_⟩ ⟨WK,Yk,Ul,Rn,ID⟩ Rb
 refine ae 8 [] λ _=>RN.em ((n_:Int)>0) 28 (λ h3=>?_) λ h3=>?_
 ·refine ae 17 [] λ _=>RN.loop (σ:=Nat) (λ k_=>⟨[(5,.slice A_ n_ c_),(6,.slice UI i_ UF),(7,.int .u64 (eK xs i_ k_)),(31,vI (k_:Int))],[(dp,.lit [.slice (jb A (cnt * 8) 1 c) (n-(cnt * 8)) (c-(cnt * 8)),vI 0,vI (pl:Int)] 127 (0,0))],[T_],k_ <= 8,8-k_⟩) 0 [0] [0] (Nat.zero_le _) ?_
  rintro k_ SW SC
  refine ae 6 [] λ _=>RN.em ((k_:Int)<8) 32 (λ h6=>?_) λ h6=>?_
  ·refine ae 15 [] λ _=>?_
   obtain⟨qx7,Rl,XR,fx7,fzx7,TW,Ve,hox7,Vn⟩:=Rn.at (k:=k_) (by omega)
   refine aB 35 (congrArg (λ v_=>(.slice v_ n_ c_:Value)) TW)<|RN.ro (λ _=>(mc Ve mn))<|ai 2 [.ix k_,.rorow 0 (Rl+k_) 0] [(Rl * 1+k_ * 1)=(Rl+k_) * 1+0 /\ (Rl+k_)<XR,(k_:Int)=((k_:Nat):Int) /\ k_<n_] λ _=>aB 38 (congrArg (λ v_=>(.int .u8 v_:Value)) Vn)<|aB 38 (congrArg (λ v_=>(.int .u8 v_:Value)) (kH xs (8 * i_) k_))<|ai 13 [.nw,.dv,.gen,.nw] [aS ((k_:Int)+1),0 <= 8 * (k_:Int),aS (8 * (k_:Int))] λ _=>?_
   refine SC (k_+1) [0] [0] ?_
   try dsimp only
   exact⟨by omega,by omega⟩
  ·obtain rfl:k_=8:=by omega
   refine ae 10 [] λ n8=>fR Ic (fZ xs i_) [eK xs i_ 8] 0 0 (nq xs i_).symm ID (by rw[nq,List.length_singleton];omega) ?_
   rintro A9 TY No ⟨U8,X1⟩
   refine ae 6 [] λ _=>RN.slA (A:=A_) (n:=n_) (cap:=c_) (l:=8) (sz:=1) rfl (by omega) Ul<|ae 2 [] λ _=>?_
   refine Rb (i_+1,jb A_ 8 1 c_,n_-8,c_-8,A9,TY,No) [1] [0] ?_
   try dsimp only
   refine⟨⟨by omega,by omega,by omega,?_,by rw[yD];exact U8⟩,by omega⟩
   have h_:=Rn.drop Ul (k:=8) (by omega)
   rw[List.drop_drop,show 8 * i_+8=8 * (i_+1) by omega] at h_
   exact h_
 ·refine ae 12 [] λ _=>RN.ret [] [0] [0] (v:=.slice UI i_ UF) (H':=(ap [(dp,.lit [.slice (jb A (cnt * 8) 1 c) (n-(cnt * 8)) (c-(cnt * 8)),vI 0,vI (pl:Int)] 127 (0,0))] [T_])) ?_
  obtain rfl:i_=cnt:=by omega
  exact⟨(UI,UF,T_),rfl,rfl,ID⟩
theorem Az(dp n c pl:Nat)(m:Int)(A:Option Addr)(er:Int)(F:HL)(Yx:¬ er=0)(We:(dp,.lit [.slice A n c,vI er,vI (pl:Int)] 127 (0,0))∈F):Sp Tryz.prog 56 #[vP dp 0,vI m] [] F (λ u H'=>u=.slice none 0 0 /\ H'=[]):=by
 refine Sp.run Tryz.func56 rfl (mc We mn) (A:=[]) (Ts:=[]) rfl λ w0=>?_
 refine ae 12 [] λ _=>RN.cp (IH dp n c pl (i64.wrap (m * 8)) A er _ Yx (ar We))<|ae 4 [] λ _=>RN.draw [] []<|ag [] [0,3,1,4,2,5,6,7,8,9] [.ro 0]<|RD.cp [] 10 (λ X_=>(Cn dp n c pl A er 8 _ Yx (oB We) (decide ((n:Int)=0))))<|RD.fin<|ae 8 [] λ _=>RN.rounds 1<|ae 20 [] λ _=>?_
 exact RN.ret [] [] [] ⟨rfl,rfl⟩
theorem K6{xs ys:List Int}(h:xs.length=ys.length)(h2:∀k,k<xs.length -> xs.getD k 0=ys.getD k 0):xs=ys:=by
 apply List.ext_getElem h
 intro i h3 h4
 have:=h2 i h3
 rwa [List.getD_eq_getElem?_getD,List.getD_eq_getElem?_getD,List.getElem?_eq_getElem h3,List.getElem?_eq_getElem h4] at this
theorem K7(A B:Option Addr)(n c m d:Nat)(xs ys:List Int)(F:HL)(hl:RowL jf 45 F A n xs)(QS:RowL jf 45 F B m ys)(hb:n <= 1000000):Sp Tryz.prog 57 #[.slice A n c,.slice B m d] [] F (λ u H'=>u=.bool (decide (xs=ys)) /\ H'=[]):=by
 have Vh:=hl.len
 have hn2_:=QS.len
 refine Sp.run Tryz.func57 rfl mn (A:=[]) (Ts:=[]) rfl λ w0=>?_
 refine ae 15 [] λ _=>RN.en ((n:Int)=(m:Int)) 10 (λ h1=>?_) λ h1=>?_
 ·refine ae 12 [] λ _=>RN.loop (σ:=Nat) (λ k_=>⟨[(0,.slice A n c),(1,.slice B m d),(12,vI (n:Int)),(13,vI (k_:Int))],[],[],k_ <= n /\ ∀j,j<k_ -> xs.getD j 0=ys.getD j 0,n-k_⟩) 0 [] [] (⟨Nat.zero_le _,λ j hj=>absurd hj (Nat.not_lt_zero _)⟩) ?_
  rintro k_ ⟨SW,Ru⟩ QP
  refine ae 6 [] λ _=>RN.em ((k_:Int)<(n:Int)) 14 (λ h4=>?_) λ h4=>?_
  ·refine ae 12 [] λ _=>RN.draw [] []<|ag [] [0,1,4,5] [] ?_
   obtain⟨ZD,Q3,V3,fxa2,XL,Tb,Rp,Xv,SY⟩:=hl.at (k:=k_) (by omega)
   refine fg 16 (congrArg (λ v_=>(.slice v_ n c:Value)) Tb)<|RD.ro (λ _=>(mc Rp mn)) ?_
   obtain⟨ZC,Q2,V1,fxb2,XK,Ta,SV,Xu,SX⟩:=QS.at (k:=k_) (by omega)
   refine fg 20 (congrArg (λ v_=>(.slice v_ m d:Value)) Ta)<|RD.ro (λ _=>(mc Rp (mc SV mn)))<|aC [] [2,6,3,7] [.ix k_,.ix k_,.rorow 0 (Q3+k_) 0,.rorow 1 (Q2+k_) 0] [(Q2 * 1+k_ * 1)=(Q2+k_) * 1+0 /\ (Q2+k_)<V1,(Q3 * 1+k_ * 1)=(Q3+k_) * 1+0 /\ (Q3+k_)<V3,(k_:Int)=((k_:Nat):Int) /\ k_<m,(k_:Int)=((k_:Nat):Int) /\ k_<n]<|fg 19 (congrArg (λ v_=>(.int .u64 v_:Value)) SY)<|fg 23 (congrArg (λ v_=>(.int .u64 v_:Value)) SX)<|ag [] [8] []<|RD.fin<|ae 1 [] λ _=>RN.en (xs.getD k_ 0=ys.getD k_ 0) 24 (λ h5=>?_) λ h5=>?_
   ·refine ai 8 [.nw] [aS ((k_:Int)+1)] λ _=>?_
    refine QP (k_+1) [] [] ?_
    try dsimp only
    refine⟨⟨by omega,λ j hj=>?_⟩,by omega⟩
    by_cases ej:j=k_
    ·rw[ej];assumption
    ·exact Ru j (by omega)
   ·refine ae 6 [] λ _=>RN.ret [] [] [] (v:=.bool false) (H':=[]) ?_
    exact⟨by rw[decide_eq_false (λ e_=>h5 (by rw[e_]))],rfl⟩
  ·refine ae 11 [] λ _=>RN.ret [] [] [] (v:=.bool true) (H':=[]) ?_
   obtain rfl:k_=n:=by omega
   exact⟨by rw[decide_eq_true (K6 (by omega) (λ k hk=>Ru k (by omega)))],rfl⟩
 ·refine ae 6 [] λ _=>RN.ret [] [] [] (v:=.bool false) (H':=[]) ?_
  exact⟨by rw[decide_eq_false (λ e_=>h1 (by rw[<- Vh,e_,hn2_]))],rfl⟩
theorem IU(A B:Option Addr)(n c d:Nat)(xs:List Int)(F:HL)(hl:RowL jf 45 F A n xs)(QS:RowL jf 45 F B n xs)(hb:n <= 1000000):Sp Tryz.prog 26 #[.slice A n c,.slice B n d] [] F (λ u H'=>u=.bool true /\ H'=[]):=by
 refine Sp.run Tryz.func26 rfl mn (A:=[]) (Ts:=[]) rfl λ w0=>?_
 refine ae 15 [] λ _=>RN.en ((n:Int)=(n:Int)) 10 (λ h1=>?_) λ h1=>?_
 ·refine ae 10 [] λ _=>RN.loop (σ:=Nat) (λ k_=>⟨[(0,.slice A n c),(1,.slice B n d),(5,vI (k_:Int))],[],[],k_ <= n,n-k_⟩) 0 [] [] (Nat.zero_le _) ?_
  rintro k_ SW QP
  refine ae 9 [] λ _=>RN.em ((k_:Int)<(n:Int)) 14 (λ h4=>?_) λ h4=>?_
  ·refine ae 6 [] λ _=>RN.draw [] []<|ag [] [0,1,4,5] [] ?_
   obtain⟨ZD,Q3,V3,fxa2,XL,Tb,Rp,Xv,SY⟩:=hl.at (k:=k_) (by omega)
   refine fg 17 (congrArg (λ v_=>(.slice v_ n c:Value)) Tb)<|RD.ro (λ _=>(mc Rp mn)) ?_
   obtain⟨ZC,Q2,V1,fxb2,XK,Ta,SV,Xu,SX⟩:=QS.at (k:=k_) (by omega)
   refine fg 21 (congrArg (λ v_=>(.slice v_ n d:Value)) Ta)<|RD.ro (λ _=>(mc Rp (mc SV mn)))<|aC [] [2,6,3,7] [.ix k_,.ix k_,.rorow 0 (Q3+k_) 0,.rorow 1 (Q2+k_) 0] [(Q2 * 1+k_ * 1)=(Q2+k_) * 1+0 /\ (Q2+k_)<V1,(Q3 * 1+k_ * 1)=(Q3+k_) * 1+0 /\ (Q3+k_)<V3,(k_:Int)=((k_:Nat):Int) /\ k_<n,(k_:Int)=((k_:Nat):Int) /\ k_<n]<|fg 20 (congrArg (λ v_=>(.int .u64 v_:Value)) SY)<|fg 24 (congrArg (λ v_=>(.int .u64 v_:Value)) SX)<|ag [] [8] []<|RD.fin<|ae 1 [] λ _=>RN.en (xs.getD k_ 0=xs.getD k_ 0) 25 (λ h5=>?_) λ h5=>?_
   ·refine ai 9 [.nw] [aS ((k_:Int)+1)] λ _=>?_
    refine QP (k_+1) [] [] ?_
    try dsimp only
    exact⟨by omega,by omega⟩
   ·exact absurd rfl h5
  ·refine ae 11 [] λ _=>?_
   exact RN.ret [] [] [] ⟨rfl,rfl⟩
 ·exact absurd rfl h1
theorem IV(A B:Option Addr)(n c d:Nat)(xs:List Int)(F:HL)(hl:RowL iy 5 F A n xs)(QS:RowL iy 5 F B n xs)(hb:n <= 1000000):Sp Tryz.prog 27 #[.slice A n c,.slice B n d] [] F (λ u H'=>u=.bool true /\ H'=[]):=by
 refine Sp.run Tryz.func27 rfl mn (A:=[]) (Ts:=[]) rfl λ w0=>?_
 refine ae 15 [] λ _=>RN.en ((n:Int)=(n:Int)) 10 (λ h1=>?_) λ h1=>?_
 ·refine ae 10 [] λ _=>RN.loop (σ:=Nat) (λ k_=>⟨[(0,.slice A n c),(1,.slice B n d),(5,vI (k_:Int))],[],[],k_ <= n,n-k_⟩) 0 [] [] (Nat.zero_le _) ?_
  rintro k_ SW QP
  refine ae 9 [] λ _=>RN.em ((k_:Int)<(n:Int)) 14 (λ h4=>?_) λ h4=>?_
  ·refine ae 6 [] λ _=>RN.draw [] []<|ag [] [0,1,4,5] [] ?_
   obtain⟨ZD,Q3,V3,fxa2,XL,Tb,Rp,Xv,SY⟩:=hl.at (k:=k_) (by omega)
   refine fg 17 (congrArg (λ v_=>(.slice v_ n c:Value)) Tb)<|RD.ro (λ _=>(mc Rp mn)) ?_
   obtain⟨ZC,Q2,V1,fxb2,XK,Ta,SV,Xu,SX⟩:=QS.at (k:=k_) (by omega)
   refine fg 21 (congrArg (λ v_=>(.slice v_ n d:Value)) Ta)<|RD.ro (λ _=>(mc Rp (mc SV mn)))<|aC [] [2,6,3,7] [.ix k_,.ix k_,.rorow 0 (Q3+k_) 0,.rorow 1 (Q2+k_) 0] [(Q2 * 1+k_ * 1)=(Q2+k_) * 1+0 /\ (Q2+k_)<V1,(Q3 * 1+k_ * 1)=(Q3+k_) * 1+0 /\ (Q3+k_)<V3,(k_:Int)=((k_:Nat):Int) /\ k_<n,(k_:Int)=((k_:Nat):Int) /\ k_<n]<|fg 20 (congrArg (λ v_=>(.int .u8 v_:Value)) SY)<|fg 24 (congrArg (λ v_=>(.int .u8 v_:Value)) SX)<|ag [] [8] []<|RD.fin<|ae 1 [] λ _=>RN.en (xs.getD k_ 0=xs.getD k_ 0) 25 (λ h5=>?_) λ h5=>?_
   ·refine ai 9 [.nw] [aS ((k_:Int)+1)] λ _=>?_
    refine QP (k_+1) [] [] ?_
    try dsimp only
    exact⟨by omega,by omega⟩
   ·exact absurd rfl h5
  ·refine ae 11 [] λ _=>?_
   exact RN.ret [] [] [] ⟨rfl,rfl⟩
 ·exact absurd rfl h1
end Go.Proofs.YtgdcbiiopbpgaaaGreatDoor
