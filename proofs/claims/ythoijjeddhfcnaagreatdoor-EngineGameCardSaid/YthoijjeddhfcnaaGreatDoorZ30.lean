import Derived.Test.YthoijjeddhfcnaaGreatDoorZ08
import Derived.Test.YthoijjeddhfcnaaGreatDoorZ29
import Derived.Test.YthoijjeddhfcnaaGreatDoorProg
import Derived.RecoverIn
import Derived.Test.YthoijjeddhfcnaaGreatDoorZ15
set_option maxHeartbeats 4000000
set_option maxRecDepth 100000
set_option linter.unusedSimpArgs false
set_option linter.unusedVariables false
namespace Go.Proofs.YthoijjeddhfcnaaGreatDoor
open Go.RowKit Go.Shelf
def Oo(P:Program)(g:FuncId)(lb:Array Value)(own:HL)(F:HL){α:Type}(encs:α -> Array Value)(xs:List α)(Te Tx:HL -> Prop):Prop :=
 ∀ (X:HL) (l:Nat) (J:Nat -> HL -> Prop) (Jx:HL -> Prop) (H0:HL),(∀i x H Y,xs[i]?=some x -> J i H -> YL P l (encs x) H (Y++(X++F)) (λ b H'=>(b=true /\ J (i+1) H') \/ (b=false /\ Jx H'))) -> J 0 H0 ->
  Sp P g (#[.func (.yield l) #[] #[]]++lb) (H0++own) (X++F) (λ _ H'=>∃H1 T1,H'=H1++T1 /\ ((J xs.length H1 /\ Te T1) \/ (Jx H1 /\ Tx T1)))
section
variable {P:Program} {N:Nat} {D:List Deferred} {F:HL} {w0:World} {L:FL} {Q:Exit -> Act -> World -> Prop}
theorem CB{α σ τ:Type}{g:Operand}{ps:Array Tmp}{assign body:Code}{encs:α -> Array Value}{xs:List α}{gf:FuncId}{lb:Array Value}(hi:nX L g=true)(hg:jJ L g=.func (.func gf) #[] lb)(eg:∀args w,(callFunc gf args).run P w=.ok (.enter gf args) w)
  (Hx:σ -> HL) (I:Nat -> σ -> Prop) (Ix:Code -> σ -> Prop) (La:τ -> FL) (Ha:τ -> HL) (Ia:Nat -> α -> τ -> Prop) (UP:∀x,(encs x).size=ps.size) (Re:(ps.toList.all λ p=>decide (p<N))=true)
  (x0:σ) (h0:I 0 x0) {A:HL} {Ts:List HL} (ip ir jp jr:List Nat) (hp:(ip++ir).isPerm (List.range A.length)=true) (hj:(jp++jr).isPerm (List.range Ts.length)=true) (Hr:HL) (Tr:List HL) (Wj:ir.filterMap (A[·]?)=Hr) (own:HL) {Te Tx:HL -> Prop} (V6:jr.filterMap (Ts[·]?)=own::Tr) (hH:ap (ip.filterMap (A[·]?)) (jp.filterMap (Ts[·]?))=Hx x0)
  (hit:Oo P gf lb own (ap Hr Tr++F) encs xs Te Tx)
  (rW:∀ (l i:Nat) (x:α) (s:σ) (Y:HL) (w1:World),xs[i]?=some x -> I i s -> TR (some l) P N [] (Y++(ap Hr Tr++F)) w1 (oA ps.toList (encs x).toList L) (Hx s) assign (Exit.then (Kv N [] (Y++(ap Hr Tr++F)) w1 La Ha (Ia i x)) (λ _ _ _=>False)))
  (Po:∀ (l i:Nat) (x:α) (t:τ) (Y:HL) (w1:World),xs[i]?=some x -> Ia i x t -> TR (some l) P N [] (Y++(ap Hr Tr++F)) w1 (La t) (Ha t) body (RQ (Y++(ap Hr Tr++F)) w1 Hx (I (i+1)) Ix))
  (O_:∀ (d:Nat) (s:σ) (T1:HL),I xs.length s -> Te T1 -> EX N (coll d::D) F w0 L (cO d::(Hx s++ap Hr (T1::Tr))) Q .normal)
  (No:∀ (d:Nat) (c:Code) (s:σ) (T1:HL),Ix c s -> Tx T1 -> TR none P N (coll d::D) F w0 L (cO d::(Hx s++ap Hr (T1::Tr))) c Q) :
  TR none P N D F w0 L (ap A Ts) (.rangeFunc g ps assign body) Q:=by
 intro a w hF hR hB
 have hpo:∀ (X:HL) (T1:HL),((X++T1)++(ap Hr Tr++F)).Perm (X++(ap Hr (T1::Tr)++F)):=λ X T1=>by
  rw[List.append_assoc]
  refine List.Perm.append_left X ?_
  rw[<- List.append_assoc]
  refine List.Perm.append_right F ?_
  show (T1++(Hr++Tr.flatten)).Perm (Hr++(T1::Tr).flatten)
  rw[List.flatten_cons,<- List.append_assoc,<- List.append_assoc]
  exact List.Perm.append_right _ List.perm_append_comm
 have Ui:Rel ((Hx x0++own)++(ap Hr Tr++F)) w:=by
  have h1:=kY A Ts ip ir jp jr hp hj
  rw[Wj,V6,hH] at h1
  have h2:=hR.perm (h1.append_right F)
  rw[List.append_assoc] at h2
  exact h2.perm (hpo _ _)
 refine wpIn_rangeFunc ?_
 intro fn VQ
 obtain⟨rec,OF⟩:∃rec:LoopState -> Option Code -> Loop,rec=λ st pe=>{ state:=st,pending:=pe,fn,tmps:=a.tmps,params:=ps,assign,body,defers:=w.heap.size }:=⟨_,rfl⟩
 obtain⟨W1,V5⟩:∃W1,(w.alloc (.deferred (some []))).alloc (.loop (rec .ready none))=W1:=⟨_,rfl⟩
 have X8:Below 0 w W1:=by rw[<- V5];exact(gJ _).trans (gJ _)
 have V7:Rel ((w.heap.size+1,Blk.obj (.loop (rec .ready none)))::cO w.heap.size::((Hx x0++own)++(ap Hr Tr++F))) W1:=by
  rw[<- V5]
  have h1:=(Ui.alloc (.obj (.deferred (some [])))).alloc (.obj (.loop (rec .ready none)))
  rw[World.size_alloc] at h1
  exact h1
 refine⟨w.heap.size+1,[coll w.heap.size],W1,{ target:=.fn (.func gf) lb,args:=#[.func (.yield (w.heap.size+1)) #[] #[]] },W1,gf,#[.func (.yield (w.heap.size+1)) #[] #[]]++lb,W1,?_,?_,?_,?_,λ h=>(by cases h),?_⟩
 ·rw[<- V5,OF];exact run_enterLoop_outer _ _ _ _ _
 ·have Uc:a.eval g=.func (.func gf) #[] lb:=(hF.eval hi).trans hg
  simp only[resolve,Uc]
  simp[Deferred.ofValue]
  rfl
 ·intro f' _;trivial
 ·simp[invoke,eg]
 ·refine jd ?_
  obtain⟨l,hl⟩:∃l,w.heap.size+1=l:=⟨_,rfl⟩
  rw[hl] at V7 ⊢
  obtain⟨d,hd⟩:∃d,w.heap.size=d:=⟨_,rfl⟩
  rw[hd] at V7 OF ⊢
  have key:=hit [] l (λ i H'=>∃s,I i s /\ H'=(l,Blk.obj (.loop (rec .ready none)))::cO d::Hx s) (λ H'=>∃c s,Ix c s /\ H'=(l,Blk.obj (.loop (rec .done (some c))))::cO d::Hx s)
   ((l,Blk.obj (.loop (rec .ready none)))::cO d::Hx x0) ?round ⟨x0,h0,rfl⟩ W1 V7
  case round =>
   rintro i x H' Y hx ⟨s,hs,rfl⟩ W bY
   have PJ:Rel ((l,Blk.obj (.loop (rec .ready none)))::(cO d::(Hx s++(Y++(ap Hr Tr++F))))) W:=bY
   have hlW:W.heap[l]?=some (.loop (rec .ready none)):=PJ.holds _ List.mem_cons_self
   have hy:=run_yield (P:=P) (args:=encs x) hlW (by rw[OF];exact UP x)
   rw[OF] at hy
   refine⟨fn,_,assign,body,hy,roundIn_of_wpIn (F:=Wr none) (n:=0) VQ ?_⟩
   have hFm:Fm N [] (oA ps.toList (encs x).toList L) { tmps:=(ps.zip (encs x)).foldl (λ t (p,v)=>t.setIfInBounds p v) a.tmps,defers:=[] }:=by
    have h1:=Fm.zip (D:=[]) ps.toList (encs x).toList L a.tmps (λ p hp=>of_decide_eq_true (List.all_eq_true.1 Re p hp)) ⟨hF.size,rfl,hF.has⟩
    have e:(ps.zip (encs x)).foldl (λ t (p,v)=>t.setIfInBounds p v) a.tmps=(ps.toList.zip (encs x).toList).foldl (λ t (p,v)=>t.setIfInBounds p v) a.tmps:=by
     rw[<- Array.foldl_toList,Array.toList_zip]
    rw[e]
    exact h1
   have hRA:Rel (Hx s++(((l,Blk.obj (.loop (rec .ready none)))::cO d::Y)++(ap Hr Tr++F))) W:=by
    have:=PJ
    refine this.perm ?_
    simp only[List.cons_append]
    refine List.perm_middle.trans ?_
    refine List.Perm.cons _ ?_
    exact List.perm_middle
   refine wpIn_mono (rW l i x s ((l,Blk.obj (.loop (rec .ready none)))::cO d::Y) W hx hs _ W hFm hRA (Below.refl _ _)) ?_
   intro e a1 Wa hq
   cases e with
   | normal =>
    obtain⟨t,ht,m1,m2,m3⟩:=hq
    have X2:Rel ((l,Blk.obj (.loop (rec .ready none)))::(cO d::(Ha t++(Y++(ap Hr Tr++F))))) Wa:=by
     refine m2.perm ?_
     simp only[List.cons_append]
     refine(List.Perm.trans ?_ List.perm_middle.symm)
     refine List.Perm.cons _ ?_
     exact List.perm_middle.symm
    have hla:Wa.heap[l]?=some (.loop (rec .ready none)):=X2.holds _ List.mem_cons_self
    refine⟨_,run_beginRound hla (by rw[OF]),?_⟩
    have hRc:=X2.putObj (F:=[]) (.obj (.loop { rec .ready none with state:=.busy }))
    have Qs:Rel (Ha t++(((l,Blk.obj (.loop { rec .ready none with state:=.busy }))::cO d::Y)++(ap Hr Tr++F))) (Wa.putObj l (.loop { rec .ready none with state:=.busy })):=by
     refine hRc.perm ?_
     simp only[List.cons_append]
     refine List.perm_middle.trans ?_
     refine List.Perm.cons _ ?_
     exact List.perm_middle
    refine wpIn_mono (Po l i x t ((l,Blk.obj (.loop { rec .ready none with state:=.busy }))::cO d::Y) W hx ht a1 _ m1 Qs (m3.trans (dW _ _))) ?_
    have fin:∀ (jump:Option Code) (s':σ) (W3:World),Rel (Hx s'++(((l,Blk.obj (.loop { rec .ready none with state:=.busy }))::cO d::Y)++(ap Hr Tr++F))) W3 -> Below 0 W W3 ->
      ∃v w',(Instr.endRound l jump).run P W3=.ok v w' /\ v=.bool jump.isNone /\ Rel (((l,Blk.obj (.loop (rec (if jump.isNone then .ready else .done) jump)))::cO d::Hx s')++(Y++([]++(ap Hr Tr++F)))) w' /\ Below 0 W w':=by
     intro jump s' W3 h3 YU
     have h4:Rel ((l,Blk.obj (.loop { rec .ready none with state:=.busy }))::(cO d::(Hx s'++(Y++(ap Hr Tr++F))))) W3:=by
      refine h3.perm ?_
      simp only[List.cons_append]
      refine(List.Perm.trans ?_ List.perm_middle.symm)
      refine List.Perm.cons _ ?_
      exact List.perm_middle.symm
     have RY:W3.heap[l]?=some (.loop { rec .ready none with state:=.busy }):=h4.holds _ List.mem_cons_self
     have dO:=run_endRound (P:=P) jump RY
     refine⟨_,_,dO,rfl,?_,YU.trans (dW _ _)⟩
     have h5:=h4.putObj (F:=[]) (.obj (.loop (rec (if jump.isNone then .ready else .done) jump)))
     rw[OF] at h5 ⊢
     exact h5
    intro e2 a2 W3 PA
    cases e2 with
    | normal =>
     obtain⟨s',Of,n2,n3⟩:=PA
     obtain⟨v,w',k1,k2,k3,k4⟩:=fin none s' W3 n2 n3
     exact⟨v,w',k1,true,_,by rw[k2];rfl,.inl ⟨rfl,s',Of,rfl⟩,k3,k4⟩
    | ret =>
     obtain⟨s',Of,n2,n3⟩:=PA
     obtain⟨v,w',k1,k2,k3,k4⟩:=fin (some .ret) s' W3 n2 n3
     exact⟨v,w',k1,false,_,by rw[k2];rfl,.inr ⟨rfl,.ret,s',Of,rfl⟩,k3,k4⟩
    | exit id =>
     obtain⟨s',Of,n2,n3⟩:=PA
     obtain⟨v,w',k1,k2,k3,k4⟩:=fin (some (.exit id)) s' W3 n2 n3
     exact⟨v,w',k1,false,_,by rw[k2];rfl,.inr ⟨rfl,.exit id,s',Of,rfl⟩,k3,k4⟩
    | goto t=>exact PA.elim
    | panic ch=>exact PA.elim
    | outgrown=>exact PA.elim
   | exit id=>exact hq.elim
   | goto t=>exact hq.elim
   | ret=>exact hq.elim
   | panic ch=>exact hq.elim
   | outgrown=>exact hq.elim
  refine key.mono ?_
  rintro e W2 ⟨v,H',rfl,Z1,QC,RC⟩
  have fin:∀ (st:LoopState) (pe:Option Code) (s:σ) (T1:HL) (iF:st ≠ .busy),Rel ((((l,Blk.obj (.loop (rec st pe)))::cO d::Hx s)++T1)++([]++(ap Hr Tr++F))) W2 ->
    ∃w4,(Instr.endLoop l).run P W2=.ok pe w4 /\ Rel ((cO d::(Hx s++ap Hr (T1::Tr)))++F) w4 /\ Below 0 W1 w4:=by
   intro st pe s T1 iF h4
   have h5:Rel ((l,Blk.obj (.loop (rec st pe)))::(cO d::(Hx s++(ap Hr (T1::Tr)++F)))) W2:=h4.perm (((hpo (Hx s) T1).symm.cons _).cons _)
   have Qh:W2.heap[l]?=some (.loop (rec st pe)):=h5.holds _ List.mem_cons_self
   have dO:=run_endLoop (P:=P) Qh (by rw[OF];exact iF)
   refine⟨W2.putObj l (.loop { rec st pe with state:=.exhausted }),?_,?_,RC.trans (dW _ _)⟩
   ·rw[dO,OF]
   ·have h6:=h5.putObj (F:=[]) (.obj (.loop { rec st pe with state:=.exhausted }))
    have h7:=Rel.drop (X:=[(l,Blk.obj (.loop { rec st pe with state:=.exhausted }))]) (H:=cO d::(Hx s++(ap Hr (T1::Tr)++F))) h6
    rw[<- List.append_assoc] at h7
    exact h7
  have X7:Fm N (coll d::D) L { a with defers:=[coll d]++a.defers }:=⟨hF.size,by rw[hF.defs];rfl,hF.has⟩
  rcases Z1 with ⟨H1,T1,rfl,⟨⟨s,hs,rfl⟩,hT⟩|⟨⟨c,s,hs,rfl⟩,hT⟩⟩
  ·obtain⟨w4,k1,k2,k3⟩:=fin .ready none s T1 (by simp) QC
   exact⟨none,w4,k1,O_ d s T1 hs hT _ w4 X7 k2 (hB.trans (X8.trans k3))⟩
  ·obtain⟨w4,k1,k2,k3⟩:=fin .done (some c) s T1 (by simp) QC
   exact⟨some c,w4,k1,No d c s T1 hs hT _ w4 X7 k2 (hB.trans (X8.trans k3))⟩
theorem yM{α σ τ:Type}{g:Operand}{ps:Array Tmp}{assign body:Code}{encs:α -> Array Value}{xs:List α}{gf:FuncId}{lb:Array Value}(hi:nX L g=true)(hg:jJ L g=.func (.func gf) #[] lb)(eg:∀args w,(callFunc gf args).run P w=.ok (.enter gf args) w)
  (Ax:σ -> HL) (Tx:σ -> List HL) (I:Nat -> σ -> Prop) (Ix:Code -> σ -> Prop) (La:τ -> FL) (Ha:τ -> HL) (Ia:Nat -> α -> τ -> Prop) (UP:∀x,(encs x).size=ps.size) (Re:(ps.toList.all λ p=>decide (p<N))=true)
  (x0:σ) (h0:I 0 x0) {A:HL} {Ts:List HL} (ip ir jp jr:List Nat) (hp:(ip++ir).isPerm (List.range A.length)=true) (hj:(jp++jr).isPerm (List.range Ts.length)=true) (Hr:HL) (Tr:List HL) (Wj:ir.filterMap (A[·]?)=Hr) (own:HL) {Te Tx':HL -> Prop} (V6:jr.filterMap (Ts[·]?)=own::Tr) (hA:ip.filterMap (A[·]?)=Ax x0) (hT:jp.filterMap (Ts[·]?)=Tx x0)
  (hit:Oo P gf lb own (ap Hr Tr++F) encs xs Te Tx')
  (rW:∀ (l i:Nat) (x:α) (s:σ) (Y:HL) (w1:World),xs[i]?=some x -> I i s -> TR (some l) P N [] (Y++(ap Hr Tr++F)) w1 (oA ps.toList (encs x).toList L) (ap (Ax s) (Tx s)) assign (Exit.then (Kv N [] (Y++(ap Hr Tr++F)) w1 La Ha (Ia i x)) (λ _ _ _=>False)))
  (Po:∀ (l i:Nat) (x:α) (t:τ) (Y:HL) (w1:World),xs[i]?=some x -> Ia i x t -> TR (some l) P N [] (Y++(ap Hr Tr++F)) w1 (La t) (Ha t) body (RQ (Y++(ap Hr Tr++F)) w1 (λ s=>ap (Ax s) (Tx s)) (I (i+1)) Ix))
  (O_:∀ (d:Nat) (s:σ) (T1:HL),I xs.length s -> Te T1 -> EX N (coll d::D) F w0 L (ap (cO d::(Ax s++Hr)) (Tx s++T1::Tr)) Q .normal)
  (No:∀ (d:Nat) (c:Code) (s:σ) (T1:HL),Ix c s -> Tx' T1 -> TR none P N (coll d::D) F w0 L (ap (cO d::(Ax s++Hr)) (Tx s++T1::Tr)) c Q) :
  TR none P N D F w0 L (ap A Ts) (.rangeFunc g ps assign body) Q:=by
 have Xm:∀ (d:Nat) (s:σ) (Tr:List HL),(ap (cO d::(Ax s++Hr)) (Tx s++Tr)).Perm (cO d::(ap (Ax s) (Tx s)++ap Hr Tr)):=λ d s Tr=>by
  show (cO d::((Ax s++Hr)++(Tx s++Tr).flatten)).Perm _
  refine List.Perm.cons _ ?_
  rw[List.flatten_append]
  show ((Ax s++Hr)++((Tx s).flatten++Tr.flatten)).Perm ((Ax s++(Tx s).flatten)++(Hr++Tr.flatten))
  rw[List.append_assoc,List.append_assoc]
  refine List.Perm.append_left _ ?_
  rw[<- List.append_assoc,<- List.append_assoc]
  exact List.Perm.append_right _ List.perm_append_comm
 exact CB hi hg eg (λ s=>ap (Ax s) (Tx s)) I Ix La Ha Ia UP Re x0 h0 ip ir jp jr hp hj Hr Tr Wj own V6 (by rw[hA,hT]) hit rW Po
  (λ d s T1 hs hT a w h1 h2 h3=>O_ d s T1 hs hT a w h1 (h2.perm ((Xm d s _).append_right F)) h3) (λ d c s T1 hs hT a w h1 h2 h3=>No d c s T1 hs hT a w h1 (h2.perm ((Xm d s _).append_right F)) h3)
end
section
variable {P:Program} {N:Nat} {D:List Deferred} {F:HL} {w0:World} {R:HL} {s:Cfg} {Q:Exit -> Act -> World -> Prop}
def NR(c:Fo)(d:Nat)(ip jp:List Nat)(A:HL)(Ts:List HL)(T1:HL)(s:Cfg):Cfg:=match s with
 | ⟨_,k,L,A',Rj⟩=>⟨c,k,L,cO d::(A++(oth ip A'.length).filterMap (A'[·]?)),Ts++T1::((oth jp Rj.length).filterMap (Rj[·]?)).tail⟩
theorem CC{α σ τ:Type}{encs:α -> Array Value}{xs:List α}{gf:FuncId}{lb:Array Value}(eg:∀args w,(callFunc gf args).run P w=.ok (.enter gf args) w)
  (S:σ -> HL × List HL) (I:Nat -> σ -> Prop) (Ix:Code -> σ -> Prop) (W:τ -> Inv) (Ia:Nat -> α -> τ -> Prop) (x0:σ) (h0:I 0 x0) (ip jp:List Nat)
  (own:HL) {Te Tx:HL -> Prop} (hit:Oo P gf lb own (ap (eR ip s) (fL jp s).tail++F) encs xs Te Tx)
  (rW:∀ (l i:Nat) (x:α) (s1:σ) (Y:HL) (w1:World),xs[i]?=some x -> I i s1 ->
   (∀ {s':Cfg} {R':HL} (t:τ) (TH TG:List Nat),Ia i x t -> (hm:Dm s'=some (MV N [] (Y++(ap (eR ip s) (fL jp s).tail++F)) w1 W (Ia i x)):=by kernel_rfl) -> (h:uB (W t) TH TG s'=oa (W t):=by kernel_rfl) -> (hp:cE TH TG s'=true:=by kernel_rfl) -> RN (some l) P N [] (Y++(ap (eR ip s) (fL jp s).tail++F)) w1 R' s' (λ _ _ _=>False)) ->
   RN (some l) P N [] (Y++(ap (eR ip s) (fL jp s).tail++F)) w1 (eR ip s++R) (MM (MV N [] (Y++(ap (eR ip s) (fL jp s).tail++F)) w1 W (Ia i x)) (encs x).toList (S s1).1 (S s1).2 s) (λ _ _ _=>False))
  (Po:∀ (l i:Nat) (x:α) (t:τ) (Y:HL) (w1:World),xs[i]?=some x -> Ia i x t -> RN (some l) P N [] (Y++(ap (eR ip s) (fL jp s).tail++F)) w1 (eR ip s++R) (MN (W t) s) (RQ (Y++(ap (eR ip s) (fL jp s).tail++F)) w1 (λ s=>ap (S s).1 (S s).2) (I (i+1)) Ix))
  (O_:∀ (d:Nat) (s1:σ) (T1:HL),I xs.length s1 -> Te T1 -> RN none P N (coll d::D) F w0 R (NR (.ex .normal) d ip jp (S s1).1 (S s1).2 T1 s) Q)
  (No:∀ (d:Nat) (c:Code) (s1:σ) (T1:HL),Ix c s1 -> Tx T1 -> RN none P N (coll d::D) F w0 R (NR (.code c) d ip jp (S s1).1 (S s1).2 T1 s) Q)
  (Re:HP N s=true:=by kernel_rfl) (hp:cE ip jp s=true:=by kernel_rfl) (hH:picks ip jp s=((S x0).1,(S x0).2):=by kernel_rfl) (ho:(fL jp s).head?=some own:=by kernel_rfl) (hG:(lG s).map (·.1)=some (.func (.func gf) #[] lb):=by kernel_rfl) (AT:∀x:α,(lG s).map (·.2)=some (encs x).size:=by intro x;kernel_rfl):RN none P N D F w0 R s Q:=by
 refine⟨λ hR=>?_⟩
 obtain⟨c,k,L,A,Ts⟩:=s
 unfold cE at hp
 unfold picks at hH
 rw[Bool.and_eq_true] at hp
 simp only[Prod.mk.injEq] at hH
 cases c with
 | ops _ _=>simp[lG] at hG
 | ex _=>simp[lG] at hG
 | drw _ _=>simp[lG] at hG
 | code c =>
 cases c with
 | rangeFunc g ps assign body =>
  have hi:nX L g=true:=by
   cases h:nX L g with
   | true=>rfl
   | false=>simp[lG,h] at hG
  simp only[lG,hi,Option.map_some,Option.some.injEq] at hG AT
  simp only[HP] at Re
  have Uh:∀ (Y:HL),∀y∈eR ip ⟨.code (.rangeFunc g ps assign body),k,L,A,Ts⟩++R,y∈Y++(ap (eR ip ⟨.code (.rangeFunc g ps assign body),k,L,A,Ts⟩) (fL jp ⟨.code (.rangeFunc g ps assign body),k,L,A,Ts⟩).tail++F):=by
   intro Y y hy
   rcases List.mem_append.1 hy with hy|hy
   ·exact List.mem_append_right _ (List.mem_append_left _ (List.mem_append_left _ hy))
   ·exact List.mem_append_right _ (List.mem_append_right _ (hR y hy))
  have AS:(oth jp Ts.length).filterMap (Ts[·]?)=own::((oth jp Ts.length).filterMap (Ts[·]?)).tail:=by
   have h1:((oth jp Ts.length).filterMap (Ts[·]?)).head?=some own:=ho
   generalize (oth jp Ts.length).filterMap (Ts[·]?)=l at h1 ⊢
   cases l with
   | nil=>cases h1
   | cons x l=>simp only[List.head?_cons,Option.some.injEq] at h1;rw[h1];rfl
  exact yM (assign:=assign) (body:=body) hi hG eg (λ s=>(S s).1) (λ s=>(S s).2) I Ix (λ t=>(W t).L) (λ t=>ap (W t).A (W t).Ts) Ia (λ x=>(AT x).symm) Re x0 h0 ip (oth ip A.length) jp (oth jp Ts.length) hp.1 hp.2 _ _ rfl own AS hH.1 hH.2 hit
   (λ l i x s1 Y w1 hx hi=>(rW l i x s1 Y w1 hx hi (λ t TH TG ht hm h hp=>s7 t TH TG ht hm h hp)).h (Uh Y))
   (λ l i x t Y w1 hx ht=>(Po l i x t Y w1 hx ht).h (Uh Y))
   (λ d s1 T1 hs hT=>(O_ d s1 T1 hs hT).h hR) (λ d c s1 T1 hs hT=>(No d c s1 T1 hs hT).h hR)
 | _=>simp[lG] at hG
def mkC(i:Nat)(s:Cfg):Cfg:=match s with
 | ⟨c,k,L,A,Ts⟩=>⟨c,k,L,(oth [i] A.length).filterMap (A[·]?),Ts⟩
theorem LV.mark{fn:Func}{R':Value -> HL -> Prop}{d:Nat}(i:Nat)(hk:LV P N D F w0 R fn R' (mkC i s))(h:((s.A[i]?),([i]++oth [i] s.A.length).isPerm (List.range s.A.length))=(some (cO d),true):=by kernel_rfl):LV P N (coll d::D) F w0 R fn R' s:=by
 simp only[Prod.mk.injEq] at h
 refine⟨λ hR a w hF bY hB=>?_⟩
 obtain⟨c,k,L,A,Ts⟩:=s
 simp only at h hF bY
 have hp:=fU A [i] (oth [i] A.length) h.2
 simp only[List.filterMap_cons,h.1,List.filterMap_nil,List.cons_append,List.nil_append] at hp
 have h1:Rel ((d,Blk.obj (.deferred (some [])))::(ap ((oth [i] A.length).filterMap (A[·]?)) Ts++F)) w:=by
  refine bY.perm ?_
  have h2:(cO d::ap ((oth [i] A.length).filterMap (A[·]?)) Ts).Perm (ap A Ts):=List.Perm.append_right Ts.flatten hp
  exact h2.append_right F
 have hd:w.heap[d]?=some (.deferred (some [])):=h1.holds (cO d) (by simp)
 have h2:=(h1.putObj (F:=[]) (.obj (.deferred none)))
 rw[hF.defs]
 refine⟨by simp,.inl ⟨d,_,rfl,run_takeDeferred hd,?_⟩⟩
 exact hk.h hR { a with defers:=D } _ ⟨hF.size,rfl,hF.has⟩ (Rel.drop (X:=[(d,Blk.obj (.deferred none))]) h2) (hB.trans (dW _ _))
end
theorem Ge(c0 c1 c2 c3 c4:Value)(F:HL):SpD Tryz.prog 34 #[c0,c1,c2,c3,c4] [] F (λ _ H'=>H'=[]):=by
 intro w hR
 refine callsDIn_of_wpSIn (F:=Wr none) (n:=0) Tryz.func34 rfl trivial λ c₀ cs hu=>?_
 have Xh:recoverD (c₀::cs)=none:=by simp[recoverD,hu]
 refine wpSIn_seq (wpSIn_region ?_)
 show wpOpsSIn _ _ _ _ _ [0,1] _ _ _
 simp only[wpOpsSIn,List.getElem?_toArray,List.getElem?_cons_zero,List.getElem?_cons_succ]
 simp[wpOpsSIn,go_sem,Xh,Tryz.ntmps34,Exit.thenS]
 refine wpSIn_cond (t:=false) (by simp[Act.eval,Array.replicate]) ?_
 refine wpSIn_of_wpIn rfl ?_
 refine wpIn_skip ?_
 simp[bodyPostS,results,Tryz.results34,hu]
 exact⟨.returning,by cases c₀;simp at hu;subst hu;rfl,hu ▸ rfl,hR,Below.refl _ _⟩
abbrev db(S:Setup)(j:Nat × Int)(n:Nat)(xs:List Inp):Gm:=⟨S,none,eO j.1,0,bC j.1 0,bC j.1 1,bC j.1 2,j.2,0,0,n,0,0,xs,jF j.1⟩
def AtOk(F:HL)(bp:Nat)(t:Int)(j:Nat × Int):Prop:=∀F',(∀x∈F,x∈F') -> Sp Tryz.prog 12 #[vP bp 0,vI t] (ap [] []) F' (λ u H'=>∃x:Option Addr × Nat × HL,H'=ap [] [x.2.2] /\ (u=.tuple #[vI j.2,.agg #[.slice x.1 (eO j.1) x.2.1,vI (bC j.1 0),vI (bC j.1 1),vI (bC j.1 2)]] /\ ClS kG 98 (jF j.1) x.1 x.2.1 x.2.2))
theorem AtOk.mono{F F':HL}{bp:Nat}{t:Int}{j:Nat × Int}(h:AtOk F bp t j)(hs:∀x∈F,x∈F'):AtOk F' bp t j:=λ F2 h2=>h F2 λ x hx=>h2 x (hs x hx)
theorem Book1.at{j bp:Nat}{TB F:HL}(hB:Book1 j bp TB)(hT:∀x∈TB,x∈F)(hj:j<5)(t:Int)(ht:0 <= t):AtOk F bp t (j,0):=λ F' hF=>Jd hB (λ x hx=>hF x (hT x hx)) hj t ht
abbrev NS(x:Eff × Bool):Array Value:=#[.agg #[vI x.1.t,vI x.1.i,vI x.1.k,vI x.1.v,.bool x.2]]
theorem ClS.code{j:Nat}(hj:j<5){A:Option Addr}{c:Nat}{Hl F:HL}(h:ClS kG 98 (jF j) A c Hl)(hF:∀x∈Hl,x∈F):CodeIn F (jF j) A (eO j):=by
 have hl:=wD hj
 have hb:=Av hj
 obtain⟨A0,h⟩:=h
 rcases h with ⟨h1,rfl,rfl,rfl⟩|⟨b,rfl,rfl,h3⟩
 ·rw[h1] at hl
  rw[<- hl]
  exact .nil _
 ·exact .mk b c _ (hF _ (List.mem_singleton.2 rfl)) (by rw[<- hl];exact h3) (by omega)
theorem qp{S:Setup}{A:Option Addr}{j:Nat × Int}{c ib io n ic N:Nat}{full xs:List Inp}(hx:∀k,k<n -> full.getD (io+k) dI=xs.getD k dI):GEq ⟨S,A,eO j.1,c,bC j.1 0,bC j.1 1,bC j.1 2,j.2,ib,io,n,ic,N,full,jF j.1⟩ (db S j n xs) :=
 ⟨rfl,λ k hk=>(hx k hk).trans (by rw[Nat.zero_add])⟩
theorem kS{g g0:Gm}(e:GEq g g0)(mb:Nat)(M:MemS)(k:Nat)(T F:HL)(hM:MemH mb M (k+20) T)(hg:GmIn F g)(h0:qQ M)(Wu:Int)(Vk:g.version=Wu):Sp Tryz.prog 64 #[.iface 41 (vP mb 0),.agg #[vI g.S.players,vS g.S.bb (g.S.bo*9) g.S.nb g.S.bc,vI g.S.box.x0,vI g.S.box.y0,vI g.S.box.x1,vI g.S.box.y1,.slice g.S.rA g.S.rn g.S.rc,.slice g.S.dA g.S.dn g.S.dc,vI g.S.fog,vI g.S.g.x,vI g.S.g.y,vI g.S.push,vI g.S.drag,vI g.S.rest,vI g.S.rounds,vI g.S.fuel],.agg #[.slice g.cA g.cn g.cc,vI g.e0,vI g.e1,vI g.e2],vI Wu,vS g.ib (g.io*3) g.ni g.ic] (ap [] [T]) F (λ u H'=>∃x,H'=ap [] [x] /\ (MemH mb (dp g0 M) k x /\ u=.tuple #[.bool (fB g0 M),.agg #[vI ((cF g0 M).e.t),vI ((cF g0 M).e.i),vI ((cF g0 M).e.k),vI ((cF g0 M).e.v)],.bool ((cF g0 M).em)])):=by
 have h:=BE g mb M k T F hM hg h0 Wu Vk
 rwa [dp,Ek e,tn e] at h
theorem Jf(S:Setup)(bp gb mb q1 q2 ib io N ni ic m k:Nat)(j:Nat × Int)(full xs:List Inp)(M:MemS)(F:HL)(hj:j.1<5)(hA:AtOk F bp (M.get 0) j)(hg:(gb,.lit (ij S bp mb) 86 (0,0))∈F)(h1:(q1,.lit [vP gb 0] 38 (0,0))∈F)(h2:(q2,.lit [vS ib (io*3) ni ic] 45 (0,0))∈F)(hS:SetIn F S)(hE:fv F)(hI:(ib,.rows 3 N (mO full) 93 (0,0))∈F)(hir:io+ni <= N /\ ni <= 1000000)(hx:∀k,k<ni -> full.getD (io+k) dI=xs.getD k dI)(T:HL)(hM:MemH mb M (k+20*m+20) T)(h0:0 <= M.get 0)(QB:eL (db S j ni xs) (m+1) M)(lp:Nat)(X:HL)(J:Nat -> HL -> Prop)(Jx:HL -> Prop)(T0:HL)(hY:∀i x H Y,(ie (db S j ni xs) (m+1) M)[i]?=some x -> J i H -> YL Tryz.prog lp (NS x) H (Y++(X++F)) (λ b H'=>(b=true /\ J (i+1) H') \/ (b=false /\ Jx H')))(RM:J 0 T0):Sp Tryz.prog 63 #[.func (.yield lp) #[] #[],vP q1 0,vP q2 0] (ap [] [T0,T]) (X++F) (λ _ H'=>∃x:HL × HL,H'=ap [] [x.1,x.2] /\ ((J (ie (db S j ni xs) (m+1) M).length x.1 /\ MemH mb (dD (db S j ni xs) (m+1) M) k x.2) \/ Jx x.1)):=by
 have US:=List.mem_append_right X hg
 have PY:=List.mem_append_right X h1
 have L_:=List.mem_append_right X h2
 have PM:SetIn (X++F) S:=hS.up
 have UZ:fv (X++F):=List.mem_append_right X hE
 have Qc:=List.mem_append_right X hI
 have WJ:AtOk (X++F) bp (M.get 0) j:=hA.mono λ x hx=>List.mem_append_right X hx
 refine Sp.run Tryz.func63 rfl (mc US (mc PY (mc L_ mn))) (A:=[]) (Ts:=[T0,T]) rfl λ w0=>?_
 refine aa 1 [] λ _=>RN.draw [12] []<|af [] [0,4,1,2,3] [.ro 1,.ro 1,.ro 0]<|au [] 5 (λ X_=>(vH S bp gb mb M (k+20*m+20) T _ (sY US) hM (bt 1)))<|d5 6 10 ?_ ?_
 ·refine RDO.ct [] (Hp:=[]) (Tp:=[]) [] [] (WJ _ (λ x hx=>bK hx)) ?_
  rintro _ ⟨A1,c2,T3⟩ ⟨rfl,hc4⟩
  dsimp only at hc4
  refine af [] [7,8,9] []<|RD.one 10 (RDO.ev [] [] λ n5=>?_)
  refine af [] [11] []<|RD.one 12 (RDO.ev [] [.own 0,.own 0,.own 0,.own 0] λ _=>?_)
  refine RD.fin<|aa 2 [] λ _=>RN.loop (σ:=Nat × Nat × MemS × HL × HL) (λ ⟨r,i_,M_,T_,J_⟩=>⟨[(0,.func (.yield lp) #[] #[]),(1,vP q1 0),(2,vP q2 0),(4,vI j.2),(5,vP (n5+0) 0)],[((n5+0),.lit [.slice A1 (eO j.1) c2,vI (bC j.1 0),vI (bC j.1 1),vI (bC j.1 2)] 50 (0,0))],[T_,J_,T3],i_+(r+1)=m+1 /\ eL (db S j ni xs) (r+1) M_ /\ dD (db S j ni xs) (r+1) M_=dD (db S j ni xs) (m+1) M /\ MemH mb M_ (k+20*r+20) T_ /\ (ie (db S j ni xs) (m+1) M).drop i_=ie (db S j ni xs) (r+1) M_ /\ J i_ J_,r⟩) (m,0,M,T,T0) [0] [2,1,0] (⟨by omega,QB,rfl,hM,rfl,RM⟩) ?_
  rintro⟨r,i_,M_,T_,J_⟩ ⟨hd_,w_,PG,PD,QL,Qb⟩ Ww
  refine aa 2 [] λ _=>RN.draw [12,19] []<|af [] [0,5,9,10,11,1,6,2,7,3,8,4] [.ro 1,.ro 1,.own 0,.own 0,.own 0,.own 0,.ro 2,.ro 0,.ro 0,.ro 0,.ro 0,.ro 0,.ro 0,.ro 0,.ro 0,.ro 0,.ro 0,.ro 0,.ro 0,.ro 0,.ro 0,.ro 0,.ro 0,.ro 0]<|d5 12 17 ?_ ?_
  ·refine RDO.ct [] [] [0] (kS (g:=(⟨S,A1,eO j.1,c2,bC j.1 0,bC j.1 1,bC j.1 2,j.2,ib,io,ni,ic,N,full,jF j.1⟩:Gm)) (qp hx) mb M_ (k+20*r) T_ _ PD ⟨PM.up,bK Qc,hir,bK UZ,hc4.code hj (aS 1)⟩ w_.1 j.2 rfl) ?_
   rintro _ T8 ⟨R5,rfl⟩
   refine af [] [13,14,15,16] []<|RD.one 17 (RDO.ev [] [] λ Qw=>?_)
   refine af [] [18] []<|RD.one 19 (RDO.ev [] [.own 0,.own 0,.own 0,.own 0] λ _=>?_)
   refine af [] [20] []<|RD.fin<|aa 7 [.own 0,.own 0,.own 0,.own 0] λ _=>RN.yield 1 (hY i_ ((cF (db S j ni xs) M_).e,(cF (db S j ni xs) M_).em) _ _ (gm QL).1 Qb) ?_
   rintro b_ Pp (⟨rfl,Uq⟩|⟨rfl,Uq⟩)
   ·refine aa 6 [] λ _=>RN.eb (fB (db S j ni xs) M_) 44 (λ Qd=>?_) λ Qd=>?_
    ·refine aa 1 [] λ _=>RN.ret [] [] [0,1] (v:=.tuple #[]) (H':=(ap [] [Pp,T8])) ?_
     have er:r=0:=by
      rcases w_.2 with ⟨e,_⟩|⟨e,_⟩
      ·exact e
      ·have hh:fB (db S j ni xs) M_=true:=by assumption
       rw[e] at hh;cases hh
     subst er
     have ed:i_+1=(ie (db S j ni xs) (m+1) M).length:=by rw[ig];omega
     refine⟨(Pp,T8),rfl,.inl ⟨?_,?_⟩⟩
     ·rw[<- ed];exact Uq
     ·rw[<- PG];exact R5.weak (by omega)
    ·refine aa 3 [] λ _=>?_
     have QJ:=w_.2
     rcases QJ with ⟨_,e_⟩|⟨_,QJ⟩
     ·exact absurd e_ (by assumption)
     rcases r with _|r
     ·exact QJ.elim
     refine Ww (r,i_+1,(dp (db S j ni xs) M_),T8,Pp) [1] [1,0,2] ?_
     try dsimp only
     exact⟨⟨by omega,QJ,PG,R5.weak (by omega),(gm QL).2,Uq⟩,by omega⟩
   ·refine aa 7 [] λ _=>RN.ret [] [] [0,1] (v:=.tuple #[]) (H':=(ap [] [Pp,T8])) ?_
    exact⟨(Pp,T8),rfl,.inr Uq⟩
  ·refine RDO.ev [] [] λ WY=>RD.one 12 (RDO.ct [] [] [0] (kS (g:=(⟨S,A1,eO j.1,c2,bC j.1 0,bC j.1 1,bC j.1 2,j.2,ib,io,ni,ic,N,full,jF j.1⟩:Gm)) (qp hx) mb M_ (k+20*r) T_ _ PD ⟨PM.up,bK Qc,hir,bK UZ,hc4.code hj (aS 1)⟩ w_.1 j.2 rfl) ?_)
   rintro _ QQ ⟨P7,rfl⟩
   refine af [] [13,14,15,16,18] []<|RD.one 19 (RDO.ev [] [.own 0,.own 0,.own 0,.own 0] λ _=>?_)
   refine af [] [20] []<|RD.fin<|aa 7 [.own 0,.own 0,.own 0,.own 0] λ _=>RN.yield 1 (hY i_ ((cF (db S j ni xs) M_).e,(cF (db S j ni xs) M_).em) _ _ (gm QL).1 Qb) ?_
   rintro b_ Q7 (⟨rfl,Up⟩|⟨rfl,Up⟩)
   ·refine aa 6 [] λ _=>RN.eb (fB (db S j ni xs) M_) 44 (λ Tg=>?_) λ Tg=>?_
    ·refine aa 1 [] λ _=>RN.ret [] [] [0,1] (v:=.tuple #[]) (H':=(ap [] [Q7,QQ])) ?_
     have er:r=0:=by
      rcases w_.2 with ⟨e,_⟩|⟨e,_⟩
      ·exact e
      ·have hh:fB (db S j ni xs) M_=true:=by assumption
       rw[e] at hh;cases hh
     subst er
     have ed:i_+1=(ie (db S j ni xs) (m+1) M).length:=by rw[ig];omega
     refine⟨(Q7,QQ),rfl,.inl ⟨?_,?_⟩⟩
     ·rw[<- ed];exact Up
     ·rw[<- PG];exact P7.weak (by omega)
    ·refine aa 3 [] λ _=>?_
     have QJ:=w_.2
     rcases QJ with ⟨_,e_⟩|⟨_,QJ⟩
     ·exact absurd e_ (by assumption)
     rcases r with _|r
     ·exact QJ.elim
     refine Ww (r,i_+1,(dp (db S j ni xs) M_),QQ,Q7) [1] [1,0,2] ?_
     try dsimp only
     exact⟨⟨by omega,QJ,PG,P7.weak (by omega),(gm QL).2,Up⟩,by omega⟩
   ·refine aa 7 [] λ _=>RN.ret [] [] [0,1] (v:=.tuple #[]) (H':=(ap [] [Q7,QQ])) ?_
    exact⟨(Q7,QQ),rfl,.inr Up⟩
 ·refine RDO.ev [] [] λ TE=>RD.one 6 (RDO.ct [] (Hp:=[]) (Tp:=[]) [] [] (WJ _ (λ x hx=>bK hx)) ?_)
  rintro _ ⟨A21,c22,WU⟩ ⟨rfl,V3⟩
  dsimp only at V3
  refine af [] [7,8,9,11] []<|RD.one 12 (RDO.ev [] [.own 0,.own 0,.own 0,.own 0] λ _=>?_)
  refine RD.fin<|aa 2 [] λ _=>RN.loop (σ:=Nat × Nat × MemS × HL × HL) (λ ⟨r,i_,M_,T_,J_⟩=>⟨[(0,.func (.yield lp) #[] #[]),(1,vP q1 0),(2,vP q2 0),(4,vI j.2),(5,vP (TE+0) 0)],[((TE+0),.lit [.slice A21 (eO j.1) c22,vI (bC j.1 0),vI (bC j.1 1),vI (bC j.1 2)] 50 (0,0))],[T_,J_,WU],i_+(r+1)=m+1 /\ eL (db S j ni xs) (r+1) M_ /\ dD (db S j ni xs) (r+1) M_=dD (db S j ni xs) (m+1) M /\ MemH mb M_ (k+20*r+20) T_ /\ (ie (db S j ni xs) (m+1) M).drop i_=ie (db S j ni xs) (r+1) M_ /\ J i_ J_,r⟩) (m,0,M,T,T0) [0] [2,1,0] (⟨by omega,QB,rfl,hM,rfl,RM⟩) ?_
  rintro⟨r,i_,M_,T_,J_⟩ ⟨hd_,w_,PG,PD,QL,Qb⟩ W0
  refine aa 2 [] λ _=>RN.draw [12,19] []<|af [] [0,5,9,10,11,1,6,2,7,3,8,4] [.ro 1,.ro 1,.own 0,.own 0,.own 0,.own 0,.ro 2,.ro 0,.ro 0,.ro 0,.ro 0,.ro 0,.ro 0,.ro 0,.ro 0,.ro 0,.ro 0,.ro 0,.ro 0,.ro 0,.ro 0,.ro 0,.ro 0,.ro 0]<|d5 12 17 ?_ ?_
  ·refine RDO.ct [] [] [0] (kS (g:=(⟨S,A21,eO j.1,c22,bC j.1 0,bC j.1 1,bC j.1 2,j.2,ib,io,ni,ic,N,full,jF j.1⟩:Gm)) (qp hx) mb M_ (k+20*r) T_ _ PD ⟨PM.up,bK Qc,hir,bK UZ,V3.code hj (aS 1)⟩ w_.1 j.2 rfl) ?_
   rintro _ RO ⟨Qu,rfl⟩
   refine af [] [13,14,15,16] []<|RD.one 17 (RDO.ev [] [] λ Zg=>?_)
   refine af [] [18] []<|RD.one 19 (RDO.ev [] [.own 0,.own 0,.own 0,.own 0] λ _=>?_)
   refine af [] [20] []<|RD.fin<|aa 7 [.own 0,.own 0,.own 0,.own 0] λ _=>RN.yield 1 (hY i_ ((cF (db S j ni xs) M_).e,(cF (db S j ni xs) M_).em) _ _ (gm QL).1 Qb) ?_
   rintro b_ WQ (⟨rfl,Uo⟩|⟨rfl,Uo⟩)
   ·refine aa 6 [] λ _=>RN.eb (fB (db S j ni xs) M_) 44 (λ Uv=>?_) λ Uv=>?_
    ·refine aa 1 [] λ _=>RN.ret [] [] [0,1] (v:=.tuple #[]) (H':=(ap [] [WQ,RO])) ?_
     have er:r=0:=by
      rcases w_.2 with ⟨e,_⟩|⟨e,_⟩
      ·exact e
      ·have hh:fB (db S j ni xs) M_=true:=by assumption
       rw[e] at hh;cases hh
     subst er
     have ed:i_+1=(ie (db S j ni xs) (m+1) M).length:=by rw[ig];omega
     refine⟨(WQ,RO),rfl,.inl ⟨?_,?_⟩⟩
     ·rw[<- ed];exact Uo
     ·rw[<- PG];exact Qu.weak (by omega)
    ·refine aa 3 [] λ _=>?_
     have QJ:=w_.2
     rcases QJ with ⟨_,e_⟩|⟨_,QJ⟩
     ·exact absurd e_ (by assumption)
     rcases r with _|r
     ·exact QJ.elim
     refine W0 (r,i_+1,(dp (db S j ni xs) M_),RO,WQ) [1] [1,0,2] ?_
     try dsimp only
     exact⟨⟨by omega,QJ,PG,Qu.weak (by omega),(gm QL).2,Uo⟩,by omega⟩
   ·refine aa 7 [] λ _=>RN.ret [] [] [0,1] (v:=.tuple #[]) (H':=(ap [] [WQ,RO])) ?_
    exact⟨(WQ,RO),rfl,.inr Uo⟩
  ·refine RDO.ev [] [] λ n33=>RD.one 12 (RDO.ct [] [] [0] (kS (g:=(⟨S,A21,eO j.1,c22,bC j.1 0,bC j.1 1,bC j.1 2,j.2,ib,io,ni,ic,N,full,jF j.1⟩:Gm)) (qp hx) mb M_ (k+20*r) T_ _ PD ⟨PM.up,bK Qc,hir,bK UZ,V3.code hj (aS 1)⟩ w_.1 j.2 rfl) ?_)
   rintro _ Wo ⟨Ul,rfl⟩
   refine af [] [13,14,15,16,18] []<|RD.one 19 (RDO.ev [] [.own 0,.own 0,.own 0,.own 0] λ _=>?_)
   refine af [] [20] []<|RD.fin<|aa 7 [.own 0,.own 0,.own 0,.own 0] λ _=>RN.yield 1 (hY i_ ((cF (db S j ni xs) M_).e,(cF (db S j ni xs) M_).em) _ _ (gm QL).1 Qb) ?_
   rintro b_ Yn (⟨rfl,Un⟩|⟨rfl,Un⟩)
   ·refine aa 6 [] λ _=>RN.eb (fB (db S j ni xs) M_) 44 (λ Yc=>?_) λ Yc=>?_
    ·refine aa 1 [] λ _=>RN.ret [] [] [0,1] (v:=.tuple #[]) (H':=(ap [] [Yn,Wo])) ?_
     have er:r=0:=by
      rcases w_.2 with ⟨e,_⟩|⟨e,_⟩
      ·exact e
      ·have hh:fB (db S j ni xs) M_=true:=by assumption
       rw[e] at hh;cases hh
     subst er
     have ed:i_+1=(ie (db S j ni xs) (m+1) M).length:=by rw[ig];omega
     refine⟨(Yn,Wo),rfl,.inl ⟨?_,?_⟩⟩
     ·rw[<- ed];exact Un
     ·rw[<- PG];exact Ul.weak (by omega)
    ·refine aa 3 [] λ _=>?_
     have QJ:=w_.2
     rcases QJ with ⟨_,e_⟩|⟨_,QJ⟩
     ·exact absurd e_ (by assumption)
     rcases r with _|r
     ·exact QJ.elim
     refine W0 (r,i_+1,(dp (db S j ni xs) M_),Wo,Yn) [1] [1,0,2] ?_
     try dsimp only
     exact⟨⟨by omega,QJ,PG,Ul.weak (by omega),(gm QL).2,Un⟩,by omega⟩
   ·refine aa 7 [] λ _=>RN.ret [] [] [0,1] (v:=.tuple #[]) (H':=(ap [] [Yn,Wo])) ?_
    exact⟨(Yn,Wo),rfl,.inr Un⟩
theorem LU(S:Setup)(bp gb mb q1 q2 ib io N ni ic m k:Nat)(j:Nat × Int)(full xs:List Inp)(M:MemS)(F:HL)(hj:j.1<5)(hA:AtOk F bp (M.get 0) j)(hg:(gb,.lit (ij S bp mb) 86 (0,0))∈F)(h1:(q1,.lit [vP gb 0] 38 (0,0))∈F)(h2:(q2,.lit [vS ib (io*3) ni ic] 45 (0,0))∈F)(hS:SetIn F S)(hE:fv F)(hI:(ib,.rows 3 N (mO full) 93 (0,0))∈F)(hir:io+ni <= N /\ ni <= 1000000)(hx:∀k,k<ni -> full.getD (io+k) dI=xs.getD k dI)(T:HL)(hM:MemH mb M (k+20*m+20) T)(h0:0 <= M.get 0)(QB:eL (db S j ni xs) (m+1) M):Oo Tryz.prog 63 #[vP q1 0,vP q2 0] T F NS (ie (db S j ni xs) (m+1) M) (λ T1=>MemH mb (dD (db S j ni xs) (m+1) M) k T1) (λ _=>True):=by
 intro X l J Jx H0 hY h0'
 have e:∀A B:HL,ap [] [A,B]=A++B:=λ A B=>by simp[ap]
 have key:=Jf S bp gb mb q1 q2 ib io N ni ic m k j full xs M F hj hA hg h1 h2 hS hE hI hir hx T hM h0 QB l X J Jx H0 hY h0'
 rw[e] at key
 refine key.mono λ u H' h=>?_
 obtain⟨x,rfl,h⟩:=h
 refine⟨x.1,x.2,e _ _,?_⟩
 rcases h with ⟨a,b⟩|a
 ·exact .inl ⟨a,b⟩
 ·exact .inr ⟨a,trivial⟩
theorem Gf(e:Int)(S:Setup)(bp gb mb:Nat)(M:MemS)(k:Nat)(A:Option Addr)(n cap:Nat)(xs:List Inp)(T F:HL)(hg:(gb,.lit (ij S bp mb) 86 (0,0))∈F)(hM:MemH mb M k T)(hT:∀x∈T,x∈F)(hl:RowL mN 93 F A n xs)(hn:n <= 1000000)(he:cV S.players n xs (M.get 0)=e):Sp Tryz.prog 32 #[vP gb 0,.slice A n cap] [] F (λ u H'=>u=vI e /\ H'=[]):=he ▸ yh S bp gb mb M k A n cap xs T F hg hM hT hl hn
theorem Gg(c0 c1 c2 c3 c4:Value)(F:HL):SpD Tryz.prog 34 #[c0,c1,c2,c3,c4] (ap [] []) F (λ _ H'=>∃_:Unit,H'=ap [] [] /\ True):=by
 exact(Ge c0 c1 c2 c3 c4 F).mono λ u H' h=>⟨(),h,trivial⟩
theorem Gh(S:Setup)(rs:List Bx)(ds:List Dr)(bp gb mb ib io N ni ic m k:Nat)(j:Nat × Int)(full xs:List Inp)(M:MemS)(T U F:HL)(hj:j.1<5)(hA:AtOk F bp (M.get 0) j)(hU:vD S rs ds U)(hE:fv F)(hI:(ib,.rows 3 N (mO full) 93 (0,0))∈F)(hir:io+ni <= N)(Pq:ni <= 1000000)(hmb:m <= 1000000)(hlen:xs.length=ni)(hx:∀k,k<ni -> full.getD (io+k) dI=xs.getD k dI)(hM:MemH mb M (k+20*m+20) T)(h0:0 <= M.get 0)(QB:eL (db S j ni xs) (m+1) M)(hw:cV S.players ni xs (M.get 0)=0):Sp Tryz.prog 13 #[vP gb 0,vS ib (io*3) ni ic] (ap [(gb,.lit (ij S bp mb) 86 (0,0))] [T,U]) F (λ u H'=>∃x:HL × Option Addr × Nat × HL,H'=ap [(gb,.lit (ij S bp mb) 86 (0,0))] [x.1,U,x.2.2.2] /\ (MemH mb (dD (db S j ni xs) (m+1) M) k x.1 /\ SlIs jm 106 (cK (db S j ni xs) (m+1) M) x.2.1 x.2.2.1 x.2.2.2 /\ u=.tuple #[.slice x.2.1 (cK (db S j ni xs) (m+1) M).length x.2.2.1,vI ((m+1:Nat):Int),vI 0])):=by
 have hl:RowL mN 93 F (some ⟨ib,io*3,none⟩) ni xs:=.rows ib io N full (0,0) ni xs hI hir hlen hx
 have Tw:=hM
 refine Sp.runM Tryz.func13 rfl mn (A:=[(gb,.lit (ij S bp mb) 86 (0,0))]) (Ts:=[T,U]) rfl λ w0=>?_
 refine aa 13 [.own 3] λ n1=>al (Gf 0 S bp gb mb M (k+20*m+20) (some ⟨ib,io*3,none⟩) ni ic xs T _ (aC 4) hM (aS 0) hl.up Pq hw)<|aa 18 [.own 3,.own 4] λ _=>al (vG hM (aS 0))<|aa 7 [.own 0] λ n2=>Km (g:=34) (args:=#[]) (cap:=#[vP (n1+0) 0,vP (n2+0) 0,vP (n1+1) 0,vP (n1+2) 0,vP (n1+3) 0])<|aa 7 [.own 4] λ _=>RN.ct (Hp:=[]) (Tp:=[]) [] [] (yi gb ib io ni ic _) ?_
 rintro _ n3 rfl
 refine aa 3 [] λ _=>RN.nt<|DG [1,0,2]<|CC (σ:=Nat × List Eff × Option Addr × Nat × HL) (τ:=(Nat × List Eff × Option Addr × Nat × HL) × Nat × (Eff × Bool)) (encs:=λ (x_:Eff × Bool)=>#[.agg #[vI x_.1.t,vI x_.1.i,vI x_.1.k,vI x_.1.v,.bool x_.2]]) (xs:=(ie (db S j ni xs) (m+1) M)) (enters_of Tryz.func63 (by kernel_rfl) rfl) (λ ⟨c_,IN,B_,b_,E_⟩=>([((n1+1),.lit [.slice B_ IN.length b_] 53 (0,0)),((n1+2),.lit [vI (c_:Int)] 3 (0,0))],[E_])) (λ i_ ⟨c_,IN,B_,b_,E_⟩=>c_=i_ /\ IN=lH ((ie (db S j ni xs) (m+1) M).take i_) /\ SlIs jm 106 IN B_ b_ E_) (λ c_ ⟨c_,IN,B_,b_,E_⟩=>False) (λ ⟨⟨c_,IN,B_,b_,E_⟩,Yt,y_⟩=>⟨[(4,vP (n1+1) 0),(5,vP (n1+2) 0),(6,vP (n1+3) 0),(9,vP (Yt+0) 0)],[((Yt+0),.lit [vI y_.1.t,vI y_.1.i,vI y_.1.k,vI y_.1.v,.bool y_.2] 108 (0,0)),((n1+1),.lit [.slice B_ IN.length b_] 53 (0,0)),((n1+2),.lit [vI (c_:Int)] 3 (0,0))],[E_],True,0⟩) (λ i_ x_ ⟨⟨c_,IN,B_,b_,E_⟩,Yt,y_⟩=>(c_=i_ /\ IN=lH ((ie (db S j ni xs) (m+1) M).take i_) /\ SlIs jm 106 IN B_ b_ E_) /\ y_=x_) (0,[],none,0,[]) (⟨rfl,rfl,SlIs.nil _ _⟩) [5,4] [1] T (LU S bp gb mb (n3+0) (n3+1) ib io N ni ic m k j full xs M _ hj (hA.mono λ x hx=>bK hx) (aC 5) (aC 1) (aC 0) (hU _ (aS 0)).1 (bK hE) (bK hI) ⟨hir,Pq⟩ hx T Tw h0 QB) ?_ ?_ ?_ ?_
 ·rintro l_ i_ x_ ⟨c_,IN,B_,b_,E_⟩ Y4 w5 hx6 ⟨Sh,Pw,P1⟩ Ww
  refine aa 4 (ow 0 5) λ n8=>?_
  refine Ww ((c_,IN,B_,b_,E_),n8,x_) [0,1,2] [0] ?_
  try dsimp only
  exact⟨⟨Sh,Pw,P1⟩,rfl⟩
 ·rintro l_ i_ x_ ⟨⟨c_,IN,B_,b_,E_⟩,Yt,y_⟩ Y9 w10 Vh ⟨⟨Sh,Pw,P1⟩,ey_⟩
  subst ey_
  have hbd_:i_<m+1:=by have:=(List.getElem?_eq_some_iff.1 Vh).1;rwa [ig] at this
  have hel_:IN.length <= i_:=by rw[Pw];have:=vj ((ie (db S j ni xs) (m+1) M).take i_);rw[List.length_take] at this;omega
  refine aq 14 [.own 2,.nw,.own 2,.own 0] [bF ((c_:Int)+1)] λ _=>RN.eb (y_.2) 29 (λ PN=>?_) λ PN=>?_
  ·refine aa 6 [.own 1,.own 0,.own 0,.own 0,.own 0] λ WZ=>kC D8 IN [y_.1] 0 0 rfl P1 (by simp;omega) ?_
   rintro A14 c15 Tk ⟨ZM,hz18⟩
   refine aa 3 [.own 2] λ _=>fS 3 (congrArg (λ v_=>(.lit [vI v_] 3 (0,0):Blk)) (show ((c_:Int)+1)=((c_+1:Nat):Int) by omega))<|fS 2 (congrArg (λ v_=>(.lit [.slice A14 v_ c15] 53 (0,0):Blk)) (show IN.length+1=(IN++[y_.1]).length by simp))<|RN.rn (c_+1,IN++[y_.1],A14,c15,Tk) [2,3] [0] ?_
   try dsimp only
   exact⟨by omega,by rw[EF Vh PN,<- Pw],ZM⟩
  ·refine aa 3 [] λ _=>fS 2 (congrArg (λ v_=>(.lit [vI v_] 3 (0,0):Blk)) (show ((c_:Int)+1)=((c_+1:Nat):Int) by omega))<|RN.rn (c_+1,IN,B_,b_,E_) [1,2] [0] ?_
   try dsimp only
   exact⟨by omega,by rw[Ij Vh PN,<- Pw],P1⟩
 ·rintro d19 ⟨c_,IN,B_,b_,E_⟩ Sj ⟨Sh,Pw,P1⟩ hT21
  refine aa 3 [] λ _=>RN.draw [0,1,2,3,4] []<|fD (σ:=Unit) (λ _=>⟨[(4,vP (n1+1) 0),(5,vP (n1+2) 0),(6,vP (n1+3) 0)],[(d19,.obj (.deferred (some []))),((n1+1),.lit [.slice B_ IN.length b_] 53 (0,0)),((n1+2),.lit [vI (c_:Int)] 3 (0,0)),((n3+1),.lit [vS ib (io*3) ni ic] 45 (0,0)),((n3+0),.lit [vP gb 0] 38 (0,0)),((n2+0),.lit [vI (aV (M.base+(M.lg.length:Int)))] 3 (0,0)),((n1+3),.lit [vI 0] 34 (0,0)),((n1+0),.lit [vP gb 0] 38 (0,0)),(gb,.lit (ij S bp mb) 86 (0,0))],[E_,Sj,U],True,0⟩) ?_ ?_
  ·rintro⟨⟩
   refine aa 1 [] λ _=>Gb ?_
   refine LV.mark 0 ?_
   refine Gc (enters_of Tryz.func34 (by kernel_rfl) rfl) [] [] (Gg _ _ _ _ _ _) ?_
   rintro _ _ _
   refine LV.ret [.own 0,.own 1,.own 5] [7] [1,2,0] (v:=.tuple #[.slice B_ IN.length b_,vI (c_:Int),vI 0]) (H':=(ap [(gb,.lit (ij S bp mb) 86 (0,0))] [Sj,U,E_])) ?_
   have e1:IN=cK (db S j ni xs) (m+1) M:=by rw[Pw,List.take_length,vi]
   have e2:c_=m+1:=by rw[Sh,ig]
   subst e1
   subst e2
   exact⟨(Sj,B_,b_,E_),rfl,hT21,P1,rfl⟩
  ·intro Ss
   refine d5 0 1 ?_ ?_
   ·refine RDO.ev [] [.own 1] λ _=>d5 1 2 ?_ ?_
    ·refine RDO.ev [] [.own 2] λ _=>RD.one 2 (RDO.ev [] [.own 1] λ _=>?_)
     refine RD.one 3 (RDO.ev [] [.own 2] λ _=>?_)
     refine RD.one 4 (RDO.ev [] [.own 6] λ _=>?_)
     exact Ss () [0,1,2,3,4,5,6,7,8] [0,1,2]
    ·refine RDO.ev [] [.own 1] λ _=>RD.one 1 (RDO.ev [] [.own 2] λ _=>?_)
     refine RD.one 3 (RDO.ev [] [.own 2] λ _=>?_)
     refine RD.one 4 (RDO.ev [] [.own 6] λ _=>?_)
     exact Ss () [0,1,2,3,4,5,6,7,8] [0,1,2]
   ·refine RDO.ev [] [.own 2] λ _=>RD.one 0 (RDO.ev [] [.own 1] λ _=>?_)
    refine RD.one 2 (RDO.ev [] [.own 1] λ _=>?_)
    refine RD.one 3 (RDO.ev [] [.own 2] λ _=>?_)
    refine RD.one 4 (RDO.ev [] [.own 6] λ _=>?_)
    exact Ss () [0,1,2,3,4,5,6,7,8] [0,1,2]
 ·exact λ _ _ _ _ h _=>h.elim
end Go.Proofs.YthoijjeddhfcnaaGreatDoor
