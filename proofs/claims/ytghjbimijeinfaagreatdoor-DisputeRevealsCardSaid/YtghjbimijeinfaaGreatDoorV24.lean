import Derived.Test.YtghjbimijeinfaaGreatDoorV23
set_option maxHeartbeats 4000000
set_option maxRecDepth 100000
set_option linter.all false
namespace Go.Proofs.YtghjbimijeinfaaGreatDoor
open Go.RowKit Go.Shelf
def RX(P:Program)(g:FuncId)(lb:Array Value)(own:HL)(F:HL){α:Type}(encs:α -> Array Value)(xs:List α)(Te Tx:HL -> Prop):Prop :=
 ∀ (X:HL) (l:Nat) (J:Nat -> HL -> Prop) (Jx:HL -> Prop) (H0:HL),(∀i x H Y,xs[i]?=some x -> J i H -> YL P l (encs x) H (Y++(X++F)) (λ b H'=>(b=true /\ J (i+1) H') \/ (b=false /\ Jx H'))) -> J 0 H0 ->
  Sp P g (#[.func (.yield l) #[] #[]]++lb) (H0++own) (X++F) (λ _ H'=>∃H1 T1,H'=H1++T1 /\ ((J xs.length H1 /\ Te T1) \/ (Jx H1 /\ Tx T1)))
section
variable {P:Program} {N:Nat} {D:List Deferred} {F:HL} {w0:World} {L:FL} {Q:Exit -> Act -> World -> Prop}
theorem FH{α σ τ:Type}{g:Operand}{ps:Array Tmp}{assign body:Code}{encs:α -> Array Value}{xs:List α}{gf:FuncId}{lb:Array Value}(hi:gB L g=true)(hg:fG L g=.func (.func gf) #[] lb)(eg:∀args w,(callFunc gf args).run P w=.ok (.enter gf args) w)
  (Hx:σ -> HL) (I:Nat -> σ -> Prop) (Ix:Code -> σ -> Prop) (La:τ -> FL) (Ha:τ -> HL) (Ia:Nat -> α -> τ -> Prop) (Zz:∀x,(encs x).size=ps.size) (UA:(ps.toList.all λ p=>decide (p<N))=true)
  (x0:σ) (h0:I 0 x0) {A:HL} {Ts:List HL} (ip ir jp jr:List Nat) (hp:(ip++ir).isPerm (List.range A.length)=true) (hj:(jp++jr).isPerm (List.range Ts.length)=true) (Hr:HL) (Tr:List HL) (hHr:ir.filterMap (A[·]?)=Hr) (own:HL) {Te Tx:HL -> Prop} (hTr:jr.filterMap (Ts[·]?)=own::Tr) (hH:ap (ip.filterMap (A[·]?)) (jp.filterMap (Ts[·]?))=Hx x0)
  (hit:RX P gf lb own (ap Hr Tr++F) encs xs Te Tx)
  (r_:∀ (l i:Nat) (x:α) (s:σ) (Y:HL) (w1:World),xs[i]?=some x -> I i s -> TR (some l) P N [] (Y++(ap Hr Tr++F)) w1 (rj ps.toList (encs x).toList L) (Hx s) assign (Exit.then (NY N [] (Y++(ap Hr Tr++F)) w1 La Ha (Ia i x)) (λ _ _ _=>False)))
  (SV:∀ (l i:Nat) (x:α) (t:τ) (Y:HL) (w1:World),xs[i]?=some x -> Ia i x t -> TR (some l) P N [] (Y++(ap Hr Tr++F)) w1 (La t) (Ha t) body (RQ (Y++(ap Hr Tr++F)) w1 Hx (I (i+1)) Ix))
  (RW:∀ (d:Nat) (s:σ) (T1:HL),I xs.length s -> Te T1 -> EX N (coll d::D) F w0 L (cE d::(Hx s++ap Hr (T1::Tr))) Q .normal)
  (OF:∀ (d:Nat) (c:Code) (s:σ) (T1:HL),Ix c s -> Tx T1 -> TR none P N (coll d::D) F w0 L (cE d::(Hx s++ap Hr (T1::Tr))) c Q) :
  TR none P N D F w0 L (ap A Ts) (.rangeFunc g ps assign body) Q:=by
 intro a w hF hR hB;have hpo:∀ (X:HL) (T1:HL),((X++T1)++(ap Hr Tr++F)).Perm (X++(ap Hr (T1::Tr)++F)):=λ X T1=>by
  rw[aaF];refine List.Perm.append_left X ?_;rw[<- aaF];refine aa8 F ?_;show (T1++(Hr++Tr.flatten)).Perm (Hr++(T1::Tr).flatten);rw[List.flatten_cons,<- aaF,<- aaF];exact aa8 _ aa7
 have TT:Rel ((Hx x0++own)++(ap Hr Tr++F)) w:=by
  have h1:=mu A Ts ip ir jp jr hp hj;rw[hHr,hTr,hH] at h1;have h2:=hR.perm (h1.append_right F);rw[aaF] at h2;exact h2.perm (hpo _ _)
 refine wpIn_rangeFunc ?_;intro fn hfn;obtain⟨rec,Q_⟩:∃rec:LoopState -> Option Code -> Loop,rec=λ st pe=>{ state:=st,pending:=pe,fn,tmps:=a.tmps,params:=ps,assign,body,defers:=w.heap.size }:=⟨_,rfl⟩;obtain⟨W1,hW1⟩:∃W1,(w.alloc (.deferred (some []))).alloc (.loop (rec .ready none))=W1:=⟨_,rfl⟩;have hB1:Below 0 w W1:=by rw[<- hW1];exact(iC _).trans (iC _)
 have hRW:Rel ((w.heap.size+1,Blk.obj (.loop (rec .ready none)))::cE w.heap.size::((Hx x0++own)++(ap Hr Tr++F))) W1:=by
  rw[<- hW1];have h1:=(TT.alloc (.obj (.deferred (some [])))).alloc (.obj (.loop (rec .ready none)));rw[World.size_alloc] at h1;exact h1
 refine⟨w.heap.size+1,[coll w.heap.size],W1,{ target:=.fn (.func gf) lb,args:=#[.func (.yield (w.heap.size+1)) #[] #[]] },W1,gf,#[.func (.yield (w.heap.size+1)) #[] #[]]++lb,W1,?_,?_,?_,?_,λ h=>(by cases h),?_⟩
 ·rw[<- hW1,Q_];exact run_enterLoop_outer _ _ _ _ _
 ·have Yx:a.eval g=.func (.func gf) #[] lb:=(hF.eval hi).trans hg;simp only[resolve,Yx];simp[Deferred.ofValue];rfl
 ·intro f' _;trivial
 ·simp[invoke,eg]
 ·refine j0 ?_;obtain⟨l,hl⟩:∃l,w.heap.size+1=l:=⟨_,rfl⟩;rw[hl] at hRW ⊢;obtain⟨d,hd⟩:∃d,w.heap.size=d:=⟨_,rfl⟩;rw[hd] at hRW Q_ ⊢;have key:=hit [] l (λ i H'=>∃s,I i s /\ H'=(l,Blk.obj (.loop (rec .ready none)))::cE d::Hx s) (λ H'=>∃c s,Ix c s /\ H'=(l,Blk.obj (.loop (rec .done (some c))))::cE d::Hx s)
   ((l,Blk.obj (.loop (rec .ready none)))::cE d::Hx x0) ?round ⟨x0,h0,rfl⟩ W1 hRW
  case round =>
   rintro i x H' Y hx ⟨s,hs,rfl⟩ W aT;have Tt:Rel ((l,Blk.obj (.loop (rec .ready none)))::(cE d::(Hx s++(Y++(ap Hr Tr++F))))) W:=aT;have hlW:W.heap[l]?=some (.loop (rec .ready none)):=Tt.holds _ aaA;have hy:=run_yield (P:=P) (args:=encs x) hlW (by rw[Q_];exact Zz x);rw[Q_] at hy;refine⟨fn,_,assign,body,hy,roundIn_of_wpIn (F:=Wr none) (n:=0) hfn ?_⟩;have hFm:Fm N [] (rj ps.toList (encs x).toList L) { tmps:=(ps.zip (encs x)).foldl (λ t (p,v)=>t.setIfInBounds p v) a.tmps,defers:=[] }:=by
    have h1:=Fm.zip (D:=[]) ps.toList (encs x).toList L a.tmps (λ p hp=>abq (List.all_eq_true.1 UA p hp)) ⟨hF.size,rfl,hF.has⟩;have e:(ps.zip (encs x)).foldl (λ t (p,v)=>t.setIfInBounds p v) a.tmps=(ps.toList.zip (encs x).toList).foldl (λ t (p,v)=>t.setIfInBounds p v) a.tmps:=by
     rw[<- Array.foldl_toList,Array.toList_zip]
    rw[e];exact h1
   have hRA:Rel (Hx s++(((l,Blk.obj (.loop (rec .ready none)))::cE d::Y)++(ap Hr Tr++F))) W:=by
    have:=Tt;refine this.perm ?_;simp only[List.cons_append];refine List.perm_middle.trans ?_;refine List.Perm.cons _ ?_;exact List.perm_middle
   refine wpIn_mono (r_ l i x s ((l,Blk.obj (.loop (rec .ready none)))::cE d::Y) W hx hs _ W hFm hRA (Below.refl _ _)) ?_;intro e a1 Wa hq;cases e with
   | normal =>
    obtain⟨t,ht,m1,m2,m3⟩:=hq;have hRb:Rel ((l,Blk.obj (.loop (rec .ready none)))::(cE d::(Ha t++(Y++(ap Hr Tr++F))))) Wa:=by
     refine m2.perm ?_;simp only[List.cons_append];refine(List.Perm.trans ?_ List.perm_middle.symm);refine List.Perm.cons _ ?_;exact List.perm_middle.symm
    have hla:Wa.heap[l]?=some (.loop (rec .ready none)):=hRb.holds _ aaA;refine⟨_,run_beginRound hla (by rw[Q_]),?_⟩;have hRc:=hRb.putObj (F:=[]) (.obj (.loop { rec .ready none with state:=.busy }));have Up:Rel (Ha t++(((l,Blk.obj (.loop { rec .ready none with state:=.busy }))::cE d::Y)++(ap Hr Tr++F))) (Wa.putObj l (.loop { rec .ready none with state:=.busy })):=by
     refine hRc.perm ?_;simp only[List.cons_append];refine List.perm_middle.trans ?_;refine List.Perm.cons _ ?_;exact List.perm_middle
    refine wpIn_mono (SV l i x t ((l,Blk.obj (.loop { rec .ready none with state:=.busy }))::cE d::Y) W hx ht a1 _ m1 Up (m3.trans (dX _ _))) ?_;have fin:∀ (jump:Option Code) (s':σ) (W3:World),Rel (Hx s'++(((l,Blk.obj (.loop { rec .ready none with state:=.busy }))::cE d::Y)++(ap Hr Tr++F))) W3 -> Below 0 W W3 ->
      ∃v w',(Instr.endRound l jump).run P W3=.ok v w' /\ v=.bool jump.isNone /\ Rel (((l,Blk.obj (.loop (rec (if jump.isNone then .ready else .done) jump)))::cE d::Hx s')++(Y++([]++(ap Hr Tr++F)))) w' /\ Below 0 W w':=by
     intro jump s' W3 h3 YC;have h4:Rel ((l,Blk.obj (.loop { rec .ready none with state:=.busy }))::(cE d::(Hx s'++(Y++(ap Hr Tr++F))))) W3:=by
      refine h3.perm ?_;simp only[List.cons_append];refine(List.Perm.trans ?_ List.perm_middle.symm);refine List.Perm.cons _ ?_;exact List.perm_middle.symm
     have Wc:W3.heap[l]?=some (.loop { rec .ready none with state:=.busy }):=h4.holds _ aaA;have bY:=run_endRound (P:=P) jump Wc;refine⟨_,_,bY,rfl,?_,YC.trans (dX _ _)⟩;have h5:=h4.putObj (F:=[]) (.obj (.loop (rec (if jump.isNone then .ready else .done) jump)));rw[Q_] at h5 ⊢;exact h5
    intro e2 a2 W3 S0;cases e2 with
    | normal =>
     obtain⟨s',O_,n2,n3⟩:=S0;obtain⟨v,w',k1,k2,k3,k4⟩:=fin none s' W3 n2 n3;exact⟨v,w',k1,true,_,by rw[k2];rfl,.inl ⟨rfl,s',O_,rfl⟩,k3,k4⟩
    | ret =>
     obtain⟨s',O_,n2,n3⟩:=S0;obtain⟨v,w',k1,k2,k3,k4⟩:=fin (some .ret) s' W3 n2 n3;exact⟨v,w',k1,false,_,by rw[k2];rfl,.inr ⟨rfl,.ret,s',O_,rfl⟩,k3,k4⟩
    | exit id =>
     obtain⟨s',O_,n2,n3⟩:=S0;obtain⟨v,w',k1,k2,k3,k4⟩:=fin (some (.exit id)) s' W3 n2 n3;exact⟨v,w',k1,false,_,by rw[k2];rfl,.inr ⟨rfl,.exit id,s',O_,rfl⟩,k3,k4⟩
    | goto t=>exact S0.elim
    | panic ch=>exact S0.elim
    | outgrown=>exact S0.elim
   | exit id=>exact hq.elim
   | goto t=>exact hq.elim
   | ret=>exact hq.elim
   | panic ch=>exact hq.elim
   | outgrown=>exact hq.elim
  refine key.mono ?_;rintro e W2 ⟨v,H',rfl,hor,UE,VK⟩;have fin:∀ (st:LoopState) (pe:Option Code) (s:σ) (T1:HL) (hst:st ≠ .busy),Rel ((((l,Blk.obj (.loop (rec st pe)))::cE d::Hx s)++T1)++([]++(ap Hr Tr++F))) W2 ->
    ∃w4,(Instr.endLoop l).run P W2=.ok pe w4 /\ Rel ((cE d::(Hx s++ap Hr (T1::Tr)))++F) w4 /\ Below 0 W1 w4:=by
   intro st pe s T1 hst h4;have h5:Rel ((l,Blk.obj (.loop (rec st pe)))::(cE d::(Hx s++(ap Hr (T1::Tr)++F)))) W2:=h4.perm (((hpo (Hx s) T1).symm.cons _).cons _);have Of:W2.heap[l]?=some (.loop (rec st pe)):=h5.holds _ aaA;have bY:=run_endLoop (P:=P) Of (by rw[Q_];exact hst);refine⟨W2.putObj l (.loop { rec st pe with state:=.exhausted }),?_,?_,VK.trans (dX _ _)⟩
   ·rw[bY,Q_]
   ·have h6:=h5.putObj (F:=[]) (.obj (.loop { rec st pe with state:=.exhausted }));have h7:=Rel.drop (X:=[(l,Blk.obj (.loop { rec st pe with state:=.exhausted }))]) (H:=cE d::(Hx s++(ap Hr (T1::Tr)++F))) h6;rw[<- aaF] at h7;exact h7
  have hFd:Fm N (coll d::D) L { a with defers:=[coll d]++a.defers }:=⟨hF.size,by rw[hF.defs];rfl,hF.has⟩;rcases hor with ⟨H1,T1,rfl,⟨⟨s,hs,rfl⟩,hT⟩|⟨⟨c,s,hs,rfl⟩,hT⟩⟩
  ·obtain⟨w4,k1,k2,k3⟩:=fin .ready none s T1 (by simp) UE;exact⟨none,w4,k1,RW d s T1 hs hT _ w4 hFd k2 (hB.trans (hB1.trans k3))⟩
  ·obtain⟨w4,k1,k2,k3⟩:=fin .done (some c) s T1 (by simp) UE;exact⟨some c,w4,k1,OF d c s T1 hs hT _ w4 hFd k2 (hB.trans (hB1.trans k3))⟩
theorem BW{α σ τ:Type}{g:Operand}{ps:Array Tmp}{assign body:Code}{encs:α -> Array Value}{xs:List α}{gf:FuncId}{lb:Array Value}(hi:gB L g=true)(hg:fG L g=.func (.func gf) #[] lb)(eg:∀args w,(callFunc gf args).run P w=.ok (.enter gf args) w)
  (Ax:σ -> HL) (Tx:σ -> List HL) (I:Nat -> σ -> Prop) (Ix:Code -> σ -> Prop) (La:τ -> FL) (Ha:τ -> HL) (Ia:Nat -> α -> τ -> Prop) (Zz:∀x,(encs x).size=ps.size) (UA:(ps.toList.all λ p=>decide (p<N))=true)
  (x0:σ) (h0:I 0 x0) {A:HL} {Ts:List HL} (ip ir jp jr:List Nat) (hp:(ip++ir).isPerm (List.range A.length)=true) (hj:(jp++jr).isPerm (List.range Ts.length)=true) (Hr:HL) (Tr:List HL) (hHr:ir.filterMap (A[·]?)=Hr) (own:HL) {Te Tx':HL -> Prop} (hTr:jr.filterMap (Ts[·]?)=own::Tr) (hA:ip.filterMap (A[·]?)=Ax x0) (hT:jp.filterMap (Ts[·]?)=Tx x0)
  (hit:RX P gf lb own (ap Hr Tr++F) encs xs Te Tx')
  (r_:∀ (l i:Nat) (x:α) (s:σ) (Y:HL) (w1:World),xs[i]?=some x -> I i s -> TR (some l) P N [] (Y++(ap Hr Tr++F)) w1 (rj ps.toList (encs x).toList L) (ap (Ax s) (Tx s)) assign (Exit.then (NY N [] (Y++(ap Hr Tr++F)) w1 La Ha (Ia i x)) (λ _ _ _=>False)))
  (SV:∀ (l i:Nat) (x:α) (t:τ) (Y:HL) (w1:World),xs[i]?=some x -> Ia i x t -> TR (some l) P N [] (Y++(ap Hr Tr++F)) w1 (La t) (Ha t) body (RQ (Y++(ap Hr Tr++F)) w1 (λ s=>ap (Ax s) (Tx s)) (I (i+1)) Ix))
  (RW:∀ (d:Nat) (s:σ) (T1:HL),I xs.length s -> Te T1 -> EX N (coll d::D) F w0 L (ap (cE d::(Ax s++Hr)) (Tx s++T1::Tr)) Q .normal)
  (OF:∀ (d:Nat) (c:Code) (s:σ) (T1:HL),Ix c s -> Tx' T1 -> TR none P N (coll d::D) F w0 L (ap (cE d::(Ax s++Hr)) (Tx s++T1::Tr)) c Q) :
  TR none P N D F w0 L (ap A Ts) (.rangeFunc g ps assign body) Q:=by
 have hpm:∀ (d:Nat) (s:σ) (Tr:List HL),(ap (cE d::(Ax s++Hr)) (Tx s++Tr)).Perm (cE d::(ap (Ax s) (Tx s)++ap Hr Tr)):=λ d s Tr=>by
  show (cE d::((Ax s++Hr)++(Tx s++Tr).flatten)).Perm _;refine List.Perm.cons _ ?_;rw[List.flatten_append];show ((Ax s++Hr)++((Tx s).flatten++Tr.flatten)).Perm ((Ax s++(Tx s).flatten)++(Hr++Tr.flatten));rw[aaF,aaF];refine List.Perm.append_left _ ?_;rw[<- aaF,<- aaF];exact aa8 _ aa7
 exact FH hi hg eg (λ s=>ap (Ax s) (Tx s)) I Ix La Ha Ia Zz UA x0 h0 ip ir jp jr hp hj Hr Tr hHr own hTr (by rw[hA,hT]) hit r_ SV
  (λ d s T1 hs hT a w h1 h2 h3=>RW d s T1 hs hT a w h1 (h2.perm ((hpm d s _).append_right F)) h3) (λ d c s T1 hs hT a w h1 h2 h3=>OF d c s T1 hs hT a w h1 (h2.perm ((hpm d s _).append_right F)) h3)
end
section
variable {P:Program} {N:Nat} {D:List Deferred} {F:HL} {w0:World} {R:HL} {s:Cfg} {Q:Exit -> Act -> World -> Prop}
def Q9(c:Fo)(d:Nat)(ip jp:List Nat)(A:HL)(Ts:List HL)(T1:HL)(s:Cfg):Cfg:=match s with
 | ⟨_,k,L,A',Vk⟩=>⟨c,k,L,cE d::(A++(oth ip A'.length).filterMap (A'[·]?)),Ts++T1::((oth jp Vk.length).filterMap (Vk[·]?)).tail⟩
theorem FI{α σ τ:Type}{encs:α -> Array Value}{xs:List α}{gf:FuncId}{lb:Array Value}(eg:∀args w,(callFunc gf args).run P w=.ok (.enter gf args) w)
  (S:σ -> HL × List HL) (I:Nat -> σ -> Prop) (Ix:Code -> σ -> Prop) (W:τ -> Inv) (Ia:Nat -> α -> τ -> Prop) (x0:σ) (h0:I 0 x0) (ip jp:List Nat)
  (own:HL) {Te Tx:HL -> Prop} (hit:RX P gf lb own (ap (fm ip s) (gn jp s).tail++F) encs xs Te Tx)
  (r_:∀ (l i:Nat) (x:α) (s1:σ) (Y:HL) (w1:World),xs[i]?=some x -> I i s1 ->
   (∀ {s':Cfg} {R':HL} (t:τ) (Ya X9:List Nat),Ia i x t -> (hm:Ed s'=some (MV N [] (Y++(ap (fm ip s) (gn jp s).tail++F)) w1 W (Ia i x)):=by kernel_rfl) -> (h:wu (W t) Ya X9 s'=oJ (W t):=by kernel_rfl) -> (hp:cg Ya X9 s'=true:=by kernel_rfl) -> RN (some l) P N [] (Y++(ap (fm ip s) (gn jp s).tail++F)) w1 R' s' (λ _ _ _=>False)) ->
   RN (some l) P N [] (Y++(ap (fm ip s) (gn jp s).tail++F)) w1 (fm ip s++R) (Qg (MV N [] (Y++(ap (fm ip s) (gn jp s).tail++F)) w1 W (Ia i x)) (encs x).toList (S s1).1 (S s1).2 s) (λ _ _ _=>False))
  (SV:∀ (l i:Nat) (x:α) (t:τ) (Y:HL) (w1:World),xs[i]?=some x -> Ia i x t -> RN (some l) P N [] (Y++(ap (fm ip s) (gn jp s).tail++F)) w1 (fm ip s++R) (Qh (W t) s) (RQ (Y++(ap (fm ip s) (gn jp s).tail++F)) w1 (λ s=>ap (S s).1 (S s).2) (I (i+1)) Ix))
  (RW:∀ (d:Nat) (s1:σ) (T1:HL),I xs.length s1 -> Te T1 -> RN none P N (coll d::D) F w0 R (Q9 (.ex .normal) d ip jp (S s1).1 (S s1).2 T1 s) Q)
  (OF:∀ (d:Nat) (c:Code) (s1:σ) (T1:HL),Ix c s1 -> Tx T1 -> RN none P N (coll d::D) F w0 R (Q9 (.code c) d ip jp (S s1).1 (S s1).2 T1 s) Q)
  (UA:KW N s=true:=by kernel_rfl) (hp:cg ip jp s=true:=by kernel_rfl) (hH:picks ip jp s=((S x0).1,(S x0).2):=by kernel_rfl) (ho:(gn jp s).head?=some own:=by kernel_rfl) (hG:(mV s).map (·.1)=some (.func (.func gf) #[] lb):=by kernel_rfl) (u_:∀x:α,(mV s).map (·.2)=some (encs x).size:=by intro x;kernel_rfl):RN none P N D F w0 R s Q:=by
 refine⟨λ hR=>?_⟩;obtain⟨c,k,L,A,Ts⟩:=s;unfold cg at hp;unfold picks at hH;rw[abe] at hp;simp only[Prod.mk.injEq] at hH;cases c with
 | ops _ _=>simp[mV] at hG
 | ex _=>simp[mV] at hG
 | drw _ _=>simp[mV] at hG
 | code c =>
 cases c with
 | rangeFunc g ps assign body =>
  have hi:gB L g=true:=by
   cases h:gB L g with
   | true=>rfl
   | false=>simp[mV,h] at hG
  simp only[mV,hi,Option.map_some,Option.some.injEq] at hG u_;simp only[KW] at UA;have YE:∀ (Y:HL),∀y∈fm ip ⟨.code (.rangeFunc g ps assign body),k,L,A,Ts⟩++R,y∈Y++(ap (fm ip ⟨.code (.rangeFunc g ps assign body),k,L,A,Ts⟩) (gn jp ⟨.code (.rangeFunc g ps assign body),k,L,A,Ts⟩).tail++F):=by
   intro Y y hy;rcases List.mem_append.1 hy with hy|hy
   ·exact aau _ (aav _ (aav _ hy))
   ·exact aau _ (aau _ (hR y hy))
  have By:(oth jp Ts.length).filterMap (Ts[·]?)=own::((oth jp Ts.length).filterMap (Ts[·]?)).tail:=by
   have h1:((oth jp Ts.length).filterMap (Ts[·]?)).head?=some own:=ho;generalize (oth jp Ts.length).filterMap (Ts[·]?)=l at h1 ⊢;cases l with
   | nil=>cases h1
   | cons x l=>simp only[List.head?_cons,Option.some.injEq] at h1;rw[h1];rfl
  exact BW (assign:=assign) (body:=body) hi hG eg (λ s=>(S s).1) (λ s=>(S s).2) I Ix (λ t=>(W t).L) (λ t=>ap (W t).A (W t).Ts) Ia (λ x=>(u_ x).symm) UA x0 h0 ip (oth ip A.length) jp (oth jp Ts.length) hp.1 hp.2 _ _ rfl own By hH.1 hH.2 hit
   (λ l i x s1 Y w1 hx hi=>(r_ l i x s1 Y w1 hx hi (λ t Ya X9 ht hm h hp=>rK t Ya X9 ht hm h hp)).h (YE Y))
   (λ l i x t Y w1 hx ht=>(SV l i x t Y w1 hx ht).h (YE Y))
   (λ d s1 T1 hs hT=>(RW d s1 T1 hs hT).h hR) (λ d c s1 T1 hs hT=>(OF d c s1 T1 hs hT).h hR)
 | _=>simp[mV] at hG
def mkC(i:Nat)(s:Cfg):Cfg:=match s with
 | ⟨c,k,L,A,Ts⟩=>⟨c,k,L,(oth [i] A.length).filterMap (A[·]?),Ts⟩
theorem LV.mark{fn:Func}{R':Value -> HL -> Prop}{d:Nat}(i:Nat)(hk:LV P N D F w0 R fn R' (mkC i s))(h:((s.A[i]?),([i]++oth [i] s.A.length).isPerm (List.range s.A.length))=(some (cE d),true):=by kernel_rfl):LV P N (coll d::D) F w0 R fn R' s:=by
 simp only[Prod.mk.injEq] at h;refine⟨λ hR a w hF aT hB=>?_⟩;obtain⟨c,k,L,A,Ts⟩:=s;simp only at h hF aT;have hp:=fc A [i] (oth [i] A.length) h.2;simp only[List.filterMap_cons,h.1,List.filterMap_nil,List.cons_append,List.nil_append] at hp;have h1:Rel ((d,Blk.obj (.deferred (some [])))::(ap ((oth [i] A.length).filterMap (A[·]?)) Ts++F)) w:=by
  refine aT.perm ?_;have h2:(cE d::ap ((oth [i] A.length).filterMap (A[·]?)) Ts).Perm (ap A Ts):=aa8 Ts.flatten hp;exact h2.append_right F
 have hd:w.heap[d]?=some (.deferred (some [])):=h1.holds (cE d) (by simp);have h2:=(h1.putObj (F:=[]) (.obj (.deferred none)));rw[hF.defs];refine⟨by simp,.inl ⟨d,_,rfl,run_takeDeferred hd,?_⟩⟩;exact hk.h hR { a with defers:=D } _ ⟨hF.size,rfl,hF.has⟩ (Rel.drop (X:=[(d,Blk.obj (.deferred none))]) h2) (hB.trans (dX _ _))
end
theorem Jk(c0 c1 c2 c3 c4:Value)(F:HL):SpD Tryz.prog 59 #[c0,c1,c2,c3,c4] [] F (λ _ H'=>H'=[]):=by
 intro w hR;refine callsDIn_of_wpSIn (F:=Wr none) (n:=0) Tryz.func59 rfl trivial λ c₀ cs hu=>?_;have hrc:recoverD (c₀::cs)=none:=by simp[recoverD,hu]
 refine wpSIn_seq (wpSIn_region ?_);show wpOpsSIn _ _ _ _ _ [0,1] _ _ _;simp only[wpOpsSIn,List.getElem?_toArray,List.getElem?_cons_zero,List.getElem?_cons_succ];simp[wpOpsSIn,go_sem,hrc,Tryz.ntmps59,Exit.thenS];refine wpSIn_cond (t:=false) (by simp[Act.eval,Array.replicate]) ?_;refine wpSIn_of_wpIn rfl ?_;refine wpIn_skip ?_;simp[bodyPostS,results,Tryz.results59,hu];exact⟨.returning,by cases c₀;simp at hu;subst hu;rfl,hu ▸ rfl,hR,Below.refl _ _⟩
abbrev gN(S:Setup)(j:Nat × Int)(n:Nat)(xs:List Inp):Gm:=⟨S,none,fP j.1,0,bD j.1 0,bD j.1 1,bD j.1 2,j.2,0,0,n,0,0,xs,kz j.1⟩
def AtOk(F:HL)(bp:Nat)(t:Int)(j:Nat × Int):Prop:=∀F',(∀x∈F,x∈F') -> Sp Tryz.prog 15 #[vP bp 0,vI t] (ap [] []) F' (λ u H'=>∃x:Option Addr × Nat × HL,H'=ap [] [x.2.2] /\ (u=.tuple #[vI j.2,.agg #[.slice x.1 (fP j.1) x.2.1,vI (bD j.1 0),vI (bD j.1 1),vI (bD j.1 2)]] /\ ClS lW 129 (kz j.1) x.1 x.2.1 x.2.2))
theorem AtOk.mono{F F':HL}{bp:Nat}{t:Int}{j:Nat × Int}(h:AtOk F bp t j)(hs:∀x∈F,x∈F'):AtOk F' bp t j:=λ F2 h2=>h F2 λ x hx=>h2 x (hs x hx)
theorem Book1.at{j bp:Nat}{TB F:HL}(hB:Book1 j bp TB)(hT:∀x∈TB,x∈F)(hj:j<5)(t:Int)(ht:0 <= t):AtOk F bp t (j,0):=λ F' hF=>Mb hB (λ x hx=>hF x (hT x hx)) hj t ht
abbrev Ra(x:Eff × Bool):Array Value:=#[.agg #[vI x.1.t,vI x.1.i,vI x.1.k,vI x.1.v,.bool x.2]]
theorem ClS.code{j:Nat}(hj:j<5){A:Option Addr}{c:Nat}{Hl F:HL}(h:ClS lW 129 (kz j) A c Hl)(hF:∀x∈Hl,x∈F):CodeIn F (kz j) A (fP j):=by
 have hl:=zJ hj;have hb:=Dy hj;obtain⟨A0,h⟩:=h;rcases h with ⟨h1,rfl,rfl,rfl⟩|⟨b,rfl,rfl,h3⟩
 ·rw[h1] at hl;rw[<- hl];exact .nil _
 ·exact .mk b c _ (hF _ (List.mem_singleton.2 rfl)) (by rw[<- hl];exact h3) (by omega)
theorem og{S:Setup}{A:Option Addr}{j:Nat × Int}{c ib io n ic N:Nat}{full xs:List Inp}(hx:∀k,k<n -> full.getD (io+k) dI=xs.getD k dI):GEq ⟨S,A,fP j.1,c,bD j.1 0,bD j.1 1,bD j.1 2,j.2,ib,io,n,ic,N,full,kz j.1⟩ (gN S j n xs) :=
 ⟨rfl,λ k hk=>(hx k hk).trans (by rw[Nat.zero_add])⟩
theorem jk{g g0:Gm}(e:GEq g g0)(mb:Nat)(M:MemS)(k:Nat)(T F:HL)(hM:MemH mb M (k+20) T)(hg:GmIn F g)(h0:mX M)(ver:Int)(Z9:g.version=ver):Sp Tryz.prog 18 #[.iface 40 (vP mb 0),.agg #[vI g.S.players,vS g.S.bb (g.S.bo*9) g.S.nb g.S.bc,vI g.S.box.x0,vI g.S.box.y0,vI g.S.box.x1,vI g.S.box.y1,.slice g.S.rA g.S.rn g.S.rc,.slice g.S.dA g.S.dn g.S.dc,vI g.S.fog,vI g.S.g.x,vI g.S.g.y,vI g.S.push,vI g.S.drag,vI g.S.rest,vI g.S.rounds,vI g.S.fuel],.agg #[.slice g.cA g.cn g.cc,vI g.e0,vI g.e1,vI g.e2],vI ver,vS g.ib (g.io*3) g.ni g.ic] (ap [] [T]) F (λ u H'=>∃x,H'=ap [] [x] /\ (MemH mb (eR g0 M) k x /\ u=.tuple #[.bool (gS g0 M),.agg (aaa (eV g0 M).e).toArray,.bool ((eV g0 M).em)])):=by
 have h:=EH g mb M k T F hM hg h0 ver Z9;rwa [eR,Bc e,nP e] at h
theorem Md(S:Setup)(bp gb mb q1 q2 ib io N ni ic m k:Nat)(j:Nat × Int)(full xs:List Inp)(M:MemS)(F:HL)(hj:j.1<5)(hA:AtOk F bp (M.get 0) j)(hg:(gb,.lit (gl S bp mb) 115 (0,0))∈F)(h1:(q1,.lit [vP gb 0] 35 (0,0))∈F)(h2:(q2,.lit [vS ib (io*3) ni ic] 56 (0,0))∈F)(hS:SetIn F S)(hE:dp F)(hI:(ib,.rows 3 N (j9 full) 151 (0,0))∈F)(hir:io+ni <= N /\ ni <= 1000000)(hx:∀k,k<ni -> full.getD (io+k) dI=xs.getD k dI)(T:HL)(hM:MemH mb M (k+20*m+20) T)(h0:0 <= M.get 0)(UC:cH (gN S j ni xs) (m+1) M)(lp:Nat)(X:HL)(J:Nat -> HL -> Prop)(Jx:HL -> Prop)(T0:HL)(hY:∀i x H Y,(jb (gN S j ni xs) (m+1) M)[i]?=some x -> J i H -> YL Tryz.prog lp (Ra x) H (Y++(X++F)) (λ b H'=>(b=true /\ J (i+1) H') \/ (b=false /\ Jx H')))(Vi:J 0 T0):Sp Tryz.prog 100 #[.func (.yield lp) #[] #[],vP q1 0,vP q2 0] (ap [] [T0,T]) (X++F) (λ _ H'=>∃x:HL × HL,H'=ap [] [x.1,x.2] /\ ((J (jb (gN S j ni xs) (m+1) M).length x.1 /\ MemH mb (eI (gN S j ni xs) (m+1) M) k x.2) \/ Jx x.1)):=by
 have hg_:=aau X hg;have ZM:=aau X h1;have Tu:=aau X h2;have hS_:SetIn (X++F) S:=hS.up;have ZI:dp (X++F):=aau X hE;have Vj:=aau X hI;have hA_:AtOk (X++F) bp (M.get 0) j:=hA.mono λ x hx=>aau X hx;refine aas Tryz.func100 rfl (mc hg_ (mc ZM (mc Tu mn))) (A:=[]) (Ts:=[T0,T]) rfl λ w0=>?_;refine ae 1 [] λ _=>aak [12] []<|ag [] [0,4,1,2,3] [.ro 1,.ro 1,.ro 0]<|aac [] 5 (λ X_=>(yU S bp gb mb M (k+20*m+20) T _ (sf hg_) hM (aQ 1)))<|fe 6 10 ?_ ?_
 ·refine aaf [] (Hp:=[]) (Tp:=[]) [] [] (hA_ _ (λ x hx=>aq hx)) ?_;rintro _ ⟨A1,c2,T3⟩ ⟨rfl,hc4⟩;dsimp only at hc4;refine ag [] [7,8,9] []<|aae 10 (aag [] [] λ n5=>?_);refine ag [] [11] []<|aae 12 (aag [] (aab 4) λ _=>?_);refine aad<|ae 2 [] λ _=>aan (σ:=Nat × Nat × MemS × HL × HL) (λ ⟨r,i_,M_,T_,J_⟩=>⟨[(0,.func (.yield lp) #[] #[]),(1,vP q1 0),(2,vP q2 0),(4,vI j.2),(5,vP (n5+0) 0)],[((n5+0),.lit [.slice A1 (fP j.1) c2,vI (bD j.1 0),vI (bD j.1 1),vI (bD j.1 2)] 47 (0,0))],[T_,J_,T3],i_+(r+1)=m+1 /\ cH (gN S j ni xs) (r+1) M_ /\ eI (gN S j ni xs) (r+1) M_=eI (gN S j ni xs) (m+1) M /\ MemH mb M_ (k+20*r+20) T_ /\ (jb (gN S j ni xs) (m+1) M).drop i_=jb (gN S j ni xs) (r+1) M_ /\ J i_ J_,r⟩) (m,0,M,T,T0) [0] [2,1,0] (⟨by omega,UC,rfl,hM,rfl,Vi⟩) ?_;rintro⟨r,i_,M_,T_,J_⟩ ⟨hd_,AS,Tk,Uq,UK,TF⟩ VQ;refine ae 2 [] λ _=>aak [12,19] []<|ag [] [0,5,9,10,11,1,6,2,7,3,8,4] [.ro 1,.ro 1,.own 0,.own 0,.own 0,.own 0,.ro 2,.ro 0,.ro 0,.ro 0,.ro 0,.ro 0,.ro 0,.ro 0,.ro 0,.ro 0,.ro 0,.ro 0,.ro 0,.ro 0,.ro 0,.ro 0,.ro 0,.ro 0]<|fe 12 17 ?_ ?_
  ·refine aaf [] [] [0] (jk (g:=(⟨S,A1,fP j.1,c2,bD j.1 0,bD j.1 1,bD j.1 2,j.2,ib,io,ni,ic,N,full,kz j.1⟩:Gm)) (og hx) mb M_ (k+20*r) T_ _ Uq ⟨hS_.up,aq Vj,hir,aq ZI,hc4.code hj (ay 1)⟩ AS.1 j.2 rfl) ?_;rintro _ T8 ⟨Wg,rfl⟩;refine ag [] [13,14,15,16] []<|aae 17 (aag [] [] λ UF=>?_);refine ag [] [18] []<|aae 19 (aag [] (aab 4) λ _=>?_);refine ag [] [20] []<|aad<|ae 7 (aab 4) λ _=>RN.yield 1 (hY i_ ((eV (gN S j ni xs) M_).e,(eV (gN S j ni xs) M_).em) _ _ (gT UK).1 TF) ?_;rintro b_ SX (⟨rfl,YN⟩|⟨rfl,YN⟩)
   ·refine ae 6 [] λ _=>iw (gS (gN S j ni xs) M_) 44 (λ Ux=>?_) λ Ux=>?_
    ·refine ae 1 [] λ _=>aap [] [] [0,1] (v:=.tuple #[]) (H':=(ap [] [SX,T8])) ?_;have er:r=0:=by
      rcases AS.2 with ⟨e,_⟩|⟨e,_⟩
      ·exact e
      ·have hh:gS (gN S j ni xs) M_=true:=by assumption
       rw[e] at hh;cases hh
     subst er;have ed:i_+1=(jb (gN S j ni xs) (m+1) M).length:=by rw[jc];omega
     refine⟨(SX,T8),rfl,.inl ⟨?_,?_⟩⟩
     ·rw[<- ed];exact YN
     ·rw[<- Tk];exact Wg.weak (by omega)
    ·refine ae 3 [] λ _=>?_;have UI:=AS.2;rcases UI with ⟨_,e_⟩|⟨_,UI⟩
     ·exact absurd e_ (by assumption)
     rcases r with _|r
     ·exact UI.elim
     refine VQ (r,i_+1,(eR (gN S j ni xs) M_),T8,SX) [1] [1,0,2] ?_
     try dsimp only
     exact⟨⟨by omega,UI,Tk,Wg.weak (by omega),(gT UK).2,YN⟩,by omega⟩
   ·refine ae 7 [] λ _=>aap [] [] [0,1] (v:=.tuple #[]) (H':=(ap [] [SX,T8])) ?_;exact⟨(SX,T8),rfl,.inr YN⟩
  ·refine aag [] [] λ n14=>aae 12 (aaf [] [] [0] (jk (g:=(⟨S,A1,fP j.1,c2,bD j.1 0,bD j.1 1,bD j.1 2,j.2,ib,io,ni,ic,N,full,kz j.1⟩:Gm)) (og hx) mb M_ (k+20*r) T_ _ Uq ⟨hS_.up,aq Vj,hir,aq ZI,hc4.code hj (ay 1)⟩ AS.1 j.2 rfl) ?_);rintro _ TM ⟨Uv,rfl⟩;refine ag [] [13,14,15,16,18] []<|aae 19 (aag [] (aab 4) λ _=>?_);refine ag [] [20] []<|aad<|ae 7 (aab 4) λ _=>RN.yield 1 (hY i_ ((eV (gN S j ni xs) M_).e,(eV (gN S j ni xs) M_).em) _ _ (gT UK).1 TF) ?_;rintro b_ Vc (⟨rfl,YM⟩|⟨rfl,YM⟩)
   ·refine ae 6 [] λ _=>iw (gS (gN S j ni xs) M_) 44 (λ Wx=>?_) λ Wx=>?_
    ·refine ae 1 [] λ _=>aap [] [] [0,1] (v:=.tuple #[]) (H':=(ap [] [Vc,TM])) ?_;have er:r=0:=by
      rcases AS.2 with ⟨e,_⟩|⟨e,_⟩
      ·exact e
      ·have hh:gS (gN S j ni xs) M_=true:=by assumption
       rw[e] at hh;cases hh
     subst er;have ed:i_+1=(jb (gN S j ni xs) (m+1) M).length:=by rw[jc];omega
     refine⟨(Vc,TM),rfl,.inl ⟨?_,?_⟩⟩
     ·rw[<- ed];exact YM
     ·rw[<- Tk];exact Uv.weak (by omega)
    ·refine ae 3 [] λ _=>?_;have UI:=AS.2;rcases UI with ⟨_,e_⟩|⟨_,UI⟩
     ·exact absurd e_ (by assumption)
     rcases r with _|r
     ·exact UI.elim
     refine VQ (r,i_+1,(eR (gN S j ni xs) M_),TM,Vc) [1] [1,0,2] ?_
     try dsimp only
     exact⟨⟨by omega,UI,Tk,Uv.weak (by omega),(gT UK).2,YM⟩,by omega⟩
   ·refine ae 7 [] λ _=>aap [] [] [0,1] (v:=.tuple #[]) (H':=(ap [] [Vc,TM])) ?_;exact⟨(Vc,TM),rfl,.inr YM⟩
 ·refine aag [] [] λ n20=>aae 6 (aaf [] (Hp:=[]) (Tp:=[]) [] [] (hA_ _ (λ x hx=>aq hx)) ?_);rintro _ ⟨A21,c22,T23⟩ ⟨rfl,abc⟩;dsimp only at abc;refine ag [] [7,8,9,11] []<|aae 12 (aag [] (aab 4) λ _=>?_);refine aad<|ae 2 [] λ _=>aan (σ:=Nat × Nat × MemS × HL × HL) (λ ⟨r,i_,M_,T_,J_⟩=>⟨[(0,.func (.yield lp) #[] #[]),(1,vP q1 0),(2,vP q2 0),(4,vI j.2),(5,vP (n20+0) 0)],[((n20+0),.lit [.slice A21 (fP j.1) c22,vI (bD j.1 0),vI (bD j.1 1),vI (bD j.1 2)] 47 (0,0))],[T_,J_,T23],i_+(r+1)=m+1 /\ cH (gN S j ni xs) (r+1) M_ /\ eI (gN S j ni xs) (r+1) M_=eI (gN S j ni xs) (m+1) M /\ MemH mb M_ (k+20*r+20) T_ /\ (jb (gN S j ni xs) (m+1) M).drop i_=jb (gN S j ni xs) (r+1) M_ /\ J i_ J_,r⟩) (m,0,M,T,T0) [0] [2,1,0] (⟨by omega,UC,rfl,hM,rfl,Vi⟩) ?_;rintro⟨r,i_,M_,T_,J_⟩ ⟨hd_,AS,Tk,Uq,UK,TF⟩ acp;refine ae 2 [] λ _=>aak [12,19] []<|ag [] [0,5,9,10,11,1,6,2,7,3,8,4] [.ro 1,.ro 1,.own 0,.own 0,.own 0,.own 0,.ro 2,.ro 0,.ro 0,.ro 0,.ro 0,.ro 0,.ro 0,.ro 0,.ro 0,.ro 0,.ro 0,.ro 0,.ro 0,.ro 0,.ro 0,.ro 0,.ro 0,.ro 0]<|fe 12 17 ?_ ?_
  ·refine aaf [] [] [0] (jk (g:=(⟨S,A21,fP j.1,c22,bD j.1 0,bD j.1 1,bD j.1 2,j.2,ib,io,ni,ic,N,full,kz j.1⟩:Gm)) (og hx) mb M_ (k+20*r) T_ _ Uq ⟨hS_.up,aq Vj,hir,aq ZI,abc.code hj (ay 1)⟩ AS.1 j.2 rfl) ?_;rintro _ V4 ⟨Ut,rfl⟩;refine ag [] [13,14,15,16] []<|aae 17 (aag [] [] λ n29=>?_);refine ag [] [18] []<|aae 19 (aag [] (aab 4) λ _=>?_);refine ag [] [20] []<|aad<|ae 7 (aab 4) λ _=>RN.yield 1 (hY i_ ((eV (gN S j ni xs) M_).e,(eV (gN S j ni xs) M_).em) _ _ (gT UK).1 TF) ?_;rintro b_ YR (⟨rfl,YK⟩|⟨rfl,YK⟩)
   ·refine ae 6 [] λ _=>iw (gS (gN S j ni xs) M_) 44 (λ XE=>?_) λ XE=>?_
    ·refine ae 1 [] λ _=>aap [] [] [0,1] (v:=.tuple #[]) (H':=(ap [] [YR,V4])) ?_;have er:r=0:=by
      rcases AS.2 with ⟨e,_⟩|⟨e,_⟩
      ·exact e
      ·have hh:gS (gN S j ni xs) M_=true:=by assumption
       rw[e] at hh;cases hh
     subst er;have ed:i_+1=(jb (gN S j ni xs) (m+1) M).length:=by rw[jc];omega
     refine⟨(YR,V4),rfl,.inl ⟨?_,?_⟩⟩
     ·rw[<- ed];exact YK
     ·rw[<- Tk];exact Ut.weak (by omega)
    ·refine ae 3 [] λ _=>?_;have UI:=AS.2;rcases UI with ⟨_,e_⟩|⟨_,UI⟩
     ·exact absurd e_ (by assumption)
     rcases r with _|r
     ·exact UI.elim
     refine acp (r,i_+1,(eR (gN S j ni xs) M_),V4,YR) [1] [1,0,2] ?_
     try dsimp only
     exact⟨⟨by omega,UI,Tk,Ut.weak (by omega),(gT UK).2,YK⟩,by omega⟩
   ·refine ae 7 [] λ _=>aap [] [] [0,1] (v:=.tuple #[]) (H':=(ap [] [YR,V4])) ?_;exact⟨(YR,V4),rfl,.inr YK⟩
  ·refine aag [] [] λ n33=>aae 12 (aaf [] [] [0] (jk (g:=(⟨S,A21,fP j.1,c22,bD j.1 0,bD j.1 1,bD j.1 2,j.2,ib,io,ni,ic,N,full,kz j.1⟩:Gm)) (og hx) mb M_ (k+20*r) T_ _ Uq ⟨hS_.up,aq Vj,hir,aq ZI,abc.code hj (ay 1)⟩ AS.1 j.2 rfl) ?_);rintro _ T34 ⟨YI,rfl⟩;refine ag [] [13,14,15,16,18] []<|aae 19 (aag [] (aab 4) λ _=>?_);refine ag [] [20] []<|aad<|ae 7 (aab 4) λ _=>RN.yield 1 (hY i_ ((eV (gN S j ni xs) M_).e,(eV (gN S j ni xs) M_).em) _ _ (gT UK).1 TF) ?_;rintro b_ T36 (⟨rfl,YJ⟩|⟨rfl,YJ⟩)
   ·refine ae 6 [] λ _=>iw (gS (gN S j ni xs) M_) 44 (λ h38=>?_) λ h38=>?_
    ·refine ae 1 [] λ _=>aap [] [] [0,1] (v:=.tuple #[]) (H':=(ap [] [T36,T34])) ?_;have er:r=0:=by
      rcases AS.2 with ⟨e,_⟩|⟨e,_⟩
      ·exact e
      ·have hh:gS (gN S j ni xs) M_=true:=by assumption
       rw[e] at hh;cases hh
     subst er;have ed:i_+1=(jb (gN S j ni xs) (m+1) M).length:=by rw[jc];omega
     refine⟨(T36,T34),rfl,.inl ⟨?_,?_⟩⟩
     ·rw[<- ed];exact YJ
     ·rw[<- Tk];exact YI.weak (by omega)
    ·refine ae 3 [] λ _=>?_;have UI:=AS.2;rcases UI with ⟨_,e_⟩|⟨_,UI⟩
     ·exact absurd e_ (by assumption)
     rcases r with _|r
     ·exact UI.elim
     refine acp (r,i_+1,(eR (gN S j ni xs) M_),T34,T36) [1] [1,0,2] ?_
     try dsimp only
     exact⟨⟨by omega,UI,Tk,YI.weak (by omega),(gT UK).2,YJ⟩,by omega⟩
   ·refine ae 7 [] λ _=>aap [] [] [0,1] (v:=.tuple #[]) (H':=(ap [] [T36,T34])) ?_;exact⟨(T36,T34),rfl,.inr YJ⟩
theorem Pn(S:Setup)(bp gb mb q1 q2 ib io N ni ic m k:Nat)(j:Nat × Int)(full xs:List Inp)(M:MemS)(F:HL)(hj:j.1<5)(hA:AtOk F bp (M.get 0) j)(hg:(gb,.lit (gl S bp mb) 115 (0,0))∈F)(h1:(q1,.lit [vP gb 0] 35 (0,0))∈F)(h2:(q2,.lit [vS ib (io*3) ni ic] 56 (0,0))∈F)(hS:SetIn F S)(hE:dp F)(hI:(ib,.rows 3 N (j9 full) 151 (0,0))∈F)(hir:io+ni <= N /\ ni <= 1000000)(hx:∀k,k<ni -> full.getD (io+k) dI=xs.getD k dI)(T:HL)(hM:MemH mb M (k+20*m+20) T)(h0:0 <= M.get 0)(UC:cH (gN S j ni xs) (m+1) M):RX Tryz.prog 100 #[vP q1 0,vP q2 0] T F Ra (jb (gN S j ni xs) (m+1) M) (λ T1=>MemH mb (eI (gN S j ni xs) (m+1) M) k T1) (λ _=>True):=by
 intro X l J Jx H0 hY h0';have e:∀A B:HL,ap [] [A,B]=A++B:=λ A B=>by simp[ap]
 have key:=Md S bp gb mb q1 q2 ib io N ni ic m k j full xs M F hj hA hg h1 h2 hS hE hI hir hx T hM h0 UC l X J Jx H0 hY h0';rw[e] at key;refine key.mono λ u H' h=>?_;obtain⟨x,rfl,h⟩:=h;refine⟨x.1,x.2,e _ _,?_⟩;rcases h with ⟨a,b⟩|a
 ·exact .inl ⟨a,b⟩
 ·exact .inr ⟨a,trivial⟩
theorem zN(e:Int)(S:Setup)(bp gb mb:Nat)(M:MemS)(k:Nat)(A:Option Addr)(n cap:Nat)(xs:List Inp)(T F:HL)(hg:(gb,.lit (gl S bp mb) 115 (0,0))∈F)(hM:MemH mb M k T)(hT:∀x∈T,x∈F)(hl:RowL iE 151 F A n xs)(hn:n <= 1000000)(he:dL S.players n xs (M.get 0)=e):Sp Tryz.prog 57 #[vP gb 0,.slice A n cap] [] F (λ u H'=>u=vI e /\ H'=[]):=he ▸ Bu S bp gb mb M k A n cap xs T F hg hM hT hl hn
theorem Jl(c0 c1 c2 c3 c4:Value)(F:HL):SpD Tryz.prog 59 #[c0,c1,c2,c3,c4] (ap [] []) F (λ _ H'=>∃_:Unit,H'=ap [] [] /\ True):=by
 exact(Jk c0 c1 c2 c3 c4 F).mono λ u H' h=>⟨(),h,trivial⟩
theorem Jm(S:Setup)(rs:List Bx)(ds:List Dr)(bp gb mb ib io N ni ic m k:Nat)(j:Nat × Int)(full xs:List Inp)(M:MemS)(T U F:HL)(hj:j.1<5)(hA:AtOk F bp (M.get 0) j)(hU:sQ S rs ds U)(hE:dp F)(hI:(ib,.rows 3 N (j9 full) 151 (0,0))∈F)(hir:io+ni <= N)(Tz:ni <= 1000000)(hmb:m <= 1000000)(hlen:xs.length=ni)(hx:∀k,k<ni -> full.getD (io+k) dI=xs.getD k dI)(hM:MemH mb M (k+20*m+20) T)(h0:0 <= M.get 0)(UC:cH (gN S j ni xs) (m+1) M)(hw:dL S.players ni xs (M.get 0)=0):Sp Tryz.prog 19 #[vP gb 0,vS ib (io*3) ni ic] (ap [(gb,.lit (gl S bp mb) 115 (0,0))] [T,U]) F (λ u H'=>∃x:HL × Option Addr × Nat × HL,H'=ap [(gb,.lit (gl S bp mb) 115 (0,0))] [x.1,U,x.2.2.2] /\ (MemH mb (eI (gN S j ni xs) (m+1) M) k x.1 /\ SlIs sy 53 (dP (gN S j ni xs) (m+1) M) x.2.1 x.2.2.1 x.2.2.2 /\ u=.tuple #[.slice x.2.1 (dP (gN S j ni xs) (m+1) M).length x.2.2.1,vI ((m+1:Nat):Int),vI 0])):=by
 have hl:RowL iE 151 F (some ⟨ib,io*3,none⟩) ni xs:=.rows ib io N full (0,0) ni xs hI hir hlen hx;have XP:=hM;refine Sp.runM Tryz.func19 rfl mn (A:=[(gb,.lit (gl S bp mb) 115 (0,0))]) (Ts:=[T,U]) rfl λ w0=>?_;refine ae 13 [.own 3] λ n1=>aah (zN 0 S bp gb mb M (k+20*m+20) (some ⟨ib,io*3,none⟩) ni ic xs T _ (au 4) hM (ay 0) hl.up Tz hw)<|ae 18 [.own 3,.own 4] λ _=>aah (yT hM (ay 0))<|ae 7 [.own 0] λ n2=>NF (g:=59) (args:=#[]) (cap:=#[vP (n1+0) 0,vP (n2+0) 0,vP (n1+1) 0,vP (n1+2) 0,vP (n1+3) 0])<|ae 7 [.own 4] λ _=>aai (Hp:=[]) (Tp:=[]) [] [] (Fd gb ib io ni ic _) ?_;rintro _ n3 rfl;refine ae 3 [] λ _=>aao<|oO [1,0,2]<|FI (σ:=Nat × List Eff × Option Addr × Nat × HL) (τ:=(Nat × List Eff × Option Addr × Nat × HL) × Nat × (Eff × Bool)) (encs:=λ (x_:Eff × Bool)=>#[.agg #[vI x_.1.t,vI x_.1.i,vI x_.1.k,vI x_.1.v,.bool x_.2]]) (xs:=(jb (gN S j ni xs) (m+1) M)) (enters_of Tryz.func100 (by kernel_rfl) rfl) (λ ⟨c_,Ui,B_,b_,E_⟩=>([((n1+1),.lit [.slice B_ Ui.length b_] 57 (0,0)),((n1+2),.lit [vI (c_:Int)] 3 (0,0))],[E_])) (λ i_ ⟨c_,Ui,B_,b_,E_⟩=>c_=i_ /\ Ui=mY ((jb (gN S j ni xs) (m+1) M).take i_) /\ SlIs sy 53 Ui B_ b_ E_) (λ c_ ⟨c_,Ui,B_,b_,E_⟩=>False) (λ ⟨⟨c_,Ui,B_,b_,E_⟩,nn_,y_⟩=>⟨[(4,vP (n1+1) 0),(5,vP (n1+2) 0),(6,vP (n1+3) 0),(9,vP (nn_+0) 0)],[((nn_+0),.lit [vI y_.1.t,vI y_.1.i,vI y_.1.k,vI y_.1.v,.bool y_.2] 147 (0,0)),((n1+1),.lit [.slice B_ Ui.length b_] 57 (0,0)),((n1+2),.lit [vI (c_:Int)] 3 (0,0))],[E_],True,0⟩) (λ i_ x_ ⟨⟨c_,Ui,B_,b_,E_⟩,nn_,y_⟩=>(c_=i_ /\ Ui=mY ((jb (gN S j ni xs) (m+1) M).take i_) /\ SlIs sy 53 Ui B_ b_ E_) /\ y_=x_) (0,[],none,0,[]) (⟨rfl,rfl,aar _ _⟩) [5,4] [1] T (Pn S bp gb mb (n3+0) (n3+1) ib io N ni ic m k j full xs M _ hj (hA.mono λ x hx=>aq hx) (au 5) (au 1) (au 0) (hU _ (ay 0)).1 (aq hE) (aq hI) ⟨hir,Tz⟩ hx T XP h0 UC) ?_ ?_ ?_ ?_
 ·rintro l_ i_ x_ ⟨c_,Ui,B_,b_,E_⟩ Y4 w5 Yf ⟨ZG,Uo,IF⟩ VQ;refine ae 4 (ow 0 5) λ n8=>?_;refine VQ ((c_,Ui,B_,b_,E_),n8,x_) [0,1,2] [0] ?_
  try dsimp only
  exact⟨⟨ZG,Uo,IF⟩,rfl⟩
 ·rintro l_ i_ x_ ⟨⟨c_,Ui,B_,b_,E_⟩,nn_,y_⟩ Y9 w10 V7 ⟨⟨ZG,Uo,IF⟩,ey_⟩;subst ey_;have anB:i_<m+1:=by have:=(List.getElem?_eq_some_iff.1 V7).1;rwa [jc] at this
  have anp:Ui.length <= i_:=by rw[Uo];have:=yC ((jb (gN S j ni xs) (m+1) M).take i_);rw[aaW] at this;omega
  refine ai 14 [.own 2,.nw,.own 2,.own 0] [bm ((c_:Int)+1)] λ _=>iw (y_.2) 29 (λ TH=>?_) λ TH=>?_
  ·refine ae 6 [.own 1,.own 0,.own 0,.own 0,.own 0] λ n13=>eA AZ Ui [y_.1] 0 0 rfl IF (by simp;omega) ?_;rintro A14 c15 VN ⟨agC,aml⟩;refine ae 3 [.own 2] λ _=>ez 3 (congrArg (λ v_=>(.lit [vI v_] 3 (0,0):Blk)) (show ((c_:Int)+1)=((c_+1:Nat):Int) by omega))<|ez 2 (congrArg (λ v_=>(.lit [.slice A14 v_ c15] 57 (0,0):Blk)) (show Ui.length+1=(Ui++[y_.1]).length by simp))<|RN.rn (c_+1,Ui++[y_.1],A14,c15,VN) [2,3] [0] ?_
   try dsimp only
   exact⟨by omega,by rw[HT V7 TH,<- Uo],agC⟩
  ·refine ae 3 [] λ _=>ez 2 (congrArg (λ v_=>(.lit [vI v_] 3 (0,0):Blk)) (show ((c_:Int)+1)=((c_+1:Nat):Int) by omega))<|RN.rn (c_+1,Ui,B_,b_,E_) [1,2] [0] ?_
   try dsimp only
   exact⟨by omega,by rw[Lp V7 TH,<- Uo],IF⟩
 ·rintro d19 ⟨c_,Ui,B_,b_,E_⟩ V5 ⟨ZG,Uo,IF⟩ ahU;refine ae 3 [] λ _=>aak [0,1,2,3,4] []<|i6 (σ:=Unit) (λ _=>⟨[(4,vP (n1+1) 0),(5,vP (n1+2) 0),(6,vP (n1+3) 0)],[(d19,.obj (.deferred (some []))),((n1+1),.lit [.slice B_ Ui.length b_] 57 (0,0)),((n1+2),.lit [vI (c_:Int)] 3 (0,0)),((n3+1),.lit [vS ib (io*3) ni ic] 56 (0,0)),((n3+0),.lit [vP gb 0] 35 (0,0)),((n2+0),.lit [vI (aV (M.base+(M.lg.length:Int)))] 3 (0,0)),((n1+3),.lit [vI 0] 58 (0,0)),((n1+0),.lit [vP gb 0] 35 (0,0)),(gb,.lit (gl S bp mb) 115 (0,0))],[E_,V5,U],True,0⟩) ?_ ?_
  ·rintro⟨⟩;refine ae 1 [] λ _=>Jj ?_;refine LV.mark 0 ?_;refine NG (enters_of Tryz.func59 (by kernel_rfl) rfl) [] [] (Jl _ _ _ _ _ _) ?_;rintro _ _ _;refine LV.ret [.own 0,.own 1,.own 5] [7] [1,2,0] (v:=.tuple #[.slice B_ Ui.length b_,vI (c_:Int),vI 0]) (H':=(ap [(gb,.lit (gl S bp mb) 115 (0,0))] [V5,U,E_])) ?_;have e1:Ui=dP (gN S j ni xs) (m+1) M:=by rw[Uo,List.take_length,yB]
   have e2:c_=m+1:=by rw[ZG,jc]
   subst e1;subst e2;exact⟨(V5,B_,b_,E_),rfl,ahU,IF,rfl⟩
  ·intro WL;refine fe 0 1 ?_ ?_
   ·refine aag [] [.own 1] λ _=>fe 1 2 ?_ ?_
    ·refine aag [] [.own 2] λ _=>aae 2 (aag [] [.own 1] λ _=>?_);refine aae 3 (aag [] [.own 2] λ _=>?_);refine aae 4 (aag [] [.own 6] λ _=>?_);exact WL () [0,1,2,3,4,5,6,7,8] [0,1,2]
    ·refine aag [] [.own 1] λ _=>aae 1 (aag [] [.own 2] λ _=>?_);refine aae 3 (aag [] [.own 2] λ _=>?_);refine aae 4 (aag [] [.own 6] λ _=>?_);exact WL () [0,1,2,3,4,5,6,7,8] [0,1,2]
   ·refine aag [] [.own 2] λ _=>aae 0 (aag [] [.own 1] λ _=>?_);refine aae 2 (aag [] [.own 1] λ _=>?_);refine aae 3 (aag [] [.own 2] λ _=>?_);refine aae 4 (aag [] [.own 6] λ _=>?_);exact WL () [0,1,2,3,4,5,6,7,8] [0,1,2]
 ·exact λ _ _ _ _ h _=>h.elim
theorem FJ(e:Int)(S:Setup)(bp gb mb n cap k:Nat)(A:Option Addr)(xs:List Inp)(M:MemS)(T U F:HL)(hl:RowL iE 151 F A n xs)(Tz:n <= 1000000)(hM:MemH mb M k T)(hw:dL S.players n xs (M.get 0)=e)(u_:¬ e=0):Sp Tryz.prog 19 #[vP gb 0,.slice A n cap] (ap [(gb,.lit (gl S bp mb) 115 (0,0))] [T,U]) F (λ u H'=>H'=ap [(gb,.lit (gl S bp mb) 115 (0,0))] [T,U] /\ u=.tuple #[.slice none 0 0,vI 0,vI e]):=by
 refine Sp.runM Tryz.func19 rfl mn (A:=[(gb,.lit (gl S bp mb) 115 (0,0))]) (Ts:=[T,U]) rfl λ w0=>?_;refine ae 13 [.own 3] λ n1=>aah (zN e S bp gb mb M k A n cap xs T _ (au 4) hM (ay 0) hl.up Tz hw)<|ae 9 [] λ _=>cD 14 (nf (abz u_))<|ae 9 [.own 2,.own 1,.own 0] λ _=>Jj ?_;exact LV.ret [.own 2,.own 1,.own 0] [4] [0,1] ⟨rfl,rfl⟩
end Go.Proofs.YtghjbimijeinfaaGreatDoor
