import Derived.Test.YtjokannbjmndfaaGreatDoorZ06
import Derived.Laws.IdiomCopy
set_option linter.all false
set_option maxHeartbeats 4000000
set_option maxRecDepth 100000
namespace Go.Proofs.YtjokannbjmndfaaGreatDoor
open Go.RowKit Go.Shelf
variable {A B:Option Addr} {F' Hl Hr X own:HL} {L:FL} {Te Tx:HL->Prop} {Ts:List HL} {assign:Code} {c' cap k m n q sz:Nat} {fz:Nat×Nat} {g:Operand} {gf:FuncId} {hi li mi:Option Int} {ip ir jp jr:List Nat} {lb:Array Value} {o:Oper} {ps:Array Tmp} {tx:TypeId} {w:World} {α σ τ:Type} (i:Nat)
def Sy(P:Program)(g:FuncId)(lb:Array Value)(own:HL)(F:HL){α:Type}(encs:α->Array Value)(xs:List α)(Te Tx:HL->Prop):Prop :=
 ∀ (X:HL) (l:Nat) (J:Nat->HL->Prop) (Jx:HL->Prop) (H0:HL),(∀i x H Y,xs[i]?=some x->J i H->YL P l (encs x) H (Y++(X++F)) (λ b H'=>(b=true/\J (i+1) H')\/(b=false/\Jx H')))->J 0 H0->
  Sp P g (#[.func (.yield l) #[] #[]]++lb) (H0++own) (X++F) (λ _ H'=>∃H1 T1,H'=H1++T1/\((J xs.length H1/\Te T1)\/(Jx H1/\Tx T1)))
section
variable {P:Program} {N:Nat} {D:List Deferred} {F:HL} {w0:World} {L:FL} {Q:Exit->Act->World->Prop}
theorem Em{body:Code}{encs:α->Array Value}{xs:List α}(hi:dw L g=true)(hg:cN L g=.func (.func gf) #[] lb)(eg:∀args w,(callFunc gf args).run P w=.ok (.enter gf args) w)
  (Hx:σ->HL) {I:Nat->σ->Prop} (Ix:Code->σ->Prop) (La:τ->FL) (Ha:τ->HL) (Ia:Nat->α->τ->Prop) (hps:∀x,(encs x).size=ps.size) (WX:(ps.toList.all λ p=>decide (p<N))=true)
  {x0:σ} (h0:I 0 x0) {A:HL} (hp:(ip++ir).isPerm (List.range A.length)=true) (hj:(jp++jr).isPerm (List.range Ts.length)=true) {Tr:List HL} (hHr:ir.filterMap (A[·]?)=Hr) (hTr:jr.filterMap (Ts[·]?)=own::Tr) (hH:ap (ip.filterMap (A[·]?)) (jp.filterMap (Ts[·]?))=Hx x0)
  (hit:Sy P gf lb own (ap Hr Tr++F) encs xs Te Tx)
  (BY:∀ (l i:Nat) (x:α) (s:σ) (Y:HL) (w1:World),xs[i]?=some x->I i s->TR (some l) P N [] (Y++(ap Hr Tr++F)) w1 (qy ps.toList (encs x).toList L) (Hx s) assign (Exit.then (OD N [] (Y++(ap Hr Tr++F)) w1 La Ha (Ia i x)) (λ _ _ _=>False)))
  (Uk:∀ (l i:Nat) (x:α) (t:τ) (Y:HL) (w1:World),xs[i]?=some x->Ia i x t->TR (some l) P N [] (Y++(ap Hr Tr++F)) w1 (La t) (Ha t) body (RQ (Y++(ap Hr Tr++F)) w1 Hx (I (i+1)) Ix))
  (Uj:∀ (d:Nat) (s:σ) (T1:HL),I xs.length s->Te T1->EX N (coll d::D) F w0 L (cg d::(Hx s++ap Hr (T1::Tr))) Q .normal)
  (Uf:∀ (d:Nat) (c:Code) (s:σ) (T1:HL),Ix c s->Tx T1->TR none P N (coll d::D) F w0 L (cg d::(Hx s++ap Hr (T1::Tr))) c Q) :
  TR none P N D F w0 L (ap A Ts) (.rangeFunc g ps assign body) Q:=by
 intro a w hF hR hB;have hpo:∀ (X:HL) (T1:HL),((X++T1)++(ap Hr Tr++F)).Perm (X++(ap Hr (T1::Tr)++F)):=λ X T1=>by
  rw[aaF];refine ab0 X ?_;rw[<- aaF];refine aa5 F ?_;show (T1++(Hr++Tr.flatten)).Perm (Hr++(T1::Tr).flatten);rw[abe,<- aaF,<- aaF];exact aa5 _ aa4
 have V6:Rel ((Hx x0++own)++(ap Hr Tr++F)) w:=by
  have h1:=gC A Ts hp hj;rw[hHr,hTr,hH] at h1;have h2:=hR.perm (h1.append_right F);rw[aaF] at h2;exact h2.perm (hpo _ _)
 refine wpIn_rangeFunc ?_;intro fn hfn;obtain⟨rec,Ui⟩:∃rec:LoopState->Option Code->Loop,rec=λ st pe=>{ state:=st,pending:=pe,fn,tmps:=a.tmps,params:=ps,assign,body,defers:=w.heap.size }:=⟨_,rfl⟩;obtain⟨W1,hW1⟩:∃W1,(w.alloc (.deferred (some []))).alloc (.loop (rec .ready none))=W1:=⟨_,rfl⟩;have hB1:Below 0 w W1:=by rw[<- hW1];exact(iz).trans (iz)
 have hRW:Rel ((w.heap.size+1,Blk.obj (.loop (rec .ready none)))::cg w.heap.size::((Hx x0++own)++(ap Hr Tr++F))) W1:=by
  rw[<- hW1];have h1:=(V6.alloc (.obj (.deferred (some [])))).alloc (.obj (.loop (rec .ready none)));rw[World.size_alloc] at h1;exact h1
 refine⟨w.heap.size+1,[coll w.heap.size],W1,{ target:=.fn (.func gf) lb,args:=#[.func (.yield (w.heap.size+1)) #[] #[]] },W1,gf,#[.func (.yield (w.heap.size+1)) #[] #[]]++lb,W1,?_,?_,?_,?_,λ h=>(by cases h),?_⟩
 ·rw[<- hW1,Ui];exact run_enterLoop_outer _ _ _ _ _
 ·have Wq:a.eval g=.func (.func gf) #[] lb:=(hF.eval hi).trans hg;simp only[resolve,Wq];simp[Deferred.ofValue];rfl
 ·intro f' _;trivial
 ·simp[invoke,eg]
 ·refine jJ ?_;obtain⟨l,hl⟩:∃l,w.heap.size+1=l:=⟨_,rfl⟩;rw[hl] at hRW ⊢;obtain⟨d,hd⟩:∃d,w.heap.size=d:=⟨_,rfl⟩;rw[hd] at hRW Ui ⊢;have key:=hit [] l (λ i H'=>∃s,I i s/\H'=(l,Blk.obj (.loop (rec .ready none)))::cg d::Hx s) (λ H'=>∃c s,Ix c s/\H'=(l,Blk.obj (.loop (rec .done (some c))))::cg d::Hx s)
   ((l,Blk.obj (.loop (rec .ready none)))::cg d::Hx x0) ?round ⟨x0,h0,rfl⟩ W1 hRW
  case round=>
   rintro i x H' Y hx ⟨s,hs,rfl⟩ W aT;have UL:Rel ((l,Blk.obj (.loop (rec .ready none)))::(cg d::(Hx s++(Y++(ap Hr Tr++F))))) W:=aT;have hlW:W.heap[l]?=some (.loop (rec .ready none)):=UL.holds _ aaC;have hy:=run_yield (P:=P) (args:=encs x) hlW (by rw[Ui];exact hps x);rw[Ui] at hy;refine⟨fn,_,assign,body,hy,roundIn_of_wpIn (F:=Wr none) (n:=0) hfn ?_⟩;have hFm:Fm N [] (qy ps.toList (encs x).toList L) { tmps:=(ps.zip (encs x)).foldl (λ t (p,v)=>t.setIfInBounds p v) a.tmps,defers:=[] }:=by
    have h1:=Fm.zip (D:=[]) ps.toList (encs x).toList L a.tmps (λ p hp=>abh (adt.1 WX p hp)) ⟨hF.size,rfl,hF.has⟩;have e:(ps.zip (encs x)).foldl (λ t (p,v)=>t.setIfInBounds p v) a.tmps=(ps.toList.zip (encs x).toList).foldl (λ t (p,v)=>t.setIfInBounds p v) a.tmps:=by
     rw[<- adN,afV]
    rw[e];exact h1
   have hRA:Rel (Hx s++(((l,Blk.obj (.loop (rec .ready none)))::cg d::Y)++(ap Hr Tr++F))) W:=by
    have:=UL;refine this.perm ?_;simp only[abB];refine abH.trans<|List.Perm.cons _ abH
   refine wpIn_mono (BY l i x s ((l,Blk.obj (.loop (rec .ready none)))::cg d::Y) W hx hs _ W hFm hRA (jt _ _)) ?_;intro e a1 Wa hq;cases e with
   |normal=>
    obtain⟨t,ht,m1,m2,m3⟩:=hq;have hRb:Rel ((l,Blk.obj (.loop (rec .ready none)))::(cg d::(Ha t++(Y++(ap Hr Tr++F))))) Wa:=by
     refine m2.perm ?_;simp only[abB];refine(List.Perm.trans ?_ abH.symm);refine List.Perm.cons _ abH.symm
    have hla:Wa.heap[l]?=some (.loop (rec .ready none)):=hRb.holds _ aaC;refine⟨_,run_beginRound hla (by rw[Ui]),?_⟩;have hRc:=hRb.putObj (F:=[]) (.obj (.loop { rec .ready none with state:=.busy }));have VX:Rel (Ha t++(((l,Blk.obj (.loop { rec .ready none with state:=.busy }))::cg d::Y)++(ap Hr Tr++F))) (Wa.putObj l (.loop { rec .ready none with state:=.busy })):=by
     refine hRc.perm ?_;simp only[abB];refine abH.trans<|List.Perm.cons _ abH
    refine wpIn_mono (Uk l i x t ((l,Blk.obj (.loop { rec .ready none with state:=.busy }))::cg d::Y) W hx ht a1 _ m1 VX (m3.trans (dJ))) ?_;have fin:∀ (jump:Option Code) (s':σ) (W3:World),Rel (Hx s'++(((l,Blk.obj (.loop { rec .ready none with state:=.busy }))::cg d::Y)++(ap Hr Tr++F))) W3->Below 0 W W3->
      ∃v w',(Instr.endRound l jump).run P W3=.ok v w'/\v=.bool jump.isNone/\Rel (((l,Blk.obj (.loop (rec (if jump.isNone then .ready else .done) jump)))::cg d::Hx s')++(Y++([]++(ap Hr Tr++F)))) w'/\Below 0 W w':=by
     intro jump s' W3 h3 hb3;have h4:Rel ((l,Blk.obj (.loop { rec .ready none with state:=.busy }))::(cg d::(Hx s'++(Y++(ap Hr Tr++F))))) W3:=by
      refine h3.perm ?_;simp only[abB];refine(List.Perm.trans ?_ abH.symm);refine List.Perm.cons _ abH.symm
     have We:W3.heap[l]?=some (.loop { rec .ready none with state:=.busy }):=h4.holds _ aaC;have iO:=run_endRound (P:=P) jump We;refine⟨_,_,iO,rfl,?_,hb3.trans (dJ)⟩;have h5:=h4.putObj (F:=[]) (.obj (.loop (rec (if jump.isNone then .ready else .done) jump)));rw[Ui] at h5 ⊢;exact h5
    intro e2 a2 W3 UD;cases e2 with
    |normal=>
     obtain⟨s',Ug,n2,n3⟩:=UD;obtain⟨v,w',k1,k2,k3,k4⟩:=fin none s' W3 n2 n3;exact⟨v,w',k1,true,_,by rw[k2];rfl,.inl ⟨rfl,s',Ug,rfl⟩,k3,k4⟩
    |ret=>
     obtain⟨s',Ug,n2,n3⟩:=UD;obtain⟨v,w',k1,k2,k3,k4⟩:=fin (some .ret) s' W3 n2 n3;exact⟨v,w',k1,false,_,by rw[k2];rfl,.inr ⟨rfl,.ret,s',Ug,rfl⟩,k3,k4⟩
    |exit id=>
     obtain⟨s',Ug,n2,n3⟩:=UD;obtain⟨v,w',k1,k2,k3,k4⟩:=fin (some (.exit id)) s' W3 n2 n3;exact⟨v,w',k1,false,_,by rw[k2];rfl,.inr ⟨rfl,.exit id,s',Ug,rfl⟩,k3,k4⟩
    |goto t=>exact UD.elim
    |panic ch=>exact UD.elim
    |outgrown=>exact UD.elim
   |exit id=>exact hq.elim
   |goto t=>exact hq.elim
   |ret=>exact hq.elim
   |panic ch=>exact hq.elim
   |outgrown=>exact hq.elim
  refine key.mono ?_;rintro e W2 ⟨v,H',rfl,hor,VM,Xs⟩;have fin:∀ (st:LoopState) (pe:Option Code) (s:σ) (T1:HL) (n_:st≠ .busy),Rel ((((l,Blk.obj (.loop (rec st pe)))::cg d::Hx s)++T1)++([]++(ap Hr Tr++F))) W2->
    ∃w4,(Instr.endLoop l).run P W2=.ok pe w4/\Rel ((cg d::(Hx s++ap Hr (T1::Tr)))++F) w4/\Below 0 W1 w4:=by
   intro st pe s T1 n_ h4;have h5:Rel ((l,Blk.obj (.loop (rec st pe)))::(cg d::(Hx s++(ap Hr (T1::Tr)++F)))) W2:=h4.perm (((hpo (Hx s) T1).symm.cons _).cons _);have Uy:W2.heap[l]?=some (.loop (rec st pe)):=h5.holds _ aaC;have iO:=run_endLoop (P:=P) Uy (by rw[Ui];exact n_);refine⟨W2.putObj l (.loop { rec st pe with state:=.exhausted }),?_,?_,Xs.trans (dJ)⟩
   ·rw[iO,Ui]
   ·have h6:=h5.putObj (F:=[]) (.obj (.loop { rec st pe with state:=.exhausted }));have h7:=Rel.drop (X:=[(l,Blk.obj (.loop { rec st pe with state:=.exhausted }))]) (H:=cg d::(Hx s++(ap Hr (T1::Tr)++F))) h6;rw[<- aaF] at h7;exact h7
  have hFd:Fm N (coll d::D) L { a with defers:=[coll d]++a.defers }:=⟨hF.size,by rw[hF.defs];rfl,hF.has⟩;rcases hor with ⟨H1,T1,rfl,⟨⟨s,hs,rfl⟩,hT⟩|⟨⟨c,s,hs,rfl⟩,hT⟩⟩
  ·obtain⟨w4,k1,k2,k3⟩:=fin .ready none s T1 (by simp) VM;exact⟨none,w4,k1,Uj d s T1 hs hT _ w4 hFd k2 (hB.trans (hB1.trans k3))⟩
  ·obtain⟨w4,k1,k2,k3⟩:=fin .done (some c) s T1 (by simp) VM;exact⟨some c,w4,k1,Uf d c s T1 hs hT _ w4 hFd k2 (hB.trans (hB1.trans k3))⟩
theorem AW{body:Code}{encs:α->Array Value}{xs:List α}(hi:dw L g=true)(hg:cN L g=.func (.func gf) #[] lb)(eg:∀args w,(callFunc gf args).run P w=.ok (.enter gf args) w)
  {Ax:σ->HL} {Tx:σ->List HL} {I:Nat->σ->Prop} (Ix:Code->σ->Prop) (La:τ->FL) (Ha:τ->HL) (Ia:Nat->α->τ->Prop) (hps:∀x,(encs x).size=ps.size) (WX:(ps.toList.all λ p=>decide (p<N))=true)
  {x0:σ} (h0:I 0 x0) {A:HL} (hp:(ip++ir).isPerm (List.range A.length)=true) (hj:(jp++jr).isPerm (List.range Ts.length)=true) {Tr:List HL} (hHr:ir.filterMap (A[·]?)=Hr) {Tx':HL->Prop} (hTr:jr.filterMap (Ts[·]?)=own::Tr) (hA:ip.filterMap (A[·]?)=Ax x0) (hT:jp.filterMap (Ts[·]?)=Tx x0)
  (hit:Sy P gf lb own (ap Hr Tr++F) encs xs Te Tx')
  (BY:∀ (l i:Nat) (x:α) (s:σ) (Y:HL) (w1:World),xs[i]?=some x->I i s->TR (some l) P N [] (Y++(ap Hr Tr++F)) w1 (qy ps.toList (encs x).toList L) (ap (Ax s) (Tx s)) assign (Exit.then (OD N [] (Y++(ap Hr Tr++F)) w1 La Ha (Ia i x)) (λ _ _ _=>False)))
  (Uk:∀ (l i:Nat) (x:α) (t:τ) (Y:HL) (w1:World),xs[i]?=some x->Ia i x t->TR (some l) P N [] (Y++(ap Hr Tr++F)) w1 (La t) (Ha t) body (RQ (Y++(ap Hr Tr++F)) w1 (λ s=>ap (Ax s) (Tx s)) (I (i+1)) Ix))
  (Uj:∀ (d:Nat) (s:σ) (T1:HL),I xs.length s->Te T1->EX N (coll d::D) F w0 L (ap (cg d::(Ax s++Hr)) (Tx s++T1::Tr)) Q .normal)
  (Uf:∀ (d:Nat) (c:Code) (s:σ) (T1:HL),Ix c s->Tx' T1->TR none P N (coll d::D) F w0 L (ap (cg d::(Ax s++Hr)) (Tx s++T1::Tr)) c Q) :
  TR none P N D F w0 L (ap A Ts) (.rangeFunc g ps assign body) Q:=by
 have hpm:∀ (d:Nat) (s:σ) (Tr:List HL),(ap (cg d::(Ax s++Hr)) (Tx s++Tr)).Perm (cg d::(ap (Ax s) (Tx s)++ap Hr Tr)):=λ d s Tr=>by
  show (cg d::((Ax s++Hr)++(Tx s++Tr).flatten)).Perm _;refine List.Perm.cons _ ?_;rw[acT];show ((Ax s++Hr)++((Tx s).flatten++Tr.flatten)).Perm ((Ax s++(Tx s).flatten)++(Hr++Tr.flatten));rw[aaF,aaF];refine ab0 _ ?_;rw[<- aaF,<- aaF];exact aa5 _ aa4
 exact Em hi hg eg (λ s=>ap (Ax s) (Tx s)) Ix La Ha Ia hps WX h0 hp hj hHr hTr (by rw[hA,hT]) hit BY Uk
  (λ d s T1 hs hT a w h1 h2 h3=>Uj d s T1 hs hT a w h1 (h2.perm ((hpm d s _).append_right F)) h3) (λ d c s T1 hs hT a w h1 h2 h3=>Uf d c s T1 hs hT a w h1 (h2.perm ((hpm d s _).append_right F)) h3)
end
section
variable {P:Program} {N:Nat} {D:List Deferred} {F:HL} {w0:World} {R:HL} {s:Cfg} {Q:Exit->Act->World->Prop}
def Q0(c:Fo)(d:Nat)(ip jp:List Nat)(A:HL)(Ts:List HL)(T1:HL)(s:Cfg):Cfg:=match s with
 | ⟨_,k,L,A',W8⟩=>⟨c,k,L,cg d::(A++(oth ip A'.length).filterMap (A'[·]?)),Ts++T1::((oth jp W8.length).filterMap (W8[·]?)).tail⟩
theorem Eo{encs:α->Array Value}{xs:List α}(eg:∀args w,(callFunc gf args).run P w=.ok (.enter gf args) w)
  (S:σ->HL×List HL) (I:Nat->σ->Prop) (Ix:Code->σ->Prop) (W:τ->Inv) (Ia:Nat->α->τ->Prop) (x0:σ) (h0:I 0 x0) (hit:Sy P gf lb own (ap (eH ip s) (fA jp s).tail++F) encs xs Te Tx)
  (BY:∀ (l i:Nat) (x:α) (s1:σ) (Y:HL) (w1:World),xs[i]?=some x->I i s1->
   (∀ {s':Cfg} {R':HL} (t:τ) (ZC ZB:List Nat),Ia i x t->(hm:Eh s'=some (MV N [] (Y++(ap (eH ip s) (fA jp s).tail++F)) w1 W (Ia i x)):=by kernel_rfl)->(h:vN (W t) ZC ZB s'=nT (W t):=by kernel_rfl)->(hp:aJ ZC ZB s'=true:=by kernel_rfl)->RN (some l) P N [] (Y++(ap (eH ip s) (fA jp s).tail++F)) w1 R' s' (λ _ _ _=>False))->
   RN (some l) P N [] (Y++(ap (eH ip s) (fA jp s).tail++F)) w1 (eH ip s++R) (QT (MV N [] (Y++(ap (eH ip s) (fA jp s).tail++F)) w1 W (Ia i x)) (encs x).toList (S s1).1 (S s1).2 s) (λ _ _ _=>False))
  (Uk:∀ (l i:Nat) (x:α) (t:τ) (Y:HL) (w1:World),xs[i]?=some x->Ia i x t->RN (some l) P N [] (Y++(ap (eH ip s) (fA jp s).tail++F)) w1 (eH ip s++R) (QU (W t) s) (RQ (Y++(ap (eH ip s) (fA jp s).tail++F)) w1 (λ s=>ap (S s).1 (S s).2) (I (i+1)) Ix))
  (Uj:∀ (d:Nat) (s1:σ) (T1:HL),I xs.length s1->Te T1->RN none P N (coll d::D) F w0 R (Q0 (.ex .normal) d ip jp (S s1).1 (S s1).2 T1 s) Q)
  (Uf:∀ (d:Nat) (c:Code) (s1:σ) (T1:HL),Ix c s1->Tx T1->RN none P N (coll d::D) F w0 R (Q0 (.code c) d ip jp (S s1).1 (S s1).2 T1 s) Q)
  (WX:LF N s=true:=by kernel_rfl) (hp:aJ ip jp s=true:=by kernel_rfl) (hH:picks ip jp s=((S x0).1,(S x0).2):=by kernel_rfl) (ho:(fA jp s).head?=some own:=by kernel_rfl) (hG:(mA s).map (·.1)=some (.func (.func gf) #[] lb):=by kernel_rfl) (u_:∀x:α,(mA s).map (·.2)=some (encs x).size:=by intro x;kernel_rfl):RN none P N D F w0 R s Q:=by
 refine⟨λ hR=>?_⟩;obtain⟨c,k,L,A,Ts⟩:=s;unfold aJ at hp;unfold picks at hH;rw[abc] at hp;simp only[df] at hH;cases c with
 |ops _ _=>simp[mA] at hG
 |ex _=>simp[mA] at hG
 |drw _ _=>simp[mA] at hG
 |code c=>
 cases c with
 |rangeFunc g ps assign body=>
  have hi:dw L g=true:=by
   cases h:dw L g with
   |true=>rfl
   |false=>simp[mA,h] at hG
  simp only[mA,hi,UV,de] at hG u_;simp only[LF] at WX;have Z8:∀ (Y:HL),∀y∈eH ip ⟨.code (.rangeFunc g ps assign body),k,L,A,Ts⟩++R,y∈Y++(ap (eH ip ⟨.code (.rangeFunc g ps assign body),k,L,A,Ts⟩) (fA jp ⟨.code (.rangeFunc g ps assign body),k,L,A,Ts⟩).tail++F):=by
   intro Y y hy;rcases np.1 hy with hy|hy
   ·exact aaz _ (aaB _ (aaB _ hy))
   ·exact aaz _ (aaz _ (hR y hy))
  have ID:(oth jp Ts.length).filterMap (Ts[·]?)=own::((oth jp Ts.length).filterMap (Ts[·]?)).tail:=by
   have h1:((oth jp Ts.length).filterMap (Ts[·]?)).head?=some own:=ho;generalize (oth jp Ts.length).filterMap (Ts[·]?)=l at h1 ⊢;cases l with
   |nil=>cases h1
   |cons x l=>simp only[List.head?_cons,de] at h1;rw[h1];rfl
  exact AW (assign:=assign) (body:=body) hi hG eg Ix (λ t=>(W t).L) (λ t=>ap (W t).A (W t).Ts) Ia (λ x=>(u_ x).symm) WX h0 hp.1 hp.2 rfl ID hH.1 hH.2 hit
   (λ l i x s1 Y w1 hx hi=>(BY l i x s1 Y w1 hx hi (λ t ZC ZB ht hm h hp=>qN ht hm h hp)).h (Z8 Y))
   (λ l i x t Y w1 hx ht=>(Uk l i x t Y w1 hx ht).h (Z8 Y))
   (λ d s1 T1 hs hT=>(Uj d s1 T1 hs hT).h hR) (λ d c s1 T1 hs hT=>(Uf d c s1 T1 hs hT).h hR)
 |_=>simp[mA] at hG
def mkC(i:Nat)(s:Cfg):Cfg:=match s with
 | ⟨c,k,L,A,Ts⟩=>⟨c,k,L,(oth [i] A.length).filterMap (A[·]?),Ts⟩
theorem LV.mark{fn:Func}{R':Value->HL->Prop}{d:Nat}(hk:LV P N D F w0 R fn R' (mkC i s))(h:((s.A[i]?),([i]++oth [i] s.A.length).isPerm (List.range s.A.length))=(some (cg d),true):=by kernel_rfl):LV P N (coll d::D) F w0 R fn R' s:=by
 simp only[df] at h;refine⟨λ hR a w hF aT hB=>?_⟩;obtain⟨c,k,L,A,Ts⟩:=s;simp only at h hF aT;have hp:=fh A h.2;simp only[ac3,h.1,adj,abB,WF] at hp;have h1:Rel ((d,Blk.obj (.deferred (some [])))::(ap ((oth [i] A.length).filterMap (A[·]?)) Ts++F)) w:=by
  refine aT.perm ?_;have h2:(cg d::ap ((oth [i] A.length).filterMap (A[·]?)) Ts).Perm (ap A Ts):=aa5 Ts.flatten hp;exact h2.append_right F
 have hd:w.heap[d]?=some (.deferred (some [])):=h1.holds (cg d) (by simp);have h2:=(h1.putObj (F:=[]) (.obj (.deferred none)));rw[hF.defs];refine⟨by simp,.inl ⟨d,_,rfl,run_takeDeferred hd,?_⟩⟩;exact hk.h hR { a with defers:=D } _ ⟨hF.size,rfl,hF.has⟩ (Rel.drop (X:=[(d,Blk.obj (.deferred none))]) h2) (hB.trans (dJ))
end
section
variable {r:Option Nat} {P:Program} {N:Nat} {D:List Deferred} {F:HL} {w0:World} {R:HL} {s:Cfg} {Q:Exit->Act->World->Prop}
variable {α:Type} {e:Enc α} {T:TypeId} {inf:TypeInfo} {z:Value}
def CN(P:Program)(N j:Nat)(oo:Option Oper)(s:Cfg):Option (Option Addr×Nat×Nat×TypeId×Option Addr×Nat×Nat×TypeId×HL):=match oo with
 |some o=>match LE P o s.L,s.Ts[j]?,([j]++oth [j] s.Ts.length).isPerm (List.range s.Ts.length) && (cD N o.dst undef s.L).isSome with
  |some (A,n,cap,T,B,m,c',tx),some Hl,true=>some (A,n,cap,T,B,m,c',tx,Hl)
  |_,_,_=>none
 |none=>none
theorem rB{j:Nat}{oo:Option Oper}(h:CN P N j oo s=some (A,n,cap,T,B,m,c',tx,Hl)) :
  ∃o a1 a2 t e',oo=some o/\o.guard=none/\o.op=.call { callee:=.builtin .append,args:=#[a1,a2],argTypes:=#[t,tx] } /\(dw s.L a1 && dw s.L a2)=true/\cN s.L a1=.slice A n cap/\cN s.L a2=.slice B m c'/\P.underlying t=some (.slice T)/\P.underlying tx=some (.slice e')/\
   s.Ts[j]?=some Hl/\([j]++oth [j] s.Ts.length).isPerm (List.range s.Ts.length)=true/\(cD N o.dst undef s.L).isSome=true:=by
 unfold CN at h;split at h
 case h_2=>cases h
 rename_i o;split at h
 case h_2=>cases h
 rename_i A' n' iD T' B' m' c2 tx' z_ h1 h3 h4;simp only[de,df] at h;obtain⟨e1,e2,e3,e4,e5,e6,e7,e8,e9⟩:=h;subst e1;subst e2;subst e3;subst e4;subst e5;subst e6;subst e7;subst e8;subst e9;obtain⟨a1,a2,t,e',q1,q2,q3,q4,q5,q6,q7⟩:=ui h1;rw[abc] at h4;exact⟨o,a1,a2,t,e',rfl,q1,q2,q3,q4,q5,q6,q7,h3,h4.1,h4.2⟩
end
inductive RowL{α:Type}(e:Enc α)(T:TypeId)(F:HL):Option Addr->Nat->List α->Prop
 |zero (A:Option Addr):RowL e T F A 0 []
 |rows (q o N:Nat) (full:List α) (fz:Nat×Nat) (n:Nat) (xs:List α) (hq:(q,.rows e.w N (aD e full) T fz)∈F) (ho:o+n<=N) (hn:xs.length=n) (hx:∀k,k<n->full.getD (o+k) e.dflt=xs.getD k e.dflt):RowL e T F (some ⟨q,o*e.w,none⟩) n xs
section
variable {α:Type} {e:Enc α} {T:TypeId} {F:HL} {A:Option Addr} {n:Nat} {xs:List α}
theorem RowL.mono(h:RowL e T F A n xs)(hs:∀x∈F,x∈F'):RowL e T F' A n xs:=by
 cases h with
 |zero=>exact .zero _
 |rows q o N full fz n xs hq ho hn hx=>exact .rows q o N full fz n xs (hs _ hq) ho hn hx
theorem RowL.up(h:RowL e T F A n xs):RowL e T (X++F) A n xs:=h.mono λ x hx=>aaz _ hx
theorem RowL.len(h:RowL e T F A n xs):xs.length=n:=by
 cases h with
 |zero=>rfl
 |rows q o N full fz n xs hq ho hn hx=>exact hn
theorem RowL.at(h:RowL e T F A n xs)(hk:k<n):∃q o N full fz,A=some ⟨q,o*e.w,none⟩/\(q,.rows e.w N (aD e full) T fz)∈F/\o+k<N/\full.getD (o+k) e.dflt=xs.getD k e.dflt:=by
 cases h with
 |zero=>omega
 |rows q o N full fz n xs hq ho hn hx=>exact⟨q,o,N,full,fz,rfl,hq,by omega,hx k hk⟩
theorem RowL.whole{N:Nat}(hq:(q,.rows e.w N (aD e xs) T fz)∈F)(h:xs.length<=N):RowL e T F (some ⟨q,0,none⟩) xs.length xs:=by
 have:=RowL.rows (e:=e) (T:=T) (F:=F) q 0 N xs fz xs.length xs hq (by omega) rfl (λ k hk=>by rw[abP]);rwa [aeL] at this
end
section
variable {α:Type} {e:Enc α} {P:Program} {t tx ty T:TypeId} {inf:TypeInfo} {z:Value} {F:HL}
theorem AX(l:List α)(hw:0<e.w):∀ {j:Nat},j<l.length*e.w->(ak e l)[j]?=some (e.cell (l.getD (j/e.w) e.dflt) (j%e.w)):=by
 induction l with
 |nil=>intro j hj;simp at hj
 |cons x l ih=>
  intro j hj;have hc:ak e (x::l)=(List.range e.w).map (e.cell x)++ak e l:=by simp[ak]
  rw[hc]
  by_cases h:j<e.w
  ·rw[aa2 (by simpa using h),Nat.div_eq_of_lt h,afP h];simp[h]
  ·rw[aa3 (by simp;omega)];simp only[acD,afK];have h2:j=(j-e.w)+e.w:=by omega
   rw[ih (by simp only[aaZ,acE,Nat.one_mul] at hj;omega)]
   conv=>rhs;rw[h2,Nat.add_div_right _ hw,Nat.add_mod_right]
   rfl
theorem Hb(ok:EncOk e P T inf z)(hw:0<e.w){F:HL}{xs:List α}(hl:RowL e T F A n xs){c:Nat}{e':TypeId}(hk:P.underlying tx=some (.slice e'))(hR:Rel (X++F) w):Src P inf.size tx (.slice A n c) xs.length (ak e xs) w:=by
 cases hl with
 |zero=>
  cases A with
  |none=>exact Src.ofNil w hk c
  |some a=>exact Src.ofSlice w hk a 0 c [] (by simp) (λ j u h=>by simp at h) (λ u h=>by simp at h)
 |rows q o N full fz n xs hq ho hn hx=>
  subst hn;refine Src.ofSlice w hk _ _ _ _ (by rw[aI,ok.size]) ?_ ?_
  ·intro j u hj;have W0:j<xs.length*e.w:=by rw[<- aI];exact(bt.1 hj).1
   rw[AX xs hw W0] at hj;have hd:j/e.w<xs.length:=Nat.div_lt_of_lt_mul (by rw[afx];exact W0);have hb:=hR.holds _ (aaz X hq);rw[Addr.add_lit];have X5:o*e.w+j=(o+j/e.w)*e.w+j%e.w:=by
    rw[acE,Nat.add_assoc,afx (j/e.w) e.w,Nat.div_add_mod]
   rw[lR (i:=o+j/e.w) (k:=j%e.w) hb rfl rfl X5 (by omega) (Nat.mod_lt _ hw)];rw[<- hj];show some (aD e full (o+j/e.w) (j%e.w))=_;unfold aD;rw[hx _ hd]
  ·intro u hu;simp only[ak,afU,abY] at hu;obtain⟨x,_,k,_,rfl⟩:=hu;exact ok.one x k
def SrcIn(P:Program)(e:Enc α)(F:HL)(A:Option Addr)(n:Nat)(xs:List α):Prop :=
 (xs.length=n/\(A=none->n=0))/\∀ {tx e':TypeId} (c:Nat),P.underlying tx=some (.slice e')->∀X w,Rel (X++F) w->Src P e.w tx (.slice A n c) xs.length (ak e xs) w
theorem SrcIn.mono{F:HL}{xs:List α}(h:SrcIn P e F A n xs)(hs:∃X,F'.Perm (X++F)):SrcIn P e F' A n xs:=by
 obtain⟨X,hX⟩:=hs;refine⟨h.1,λ c hk Y w hR=>h.2 c hk (Y++X) w ?_⟩;rw[aaF];exact hR.perm (ab0 Y hX.symm)
theorem SrcIn.up{F:HL}{xs:List α}(h:SrcIn P e F A n xs):SrcIn P e (X++F) A n xs:=h.mono ⟨X,List.Perm.refl _⟩
theorem SrcIn.none:SrcIn P e F Option.none 0 []:=⟨⟨rfl,λ _=>rfl⟩,λ c hk X w hR=>Src.ofNil w hk c⟩
theorem RowL.src(ok:EncOk e P T inf z)(hw:0<e.w){F:HL}{xs:List α}(hl:RowL e T F A n xs):SrcIn P e F A n xs:=by
 refine⟨⟨hl.len,λ h=>?_⟩,λ c hk X w hR=>?_⟩
 ·subst h;cases hl;rfl
 ·have:=Hb (c:=c) ok hw hl hk hR;rwa [ok.size] at this
theorem SrcIn.lit(ok:EncOk e P T inf z){F:HL}{xs:List α}{rest:List Value}{ty:TypeId}(hq:(q,.lit (ak e xs++rest) ty fz)∈F):SrcIn P e F (some ⟨q,0,Option.none⟩) xs.length xs:=by
 refine⟨⟨rfl,λ h=>by cases h⟩,λ c hk X w hR=>Src.ofSlice w hk _ _ _ _ (by rw[aI]) ?_ ?_⟩
 ·intro j u hj;have hb:=hR.holds _ (aaz X hq);have hl:j<(ak e xs).length:=(bt.1 hj).1;simp only[Blk.den] at hb;rw[Addr.add_lit];simp[World.cell?,hb,aa2 hl,hj]
 ·intro u hu;simp only[ak,afU,abY] at hu;obtain⟨x,_,k,_,rfl⟩:=hu;exact ok.one x k
def NewS(e:Enc α)(T:TypeId)(src:List α)(A A':Option Addr)(iD:Nat)(z_:HL):Prop :=
 (src=[]/\A'=A/\iD=0/\z_=[])\/∃b,A'=some ⟨b,0,none⟩/\z_=[(b,.rows e.w iD (aD e src) T (0,0))]/\src.length<=iD
theorem NewS.rowL{src:List α}{A':Option Addr}{iD:Nat}{z_:HL}(h:NewS e T src A A' iD z_){F:HL}(hF:∀x∈z_,x∈F):RowL e T F A' src.length src:=by
 rcases h with ⟨rfl,rfl,rfl,rfl⟩|⟨b,rfl,rfl,hc⟩
 ·exact .zero _
 ·exact RowL.whole (hF _ (eb.2 rfl)) hc
theorem lr(l:List α)(k:Nat):aD e (l++List.replicate k e.dflt)=aD e l:=by
 funext i j;unfold aD;congr 1;rw[aaG,aaG]
 by_cases h:i<l.length
 ·rw[aa2 h]
 ·rw[aa3 (by omega),ac2,abQ (by omega)];split <;> rfl
theorem AY(ok:EncOk e P T inf z)(ht:P.underlying t=some (.slice T)){G:HL}(hA:∀a,A=some a->a.spot=none)(hR:Rel G w){src:List α}{x:Value}
  (hs:Src P inf.size tx x src.length (ak e src) w) (hb:src.length<=100000000) :
  ∃A' iD z_ w',(Builtin.append_ #[t,tx] ty #[.slice A 0 0,x]).run P w=.ok (.slice A' src.length iD) w'/\NewS e T src A A' iD z_/\Rel (z_++G) w'/\Below 0 w w':=by
 rcases acq src.length with h0|h0
 ·obtain rfl:src=[]:=aa6 h0;cases A with
  |none=>
   refine⟨none,0,[],w,?_,.inl ⟨rfl,rfl,rfl,rfl⟩,hR,jt _ _⟩;have hc:(Builtin.firstCells inf.size 0 x).run P w=.ok #[] w:=hs.cells;rcases hs.kind with ⟨e',hk⟩|hk <;> simp[Builtin.append_,run_underlying ht,run_underlying hk,Go.sizeOf,typeInfo,ok.info,hs.len,hc]
  |some a=>
   obtain⟨b,off,spot⟩:=a;obtain rfl:spot=none:=hA _ rfl;refine⟨some ⟨b,off,none⟩,0,[],w,?_,.inl ⟨rfl,rfl,rfl,rfl⟩,hR,jt _ _⟩;have:=run_append_room_src (P:=P) w t tx ty T inf ht ok.info b off 0 0 x 0 (ak e ([]:List α)) hs (aaI _) (λ j hj=>by simp[ak] at hj) (λ j hj=>by simp[ak] at hj);exact this
 ·have hby:=ok.bytes;have VV:Builtin.nextslicecap (0+src.length) 0*inf.bytes<=281474976710656:=by
   have h1:=gX (n:=0+src.length) 0 (by omega);have h2:Builtin.nextslicecap (0+src.length) 0*inf.bytes<=(2*100000000+192)*1000:=afI (by omega) hby;omega
  have hold:(Builtin.firstCells inf.size 0 (.slice A 0 0)).run P w.drew=.ok ([]:List Value).toArray w.drew:=by
   cases A with
   |none=>exact run_firstCells_none w.drew inf.size 0 0 0
   |some a=>
    obtain⟨b,off,spot⟩:=a;obtain rfl:spot=none:=hA _ rfl;exact run_firstCells_some w.drew inf.size 0 ⟨b,off,none⟩ 0 0 [] (by simp) (λ j u hj=>by simp at hj)
  have iO:=run_append_grow_src (P:=P) w t tx ty T inf z ht ok.info ok.zero A 0 0 [] hold x src.length (ak e src) hs (by omega) (by omega) VV;have Wq:=grownCap_ge w (0+src.length) 0 T;generalize grownCap w (0+src.length) 0 T=nc at *;rw[abP] at iO Wq;refine⟨_,nc,[(w.heap.size,.rows e.w nc (aD e src) T (0,0))],_,iO,.inr ⟨_,rfl,rfl,Wq⟩,?_,?_⟩
  ·have:=(Rel.cons (.rows e.w nc (aD e src) T (0,0)) (o:=.cells (([]++ak e src).toArray++Builtin.zeroCells z.cells (nc-src.length)) T (0,0)) ?_ (hR.world (w':=w.drew) rfl))
   ·exact this
   ·show Obj.cells _ _ _=_;congr 1;apply Array.ext';show bj _ _ _=_;have hl:nc=(src++List.replicate (nc-src.length) e.dflt).length:=by simp;omega
    have h3:=fQ e (src++List.replicate (nc-src.length) e.dflt);rw[<- hl,lr] at h3;rw[h3,aN,WF,afi,ln ok]
  ·exact⟨rfl,rfl,rfl,by simp,λ k hk=>by omega⟩
end
section
variable {r:Option Nat} {P:Program} {N:Nat} {D:List Deferred} {F:HL} {w0:World} {R:HL} {s:Cfg} {Q:Exit->Act->World->Prop}
variable {α:Type} {e:Enc α} {T:TypeId} {inf:TypeInfo} {z:Value}
theorem gD(ok:EncOk e P T inf z)(src:List α)(j:Nat)(hA:∀a,A=some a->a.spot=none)(hm:m=src.length)(hb:src.length<=100000000)
  (hs:∀e',P.underlying tx=some (.slice e')->∀X w,Rel (X++F) w->Src P inf.size tx (.slice B m c') src.length (ak e src) w)
  (hk:∀ (A':Option Addr) (iD:Nat) (z_:HL),NewS e T src A A' iD z_->RN r P N D F w0 R (ON j z_ (cR N (.slice A' src.length iD) s)) Q)
  (h:CN P N j (eU s) s=some (A,0,0,T,B,m,c',tx,([]:HL)):=by kernel_rfl):RN r P N D F w0 R s Q:=by
 obtain⟨o,a1,a2,t,e',q0,q1,q2,q3,q4,q5,q6,q7,q9,I_,Ud⟩:=rB h;refine⟨λ hR a w hF aT hB=>?_⟩;obtain⟨c,k,L,Bs,Ts⟩:=s;unfold eU at q0;cases c with
 |code c=>cases q0
 |ex c=>cases q0
 |drw _ _=>cases q0
 |ops ops i=>
  simp only at q0 q3 q4 q5 q9 I_ Ud hF aT;have oR:ops.toList.drop i=o::ops.toList.drop (i+1):=by
   have iN:i<ops.toList.length:=(bt.1 q0).1;rw[eB iN,(bt.1 q0).2]
  show wpListIn _ _ _ _ _ _ _ _;rw[oR,wpListIn,if_pos (by simp[Region.wanted,q1])];refine⟨λ _ _=>trivial,?_⟩;have o_:=gi (A:=Bs) q9 I_;have key:b9 P o a w λ u w'=>∃y:Option Addr×Nat×HL,(u=.slice y.1 src.length y.2.1/\NewS e T src A y.1 y.2.1 y.2.2)/\Rel ((y.2.2++(Bs++((oth [j] Ts.length).filterMap (Ts[·]?)).flatten))++F) w'/\Below 0 w w':=by
   simp only[abc] at q3;have e1:=(hF.eval q3.1).trans q4;have e2:=(hF.eval q3.2).trans q5;have IF:Rel ((Bs++((oth [j] Ts.length).filterMap (Ts[·]?)).flatten)++F) w:=by
    have:=aT.perm (o_.append_right F);exact this
   obtain⟨A',iD,z_,w',r1,r2,r3,r4⟩:=AY (ty:=o.type) ok q6 hA IF (hs e' q7 _ w aT) hb;unfold b9;have iO:(execOp a.eval o).run P w=.ok (.value (.slice A' src.length iD)) w':=by
    simp[execOp,q2,resolve,invoke,builtin,abg,e1,e2,r1]
   rw[iO];exact⟨(A',iD,z_),⟨rfl,r2⟩,by rw[aaF];exact r3,r4⟩
  refine dM (by rw[q2];intro c hc;cases hc) key ?_;rintro u w' ⟨⟨A',iD,z_⟩,⟨rfl,Xc⟩,IF,VY⟩;obtain⟨L',p1⟩:=cr Ud (.slice A' src.length iD);have hh:=(hk A' iD z_ Xc).h hR;have Of:cR N (.slice A' src.length iD) ⟨.ops ops i,k,L,Bs,Ts⟩=⟨.ops ops (i+1),k,L',Bs,Ts⟩:=by
   unfold cR;simp only[q0,p1]
  rw[Of] at hh;refine hh _ w' (hF.put p1) (IF.perm (aa5 F ?_)) (hB.trans VY);show (Bs++(z_::(oth [j] Ts.length).filterMap (Ts[·]?)).flatten).Perm _;rw[abe,<- aaF,<- aaF];exact aa5 _ aa4
end
section
variable {α:Type} {e:Enc α} {P:Program} {T:TypeId} {inf:TypeInfo} {z:Value} {l:List α} {A:Option Addr} {cap:Nat} {Hl F:HL}
theorem SlIs.toRowL(h:SlIs e T l A cap Hl)(hF:∀x∈Hl,x∈F):RowL e T F A l.length l:=by
 rcases h with ⟨rfl,rfl,rfl,rfl⟩|⟨b,o,full,rfl,rfl,h1,h2,h3⟩
 ·exact .zero _
 ·refine .rows b o (o+cap) full (0,0) _ l (hF _ (eb.2 rfl)) (by omega) rfl (λ k hk=>?_);have h4:((full.drop o).take l.length)[k]?=l[k]?:=by rw[h3]
  rw[abn,if_pos hk,abi] at h4;rw[aaG,aaG,h4]
theorem SlIs.src(ok:EncOk e P T inf z)(hw:0<e.w)(h:SlIs e T l A cap Hl)(hF:∀x∈Hl,x∈F):SrcIn P e F A l.length l:=RowL.src ok hw (h.toRowL hF)
theorem SlIs.one{x:α}{b:Nat}:SlIs e T [x] (some ⟨b,0,none⟩) 1 [(b,.rows e.w 1 (aD e [x]) T (0,0))]:=.inr ⟨b,0,[x],by simp,by simp,rfl,aaI _,rfl⟩
end
section
variable {r:Option Nat} {P:Program} {N:Nat} {D:List Deferred} {F:HL} {w0:World} {R:HL} {s:Cfg} {Q:Exit->Act->World->Prop} {hards:List Nat} {Rd:HL}
def btC(i:Nat)(s:Cfg):Cfg:=match s with
 | ⟨c,k,L,A,Ts⟩=>⟨c,k,L,(oth [i] A.length).filterMap (A[·]?),[i].filterMap (A[·]?)::Ts⟩
theorem CO{A:HL}{i:Nat}(h:([i]++oth [i] A.length).isPerm (List.range A.length)=true):(ap ((oth [i] A.length).filterMap (A[·]?)) ([i].filterMap (A[·]?)::Ts)).Perm (ap A Ts):=by
 have hp:=fh A h;show ((oth [i] A.length).filterMap (A[·]?)++([i].filterMap (A[·]?)::Ts).flatten).Perm (A++Ts.flatten);rw[abe,<- aaF];exact(List.perm_append_comm.trans hp).append_right _
theorem p9(hk:RN r P N D F w0 R (btC i s) Q)(h:([i]++oth [i] s.A.length).isPerm (List.range s.A.length)=true:=by kernel_rfl):RN r P N D F w0 R s Q:=by
 obtain⟨c,k,L,A,Ts⟩:=s;exact⟨λ hR a w h1 h2 h3=>hk.h hR a w h1 (h2.perm ((CO h).append_right F)) h3⟩
theorem Q1(hk:RD r P N D F w0 R hards Rd (btC i s) Q)(h:([i]++oth [i] s.A.length).isPerm (List.range s.A.length)=true:=by kernel_rfl):RD r P N D F w0 R hards Rd s Q:=by
 obtain⟨c,k,L,A,Ts⟩:=s;refine⟨λ hR hs=>?_⟩;have h1:=hk.h hR hs;intro Q_ a hF;exact JJ.perm _ _ _ _ _ (CO h) (h1 Q_ a hF)
theorem fM(t:Nat){u v:Value}(e:u=v)(hk:RD r P N D F w0 R hards Rd (svC t v s) Q)(h:s.L.lookup t=some u:=by kernel_rfl):RD r P N D F w0 R hards Rd s Q:=by
 subst e;exact⟨λ hR hs Q_ a hF=>hk.h hR hs Q_ a (hF.fix h)⟩
variable {α:Type} {e:Enc α} {T:TypeId} {inf:TypeInfo} {z:Value}
theorem RN.appU(ok:EncOk e P T inf z)(l src:List α)(j:Nat)(hn:n=l.length)(Wp:SlIs e T l A cap Hl)(hb:l.length+src.length<=100000000)
  (hs:SrcIn P e (ap s.A s.Ts++F) B m src)
  (hk:∀ (A':Option Addr) (iD:Nat) (z_:HL),(SlIs e T (l++src) A' iD z_/\(bn A->bn A'))->RN r P N D F w0 R (ON j z_ (cR N (.slice A' (n+src.length) iD) s)) Q)
  (h:CN P N j (eU s) s=some (A,n,cap,T,B,m,c',tx,Hl):=by kernel_rfl):RN r P N D F w0 R s Q:=by
 obtain⟨o,a1,a2,t,e',q0,q1,q2,q3,q4,q5,q6,q7,q9,I_,Ud⟩:=rB h;refine⟨λ hR a w hF aT hB=>?_⟩;obtain⟨c,k,L,Bs,Ts⟩:=s;unfold eU at q0;cases c with
 |code c=>cases q0
 |ex c=>cases q0
 |drw _ _=>cases q0
 |ops ops i=>
  simp only at q0 q3 q4 q5 q9 I_ Ud hF aT;have oR:ops.toList.drop i=o::ops.toList.drop (i+1):=by
   have iN:i<ops.toList.length:=(bt.1 q0).1;rw[eB iN,(bt.1 q0).2]
  show wpListIn _ _ _ _ _ _ _ _;rw[oR,wpListIn,if_pos (by simp[Region.wanted,q1])];refine⟨λ _ _=>trivial,?_⟩;have o_:=gi (A:=Bs) q9 I_;refine dM (by rw[q2];intro c hc;cases hc) (o7 (x:=.slice B m c') (src:=src) (G:=Bs++((oth [j] Ts.length).filterMap (Ts[·]?)).flatten) ok q2 q6 q3 q4 hn q5 o_ Wp (λ w hw=>by have h5:=hs.2 c' q7 [] w hw;rwa [<- ok.size] at h5) hb hF aT) ?_;rintro u w' ⟨⟨A',iD,z_⟩,⟨rfl,Xc⟩,IF,VY⟩;obtain⟨L',p1⟩:=cr Ud (.slice A' (n+src.length) iD);have hh:=(hk A' iD z_ Xc).h hR;have Of:cR N (.slice A' (n+src.length) iD) ⟨.ops ops i,k,L,Bs,Ts⟩=⟨.ops ops (i+1),k,L',Bs,Ts⟩:=by
   unfold cR;simp only[q0,p1]
  rw[Of] at hh;refine hh _ w' (hF.put p1) (IF.perm (aa5 F ?_)) (hB.trans VY);show (Bs++(z_::(oth [j] Ts.length).filterMap (Ts[·]?)).flatten).Perm _;rw[abe,<- aaF,<- aaF];exact aa5 _ aa4
end
section
variable {r:Option Nat} {P:Program} {N:Nat} {D:List Deferred} {F:HL} {w0:World} {R:HL} {s:Cfg} {Q:Exit->Act->World->Prop}
end
def slA(A:Option Addr)(l sz cap:Nat):Option Addr:=if cap=l then A else A.map (·.add (l*sz))
def SP(P:Program)(o:Oper)(L:FL):Option (Option Addr×Nat×Nat×Int×Nat):=match o.guard,o.op with
 |none,.slice t x (some lo) none none=>match dw L x && dw L lo,P.underlying t,cN L x,cN L lo with
  |true,some (.slice elem),.slice a len cap,.int .i64 l=>match P.info? elem with
   |some inf=>some (a,len,cap,l,inf.size)
   |none=>none
  |_,_,_,_=>none
 |_,_=>none
def Sz(P:Program)(N:Nat)(oo:Option Oper)(s:Cfg):Option (Option Addr×Nat×Nat×Int×Nat):=match oo with
 |some o=>match SP P o s.L,(cD N o.dst undef s.L).isSome with
  |some x,true=>some x
  |_,_=>none
 |none=>none
section
variable {r:Option Nat} {P:Program} {N:Nat} {D:List Deferred} {F:HL} {w0:World} {R:HL} {s:Cfg} {Q:Exit->Act->World->Prop}
theorem xF{l:Int}(h:SP P o L=some (A,n,cap,l,sz)) :
  ∃t x lo elem inf,o.guard=none/\o.op=.slice t x (some lo) none none/\(dw L x && dw L lo)=true/\P.underlying t=some (.slice elem)/\cN L x=.slice A n cap/\cN L lo=.int .i64 l/\P.info? elem=some inf/\inf.size=sz:=by
 unfold SP at h;split at h
 case h_2=>cases h
 rename_i t x lo hg C_;split at h
 case h_2=>cases h
 rename_i elem a len cp l' h1 h2 h3 h4;split at h
 case h_2=>cases h
 rename_i inf h5;simp only[de,df] at h;obtain⟨e1,e2,e3,e4,e5⟩:=h;subst e1;subst e2;subst e3;subst e4;exact⟨t,x,lo,elem,inf,hg,C_,h1,h2,h3,h4,h5,e5⟩
theorem RN.slA{l:Nat}{li:Int}(hl:li=(l:Int))(h1:l<=n)(h2:n<=cap)(hk:RN r P N D F w0 R (cR N (.slice (slA A l sz cap) (n-l) (cap-l)) s) Q)
  (h:Sz P N (eU s) s=some (A,n,cap,li,sz):=by kernel_rfl):RN r P N D F w0 R s Q:=by
 unfold Sz at h;split at h
 case h_2=>cases h
 rename_i o q0;split at h
 case h_2=>cases h
 rename_i y hv hp;simp only[de] at h;rw[h] at hv;clear h;obtain⟨t,x,lo,elem,inf,q1,q2,q3,q4,q5,q6,q7,q8⟩:=xF hv;refine⟨λ hR aa w hF aT hB=>?_⟩;obtain⟨c,k,L,Bs,Ts⟩:=s;unfold eU at q0;cases c with
 |code c=>cases q0
 |ex c=>cases q0
 |drw _ _=>cases q0
 |ops ops pc=>
  simp only at q0 q3 q5 q6 hp hF aT;have oR:ops.toList.drop pc=o::ops.toList.drop (pc+1):=by
   have iN:pc<ops.toList.length:=(bt.1 q0).1;rw[eB iN,(bt.1 q0).2]
  show wpListIn _ _ _ _ _ _ _ _;rw[oR,wpListIn,if_pos (by simp[Region.wanted,q1])];refine⟨λ _ _=>trivial,?_⟩;have key:b9 P o aa w λ u w'=>u=.slice (slA A l sz cap) (n-l) (cap-l)/\Rel (ap Bs Ts++F) w'/\Below 0 w w':=by
   simp only[abc] at q3;have e1:=(hF.eval q3.1).trans q5;have e2:=(hF.eval q3.2).trans q6;have k1:=iQ (P:=P) (ρ:=aa.eval) (lo:=some lo) (hi:=none) (l:=l) (h:=n) (len:=n) (cap:=cap) (by show Ea _ _ _ _;unfold Ea;simp only[e2];exact hl) rfl h1 h2 w;have k2:=λ W=>cL q7 W;have k3:=λ W=>aE q4 W;unfold b9;have he:(execOp aa.eval o).run P w=.ok (.value (.slice (slA A l sz cap) (n-l) (cap-l))) w:=by
    rw[show Option.map aa.eval none=none from rfl,show Option.map aa.eval (some lo)=some (aa.eval lo) from rfl] at k1;simp[execOp,q2,Instr.sliceAt,Instr.slice,e1,k3,Go.sizeOf,k2,abg,k1,slA,q8]
   rw[he];exact⟨rfl,aT,jt _ _⟩
  refine dM (by rw[q2];intro c hc;cases hc) key ?_;rintro u w' ⟨rfl,IF,VY⟩;obtain⟨L',p1⟩:=cr hp (.slice (slA A l sz cap) (n-l) (cap-l));have hh:=hk.h hR;have Of:cR N (.slice (slA A l sz cap) (n-l) (cap-l)) ⟨.ops ops pc,k,L,Bs,Ts⟩=⟨.ops ops (pc+1),k,L',Bs,Ts⟩:=by
   unfold cR;simp only[q0,p1]
  rw[Of] at hh;exact hh _ w' (hF.put p1) IF (hB.trans VY)
end
section
variable {α:Type} {e:Enc α} {T:TypeId} {F:HL} {A:Option Addr} {n cap:Nat} {xs:List α} {Hl:HL}
theorem SlIs.drop(h:SlIs e T xs A cap Hl)(hF:∀x∈Hl,x∈F)(hn:xs.length=n)(hk:k<=n):RowL e T F (slA A k e.w cap) (n-k) (xs.drop k):=by
 subst hn;have hr:=h.toRowL hF;rcases h with ⟨rfl,rfl,rfl,rfl⟩|⟨b,o,full,rfl,rfl,h1,h2,h3⟩
 ·have:k=0:=by simpa using hk
  subst this;exact .zero _
 ·by_cases hc:cap=k
  ·have e1:xs.length-k=0:=by omega
   have e2:xs.drop k=[]:=aa6 (by rw[aaY];omega);rw[e1,e2];exact .zero _
  ·have e1:slA (some ⟨b,o*e.w,none⟩) k e.w cap=some ⟨b,(o+k)*e.w,none⟩:=by
    unfold slA;rw[if_neg hc,UV,gH rfl];simp[tu,acE]
   rw[e1];refine .rows b (o+k) (o+cap) full (0,0) _ _ (hF _ (eb.2 rfl)) (by omega) (by simp) (λ i hi=>?_);have h4:((full.drop o).take xs.length)[k+i]?=xs[k+i]?:=by rw[h3]
   rw[abn,if_pos (by omega),abi] at h4;rw[aaG,aaG,abi,<- h4,Nat.add_assoc]
end
def bs(x:Option Int)(n d:Nat):Prop:=match x with
 |some z=>z=(n:Int)
 |none=>n=d
def bO(L:FL)(x:Option Operand):Option (Option Int):=match x with
 |none=>some none
 |some v=>match dw L v,cN L v with
  |true,.int .i64 z=>some (some z)
  |_,_=>none
theorem vQ{x:Option Operand}{i:Option Int}{a:Act}(he:∀v,dw L v=true->a.eval v=cN L v)(h:bO L x=some i):x.map a.eval=i.map vI:=by
 unfold bO at h;split at h
 ·cases h;rfl
 ·rename_i v;split at h
  ·rename_i z h1 h2;cases h;show some _=some _;rw[he v h1,h2]
  ·cases h
theorem xG{P:Program}{lo mx:Option Int}{l h len:Nat}(o1:bs lo l 0)(o2:bs hi h len)(o3:bs mx m cap)(hx:mx.isSome=true->hi.isSome=true)(h1:l<=h)(h2:h<=m)(h3:m<=cap)(W:World) :
  (Instr.sliceBounds true len cap (lo.map vI) (hi.map vI) (mx.map vI)).run P W=.ok (l,h,m) W:=by
 have b1:∀ (y n:Nat) (c:BoundsCode),n<=y->(Instr.sliceBound (vI (n:Int)) y c).run P W=.ok n W:=by
  intro y n c hny;simp[Instr.sliceBound,asIntOf,hny,go_sem]
 unfold Instr.sliceBounds;cases lo <;> cases hi <;> cases mx <;> simp only[bs] at o1 o2 o3
 all_goals subst o1 o2 o3
 ·simp[abg]
 ·simp at hx
 ·simp[abg,b1,h2]
 ·simp[abg,b1,h2,h3]
 ·simp[abg,b1,h1]
 ·simp at hx
 ·simp[abg,b1,h1,h2]
 ·simp[abg,b1,h1,h2,h3]
def OO(P:Program)(o:Oper)(L:FL):Option (Option Addr×Nat×Nat×Option Int×Option Int×Option Int×Nat):=match o.guard,o.op with
 |none,.slice t x lo hi mx=>match dw L x,P.underlying t,cN L x,bO L lo,bO L hi,bO L mx with
  |true,some (.slice elem),.slice a len cap,some l,some h,some m=>match P.info? elem with
   |some inf=>if m.isSome && h.isNone then none else some (a,len,cap,l,h,m,inf.size)
   |none=>none
  |_,_,_,_,_,_=>none
 |_,_=>none
def Q2(P:Program)(N:Nat)(oo:Option Oper)(s:Cfg):Option (Option Addr×Nat×Nat×Option Int×Option Int×Option Int×Nat):=match oo with
 |some o=>match OO P o s.L,(cD N o.dst undef s.L).isSome with
  |some x,true=>some x
  |_,_=>none
 |none=>none
abbrev AZ(A:Option Addr)(l sz m:Nat):Option Addr:=slA A l sz m
section
variable {r:Option Nat} {P:Program} {N:Nat} {D:List Deferred} {F:HL} {w0:World} {R:HL} {s:Cfg} {Q:Exit->Act->World->Prop}
theorem Ep(h:OO P o L=some (A,n,cap,li,hi,mi,sz)) :
  ∃t x lo h' mx elem inf,o.guard=none/\o.op=.slice t x lo h' mx/\dw L x=true/\P.underlying t=some (.slice elem)/\cN L x=.slice A n cap/\bO L lo=some li/\bO L h'=some hi/\bO L mx=some mi/\P.info? elem=some inf/\inf.size=sz/\(mi.isSome=true->hi.isSome=true):=by
 unfold OO at h;split at h
 case h_2=>cases h
 rename_i t x lo h' mx hg C_;split at h
 case h_2=>cases h
 rename_i elem a len cp l1 l2 l3 h1 h2 h3 h4 h5 h6;split at h
 case h_2=>cases h
 rename_i inf h7;split at h
 case isTrue=>cases h
 rename_i h8;simp only[de,df] at h;obtain⟨e1,e2,e3,e4,e5,e6,e7⟩:=h;subst e1;subst e2;subst e3;subst e4;subst e5;subst e6;refine⟨t,x,lo,h',mx,elem,inf,hg,C_,h1,h2,h3,h4,h5,h6,h7,e7,λ g=>?_⟩;cases l2 with
 |some _=>rfl
 |none=>simp[g] at h8
theorem A5{l h:Nat}(hl:bs li l 0)(hh:bs hi h n)(hm:bs mi m cap)(h1:l<=h)(h2:h<=m)(h3:m<=cap)(hk:RN r P N D F w0 R (cR N (.slice (AZ A l sz m) (h-l) (m-l)) s) Q)
  (hc:Q2 P N (eU s) s=some (A,n,cap,li,hi,mi,sz):=by kernel_rfl):RN r P N D F w0 R s Q:=by
 unfold Q2 at hc;split at hc
 case h_2=>cases hc
 rename_i o q0;split at hc
 case h_2=>cases hc
 rename_i y hv hp;simp only[de] at hc;rw[hc] at hv;clear hc;obtain⟨t,x,lo,h',mx,elem,inf,q1,q2,q3,q4,q5,q6,q6',ads,q7,q8,q9⟩:=Ep hv;refine⟨λ hR aa w hF aT hB=>?_⟩;obtain⟨c,k,L,Bs,Ts⟩:=s;unfold eU at q0;cases c with
 |code c=>cases q0
 |ex c=>cases q0
 |drw _ _=>cases q0
 |ops ops pc=>
  simp only at q0 q3 q5 q6 q6' ads hp hF aT;have oR:ops.toList.drop pc=o::ops.toList.drop (pc+1):=by
   have iN:pc<ops.toList.length:=(bt.1 q0).1;rw[eB iN,(bt.1 q0).2]
  show wpListIn _ _ _ _ _ _ _ _;rw[oR,wpListIn,if_pos (by simp[Region.wanted,q1])];refine⟨λ _ _=>trivial,?_⟩;have key:b9 P o aa w λ u w'=>u=.slice (AZ A l sz m) (h-l) (m-l)/\Rel (ap Bs Ts++F) w'/\Below 0 w w':=by
   have e1:=(hF.eval q3).trans q5;have he:∀v,dw L v=true->aa.eval v=cN L v:=λ v hv=>hF.eval hv;have k1:=xG (P:=P) hl hh hm q9 h1 h2 h3 w;rw[<- vQ he q6,<- vQ he q6',<- vQ he ads] at k1;have k2:=λ W=>cL q7 W;have k3:=λ W=>aE q4 W;unfold b9;have he:(execOp aa.eval o).run P w=.ok (.value (.slice (AZ A l sz m) (h-l) (m-l))) w:=by
    simp[execOp,q2,Instr.sliceAt,Instr.slice,e1,k3,Go.sizeOf,k2,abg,k1,AZ,Go.Proofs.YtjokannbjmndfaaGreatDoor.slA,q8]
   rw[he];exact⟨rfl,aT,jt _ _⟩
  refine dM (by rw[q2];intro c hc;cases hc) key ?_;rintro u w' ⟨rfl,IF,VY⟩;obtain⟨L',p1⟩:=cr hp (.slice (AZ A l sz m) (h-l) (m-l));have hh:=hk.h hR;have Of:cR N (.slice (AZ A l sz m) (h-l) (m-l)) ⟨.ops ops pc,k,L,Bs,Ts⟩=⟨.ops ops (pc+1),k,L',Bs,Ts⟩:=by
   unfold cR;simp only[q0,p1]
  rw[Of] at hh;exact hh _ w' (hF.put p1) IF (hB.trans VY)
end
end Go.Proofs.YtjokannbjmndfaaGreatDoor
